import Derived.Test.YtkcpmclnocmalaaGreatQMM6
set_option linter.unusedVariables false
set_option maxRecDepth 4000
set_option maxHeartbeats 1000000
namespace Go.Proofs.YtkcpmclnocmalaaGreat
open Go.RowKit Go.Front Go.Num
attribute [local go_sem] XW.cell XW.frozen
theorem kK{w w1:World}{b:Nat}{T:TypeId}{c0 c1:Value}(hE:Ext w w1)(h4:w1.heap[b]?=some (.cells #[c0,c1] T (0,0)))(l4:w.heap.size≤b)(hc:#[c0,c1].toList.all dL=true)(x:IH) :
  ∃ w2,w2=stI w1 b x∧One w w1 b T x w2:=by
 have f1:Fin w w1 b (stI w1 b x):=((Fin.start hE (ai h4 hc)).set l4 rfl).set l4 rfl;have m1:aL (·=b) w1 (stI w1 b x):=(aL.setCell w1 ⟨b,0,none⟩ _).trans (aL.setCell _ ⟨b,1,none⟩ _);exact ⟨_,rfl,f1.ext,f1.keep,ax (ax h4 0 _) 1 _,fun k o h1 h3=>m1.blk h1 h3,m1.size⟩
theorem mR{w w1:World}{b:Nat}{T:TypeId}{c0:Bool}{a:Option Addr}{n c:Nat}(hE:Ext w w1)(h4:w1.heap[b]?=some (.cells #[.bool c0,.slice a n c] T (0,0)))(l4:w.heap.size≤b)(v:Bool) :
  ∃ w2,w2=w1.setCell ⟨b,0,none⟩ (.bool v)∧One w w1 b T ⟨v,a,n,c⟩ w2:=by
 have f1:=(Fin.start hE (ai h4 rfl)).set l4 (i:=0) (v:=.bool v) rfl;have m1:=aL.setCell w1 ⟨b,0,none⟩ (.bool v);exact ⟨_,rfl,f1.ext,f1.keep,ax h4 0 _,fun k o h1 h3=>m1.blk h1 h3,m1.size⟩
structure F0 (w w1:World) (b c:Nat) (T S:TypeId) (x y:IH) (w2:World):Prop where
 ext:Ext w w2
 keep:dJ w1 w2
 bx:w2.heap[b]?=some (.cells #[.bool x.neg,.slice x.a x.n x.c] T (0,0))
 cy:w2.heap[c]?=some (.cells #[.bool y.neg,.slice y.a y.n y.c] S (0,0))
 rest:∀ k o,k≠b→k≠c→w1.heap[k]?=some o→w2.heap[k]?=some o
 size:w1.heap.size≤w2.heap.size
theorem ke{w w1:World}{b c:Nat}{T S:TypeId}{c0 c1 d0 d1:Value}(hE:Ext w w1)(h4:w1.heap[b]?=some (.cells #[c0,c1] T (0,0)))(h5:w1.heap[c]?=some (.cells #[d0,d1] S (0,0)))(hne:b≠c)
 (l4:w.heap.size≤b)(l5:w.heap.size≤c)(hc:#[c0,c1].toList.all dL=true)(hd:#[d0,d1].toList.all dL=true)(x y:IH):∃ w2,w2=stI (stI w1 b x) c y∧F0 w w1 b c T S x y w2:=by
 obtain ⟨u,hu,t1⟩:=kK hE h4 l4 hc x;obtain ⟨v,hv,t2⟩:=kK t1.ext (t1.rest _ _ (Ne.symm hne) h5) l5 hd y;subst hu hv;exact ⟨_,rfl,t2.ext,fun _ _ _ _ h=>t2.keep _ _ _ _ (t1.keep _ _ _ _ h),t2.rest _ _ hne t1.bx,t2.bx,fun k o h1 h2 h3=>t2.rest _ _ h2 (t1.rest _ _ h1 h3),nXf t1.size t2.size⟩
theorem wX{w:World}{a:Obj}:(w.alloc a).heap[w.heap.size]?=some a:=heap_alloc_new w a
theorem lx{w:World}{a b:Obj}:((w.alloc a).alloc b).heap[w.heap.size]?=some a:=Ext.al1.block (heap_alloc_new w a)
theorem qf{w:World}{a b:Obj}:((w.alloc a).alloc b).heap[w.heap.size+1]?=some b:=by
 have h:=heap_alloc_new (w.alloc a) b;rw [nXc] at h;exact h
theorem Aa{w:World}{a b c:Obj}:(((w.alloc a).alloc b).alloc c).heap[w.heap.size]?=some a:=Ext.al1.block lx
theorem tu{w:World}{a b c:Obj}:(((w.alloc a).alloc b).alloc c).heap[w.heap.size+1]?=some b:=Ext.al1.block qf
theorem Ez{w:World}{a b c:Obj}:(((w.alloc a).alloc b).alloc c).heap[w.heap.size+2]?=some c:=by
 have h:=qf (w:=w.alloc a) (a:=b) (b:=c);rw [nXc] at h;exact h
theorem Ext.al4{w:World}{a b c d:Obj}:Ext w ((((w.alloc a).alloc b).alloc c).alloc d):=Ext.al3.trans (Ext.alloc _ _)
theorem FF{w:World}{a b c d:Obj}:((((w.alloc a).alloc b).alloc c).alloc d).heap[w.heap.size]?=some a:=Ext.al1.block Aa
theorem FE{w:World}{a b c d:Obj}:((((w.alloc a).alloc b).alloc c).alloc d).heap[w.heap.size+1]?=some b:=Ext.al1.block tu
theorem FD{w:World}{a b c d:Obj}:((((w.alloc a).alloc b).alloc c).alloc d).heap[w.heap.size+2]?=some c:=Ext.al1.block Ez
theorem eA(s:IH)(ds:List Nat)(z:Int)(w:World)(hU:U32 w s.a s.n s.c ds)(hz:z=sg s.neg (val ds))(hn:s.n≤4294967297):ar 94 [s.v] w IH.v (fun s w'=>fG w' s z):=by
 obtain ⟨neg,ao,n,c⟩:=s;simp only at hU hz hn;have HU:=Hi hU;have HZ:=Hi hz;clear hU hz;unfold ar;have hnil:∀ k:Nat,(digs (val ds)).length=k→(k=0↔val ds=0):=fun k hk=>by rw [←hk,nXj,bD]
 have HNil:=Hi hnil;clear hnil;cases neg
 ·go_enter Tryz.func94,Tryz.ntmps94
  go_wp2_with fail
  refine cM (dU ⟨ao,n,c⟩ ds _ (HU.out.ext Ext.al2) hn) fun x1 w1 hE G1=>?_
  obtain ⟨hcw,hfw⟩:=ak hE;have hsw:=hE.size
  (try simp only [nXc] at hsw)
  obtain ⟨hs0,hs1⟩:=zs2 hsw;have hB:=hE.block (heap_alloc_new _ _);rw [nXc] at hB;have HB:Hid (w1.heap[w.heap.size+1]?=some _):=Hi hB;clear hB;have E1:=Hi ((Ext.al2).trans hE);have X1:=Hi hE;obtain ⟨ao1,n1,c1⟩:=x1;have HX:=E1;go_wp2;have hF:=(((Fin.start (L:=w.heap.size+1) HX.out (ai HB.out rfl)).set zo (i:=0) (v:=.bool false) rfl).set zo (i:=1) (v:=.slice ao1 n1 c1) rfl);exact nXa (v:=IH.v ⟨false,ao1,n1,c1⟩) (by simp [results,Tryz.results94,go_sem,ae HB.out]) rfl ⟨⟨false,ao1,n1,c1⟩,rfl,hF.ext,by rw [HZ.out,cP];rfl,by rw [HZ.out,bG];exact hF.keep _ _ _ _ G1.out⟩
 ·by_cases hv:val ds=0
  ·go_enter Tryz.func94,Tryz.ntmps94
   go_wp2_with fail
   refine cM (dU ⟨ao,n,c⟩ ds _ (HU.out.ext Ext.al2) hn) fun x1 w1 hE G1=>?_
   obtain ⟨hcw,hfw⟩:=ak hE;have hsw:=hE.size
   (try simp only [nXc] at hsw)
   obtain ⟨hs0,hs1⟩:=zs2 hsw;have hB:=hE.block (heap_alloc_new _ _);rw [nXc] at hB;have HB:Hid (w1.heap[w.heap.size+1]?=some _):=Hi hB;clear hB;have E1:=Hi ((Ext.al2).trans hE);have X1:=Hi hE;obtain ⟨ao1,n1,c1⟩:=x1;have h0:n1=0:=(HNil.out n1 G1.out.len).2 hv;have HV:=Hi hv;clear hv;subst h0;have HX:=E1;go_wp2;have hF:=(((Fin.start (L:=w.heap.size+1) HX.out (ai HB.out rfl)).set zo (i:=0) (v:=.bool false) rfl).set zo (i:=1) (v:=.slice ao1 0 c1) rfl);exact nXa (v:=IH.v ⟨false,ao1,0,c1⟩) (by simp [results,Tryz.results94,go_sem,ae HB.out]) rfl ⟨⟨false,ao1,0,c1⟩,rfl,hF.ext,by rw [HZ.out,cP,HV.out];rfl,by rw [HZ.out,bG];exact hF.keep _ _ _ _ G1.out⟩
  ·have HV:=Hi hv;clear hv;go_enter Tryz.func94,Tryz.ntmps94
   go_wp2_with fail
   refine cM (dU ⟨ao,n,c⟩ ds _ (HU.out.ext Ext.al2) hn) fun x1 w1 hE G1=>?_
   obtain ⟨hcw,hfw⟩:=ak hE;have hsw:=hE.size
   (try simp only [nXc] at hsw)
   obtain ⟨hs0,hs1⟩:=zs2 hsw;have hB:=hE.block (heap_alloc_new _ _);rw [nXc] at hB;have HB:Hid (w1.heap[w.heap.size+1]?=some _):=Hi hB;clear hB;have E1:=Hi ((Ext.al2).trans hE);have X1:=Hi hE;obtain ⟨ao1,n1,c1⟩:=x1;have h0:n1≠0:=fun h=>HV.out ((HNil.out n1 G1.out.len).1 h)
   have hd:decide (0<n1)=true:=by simp;omega
   have hd':decide (0<(n1:Int))=true:=by simp;omega
   have HX:=E1;go_wp2;have hF:=(((Fin.start (L:=w.heap.size+1) HX.out (ai HB.out rfl)).set zo (i:=0) (v:=.bool true) rfl).set zo (i:=1) (v:=.slice ao1 n1 c1) rfl);exact nXa (v:=IH.v ⟨true,ao1,n1,c1⟩) (by simp [results,Tryz.results94,go_sem,ae HB.out]) rfl ⟨⟨true,ao1,n1,c1⟩,rfl,hF.ext,by rw [HZ.out,cP];have:=HV.out;simp;omega,by rw [HZ.out,bG];exact hF.keep _ _ _ _ G1.out⟩
theorem dg(s:IH)(z:Int)(w:World)(h:fo w s z):ar 94 [s.v] w IH.v (fun s w'=>fG w' s z):=by
 obtain ⟨ds,hU,hz,hn⟩:=h;exact eA s ds z w hU hz zo
theorem nd(n:Int)(w:World)(h1:-9223372036854775808≤n)(h2:n≤9223372036854775807):ar 49 [.int .i64 n] w IH.v (fun s w'=>fG w' s n):=by
 unfold ar;obtain ⟨m,hm⟩:∃ m:Nat,m=n.natAbs:=⟨_,rfl⟩;have hml:m≤9223372036854775808:=zo;have hU:=mz (w.alloc (.cells #[.bool false,.slice none 0 0] 35)) (m % 4294967296) (m / 4294967296) (Nat.mod_lt _ dZ) zo;rw [nXc] at hU;have HU:=Hi hU;have HM:=Hi hm;have hv:val [m % 4294967296,m / 4294967296]=m:=by simp only [val];unfold W32;omega
 have HV:=Hi hv;clear hU hm hv;by_cases hn:n<0
 ·have hw:IntKind.u64.wrap (IntKind.u64.wrap (-(n+1))+1)=m:=by have:=HM.out;rw [bF,bF];omega
  have hw2:-(n+1)+1=(m:Int):=by have:=HM.out;omega
  have HW:=Hi hw;have HW2:=Hi hw2;clear hw hw2;have hb1:(0:Int)≤-(n+1):=zo;go_enter Tryz.func49,Tryz.ntmps49
  go_wp2_with fail
  rw [HW2.out,show (m:Int) % 4294967296=((m % 4294967296:Nat):Int) by omega,show (m:Int) / 4294967296=((m / 4294967296:Nat):Int) by omega];refine Calls.mono (dg ⟨true,some ⟨w.heap.size+1,0,none⟩,2,2⟩ n _ ⟨_,HU.out,by rw [HV.out];show n=-(m:Int);have:=HM.out;omega,by simp only;omega⟩) ?_;rintro e w1 ⟨x1,rfl,hE,g1⟩;have G1:=Hi g1;have HB:=Hi (hE.block lx);obtain ⟨hcw,hfw⟩:=ak hE;have hsw:=hE.size;simp only [nXc] at hsw;have hs1:w.heap.size<w1.heap.size:=zo;have HX:=Hi (Ext.al2.trans hE);clear g1 hE;go_wp2;have hF:=(((Fin.start (L:=w.heap.size) HX.out (ai HB.out rfl)).set zo (i:=0) (v:=.bool x1.neg) rfl).set zo (i:=1) (v:=.slice x1.a x1.n x1.c) rfl);exact nXa (v:=x1.v) (by simp [results,Tryz.results49,go_sem,ae HB.out]) rfl ⟨x1,rfl,hF.ext,G1.out.keep hF.keep⟩
 ·have hmn:(m:Int)=n:=by have:=HM.out;omega
  have Hmn:=Hi hmn;clear hmn;go_enter Tryz.func49,Tryz.ntmps49
  go_wp2_with fail
  rw [←Hmn.out,show (m:Int) % 4294967296=((m % 4294967296:Nat):Int) by omega,show (m:Int) / 4294967296=((m / 4294967296:Nat):Int) by omega];refine Calls.mono (dg ⟨false,some ⟨w.heap.size+1,0,none⟩,2,2⟩ n _ ⟨_,HU.out,by rw [HV.out];show n=(m:Int);exact Hmn.out.symm,by simp only;omega⟩) ?_;rintro e w1 ⟨x1,rfl,hE,g1⟩;have G1:=Hi g1;have HB:=Hi (hE.block lx);obtain ⟨hcw,hfw⟩:=ak hE;have hsw:=hE.size;simp only [nXc] at hsw;have hs1:w.heap.size<w1.heap.size:=zo;have HX:=Hi (Ext.al2.trans hE);clear g1 hE;go_wp2;have hF:=(((Fin.start (L:=w.heap.size) HX.out (ai HB.out rfl)).set zo (i:=0) (v:=.bool x1.neg) rfl).set zo (i:=1) (v:=.slice x1.a x1.n x1.c) rfl);exact nXa (v:=x1.v) (by simp [results,Tryz.results49,go_sem,ae HB.out]) rfl ⟨x1,rfl,hF.ext,G1.out.keep hF.keep⟩
theorem fo.len{w:World}{s:IH}{z:Int}(h:fo w s z):(digs z.natAbs).length≤1073741824:=by
 obtain ⟨ds,h1,h2,h3⟩:=h;rw [h2,bG];have:=aE h1.dig;rw [h1.len] at this;omega
theorem U32.dlt{w:World}{a:Option Addr}{n c X:Nat}(h:U32 w a n c (Num.digs X)):X<W32 ^ n:=by
 have:=h.vle
 rwa [ag] at this
theorem fG.zero{w:World}{s:IH}{z:Int}(h:fG w s z):s.n=0↔z=0:=by
 rw [←h.2.len,nXj,bD];omega
theorem dO(s:IH)(z:Int)(w:World)(h:fo w s z):ar 90 [s.v] w (fun _:Unit=>.int .i64 (bU z 0)) (fun _ _=>True):=by
 obtain ⟨neg,ao,n,c⟩:=s;have HR:=Hi h;clear h;unfold ar;go_enter Tryz.func90,Tryz.ntmps90
 go_wp2_with fail
 refine cM (dg ⟨neg,ao,n,c⟩ z _ (HR.out.ext Ext.al1)) fun x1 w1 hE G1=>?_
 obtain ⟨hcw,hfw⟩:=ak hE;have hsw:=hE.size
 (try simp only [nXc] at hsw)
 have hs0:w.heap.size<w1.heap.size:=zo;have hB:=hE.block (heap_alloc_new _ _);have HB:Hid (w1.heap[w.heap.size]?=some _):=Hi hB;clear hB;have E1:=Hi ((Ext.al1).trans hE);have X1:=Hi hE;obtain ⟨neg1,ao1,n1,c1⟩:=x1;have hz:=G1.out.zero;have hng:neg1=decide (z<0):=G1.out.1;simp only at hz;have HZ:=Hi hz;have HN:=Hi hng;clear hz hng;have HX:=E1
 go_upto_region 2 with fail
 obtain ⟨w2,hw2,T2⟩:=kK HX.out HB.out zo rfl ⟨neg1,ao1,n1,c1⟩
 change Code.wp _ _ _ _ (stI w1 (w.heap.size) ⟨neg1,ao1,n1,c1⟩)
 rw [←hw2];replace HB:=Hi T2.bx;have hK:=Hi T2.keep;have HX:=Hi T2.ext;have hv:=T2.size;have hs0:w.heap.size<w2.heap.size:=zo;have c0:=ae HB.out;have f0:=af HB.out;clear hw2 T2 hcw hfw;by_cases h0:n1=0
 ·have hzz:=HZ.out.1 h0;subst h0;go_wp2
  go_ret
  exact ⟨(),aZ (by first|rw [hzz,dH rfl]|exact (dH rfl).symm),HX.out,trivial⟩
 ·have hzz:z≠0:=fun h=>h0 (HZ.out.2 h)
  have h0':((n1:Int) == 0)=false:=by rw [nXs];omega
  have Hzz:=Hi hzz;clear hzz;cases neg1
  ·have hlt:¬ z<0:=by have:=HN.out;simpa using this.symm
   have Hlt:=Hi hlt;clear hlt;go_wp2
   go_ret
   exact ⟨(),aZ (by have:=Hlt.out;have:=Hzz.out;rw [cX zo]),HX.out,trivial⟩
  ·have hlt:z<0:=by have:=HN.out;simpa using this.symm
   have Hlt:=Hi hlt;clear hlt;go_wp2
   go_ret
   exact ⟨(),aZ (by have:=Hlt.out;rw [dG zo]),HX.out,trivial⟩
theorem oB(s:IH)(z:Int)(w:World)(h:fo w s z):ar 93 [s.v] w IH.v (fun s w'=>fG w' s (-z)):=by
 obtain ⟨neg,ao,n,c⟩:=s;have HR:=Hi h;clear h;unfold ar;go_enter Tryz.func93,Tryz.ntmps93
 go_wp2_with fail
 refine cM (dg ⟨neg,ao,n,c⟩ z _ (HR.out.ext Ext.al2)) fun x1 w1 hE G1=>?_
 obtain ⟨hcw,hfw⟩:=ak hE;have hsw:=hE.size
 (try simp only [nXc] at hsw)
 obtain ⟨hs0,hs1⟩:=zs2 hsw;have hB:=hE.block (heap_alloc_new _ _);rw [nXc] at hB;have HB:Hid (w1.heap[w.heap.size+1]?=some _):=Hi hB;clear hB;have E1:=Hi ((Ext.al2).trans hE);have X1:=Hi hE;have B0:=Hi (X1.out.block lx);obtain ⟨neg1,ao1,n1,cc1⟩:=x1;have HX:=E1
 go_upto_region 2 with fail
 obtain ⟨w2,hw2,T2⟩:=kK HX.out B0.out zo rfl ⟨neg1,ao1,n1,cc1⟩
 change Code.wp _ _ _ _ (stI w1 (w.heap.size) ⟨neg1,ao1,n1,cc1⟩)
 rw [←hw2];replace B0:=Hi T2.bx;replace HB:=Hi (T2.rest _ _ zo HB.out);have hK:=Hi T2.keep;have HX:=Hi T2.ext;have hv:=T2.size;have hs0:w.heap.size<w2.heap.size:=zo;have hs1:w.heap.size+1<w2.heap.size:=zo;have c0:=ae B0.out;have f0:=af B0.out;have c1:=ae HB.out;have f1:=af HB.out;clear hw2 T2 hcw hfw;replace G1:=Hi (G1.out.keep hK.out);have hz:=G1.out.zero;have hng:neg1=decide (z<0):=G1.out.1;simp only at hz;have HZ:=Hi hz;have HN:=Hi hng;clear hz hng;cases neg1
 ·by_cases h0:n1=0
  ·subst h0
   go_upto_region 3 with fail
   obtain ⟨w3,hw3,T3⟩:=mR HX.out B0.out zo false
   change Code.wp _ _ _ _ (w2.setCell ⟨w.heap.size,0,none⟩ (.bool false))
   rw [←hw3];replace B0:=Hi T3.bx;replace HB:=Hi (T3.rest _ _ zo HB.out);replace G1:=Hi (G1.out.keep T3.keep);replace HX:=Hi T3.ext;clear hw3 T3 c0 f0 c1 f1;have c0:=ae B0.out;have c1:=ae HB.out;have f1:=af HB.out;go_wp2;have hF:=(((Fin.start (L:=w.heap.size+1) HX.out (ai HB.out rfl)).set zo (i:=0) (v:=.bool false) rfl).set zo (i:=1) (v:=.slice ao1 0 cc1) rfl);exact nXa (v:=IH.v ⟨false,ao1,0,cc1⟩) (by simp [results,Tryz.results93,go_sem,ae HB.out]) rfl ⟨⟨false,ao1,0,cc1⟩,rfl,hF.ext,by have h1:=HZ.out;have h2:=HN.out;simp at h1 h2 ⊢;omega,by rw [Int.natAbs_neg];exact hF.keep _ _ _ _ G1.out.2⟩
  ·have h0':decide (0<(n1:Int))=true:=by simp;omega
   have h0'':decide (0<n1)=true:=by simp;omega
   go_upto_region 3 with fail
   obtain ⟨w3,hw3,T3⟩:=mR HX.out B0.out zo true
   change Code.wp _ _ _ _ (w2.setCell ⟨w.heap.size,0,none⟩ (.bool true))
   rw [←hw3];replace B0:=Hi T3.bx;replace HB:=Hi (T3.rest _ _ zo HB.out);replace G1:=Hi (G1.out.keep T3.keep);replace HX:=Hi T3.ext;clear hw3 T3 c0 f0 c1 f1;have c0:=ae B0.out;have c1:=ae HB.out;have f1:=af HB.out;go_wp2;have hF:=(((Fin.start (L:=w.heap.size+1) HX.out (ai HB.out rfl)).set zo (i:=0) (v:=.bool true) rfl).set zo (i:=1) (v:=.slice ao1 n1 cc1) rfl);exact nXa (v:=IH.v ⟨true,ao1,n1,cc1⟩) (by simp [results,Tryz.results93,go_sem,ae HB.out]) rfl ⟨⟨true,ao1,n1,cc1⟩,rfl,hF.ext,by have h1:=HZ.out;have h2:=HN.out;simp at h1 h2 ⊢;omega,by rw [Int.natAbs_neg];exact hF.keep _ _ _ _ G1.out.2⟩
 ·go_upto_region 3 with fail
  obtain ⟨w3,hw3,T3⟩:=mR HX.out B0.out zo false
  change Code.wp _ _ _ _ (w2.setCell ⟨w.heap.size,0,none⟩ (.bool false))
  rw [←hw3];replace B0:=Hi T3.bx;replace HB:=Hi (T3.rest _ _ zo HB.out);replace G1:=Hi (G1.out.keep T3.keep);replace HX:=Hi T3.ext;clear hw3 T3 c0 f0 c1 f1;have c0:=ae B0.out;have c1:=ae HB.out;have f1:=af HB.out;go_wp2;have hF:=(((Fin.start (L:=w.heap.size+1) HX.out (ai HB.out rfl)).set zo (i:=0) (v:=.bool false) rfl).set zo (i:=1) (v:=.slice ao1 n1 cc1) rfl);exact nXa (v:=IH.v ⟨false,ao1,n1,cc1⟩) (by simp [results,Tryz.results93,go_sem,ae HB.out]) rfl ⟨⟨false,ao1,n1,cc1⟩,rfl,hF.ext,by have h1:=HZ.out;have h2:=HN.out;simp at h1 h2 ⊢;omega,by rw [Int.natAbs_neg];exact hF.keep _ _ _ _ G1.out.2⟩
theorem eP(s t:IH)(z y:Int)(w:World)(h:fo w s z)(k:fo w t y):ar 46 [s.v,t.v] w IH.v (fun s w'=>fG w' s (z*y)):=by
 obtain ⟨neg,ao,n,c⟩:=s;obtain ⟨neg',bo,m,d⟩:=t;obtain ⟨ds,hU,hz,hn⟩:=h;obtain ⟨es,kU,kz,kn⟩:=k;simp only at hU hz hn kU kz kn;have HU:=Hi hU;have KU:=Hi kU;have HZ:=Hi hz;have KZ:=Hi kz;clear hU kU hz kz;unfold ar;go_enter Tryz.func46,Tryz.ntmps46;go_wp2;refine ah 12 (fun opIx=>match opIx with
  | 9=>sD (val ds*val es)
  | 11=>sI (z*y)
  | _=>.quiet) (fun|11=>[9]|_=>[]) kZ kZ (fun w0 he0 hz0 hc0 hf0=>?_)
 have he1:=Hi he0;replace he0:=Hi ((Ext.al3).trans he0);simp only [pT];refine qQ ?_;refine wps he0 (fun w1 hW hG=>?_) fun x9=>?_
 ·exact spc [.slice ao n c,.slice bo m d] Tryz.func98 (yE ⟨ao,n,c⟩ ⟨bo,m,d⟩ _ _ _ (HU.out.ext hW) (KU.out.ext hW) hn kn)
 refine qZ ?_;refine wps he0 (fun w1 hW hG=>?_) fun x11=>?_
 ·have g9:=gS (hG 9 dZ);exact spc [.agg #[.bool (neg != neg'),x9.v]] Tryz.func94 (eA ⟨neg != neg',x9.a,x9.n,x9.c⟩ _ _ _ g9 (by rw [ag,HZ.out,KZ.out,eh]) (by rw [←g9.len];exact nXf (bI (jc HU.out.vle KU.out.vle)) zo))
 refine qZ ?_;refine aq ?_;intro w1 hI;have G9:=gT (hI.facts 9);have G11:=gT (hI.facts 11);have HX:=Hi (he0.out.trans hI.ext);have hX1:=Hi (he1.out.trans hI.ext);obtain ⟨hcw,hfw⟩:=ak (he1.out.trans hI.ext);have hsw:=(he1.out.trans hI.ext).size
 (try simp only [nXc] at hsw)
 have hs0:w.heap.size<w1.heap.size:=zo;have hs1:w.heap.size+1<w1.heap.size:=zo;have hs2:w.heap.size+2<w1.heap.size:=zo;have hB:=(he1.out.trans hI.ext).block (heap_alloc_new _ _);rw [nXc,nXc] at hB;have HB:Hid (w1.heap[w.heap.size+2]?=some _):=Hi hB;clear hB;clear hI he0 he1 hz0 hc0 hf0;simp only [pD];go_wp2;have hF:=(((Fin.start (L:=w.heap.size+2) HX.out (ai HB.out rfl)).set zo (i:=0) (v:=.bool x11.neg) rfl).set zo (i:=1) (v:=.slice x11.a x11.n x11.c) rfl);exact nXa (v:=x11.v) (by simp [results,Tryz.results46,go_sem,ae HB.out]) rfl ⟨x11,rfl,hF.ext,G11.out.keep hF.keep⟩
theorem vB(s t:IH)(z y:Int)(w:World)(h:fo w s z)(k:fo w t y):ar 91 [s.v,t.v] w IH.v (fun s w'=>fG w' s (Int.gcd z y)):=by
 obtain ⟨neg,ao,n,c⟩:=s;obtain ⟨neg',bo,m,d⟩:=t;obtain ⟨ds,hU,hz,hn⟩:=h;obtain ⟨es,kU,kz,kn⟩:=k;simp only at hU hz hn kU kz kn;have HU:=Hi hU;have KU:=Hi kU;have HG:Hid (((Int.gcd z y:Nat):Int).natAbs=Nat.gcd (val ds) (val es)):=by
  show Nat.gcd _ _=_;rw [hz,kz,bG,bG]
 clear hU kU hz kz;unfold ar;go_enter Tryz.func91,Tryz.ntmps91
 go_wp2_with fail
 refine cM (yX ⟨ao,n,c⟩ ⟨bo,m,d⟩ _ _ _ (HU.out.ext Ext.al3) (KU.out.ext Ext.al3) hn kn) fun x1 w1 hE G1=>?_
 obtain ⟨hcw,hfw⟩:=ak hE;have hsw:=hE.size
 (try simp only [nXc] at hsw)
 obtain ⟨hs0,hs1,hs2⟩:=zs3 hsw;have hB:=hE.block (heap_alloc_new _ _);rw [nXc,nXc] at hB;have HB:Hid (w1.heap[w.heap.size+2]?=some _):=Hi hB;clear hB;have E1:=Hi ((Ext.al3).trans hE);have X1:=Hi hE;have HX:=E1;go_wp2;have hF:=(((Fin.start (L:=w.heap.size+2) HX.out (ai HB.out rfl)).set zo (i:=0) (v:=.bool false) rfl).set zo (i:=1) (v:=.slice x1.a x1.n x1.c) rfl);exact nXa (v:=IH.v ⟨false,x1.a,x1.n,x1.c⟩) (by simp [results,Tryz.results91,go_sem,ae HB.out]) rfl ⟨⟨false,x1.a,x1.n,x1.c⟩,rfl,hF.ext,by simp,by rw [HG.out];exact hF.keep _ _ _ _ G1.out⟩
theorem oC(s t:IH)(z y:Int)(w:World)(h:fo w s z)(k:fo w t y):ar 45 [s.v,t.v] w IH.v (fun s w'=>fG w' s (z+y)):=by
 obtain ⟨neg,ao,n,c⟩:=s;obtain ⟨neg',bo,m,d⟩:=t;have HR:=Hi h;have KR:=Hi k;have hzl:=h.len;have kyl:=k.len;clear h k;unfold ar;go_enter Tryz.func45,Tryz.ntmps45;go_wp2;refine ah 4 (fun opIx=>match opIx with
  | 1=>sI (z)
  | 3=>sI (y)
  | _=>.quiet) (fun _=>[]) kZ kZ (fun w0 he0 hz0 hc0 hf0=>?_)
 have he1:=Hi he0;replace he0:=Hi ((Ext.al3).trans he0);simp only [pT];refine qQ ?_;refine wps he0 (fun w1 hW hG=>?_) fun x1=>?_
 ·exact spc [IH.v ⟨neg,ao,n,c⟩] Tryz.func94 (dg _ _ _ (HR.out.ext hW))
 refine qZ ?_;refine wps he0 (fun w1 hW hG=>?_) fun x3=>?_
 ·exact spc [IH.v ⟨neg',bo,m,d⟩] Tryz.func94 (dg _ _ _ (KR.out.ext hW))
 refine qZ ?_;refine aq ?_;intro w1 hI;have G1:=gT (hI.facts 1);have G3:=gT (hI.facts 3);have HX:=Hi (he0.out.trans hI.ext);have hX1:=Hi (he1.out.trans hI.ext);obtain ⟨hcw,hfw⟩:=ak (he1.out.trans hI.ext);have hsw:=(he1.out.trans hI.ext).size
 (try simp only [nXc] at hsw)
 have hs0:w.heap.size<w1.heap.size:=zo;have hs1:w.heap.size+1<w1.heap.size:=zo;have hs2:w.heap.size+2<w1.heap.size:=zo;have hB:=(he1.out.trans hI.ext).block (heap_alloc_new _ _);rw [nXc,nXc] at hB;have HB:Hid (w1.heap[w.heap.size+2]?=some _):=Hi hB;clear hB;clear hI he0 he1 hz0 hc0 hf0;simp only [pD];have B0:=Hi (hX1.out.block Aa);have B1:=Hi (hX1.out.block tu);obtain ⟨neg1,ao1,n1,cc1⟩:=x1;obtain ⟨neg2,ao2,n2,cc2⟩:=x3
 go_upto_region 2 with fail
 obtain ⟨w2,hw2,T2⟩:=ke HX.out B0.out B1.out zo zo zo rfl rfl ⟨neg1,ao1,n1,cc1⟩ ⟨neg2,ao2,n2,cc2⟩
 change Code.wp _ _ _ _ (stI (stI w1 (w.heap.size) ⟨neg1,ao1,n1,cc1⟩) (w.heap.size+1) ⟨neg2,ao2,n2,cc2⟩)
 rw [←hw2];replace B0:=Hi T2.bx;replace B1:=Hi T2.cy;replace HB:=Hi (T2.rest _ _ zo zo HB.out);have hK:=Hi T2.keep;have HX:=Hi T2.ext;have hv:=T2.size;have hs0:w.heap.size<w2.heap.size:=zo;have hs1:w.heap.size+1<w2.heap.size:=zo;have hs2:w.heap.size+2<w2.heap.size:=zo;have c0:=ae B0.out;have f0:=af B0.out;have c1:=ae B1.out;have f1:=af B1.out;have c2:=ae HB.out;have f2:=af HB.out;clear hw2 T2 hcw hfw;replace G1:=Hi (G1.out.keep hK.out);replace G3:=Hi (G3.out.keep hK.out);have hn1:n1≤1073741824:=by have:(digs z.natAbs).length=n1:=G1.out.2.len;omega
 have hn2:n2≤1073741824:=by have:(digs y.natAbs).length=n2:=G3.out.2.len;omega
 have hg1:z=sg neg1 z.natAbs:=by rw [show neg1=decide (z<0) from G1.out.1,fj]
 have hg2:y=sg neg2 y.natAbs:=by rw [show neg2=decide (y<0) from G3.out.1,fj]
 have HZ:=Hi hg1;have KZ:=Hi hg2;obtain ⟨X,hX⟩:∃ X,X=z.natAbs:=⟨_,rfl⟩;obtain ⟨Y,hY⟩:∃ Y,Y=y.natAbs:=⟨_,rfl⟩;have HU:Hid (U32 w2 ao1 n1 cc1 (digs X)):=by rw [hX];exact G1.out.2
 have KU:Hid (U32 w2 ao2 n2 cc2 (digs Y)):=by rw [hY];exact G3.out.2
 rw [←hX] at HZ;rw [←hY] at KZ;clear hg1 hg2 hX hY G1 G3 hzl kyl;by_cases hs:neg1=neg2
 ·subst hs;have hb:(neg1 == neg1)=true:=by simp
  go_wp2;refine ah 9 (fun opIx=>match opIx with
   | 6=>sD (X+Y)
   | 8=>sI (z+y)
   | _=>.quiet) (fun|8=>[6]|_=>[]) kZ kZ (fun w0 he0 hz0 hc0 hf0=>?_)
  have he1:=Hi he0;replace he0:=Hi ((HX.out).trans he0);simp only [pT];refine qQ ?_;refine bN rfl rfl (fun w1 hw1 hG=>?_) (fun x6=>?_)
  ·have hW:=he0.out.trans hw1;exact spc [.slice ao1 n1 cc1,.slice ao2 n2 cc2] Tryz.func95 (by have h:=Ad ⟨ao1,n1,cc1⟩ ⟨ao2,n2,cc2⟩ _ _ _ (HU.out.ext (he1.out.trans hw1)) (KU.out.ext (he1.out.trans hw1)) hn1 hn2;rw [ag,ag] at h;exact h)
  refine qZ ?_;refine wps he0 (fun w1 hW hG=>?_) fun x8=>?_
  ·have g6:=gS (hG 6 dZ);exact spc [IH.v ⟨neg1,x6.a,x6.n,x6.c⟩] Tryz.func94 (eA ⟨neg1,x6.a,x6.n,x6.c⟩ _ _ _ g6 (by rw [ag,HZ.out,KZ.out,kt]) (by rw [←g6.len];exact nXf (bI (AW HU.out.dlt KU.out.dlt)) zo))
  refine qZ ?_;refine aq ?_;intro w1 hI;have G6:=gT (hI.facts 6);have G8:=gT (hI.facts 8);have HX:=Hi (he0.out.trans hI.ext);have hX1:=Hi (he1.out.trans hI.ext);obtain ⟨hcw,hfw⟩:=ak (he1.out.trans hI.ext);have hsw:=(he1.out.trans hI.ext).size
  (try simp only [nXc] at hsw)
  have hs0:w.heap.size<w1.heap.size:=zo;have hs1:w.heap.size+1<w1.heap.size:=zo;have hs2:w.heap.size+2<w1.heap.size:=zo;replace HB:=Hi ((he1.out.trans hI.ext).block HB.out);have cR:=ae HB.out;have fR:=af HB.out;have cR2:=ae (B:=w.heap.size+1+1) HB.out;have fR2:=af (B:=w.heap.size+1+1) HB.out;clear hI he0 he1 hz0 hc0 hf0;simp only [pD];go_wp2;have hF:=(((Fin.start (L:=w.heap.size+2) HX.out (ai HB.out rfl)).set zo (i:=0) (v:=.bool x8.neg) rfl).set zo (i:=1) (v:=.slice x8.a x8.n x8.c) rfl);exact nXa (v:=x8.v) (by simp [results,Tryz.results45,go_sem,ae HB.out]) rfl ⟨x8,rfl,hF.ext,G8.out.keep hF.keep⟩
 ·have hb:(neg1 == neg2)=false:=by simpa using hs
  have E2:=HX
  go_wp2_with fail
  refine cM (j0 ⟨ao1,n1,cc1⟩ ⟨ao2,n2,cc2⟩ _ _ _ HU.out KU.out hn1 hn2) fun x3 w3 hE G3=>?_
  obtain ⟨hcw,hfw⟩:=ak hE;have hsw:=hE.size
  (try simp only [nXc] at hsw)
  have hs0:w.heap.size<w3.heap.size:=zo;have hs1:w.heap.size+1<w3.heap.size:=zo;have hs2:w.heap.size+2<w3.heap.size:=zo;refine mV3 hE ?_ B0 B1 HB;clear B0 B1 HB;intro B0 B1 HB;have cR:=ae HB.out;have fR:=af HB.out;have cR2:=ae (B:=w.heap.size+1+1) HB.out;have fR2:=af (B:=w.heap.size+1+1) HB.out;have E3:=Hi ((HX.out).trans hE);have X3:=Hi hE;rw [ag,ag];have hX3:=E3;by_cases hlt:X<Y
  ·rw [dG zo];go_wp2;refine ah 9 (fun opIx=>match opIx with
    | 6=>sD (Y-X)
    | 8=>sI (z+y)
    | _=>.quiet) (fun|8=>[6]|_=>[]) kZ kZ (fun w0 he0 hz0 hc0 hf0=>?_)
   have he1:=Hi he0;replace he0:=Hi ((E3.out).trans he0);simp only [pT];refine qQ ?_;refine bN rfl rfl (fun w1 hw1 hG=>?_) (fun x6=>?_)
   ·have hW:=he0.out.trans hw1;exact spc [.slice ao2 n2 cc2,.slice ao1 n1 cc1] Tryz.func97 (by have h:=qB ⟨ao2,n2,cc2⟩ ⟨ao1,n1,cc1⟩ _ _ _ (KU.out.ext (X3.out.trans (he1.out.trans hw1))) (HU.out.ext (X3.out.trans (he1.out.trans hw1))) hn2 hn1 (by rw [ag,ag];omega);rw [ag,ag] at h;exact h)
   refine qZ ?_;refine wps he0 (fun w1 hW hG=>?_) fun x8=>?_
   ·have g6:=gS (hG 6 dZ);exact spc [IH.v ⟨neg2,x6.a,x6.n,x6.c⟩] Tryz.func94 (eA ⟨neg2,x6.a,x6.n,x6.c⟩ _ _ _ g6 (by rw [ag,HZ.out,KZ.out,nV hs hlt]) (by rw [←g6.len];exact nXf (bI (nYl (Nat.sub_le _ _) KU.out.dlt)) zo))
   refine qZ ?_;refine aq ?_;intro w1 hI;have G6:=gT (hI.facts 6);have G8:=gT (hI.facts 8);have HX:=Hi (he0.out.trans hI.ext);have hX1:=Hi (he1.out.trans hI.ext);obtain ⟨hcw,hfw⟩:=ak (he1.out.trans hI.ext);have hsw:=(he1.out.trans hI.ext).size
   (try simp only [nXc] at hsw)
   have hs0:w.heap.size<w1.heap.size:=zo;have hs1:w.heap.size+1<w1.heap.size:=zo;have hs2:w.heap.size+2<w1.heap.size:=zo;replace B0:=Hi ((he1.out.trans hI.ext).block B0.out);replace B1:=Hi ((he1.out.trans hI.ext).block B1.out);replace HB:=Hi ((he1.out.trans hI.ext).block HB.out);have cR:=ae HB.out;have fR:=af HB.out;have cR2:=ae (B:=w.heap.size+1+1) HB.out;have fR2:=af (B:=w.heap.size+1+1) HB.out;clear hI he0 he1 hz0 hc0 hf0;simp only [pD];go_wp2;have hF:=(((Fin.start (L:=w.heap.size+2) HX.out (ai HB.out rfl)).set zo (i:=0) (v:=.bool x8.neg) rfl).set zo (i:=1) (v:=.slice x8.a x8.n x8.c) rfl);exact nXa (v:=x8.v) (by simp [results,Tryz.results45,go_sem,ae HB.out]) rfl ⟨x8,rfl,hF.ext,G8.out.keep hF.keep⟩
  ·have hge:decide (0≤bU (X:Nat) (Y:Nat))=true:=by
    rcases Nat.lt_or_eq_of_le (Nat.not_lt.1 hlt) with h|h
    ·rw [cX zo];rfl
    ·rw [dH zo];rfl
   go_wp2;refine ah 9 (fun opIx=>match opIx with
    | 6=>sD (X-Y)
    | 8=>sI (z+y)
    | _=>.quiet) (fun|8=>[6]|_=>[]) kZ kZ (fun w0 he0 hz0 hc0 hf0=>?_)
   have he1:=Hi he0;replace he0:=Hi ((E3.out).trans he0);simp only [pT];refine qQ ?_;refine bN rfl rfl (fun w1 hw1 hG=>?_) (fun x6=>?_)
   ·have hW:=he0.out.trans hw1;exact spc [.slice ao1 n1 cc1,.slice ao2 n2 cc2] Tryz.func97 (by have h:=qB ⟨ao1,n1,cc1⟩ ⟨ao2,n2,cc2⟩ _ _ _ (HU.out.ext (X3.out.trans (he1.out.trans hw1))) (KU.out.ext (X3.out.trans (he1.out.trans hw1))) hn1 hn2 (by rw [ag,ag];omega);rw [ag,ag] at h;exact h)
   refine qZ ?_;refine wps he0 (fun w1 hW hG=>?_) fun x8=>?_
   ·have g6:=gS (hG 6 dZ);exact spc [IH.v ⟨neg1,x6.a,x6.n,x6.c⟩] Tryz.func94 (eA ⟨neg1,x6.a,x6.n,x6.c⟩ _ _ _ g6 (by rw [ag,HZ.out,KZ.out,nW hs zo]) (by rw [←g6.len];exact nXf (bI (nYl (Nat.sub_le _ _) HU.out.dlt)) zo))
   refine qZ ?_;refine aq ?_;intro w1 hI;have G6:=gT (hI.facts 6);have G8:=gT (hI.facts 8);have HX:=Hi (he0.out.trans hI.ext);have hX1:=Hi (he1.out.trans hI.ext);obtain ⟨hcw,hfw⟩:=ak (he1.out.trans hI.ext);have hsw:=(he1.out.trans hI.ext).size
   (try simp only [nXc] at hsw)
   have hs0:w.heap.size<w1.heap.size:=zo;have hs1:w.heap.size+1<w1.heap.size:=zo;have hs2:w.heap.size+2<w1.heap.size:=zo;replace B0:=Hi ((he1.out.trans hI.ext).block B0.out);replace B1:=Hi ((he1.out.trans hI.ext).block B1.out);replace HB:=Hi ((he1.out.trans hI.ext).block HB.out);have cR:=ae HB.out;have fR:=af HB.out;have cR2:=ae (B:=w.heap.size+1+1) HB.out;have fR2:=af (B:=w.heap.size+1+1) HB.out;clear hI he0 he1 hz0 hc0 hf0;simp only [pD];go_wp2;have hF:=(((Fin.start (L:=w.heap.size+2) HX.out (ai HB.out rfl)).set zo (i:=0) (v:=.bool x8.neg) rfl).set zo (i:=1) (v:=.slice x8.a x8.n x8.c) rfl);exact nXa (v:=x8.v) (by simp [results,Tryz.results45,go_sem,ae HB.out]) rfl ⟨x8,rfl,hF.ext,G8.out.keep hF.keep⟩
abbrev II(p:IH×IH):Value:=.tuple #[p.1.v,p.2.v,.int .i64 0]
theorem kX(s t:IH)(z y:Int)(w:World)(h:fo w s z)(k:fo w t y)(hy:y≠0)(hd:y ∣ z):ar 92 [s.v,t.v] w II (fun p w'=>fG w' p.1 (z / y)∧fG w' p.2 0):=by
 obtain ⟨neg,ao,n,c⟩:=s;obtain ⟨neg',bo,m,d⟩:=t;have HR:=Hi h;have KR:=Hi k;have hzl:=h.len;have kyl:=k.len;have HY:=Hi hy;have HD:=Hi hd;clear h k hy hd;unfold ar;go_enter Tryz.func92,Tryz.ntmps92;go_wp2;refine ah 4 (fun opIx=>match opIx with
  | 1=>sI (z)
  | 3=>sI (y)
  | _=>.quiet) (fun _=>[]) kZ kZ (fun w0 he0 hz0 hc0 hf0=>?_)
 have he1:=Hi he0;replace he0:=Hi ((Ext.al4).trans he0);simp only [pT];refine qQ ?_;refine wps he0 (fun w1 hW hG=>?_) fun x1=>?_
 ·exact spc [IH.v ⟨neg,ao,n,c⟩] Tryz.func94 (dg _ _ _ (HR.out.ext hW))
 refine qZ ?_;refine wps he0 (fun w1 hW hG=>?_) fun x3=>?_
 ·exact spc [IH.v ⟨neg',bo,m,d⟩] Tryz.func94 (dg _ _ _ (KR.out.ext hW))
 refine qZ ?_;refine aq ?_;intro w1 hI;have G1:=gT (hI.facts 1);have G3:=gT (hI.facts 3);have HX:=Hi (he0.out.trans hI.ext);have hX1:=Hi (he1.out.trans hI.ext);obtain ⟨hcw,hfw⟩:=ak (he1.out.trans hI.ext);have hsw:=(he1.out.trans hI.ext).size
 (try simp only [nXc] at hsw)
 have hs0:w.heap.size<w1.heap.size:=zo;have hs1:w.heap.size+1<w1.heap.size:=zo;have hs2:w.heap.size+2<w1.heap.size:=zo;have hs3:w.heap.size+3<w1.heap.size:=zo;have hB:=(he1.out.trans hI.ext).block (heap_alloc_new _ _);rw [nXc,nXc,nXc] at hB;have HB:Hid (w1.heap[w.heap.size+3]?=some _):=Hi hB;clear hB;clear hI he0 he1 hz0 hc0 hf0;simp only [pD];have B0:=Hi (hX1.out.block FF);have B1:=Hi (hX1.out.block FE);have B2:=Hi (hX1.out.block FD);obtain ⟨neg1,ao1,n1,cc1⟩:=x1;obtain ⟨neg2,ao2,n2,cc2⟩:=x3
 go_upto_region 2 with fail
 obtain ⟨w2,hw2,T2⟩:=ke HX.out B0.out B1.out zo zo zo rfl rfl ⟨neg1,ao1,n1,cc1⟩ ⟨neg2,ao2,n2,cc2⟩
 change Code.wp _ _ _ _ (stI (stI w1 (w.heap.size) ⟨neg1,ao1,n1,cc1⟩) (w.heap.size+1) ⟨neg2,ao2,n2,cc2⟩)
 rw [←hw2];replace B0:=Hi T2.bx;replace B1:=Hi T2.cy;replace HB:=Hi (T2.rest _ _ zo zo HB.out);replace B2:=Hi (T2.rest _ _ zo zo B2.out);have hK:=Hi T2.keep;have HX:=Hi T2.ext;have hv:=T2.size;have hs0:w.heap.size<w2.heap.size:=zo;have hs1:w.heap.size+1<w2.heap.size:=zo;have hs2:w.heap.size+2<w2.heap.size:=zo;have hs3:w.heap.size+3<w2.heap.size:=zo;have c0:=ae B0.out;have f0:=af B0.out;have c1:=ae B1.out;have f1:=af B1.out;have c2:=ae HB.out;have f2:=af HB.out;have c3:=ae B2.out;have f3:=af B2.out;clear hw2 T2 hcw hfw;replace G1:=Hi (G1.out.keep hK.out);replace G3:=Hi (G3.out.keep hK.out);have hn1:n1≤1073741824:=by have:(digs z.natAbs).length=n1:=G1.out.2.len;omega
 have hn2:n2≤1073741824:=by have:(digs y.natAbs).length=n2:=G3.out.2.len;omega
 have hg1:z=sg neg1 z.natAbs:=by rw [show neg1=decide (z<0) from G1.out.1,fj]
 have hg2:y=sg neg2 y.natAbs:=by rw [show neg2=decide (y<0) from G3.out.1,fj]
 have HZ:=Hi hg1;have KZ:=Hi hg2;have HN2:Hid (neg2=decide (y<0)):=G3.out.1;clear hg1 hg2
 go_wp2_with fail
 refine cM (li ⟨ao1,n1,cc1⟩ ⟨ao2,n2,cc2⟩ _ _ _ G1.out.2 G3.out.2 hn1 hn2 (by rw [ag];have:=HY.out;omega)) fun x3 w3 hE G3=>?_
 obtain ⟨hcw,hfw⟩:=ak hE;have hsw:=hE.size
 (try simp only [nXc] at hsw)
 have hs0:w.heap.size<w3.heap.size:=zo;have hs1:w.heap.size+1<w3.heap.size:=zo;have hs2:w.heap.size+2<w3.heap.size:=zo;have hs3:w.heap.size+3<w3.heap.size:=zo;refine mV4 hE ?_ B0 B1 HB B2;clear B0 B1 HB B2;intro B0 B1 HB B2;have cR:=ae HB.out;have fR:=af HB.out;have E3:=Hi ((HX.out).trans hE);have X3:=Hi hE;obtain ⟨⟨qa,qn,qc⟩,⟨ra,rn,rc⟩⟩:=x3;obtain ⟨g1,g2⟩:=G3.out;rw [ag,ag] at g1 g2;have hr0:z.natAbs % y.natAbs=0:=Nat.mod_eq_zero_of_dvd (Int.natAbs_dvd_natAbs.2 HD.out);rw [hr0,aS] at g2;have hrn:rn=0:=g2.len.symm;subst hrn;have J1:=Hi g1;have J2:=Hi g2;simp only at J1 J2;have hv':z / y=sg (neg1 != neg2) (z.natAbs / y.natAbs):=by
  obtain ⟨q,hq⟩:=HD.out;have hy:=HY.out;have e1:z / y=q:=by rw [hq];exact Int.mul_ediv_cancel_left _ hy
  have e2:z.natAbs / y.natAbs=q.natAbs:=by rw [hq,Int.natAbs_mul];exact Nat.mul_div_cancel_left _ zo
  rw [e1,e2];have h1:neg1=decide (z<0):=G1.out.1;have h2:neg2=decide (y<0):=HN2.out;have h3:(neg1 != neg2)=decide (q<0)∨q=0:=by
   rw [h1,h2,hq];rcases Int.lt_trichotomy q 0 with hq0|hq0|hq0
   ·left
    rcases Int.lt_or_gt_of_ne hy with h|h
    ·have:=Int.mul_pos_of_neg_of_neg h hq0;simp [hq0,h];omega
    ·have:=Int.mul_neg_of_pos_of_neg h hq0;simp [hq0,this];omega
   ·exact Or.inr hq0
   ·left
    rcases Int.lt_or_gt_of_ne hy with h|h
    ·have:=Int.mul_neg_of_neg_of_pos h hq0;simp [h,this];omega
    ·have:=Int.mul_pos h hq0;have e:decide (y*q<0)=false:=by simp;omega
     have e':decide (y<0)=false:=by simp;omega
     have e'':decide (q<0)=false:=by simp;omega
     rw [e,e',e''];rfl
  rcases h3 with h3|h3
  ·rw [h3,fj]
  ·rw [h3];unfold sg;split <;> rfl
 have HV:=Hi hv';clear g1 g2 hr0 hv' G3 G1;have hq1:qn≤4294967297:=by
  have e1:(digs (z.natAbs / y.natAbs)).length=qn:=J1.out.len;have:=bT (Nat.div_le_self z.natAbs y.natAbs);omega
 simp only [DM,SH.v];cases neg1
 all_goals
  go_wp2_with fail
  refine cM (eA ⟨_,qa,qn,qc⟩ _ (z / y) _ J1.out (by rw [ag,HV.out];cases neg2 <;> rfl) hq1) fun x4 w4 hE G4=>?_
  obtain ⟨hcw,hfw⟩:=ak hE;have hsw:=hE.size
  (try simp only [nXc] at hsw)
  have hs0:w.heap.size<w4.heap.size:=zo;have hs1:w.heap.size+1<w4.heap.size:=zo;have hs2:w.heap.size+2<w4.heap.size:=zo;have hs3:w.heap.size+3<w4.heap.size:=zo;refine mV4 hE ?_ B0 B1 HB B2;clear B0 B1 HB B2;intro B0 B1 HB B2;have cR:=ae HB.out;have fR:=af HB.out;have E4:=Hi ((E3.out).trans hE);have X4:=Hi hE;have HX:=E4;go_wp2;obtain ⟨w5,hw5,T5⟩:=ke HX.out B2.out HB.out zo zo zo rfl rfl x4 ⟨false,ra,0,rc⟩
  change bodyPost _ _ _ _ _ (stI (stI w4 (w.heap.size+2) x4) (w.heap.size+3) ⟨false,ra,0,rc⟩)
  rw [←hw5];exact nXa (v:=II (x4,⟨false,ra,0,rc⟩)) (by simp [results,Tryz.results92,go_sem,ae T5.bx,ae T5.cy]) rfl ⟨(x4,⟨false,ra,0,rc⟩),rfl,T5.ext,G4.out.keep T5.keep,rfl,by show U32 w5 ra 0 rc (digs 0);rw [aS];exact T5.keep _ _ _ _ (J2.out.ext X4.out)⟩
abbrev PP(p:IH×IH):Value:=.tuple #[p.1.v,p.2.v]
def FG(w:World)(p:IH×IH)(q:Rat):Prop:=∃ z d:Int,fo w p.1 z∧fo w p.2 d∧0<d∧q=mkRat z d.natAbs∧p.1.n≤134217728∧p.2.n≤134217728
theorem dW(s:RH)(q:Rat)(w:World)(h:aX w s q):ar 43 [s.v] w PP (fun p w'=>FG w' p q):=by
 obtain ⟨neg,ao,n,c,bo,m,d⟩:=s;obtain ⟨ds,es,hU,kU,hq,hn,hm⟩:=h;simp only at hU kU hq hn hm;have HU:=Hi hU;have KU:=Hi kU;have HQ:=Hi hq;clear hU kU hq;unfold ar;go_enter Tryz.func43,Tryz.ntmps43
 go_wp2_with fail
 refine cM (aU ⟨bo,m,d⟩ es _ (KU.out.ext Ext.al3) (by simp only;omega)) fun x1 w1 hE G1=>?_
 obtain ⟨hcw,hfw⟩:=ak hE;have hsw:=hE.size
 (try simp only [nXc] at hsw)
 obtain ⟨hs0,hs1,hs2⟩:=zs3 hsw;have hB:=hE.block (heap_alloc_new _ _);rw [nXc,nXc] at hB;have HB:Hid (w1.heap[w.heap.size+2]?=some _):=Hi hB;clear hB;have E1:=Hi ((Ext.al3).trans hE);have X1:=Hi hE;have B0:=Hi (X1.out.block Aa);have B1:=Hi (X1.out.block tu);obtain ⟨da,dn,dc⟩:=x1;have hl:(digs (val es)).length=dn:=G1.out.len;have hz:dn=0↔val es=0:=by rw [←hl,nXj,bD]
 have HL:=Hi hl;have HZ:=Hi hz;clear hl hz;simp only [SH.v];by_cases h0:dn=0
 ·have hv:=HZ.out.1 h0;subst h0;have HV:=Hi hv;clear hv;go_wp2;obtain ⟨w5,hw5,T5⟩:=ke E1.out B1.out HB.out zo zo zo rfl rfl ⟨false,none,0,0⟩ ⟨false,some ⟨w1.heap.size+1,0,none⟩,1,1⟩;have hsz:w5.heap.size=w1.heap.size:=by rw [hw5];simp [stI,World.setCell]
  have hU1:=eE (w5.alloc (.cells #[.bool false,.slice da 0 dc] 35)) 1 dZ;rw [nXc,hsz] at hU1
  change bodyPost _ _ _ _ _ (((stI (stI w1 (w.heap.size+1) ⟨false,none,0,0⟩) (w.heap.size+2) ⟨false,some ⟨w1.heap.size+1,0,none⟩,1,1⟩).alloc (.cells #[.bool false,.slice da 0 dc] 35)).alloc (.cells #[.int .u32 1] 124))
  rw [←hw5];refine nXa (v:=PP (⟨false,none,0,0⟩,⟨false,some ⟨w1.heap.size+1,0,none⟩,1,1⟩)) (by simp [results,Tryz.results43,go_sem,ae (Ext.al2.block T5.bx),ae (Ext.al2.block T5.cy)]) rfl ⟨(⟨false,none,0,0⟩,⟨false,some ⟨w1.heap.size+1,0,none⟩,1,1⟩),rfl,T5.ext.trans Ext.al2,0,1,⟨[],bP _,by simp [sg,val],by simp⟩,⟨[1],hU1,by simp [sg,val],by simp⟩,dZ,?_,by simp,by simp⟩;rw [HQ.out,HV.out,Rat.mkRat_zero,Rat.zero_mkRat]
 ·have h0':((dn:Int) == 0)=false:=by rw [nXs];omega
  have hv:val es≠0:=fun h=>h0 (HZ.out.2 h)
  have HV:=Hi hv;clear hv;go_wp2;obtain ⟨w2,hw2⟩:∃ w2,w2=w1.alloc (.cells #[.bool false,.slice da dn dc] 35):=⟨_,rfl⟩;have hE2:Ext w1 w2:=by rw [hw2];exact Ext.al1
  have B3:Hid (w2.heap[w1.heap.size]?=some (.cells #[.bool false,.slice da dn dc] 35 (0,0))):=by rw [hw2];exact wX
  rw [←hw2];replace B0:=Hi (hE2.block B0.out);replace B1:=Hi (hE2.block B1.out);replace HB:=Hi (hE2.block HB.out);have c0:=ae B0.out;have c1:=ae B1.out;have c2:=ae HB.out;have c3:=ae B3.out;have f1:=af B1.out;have f2:=af HB.out;have HE2:=Hi hE2;clear hw2 hE2 hcw hfw
  go_region
  go_wp2;obtain ⟨w5,hw5,T5⟩:=ke (E1.out.trans HE2.out) B1.out HB.out zo zo zo rfl rfl ⟨neg,ao,n,c⟩ ⟨false,da,dn,dc⟩
  change bodyPost _ _ _ _ _ (stI (stI w2 (w.heap.size+1) ⟨neg,ao,n,c⟩) (w.heap.size+2) ⟨false,da,dn,dc⟩).drew
  rw [←hw5];have hdn:dn≤134217728:=by
   have e1:=HL.out;have e2:=aE KU.out.dig;rw [KU.out.len] at e2;omega
  refine nXa (v:=PP (⟨neg,ao,n,c⟩,⟨false,da,dn,dc⟩)) (by simp [results,Tryz.results43,go_sem,ae ((Ext.drew _).block T5.bx),ae ((Ext.drew _).block T5.cy)]) rfl ⟨(⟨neg,ao,n,c⟩,⟨false,da,dn,dc⟩),rfl,T5.ext.trans (Ext.drew _),sg neg (val ds),(val es:Nat),⟨ds,(T5.keep _ _ _ _ (HU.out.ext (E1.out.trans HE2.out))).ext (Ext.drew _),rfl,by simp only;omega⟩,⟨digs (val es),(T5.keep _ _ _ _ (G1.out.ext HE2.out)).ext (Ext.drew _),by rw [ag];rfl,by simp only;omega⟩,by have:=HV.out;omega,?_,hn,hdn⟩;rw [HQ.out];rfl
theorem Ext.nw1{w:World}{a:Obj}:Ext w (w.alloc a):=Ext.alloc _ _
theorem Ext.nw2{w:World}{a b:Obj}:Ext w ((w.alloc a).alloc b):=Ext.nw1.trans Ext.nw1
def stR(w:World)(b:Nat)(x:RH):World:=((w.setCell ⟨b,0,none⟩ (.bool x.neg)).setCell ⟨b,1,none⟩ (.slice x.a x.n x.c)).setCell ⟨b,2,none⟩ (.slice x.b x.m x.d)
structure F3 (w w1:World) (b:Nat) (T:TypeId) (x:RH) (w2:World):Prop where
 ext:Ext w w2
 keep:dJ w1 w2
 bx:w2.heap[b]?=some (.cells #[.bool x.neg,.slice x.a x.n x.c,.slice x.b x.m x.d] T (0,0))
 rest:∀ k o,k≠b→w1.heap[k]?=some o→w2.heap[k]?=some o
 size:w2.heap.size=w1.heap.size
theorem kI{w w1:World}{b:Nat}{T:TypeId}{c0 c1 c2:Value}(hE:Ext w w1)(h4:w1.heap[b]?=some (.cells #[c0,c1,c2] T (0,0)))(l4:w.heap.size≤b)(hc:#[c0,c1,c2].toList.all dL=true)(x:RH) :
  ∃ w2,w2=stR w1 b x∧F3 w w1 b T x w2:=by
 have f1:Fin w w1 b (stR w1 b x):=(((Fin.start hE (ai h4 hc)).set l4 rfl).set l4 rfl).set l4 rfl;have m1:aL (·=b) w1 (stR w1 b x):=((aL.setCell w1 ⟨b,0,none⟩ _).trans (aL.setCell _ ⟨b,1,none⟩ _)).trans (aL.setCell _ ⟨b,2,none⟩ _);exact ⟨_,rfl,f1.ext,f1.keep,ax (ax (ax h4 0 _) 1 _) 2 _,fun k o h1 h3=>m1.blk h1 h3,by simp [stR,World.setCell]⟩
theorem nY(z d:Int)(hz:z≠0)(hd:d≠0):(z / ((Int.gcd z d:Nat):Int)).natAbs=z.natAbs / Nat.gcd d.natAbs z.natAbs∧(d / ((Int.gcd z d:Nat):Int)).natAbs=d.natAbs / Nat.gcd d.natAbs z.natAbs∧decide (z / ((Int.gcd z d:Nat):Int)<0)=decide (z<0)∧decide (d / ((Int.gcd z d:Nat):Int)<0)=decide (d<0):=by
 have hg:0<Nat.gcd z.natAbs d.natAbs:=Nat.gcd_pos_of_pos_left _ zo;have key:∀ x:Int,((Nat.gcd z.natAbs d.natAbs:Nat):Int) ∣ x→(x / ((Int.gcd z d:Nat):Int)).natAbs=x.natAbs / Nat.gcd z.natAbs d.natAbs∧decide (x / ((Int.gcd z d:Nat):Int)<0)=decide (x<0):=by
  intro x hx;show (x / ((Nat.gcd z.natAbs d.natAbs:Nat):Int)).natAbs=_∧decide (x / ((Nat.gcd z.natAbs d.natAbs:Nat):Int)<0)=_;obtain ⟨g,hgg⟩:∃ g,g=Nat.gcd z.natAbs d.natAbs:=⟨_,rfl⟩;rw [←hgg] at hg hx ⊢;obtain ⟨q,rfl⟩:=hx;rw [Int.mul_ediv_cancel_left _ zo];refine ⟨by rw [Int.natAbs_mul,nYi,Nat.mul_div_cancel_left _ hg],?_⟩;by_cases h:q<0
  ·have:=Int.mul_neg_of_pos_of_neg (a:=(g:Int)) zo h;rw [decide_eq_true h,decide_eq_true this]
  ·have:=Int.mul_nonneg (a:=(g:Int)) (b:=q) zo zo;rw [decide_eq_false zo,decide_eq_false zo]
 have k1:=key z (Int.ofNat_dvd_left.2 (Nat.gcd_dvd_left _ _));have k2:=key d (Int.ofNat_dvd_left.2 (Nat.gcd_dvd_right _ _));rw [Nat.gcd_comm d.natAbs];exact ⟨k1.1,k2.1,k1.2,k2.2⟩
theorem Bi(z d:Int)(hz:z≠0)(hd:d≠0):(z / ((Int.gcd z d:Nat):Int)<0↔z<0)∧z / ((Int.gcd z d:Nat):Int)≠0:=by
 obtain ⟨h1,-,h2,-⟩:=nY z d hz hd;refine ⟨by rwa [decide_eq_decide] at h2,fun h0=>?_⟩;rw [h0] at h1;have h3:0<z.natAbs / Nat.gcd d.natAbs z.natAbs:=Nat.div_pos (Nat.le_of_dvd zo (Nat.gcd_dvd_right _ _)) (Nat.gcd_pos_of_pos_right _ zo);simp at h1;omega
theorem BB(q z:Int)(h:q<0↔z<0)(h0:q≠0):decide (-q<0)=(decide (z<0) != true):=by
 by_cases hz:z<0
 ·rw [decide_eq_true hz,decide_eq_false (by have:=h.2 hz;omega)];rfl
 ·have:¬ q<0:=fun k=>hz (h.1 k)
  rw [decide_eq_false hz,decide_eq_true zo];rfl
theorem aA.zero(w:World){b:Option Addr}{m d:Nat}(h:U32 w b m d [1]):aA w ⟨false,none,0,0,b,m,d⟩ 0:=⟨by rfl,by show U32 w none 0 0 (digs 0);rw [aS];exact bP _,by show U32 w b m d (digs 1);rw [jZ];exact h⟩
theorem gQ(s t:IH)(z d:Int)(w:World)(h:fo w s z)(k:fo w t d):ar 44 [s.v,t.v] w RH.v (fun r w'=>aA w' r ((z:Rat) / (d:Rat))):=by
 obtain ⟨neg,ao,n,c⟩:=s;obtain ⟨neg',bo,m,e⟩:=t;have HR:=Hi h;have KR:=Hi k;have hzl:=h.len;have kdl:=k.len;clear h k;unfold ar;by_cases hz:z=0
 ·have HZ:=Hi hz;go_enter Tryz.func44,Tryz.ntmps44
  go_wp2_with fail
  refine cM (dO ⟨neg,ao,n,c⟩ z _ (HR.out.ext Ext.al3)) fun x1 w1 hE G1=>?_
  obtain ⟨hcw,hfw⟩:=ak hE;have hsw:=hE.size
  (try simp only [nXc] at hsw)
  obtain ⟨hs0,hs1,hs2⟩:=zs3 hsw;have hB:=hE.block (heap_alloc_new _ _);rw [nXc,nXc] at hB;have HB:Hid (w1.heap[w.heap.size+2]?=some _):=Hi hB;clear hB;have E1:=Hi ((Ext.al3).trans hE);have X1:=Hi hE;rw [dH hz];have HX:=E1;clear hz;go_wp2;obtain ⟨w9,hw9,T9⟩:=kI HX.out HB.out zo rfl ⟨false,none,0,0,some ⟨w1.heap.size,0,none⟩,1,1⟩;have hU1:=eE w9 1 dZ;rw [T9.size] at hU1
  change bodyPost _ _ _ _ _ ((stR w1 (w.heap.size+2) ⟨false,none,0,0,some ⟨w1.heap.size,0,none⟩,1,1⟩).alloc (.cells #[.int .u32 1] 124))
  rw [←hw9];exact nXa (v:=RH.v ⟨false,none,0,0,some ⟨w1.heap.size,0,none⟩,1,1⟩) (by simp [results,Tryz.results44,go_sem,ae (Ext.nw1.block T9.bx)]) rfl ⟨⟨false,none,0,0,some ⟨w1.heap.size,0,none⟩,1,1⟩,rfl,T9.ext.trans Ext.nw1,by rw [HZ.out,Rat.intCast_zero,Rat.div_def,nYb];exact aA.zero _ hU1⟩
 ·have hzb:(bU z 0 == 0)=false:=by unfold bU;split <;> simp_all
  by_cases hd:d=0
  ·go_enter Tryz.func44,Tryz.ntmps44
   go_wp2_with fail
   refine cM (dO ⟨neg,ao,n,c⟩ z _ (HR.out.ext Ext.al3)) fun x1 w1 hE G1=>?_
   obtain ⟨hcw,hfw⟩:=ak hE;have hsw:=hE.size
   (try simp only [nXc] at hsw)
   obtain ⟨hs0,hs1,hs2⟩:=zs3 hsw;have hB:=hE.block (heap_alloc_new _ _);rw [nXc,nXc] at hB;have HB:Hid (w1.heap[w.heap.size+2]?=some _):=Hi hB;clear hB;have E1:=Hi ((Ext.al3).trans hE);have X1:=Hi hE
   go_wp2_with fail
   refine cM (dO ⟨neg',bo,m,e⟩ d _ (KR.out.ext E1.out)) fun x2 w2 hE G2=>?_
   obtain ⟨hcw,hfw⟩:=ak hE;have hsw:=hE.size
   (try simp only [nXc] at hsw)
   have hs0:w.heap.size<w2.heap.size:=zo;have hs1:w.heap.size+1<w2.heap.size:=zo;have hs2:w.heap.size+2<w2.heap.size:=zo;replace HB:=hE.bl HB;have cR:=ae HB.out;have fR:=af HB.out;have cR2:=ae (B:=w.heap.size+1+1) HB.out;have fR2:=af (B:=w.heap.size+1+1) HB.out;have E2:=Hi ((E1.out).trans hE);have X2:=Hi hE;rw [dH hd];have HX:=E2;have HD:=Hi hd;clear hd;go_wp2;obtain ⟨w9,hw9,T9⟩:=kI HX.out HB.out zo rfl ⟨false,none,0,0,some ⟨w2.heap.size,0,none⟩,1,1⟩;have hU1:=eE w9 1 dZ;rw [T9.size] at hU1
   change bodyPost _ _ _ _ _ ((stR w2 (w.heap.size+2) ⟨false,none,0,0,some ⟨w2.heap.size,0,none⟩,1,1⟩).alloc (.cells #[.int .u32 1] 124))
   rw [←hw9];exact nXa (v:=RH.v ⟨false,none,0,0,some ⟨w2.heap.size,0,none⟩,1,1⟩) (by simp [results,Tryz.results44,go_sem,ae (Ext.nw1.block T9.bx)]) rfl ⟨⟨false,none,0,0,some ⟨w2.heap.size,0,none⟩,1,1⟩,rfl,T9.ext.trans Ext.nw1,by rw [HD.out,Rat.intCast_zero,Rat.div_def,Rat.inv_zero,nYc];exact aA.zero _ hU1⟩
  ·have hdb:(bU d 0 == 0)=false:=by unfold bU;split <;> simp_all
   go_enter Tryz.func44,Tryz.ntmps44
   go_wp2_with fail
   refine cM (dO ⟨neg,ao,n,c⟩ z _ (HR.out.ext Ext.al3)) fun x1 w1 hE G1=>?_
   obtain ⟨hcw,hfw⟩:=ak hE;have hsw:=hE.size
   (try simp only [nXc] at hsw)
   obtain ⟨hs0,hs1,hs2⟩:=zs3 hsw;have hB:=hE.block (heap_alloc_new _ _);rw [nXc,nXc] at hB;have HB:Hid (w1.heap[w.heap.size+2]?=some _):=Hi hB;clear hB;have E1:=Hi ((Ext.al3).trans hE);have X1:=Hi hE
   go_wp2_with fail
   refine cM (dO ⟨neg',bo,m,e⟩ d _ (KR.out.ext E1.out)) fun x2 w2 hE G2=>?_
   obtain ⟨hcw,hfw⟩:=ak hE;have hsw:=hE.size
   (try simp only [nXc] at hsw)
   have hs0:w.heap.size<w2.heap.size:=zo;have hs1:w.heap.size+1<w2.heap.size:=zo;have hs2:w.heap.size+2<w2.heap.size:=zo;replace HB:=hE.bl HB;have cR:=ae HB.out;have fR:=af HB.out;have cR2:=ae (B:=w.heap.size+1+1) HB.out;have fR2:=af (B:=w.heap.size+1+1) HB.out;have E2:=Hi ((E1.out).trans hE);have X2:=Hi hE
   go_wp2_with fail
   refine cM (vB ⟨neg,ao,n,c⟩ ⟨neg',bo,m,e⟩ z d _ (HR.out.ext E2.out) (KR.out.ext E2.out)) fun x3 w3 hE G3=>?_
   obtain ⟨hcw,hfw⟩:=ak hE;have hsw:=hE.size
   (try simp only [nXc] at hsw)
   have hs0:w.heap.size<w3.heap.size:=zo;have hs1:w.heap.size+1<w3.heap.size:=zo;have hs2:w.heap.size+2<w3.heap.size:=zo;replace HB:=hE.bl HB;have cR:=ae HB.out;have fR:=af HB.out;have cR2:=ae (B:=w.heap.size+1+1) HB.out;have fR2:=af (B:=w.heap.size+1+1) HB.out;have E3:=Hi ((E2.out).trans hE);have X3:=Hi hE;obtain ⟨gn,ga,gl,gc⟩:=x3;have hgl:(digs ((Int.gcd z d:Nat):Int).natAbs).length≤1073741824:=by
    refine nXf (bT (show _≤z.natAbs from ?_)) hzl;exact Nat.le_of_dvd zo (Nat.gcd_dvd_left z.natAbs d.natAbs)
   have hg0:((Int.gcd z d:Nat):Int)≠0:=by
    have:0<Nat.gcd z.natAbs d.natAbs:=Nat.gcd_pos_of_pos_left _ zo;show ((Nat.gcd z.natAbs d.natAbs:Nat):Int)≠0;omega
   go_wp2_with fail
   refine cM (kX ⟨neg,ao,n,c⟩ ⟨gn,ga,gl,gc⟩ z _ _ (HR.out.ext (E3.out.trans Ext.nw1)) ((G3.out.raw hgl).ext Ext.nw1) hg0 (Int.gcd_dvd_left ..)) fun x4 w4 hE G4=>?_
   obtain ⟨hcw,hfw⟩:=ak hE;have hsw:=hE.size
   (try simp only [nXc] at hsw)
   have hs0:w.heap.size<w4.heap.size:=zo;have hs1:w.heap.size+1<w4.heap.size:=zo;have hs2:w.heap.size+2<w4.heap.size:=zo;have hzw3_heap_size:w3.heap.size<w4.heap.size:=zo;replace HB:=Hi (hE.block (Ext.nw1.block HB.out));have cR:=ae HB.out;have fR:=af HB.out;have cR2:=ae (B:=w.heap.size+1+1) HB.out;have fR2:=af (B:=w.heap.size+1+1) HB.out;have E4:=Hi ((E3.out.trans Ext.nw1).trans hE);have X4:=Hi hE;have B5:=Hi (X4.out.block wX);have c5:=ae B5.out;obtain ⟨⟨un,ua,ul,uc⟩,⟨rn,ra,rl,rc⟩⟩:=x4
   go_wp2_with fail
   refine cM (kX ⟨neg',bo,m,e⟩ ⟨gn,ga,gl,gc⟩ d _ _ (KR.out.ext (E4.out.trans Ext.nw2)) ((G3.out.raw hgl).ext ((Ext.nw1.trans X4.out).trans Ext.nw2)) hg0 (Int.gcd_dvd_right ..)) fun x5 w5 hE G5=>?_
   obtain ⟨hcw,hfw⟩:=ak hE;have hsw:=hE.size
   (try simp only [nXc] at hsw)
   have hs0:w.heap.size<w5.heap.size:=zo;have hs1:w.heap.size+1<w5.heap.size:=zo;have hs2:w.heap.size+2<w5.heap.size:=zo;have hzw3_heap_size:w3.heap.size<w5.heap.size:=zo;have hzw4_heap_size:w4.heap.size<w5.heap.size:=zo;have hzw4_heap_size___1:w4.heap.size+1<w5.heap.size:=zo;replace B5:=Hi (hE.block (Ext.nw2.block B5.out));replace HB:=Hi (hE.block (Ext.nw2.block HB.out));have cR:=ae HB.out;have fR:=af HB.out;have cR2:=ae (B:=w.heap.size+1+1) HB.out;have fR2:=af (B:=w.heap.size+1+1) HB.out;have E5:=Hi ((E4.out.trans Ext.nw2).trans hE);have X5:=Hi hE;have B6:=Hi (X5.out.block lx);have c6:=ae B6.out;obtain ⟨⟨vn,va,vl,vc⟩,⟨tn,ta,tl,tc⟩⟩:=x5;have g4:=G4.out.1.ext (Ext.nw2.trans X5.out);have g5:=G5.out.1;simp only at g4 g5;obtain ⟨hz4,hd4,hpn,hpd⟩:=nY z d hz hd;have hvn:vn=decide (d<0):=by rw [show vn=decide (d / ((Int.gcd z d:Nat):Int)<0) from g5.1,hpd]
   have hun:un=decide (z<0):=by rw [show un=decide (z / ((Int.gcd z d:Nat):Int)<0) from g4.1,hpn]
   have HPN:=Hi (Bi z d hz hd);have H4:=Hi g4;have H5:=Hi g5;have HVN:=Hi hvn;have HUN:=Hi hun;have HZ4:=Hi hz4;have HD4:=Hi hd4;have hul:(digs (z / ((Int.gcd z d:Nat):Int)).natAbs).length≤1073741824:=by
    rw [hz4];exact nXf (bT (Nat.div_le_self _ _)) hzl
   clear g4 g5 G4 G5 hvn hun hz4 hd4 G3;cases vn
   ·have HX:=E5;go_wp2;obtain ⟨w9,hw9,T9⟩:=kI HX.out HB.out zo rfl ⟨un,ua,ul,uc,va,vl,vc⟩
    change bodyPost _ _ _ _ _ (((stR w5 (w.heap.size+2) ⟨un,ua,ul,uc,va,vl,vc⟩).alloc (.cells #[.bool false,.slice va vl vc] 35)).alloc (.cells #[.bool tn,.slice ta tl tc] 35))
    rw [←hw9];refine nXa (v:=RH.v ⟨un,ua,ul,uc,va,vl,vc⟩) (by simp [results,Tryz.results44,go_sem,ae (Ext.nw2.block T9.bx)]) rfl ⟨⟨un,ua,ul,uc,va,vl,vc⟩,rfl,T9.ext.trans Ext.nw2,?_⟩;rw [we _ _ hd];refine aA.ext (aA.of zo zo (by show un=_;rw [←HVN.out,HUN.out];simp) ?_ ?_) Ext.nw2
    ·rw [←HZ4.out];exact T9.keep _ _ _ _ H4.out.2
    ·rw [←HD4.out];exact T9.keep _ _ _ _ H5.out.2
   ·skip
    go_wp2_with fail
    refine cM (oB ⟨un,ua,ul,uc⟩ _ _ ((H4.out.raw hul).ext Ext.nw2)) fun x6 w6 hE G6=>?_
    obtain ⟨hcw,hfw⟩:=ak hE;have hsw:=hE.size
    (try simp only [nXc] at hsw)
    have hs0:w.heap.size<w6.heap.size:=zo;have hs1:w.heap.size+1<w6.heap.size:=zo;have hs2:w.heap.size+2<w6.heap.size:=zo;have hzw5_heap_size:w5.heap.size<w6.heap.size:=zo;have hzw4_heap_size:w4.heap.size<w6.heap.size:=zo;replace B6:=Hi (hE.block (Ext.nw2.block B6.out));replace HB:=Hi (hE.block (Ext.nw2.block HB.out));have cR:=ae HB.out;have fR:=af HB.out;have cR2:=ae (B:=w.heap.size+1+1) HB.out;have fR2:=af (B:=w.heap.size+1+1) HB.out;have E6:=Hi ((E5.out.trans Ext.nw2).trans hE);have X6:=Hi hE;have B9:=Hi (X6.out.block lx);have d6:=ae B6.out;have e6:=af B6.out;have HX:=E6;obtain ⟨pn,pa,pl,pc⟩:=x6
    go_upto_region 8 with fail
    obtain ⟨w7,hw2,T2⟩:=kK HX.out B6.out zo rfl ⟨pn,pa,pl,pc⟩
    change Code.wp _ _ _ _ (stI w6 (w4.heap.size) ⟨pn,pa,pl,pc⟩)
    rw [←hw2];replace B6:=Hi T2.bx;replace HB:=Hi (T2.rest _ _ zo HB.out);replace B9:=Hi (T2.rest _ _ zo B9.out);have hK:=Hi T2.keep;have HX:=Hi T2.ext;have hv:=T2.size;have hs0:w.heap.size<w7.heap.size:=zo;have hs1:w.heap.size+1<w7.heap.size:=zo;have hs2:w.heap.size+2<w7.heap.size:=zo;have c0:=ae B6.out;have f0:=af B6.out;have c1:=ae HB.out;have f1:=af HB.out;have c2:=ae B9.out;have f2:=af B9.out;clear hw2 T2 hcw hfw;have g6:=G6.out.keep hK.out;have g5:=H5.out.2.ext (Ext.nw2.trans X6.out);replace g5:=hK.out _ _ _ _ g5;simp only at g6 g5;have J6:=Hi g6;have J5:=Hi g5;clear g6 g5 G6;go_wp2;obtain ⟨w9,hw9,T9⟩:=kI HX.out HB.out zo rfl ⟨pn,pa,pl,pc,va,vl,vc⟩
    change bodyPost _ _ _ _ _ (stR w7 (w.heap.size+2) ⟨pn,pa,pl,pc,va,vl,vc⟩)
    rw [←hw9];refine nXa (v:=RH.v ⟨pn,pa,pl,pc,va,vl,vc⟩) (by simp [results,Tryz.results44,go_sem,ae T9.bx]) rfl ⟨⟨pn,pa,pl,pc,va,vl,vc⟩,rfl,T9.ext,?_⟩;rw [we _ _ hd];refine aA.of zo zo (by show pn=_;rw [←HVN.out,show pn=decide (-(z / ((Int.gcd z d:Nat):Int))<0) from J6.out.1];exact BB _ _ HPN.out.1 HPN.out.2) ?_ ?_
    ·rw [←HZ4.out,←Int.natAbs_neg];exact T9.keep _ _ _ _ J6.out.2
    ·rw [←HD4.out];exact T9.keep _ _ _ _ J5.out
theorem dR(n:Int)(w:World)(h1:-9223372036854775808≤n)(h2:n≤9223372036854775807):ar 30 [.int .i64 n] w RH.v (fun r w'=>aA w' r (n:Rat)):=by
 unfold ar;go_enter Tryz.func30,Tryz.ntmps30
 go_wp2_with fail
 refine cM (nd n _ h1 h2) fun x1 w1 hE G1=>?_
 obtain ⟨hcw,hfw⟩:=ak hE;have hsw:=hE.size
 (try simp only [nXc] at hsw)
 have hs0:w.heap.size<w1.heap.size:=zo;have hB:=hE.block (heap_alloc_new _ _);have HB:Hid (w1.heap[w.heap.size]?=some _):=Hi hB;clear hB;have E1:=Hi ((Ext.al1).trans hE);have X1:=Hi hE;have HX:=E1;obtain ⟨xn,xa,xl,xc⟩:=x1;go_wp2;obtain ⟨w9,hw9,T9⟩:=kI HX.out HB.out zo rfl ⟨xn,xa,xl,xc,some ⟨w1.heap.size,0,none⟩,1,1⟩;have hU1:=eE w9 1 dZ;rw [T9.size] at hU1
 change bodyPost _ _ _ _ _ ((stR w1 w.heap.size ⟨xn,xa,xl,xc,some ⟨w1.heap.size,0,none⟩,1,1⟩).alloc (.cells #[.int .u32 1] 124))
 rw [←hw9];exact nXa (v:=RH.v ⟨xn,xa,xl,xc,some ⟨w1.heap.size,0,none⟩,1,1⟩) (by simp [results,Tryz.results30,go_sem,ae (Ext.nw1.block T9.bx)]) rfl ⟨⟨xn,xa,xl,xc,some ⟨w1.heap.size,0,none⟩,1,1⟩,rfl,T9.ext.trans Ext.nw1,aA.whole ((G1.out.keep T9.keep).ext Ext.nw1) hU1⟩
theorem fG.raw64{w:World}{s:IH}{z:Int}(h:fG w s z)(h1:-9223372036854775808≤z)(h2:z≤9223372036854775807):fo w s z :=
 h.rawk (k:=2) (by unfold W32;omega) zo
theorem cZ(n d:Int)(w:World)(h1:-9223372036854775808≤n)(h2:n≤9223372036854775807)(k1:-9223372036854775808≤d)(k2:d≤9223372036854775807):ar 15 [.int .i64 n,.int .i64 d] w RH.v (fun r w'=>aA w' r ((n:Rat) / (d:Rat))):=by
 unfold ar;go_enter Tryz.func15,Tryz.ntmps15
 go_wp2_with fail
 refine cM (nd n _ h1 h2) fun x1 w1 hE G1=>?_
 obtain ⟨hcw,hfw⟩:=ak hE;have hsw:=hE.size
 (try simp only [nXc] at hsw)
 have hs0:w.heap.size<w1.heap.size:=zo;have hB:=hE.block (heap_alloc_new _ _);have HB:Hid (w1.heap[w.heap.size]?=some _):=Hi hB;clear hB;have E1:=Hi ((Ext.al1).trans hE);have X1:=Hi hE
 go_wp2_with fail
 refine cM (nd d _ k1 k2) fun x2 w2 hE G2=>?_
 obtain ⟨hcw,hfw⟩:=ak hE;have hsw:=hE.size
 (try simp only [nXc] at hsw)
 have hs0:w.heap.size<w2.heap.size:=zo;replace HB:=hE.bl HB;have cR:=ae HB.out;have fR:=af HB.out;have E2:=Hi ((E1.out).trans hE);have X2:=Hi hE
 go_wp2_with fail
 refine cM (gQ x1 x2 n d _ ((G1.out.ext X2.out).raw64 h1 h2) (G2.out.raw64 k1 k2)) fun x3 w3 hE G3=>?_
 obtain ⟨hcw,hfw⟩:=ak hE;have hsw:=hE.size
 (try simp only [nXc] at hsw)
 have hs0:w.heap.size<w3.heap.size:=zo;replace HB:=hE.bl HB;have cR:=ae HB.out;have fR:=af HB.out;have E3:=Hi ((E2.out).trans hE);have X3:=Hi hE;have HX:=E3;go_wp2;have hF:=((((Fin.start (L:=w.heap.size) HX.out (ai HB.out rfl)).set zo (i:=0) (v:=.bool x3.neg) rfl).set zo (i:=1) (v:=.slice x3.a x3.n x3.c) rfl).set zo (i:=2) (v:=.slice x3.b x3.m x3.d) rfl);exact nXa (v:=x3.v) (by simp [results,Tryz.results15,go_sem,ae HB.out]) rfl ⟨x3,rfl,hF.ext,G3.out.keep hF.keep⟩
def tA:Nat:=134217728
def Big(z:Int):Prop:=z.natAbs<W32 ^ tA
theorem FG.div{w:World}{p:IH×IH}{q:Rat}(h:FG w p q):∃ z d:Int,fo w p.1 z∧fo w p.2 d∧0<d∧(z:Rat) / (d:Rat)=q∧Big z∧Big d:=by
 obtain ⟨z,d,h1,h2,h3,h4,h5,h6⟩:=h;refine ⟨z,d,h1,h2,h3,?_,?_,?_⟩
 ·rw [h4,Rat.mkRat_eq_div]
  congr 1
  rw [←Rat.intCast_natCast,Int.natAbs_of_nonneg zo]
 ·obtain ⟨ds,u1,rfl,-⟩:=h1;exact nXn (iz u1 _) (nXp aI h5)
 ·obtain ⟨ds,u1,rfl,-⟩:=h2;exact nXn (iz u1 _) (nXp aI h6)
theorem ey(s:RH)(q:Rat)(w:World)(h:aX w s q):ar 121 [s.v] w RH.v (fun r w'=>aA w' r q):=by
 obtain ⟨neg,ao,n,c,bo,m,d⟩:=s;have HR:=Hi h;clear h;unfold ar;go_enter Tryz.func121,Tryz.ntmps121
 go_wp2_with fail
 refine cM (dW ⟨neg,ao,n,c,bo,m,d⟩ q _ (HR.out.ext Ext.al2)) fun x1 w1 hE G1=>?_
 obtain ⟨hcw,hfw⟩:=ak hE;have hsw:=hE.size
 (try simp only [nXc] at hsw)
 obtain ⟨hs0,hs1⟩:=zs2 hsw;have hB:=hE.block (heap_alloc_new _ _);rw [nXc] at hB;have HB:Hid (w1.heap[w.heap.size+1]?=some _):=Hi hB;clear hB;have E1:=Hi ((Ext.al2).trans hE);have X1:=Hi hE;obtain ⟨⟨an,aa,al,ac⟩,⟨bn,ba,bl,bc⟩⟩:=x1;obtain ⟨z,e,g1,g2,g3,g4,g5,g6⟩:=G1.out.div;have J1:=Hi g1;have J2:=Hi g2;have J4:=Hi g4;clear g1 g2 g3 g4 g5 g6 G1
 go_wp2_with fail
 refine cM (gQ ⟨an,aa,al,ac⟩ ⟨bn,ba,bl,bc⟩ z e _ (J1.out.ext Ext.nw2) (J2.out.ext Ext.nw2)) fun x2 w2 hE G2=>?_
 obtain ⟨hcw,hfw⟩:=ak hE;have hsw:=hE.size
 (try simp only [nXc] at hsw)
 have hs0:w.heap.size<w2.heap.size:=zo;have hs1:w.heap.size+1<w2.heap.size:=zo;replace HB:=Hi (hE.block (Ext.nw2.block HB.out));have cR:=ae HB.out;have fR:=af HB.out;have E2:=Hi ((E1.out.trans Ext.nw2).trans hE);have X2:=Hi hE;rw [J4.out] at G2;have HX:=E2;go_wp2;have hF:=((((Fin.start (L:=w.heap.size+1) HX.out (ai HB.out rfl)).set zo (i:=0) (v:=.bool x2.neg) rfl).set zo (i:=1) (v:=.slice x2.a x2.n x2.c) rfl).set zo (i:=2) (v:=.slice x2.b x2.m x2.d) rfl);exact nXa (v:=x2.v) (by simp [results,Tryz.results121,go_sem,ae HB.out]) rfl ⟨x2,rfl,hF.ext,G2.out.keep hF.keep⟩
theorem zJ{z d:Int}(hd:0<d):bU z 0=cG ((z:Rat) / (d:Rat)) 0:=by
 have:(z:Rat) / (d:Rat)=mkRat z d.natAbs:=by
  rw [Rat.mkRat_eq_div]
  congr 1
  rw [←Rat.intCast_natCast,Int.natAbs_of_nonneg zo]
 rw [this,oR zo]
theorem sJ(s:RH)(q:Rat)(w:World)(h:aX w s q):ar 120 [s.v] w (fun _:Unit=>.int .i64 (cG q 0)) (fun _ _=>True):=by
 obtain ⟨neg,ao,n,c,bo,m,d⟩:=s;have HR:=Hi h;clear h;unfold ar;go_enter Tryz.func120,Tryz.ntmps120
 go_wp2_with fail
 refine cM (dW ⟨neg,ao,n,c,bo,m,d⟩ q _ (HR.out.ext Ext.al1)) fun x1 w1 hE G1=>?_
 obtain ⟨hcw,hfw⟩:=ak hE;have hsw:=hE.size
 (try simp only [nXc] at hsw)
 have hs0:w.heap.size<w1.heap.size:=zo;have E1:=Hi ((Ext.al1).trans hE);have X1:=Hi hE;obtain ⟨⟨an,aa,al,ac⟩,⟨bn,ba,bl,bc⟩⟩:=x1;obtain ⟨z,e,g1,g2,g3,g4,g5,g6⟩:=G1.out.div;have J1:=Hi g1;have J4:=Hi (zJ (z:=z) g3);rw [g4] at J4;clear g1 g2 g3 g4 g5 g6 G1
 go_wp2_with fail
 refine cM (dO ⟨an,aa,al,ac⟩ z _ (J1.out.ext Ext.nw2)) fun x2 w2 hE G2=>?_
 obtain ⟨hcw,hfw⟩:=ak hE;have hsw:=hE.size
 (try simp only [nXc] at hsw)
 have hs0:w.heap.size<w2.heap.size:=zo;have E2:=Hi ((E1.out.trans Ext.nw2).trans hE);have X2:=Hi hE;go_wp2
 go_ret
 exact ⟨(),aZ J4.out,E2.out,trivial⟩
theorem rE(a b:Rat):(a*b)⁻¹=a⁻¹*b⁻¹:=by
 by_cases ha:a=0
 ·subst ha;rw [nYb,Rat.inv_zero,nYb]
 ·by_cases hb:b=0
  ·subst hb;rw [nYc,Rat.inv_zero,nYc]
  ·have h1:=nYk a ha;have h2:=nYk b hb;have h3:=nYk (a*b) (by intro h;rcases nXr.1 h with h|h;exact ha h;exact hb h);have h4:(a*b)⁻¹*(a*b)*(a⁻¹*b⁻¹)=(a*b)⁻¹*((a*a⁻¹)*(b*b⁻¹)):=by grind
   have h5:(a*b)⁻¹*(a*b)=1:=by rw [nYd];exact h3
   rw [h1,h2,h5] at h4;grind
theorem uR{z e z' e':Int}{q r:Rat}(h:(z:Rat) / (e:Rat)=q)(k:(z':Rat) / (e':Rat)=r):((z*z':Int):Rat) / ((e*e':Int):Rat)=q*r:=by
 subst h k;rw [Rat.intCast_mul,Rat.intCast_mul,Rat.div_def,Rat.div_def,Rat.div_def,rE];grind
theorem wY{z e z' e':Int}{q r:Rat}(h0:0<e)(k0:0<e')(h:(z:Rat) / (e:Rat)=q)(k:(z':Rat) / (e':Rat)=r):((z*e'+z'*e:Int):Rat) / ((e*e':Int):Rat)=q+r:=by
 have a1:(e:Rat)≠0:=by intro h0;have:=Rat.intCast_eq_zero_iff.1 h0;omega
 have a2:(e':Rat)≠0:=by intro h0;have:=Rat.intCast_eq_zero_iff.1 h0;omega
 subst h k;rw [Rat.intCast_add,Rat.intCast_mul,Rat.intCast_mul,Rat.intCast_mul,Rat.div_def,Rat.div_def,Rat.div_def,rE];have b1:=nYk _ a1;have b2:=nYk _ a2;grind
theorem kA(s t:RH)(q r:Rat)(w:World)(h:aX w s q)(k:aX w t r):ar 13 [s.v,t.v] w RH.v (fun s w'=>aA w' s (q*r)):=by
 obtain ⟨neg,ao,n,c,bo,m,d⟩:=s;obtain ⟨neg',ao',n',c',bo',m',d'⟩:=t;have HR:=Hi h;have KR:=Hi k;clear h k;unfold ar;go_enter Tryz.func13,Tryz.ntmps13
 go_wp2_with fail
 refine cM (dW ⟨neg,ao,n,c,bo,m,d⟩ q _ (HR.out.ext Ext.al3)) fun x1 w1 hE G1=>?_
 obtain ⟨hcw,hfw⟩:=ak hE;have hsw:=hE.size
 (try simp only [nXc] at hsw)
 obtain ⟨hs0,hs1,hs2⟩:=zs3 hsw;have hB:=hE.block (heap_alloc_new _ _);rw [nXc,nXc] at hB;have HB:Hid (w1.heap[w.heap.size+2]?=some _):=Hi hB;clear hB;have E1:=Hi ((Ext.al3).trans hE);have X1:=Hi hE;have B1:=Hi (X1.out.block tu);obtain ⟨⟨an,aa,al,ac⟩,⟨bn,ba,bl,bc⟩⟩:=x1;obtain ⟨z,e,g1,g2,p3,g4,p5,p6⟩:=G1.out.div;have J1:=Hi g1;have J2:=Hi g2;have J4:=Hi g4;have P5:=Hi p5;have P6:=Hi p6;clear g1 g2 g4 p5 p6 G1
 go_wp2_with fail
 refine cM (dW ⟨neg',ao',n',c',bo',m',d'⟩ r _ (KR.out.ext (E1.out.trans Ext.nw2))) fun x2 w2 hE G2=>?_
 obtain ⟨hcw,hfw⟩:=ak hE;have hsw:=hE.size
 (try simp only [nXc] at hsw)
 have hs0:w.heap.size<w2.heap.size:=zo;have hs1:w.heap.size+1<w2.heap.size:=zo;have hs2:w.heap.size+2<w2.heap.size:=zo;have hzw1_heap_size:w1.heap.size<w2.heap.size:=zo;have hzw1_heap_size___1:w1.heap.size+1<w2.heap.size:=zo;replace B1:=Hi (hE.block (Ext.nw2.block B1.out));replace HB:=Hi (hE.block (Ext.nw2.block HB.out));have cR:=ae HB.out;have fR:=af HB.out;have cR2:=ae (B:=w.heap.size+1+1) HB.out;have fR2:=af (B:=w.heap.size+1+1) HB.out;have E2:=Hi ((E1.out.trans Ext.nw2).trans hE);have X2:=Hi hE;have B5:=Hi (X2.out.block lx);have B6:=Hi (X2.out.block qf);obtain ⟨⟨an',aa',al',ac'⟩,⟨bn',ba',bl',bc'⟩⟩:=x2;obtain ⟨z',e',g1',g2',p3',g4',p5',p6'⟩:=G2.out.div;have J1':=Hi g1';have J2':=Hi g2';have J4':=Hi g4';have P5':=Hi p5';have P6':=Hi p6';clear g1' g2' g4' p5' p6' G2;replace J1:=Hi (J1.out.ext (Ext.nw2.trans X2.out));replace J2:=Hi (J2.out.ext (Ext.nw2.trans X2.out));have c5:=ae B5.out;have c6:=ae B6.out
 go_upto_region 3 with fail
 obtain ⟨w3,hw3⟩:∃ w3,w3=(w2.alloc (.cells #[.bool an',.slice aa' al' ac'] 35)).alloc (.cells #[.bool bn',.slice ba' bl' bc'] 35):=⟨_,rfl⟩;have hE3:Ext w2 w3:=by rw [hw3];exact Ext.nw2
 have B7:Hid (w3.heap[w2.heap.size]?=some (.cells #[.bool an',.slice aa' al' ac'] 35 (0,0))):=by rw [hw3];exact lx
 have B8:Hid (w3.heap[w2.heap.size+1]?=some (.cells #[.bool bn',.slice ba' bl' bc'] 35 (0,0))):=by rw [hw3];exact qf
 have hz3:w3.heap.size=w2.heap.size+2:=by rw [hw3];simp
 rw [←hw3];replace B5:=Hi (hE3.block B5.out);replace B6:=Hi (hE3.block B6.out);replace HB:=Hi (hE3.block HB.out);refine mV4 hE3 ?_ J1' J2' J1 J2;clear J1' J2' J1 J2;intro J1' J2' J1 J2;have HX:=Hi (E2.out.trans hE3);clear hw3 hE3 c5 c6 hcw hfw cR fR cR2 fR2;have c5:=ae B5.out;have c6:=ae B6.out;have c7:=ae B7.out;have c8:=ae B8.out;have k0:=ae (B:=w.heap.size+1+1) HB.out;have k1:=af (B:=w.heap.size+1+1) HB.out;have y5:w1.heap.size<w3.heap.size:=zo;have y6:w1.heap.size+1<w3.heap.size:=zo;have y7:w2.heap.size<w3.heap.size:=zo;have y8:w2.heap.size+1<w3.heap.size:=zo;have hs2:w.heap.size+2<w3.heap.size:=zo;clear hz3;refine ah 7 (fun opIx=>match opIx with
  | 2=>sI (z*z')
  | 5=>sI (e*e')
  | 6=>sR (q*r)
  | _=>.quiet) (fun|6=>[2,5]|_=>[]) kZ kZ (fun w0 he0 hz0 hc0 hf0=>?_)
 have he1:=Hi he0;replace he0:=Hi ((HX.out).trans he0);simp only [pT];refine qQ ?_;refine bN rfl rfl (fun w1 hw1 hG=>?_) (fun x2=>?_)
 ·have hW:=he0.out.trans hw1;exact spc [IH.v ⟨an,aa,al,ac⟩,IH.v ⟨an',aa',al',ac'⟩] Tryz.func46 (eP _ _ _ _ _ (J1.out.ext (he1.out.trans hw1)) (J1'.out.ext (he1.out.trans hw1)))
 refine qZ ?_;refine bN rfl rfl (fun w1 hw1 hG=>?_) (fun x5=>?_)
 ·have hW:=he0.out.trans hw1;exact spc [IH.v ⟨bn,ba,bl,bc⟩,IH.v ⟨bn',ba',bl',bc'⟩] Tryz.func46 (eP _ _ _ _ _ (J2.out.ext (he1.out.trans hw1)) (J2'.out.ext (he1.out.trans hw1)))
 refine qZ ?_;refine wps he0 (fun w1 hW hG=>?_) fun x6=>?_
 ·have g2:=gS (hG 2 dZ);have g5:=gS (hG 5 dZ);exact spc [x2.v,x5.v] Tryz.func44 (uR J4.out J4'.out ▸ gQ x2 x5 _ _ _ (g2.rawk (cK P5.out P5'.out) dZ) (g5.rawk (cK P6.out P6'.out) dZ))
 refine qZ ?_;refine aq ?_;intro w1 hI;have G2:=gT (hI.facts 2);have G5:=gT (hI.facts 5);have G6:=gT (hI.facts 6);have HX:=Hi (he0.out.trans hI.ext);have hX1:=Hi (he1.out.trans hI.ext);obtain ⟨hcw,hfw⟩:=ak (he1.out.trans hI.ext);have hsw:=(he1.out.trans hI.ext).size
 (try simp only [nXc] at hsw)
 have hs0:w.heap.size<w1.heap.size:=zo;have hs1:w.heap.size+1<w1.heap.size:=zo;have hs2:w.heap.size+2<w1.heap.size:=zo;replace HB:=Hi ((he1.out.trans hI.ext).block HB.out);have cR:=ae HB.out;have fR:=af HB.out;have cR2:=ae (B:=w.heap.size+1+1) HB.out;have fR2:=af (B:=w.heap.size+1+1) HB.out;clear hI he0 he1 hz0 hc0 hf0;simp only [pD];clear P5 P6 P5' P6';go_wp2;have hF:=((((Fin.start (L:=w.heap.size+2) HX.out (ai HB.out rfl)).set zo (i:=0) (v:=.bool x6.neg) rfl).set zo (i:=1) (v:=.slice x6.a x6.n x6.c) rfl).set zo (i:=2) (v:=.slice x6.b x6.m x6.d) rfl);exact nXa (v:=x6.v) (by simp [results,Tryz.results13,go_sem,ae HB.out]) rfl ⟨x6,rfl,hF.ext,G6.out.keep hF.keep⟩
theorem go(s t:RH)(q r:Rat)(w:World)(h:aX w s q)(k:aX w t r):ar 12 [s.v,t.v] w RH.v (fun s w'=>aA w' s (q+r)):=by
 obtain ⟨neg,ao,n,c,bo,m,d⟩:=s;obtain ⟨neg',ao',n',c',bo',m',d'⟩:=t;have HR:=Hi h;have KR:=Hi k;clear h k;unfold ar;go_enter Tryz.func12,Tryz.ntmps12
 go_wp2_with fail
 refine cM (dW ⟨neg,ao,n,c,bo,m,d⟩ q _ (HR.out.ext Ext.al3)) fun x1 w1 hE G1=>?_
 obtain ⟨hcw,hfw⟩:=ak hE;have hsw:=hE.size
 (try simp only [nXc] at hsw)
 obtain ⟨hs0,hs1,hs2⟩:=zs3 hsw;have hB:=hE.block (heap_alloc_new _ _);rw [nXc,nXc] at hB;have HB:Hid (w1.heap[w.heap.size+2]?=some _):=Hi hB;clear hB;have E1:=Hi ((Ext.al3).trans hE);have X1:=Hi hE;have B1:=Hi (X1.out.block tu);obtain ⟨⟨an,aa,al,ac⟩,⟨bn,ba,bl,bc⟩⟩:=x1;obtain ⟨z,e,g1,g2,p3,g4,p5,p6⟩:=G1.out.div;have J1:=Hi g1;have J2:=Hi g2;have J4:=Hi g4;have P5:=Hi p5;have P6:=Hi p6;clear g1 g2 g4 p5 p6 G1
 go_wp2_with fail
 refine cM (dW ⟨neg',ao',n',c',bo',m',d'⟩ r _ (KR.out.ext (E1.out.trans Ext.nw2))) fun x2 w2 hE G2=>?_
 obtain ⟨hcw,hfw⟩:=ak hE;have hsw:=hE.size
 (try simp only [nXc] at hsw)
 have hs0:w.heap.size<w2.heap.size:=zo;have hs1:w.heap.size+1<w2.heap.size:=zo;have hs2:w.heap.size+2<w2.heap.size:=zo;have hzw1_heap_size:w1.heap.size<w2.heap.size:=zo;have hzw1_heap_size___1:w1.heap.size+1<w2.heap.size:=zo;replace B1:=Hi (hE.block (Ext.nw2.block B1.out));replace HB:=Hi (hE.block (Ext.nw2.block HB.out));have cR:=ae HB.out;have fR:=af HB.out;have cR2:=ae (B:=w.heap.size+1+1) HB.out;have fR2:=af (B:=w.heap.size+1+1) HB.out;have E2:=Hi ((E1.out.trans Ext.nw2).trans hE);have X2:=Hi hE;have B5:=Hi (X2.out.block lx);have B6:=Hi (X2.out.block qf);obtain ⟨⟨an',aa',al',ac'⟩,⟨bn',ba',bl',bc'⟩⟩:=x2;obtain ⟨z',e',g1',g2',p3',g4',p5',p6'⟩:=G2.out.div;have J1':=Hi g1';have J2':=Hi g2';have J4':=Hi g4';have P5':=Hi p5';have P6':=Hi p6';clear g1' g2' g4' p5' p6' G2;replace J1:=Hi (J1.out.ext (Ext.nw2.trans X2.out));replace J2:=Hi (J2.out.ext (Ext.nw2.trans X2.out));have c5:=ae B5.out;have c6:=ae B6.out
 go_upto_region 3 with fail
 obtain ⟨w3,hw3⟩:∃ w3,w3=(w2.alloc (.cells #[.bool an',.slice aa' al' ac'] 35)).alloc (.cells #[.bool bn',.slice ba' bl' bc'] 35):=⟨_,rfl⟩;have hE3:Ext w2 w3:=by rw [hw3];exact Ext.nw2
 have B7:Hid (w3.heap[w2.heap.size]?=some (.cells #[.bool an',.slice aa' al' ac'] 35 (0,0))):=by rw [hw3];exact lx
 have B8:Hid (w3.heap[w2.heap.size+1]?=some (.cells #[.bool bn',.slice ba' bl' bc'] 35 (0,0))):=by rw [hw3];exact qf
 have hz3:w3.heap.size=w2.heap.size+2:=by rw [hw3];simp
 rw [←hw3];replace B5:=Hi (hE3.block B5.out);replace B6:=Hi (hE3.block B6.out);replace HB:=Hi (hE3.block HB.out);refine mV4 hE3 ?_ J1' J2' J1 J2;clear J1' J2' J1 J2;intro J1' J2' J1 J2;have HX:=Hi (E2.out.trans hE3);clear hw3 hE3 c5 c6 hcw hfw cR fR cR2 fR2;have c5:=ae B5.out;have c6:=ae B6.out;have c7:=ae B7.out;have c8:=ae B8.out;have k0:=ae (B:=w.heap.size+1+1) HB.out;have k1:=af (B:=w.heap.size+1+1) HB.out;have y5:w1.heap.size<w3.heap.size:=zo;have y6:w1.heap.size+1<w3.heap.size:=zo;have y7:w2.heap.size<w3.heap.size:=zo;have y8:w2.heap.size+1<w3.heap.size:=zo;have hs2:w.heap.size+2<w3.heap.size:=zo;clear hz3;refine ah 11 (fun opIx=>match opIx with
  | 2=>sI (z*e')
  | 5=>sI (z'*e)
  | 6=>sI (z*e'+z'*e)
  | 9=>sI (e*e')
  | 10=>sR (q+r)
  | _=>.quiet) (fun|6=>[2,5]|10=>[6,9]|_=>[]) kZ kZ (fun w0 he0 hz0 hc0 hf0=>?_)
 have he1:=Hi he0;replace he0:=Hi ((HX.out).trans he0);simp only [pT];refine qQ ?_;refine bN rfl rfl (fun w1 hw1 hG=>?_) (fun x2=>?_)
 ·have hW:=he0.out.trans hw1;exact spc [IH.v ⟨an,aa,al,ac⟩,IH.v ⟨bn',ba',bl',bc'⟩] Tryz.func46 (eP _ _ _ _ _ (J1.out.ext (he1.out.trans hw1)) (J2'.out.ext (he1.out.trans hw1)))
 refine qZ ?_;refine bN rfl rfl (fun w1 hw1 hG=>?_) (fun x5=>?_)
 ·have hW:=he0.out.trans hw1;exact spc [IH.v ⟨an',aa',al',ac'⟩,IH.v ⟨bn,ba,bl,bc⟩] Tryz.func46 (eP _ _ _ _ _ (J1'.out.ext (he1.out.trans hw1)) (J2.out.ext (he1.out.trans hw1)))
 refine qZ ?_;refine wps he0 (fun w1 hW hG=>?_) fun x6=>?_
 ·have g2:=gS (hG 2 dZ);have g5:=gS (hG 5 dZ);exact spc [x2.v,x5.v] Tryz.func45 (oC x2 x5 _ _ _ (g2.rawk (cK P5.out P6'.out) dZ) (g5.rawk (cK P5'.out P6.out) dZ))
 refine qZ ?_;refine bN rfl rfl (fun w1 hw1 hG=>?_) (fun x9=>?_)
 ·have hW:=he0.out.trans hw1;exact spc [IH.v ⟨bn,ba,bl,bc⟩,IH.v ⟨bn',ba',bl',bc'⟩] Tryz.func46 (eP _ _ _ _ _ (J2.out.ext (he1.out.trans hw1)) (J2'.out.ext (he1.out.trans hw1)))
 refine qZ ?_;refine wps he0 (fun w1 hW hG=>?_) fun x10=>?_
 ·have g6:=gS (hG 6 dZ);have g9:=gS (hG 9 dZ);exact spc [x6.v,x9.v] Tryz.func44 (wY p3 p3' J4.out J4'.out ▸ gQ x6 x9 _ _ _ (g6.rawk (pN (cK P5.out P6'.out) (cK P5'.out P6.out)) dZ) (g9.rawk (cK P6.out P6'.out) dZ))
 refine qZ ?_;refine aq ?_;intro w1 hI;have G2:=gT (hI.facts 2);have G5:=gT (hI.facts 5);have G6:=gT (hI.facts 6);have G9:=gT (hI.facts 9);have G10:=gT (hI.facts 10);have HX:=Hi (he0.out.trans hI.ext);have hX1:=Hi (he1.out.trans hI.ext);obtain ⟨hcw,hfw⟩:=ak (he1.out.trans hI.ext);have hsw:=(he1.out.trans hI.ext).size
 (try simp only [nXc] at hsw)
 have hs0:w.heap.size<w1.heap.size:=zo;have hs1:w.heap.size+1<w1.heap.size:=zo;have hs2:w.heap.size+2<w1.heap.size:=zo;replace HB:=Hi ((he1.out.trans hI.ext).block HB.out);have cR:=ae HB.out;have fR:=af HB.out;have cR2:=ae (B:=w.heap.size+1+1) HB.out;have fR2:=af (B:=w.heap.size+1+1) HB.out;clear hI he0 he1 hz0 hc0 hf0;simp only [pD];clear P5 P6 P5' P6';go_wp2;have hF:=((((Fin.start (L:=w.heap.size+2) HX.out (ai HB.out rfl)).set zo (i:=0) (v:=.bool x10.neg) rfl).set zo (i:=1) (v:=.slice x10.a x10.n x10.c) rfl).set zo (i:=2) (v:=.slice x10.b x10.m x10.d) rfl);exact nXa (v:=x10.v) (by simp [results,Tryz.results12,go_sem,ae HB.out]) rfl ⟨x10,rfl,hF.ext,G10.out.keep hF.keep⟩
def jy(r:RH):List Value:=[.bool r.neg,.slice r.a r.n r.c,.slice r.b r.m r.d]
def av(rs:List RH):List Value:=rs.flatMap jy
theorem eH(r:RH)(rs:List RH):av (r :: rs)=.bool r.neg :: .slice r.a r.n r.c :: .slice r.b r.m r.d :: av rs:=rfl
theorem cz(a b:List RH):av (a++b)=av a++av b:=by simp [av]
theorem aC(rs:List RH):(av rs).length=rs.length*3:=by
 induction rs with
 | nil=>rfl
 | cons r rs ih=>rw [eH];simp only [List.length_cons,ih];omega
theorem fv(rs:List RH){k j:Nat}(hk:k<rs.length)(hj:j<3):(av rs)[k*3+j]?=(jy (rs.getD k default))[j]?:=by
 induction rs generalizing k with
 | nil=>simp at hk
 | cons r rs ih =>
  cases k with
  | zero =>
   rw [eH]
   match j,hj with
   | 0,_=>rfl
   | 1,_=>rfl
   | 2,_=>rfl
  | succ k =>
   rw [eH,show (k+1)*3+j=(k*3+j)+1+1+1 by omega];simp only [List.getElem?_cons_succ];rw [ih (by simpa using hk)];rfl
theorem iA(rs:List RH):(av rs).all dL=true:=by
 rw [List.all_eq_true];intro x hx;simp only [av,List.mem_flatMap] at hx;obtain ⟨r,-,h⟩:=hx;simp only [jy,List.mem_cons,List.not_mem_nil,or_false] at h;rcases h with rfl|rfl|rfl <;> rfl
theorem jx(rs:List RH):∀ u ∈ av rs,u.oneCell'=true:=by
 intro x hx;simp only [av,List.mem_flatMap] at hx;obtain ⟨r,-,h⟩:=hx;simp only [jy,List.mem_cons,List.not_mem_nil,or_false] at h;rcases h with rfl|rfl|rfl <;> rfl
theorem lV(rs:List RH)(k:Nat)(r:RH):av (rs.set k r)=(((av rs).set (k*3) (.bool r.neg)).set (k*3+1) (.slice r.a r.n r.c)).set (k*3+2) (.slice r.b r.m r.d):=by
 induction rs generalizing k with
 | nil=>rfl
 | cons x rs ih =>
  cases k with
  | zero=>rfl
  | succ k =>
   rw [List.set_cons_succ,eH,eH,ih,show (k+1)*3=k*3+1+1+1 by omega];rfl
def RBk(w:World)(L:Nat)(rs:List RH)(re:Array Value):Prop:=w.heap[L]?=some (.cells ((av rs).toArray++re) 37 (0,0))
theorem RBk.ext{w w':World}{L:Nat}{rs:List RH}{re:Array Value}(h:RBk w L rs re)(he:Ext w w'):RBk w' L rs re:=he.block h
instance {w w':World} {L:Nat} {rs:List RH} {re:Array Value}:Go.Front.Mv w w' (RBk w L rs re) (RBk w' L rs re):=⟨fun e h=>RBk.ext h e⟩

theorem RBk.lt{w:World}{L:Nat}{rs:List RH}{re:Array Value}(h:RBk w L rs re):L<w.heap.size:=(nXb.1 h).1
theorem RBk.frozen{w:World}{L:Nat}{rs:List RH}{re:Array Value}(h:RBk w L rs re)(i:Nat):w.frozen? ⟨L,i,none⟩=false:=af h i
def RAt(w:World)(b off:Nat)(r:RH):Prop:=w.cell? ⟨b,off,none⟩=some (.bool r.neg)∧w.cell? ⟨b,off+1,none⟩=some (.slice r.a r.n r.c)∧w.cell? ⟨b,off+2,none⟩=some (.slice r.b r.m r.d)
theorem RAt.ext{w w':World}{b off:Nat}{r:RH}(h:RAt w b off r)(he:Ext w w'):RAt w' b off r:=⟨he.cell h.1,he.cell h.2.1,he.cell h.2.2⟩
instance {w w':World} {b off:Nat} {r:RH}:Go.Front.Mv w w' (RAt w b off r) (RAt w' b off r):=⟨fun e h=>RAt.ext h e⟩

theorem RBk.cell{w:World}{L:Nat}{rs:List RH}{re:Array Value}(h:RBk w L rs re){k j:Nat}(hk:k<rs.length)(hj:j<3):w.cell? ⟨L,k*3+j,none⟩=(jy (rs.getD k default))[j]?:=by
 rw [ae h,←fv rs hk hj,Array.getElem?_append_left (by rw [List.size_toArray,aC];omega),List.getElem?_toArray]
theorem RBk.at{w:World}{L:Nat}{rs:List RH}{re:Array Value}(h:RBk w L rs re){k:Nat}(hk:k<rs.length):RAt w L (k*3) (rs.getD k default) :=
 ⟨h.cell (j:=0) hk dZ,h.cell (j:=1) hk dZ,h.cell (j:=2) hk dZ⟩
def CT(w:World)(b o:Nat)(x:RH):World:=((w.setCell ⟨b,o,none⟩ (.bool x.neg)).setCell ⟨b,o+1,none⟩ (.slice x.a x.n x.c)).setCell ⟨b,o+2,none⟩ (.slice x.b x.m x.d)
theorem RBk.noU{w:World}{L:Nat}{rs:List RH}{re:Array Value}(h:RBk w L rs re)(hre:re.toList.all dL=true):NoU w L :=
 ai h (by rw [Array.toList_append,List.all_append,hre,iA];rfl)
structure F1 (w w1:World) (L:Nat) (rs:List RH) (re:Array Value) (w2:World):Prop where
 ext:Ext w w2
 keep:dJ w1 w2
 bk:RBk w2 L rs re
 rest:∀ k o,k≠L→w1.heap[k]?=some o→w2.heap[k]?=some o
 size:w2.heap.size=w1.heap.size
theorem RBk.put{w w1:World}{L:Nat}{rs:List RH}{re:Array Value}(h:RBk w1 L rs re)(hE:Ext w w1)(hL:w.heap.size≤L)(hre:re.toList.all dL=true){k:Nat}(hk:k<rs.length)(r:RH) :
  F1 w w1 L (rs.set k r) re (CT w1 L (k*3) r):=by
 have f1:Fin w w1 L (CT w1 L (k*3) r):=(((Fin.start hE (h.noU hre)).set hL rfl).set hL rfl).set hL rfl;have m1:aL (·=L) w1 (CT w1 L (k*3) r):=((aL.setCell w1 ⟨L,k*3,none⟩ _).trans (aL.setCell _ ⟨L,k*3+1,none⟩ _)).trans (aL.setCell _ ⟨L,k*3+2,none⟩ _);refine ⟨f1.ext,f1.keep,?_,fun k o h1 h3=>m1.blk h1 h3,by simp [CT,World.setCell]⟩;have:=ax (ax (ax h (k*3) (.bool r.neg)) (k*3+1) (.slice r.a r.n r.c)) (k*3+2) (.slice r.b r.m r.d);unfold RBk;rw [lV];unfold CT;rw [this]
 congr 2
 have hl:=aC rs;apply Array.ext';simp only [Array.toList_setIfInBounds,Array.toList_append];rw [List.set_append_left _ _ zo,List.set_append_left _ _ (by rw [nXo];omega),List.set_append_left _ _ (by rw [nXo,nXo];omega)]
structure RS (w:World) (s:SH) (rs:List RH):Prop where
 len:rs.length=s.n
 le:s.n≤s.c
 max:s.c≤9223372036854775807
 at':s.n=0∨∃ b off,s.a=some ⟨b,off,none⟩∧∀ k,k<s.n→RAt w b (off+k*3) (rs.getD k default)
theorem RS.ext{w w':World}{s:SH}{rs:List RH}(h:RS w s rs)(he:Ext w w'):RS w' s rs :=
 ⟨h.len,h.le,h.max,h.at'.imp id fun ⟨b,off,h1,h2⟩=>⟨b,off,h1,fun k hk=>(h2 k hk).ext he⟩⟩
instance {w w':World} {s:SH} {rs:List RH}:Go.Front.Mv w w' (RS w s rs) (RS w' s rs):=⟨fun e h=>RS.ext h e⟩

theorem RS.nil(w:World)(ao:Option Addr)(c:Nat)(h:c≤9223372036854775807):RS w ⟨ao,0,c⟩ []:=⟨rfl,Nat.zero_le _,h,Or.inl rfl⟩
theorem RS.take{w:World}{ao:Option Addr}{n c:Nat}{rs:List RH}(h:RS w ⟨ao,n,c⟩ rs){m:Nat}(hm:m≤n):RS w ⟨ao,m,c⟩ (rs.take m):=by
 have h1:=h.len;have h2:=h.le;simp only at h1 h2;refine ⟨by rw [nXk,h1];exact Nat.min_eq_left hm,nXf hm h2,h.max,?_⟩;rcases h.at' with h0|⟨b,off,h1,h2⟩
 ·left;simp only at *;omega
 ·right
  refine ⟨b,off,h1,fun k hk=>?_⟩;have:=h2 k (nXn hk hm);simp only at hk;rw [show (rs.take m).getD k default=rs.getD k default by simp [hk]];exact this
theorem RS.at{w:World}{ao:Option Addr}{n c:Nat}{rs:List RH}(h:RS w ⟨ao,n,c⟩ rs){k:Nat}(hk:k<n):∃ b off,ao=some ⟨b,off,none⟩∧RAt w b (off+k*3) (rs.getD k default):=by
 rcases h.at' with h0|⟨b,off,h1,h2⟩
 ·simp only at h0;omega
 ·exact ⟨b,off,h1,h2 k hk⟩
theorem RBk.rs{w:World}{L:Nat}{rs:List RH}{re:Array Value}(h:RBk w L rs re){n c:Nat}(hn:rs.length=n)(hc:n≤c)(hm:c≤9223372036854775807):RS w ⟨some ⟨L,0,none⟩,n,c⟩ rs :=
 ⟨hn,hc,hm,Or.inr ⟨L,0,rfl,fun k hk=>by rw [Nat.zero_add];exact h.at (by simp only at hk;omega)⟩⟩
def dk(P:World→RH→Rat→Prop)(w:World)(rs:List RH)(qs:List Rat):Prop:=rs.length=qs.length∧∀ k,k<qs.length→P w (rs.getD k default) (qs.getD k 0)
theorem dk.raw_ext{w w':World}{rs:List RH}{qs:List Rat}(h:dk aX w rs qs)(he:Ext w w'):dk aX w' rs qs:=⟨h.1,fun k hk=>(h.2 k hk).ext he⟩
theorem dk.can_ext{w w':World}{rs:List RH}{qs:List Rat}(h:dk aA w rs qs)(he:Ext w w'):dk aA w' rs qs:=⟨h.1,fun k hk=>(h.2 k hk).ext he⟩
theorem dk.keep{w w':World}{rs:List RH}{qs:List Rat}(h:dk aA w rs qs)(he:dJ w w'):dk aA w' rs qs:=⟨h.1,fun k hk=>(h.2 k hk).keep he⟩
theorem dk.nil(P:World→RH→Rat→Prop)(w:World):dk P w [] []:=⟨rfl,fun k hk=>by simp at hk⟩
theorem dk.snoc{P:World→RH→Rat→Prop}{w:World}{rs:List RH}{qs:List Rat}(h:dk P w rs qs){r:RH}{q:Rat}(hr:P w r q):dk P w (rs++[r]) (qs++[q]):=by
 refine ⟨by simp [h.1],fun k hk=>?_⟩;by_cases hlt:k<qs.length
 ·have h1:=h.1;rw [show (rs++[r]).getD k default=rs.getD k default by rw [nXd,List.getElem?_append_left zo,←nXd],show (qs++[q]).getD k 0=qs.getD k 0 by rw [nXd,List.getElem?_append_left hlt,←nXd]];exact h.2 k hlt
 ·obtain rfl:k=qs.length:=by simp at hk;omega
  rw [show (qs++[q]).getD qs.length 0=q by simp,←h.1,show (rs++[r]).getD rs.length default=r by simp];exact hr
theorem dk.take{P:World→RH→Rat→Prop}{w:World}{rs:List RH}{qs:List Rat}(h:dk P w rs qs)(m:Nat):dk P w (rs.take m) (qs.take m):=by
 refine ⟨by simp [h.1],fun k hk=>?_⟩;simp only [nXk] at hk;rw [show (rs.take m).getD k default=rs.getD k default by simp [show k<m by omega],show (qs.take m).getD k 0=qs.getD k 0 by simp [show k<m by omega]];exact h.2 k zo
def cN(w:World)(s:SH)(qs:List Rat):Prop:=∃ rs,RS w s rs∧dk aX w rs qs
def bg(w:World)(s:SH)(qs:List Rat):Prop:=∃ rs,RS w s rs∧dk aA w rs qs
theorem cN.ext{w w':World}{s:SH}{qs:List Rat}(h:cN w s qs)(he:Ext w w'):cN w' s qs:=let ⟨rs,h1,h2⟩:=h;⟨rs,h1.ext he,h2.raw_ext he⟩
instance {w w':World} {s:SH} {qs:List Rat}:Go.Front.Mv w w' (cN w s qs) (cN w' s qs):=⟨fun e h=>cN.ext h e⟩

theorem bg.ext{w w':World}{s:SH}{qs:List Rat}(h:bg w s qs)(he:Ext w w'):bg w' s qs:=let ⟨rs,h1,h2⟩:=h;⟨rs,h1.ext he,h2.can_ext he⟩
instance {w w':World} {s:SH} {qs:List Rat}:Go.Front.Mv w w' (bg w s qs) (bg w' s qs):=⟨fun e h=>bg.ext h e⟩

theorem cN.len{w:World}{s:SH}{qs:List Rat}(h:cN w s qs):qs.length=s.n:=let ⟨_,h1,h2⟩:=h;h2.1.symm.trans h1.len
theorem bg.len{w:World}{s:SH}{qs:List Rat}(h:bg w s qs):qs.length=s.n:=let ⟨_,h1,h2⟩:=h;h2.1.symm.trans h1.len
theorem cN.le{w:World}{s:SH}{qs:List Rat}(h:cN w s qs):s.n≤s.c:=let ⟨_,h1,_⟩:=h;h1.le
theorem bg.le{w:World}{s:SH}{qs:List Rat}(h:bg w s qs):s.n≤s.c:=let ⟨_,h1,_⟩:=h;h1.le
theorem cN.max{w:World}{s:SH}{qs:List Rat}(h:cN w s qs):s.c≤9223372036854775807:=let ⟨_,h1,_⟩:=h;h1.max
theorem bg.max{w:World}{s:SH}{qs:List Rat}(h:bg w s qs):s.c≤9223372036854775807:=let ⟨_,h1,_⟩:=h;h1.max
theorem cN.take{w:World}{ao:Option Addr}{n c:Nat}{qs:List Rat}(h:cN w ⟨ao,n,c⟩ qs){m:Nat}(hm:m≤n):cN w ⟨ao,m,c⟩ (qs.take m):=let ⟨_,h1,h2⟩:=h;⟨_,h1.take hm,h2.take m⟩
theorem bg.take{w:World}{ao:Option Addr}{n c:Nat}{qs:List Rat}(h:bg w ⟨ao,n,c⟩ qs){m:Nat}(hm:m≤n):bg w ⟨ao,m,c⟩ (qs.take m):=let ⟨_,h1,h2⟩:=h;⟨_,h1.take hm,h2.take m⟩
theorem cN.at{w:World}{ao:Option Addr}{n c:Nat}{qs:List Rat}(h:cN w ⟨ao,n,c⟩ qs){k:Nat}(hk:k<n):∃ b off r,ao=some ⟨b,off,none⟩∧RAt w b (off+k*3) r∧aX w r (qs.getD k 0):=by
 have hl:=h.len;obtain ⟨rs,h1,h2⟩:=h;obtain ⟨b,off,h3,h4⟩:=h1.at hk;exact ⟨b,off,_,h3,h4,h2.2 k (by simp only at hl;omega)⟩
theorem bg.at{w:World}{ao:Option Addr}{n c:Nat}{qs:List Rat}(h:bg w ⟨ao,n,c⟩ qs){k:Nat}(hk:k<n):∃ b off r,ao=some ⟨b,off,none⟩∧RAt w b (off+k*3) r∧aA w r (qs.getD k 0):=by
 have hl:=h.len;obtain ⟨rs,h1,h2⟩:=h;obtain ⟨b,off,h3,h4⟩:=h1.at hk;exact ⟨b,off,_,h3,h4,h2.2 k (by simp only at hl;omega)⟩
def SzL(k:Nat)(qs:List Rat):Prop:=∀ q ∈ qs,Sz k q
theorem SzL.mono{k l:Nat}{qs:List Rat}(h:SzL k qs)(hl:k≤l):SzL l qs:=fun q hq=>(h q hq).mono hl
theorem k8{qs:List Rat}{k:Nat}(h:k<qs.length):qs.getD k 0 ∈ qs:=by
 rw [show qs.getD k 0=qs[k] by simp [h]];exact List.getElem_mem h
theorem SzL.at{k:Nat}{qs:List Rat}(h:SzL k qs){i:Nat}(hi:i<qs.length):Sz k (qs.getD i 0):=h _ (k8 hi)
theorem bg.raw{w:World}{s:SH}{qs:List Rat}{k:Nat}(h:bg w s qs)(hs:SzL k qs)(hk:k≤134217728):cN w s qs :=
 let ⟨rs,h1,h2⟩:=h;⟨rs,h1,h2.1,fun i hi=>(h2.2 i hi).raw (hs.at hi) hk⟩
theorem ii:(Tryz.prog.info? 37).map (fun i=>(i.zero,i.size,i.bytes))=some (some (RH.v default),3,56):=by kernel_rfl
theorem uX(n:Nat):madeCells (RH.v default).cells (n*3)=(av (List.replicate n default)).toArray:=by
 have h0:(RH.v default).cells=#[.bool false,.slice none 0 0,.slice none 0 0]:=by rfl
 rw [h0];apply Array.ext (by simp [madeCells,aC]);intro k h1 h2;have h3:k<n*3:=by simpa [madeCells] using h1
 have h4:(av (List.replicate n default)).toArray[k]?=some ((av (List.replicate n default)).toArray[k]):=by simp
 have e:k=k / 3*3+k % 3:=by omega
 have h5:=fv (List.replicate n default) (k:=k / 3) (j:=k % 3) (by simp;omega) (Nat.mod_lt _ dZ);rw [←e] at h5;rw [List.getElem?_toArray,h5] at h4;have h6:(List.replicate n (default:RH)).getD (k / 3) default=default:=by simp [show k / 3<n by omega]
 rw [h6] at h4;have h7:k % 3=0∨k % 3=1∨k % 3=2:=by omega
 simp only [madeCells];rcases h7 with h7|h7|h7
 ·rw [h7] at h4;simp only [jy,List.getElem?_cons_zero,Option.some.injEq] at h4;rw [←h4];simp [h7];rfl
 ·rw [h7] at h4;simp only [jy,List.getElem?_cons_succ,List.getElem?_cons_zero,Option.some.injEq] at h4;rw [←h4];simp [h7];exact ⟨rfl,rfl,rfl⟩
 ·rw [h7] at h4;simp only [jy,List.getElem?_cons_succ,List.getElem?_cons_zero,Option.some.injEq] at h4;rw [←h4];simp [h7];exact ⟨rfl,rfl,rfl⟩
theorem RBk.make{w:World}{L n:Nat}{e:TypeId}(he:e=37)(h:w.heap[L]?=some (.cells (madeCells (RH.v default).cells (n*3)) e (0,0))):RBk w L (List.replicate n default) #[]:=by
 subst he;unfold RBk;rw [Array.append_empty,←uX,h]
def tz(l:List Rat):List Rat:=(l.reverse.dropWhile (· == 0)).reverse
theorem ju{l:List Rat}{k:Nat}(h:k<l.length)(h0:l.getD k 0=0):tz (l.take (k+1))=tz (l.take k):=by
 have e:l[k]=0:=by simpa [h] using h0
 rw [List.take_succ_eq_append_getElem h,e];simp [tz]
theorem o3{l:List Rat}{k:Nat}(h:k<l.length)(h0:l.getD k 0≠0):tz (l.take (k+1))=l.take (k+1):=by
 have e:l[k]≠0:=by simpa [h] using h0
 rw [List.take_succ_eq_append_getElem h];have:(l[k] == 0)=false:=by simpa using e
 unfold tz;rw [List.reverse_append,List.reverse_singleton,List.singleton_append,List.dropWhile_cons,this];simp
theorem gV{w w':World}{g:Nat}(hN:NoU w g)(h:∀ k,k<w.heap.size→k≠g→w'.heap[k]?=w.heap[k]?):dJ w w':=by
 intro ao n c ds hU;refine ⟨hU.len,hU.le,hU.max,hU.dig,hU.at'.imp id fun ⟨b,off,e,hc⟩=>⟨b,off,e,fun k hk=>?_⟩⟩;have hv:=hc k hk;have hb:b≠g:=by
  rintro rfl;have:=hN.not hv;simp [dL] at this
 rw [World.cell?_of_block (w:=w) (h b (nXq _ _ hv) hb)];exact hv
theorem br{w w':World}(h:Ext w w'):dJ w w':=fun _ _ _ _ hU=>hU.ext h
theorem fe(n:Nat):(Builtin.zeroCells (RH.v default).cells n).toList.all dL=true:=by
 rw [List.all_eq_true];intro x hx;have h0:(RH.v default).cells=#[.bool false,.slice none 0 0,.slice none 0 0]:=by rfl
 rw [h0] at hx;simp [Builtin.zeroCells] at hx;obtain ⟨a,-,rfl⟩:=hx;have h7:a % 3=0∨a % 3=1∨a % 3=2:=by omega
 rcases h7 with h7|h7|h7 <;> rw [h7] <;> rfl
theorem kJ{w:World}{N:Nat}{r:RH}(h:RBk w N [r] #[]):∀ j u,(av [r])[j]?=some u→w.cell? ((⟨N,0,none⟩:Addr).add j)=some u:=by
 intro j u hj;rw [cH,ae h,Array.append_empty,List.getElem?_toArray];exact hj
def fp(w:World)(L m:Nat)(ts:List Rat):Prop:=∃ rs,RBk w L (rs++List.replicate (m-ts.length) default) #[]∧dk aA w rs ts∧ts.length≤m
theorem fp.start{w:World}{L m:Nat}(h:RBk w L (List.replicate m default) #[]):fp w L m []:=⟨[],by simpa using h,dk.nil _ _,Nat.zero_le _⟩
theorem fp.ext{w w':World}{L m:Nat}{ts:List Rat}(h:fp w L m ts)(he:Ext w w'):fp w' L m ts:=let ⟨rs,h1,h2,h3⟩:=h;⟨rs,h1.ext he,h2.can_ext he,h3⟩
instance {w w':World} {L m:Nat} {ts:List Rat}:Go.Front.Mv w w' (fp w L m ts) (fp w' L m ts):=⟨fun e h=>fp.ext h e⟩

theorem fp.lt{w:World}{L m:Nat}{ts:List Rat}(h:fp w L m ts):L<w.heap.size:=let ⟨_,h1,_⟩:=h;h1.lt
theorem fp.frozen{w:World}{L m:Nat}{ts:List Rat}(h:fp w L m ts)(i:Nat):w.frozen? ⟨L,i,none⟩=false:=let ⟨_,h1,_⟩:=h;h1.frozen i
theorem fp.cells{w:World}{L m:Nat}{ts:List Rat}(h:fp w L m ts)(hlt:ts.length<m):∃ r,RAt w L (ts.length*3) r:=by
 obtain ⟨rs,h1,h2,h3⟩:=h;exact ⟨_,h1.at (by rw [nXi,nXx,h2.1];omega)⟩
structure F2 (w w1:World) (L m:Nat) (ts:List Rat) (w2:World):Prop where
 ext:Ext w w2
 keep:dJ w1 w2
 fill:fp w2 L m ts
 rest:∀ k o,k≠L→w1.heap[k]?=some o→w2.heap[k]?=some o
 size:w2.heap.size=w1.heap.size
theorem fp.put{w w1:World}{L m:Nat}{ts:List Rat}(h:fp w1 L m ts)(hE:Ext w w1)(hL:w.heap.size≤L)(hlt:ts.length<m){r:RH}{q:Rat}(hr:aA w1 r q) :
  ∃ w2,w2=CT w1 L (ts.length*3) r∧F2 w w1 L m (ts++[q]) w2:=by
 obtain ⟨rs,h1,h2,h3⟩:=h;have P:=h1.put hE hL rfl (k:=ts.length) (by rw [nXi,nXx,h2.1];omega) r;have e:(rs++List.replicate (m-ts.length) default).set ts.length r=(rs++[r])++List.replicate (m-(ts++[q]).length) default:=by
  rw [←h2.1,List.set_append_right _ _ (nXe _),Nat.sub_self,h2.1,show m-ts.length=(m-(ts++[q]).length)+1 by simp;omega,List.replicate_succ,List.set_cons_zero];simp
 rw [e] at P;exact ⟨_,rfl,P.ext,P.keep,⟨rs++[r],P.bk,(h2.keep P.keep).snoc (hr.keep P.keep),by simp;omega⟩,P.rest,P.size⟩
theorem rj{w:World}{a:Obj}{F:World→Prop}(h:∀ w2,Ext w w2→w2.heap[w.heap.size]?=some a→w2.heap.size=w.heap.size+1→F w2):F (w.alloc a) :=
 h _ (Ext.alloc _ _) (heap_alloc_new _ _) (by simp)
theorem uM{w:World}{a b:Obj}{F:World→Prop}(h:∀ w2,Ext w w2→w2.heap[w.heap.size]?=some a→w2.heap[w.heap.size+1]?=some b→w2.heap.size=w.heap.size+2→F w2):F ((w.alloc a).alloc b) :=
 h _ Ext.al2 lx qf (by simp)
theorem uL{w:World}{a b c:Obj}{F:World→Prop}(h:∀ w2,Ext w w2→w2.heap[w.heap.size]?=some a→w2.heap[w.heap.size+1]?=some b→w2.heap[w.heap.size+2]?=some c→w2.heap.size=w.heap.size+3→F w2):F (((w.alloc a).alloc b).alloc c) :=
 h _ Ext.al3 Aa tu Ez (by simp)
theorem nmA{w:World}{a:Obj}{F:World→Prop}(h:∀ w2,Ext w w2→RowKit.Hid (w2.heap[w.heap.size]?=some a)→w2.heap.size≤w.heap.size+1→w.heap.size+1≤w2.heap.size→F w2):F (w.alloc a):=rj fun w2 e h0 hz=>h w2 e h0 (Nat.le_of_eq hz) (Nat.le_of_eq hz.symm)
theorem eX{w:World}{a b:Obj}{F:World→Prop}(h:∀ w2,Ext w w2→RowKit.Hid (w2.heap[w.heap.size]?=some a)→RowKit.Hid (w2.heap[w.heap.size+1]?=some b)→w2.heap.size≤w.heap.size+2→w.heap.size+2≤w2.heap.size→F w2):F ((w.alloc a).alloc b):=uM fun w2 e h0 h1 hz=>h w2 e h0 h1 (Nat.le_of_eq hz) (Nat.le_of_eq hz.symm)
theorem sO{w:World}{a b c:Obj}{F:World→Prop}(h:∀ w2,Ext w w2→RowKit.Hid (w2.heap[w.heap.size]?=some a)→RowKit.Hid (w2.heap[w.heap.size+1]?=some b)→RowKit.Hid (w2.heap[w.heap.size+2]?=some c)→w2.heap.size≤w.heap.size+3→w.heap.size+3≤w2.heap.size→F w2):F (((w.alloc a).alloc b).alloc c):=uL fun w2 e h0 h1 h2 hz=>h w2 e h0 h1 h2 (Nat.le_of_eq hz) (Nat.le_of_eq hz.symm)
structure cT (w1:World) (b:Nat) (T:TypeId) (cs:Array Value) (w2:World):Prop where
 keep:dJ w1 w2
 bx:w2.heap[b]?=some (.cells cs T (0,0))
 rest:∀ k o,k≠b→w1.heap[k]?=some o→w2.heap[k]?=some o
 size:w2.heap.size=w1.heap.size
 below:Below b w1 w2
theorem cT.ext{w w1 w2:World}{b:Nat}{T:TypeId}{cs:Array Value}(h:cT w1 b T cs w2)(hE:Ext w w1)(hb:w.heap.size≤b):Ext w w2:=Ext.of_below hE h.below hb
theorem cT.of{w1:World}{b:Nat}{T:TypeId}{cs:Array Value}{w2:World}(hlt:b<w1.heap.size)(hN:NoU w1 b)(hm:aL (·=b) w1 w2)(hz:w2.heap.size=w1.heap.size)(hb:w2.heap[b]?=some (.cells cs T (0,0))):cT w1 b T cs w2 :=
 ⟨gV hN fun k hk hne=>hm.block k hk hne,hb,fun _ _ hk h=>hm.blk hk h,hz,hm.below (nYm hlt) (fun _ hk=>nle hk.symm)⟩
theorem cT.cell{w1 w2:World}{b:Nat}{T:TypeId}{cs:Array Value}(h:cT w1 b T cs w2){p:Addr}{v:Value}(hb:p.block≠b)(hv:w1.cell? p=some v):w2.cell? p=some v:=by
 have hl:=nXq _ _ hv;have hbk:w2.heap[p.block]?=w1.heap[p.block]?:=by
  rw [Array.getElem?_eq_getElem hl];exact h.rest p.block _ hb (Array.getElem?_eq_getElem hl)
 rw [World.cell?_of_block (w:=w1) hbk];exact hv
theorem aL.put{S:Nat→Prop}{w w1 w2:World}{b:Nat}{T:TypeId}{cs:Array Value}(h:aL S w w1)(T2:cT w1 b T cs w2)(hb:S b∨w.heap.size≤b):aL S w w2:=by
 have hm:=T2.below;refine ⟨hm.os.trans h.os,hm.tape.trans h.tape,hm.output.trans h.output,nXf h.size (nle T2.size.symm),fun k hk hs=>?_⟩;have hl:k<w1.heap.size:=nXn hk h.size;have hne:k≠b:=by
  rintro rfl;rcases hb with hb|hb
  ·exact hs hb
  ·omega
 rw [T2.rest k _ hne (Array.getElem?_eq_getElem hl),←h.block k hk hs,Array.getElem?_eq_getElem hl]
theorem dJ.trans{a b c:World}(h:dJ a b)(k:dJ b c):dJ a c:=fun _ _ _ _ hU=>k _ _ _ _ (h _ _ _ _ hU)
theorem dJ.refl(a:World):dJ a a:=fun _ _ _ _ h=>h
theorem iC{w1:World}{b:Nat}{T:TypeId}{c0 v0:Value}{F:World→Prop}(hb:w1.heap[b]?=some (.cells #[c0] T (0,0)))(hn:dL c0=true)(h:∀ w2,cT w1 b T #[v0] w2→F w2):F (w1.setCell ⟨b,0,none⟩ v0) :=
 h _ (cT.of (nXb.1 hb).1 (ai hb (by simp [hn])) (aL.setCell w1 ⟨b,0,none⟩ v0) (by simp [World.setCell]) (ax hb 0 v0))
theorem aN{w1:World}{b:Nat}{T:TypeId}{c0 c1 c2 v0 v1 v2:Value}{F:World→Prop}(hb:w1.heap[b]?=some (.cells #[c0,c1,c2] T (0,0)))(hn:#[c0,c1,c2].toList.all dL=true)(h:∀ w2,cT w1 b T #[v0,v1,v2] w2→F w2) :
  F (((w1.setCell ⟨b,0,none⟩ v0).setCell ⟨b,1,none⟩ v1).setCell ⟨b,2,none⟩ v2) :=
 h _ (cT.of (nXb.1 hb).1 (ai hb hn) (((aL.setCell w1 ⟨b,0,none⟩ v0).trans (aL.setCell _ ⟨b,1,none⟩ v1)).trans (aL.setCell _ ⟨b,2,none⟩ v2)) (by simp [World.setCell]) (ax (ax (ax hb 0 v0) 1 v1) 2 v2))
theorem eK{w1:World}{L:Nat}{rs:List RH}{re:Array Value}{k:Nat}{F:World→Prop}{neg:Bool}{a b:Option Addr}{n c m d:Nat}(h:RBk w1 L rs re)(hre:re.toList.all dL=true)(hk:k<rs.length)
 (H:∀ w2,cT w1 L 37 ((av (rs.set k ⟨neg,a,n,c,b,m,d⟩)).toArray++re) w2→F w2) :
  F (((w1.setCell ⟨L,k*3,none⟩ (.bool neg)).setCell ⟨L,k*3+1,none⟩ (.slice a n c)).setCell ⟨L,k*3+2,none⟩ (.slice b m d)):=by
 refine H _ (cT.of h.lt (h.noU hre) (((aL.setCell w1 ⟨L,k*3,none⟩ _).trans (aL.setCell _ ⟨L,k*3+1,none⟩ _)).trans (aL.setCell _ ⟨L,k*3+2,none⟩ _)) (by simp [World.setCell]) ?_);exact (h.put (w:={ w1 with heap:=#[] }) ⟨rfl,rfl,rfl,Nat.zero_le _,fun k hk=>absurd hk (Nat.not_lt_zero _)⟩ (Nat.zero_le _) hre hk ⟨neg,a,n,c,b,m,d⟩).bk
theorem aX.keep{w w':World}{s:RH}{q:Rat}(h:aX w s q)(he:dJ w w'):aX w' s q:=let ⟨ds,es,h1,h2,h3⟩:=h;⟨ds,es,he _ _ _ _ h1,he _ _ _ _ h2,h3⟩
def LIn(w:World)(s:SH)(qs:List Rat)(lo hi:Nat):Prop:=∃ rs,RS w s rs∧dk aA w rs qs∧(s.n=0∨∃ b off,s.a=some ⟨b,off,none⟩∧lo≤b∧b<hi)
theorem LIn.can{w:World}{s:SH}{qs:List Rat}{lo hi:Nat}(h:LIn w s qs lo hi):bg w s qs:=let ⟨rs,h1,h2,_⟩:=h;⟨rs,h1,h2⟩
theorem LIn.ext{w w':World}{s:SH}{qs:List Rat}{lo hi:Nat}(h:LIn w s qs lo hi)(he:Ext w w'):LIn w' s qs lo hi:=let ⟨rs,h1,h2,h3⟩:=h;⟨rs,h1.ext he,h2.can_ext he,h3⟩
instance {w w':World} {s:SH} {qs:List Rat} {lo hi:Nat}:Go.Front.Mv w w' (LIn w s qs lo hi) (LIn w' s qs lo hi):=⟨fun e h=>LIn.ext h e⟩

theorem LIn.mono{w:World}{s:SH}{qs:List Rat}{lo hi lo' hi':Nat}(h:LIn w s qs lo hi)(h1:lo'≤lo)(h2:hi≤hi'):LIn w s qs lo' hi' :=
 let ⟨rs,a,b,c⟩:=h;⟨rs,a,b,c.imp id fun ⟨x,o,e,l,m⟩=>⟨x,o,e,nXf h1 l,nXn m h2⟩⟩
theorem LIn.len{w:World}{s:SH}{qs:List Rat}{lo hi:Nat}(h:LIn w s qs lo hi):qs.length=s.n:=h.can.len
theorem RS.in{w:World}{s:SH}{rs:List RH}(h:RS w s rs):s.n=0∨∃ b off,s.a=some ⟨b,off,none⟩∧0≤b∧b<w.heap.size:=by
 rcases h.at' with h0|⟨b,off,h1,h2⟩
 ·exact Or.inl h0
 ·by_cases hn:s.n=0
  ·exact Or.inl hn
  ·exact Or.inr ⟨b,off,h1,Nat.zero_le _,nXq _ _ (h2 0 zo).1⟩
theorem bg.lin{w:World}{s:SH}{qs:List Rat}(h:bg w s qs):LIn w s qs 0 w.heap.size:=let ⟨rs,h1,h2⟩:=h;⟨rs,h1,h2,h1.in⟩
theorem RS.put{w1 w2:World}{s:SH}{rs:List RH}{b lo hi:Nat}{T:TypeId}{cs:Array Value}(h:RS w1 s rs)(hp:s.n=0∨∃ b off,s.a=some ⟨b,off,none⟩∧lo≤b∧b<hi)(T2:cT w1 b T cs w2)(hb:b<lo∨hi≤b):RS w2 s rs:=by
 refine ⟨h.len,h.le,h.max,?_⟩;rcases hp with h0|⟨x,o,e,h1,h2⟩
 ·exact Or.inl h0
 ·rcases h.at' with h0|⟨x',o',e',h3⟩
  ·exact Or.inl h0
  ·rw [e] at e';obtain ⟨rfl,rfl⟩:x=x'∧o=o':=by simpa using e'
   refine Or.inr ⟨x,o,e,fun k hk=>?_⟩;have hc:=h3 k hk;have hl:=nXq _ _ hc.1;simp only at hl;have hbk:w2.heap[x]?=w1.heap[x]?:=by
    rw [Array.getElem?_eq_getElem hl];exact T2.rest x _ zo (Array.getElem?_eq_getElem hl)
   have cc:∀ i,w2.cell? ⟨x,i,none⟩=w1.cell? ⟨x,i,none⟩:=fun i=>World.cell?_of_block (w:=w1) hbk
   exact ⟨(cc _).trans hc.1,(cc _).trans hc.2.1,(cc _).trans hc.2.2⟩
theorem LIn.put{w1 w2:World}{s:SH}{qs:List Rat}{lo hi b:Nat}{T:TypeId}{cs:Array Value}(h:LIn w1 s qs lo hi)(T2:cT w1 b T cs w2)(hb:b<lo∨hi≤b):LIn w2 s qs lo hi :=
 let ⟨rs,h1,h2,h3⟩:=h;⟨rs,h1.put h3 T2 hb,h2.keep T2.keep,h3⟩
theorem LIn.take{w:World}{ao:Option Addr}{n c:Nat}{qs:List Rat}{lo hi:Nat}(h:LIn w ⟨ao,n,c⟩ qs lo hi){m:Nat}(hm:m≤n):LIn w ⟨ao,m,c⟩ (qs.take m) lo hi:=by
 obtain ⟨rs,h1,h2,h3⟩:=h;refine ⟨_,h1.take hm,h2.take m,?_⟩;rcases h3 with h3|h3
 ·left;simp only at *;omega
 ·exact Or.inr h3
def ct(B:Nat)(w:World)(s:SH)(qs:List Rat):Prop:=LIn w s qs B w.heap.size
theorem ct.can{B:Nat}{w:World}{s:SH}{qs:List Rat}(h:ct B w s qs):bg w s qs:=LIn.can h
theorem ct.ext{B:Nat}{w w':World}{s:SH}{qs:List Rat}(h:ct B w s qs)(he:Ext w w'):ct B w' s qs:=(LIn.ext h he).mono (nXe _) he.size
instance {B:Nat} {w w':World} {s:SH} {qs:List Rat}:Go.Front.Mv w w' (ct B w s qs) (ct B w' s qs):=⟨fun e h=>ct.ext h e⟩

theorem ct.mono{B B':Nat}{w:World}{s:SH}{qs:List Rat}(h:ct B w s qs)(hb:B'≤B):ct B' w s qs:=LIn.mono h hb (nXe _)
theorem ct.put{B:Nat}{w1 w2:World}{s:SH}{qs:List Rat}{b:Nat}{T:TypeId}{cs:Array Value}(h:ct B w1 s qs)(T2:cT w1 b T cs w2)(hb:b<B):ct B w2 s qs :=
 (LIn.put h T2 (Or.inl hb)).mono (nXe _) (nle T2.size.symm)
theorem ct.nil(B:Nat)(w:World):ct B w ⟨none,0,0⟩ []:=⟨[],RS.nil _ _ _ dZ,dk.nil _ _,Or.inl rfl⟩
theorem ct.len{B:Nat}{w:World}{s:SH}{qs:List Rat}(h:ct B w s qs):qs.length=s.n:=LIn.len h
theorem fp.new{w:World}{L m B:Nat}{ts:List Rat}(h:fp w L m ts)(hB:B≤L)(hm:ts.length=m)(hx:m≤9223372036854775807):ct B w ⟨some ⟨L,0,none⟩,m,m⟩ ts:=by
 have hl:=h.lt;obtain ⟨rs,h1,h2,h3⟩:=h;rw [hm,Nat.sub_self,List.replicate_zero,List.append_nil] at h1;exact ⟨rs,h1.rs (by rw [h2.1,hm]) (nXe _) hx,h2,Or.inr ⟨L,0,rfl,hB,hl⟩⟩
def qj(w:World)(D:Nat→Prop)(v:Value)(rs:List RH):Prop:=(v=.slice none 0 0∧rs=[])∨∃ L cap re,v=.slice (some ⟨L,0,none⟩) rs.length cap∧D L∧RBk w L rs re∧rs.length≤cap∧cap≤9223372036854775807∧rs.length*3+re.size=cap*3∧re.toList.all dL=true
theorem qj.nil(w:World)(D:Nat→Prop):qj w D (.slice none 0 0) []:=Or.inl ⟨rfl,rfl⟩
theorem qj.ext{w w':World}{D:Nat→Prop}{v:Value}{rs:List RH}(h:qj w D v rs)(he:Ext w w'):qj w' D v rs :=
 h.imp id fun ⟨L,cap,re,h1,h2,h3,h4⟩=>⟨L,cap,re,h1,h2,h3.ext he,h4⟩
instance {w w':World} {D:Nat→Prop} {v:Value} {rs:List RH}:Go.Front.Mv w w' (qj w D v rs) (qj w' D v rs):=⟨fun e h=>qj.ext h e⟩

theorem qj.mono{w:World}{D D':Nat→Prop}{v:Value}{rs:List RH}(h:qj w D v rs)(hD:∀ k,k<w.heap.size→D k→D' k):qj w D' v rs :=
 h.imp id fun ⟨L,cap,re,h1,h2,h3,h4⟩=>⟨L,cap,re,h1,hD _ h3.lt h2,h3,h4⟩
theorem lE(T ty:TypeId)(hT:Tryz.prog.underlying T=some (.slice 37))(w:World)(D:Nat→Prop)(v:Value)(rs:List RH)(r:RH)(N:Nat)(hown:qj w D v rs)(hN:RBk w N [r] #[])(hl:rs.length≤1073741824)(hD:∀ k,w.heap.size≤k→D k) :
    ∃ L cap w',(Builtin.append_ #[T,T] ty #[v,.slice (some ⟨N,0,none⟩) 1 1]).run Tryz.prog w=.ok (.slice (some ⟨L,0,none⟩) (rs.length+1) cap) w'∧qj w' D (.slice (some ⟨L,0,none⟩) (rs.length+1) cap) (rs++[r])∧aL D w w'∧dJ w w':=by
  obtain ⟨i0,hi0,hz0,hz1,hz2⟩:=info_parts ii;have hnl:(av [r]).length=1*i0.size:=by rw [hz1];rfl
  have hgc:∀ need old,need≤9223372036854775807→need≤grownCap w need old 37∧grownCap w need old 37≤9223372036854775807:=fun need old h=>⟨grownCap_ge _ _ _ _,by have:=grownCap_le_maxLen w need old 37 (by simpa [maxLen] using h);simpa [maxLen] using this⟩
  have hzs:(RH.v default).cells.size=3:=by rfl
  rcases hown with ⟨rfl,rfl⟩|⟨L,cap,re,rfl,h1,h2,h3,h4,h5,h6⟩
  · have hr:=run_append_nil (P:=Tryz.prog) w T ty _ i0 _ hT hi0 hz0 ⟨N,0,none⟩ 1 1 (av [r]) hnl (kJ hN) dZ dZ (by rw [hz2];decide)
    obtain ⟨g1,g2⟩:=hgc 1 0 dZ;have he:Ext w (w.drew.alloc (.cells ((av [r]).toArray++Builtin.zeroCells (RH.v default).cells (grownCap w 1 0 37-1)) 37)):=(Ext.drew w).trans (Ext.alloc _ _);refine ⟨_,_,_,hr,Or.inr ⟨_,_,_,rfl,hD _ (nXe _),heap_alloc_new w.drew _,g1,g2,?_,fe _⟩,aL.of_ext he,br he⟩;rw [size_zeroCells,hzs];simp only [nXi,List.length_nil,List.length_cons];omega
  · by_cases hroom:rs.length+1≤cap
    · have hcs:((av rs).toArray++re).size=cap*3:=by rw [Array.size_append,List.size_toArray,aC,h5]
      have hr:=run_append_room (P:=Tryz.prog) w T ty _ i0 hT hi0 L rs.length cap _ h2 ⟨N,0,none⟩ 1 1 (av [r]) hnl (kJ hN) (jx _) hroom (by rw [hcs,hz1,hnl,hz1];omega);have e:(((av rs).toArray++re).toList.take (rs.length*i0.size)++av [r]++((av rs).toArray++re).toList.drop (rs.length*i0.size+(av [r]).length)).toArray=(av (rs++[r])).toArray++(re.toList.drop 3).toArray:=by
        rw [hz1,hnl,hz1,Array.toList_append,cz,←aC,List.take_left,←List.drop_drop,List.drop_left];apply Array.ext';simp
      rw [e] at hr;refine ⟨_,_,_,hr,Or.inr ⟨L,cap,_,by simp,h1,setRow_heap w L _ _ _ _ h2,by simpa using hroom,h4,?_,?_⟩,⟨rfl,rfl,rfl,by simp,fun k hk hnd=>setRow_other w L k _ (fun e=>hnd (e ▸ h1))⟩,gV (h2.noU h6) fun k _ hk=>setRow_other w L k _ hk⟩
      · simp
        omega
      · rw [List.all_eq_true] at h6 ⊢
        intro x hx;exact h6 x (List.mem_of_mem_drop hx)
    · have hr := run_append_grow (P := Tryz.prog) w T ty _ i0 _ hT hi0 hz0 ⟨L, 0, none⟩ rs.length cap (av rs) (by rw [aC, hz1]) (fun j u hj => by
          have hlt:j<(av rs).length:=(List.getElem?_eq_some_iff.1 hj).1;rw [cH,ae h2,Array.getElem?_append_left (by rw [List.size_toArray];exact hlt),List.getElem?_toArray];exact hj) ⟨N,0,none⟩ 1 1 (av [r]) hnl (kJ hN) zo zo (growslice_fits zo (by rw [hz2];omega))
      obtain ⟨g1,g2⟩:=hgc (rs.length+1) cap zo;have he:Ext w (w.drew.alloc (.cells ((av rs).toArray++(av [r]).toArray++Builtin.zeroCells (RH.v default).cells (grownCap w (rs.length+1) cap 37-(rs.length+1))) 37)):=(Ext.drew w).trans (Ext.alloc _ _);refine ⟨_,_,_,hr,Or.inr ⟨w.heap.size,_,Builtin.zeroCells (RH.v default).cells (grownCap w (rs.length+1) cap 37-(rs.length+1)),by simp,hD _ (nXe _),?_,by simpa using g1,g2,?_,fe _⟩,aL.of_ext he,br he⟩
      · unfold RBk
        rw [cz];have e2:(av rs++av [r]).toArray=(av rs).toArray++(av [r]).toArray:=by simp
        rw [e2];exact heap_alloc_new w.drew _
      · rw [size_zeroCells,hzs]
        simp only [nXi,List.length_nil,List.length_cons];omega
def dX(w:World)(D:Nat→Prop)(v:Value)(qs:List Rat):Prop:=∃ rs,qj w D v rs∧dk aA w rs qs
theorem dX.nil(w:World)(D:Nat→Prop):dX w D (.slice none 0 0) []:=⟨[],qj.nil _ _,dk.nil _ _⟩
theorem dX.ext{w w':World}{D:Nat→Prop}{v:Value}{qs:List Rat}(h:dX w D v qs)(he:Ext w w'):dX w' D v qs:=let ⟨rs,h1,h2⟩:=h;⟨rs,h1.ext he,h2.can_ext he⟩
instance {w w':World} {D:Nat→Prop} {v:Value} {qs:List Rat}:Go.Front.Mv w w' (dX w D v qs) (dX w' D v qs):=⟨fun e h=>dX.ext h e⟩

theorem dX.mono{w:World}{D D':Nat→Prop}{v:Value}{qs:List Rat}(h:dX w D v qs)(hD:∀ k,k<w.heap.size→D k→D' k):dX w D' v qs:=let ⟨rs,h1,h2⟩:=h;⟨rs,h1.mono hD,h2⟩
theorem dX.sh{w:World}{D:Nat→Prop}{v:Value}{qs:List Rat}(h:dX w D v qs):∃ s:SH,v=s.v:=by
 obtain ⟨rs,⟨rfl,rfl⟩|⟨L,cap,re,rfl,_⟩,h2⟩:=h
 ·exact ⟨⟨none,0,0⟩,rfl⟩
 ·exact ⟨⟨_,_,_⟩,rfl⟩
theorem dX.lin{w:World}{B:Nat}{s:SH}{qs:List Rat}(h:dX w (B≤·) s.v qs):ct B w s qs:=by
 obtain ⟨ao,n,c⟩:=s;obtain ⟨rs,h1,h2⟩:=h;rcases h1 with ⟨e,rfl⟩|⟨L,cap,re,e,hB,h3,h4,h5,h6,h7⟩
 ·have:qs=[]:=nXj.1 (by rw [←h2.1];rfl);subst this;obtain ⟨rfl,rfl,rfl⟩:ao=none∧n=0∧c=0:=by simpa using e
  exact ct.nil _ _
 ·obtain ⟨rfl,rfl,rfl⟩:ao=some ⟨L,0,none⟩∧n=rs.length∧c=cap:=by simpa using e
  exact ⟨rs,h3.rs rfl h4 h5,h2,Or.inr ⟨L,0,rfl,hB,h3.lt⟩⟩
theorem dX.new{w:World}{D:Nat→Prop}{B:Nat}{s:SH}{qs:List Rat}(h:dX w D s.v qs)(hD:∀ k,k<w.heap.size→D k→B≤k):ct B w s qs:=(h.mono hD).lin
theorem dX.can{w:World}{D:Nat→Prop}{s:SH}{qs:List Rat}(h:dX w D s.v qs):bg w s qs:=(h.new (B:=0) (fun _ _ _=>Nat.zero_le _)).can
theorem dX.len{w:World}{D:Nat→Prop}{s:SH}{qs:List Rat}(h:dX w D s.v qs):qs.length=s.n:=h.can.len
theorem mP{w:World}{N:Nat}{r:RH}{neg:Bool}{a b:Option Addr}{n c m d:Nat}(h:w.heap[N]?=some (.cells #[.bool neg,.slice a n c,.slice b m d] 37 (0,0)))(hr:r=⟨neg,a,n,c,b,m,d⟩):RBk w N [r] #[]:=by
 subst hr;unfold RBk;rw [h];rfl
theorem eC{w:World}{ops:Array Oper}{rest:List Oper}{o:Oper}{a:Act}{Q:Exit→Act→World→Prop}(hgd:o.guard=none)(s x:Operand)(T:TypeId)(hT:Tryz.prog.underlying T=some (.slice 37))
 (ho:o.op=.call { callee:=.builtin .append,args:=#[s,x],argTypes:=#[T,T] })(D:Nat→Prop)(v:Value)(qs:List Rat)(r:RH)(q:Rat)(N:Nat)(hs:a.eval s=v)(hown:dX w D v qs)
 (hx:a.eval x=.slice (some ⟨N,0,none⟩) 1 1)(hN:RBk w N [r] #[])(hr:aA w r q)(hl:qs.length≤1073741824)(hD:∀ k,w.heap.size≤k→D k)
 (h:∀ (s':SH) w',dX w' D s'.v (qs++[q])→aL D w w'→dJ w w'→wpList Tryz.prog ops Q rest (a.put o.dst s'.v) w'):wpList Tryz.prog ops Q (o :: rest) a w:=by
 obtain ⟨rs,h1,h2⟩:=hown;refine wpList_plain hgd fun K hK=>?_
 obtain ⟨L,cap,w',hrun,g1,g2,g3⟩:=lE T o.type hT w D v rs r N h1 hN (by rw [h2.1];exact hl) hD;unfold Oper.wp;simp [execOp,ho,resolve,invoke,builtin,hs,hx,hrun,Result.andThen];exact hK _ _ (h ⟨some ⟨L,0,none⟩,rs.length+1,cap⟩ w' ⟨_,g1,(h2.snoc hr).keep g3⟩ g2 g3)
theorem dr{w:World}{ops:Array Oper}{rest:List Oper}{o:Oper}{a:Act}{Q:Exit→Act→World→Prop}(hgd:o.guard=none)(s x:Operand)(T:TypeId)(hT:Tryz.prog.underlying T=some (.slice 37))
 (ho:o.op=.call { callee:=.builtin .append,args:=#[s,x],argTypes:=#[T,T] })(D:Nat→Prop)(v:Value)(qs:List Rat)(r:RH)(q:Rat)(hs:a.eval s=v)(hown:dX w D v qs)
 (hx:a.eval x=.slice (some ⟨w.heap.size,0,none⟩) 1 1)(hr:aA w r q)(hl:qs.length≤1073741824)(hD:∀ k,w.heap.size≤k→D k)
 (h:∀ (s':SH) w',dX w' D s'.v (qs++[q])→aL D w w'→dJ w w'→wpList Tryz.prog ops Q rest (a.put o.dst s'.v) w'):wpList Tryz.prog ops Q (o :: rest) a (w.alloc (.cells #[.bool r.neg,.slice r.a r.n r.c,.slice r.b r.m r.d] 37)):=by
 have hE:Ext w (w.alloc (.cells #[.bool r.neg,.slice r.a r.n r.c,.slice r.b r.m r.d] 37)):=Ext.alloc _ _;refine eC hgd s x T hT ho D v qs r q w.heap.size hs (hown.ext hE) hx (mP (heap_alloc_new _ _) rfl) (hr.ext hE) hl (fun k hk=>hD k (nXf hE.size hk)) ?_;intro s' w' g1 g2 g3;exact h s' w' g1 ((aL.of_ext hE).trans g2) (fun _ _ _ _ hU=>g3 _ _ _ _ (hU.ext hE))
theorem Ext.mods{w w1 w2:World}{D:Nat→Prop}(h:Ext w w1)(m:aL D w1 w2)(hD:∀ k,D k→w.heap.size≤k):Ext w w2:=Ext.of_below h (m.below h.size hD) (nXe _)
end Go.Proofs.YtkcpmclnocmalaaGreat
