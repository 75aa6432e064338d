/- ResponseLinear returns true. -/
import Derived.Test.YtofhkmcllihgmaaGreatQLK7
import Derived.Test.YtofhkmcllihgmaaGreatQLK8
import Derived.Test.YtofhkmcllihgmaaGreatQLFrd
import Derived.Deep.DeepCutAuto
import Derived.Deep.CutBlock
import Derived.Test.YtofhkmcllihgmaaGreatRows
import Derived.Test.YtofhkmcllihgmaaGreatQLK1
import Derived.ProofKit
import Derived.OpenShut
import Derived.ShutString
import Derived.ChangeOld
import Derived.Lib.SmallJoins
set_option linter.unusedVariables false
namespace Go.Proofs.YtofhkmcllihgmaaGreat
open Go.RowKit Go.Front Go.Num Stab
attribute [local go_sem] XW.cell XW.frozen Go.Frd.XWd.cell Go.Frd.XWd.frozen
def atB(s:SH)(k:Nat):Prop:=∃ o,s.a=some ⟨k,o,none⟩
theorem bA.at{w:World}{D D':Nat→Prop}{s:SH}{qs:List Rat}(h:bA w D s.v qs)(hD:∀ k,k<w.heap.size→D k→atB s k→D' k):bA w D' s.v qs:=by
 obtain ⟨rs,h1,h2⟩:=h;refine ⟨rs,h1.imp id fun ⟨L,cap,re,e,g1,g2,g3⟩=>⟨L,cap,re,e,hD L g2.lt g1 ?_,g2,g3⟩,h2⟩;simp only [SH.v,Value.slice.injEq] at e;exact ⟨0,e.1⟩
theorem bA.loc{w:World}{D:Nat→Prop}{s:SH}{qs:List Rat}(h:bA w D s.v qs){k:Nat}(hk:atB s k):D k∧k<w.heap.size:=by
 obtain ⟨o,ho⟩:=hk;obtain ⟨rs,h1,h2⟩:=h;rcases h1 with ⟨e,-⟩|⟨L,cap,re,e,g1,g2,-⟩
 ·simp only [SH.v,Value.slice.injEq] at e;rw [e.1] at ho;cases ho
 ·simp only [SH.v,Value.slice.injEq] at e;rw [e.1] at ho;injection ho with ho
  injection ho with ho1 ho2 ho3
  subst ho1;exact ⟨g1,g2.lt⟩
def kH(B:Nat)(s t z:SH)(k:Nat):Prop:=B≤k∧¬ atB t k∧¬ atB z k
def vq(N:Nat)(r:RH)(b:Nat)(w:World):Prop:=N≤b∧w.heap[b]?=some (.cells #[.bool r.neg,.slice r.a r.n r.c,.slice r.b r.m r.d] 30 (0,0))
theorem vq.exd{N:Nat}{r:RH}{b:Nat}{w w':World}{D:Nat→Prop}(h:vq N r b w)(he:Go.Frd.Exd D w w')(hD:∀ k,D k→k<N):vq N r b w':=⟨h.1,he.block (fun hd=>by have:=hD _ hd;have:=h.1;omega) h.2⟩
def BQ(N:Nat)(q:Rat)(p:Nat×RH)(w:World):Prop:=vq N p.2 p.1 w∧au w p.2 q
theorem BQ.ext{N:Nat}{q:Rat}{p:Nat×RH}{w w':World}(h:BQ N q p w)(he:Ext w w'):BQ N q p w':=⟨⟨h.1.1,he.block h.1.2⟩,h.2.ext he⟩
instance {N:Nat} {q:Rat} {p:Nat×RH} {w w':World}:Go.Front.Mv w w' (BQ N q p w) (BQ N q p w'):=⟨fun e h=>BQ.ext h e⟩

theorem BQ.exd{N:Nat}{q:Rat}{p:Nat×RH}{w w':World}{D:Nat→Prop}(h:BQ N q p w)(he:Go.Frd.Exd D w w')(hD:∀ k,D k→k<N):BQ N q p w':=⟨h.1.exd he hD,h.2.keep he.2⟩
theorem kS{P:Program}{o:Oper}{a:Act}{w:World}{N:Nat}{r:RH}{q:Rat}(hN:N≤w.heap.size)(hr:au w r q)(hrun:(execOp a.eval o).run P w=.ok (.value (.slice (some ⟨w.heap.size,0,none⟩) 1 1)) (w.alloc (.cells #[.bool r.neg,.slice r.a r.n r.c,.slice r.b r.m r.d] 30 (0,0)))):bI P o a w (fun p:Nat×RH=>.slice (some ⟨p.1,0,none⟩) 1 1) (fun p w'=>BQ N q p w'):=by
 unfold bI;rw [hrun];exact ⟨Ext.alloc _ _,(w.heap.size,r),rfl,⟨hN,heap_alloc_new w _⟩,hr.ext (Ext.alloc _ _)⟩
theorem bA.mods{w w':World}{D D2:Nat→Prop}{v:Value}{qs:List Rat}(h:bA w D v qs)(m:aU D2 w w')(k:fk w w')(hd:∀ i,D i→¬ D2 i):bA w' D v qs:=by
 obtain ⟨rs,h1,h2⟩:=h;exact ⟨rs,h1.imp id fun ⟨L,cap,re,g1,g2,g3,g4⟩=>⟨L,cap,re,g1,g2,m.blk (hd L g2) g3,g4⟩,h2.keep k⟩
theorem mP{D0 DD:Nat→Prop}{o:Oper}{a:Act}{w:World}(s x:Operand)(T:TypeId)(hT:Tryz.prog.underlying T=some (.slice 30))(ho:o.op=.call { callee:=.builtin .append,args:=#[s,x],argTypes:=#[T,T] })
 (y:SH)(qs:List Rat)(b:Nat)(r:RH)(q:Rat)(hs:a.eval s=y.v)(hown:bA w D0 y.v qs)(hx:a.eval x=.slice (some ⟨b,0,none⟩) 1 1)
 (hb:w.heap[b]?=some (.cells #[.bool r.neg,.slice r.a r.n r.c,.slice r.b r.m r.d] 30 (0,0)))(hr:au w r q)(hl:qs.length≤1073741824)(hD0:∀ k,w.heap.size≤k→D0 k)(hDD:∀ k,atB y k→DD k) :
  Go.Frd.specAtd Tryz.prog DD o a w SH.v (fun x w'=>bA w' D0 x.v (qs++[q])):=by
 have hown2:bA w (fun k=>(DD k∧D0 k)∨w.heap.size≤k) y.v qs:=hown.at (fun k _ h1 h2=>Or.inl ⟨hDD k h2,h1⟩);obtain ⟨rs,h1,h2⟩:=hown2;obtain ⟨L,cap,w',hrun,g1,g2,g3⟩:=eQ T o.type hT w (fun k=>(DD k∧D0 k)∨w.heap.size≤k) y.v rs r b h1 (ig hb rfl) (by rw [h2.1];exact hl) (fun k hk=>Or.inr hk);have hrun2:(execOp a.eval o).run Tryz.prog w=.ok (.value (.slice (some ⟨L,0,none⟩) (rs.length+1:Nat) cap)) w':=by simp [execOp,ho,resolve,invoke,builtin,hs,hx,hrun,Result.andThen]
 unfold Go.Frd.specAtd;rw [hrun2];refine ⟨⟨⟨g2.os,g2.tape,g2.output,g2.size,fun k hk hn=>g2.block k hk (fun h=>h.elim (fun h=>hn h.1) (fun h=>by omega))⟩,g3⟩,⟨some ⟨L,0,none⟩,rs.length+1,cap⟩,rfl,?_⟩;exact bA.mono (D:=fun k=>(DD k∧D0 k)∨w.heap.size≤k) ⟨rs++[r],g1,(h2.snoc hr).keep g3⟩ (fun k _ h=>h.elim (fun h=>h.2) (fun h=>hD0 k h))
def co(f:Nat→Rat)(j:Nat):List Rat:=(List.range j).map f
theorem ce(f:Nat→Rat)(j:Nat):(co f j).length=j:=by simp [co]
theorem io(f:Nat→Rat)(j:Nat):co f j++[f j]=co f (j+1):=by simp [co,List.range_succ]
theorem l7(f:Nat→Rat){j k:Nat}(h:k<j):(co f j).getD k 0=f k:=by simp [co,h]
theorem ju(f:Nat→Rat){j k:Nat}(h:k<j):seq (co f j) k=f k:=l7 f h
theorem cI{s:Nat}{f:Nat→Rat}(h:∀ i,Sz s (f i))(j:Nat):SzL s (co f j):=fun q hq=>by
 obtain ⟨k,-,rfl⟩:=List.mem_map.1 hq;exact h k
def uF(xs:List Int)(i:Nat):Rat:=gC (xs.getD i 0)
def wF(xs ys:List Int)(c:Int)(i:Nat):Rat:=gC (xs.getD i 0)*gC c+gC (ys.getD i 0)
theorem ue(xs:List Int)(i:Nat):Sz 1 (uF xs i):=f6 _
theorem vw(xs ys:List Int)(c:Int)(i:Nat):Sz 4 (wF xs ys c i):=(((f6 _).mul (f6 _)).add (f6 _)).mono (by decide)
def tU(l:List Rat)(r:SH×Int)(w:World):Prop:=r.2=0∧aI w r.1 l
theorem tU.ext{l:List Rat}{r:SH×Int}{w w':World}(h:tU l r w)(he:Ext w w'):tU l r w':=⟨h.1,h.2.ext he⟩
instance {l:List Rat} {r:SH×Int} {w w':World}:Go.Front.Mv w w' (tU l r w) (tU l r w'):=⟨fun e h=>tU.ext h e⟩

set_option maxRecDepth 8000 in
set_option maxHeartbeats 8000000 in
theorem nd(bo ko xo yo:Option Addr)(bc kc xc yc:Nat)(bs ks xs ys:List Int)(c:Int)(w:World)
 (h0:br w bo bs)(r0:InR bs)(l0:bs.length≤9223372036854775807)(c0:bs.length≤bc)(m0:bc≤9223372036854775807)
 (h1:br w ko ks)(r1:InR ks)(l1:ks.length≤9223372036854775807)(c1:ks.length≤kc)(m1:kc≤9223372036854775807)
 (h2:br w xo xs)(r2:InR xs)(l2:xs.length≤9223372036854775807)(c2:xs.length≤xc)(m2:xc≤9223372036854775807)
 (h3:br w yo ys)(r3:InR ys)(l3:ys.length≤9223372036854775807)(c3:ys.length≤yc)(m3:yc≤9223372036854775807)
 (hc1:-9223372036854775808≤c)(hc2:c≤9223372036854775807) :
  aq 7 [.slice bo bs.length bc,.slice ko ks.length kc,.slice xo xs.length xc,.slice yo ys.length yc,.int .i64 c] w (fun _:Unit=>.bool true) (fun _ _=>True):=by
 have HX:=Hi (Ext.refl w);have HC1:Hid (∀ w1,Ext w w1→aq 56 [.slice bo bs.length bc,.slice ko ks.length kc] w1 FH.v (fun f w'=>vi w' f (o5 bs) (pV ks))):=Hi (fun w1 hE=>ni bo ko bc kc bs ks w1 (h0.ext hE) r0 l0 c0 m0 (h1.ext hE) r1 l1 c1 m1);have HXS:=Hi h2;have HYS:=Hi h3;have RXS:=Hi r2;have RYS:=Hi r3;have P1:=Hi (vI bs ks);obtain ⟨n0,e0⟩:∃ n,n=bs.length:=⟨_,rfl⟩;obtain ⟨n1,e1⟩:∃ n,n=ks.length:=⟨_,rfl⟩;obtain ⟨nx,e2⟩:∃ n,n=xs.length:=⟨_,rfl⟩;obtain ⟨ny,e3⟩:∃ n,n=ys.length:=⟨_,rfl⟩;obtain ⟨b,eb⟩:∃ b,b=o5 bs:=⟨_,rfl⟩;obtain ⟨a,ea⟩:∃ a,a=pV ks:=⟨_,rfl⟩;rw [←e0,←e1,←eb,←ea] at HC1;rw [←eb,←ea] at P1;have LXS:=Hi e2;have LYS:=Hi e3;rw [←e0,←e1,←e2,←e3];clear e0 e1 e2 e3 eb ea h0 r0 l0 c0 m0 h1 r1 l1 c1 m1 h2 r2 l2 c2 m2 h3 r3 l3 c3 m3;unfold aq;by_cases h8:10<nx
 case pos =>
  have h8i:(10:Int)<nx:=by omega
  go_enter Tryz.func7,Tryz.ntmps7
  go_wp2_with fail
  refine cM (fh _) fun x1 w1 hE _=>?_
  replace HX:=hE.tr HX;have hs_w1:=hE.size;clear hE;go_wp2
  go_ret
  exact ⟨(),rfl,HX.out,trivial⟩
 have h8i:¬ (10:Int)<nx:=by omega
 by_cases h9:10<ny
 case pos =>
  have h9i:(10:Int)<ny:=by omega
  go_enter Tryz.func7,Tryz.ntmps7
  go_wp2_with fail
  refine cM (fh _) fun x1 w1 hE _=>?_
  replace HX:=hE.tr HX;have hs_w1:=hE.size;clear hE;go_wp2
  go_ret
  exact ⟨(),rfl,HX.out,trivial⟩
 have h9i:¬ (10:Int)<ny:=by omega
 obtain ⟨N,hN⟩:∃ N,N=min nx ny:=⟨_,rfl⟩;have hNx:N≤nx:=by omega
 have hNy:N≤ny:=by omega
 have hNd:N=nx∨N=ny:=by omega
 have hN10:N≤10:=by omega
 clear hN;obtain ⟨fu,hfu⟩:∃ f,f=uF xs:=⟨_,rfl⟩;obtain ⟨fv,hfv⟩:∃ f,f=uF ys:=⟨_,rfl⟩;obtain ⟨fw,hfw⟩:∃ f,f=wF xs ys c:=⟨_,rfl⟩;have HFU:=Hi hfu;have HFV:=Hi hfv;have HFW:=Hi hfw;have ZU:Hid (∀ i,Sz 1 (fu i)):=Hi (by rw [hfu];exact ue xs);have ZV:Hid (∀ i,Sz 1 (fv i)):=Hi (by rw [hfv];exact ue ys);have ZW:Hid (∀ i,Sz 4 (fw i)):=Hi (by rw [hfw];exact vw xs ys c);have EW:Hid (∀ i,fw i=fu i*gC c+fv i):=Hi (by rw [hfw,hfu,hfv];exact fun _=>rfl);have ZC:=Hi (f6 c);clear hfu hfv hfw;have V1:Hid (jT b a (co fu N)=(0,bg b a (seq (co fu N)) N)):=Hi (by rw [js _ P1.out.vf,ce]);have V2:Hid (jT b a (co fv N)=(0,bg b a (seq (co fv N)) N)):=Hi (by rw [js _ P1.out.vf,ce]);have V3:Hid (jT b a (co fw N)=(0,bg b a (seq (co fw N)) N)):=Hi (by rw [js _ P1.out.vf,ce]);have V4:Hid (jT b a ((co fw N).take (N / 2))=(0,(bg b a (seq (co fw N)) N).take (N / 2))):=Hi (by
  rw [js _ P1.out.vf,List.length_take,ce,Nat.min_eq_left (by omega),nS b a _ (by omega)];exact congrArg (Prod.mk 0) (nQ b a (fun i hi=>by
   show ((co fw N).take (N / 2)).getD i 0=(co fw N).getD i 0;rw [List.getD_eq_getElem?_getD,List.getD_eq_getElem?_getD,List.getElem?_take,if_pos hi])))
 have VL:Hid (∀ n,n<N→(bg b a (seq (co fw N)) N).getD n 0=(bg b a (seq (co fu N)) N).getD n 0*gC c+(bg b a (seq (co fv N)) N).getD n 0):=Hi (sI P1.out.head (fun n hn=>by rw [ju _ hn,ju _ hn,ju _ hn,EW.out]));have ZR1:Hid (SzL 80000 (bg b a (seq (co fu N)) N)):=Hi (kX P1.out.zb.sz P1.out.za.sz (cI ZU.out N) (by decide) (by decide) (by decide) (Nat.le_refl _) (Nat.le_refl _) (f4 (Nat.le_refl 7) (Nat.le_refl 7) (Nat.le_refl 1) P1.out.lb P1.out.la hN10 (by decide)));have ZR2:Hid (SzL 80000 (bg b a (seq (co fv N)) N)):=Hi (kX P1.out.zb.sz P1.out.za.sz (cI ZV.out N) (by decide) (by decide) (by decide) (Nat.le_refl _) (Nat.le_refl _) (f4 (Nat.le_refl 7) (Nat.le_refl 7) (Nat.le_refl 1) P1.out.lb P1.out.la hN10 (by decide)));have ZR3:Hid (SzL 100000 (bg b a (seq (co fw N)) N)):=Hi (kX P1.out.zb.sz P1.out.za.sz (cI ZW.out N) (by decide) (by decide) (by decide) (Nat.le_refl _) (Nat.le_refl _) (f4 (Nat.le_refl 7) (Nat.le_refl 7) (Nat.le_refl 4) P1.out.lb P1.out.la hN10 (by decide)));have K1:Hid (jt 7 7 1 (tz b).length (tz a).length*2 ^ N≤60000000):=Hi (by rw [P1.out.tb,P1.out.ta];exact f4 (Nat.le_refl 7) (Nat.le_refl 7) (Nat.le_refl 1) P1.out.lb P1.out.la hN10 (by decide));have K3:Hid (jt 7 7 4 (tz b).length (tz a).length*2 ^ N≤60000000):=Hi (by rw [P1.out.tb,P1.out.ta];exact f4 (Nat.le_refl 7) (Nat.le_refl 7) (Nat.le_refl 4) P1.out.lb P1.out.la hN10 (by decide));have K4:Hid (jt 7 7 4 (tz b).length (tz a).length*2 ^ (N / 2)≤60000000):=Hi (by rw [P1.out.tb,P1.out.ta];exact f4 (Nat.le_refl 7) (Nat.le_refl 7) (Nat.le_refl 4) P1.out.lb P1.out.la (Nat.le_trans (Nat.div_le_self N 2) hN10) (by decide));go_enter Tryz.func7,Tryz.ntmps7
 go_wp2_with fail
 refine cM (HC1.out _ HX.out) fun x1 w1 hE G1=>?_
 replace HX:=hE.tr HX;have hs_w1:=hE.size;clear hE;obtain ⟨⟨ba,bn,bc⟩,⟨aa,an,ac⟩⟩:=x1;have LB:=Hi G1.out.1;have LA:=Hi G1.out.2;have hbn:=G1.out.1.len;have han:=G1.out.2.len;clear G1;simp only at hbn han;have hbl:=P1.out.lb;have hal:=P1.out.la;rw [hbn] at hbl;rw [han] at hal;clear hbn han;simp only [FH.v,SH.v]
 go_upto_region 4 with fail
 refine nmA ?_;intro w2 hE B11 hz_w2 hr_w2;refine mV3 hE ?_ HX LB LA;clear HX LB LA;intro HX LB LA;have hs_w2:=hE.size;clear hE;replace b_B11:=bX3 B11;have HF:Hid (nr w2 ⟨⟨ba,bn,bc⟩,⟨aa,an,ac⟩⟩ b a):=Hi ⟨LB.out.raw P1.out.zb.sz (by decide),LA.out.raw P1.out.za.sz (by decide)⟩;clear LB;clear LA;obtain ⟨b11,hb11⟩:∃ b11,b11=w1.heap.size:=⟨_,rfl⟩;rw [←hb11] at B11 ⊢;have hw1:w.heap.size≤w1.heap.size:=by omega
 have hb11w:b11<w2.heap.size:=by omega
 clear hb11 b_B11;have B11s:=B11;have HFs:=HF;have HX2:=HX;have HX0:=Hi (Ext.refl w2)
 (try clear b_B11);clear B11
 clear HF;clear HX
 go_upto_block 0 with fail
 go_cut [12,13,14] (fun u v z wc=>∃ s t y:SH,u=s.v∧v=t.v∧z=y.v∧Ext w2 wc∧aI wc s (co fu N)∧aI wc t (co fv N)∧aI wc y (co fw N))
 case first =>
  go_wp2_with fail
  go_loopg [12,13,14,15] N (fun g u v z i wr=>∃ (j:Nat) (s t y:SH),j+g=N∧i=.int .i64 (j:Nat)∧u=s.v∧v=t.v∧z=y.v∧Ext w2 wr∧bA wr (kH w2.heap.size s t y) s.v (co fu j)∧bA wr (kH w2.heap.size t s y) t.v (co fv j)∧bA wr (kH w2.heap.size y s t) y.v (co fw j))
  case atStart=>exact ⟨0,⟨none,0,0⟩,⟨none,0,0⟩,⟨none,0,0⟩,by omega,rfl,rfl,rfl,rfl,Ext.refl _,bA.nil _ _,bA.nil _ _,bA.nil _ _⟩
  case round =>
   obtain ⟨j,⟨sa,sn,sc⟩,⟨ta,tn,tc⟩,⟨ya,yn,yd⟩,hj,rfl,rfl,rfl,rfl,g1,g2,g3,g4⟩:=hrel;clear HX0;have HX:=Hi g1;have HU:=Hi g2;have HT:=Hi g3;have HZ:=Hi g4;have hsn:=g2.len;have htn:=g3.len;have hyn:=g4.len;rw [ce] at hsn htn hyn;simp only at hsn htn hyn;subst hsn htn hyn;have hszr:=g1.size;clear g1 g2 g3 g4;simp only [SH.v];by_cases h0:gk=0
   case pos =>
    subst h0;obtain rfl:j=N:=by omega
    by_cases hx:j<nx
    case pos =>
     have hxi:(j:Int)<nx:=by omega
     have hyi:¬ (j:Int)<ny:=by omega
     go_wp2
     go_meet
     case rel=>exact ⟨⟨sa,j,sc⟩,⟨ta,j,tc⟩,⟨ya,j,yd⟩,rfl,rfl,rfl,HX.out,HU.out.can,HT.out.can,HZ.out.can⟩
    have hxi:¬ (j:Int)<nx:=by omega
    go_wp2
    go_meet
    case rel=>exact ⟨⟨sa,j,sc⟩,⟨ta,j,tc⟩,⟨ya,j,yd⟩,rfl,rfl,rfl,HX.out,HU.out.can,HT.out.can,HZ.out.can⟩
   have hxi:(j:Int)<nx:=by omega
   have hyi:(j:Int)<ny:=by omega
   obtain ⟨bx,ox,hxo,hcx0⟩:=(HXS.out.ext HX2.out).at (k:=j) (by rw [←LXS.out];omega);obtain ⟨bz,oz,hyo,hcz0⟩:=(HYS.out.ext HX2.out).at (k:=j) (by rw [←LYS.out];omega);subst hxo hyo;have hrx:=RXS.out _ (eo (xs:=xs) (k:=j) (by rw [←LXS.out];omega));have hry:=RYS.out _ (eo (xs:=ys) (k:=j) (by rw [←LYS.out];omega));obtain ⟨vx,hvx⟩:∃ v,v=xs.getD j 0:=⟨_,rfl⟩;obtain ⟨vy,hvy⟩:∃ v,v=ys.getD j 0:=⟨_,rfl⟩;rw [←hvx] at hcx0 hrx;rw [←hvy] at hcz0 hry;have F1:Hid (gC vx=fu j):=Hi (by rw [HFU.out];unfold uF;rw [hvx]);have F2:Hid (gC vy=fv j):=Hi (by rw [HFV.out];unfold uF;rw [hvy]);have hbx2:bx<w2.heap.size:=World.block_lt_of_cell? _ _ hcx0;have hbz2:bz<w2.heap.size:=World.block_lt_of_cell? _ _ hcz0;have hbx:bx<wr.heap.size:=by omega
   have hbz:bz<wr.heap.size:=by omega
   have hcx:=HX.out.cell hcx0;have hcz:=HX.out.cell hcz0;clear hvx hvy hcx0 hcz0;obtain ⟨DD,hDD⟩:∃ DD:Nat→Prop,DD=atB ⟨sa,j,sc⟩:=⟨_,rfl⟩;have DD_o:∀ k,DD k→k<wr.heap.size:=fun k hk=>by rw [hDD] at hk;exact (HU.out.loc (s:=⟨sa,j,sc⟩) hk).2
   have DD_w:∀ k,DD k→w2.heap.size≤k:=fun k hk=>by rw [hDD] at hk;exact (HU.out.loc (s:=⟨sa,j,sc⟩) hk).1.1
   have ndx:¬ DD bx:=fun hk=>by have:=DD_w _ hk;omega
   have ndz:¬ DD bz:=fun hk=>by have:=DD_w _ hk;omega
   have ndt:∀ i,kH w2.heap.size ⟨ta,j,tc⟩ ⟨sa,j,sc⟩ ⟨ya,j,yd⟩ i→¬ DD i:=fun i h hk=>by rw [hDD] at hk;exact h.2.1 hk
   have ndy:∀ i,kH w2.heap.size ⟨ya,j,yd⟩ ⟨sa,j,sc⟩ ⟨ta,j,tc⟩ i→¬ DD i:=fun i h hk=>by rw [hDD] at hk;exact h.2.1 hk
   have HDD:=Hi hDD;clear hDD;have HTn:=Hi (fun k (hk:wr.heap.size≤k) (h:atB ⟨ta,j,tc⟩ k)=>Nat.not_lt.2 hk (HT.out.loc (s:=⟨ta,j,tc⟩) h).2);have HZn:=Hi (fun k (hk:wr.heap.size≤k) (h:atB ⟨ya,j,yd⟩ k)=>Nat.not_lt.2 hk (HZ.out.loc (s:=⟨ya,j,yd⟩) h).2);have HX1:=HX
   go_upto_region 8 with fail
   refine Go.Frd.wp_region_frontd 15 DD (fun opIx=>match opIx with
    | 5=>.spec RH default RH.v (fun s w'=>au w' s (fu j))
    | 6=>.spec (Nat×RH) ((0,default)) (fun p=>.slice (some ⟨p.1,0,none⟩) 1 1) (fun p w'=>BQ wr.heap.size (fu j) p w')
    | 7=>.mutk (SH) (default) (SH.v) (fun x w'=>bA w' (kH w2.heap.size ⟨sa,j,sc⟩ ⟨ta,j,tc⟩ ⟨ya,j,yd⟩) x.v (co fu (j+1)))
    | 13=>.spec RH default RH.v (fun s w'=>au w' s (fv j))
    | 14=>.spec (Nat×RH) ((0,default)) (fun p=>.slice (some ⟨p.1,0,none⟩) 1 1) (fun p w'=>BQ wr.heap.size (fv j) p w')
    | _=>.quiet) DD_o (fun|6=>[5]|7=>[6]|14=>[13]|_=>[]) (Nat.le_of_ble_eq_true (by kernel_rfl)) (by kernel_rfl) (by kernel_rfl) (by kernel_rfl) (fun w0 he0 hz0 hc0 hf0=>?_)
   replace he0:=Hi he0;simp only [pT]
   repeat (refine Go.Frd.wpF_quiet rfl rfl rfl (fun K hK=>?_);go_big_quiet_op;refine hK _ ?_;clear hK K)
   refine Go.Frd.wpF_spec rfl rfl (fun w1 hw1 hG=>?_) (fun x11=>?_)
   ·have hW:=(Go.Frd.Exd.of he0.out).trans hw1;have hK:=hW.2;exact spc [.int .i64 vx] Tryz.func57 ((by have h:=ii vx w1 hrx.1 hrx.2;rw [F1.out] at h;exact h))
   simp only [pS]
   repeat (refine Go.Frd.wpF_quiet rfl rfl rfl (fun K hK=>?_);go_big_quiet_op;refine hK _ ?_;clear hK K)
   refine Go.Frd.wpF_spec rfl rfl (fun w1 hw1 hG=>?_) (fun x12=>?_)
   ·have hW:=(Go.Frd.Exd.of he0.out).trans hw1;have hK:=hW.2;obtain ⟨wa11,hwa11,g11⟩:Go.Frd.Sinced _ _ _:=hG 5 (by decide);replace g11:=g11.keep hwa11.2;exact kS (r:=x11) hW.size g11 (by simp [execOp,go_sem])
   simp only [pS]
   repeat (refine Go.Frd.wpF_quiet rfl rfl rfl (fun K hK=>?_);go_big_quiet_op;refine hK _ ?_;clear hK K)
   refine Go.Frd.wpF_mut rfl rfl (fun w1 hw1 hS hG=>?_) (fun x13=>?_)
   ·have hW:Ext wr w1:=he0.out.trans hS;obtain ⟨wa12,hwa12,g12⟩:Go.Frd.Sinced _ _ _:=hG 6 (by decide);exact (by have g12:=g12.exd hwa12 DD_o;rw [←io];exact mP (.tmp 49) (.tmp 55) 22 Tryz.underlying22 rfl ⟨sa,j,sc⟩ (co fu j) x12.1 x12.2 (fu j) rfl (HU.out.ext hW) rfl g12.1.2 g12.2 (by rw [ce];omega) (fun k hk=>⟨by have:=hW.size;omega,fun h=>HTn.out k (Nat.le_trans hW.size hk) h,fun h=>HZn.out k (Nat.le_trans hW.size hk) h⟩) (fun k hk=>by rw [HDD.out];exact hk))
   simp only [pS]
   repeat (refine Go.Frd.wpF_quiet rfl rfl rfl (fun K hK=>?_);go_big_quiet_op;refine hK _ ?_;clear hK K)
   refine Go.Frd.wpF_spec rfl rfl (fun w1 hw1 hG=>?_) (fun x14=>?_)
   ·have hW:=(Go.Frd.Exd.of he0.out).trans hw1;have hK:=hW.2;exact spc [.int .i64 vy] Tryz.func57 ((by have h:=ii vy w1 hry.1 hry.2;rw [F2.out] at h;exact h))
   simp only [pS]
   repeat (refine Go.Frd.wpF_quiet rfl rfl rfl (fun K hK=>?_);go_big_quiet_op;refine hK _ ?_;clear hK K)
   refine Go.Frd.wpF_spec rfl rfl (fun w1 hw1 hG=>?_) (fun x15=>?_)
   ·have hW:=(Go.Frd.Exd.of he0.out).trans hw1;have hK:=hW.2;obtain ⟨wa14,hwa14,g14⟩:Go.Frd.Sinced _ _ _:=hG 13 (by decide);replace g14:=g14.keep hwa14.2;exact kS (r:=x14) hW.size g14 (by simp [execOp,go_sem])
   simp only [pS]
   repeat (refine Go.Frd.wpF_quiet rfl rfl rfl (fun K hK=>?_);go_big_quiet_op;refine hK _ ?_;clear hK K)
   refine Go.Frd.wpF_nil ?_;intro w20 hI;have hE:=(Go.Frd.Exd.of he0.out).trans hI.ext;obtain ⟨wa11,hwa11,g11⟩:Go.Frd.Sinced _ _ _:=hI.facts 5;have G11:=Hi (g11.keep hwa11.2);clear g11 hwa11;obtain ⟨wa12,hwa12,g12⟩:Go.Frd.Sinced _ _ _:=hI.facts 6;obtain ⟨wa13,hwa13,g13⟩:ay _ _:=hI.facts Go.Frd.DK;have G13:=Hi (g13.ext hwa13);clear g13 hwa13;obtain ⟨wa14,hwa14,g14⟩:Go.Frd.Sinced _ _ _:=hI.facts 13;have G14:=Hi (g14.keep hwa14.2);clear g14 hwa14;obtain ⟨wa15,hwa15,g15⟩:Go.Frd.Sinced _ _ _:=hI.facts 14;clear hI he0 hz0 hc0 hf0;replace HX:=Hi (Ext.mods HX.out hE.1 DD_w);replace HT:=Hi (HT.out.mods hE.1 hE.2 (by assumption));replace HZ:=Hi (HZ.out.mods hE.1 hE.2 (by assumption));have hs_w20:=hE.size;clear hE;simp only [pD];have DD_o2:=DD_o;obtain ⟨N15,r15⟩:=x15;obtain ⟨ua,un,uc⟩:=x13;have H15:=Hi (g15.exd hwa15 DD_o);have GU:=G13;have hun:=GU.out.len;rw [ce] at hun;simp only at hun;subst hun;clear g12 hwa12 G13 g15 hwa15 HU HTn HZn DD_o DD_w ndx ndz ndt ndy HDD DD_o2 hcx hcz;clear G11;clear G14;simp only [SH.v]
   -- the second list,apart from the new block of the first
   have HT2:Hid (bA w20 (kH w2.heap.size ⟨ta,j,tc⟩ ⟨ua,j+1,uc⟩ ⟨ya,j,yd⟩) (SH.v ⟨ta,j,tc⟩) (co fv j)):=Hi (HT.out.at (s:=⟨ta,j,tc⟩) (fun k _ h1 h2=>⟨h1.1,fun h=>(GU.out.loc (s:=⟨ua,j+1,uc⟩) h).1.2.1 h2,h1.2.2⟩));have HZ2:Hid (bA w20 (kH w2.heap.size ⟨ya,j,yd⟩ ⟨ua,j+1,uc⟩ ⟨ta,j,tc⟩) (SH.v ⟨ya,j,yd⟩) (co fw j)):=Hi (HZ.out.at (s:=⟨ya,j,yd⟩) (fun k _ h1 h2=>⟨h1.1,fun h=>(GU.out.loc (s:=⟨ua,j+1,uc⟩) h).1.2.2 h2,h1.2.2⟩));clear HT;clear HZ;have hl20:=HX.out.size
   go_wp2_with (at_builtin;refine bY rfl (.tmp 57) (.tmp 63) 22 Tryz.underlying22 rfl (kH w2.heap.size ⟨ta,j,tc⟩ ⟨ua,j+1,uc⟩ ⟨ya,j,yd⟩) _ (co fv j) r15 (fv j) N15 rfl HT2.out rfl (ig H15.out.1.2 rfl) H15.out.2 (by rw [ce];omega) (fun k hk=>⟨by omega,fun h=>Nat.not_lt.2 hk (GU.out.loc (s:=⟨ua,j+1,uc⟩) h).2,fun h=>Nat.not_lt.2 hk (HZ2.out.loc (s:=⟨ya,j,yd⟩) h).2⟩) ?_;intro s' y21 q1 q2 q3)
   rw [io] at q1;obtain ⟨va,vn,vc⟩:=s';have hvn:=q1.len;rw [ce] at hvn;simp only at hvn;subst hvn;have HX3:=Hi (Ext.mods HX.out q2 (fun k h=>h.1));have HU3:Hid (bA y21 (kH w2.heap.size ⟨ua,j+1,uc⟩ ⟨va,j+1,vc⟩ ⟨ya,j,yd⟩) (SH.v ⟨ua,j+1,uc⟩) (co fu (j+1))):=Hi (bA.at (s:=⟨ua,j+1,uc⟩) ((GU.out.at (s:=⟨ua,j+1,uc⟩) (D':=fun k=>(w2.heap.size≤k∧¬ atB ⟨ya,j,yd⟩ k)∧atB ⟨ua,j+1,uc⟩ k) (fun k _ h1 h2=>⟨⟨h1.1,h1.2.2⟩,h2⟩)).mods q2 q3 (fun i hi hd=>hd.2.1 hi.2)) (fun k _ h1 h2=>⟨h1.1.1,fun h=>(q1.loc (s:=⟨va,j+1,vc⟩) h).1.2.1 h2,h1.1.2⟩));have HZ3:Hid (bA y21 (kH w2.heap.size ⟨ya,j,yd⟩ ⟨ua,j+1,uc⟩ ⟨va,j+1,vc⟩) (SH.v ⟨ya,j,yd⟩) (co fw j)):=Hi (bA.at (s:=⟨ya,j,yd⟩) ((HZ2.out.at (s:=⟨ya,j,yd⟩) (D':=fun k=>(w2.heap.size≤k∧¬ atB ⟨ua,j+1,uc⟩ k)∧atB ⟨ya,j,yd⟩ k) (fun k _ h1 h2=>⟨⟨h1.1,h1.2.1⟩,h2⟩)).mods q2 q3 (fun i hi hd=>hd.2.2 hi.2)) (fun k _ h1 h2=>⟨h1.1.1,h1.1.2,fun h=>(q1.loc (s:=⟨va,j+1,vc⟩) h).1.2.2 h2⟩));have HV3:Hid (bA y21 (kH w2.heap.size ⟨va,j+1,vc⟩ ⟨ua,j+1,uc⟩ ⟨ya,j,yd⟩) (SH.v ⟨va,j+1,vc⟩) (co fv (j+1))):=Hi q1;clear q1 q2 q3 GU HT2 HZ2 H15 hl20;clear HX;obtain ⟨b1,o1,r1,hua,hl1,⟨a1,a2,a3⟩,hP1⟩:=(HU3.out.can.raw (cI ZU.out (j+1)) (by decide)).cells' (k:=j) (by omega);obtain ⟨b2,o2,r2,hva,hl2,⟨a4,a5,a6⟩,hP2⟩:=(HV3.out.can.raw (cI ZV.out (j+1)) (by decide)).cells' (k:=j) (by omega);rw [l7 _ (by omega)] at hP1 hP2;obtain ⟨r1neg,r1a,r1n,r1c,r1b,r1m,r1d⟩:=r1;obtain ⟨r2neg,r2a,r2n,r2c,r2b,r2m,r2d⟩:=r2;simp only at a1 a2 a3 a4 a5 a6;have Q1:=Hi hP1;have Q2:=Hi hP2;have S1:Hid (Sz 3 (fu j*gC c)):=Hi (((ZU.out j).mul ZC.out).mono (by decide));clear hP1 hP2;subst hua hva;simp only [SH.v]
   go_upto_region 9 with fail
   refine wpG 14 (fun opIx=>match opIx with
    | 6=>.spec RH default RH.v (fun s w'=>au w' s (gC c))
    | 7=>.spec RH default RH.v (fun s w'=>au w' s (fu j*gC c))
    | 12=>.spec RH default RH.v (fun s w'=>au w' s (fw j))
    | 13=>.spec (Nat×RH) ((0,default)) (fun p=>.slice (some ⟨p.1,0,none⟩) 1 1) (fun p w'=>BQ y21.heap.size (fw j) p w')
    | _=>.quiet) (fun|7=>[6]|12=>[7]|13=>[12]|_=>[]) fun w0 he0 hz0 hc0 hf0=>?_
   refine wps he0.out rfl rfl (fun w1 hW hG=>?_) fun x31=>?_
   ·exact spc [.int .i64 c] Tryz.func57 (ii c _ hc1 hc2)
   refine qZ ?_;refine wps he0.out rfl rfl (fun w1 hW hG=>?_) fun x32=>?_
   ·have g31:=(hG 6 (by decide):ay _ _).get fun _ e g=>g.ext e
    exact spc [RH.v ⟨r1neg,r1a,r1n,r1c,r1b,r1m,r1d⟩,x31.v] Tryz.func38 (ib _ x31 _ _ _ (Q1.out.ext hW) (g31.raw ZC.out (by decide)))
   refine qZ ?_;refine wps he0.out rfl rfl (fun w1 hW hG=>?_) fun x33=>?_
   ·have g32:=(hG 7 (by decide):ay _ _).get fun _ e g=>g.ext e
    exact spc [x32.v,RH.v ⟨r2neg,r2a,r2n,r2c,r2b,r2m,r2d⟩] Tryz.func31 ((by rw [EW.out];exact ij x32 _ _ _ _ (g32.raw S1.out (by decide)) (Q2.out.ext hW)))
   refine qZ ?_;refine wps he0.out rfl rfl (fun w1 hW hG=>?_) fun x34=>?_
   ·have g33:=(hG 12 (by decide):ay _ _).get fun _ e g=>g.ext e
    exact kS (r:=x33) hW.size g33 (by simp [execOp,go_sem])
   refine qZ ?_;refine wpF_nil ?_;intro w22 hI;have hE:=he0.out.trans hI.ext;have G31:=gT (hI.facts 6);have G32:=gT (hI.facts 7);have G33:=gT (hI.facts 12);have G34:=gT (hI.facts 13);clear hI he0 hz0 hc0 hf0;refine mV4 hE ?_ HX3 HU3 HZ3 HV3;clear HX3 HU3 HZ3 HV3;intro HX3 HU3 HZ3 HV3;have hs_w22:=hE.size;clear hE;simp only [pD];obtain ⟨N34,r34⟩:=x34;clear Q1 Q2;clear G31;clear G32;clear G33;have hl22:=HX3.out.size
   go_wp2_with (at_builtin;refine bY rfl (.tmp 65) (.tmp 78) 22 Tryz.underlying22 rfl (kH w2.heap.size ⟨ya,j,yd⟩ ⟨some ⟨b1,o1,none⟩,j+1,uc⟩ ⟨some ⟨b2,o2,none⟩,j+1,vc⟩) _ (co fw j) r34 (fw j) N34 rfl HZ3.out rfl (ig G34.out.1.2 rfl) G34.out.2 (by rw [ce];omega) (fun k hk=>⟨by omega,fun h=>Nat.not_lt.2 hk (HU3.out.loc (s:=⟨some ⟨b1,o1,none⟩,j+1,uc⟩) h).2,fun h=>Nat.not_lt.2 hk (HV3.out.loc (s:=⟨some ⟨b2,o2,none⟩,j+1,vc⟩) h).2⟩) ?_;intro s' y23 q1 q2 q3)
   rw [io] at q1;obtain ⟨za,zn,zc⟩:=s';have HX4:=Hi (Ext.mods HX3.out q2 (fun k h=>h.1));have HU4:Hid (bA y23 (kH w2.heap.size ⟨some ⟨b1,o1,none⟩,j+1,uc⟩ ⟨some ⟨b2,o2,none⟩,j+1,vc⟩ ⟨za,zn,zc⟩) (SH.v ⟨some ⟨b1,o1,none⟩,j+1,uc⟩) (co fu (j+1))):=Hi (bA.at (s:=⟨some ⟨b1,o1,none⟩,j+1,uc⟩) ((HU3.out.at (s:=⟨some ⟨b1,o1,none⟩,j+1,uc⟩) (D':=fun k=>(w2.heap.size≤k∧¬ atB ⟨some ⟨b2,o2,none⟩,j+1,vc⟩ k)∧atB ⟨some ⟨b1,o1,none⟩,j+1,uc⟩ k) (fun k _ h1 h2=>⟨⟨h1.1,h1.2.1⟩,h2⟩)).mods q2 q3 (fun i hi hd=>hd.2.1 hi.2)) (fun k _ h1 h2=>⟨h1.1.1,h1.1.2,fun h=>(q1.loc (s:=⟨za,zn,zc⟩) h).1.2.1 h2⟩));have HV4:Hid (bA y23 (kH w2.heap.size ⟨some ⟨b2,o2,none⟩,j+1,vc⟩ ⟨some ⟨b1,o1,none⟩,j+1,uc⟩ ⟨za,zn,zc⟩) (SH.v ⟨some ⟨b2,o2,none⟩,j+1,vc⟩) (co fv (j+1))):=Hi (bA.at (s:=⟨some ⟨b2,o2,none⟩,j+1,vc⟩) ((HV3.out.at (s:=⟨some ⟨b2,o2,none⟩,j+1,vc⟩) (D':=fun k=>(w2.heap.size≤k∧¬ atB ⟨some ⟨b1,o1,none⟩,j+1,uc⟩ k)∧atB ⟨some ⟨b2,o2,none⟩,j+1,vc⟩ k) (fun k _ h1 h2=>⟨⟨h1.1,h1.2.1⟩,h2⟩)).mods q2 q3 (fun i hi hd=>hd.2.2 hi.2)) (fun k _ h1 h2=>⟨h1.1.1,h1.1.2,fun h=>(q1.loc (s:=⟨za,zn,zc⟩) h).1.2.2 h2⟩));have HZ4:Hid (bA y23 (kH w2.heap.size ⟨za,zn,zc⟩ ⟨some ⟨b1,o1,none⟩,j+1,uc⟩ ⟨some ⟨b2,o2,none⟩,j+1,vc⟩) (SH.v ⟨za,zn,zc⟩) (co fw (j+1))):=Hi q1;clear q1 q2 q3 G34 hl22;clear HX3;clear HU3;clear HV3;clear HZ3;go_wp2
   go_roundg (gk-1)
   case measure=>omega
   case rel=>exact ⟨j+1,⟨some ⟨b1,o1,none⟩,j+1,uc⟩,⟨some ⟨b2,o2,none⟩,j+1,vc⟩,⟨za,zn,zc⟩,by omega,by go_num,rfl,rfl,rfl,HX4.out,HU4.out,HV4.out,HZ4.out⟩
 case rest =>
  obtain ⟨⟨sa,sn,sc⟩,⟨ta,tn,tc⟩,⟨ya,yn,yd⟩,rfl,rfl,rfl,g1,g2,g3,g4⟩:=hcut;have hsn:=g2.len;have htn:=g3.len;have hyn:=g4.len;rw [ce] at hsn htn hyn;simp only at hsn htn hyn;subst hsn htn hyn;have HX:=Hi (HX2.out.trans g1);have B11:=Hi (g1.block B11s.out);have HF:=Hi (HFs.out.ext g1);have RU:=Hi (g2.raw (cI ZU.out N) (by decide));have RV:=Hi (g3.raw (cI ZV.out N) (by decide));have RW:=Hi (g4.raw (cI ZW.out N) (by decide));have ZW2:Hid (SzL 4 ((co fw N).take (N / 2))):=Hi (fun q hq=>cI ZW.out N q (List.mem_of_mem_take hq));have RT:=Hi (bW.take RW.out (m:=N / 2) (Nat.div_le_self _ _));have hb11c:b11<wc.heap.size:=by have:=g1.size;omega
  have hwc:w.heap.size≤wc.heap.size:=HX.out.size;obtain ⟨M,hM⟩:∃ M,M=N / 2:=⟨_,rfl⟩;have hq2:Int.tdiv (N:Int) 2=(M:Int):=by rw [hM];exact Int.ofNat_tdiv _ _
  have hMn:M≤N:=by omega
  rw [←hM] at RT V4 K4 ZW2;clear hM g1 g2 g3 g4 B11s HFs HX2 HX0;simp only [SH.v];replace b_B11:=bX3 B11
  go_wp2_with fail
  refine cM (dC ⟨⟨ba,bn,bc⟩,⟨aa,an,ac⟩⟩ sa N sc b a (co fu N) 7 7 1 _ HF.out RU.out (by simp only;omega) (by simp only;omega) (by omega) P1.out.zb.sz P1.out.za.sz (cI ZU.out N) (by decide) (by decide) (by decide) (by decide) (by decide) (by decide) K1.out) fun x31 w31 hE G31=>?_
  refine mV7 hE ?_ HX B11 HF RU RV RW RT;clear HX B11 HF RU RV RW RT;intro HX B11 HF RU RV RW RT;have hs_w31:=hE.size;clear hE;replace b_B11:=bX3 B11;obtain ⟨⟨pa,pn,pc⟩,e31⟩:=x31;obtain ⟨he,h1⟩:=G31.out;rw [V1.out] at he h1;simp only at he h1;subst he;have l1:=h1.len;rw [aR] at l1;simp only at l1;subst l1;have RP:=Hi (h1.raw ZR1.out (by decide));clear h1 G31;simp only [RF,SH.v]
  go_wp2_with fail
  refine cM (dC ⟨⟨ba,bn,bc⟩,⟨aa,an,ac⟩⟩ ta N tc b a (co fv N) 7 7 1 _ HF.out RV.out (by simp only;omega) (by simp only;omega) (by omega) P1.out.zb.sz P1.out.za.sz (cI ZV.out N) (by decide) (by decide) (by decide) (by decide) (by decide) (by decide) K1.out) fun x32 w32 hE G32=>?_
  refine mV8 hE ?_ HX B11 HF RU RV RW RT RP;clear HX B11 HF RU RV RW RT RP;intro HX B11 HF RU RV RW RT RP;have hs_w32:=hE.size;clear hE;replace b_B11:=bX3 B11;obtain ⟨⟨qa,qn,qc⟩,e32⟩:=x32;obtain ⟨he,h1⟩:=G32.out;rw [V2.out] at he h1;simp only at he h1;subst he;have l1:=h1.len;rw [aR] at l1;simp only at l1;subst l1;have RQ:=Hi (h1.raw ZR2.out (by decide));clear h1 G32;simp only [RF,SH.v]
  go_wp2_with fail
  refine cM (dC ⟨⟨ba,bn,bc⟩,⟨aa,an,ac⟩⟩ ya N yd b a (co fw N) 7 7 4 _ HF.out RW.out (by simp only;omega) (by simp only;omega) (by omega) P1.out.zb.sz P1.out.za.sz (cI ZW.out N) (by decide) (by decide) (by decide) (by decide) (by decide) (by decide) K3.out) fun x33 w33 hE G33=>?_
  refine mV8 hE ?_ HX B11 HF RU RV RW RT RP;clear HX B11 HF RU RV RW RT RP;intro HX B11 HF RU RV RW RT RP;replace RQ:=mV hE RQ;have hs_w33:=hE.size;clear hE;replace b_B11:=bX3 B11;obtain ⟨⟨za,zn,zc⟩,e33⟩:=x33;obtain ⟨he,h1⟩:=G33.out;rw [V3.out] at he h1;simp only at he h1;subst he;have l1:=h1.len;rw [aR] at l1;simp only at l1;subst l1;have LS:=Hi h1;clear h1 G33;simp only [RF,SH.v];have hyd:N≤yd:=RW.out.le;have hyd2:yd≤9223372036854775807:=RW.out.max;have hMyd:M≤yd:=by omega
  go_upto_region 13 with fail
  refine bX [(10,9)] _ (by simp only [iU,kF,List.push_toArray,List.cons_append,List.nil_append];exact rfl) (by intro c a d v w h;cases d <;> exact h) 10 (fun opIx=>match opIx with
   | 6=>.spec (SH×Int) ((default,0)) (fun x=>.tuple #[x.1.v,.int .i64 x.2]) (fun x w'=>tU ((bg b a (seq (co fw N)) N).take M) x w')
   | _=>.quiet) (fun _=>[]) (by kernel_rfl) (by kernel_rfl) (by kernel_rfl) (fun w0 he0 hz0 hc0 hf0=>?_)
  replace he0:=Hi he0;simp only [pT]
  repeat (refine wpq fun K h=>?_;go_big_quiet_op;refine h _ ?_;clear h K;(try simp only [hq2]))
  refine wps he0.out rfl rfl (fun w1 hW hG=>?_) fun x34=>?_
  ·exact spc [.agg #[.slice ba bn bc,.slice aa an ac],.slice ya M yd] Tryz.func58 ((by have h:=dC ⟨⟨ba,bn,bc⟩,⟨aa,an,ac⟩⟩ ya M yd b a ((co fw N).take M) 7 7 4 _ (HF.out.ext hW) (RT.out.ext hW) (by simp only;omega) (by simp only;omega) (by omega) P1.out.zb.sz P1.out.za.sz ZW2.out (by decide) (by decide) (by decide) (by decide) (by decide) (by decide) K4.out;rw [V4.out] at h;exact h))
  simp only [pS]
  repeat (refine wpq fun K h=>?_;go_big_quiet_op;refine h _ ?_;clear h K;(try simp only [hq2]))
  refine wpF_nil ?_;intro w34 hI;have hE:=he0.out.trans hI.ext;have G34:=gT (hI.facts 6);clear hI he0 hz0 hc0 hf0;refine mV8 hE ?_ HX B11 HF RU RV RW RT RP;clear HX B11 HF RU RV RW RT RP;intro HX B11 HF RU RV RW RT RP;refine mV2 hE ?_ RQ LS;clear RQ LS;intro RQ LS;have hs_w34:=hE.size;clear hE;replace b_B11:=bX3 B11;simp only [pD];obtain ⟨⟨ra,rn,rc⟩,e34⟩:=x34;obtain ⟨he,h1⟩:=G34.out;simp only at he h1;subst he;have l1:=h1.len;rw [List.length_take,aR,Nat.min_eq_left hMn] at l1;simp only at l1;subst l1;have LR:=Hi h1;clear h1 G34
  (try clear b_B11);clear B11
  clear HF;clear RU;clear RV;clear RW;clear RT;have LS0:=LS;have RS:Hid (bW w34 ⟨za,N,zc⟩ (bg b a (seq (co fw N)) N)):=Hi (LS.out.raw ZR3.out (by decide));have LR0:=LR;have RP0:=RP;have RQ0:=RQ;have HX0:=HX;have HX34:=Hi (Ext.refl w34);clear LS;clear RP;clear RQ;clear LR;clear HX;go_wp2
  go_loopg [153] N (fun g i wr=>∃ j:Nat,j+g=N∧i=.int .i64 (j:Nat)∧Ext w34 wr)
  case atStart=>exact ⟨0,by omega,rfl,Ext.refl _⟩
  case round =>
   obtain ⟨j,hj,rfl,g1⟩:=hrel;clear HX34;have HX34:=Hi g1;have RPw:=Hi (RP0.out.ext g1);have RQw:=Hi (RQ0.out.ext g1);have RSw:=Hi (RS.out.ext g1);clear g1;by_cases h0:gk=0
   case neg =>
    have hjN:(j:Int)<N:=by omega
    obtain ⟨y1,f1,r1,q1,hl1,⟨a1,a2,a3⟩,hP1⟩:=RPw.out.cells' (k:=j) (by omega);obtain ⟨y2,f2,r2,q2,hl2,⟨a4,a5,a6⟩,hP2⟩:=RQw.out.cells' (k:=j) (by omega);obtain ⟨y3,f3,r3,q3,hl3,⟨a7,a8,a9⟩,hP3⟩:=RSw.out.cells' (k:=j) (by omega);obtain ⟨r1neg,r1a,r1n,r1c,r1b,r1m,r1d⟩:=r1;obtain ⟨r2neg,r2a,r2n,r2c,r2b,r2m,r2d⟩:=r2;obtain ⟨r3neg,r3a,r3n,r3c,r3b,r3m,r3d⟩:=r3;simp only at q1 q2 q3 a1 a2 a3 a4 a5 a6 a7 a8 a9;have Q1:=Hi hP1;have Q2:=Hi hP2;have Q3:=Hi hP3;have S0:=Hi ((ZR1.out.getD (by decide) j).mul ZC.out);have S1:=Hi ((((ZR1.out.getD (by decide) j).mul ZC.out).add (ZR2.out.getD (by decide) j)).mono (show 80000+1+80000+1≤200000 by decide));have E1:Hid (fU ((bg b a (seq (co fw N)) N).getD j 0) ((bg b a (seq (co fu N)) N).getD j 0*gC c+(bg b a (seq (co fv N)) N).getD j 0)=0):=Hi (k8.2 (VL.out j (by omega)));clear hP1 hP2 hP3;subst q1 q2 q3
    go_upto_region 19 with fail
    refine wpG 17 (fun opIx=>match opIx with
     | 9=>.spec RH default RH.v (fun s w'=>au w' s (gC c))
     | 10=>.spec RH default RH.v (fun s w'=>au w' s ((bg b a (seq (co fu N)) N).getD j 0*gC c))
     | 15=>.spec RH default RH.v (fun s w'=>au w' s ((bg b a (seq (co fu N)) N).getD j 0*gC c+(bg b a (seq (co fv N)) N).getD j 0))
     | 16=>.spec Unit () (fun _=>.int .i64 0) (fun _ _=>True)
     | _=>.quiet) (fun|10=>[9]|15=>[10]|16=>[15]|_=>[]) fun w0 he0 hz0 hc0 hf0=>?_
    refine wps he0.out rfl rfl (fun w1 hW hG=>?_) fun x41=>?_
    ·exact spc [.int .i64 c] Tryz.func57 (ii c _ hc1 hc2)
    refine qZ ?_;refine wps he0.out rfl rfl (fun w1 hW hG=>?_) fun x42=>?_
    ·have g41:=(hG 9 (by decide):ay _ _).get fun _ e g=>g.ext e
     exact spc [RH.v ⟨r1neg,r1a,r1n,r1c,r1b,r1m,r1d⟩,x41.v] Tryz.func38 (ib _ x41 _ _ _ (Q1.out.ext hW) (g41.raw ZC.out (by decide)))
    refine qZ ?_;refine wps he0.out rfl rfl (fun w1 hW hG=>?_) fun x43=>?_
    ·have g42:=(hG 10 (by decide):ay _ _).get fun _ e g=>g.ext e
     exact spc [x42.v,RH.v ⟨r2neg,r2a,r2n,r2c,r2b,r2m,r2d⟩] Tryz.func31 (ij x42 _ _ _ _ (g42.raw S0.out (by decide)) (Q2.out.ext hW))
    refine qZ ?_;refine wps he0.out rfl rfl (fun w1 hW hG=>?_) fun x44=>?_
    ·have g43:=(hG 15 (by decide):ay _ _).get fun _ e g=>g.ext e
     exact spc [RH.v ⟨r3neg,r3a,r3n,r3c,r3b,r3m,r3d⟩,x43.v] Tryz.func59 ((by rw [←E1.out];exact ke _ x43 _ _ _ (Q3.out.ext hW) (g43.raw S1.out (by decide))))
    refine qZ ?_;refine wpF_nil ?_;intro y20 hI;have hE:=he0.out.trans hI.ext;have G41:=gT (hI.facts 9);have G42:=gT (hI.facts 10);have G43:=gT (hI.facts 15);clear hI he0 hz0 hc0 hf0;replace HX34:=hE.tr HX34;have hs_y20:=hE.size;clear hE;simp only [pD];go_wp2
    go_roundg (gk-1)
    case measure=>omega
    case rel=>exact ⟨j+1,by omega,by go_num,HX34.out⟩
   subst h0;obtain rfl:j=N:=by omega
   have HXw:=Hi (HX0.out.trans HX34.out);have LS:=Hi (LS0.out.ext HX34.out);have LR:=Hi (LR0.out.ext HX34.out);clear RPw RQw RSw;have hzc:j≤zc:=LS.out.le;have hzc2:zc≤9223372036854775807:=LS.out.max
   go_wp2_with fail
   refine cM (fh _) fun x51 w51 hE _=>?_
   refine mV4 hE ?_ HX34 HXw LS LR;clear HX34 HXw LS LR;intro HX34 HXw LS LR;have hs_w51:=hE.size;clear hE
   go_wp2_with fail
   refine cM ((by have h:=gw ⟨za,M,zc⟩ ⟨ra,M,rc⟩ _ _ _ (LS.out.take hMn) LR.out;rw [decide_eq_true rfl] at h;exact h)) fun x52 w52 hE _=>?_
   refine mV4 hE ?_ HX34 HXw LS LR;clear HX34 HXw LS LR;intro HX34 HXw LS LR;have hs_w52:=hE.size;clear hE;go_wp2
   go_ret
   exact ⟨(),rfl,HXw.out,trivial⟩
end Go.Proofs.YtofhkmcllihgmaaGreat
/- What all joins of this seat share. -/
set_option linter.unusedVariables false
namespace Go.Proofs.YtofhkmcllihgmaaGreat
open Go.ChangeShapes Go.WideShapes Go.ChangeAt Go.RowKit Go.Front Go.Joins
theorem own:ownKnob Tryz.prog.godebug=none:=by kernel_rfl
theorem iB:laidOutB Tryz.prog=true:=by kernel_rfl
theorem lH{n:Int}(h:(Lit.int .i64 n).wf=true):-9223372036854775808≤n∧n≤9223372036854775807:=by
 simp [Lit.wf] at h;exact ⟨h.1,h.2⟩
theorem gG{H:Type}{enc:TypeId×Value→H}{W:World}{a0:Option Addr}{len0 cap0:Nat}{d:DataW H}{p:List MemPlace}(h0:DataW.Trod enc Tryz.prog W 0 (fun _=>true) true 25 (.slice a0 len0 cap0) d p) :
  ∃ xs:List Int,br W a0 xs∧InR xs∧xs.length=len0∧len0≤9223372036854775807∧len0≤cap0∧cap0≤9223372036854775807:=by
 obtain ⟨fuel,hf⟩:=h0;rcases open_ints Tryz.underlying25 Tryz.underlying3 (by kernel_rfl) hf with ⟨hcs,_⟩|⟨x,l,c,zs,hcs,_,hl,hm,hz,_,hcell,hwz⟩
 ·simp [Value.cells] at hcs;obtain ⟨rfl,rfl,rfl⟩:=hcs;exact ⟨[],Or.inl rfl,fun x hx=>by simp at hx,rfl,by decide,by decide,by decide⟩
 ·simp [Value.cells] at hcs;obtain ⟨rfl,rfl,rfl⟩:=hcs;simp only [maxLen] at hm;have hz':zs.length=cap0:=by simpa using hz
  refine ⟨zs.take len0,?_,fun x hx=>lH (hwz x (List.mem_of_mem_take hx)),by simp;omega,by omega,hl,by omega⟩;by_cases hp:0<zs.length
  ·obtain ⟨b,off,rfl,hc⟩:=ints_at hcell hp;refine Or.inr ⟨b,off,rfl,fun k hk=>?_⟩;simp only [List.length_take] at hk;rw [hc k (by omega)];simp [show k<len0 by omega]
  ·left
   have:zs=[]:=List.length_eq_zero_iff.1 (by omega);rw [this];simp
end Go.Proofs.YtofhkmcllihgmaaGreat
