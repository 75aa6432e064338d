/- BernsteinSound returns true. -/
import Derived.Test.YtofhkmcllihgmaaGreatQUK9
import Derived.Test.YtofhkmcllihgmaaGreatQUK11
import Derived.Test.YtofhkmcllihgmaaGreatQUK10
import Derived.Test.YtofhkmcllihgmaaGreatQUK12
import Derived.Test.YtofhkmcllihgmaaGreatQUK17
import Derived.Test.YtofhkmcllihgmaaGreatQUFrd
set_option linter.unusedVariables false
set_option maxRecDepth 8000
set_option maxHeartbeats 16000000
namespace Go.Proofs.YtofhkmcllihgmaaGreat
open Go.RowKit Go.Front Go.Num Stab
attribute [local go_sem] XW.cell XW.frozen Go.Frd.XWd.cell Go.Frd.XWd.frozen
theorem wK(b n c:Nat)(ao:Option Addr)(at':Int)(w:World)(hB:w.heap[b]?=some (.cells #[.slice ao n c,.int .i64 at'] 58 (0,0))) :
  au 28 [ptr b] w (fun _:Unit=>.bool (decide (at' < n))) (fun _ _=>True):=by
 have HX:=Hi (Ext.refl w);have BT:=Hi hB;have hbl:b<w.heap.size:=(Array.getElem?_eq_some_iff.1 hB).1;clear hB;unfold au;simp only [ptr];go_enter Tryz.func28,Tryz.ntmps28;replace b_BT:=Front.b3 BT
 go_upto_region 1 with fail
 go_quiet (fail)
 go_wp2
 go_ret
 exact ⟨(),rfl,Ext.drewN w _,trivial⟩
def TwL(qs:List Rat):Prop:=∀ q ∈ qs,Sg.Tw q
theorem nO{q:Rat}(h:Sg.Tw q):Sz 1 q:=by
 obtain ⟨z,hz,hz2⟩:=h;have h1:Fr 1 12 q:=Fr.int (z:=z) (by rw [Nat.pow_one];show _<4294967296;omega) (by rw [←hz];rfl);exact h1.sz (by decide) (by decide) (by decide)
theorem CR{a b:Rat}(h:Sg.Tw a)(k:Sg.Tw b):Sg.Tw (loV a b):=by rcases ox a b with e|e <;> rw [e] <;> assumption
theorem CS{a b:Rat}(h:Sg.Tw a)(k:Sg.Tw b):Sg.Tw (hiV a b):=by rcases rK a b with e|e <;> rw [e] <;> assumption
theorem zp{at' hi:Rat}{v:Int}(ha:Sg.Tw at')(hh:Sg.Tw hi)(h0:0≤v):Sg.Tw (loV hi (at'+((1+v:Int):Rat) / ((12:Int):Rat))):=by
 rcases ox hi (at'+((1+v:Int):Rat) / ((12:Int):Rat)) with e|e
 ·rw [e];exact hh
 ·rw [e];have hle:at'+((1+v:Int):Rat) / ((12:Int):Rat)≤hi:=by
   generalize at'+((1+v:Int):Rat) / ((12:Int):Rat)=X at e;unfold loV at e;split at e <;> grind
  obtain ⟨z,hz,hz2⟩:=ha;obtain ⟨y,hy,hy2⟩:=hh;have h12:((12:Int):Rat)=12:=rfl;have hd:=Sg.div_cancel (a:=((1+v:Int):Rat)) (b:=((12:Int):Rat)) (by decide);rw [h12] at *
  have e1:(at'+((1+v:Int):Rat) / 12)*12=((z+(1+v):Int):Rat):=by rw [Rat.intCast_add z,←hz];grind
  refine ⟨z+(1+v),e1,?_⟩;have h2:((z+(1+v):Int):Rat)≤(y:Rat):=by rw [←e1,←hy];exact Sg.mul_le hle (by decide)
  have h3:=Rat.intCast_le_intCast.1 h2;omega
theorem eL.loc{w:World}{D:Nat→Prop}{ya:Option Addr}{yn yc n:Nat}{qs:List Rat}(h:eL w D (.slice ya yn yc) n qs):ya=none∨∃ L,ya=some ⟨L,0,none⟩∧D L∧L<w.heap.size:=by
 obtain ⟨rs,h1,h2⟩:=h;rcases h1 with ⟨e,-,-⟩|⟨L,cap,re,e,h3,h4,-⟩
 ·left;simp only [Value.slice.injEq] at e;exact e.1
 ·right;simp only [Value.slice.injEq] at e;exact ⟨L,e.1,h3,h4.lt⟩
def DI(N:Nat)(cs:Array Value)(b:Nat)(w:World):Prop:=N≤b∧w.heap[b]?=some (.cells cs 49 (0,0))
theorem sA{P:Program}{o:Oper}{a:Act}{w:World}{N:Nat}{mkv:Nat→Value}{cs:Array Value}(hN:N≤w.heap.size)(hrun:(execOp a.eval o).run P w=.ok (.value (mkv w.heap.size)) (w.alloc (.cells cs 49 (0,0)))):cJ P o a w mkv (fun b w'=>DI N cs b w'):=by
 unfold cJ;rw [hrun];exact ⟨Ext.alloc _ _,w.heap.size,rfl,hN,heap_alloc_new w _⟩
theorem qU{P:Program}{DD:Nat→Prop}{o:Oper}{a:Act}{α:Type}{mk:α→Value}{φ:α→World→Prop}{w w':World}(x:α)(hu:mk x=undef)(hrun:(execOp a.eval o).run P w=.ok .skip w')(he:Go.Frd.Exd DD w w')(hφ:φ x w'):Go.Frd.specAtd P DD o a w mk φ:=by
 unfold Go.Frd.specAtd;rw [hrun];exact ⟨he,x,hu,hφ⟩
def Ex0(a b:World):Prop:=Ext a b
theorem Ex0.ext{a b c:World}(h:Ex0 a b)(he:Ext b c):Ex0 a c:=Ext.trans h he
instance {a b c:World}:Go.Front.Mv b c (Ex0 a b) (Ex0 a c):=⟨fun e h=>Ex0.ext h e⟩

def SgF(D0:Nat→Prop)(n:Nat)(qs:List Rat)(b:Nat)(cs:Array Value)(x:SH)(w:World):Prop:=eL w D0 x.v n qs∧w.heap[b]?=some (.cells cs 55 (0,0))
theorem SgF.ext{D0:Nat→Prop}{n:Nat}{qs:List Rat}{b:Nat}{cs:Array Value}{x:SH}{w w':World}(h:SgF D0 n qs b cs x w)(he:Ext w w'):SgF D0 n qs b cs x w':=⟨h.1.ext he,he.block h.2⟩
instance {D0:Nat→Prop} {n:Nat} {qs:List Rat} {b:Nat} {cs:Array Value} {x:SH} {w w':World}:Go.Front.Mv w w' (SgF D0 n qs b cs x w) (SgF D0 n qs b cs x w'):=⟨fun e h=>SgF.ext h e⟩

theorem sy{P:Program}{DD:Nat→Prop}{o:Oper}{a:Act}{α:Type}{mk:α→Value}{φ:α→World→Prop}{w w':World}{v:Value}(x:α)(hrun:(execOp a.eval o).run P w=.ok (.value v) w')(hv:v=mk x)(he:Go.Frd.Exd DD w w')(hφ:φ x w'):Go.Frd.specAtd P DD o a w mk φ:=by
 unfold Go.Frd.specAtd;rw [hrun,hv];exact ⟨he,x,rfl,hφ⟩
theorem zV{w1:World}{b:Nat}{T:TypeId}{c0 c1 c2 c3 c4 c5 c6:Value}(v:Value)(hb:w1.heap[b]?=some (.cells #[c0,c1,c2,c3,c4,c5,c6] T (0,0)))(hn:#[c0,c1,c2,c3,c4,c5,c6].toList.all eX=true):dN w1 b T #[c0,c1,c2,c3,c4,c5,v] (w1.setCell ⟨b,6,none⟩ v) :=
 dN.of (Array.getElem?_eq_some_iff.1 hb).1 (ai hb hn) (aJ.setCell w1 ⟨b,6,none⟩ v) (by simp [World.setCell]) (aG hb 6 v)
theorem nV{D0 DD:Nat→Prop}{o:Oper}{a:Act}{w:World}(s x:Operand)(T:TypeId)(hT:Tryz.prog.underlying T=some (.slice 49))(ho:o.op=.call { callee:=.builtin .append,args:=#[s,x],argTypes:=#[T,T] })
 (y:SH)(n:Nat)(qs:List Rat)(b:Nat)(r1 r2:RH)(q1 q2:Rat)(hs:a.eval s=y.v)(hown:eL w D0 y.v n qs)(hx:a.eval x=.slice (some ⟨b,0,none⟩) 1 1)
 (hb:w.heap[b]?=some (.cells #[.bool r1.neg,.slice r1.a r1.n r1.c,.slice r1.b r1.m r1.d,.bool r2.neg,.slice r2.a r2.n r2.c,.slice r2.b r2.m r2.d] 49 (0,0)))(h1:aw w r1 q1)(h2:aw w r2 q2)(hl:n≤536870912)(hD0:∀ k,w.heap.size≤k→D0 k)(hDD:∀ L o,y.a=some ⟨L,o,none⟩→DD L){b15:Nat}{cs:Array Value}(h15:w.heap[b15]?=some (.cells cs 55 (0,0)))(hn15:¬ D0 b15) :
  Go.Frd.specAtd Tryz.prog DD o a w SH.v (fun x w'=>SgF D0 (n+1) (qs++[q1,q2]) b15 cs x w'):=by
 obtain ⟨rs,hrs,hv⟩:=hown;have hown2:fv w (fun k=>(DD k∧D0 k)∨w.heap.size≤k) y.v n rs:=by
  rcases hrs with h|⟨L,cap,re,e,g1,g2⟩
  ·exact Or.inl h
  ·refine Or.inr ⟨L,cap,re,e,Or.inl ⟨?_,g1⟩,g2⟩;simp only [SH.v,Value.slice.injEq] at e;exact hDD L 0 e.1
 obtain ⟨L,cap,w',hrun,g1,g2,g3⟩:=ij T o.type hT w (fun k=>(DD k∧D0 k)∨w.heap.size≤k) y.v n rs b 0 1 1 [r1,r2] hown2 rfl (by decide) (fun k hk=>by
  match k,hk with
  | 0,_=>exact ⟨by rw [ae hb];rfl,by rw [ae hb];rfl,by rw [ae hb];rfl⟩
  | 1,_=>exact ⟨by rw [ae hb];rfl,by rw [ae hb];rfl,by rw [ae hb];rfl⟩) hl (by decide) (fun k hk=>Or.inr hk)
 have hrun2:(execOp a.eval o).run Tryz.prog w=.ok (.value (.slice (some ⟨L,0,none⟩) (n+1) cap)) w':=by simp [execOp,ho,resolve,invoke,builtin,hs,hx,hrun,Result.andThen]
 unfold Go.Frd.specAtd;rw [hrun2];refine ⟨⟨⟨g2.os,g2.tape,g2.output,g2.size,fun k hk hn=>g2.block k hk (fun h=>h.elim (fun h=>hn h.1) (fun h=>by omega))⟩,g3⟩,⟨some ⟨L,0,none⟩,n+1,cap⟩,rfl,⟨rs++[r1,r2],?_,?_⟩,(g2.block b15 (Array.getElem?_eq_some_iff.1 h15).1 (fun h=>h.elim (fun h=>hn15 h.2) (fun h=>by have:=(Array.getElem?_eq_some_iff.1 h15).1;omega))).trans h15⟩
 ·rcases g1 with h|⟨L2,cap2,re2,e2,k1,k2⟩
  ·exact Or.inl h
  ·refine Or.inr ⟨L2,cap2,re2,e2,?_,k2⟩;rcases k1 with k1|k1
   ·exact k1.2
   ·exact hD0 _ k1
 ·have h3:dT aw w [r1,r2] [q1,q2]:=⟨rfl,fun k hk=>by
   match k,hk with
   | 0,_=>exact h1
   | 1,_=>exact h2⟩
  exact (dT.app hv h3).keep g3
def VR(f:Int→Rat)(x:RH×{ v:Int // 0≤v∧v<12 })(w:World):Prop:=aw w x.1 (f x.2.1)
def TpF(b:Nat)(ao:Option Addr)(n c:Nat)(ap:Int)(w:World):Prop:=0≤ap∧ap≤n∧w.heap[b]?=some (.cells #[.slice ao n c,.int .i64 ap] 58 (0,0))
theorem TpF.ext{b:Nat}{ao:Option Addr}{n c:Nat}{ap:Int}{w w':World}(h:TpF b ao n c ap w)(he:Ext w w'):TpF b ao n c ap w':=⟨h.1,h.2.1,he.block h.2.2⟩
instance {b:Nat} {ao:Option Addr} {n c:Nat} {ap:Int} {w w':World}:Go.Front.Mv w w' (TpF b ao n c ap w) (TpF b ao n c ap w'):=⟨fun e h=>TpF.ext h e⟩

theorem vF{b n c:Nat}{ao:Option Addr}{DT:Nat→Prop}{w w2:World}{e:Ending}(hDT:DT=fun k=>k=b)(h:qN b n ao c 12 w e w2) :
  ∃ x:{ v:Int // 0≤v∧v<12 }×Int,e=.returned (.int .i64 x.1.1)∧Go.Frd.Exd DT w w2∧TpF b ao n c x.2 w2:=by
 obtain ⟨v,at',w1,rfl,h1,h2,h3,h4,T,he⟩:=h;subst hDT;exact ⟨(⟨v,h1,h2⟩,at'),rfl,Go.Frd.Exd.trans ⟨aJ.put (aJ.refl _ w) T (Or.inl rfl),T.keep⟩ (Go.Frd.Exd.of he),h3,h4,he.block T.bx⟩
theorem RS.modsd{w w':World}{D:Nat→Prop}{lo hi:Nat}{s:SH}{rs:List RH}(h:RS w s rs)(hp:s.n=0∨∃ b off,s.a=some ⟨b,off,none⟩∧lo≤b∧b<hi)(T:Go.Frd.Exd D w w')(hb:∀ b,lo≤b→b<hi→¬ D b):RS w' s rs:=by
 refine ⟨h.len,h.le,h.max,?_⟩;rcases hp with h0|⟨x,o,e,h1,h2⟩
 ·exact Or.inl h0
 ·rcases h.at' with h0|⟨b,off,e2,hc⟩
  ·exact Or.inl h0
  ·rw [e] at e2;obtain ⟨rfl,rfl⟩:x=b∧o=off:=by simpa using e2
   refine Or.inr ⟨x,o,e,fun k hk=>?_⟩;have h3:=hc k hk;have hl:=World.block_lt_of_cell? _ _ h3.1;simp only at hl;have hbk:w'.heap[x]?=w.heap[x]?:=T.1.block x hl (hb x h1 h2);have cc:∀ i,w'.cell? ⟨x,i,none⟩=w.cell? ⟨x,i,none⟩:=fun i=>World.cell?_of_block (w:=w) hbk
   exact ⟨(cc _).trans h3.1,(cc _).trans h3.2.1,(cc _).trans h3.2.2⟩
theorem LIn.modsd{w w':World}{D:Nat→Prop}{lo hi:Nat}{s:SH}{qs:List Rat}(h:LIn w s qs lo hi)(T:Go.Frd.Exd D w w')(hb:∀ b,lo≤b→b<hi→¬ D b):LIn w' s qs lo hi:=by
 obtain ⟨rs,h1,h2,h3⟩:=h;exact ⟨rs,h1.modsd h3 T hb,h2.keep T.2,h3⟩
theorem yg{v:Int}(h0:0≤v)(h1:v<12):Sz 2 (((1+v:Int):Rat) / ((12:Int):Rat)):=((Sz.int (by unfold W32;omega)).div (Sz.int (by decide))).mono (by decide)
theorem oe{p:List Rat}{lo hi:Rat}{l:List (Rat×Rat)}(ht:tz p=p)(hlh:lo≤hi)(h:ckE p lo hi l=0):og p lo hi=true:=by
 have h1:l≠[]∧ckV p lo l hi=true:=Classical.byContradiction fun hn=>by
  unfold ckE at h;rw [if_neg hn] at h;exact absurd h (by decide)
 obtain ⟨c,hc,k⟩:=AM h1.1 h1.2;have hl:=k lo Rat.le_refl hlh;have h0:tz p≠[]:=fun h0=>by
  rw [Sg.ev_tznil.1 h0 lo] at hl;grind
 unfold og;rw [if_neg h0,ht,gL hlh,gN hlh,Sg.cnt6_on hc lo hi hlh k];exact decide_eq_true ⟨rfl,by rw [Sg.sg_pos (by grind)];decide⟩
theorem xt{m:Int}(h1:0≤m)(h2:m<101):0≤(m:Rat) / ((100:Int):Rat)∧(m:Rat) / ((100:Int):Rat)≤1:=by
 have e:(m:Rat) / ((100:Int):Rat)*((100:Int):Rat)=(m:Rat):=by
  rw [Rat.div_def,Rat.mul_assoc,Rat.inv_mul_cancel _ (by decide),Rat.mul_one]
 have e3:((100:Int):Rat)=100:=rfl;have e1:(0:Rat)≤(m:Rat):=by exact_mod_cast h1
 have e2:(m:Rat)≤100:=by
  have:(m:Rat)≤((100:Int):Rat):=Rat.intCast_le_intCast.2 (by omega);exact this
 rw [e3] at e ⊢;generalize (m:Rat) / 100=c at *
 constructor <;> grind
theorem BO{lo hi c:Rat}(h:lo≤hi)(h1:0≤c)(h2:c≤1):lo≤lo+(hi-lo)*c∧lo+(hi-lo)*c≤hi:=by
 have k1:=Rat.mul_nonneg (a:=hi-lo) (b:=c) (by grind) h1;have k2:=Rat.mul_nonneg (a:=hi-lo) (b:=1-c) (by grind) (by grind);constructor <;> grind
theorem qV(ao mo:Option Addr)(cap mc:Nat)(xs ms:List Int)(zn za zb zx:Int)(w:World)(h:cZ w ao xs)(hr:InR xs)(hl:xs.length≤9223372036854775807)(hc:xs.length≤cap)(hcm:cap≤9223372036854775807)
 (hm:cZ w mo ms)(hmr:InR ms)(hml:ms.length≤9223372036854775807)(hmc:ms.length≤mc)(hmm:mc≤9223372036854775807)
 (c1:-9223372036854775808≤zn)(c2:zn≤9223372036854775807)(a1:-9223372036854775808≤za)(a2:za≤9223372036854775807)(b1:-9223372036854775808≤zb)(b2:zb≤9223372036854775807)(x1:-9223372036854775808≤zx)(x2:zx≤9223372036854775807) :
  au 5 [.slice ao xs.length cap,.slice mo ms.length mc,.int .i64 zn,.int .i64 za,.int .i64 zb,.int .i64 zx] w (fun _:Unit=>.bool true) (fun _ _=>True):=by
 have HX:=Hi (Ext.refl w);have HPo:=Hi (vG ao cap xs zn w h hr hl hc hcm c1 c2);obtain ⟨f2,f3,f4⟩:=sk xs zn;obtain ⟨n,hn⟩:∃ n,n=xs.length:=⟨_,rfl⟩;obtain ⟨p,hp⟩:∃ p,p=vH xs zn:=⟨_,rfl⟩;rw [←hn,←hp] at HPo;rw [←hp] at f2 f3 f4;have hpl:=f2;have HTZ:=Hi f3;have FZ:=Hi f4;have HZ:=Hi f4.sz;have HMI:=Hi hm;have HMR:=Hi hmr;obtain ⟨mn,hmn⟩:∃ mn,mn=ms.length:=⟨_,rfl⟩;have HMN:=Hi hmn;rw [←hmn] at hml hmc ⊢;rw [←hn];clear hn hp h hr hl hc hcm f2 f3 f4 hm hmr hmn;unfold au;go_enter Tryz.func5,Tryz.ntmps5
 go_wp2_with fail
 refine cM (HPo.out) fun x24 w24 hE G24=>?_
 replace HX:=hE.tr HX;have hs_w24:=hE.size;clear hE;obtain ⟨pa,pn,pc⟩:=x24;have LP:=Hi G24.out;clear G24;have hpn:pn≤8:=by have e:p.length=pn:=LP.out.len;omega
 have HPL:Hid (p.length=pn):=Hi LP.out.len;simp only [SH.v]
 go_wp2_with fail
 refine cM (By za zb _ a1 a2 b1 b2) fun x27 w27 hE G27=>?_
 refine mV2 hE ?_ HX LP;clear HX LP;intro HX LP;have hs_w27:=hE.size;clear hE;obtain ⟨⟨ln,la,ll,lc,lb,lm,ld⟩,⟨hn,ha,hl,hc,hb,hm,hd⟩⟩:=x27;have TL:Hid (Sg.Tw (loV (k8 za) (k8 zb))):=Hi (CR (mf za) (mf zb));have TH:Hid (Sg.Tw (hiV (k8 za) (k8 zb))):=Hi (CS (mf za) (mf zb));have hlh:=kE (k8 za) (k8 zb);have HL:=Hi G27.out.1;have HH:=Hi G27.out.2;clear G27;obtain ⟨lo,hlo⟩:∃ lo,lo=loV (k8 za) (k8 zb):=⟨_,rfl⟩;obtain ⟨hi,hhi⟩:∃ hi,hi=hiV (k8 za) (k8 zb):=⟨_,rfl⟩;rw [←hlo] at HL TL hlh;rw [←hhi] at HH TH hlh;have HLH:=Hi hlh;have ZL:=Hi (nO TL.out);have ZH:=Hi (nO TH.out);clear hlo hhi hlh;simp only at HL HH
 go_upto_region 2 with fail
 have hsepm:ms≠[]→∀ p,mo=some p→p.block<w.heap.size:=fun hne p hp=>by
  obtain ⟨bx,off,hao,hcell⟩:=HMI.out.at (k:=0) (List.length_pos_iff.2 hne);have hbl:=World.block_lt_of_cell? _ _ hcell;rw [hao] at hp;cases hp;exact hbl
 have LP0:Hid (LIn w27 ⟨pa,pn,pc⟩ p 0 w27.heap.size):=Hi LP.out.lin;clear LP;refine nmA ?_;intro w28 hE B14 hz_w28 hr_w28;refine mV4 hE ?_ HX HL HH LP0;clear HX HL HH LP0;intro HX HL HH LP0;have hs_w28:=hE.size;clear hE;replace b_B14:=Front.b3 B14
 go_upto_region 3 with fail
 refine nmA ?_;intro w29 hE B15 hz_w29 hr_w29
 refine mV5 hE ?_ B14 HX HL HH LP0;clear B14 HX HL HH LP0;intro B14 HX HL HH LP0
 have hs_w29:=hE.size;clear hE;replace b_B14:=Front.b3 B14;replace b_B15:=Front.b3 B15
 go_upto_region 4 with fail
 refine nmA ?_;intro w30 hE B16 hz_w30 hr_w30
 refine mV6 hE ?_ B15 B14 HX HL HH LP0;clear B15 B14 HX HL HH LP0;intro B15 B14 HX HL HH LP0
 have hs_w30:=hE.size;clear hE;replace b_B14:=Front.b3 B14;replace b_B15:=Front.b3 B15;replace b_B16:=Front.b3 B16
 go_upto_region 5 with fail
 refine nmA ?_;intro w31 hE B17 hz_w31 hr_w31
 refine mV7 hE ?_ B16 B15 B14 HX HL HH LP0;clear B16 B15 B14 HX HL HH LP0;intro B16 B15 B14 HX HL HH LP0
 have hs_w31:=hE.size;clear hE;replace b_B14:=Front.b3 B14;replace b_B15:=Front.b3 B15;replace b_B16:=Front.b3 B16;replace b_B17:=Front.b3 B17;have h8:(tz p).length≤8:=by rw [HTZ.out];exact hpl
 have HZT:Hid (SzL 20 (tz p)):=Hi (by rw [HTZ.out];exact HZ.out);have HFT:Hid (FrB 20 (tz p)):=Hi (by rw [HTZ.out];exact FZ.out);have HZ4:Hid (SzL 40000000 p):=Hi (HZ.out.mono (by omega));obtain ⟨-,DF,df1,df2,df3⟩:=FZ.out;have hkn:KN 400000 20 8:=by unfold KN;decide
 have HK1:Hid (FrK 400000 (tz p)):=Hi (by rw [HTZ.out];exact xr (by decide) df1 df2 df3 hpl hkn);have HK2:Hid (FrK 400000 (Sg.sqfV (tz p))):=Hi (by
  rw [HTZ.out];by_cases h0:tz p=[]
  ·rw [HTZ.out] at h0;rw [h0,show Sg.sqfV []=[] by decide +kernel];exact ⟨1,1,by decide,by decide,by decide,fun x hx=>by simp at hx,Or.inl (by decide)⟩
  ·exact Ap df1 df3 h0 hpl (by decide) hkn)
 have hpk:(pn+1)*(400000 / 3)≤25000000:=Nat.le_trans (Nat.mul_le_mul_right _ (show pn+1≤9 by omega)) (by decide);have HEV:Hid (∀ k,k≤p.length→Sz 40000000 (evV (p.drop k) lo)):=Hi (fun k hk=>(qp df3 ZL.out (by decide) df1 df2 k).mono (by omega));have e1:=Int.emod_nonneg zx (show (101:Int)≠0 by decide);have e2:=Int.emod_lt_of_pos zx (show (0:Int)<101 by decide);obtain ⟨m,hme⟩:∃ m,m=zx % 101:=⟨_,rfl⟩;have HM:=Hi hme;rw [←hme] at e1 e2;clear hme;have ZW:Hid (Sz 3 (hi-lo)):=Hi ((ZH.out.sub ZL.out).mono (by decide));have ZF:Hid (Sz 2 ((m:Rat) / ((100:Int):Rat))):=Hi (((Sz.int (by unfold W32;omega)).div (Sz.int (by decide))).mono (by decide));have HFI:=Hi (xt e1 e2);have ZX:Hid (Sz 8 (lo+(hi-lo)*((m:Rat) / ((100:Int):Rat)))):=Hi ((ZL.out.add (ZW.out.mul ZF.out)).mono (by decide));have HIN:=Hi (BO HLH.out HFI.out.1 HFI.out.2);obtain ⟨x,hx⟩:∃ x,x=lo+(hi-lo)*((m:Rat) / ((100:Int):Rat)):=⟨_,rfl⟩;have HXE:=Hi hx;rw [←hx] at HIN ZX;clear hx hkn;have HEX:Hid (∀ k,k≤p.length→Sz 40000000 (evV (p.drop k) x)):=Hi (fun k hk=>(qp df3 ZX.out (by decide) df1 df2 k).mono (by omega));clear df1 df2 df3;obtain ⟨b14,hb14⟩:∃ b,b=w27.heap.size:=⟨_,rfl⟩;obtain ⟨b15,hb15⟩:∃ b,b=w28.heap.size:=⟨_,rfl⟩;obtain ⟨b16,hb16⟩:∃ b,b=w29.heap.size:=⟨_,rfl⟩;obtain ⟨b17,hb17⟩:∃ b,b=w30.heap.size:=⟨_,rfl⟩;have hbo:w.heap.size≤w27.heap.size:=by omega
 have hx1:w27.heap.size≤b14∧b14<b15∧b15<b16∧b16<b17∧b17<w31.heap.size:=by omega
 obtain ⟨o1,o2,o3,o4,o5⟩:=hx1;rw [←hb17] at B17 ⊢;rw [←hb16] at B16 ⊢;rw [←hb15] at B15 ⊢;rw [←hb14] at B14 ⊢;clear hb14 hb15 hb16 hb17 b_B14 b_B15 b_B16 b_B17;go_wp2
 go_loopg [] 12 (fun g wr=>∃ (k:Nat) (y:SH) (qs:List Rat) (q:RH) (aq:Rat) (ap:Int),k+g=12∧Ext w wr∧w31.heap.size≤wr.heap.size∧LIn wr ⟨pa,pn,pc⟩ p 0 w27.heap.size∧aw wr ⟨ln,la,ll,lc,lb,lm,ld⟩ lo∧aw wr ⟨hn,ha,hl,hc,hb,hm,hd⟩ hi∧wr.heap[b14]?=some (.cells #[.bool ln,.slice la ll lc,.slice lb lm ld,.bool hn,.slice ha hl hc,.slice hb hm hd] 49 (0,0))∧wr.heap[b15]?=some (.cells #[.bool ln,.slice la ll lc,.slice lb lm ld,.bool hn,.slice ha hl hc,.slice hb hm hd,.slice y.a y.n y.c] 55 (0,0))∧eL wr (w31.heap.size≤·) y.v k qs∧wr.heap[b16]?=some (.cells #[.bool q.neg,.slice q.a q.n q.c,.slice q.b q.m q.d] 30 (0,0))∧aw wr q aq∧Sg.Tw aq∧TwL qs∧wr.heap[b17]?=some (.cells #[.slice mo mn mc,.int .i64 ap] 58 (0,0))∧0≤ap∧ap≤mn)
 case atStart=>exact ⟨0,⟨none,0,0⟩,[],⟨ln,la,ll,lc,lb,lm,ld⟩,lo,0,rfl,HX.out,Nat.le_refl _,LP0.out,HL.out,HH.out,B14.out,B15.out,eL.nil _ _,B16.out,HL.out,TL.out,fun q hq=>by simp at hq,B17.out,by decide,by omega⟩
 case round =>
  obtain ⟨k,⟨ya,yn,yc⟩,qs,⟨qn,qa,ql,qc,qb,qm,qd⟩,aq,ap,hkg,g1,hwr,g2,g3,g4,g5,g6,g7,g8,g9,g10,g11,g12,g13,g14⟩:=hrel;clear HX LP0 HL HH B14 B15 B16 B17;have HX:=Hi g1;have LP:=Hi g2;have HL:=Hi g3;have HH:=Hi g4;have B14:=Hi g5;have B15:=Hi g6;have HO:=Hi g7;have B16:=Hi g8;have HA:=Hi g9;have TA:=Hi g10;have HQ:=Hi g11;have B17:=Hi g12;have hyk:yn=k:=(eL.can (s:=⟨ya,yn,yc⟩) g7).1;subst hyk;have hk12:yn≤12:=by omega
  clear g1 g2 g3 g4 g5 g6 g7 g8 g9 g10 g11 g12;simp only at B15 B16;replace b_B14:=Front.b3 B14;replace b_B15:=Front.b3 B15;replace b_B16:=Front.b3 B16;replace b_B17:=Front.b3 B17
  go_wp2_with fail
  refine cM (wK b17 mn mc mo ap _ B17.out) fun x36 w36 hE _=>?_
  refine mV8 hE ?_ HX LP HL HH B14 B15 HO B16;clear HX LP HL HH B14 B15 HO B16;intro HX LP HL HH B14 B15 HO B16;refine mV2 hE ?_ HA B17;clear HA B17;intro HA B17;have hs_w36:=hE.size;clear hE;replace b_B14:=Front.b3 B14;replace b_B15:=Front.b3 B15;replace b_B16:=Front.b3 B16;replace b_B17:=Front.b3 B17;by_cases hmore:ap<(mn:Int)
  case neg =>
   have hmb:decide (ap<(mn:Int))=false:=decide_eq_false hmore;rw [hmb];clear HA;have C1:=Hi (eL.can (s:=⟨ya,yn,yc⟩) HO.out).2;have hyn:=(eL.can (s:=⟨ya,yn,yc⟩) HO.out).1;simp only at hyn;have LP1:Hid (LIn w36 ⟨pa,pn,pc⟩ p 0 w36.heap.size):=Hi LP.out.can.lin;have HSZ:Hid (SzL 1 qs):=Hi (fun q hq=>nO (HQ.out q hq));obtain ⟨e,hee⟩:∃ e,e=ckE p lo hi (tps qs):=⟨_,rfl⟩;have HEE:=Hi hee;clear hee;clear LP;clear HO
   (try clear b_B16);clear B16
   (try clear b_B17);clear B17
   go_wp2_with fail
   refine cM ((by have h:=iV pa pn pc p ⟨ln,la,ll,lc,lb,lm,ld⟩ ⟨hn,ha,hl,hc,hb,hm,hd⟩ ya yn yc qs lo hi 20 1 _ (LP1.out.can.raw HZ.out (by decide)) (HL.out.raw ZL.out (by decide)) (HH.out.raw ZH.out (by decide)) (C1.out.raw HSZ.out (by decide)) (by omega) h8 HZT.out ZL.out ZH.out HSZ.out (by decide) (by decide) (by omega);rw [HTZ.out,gL HLH.out,gN HLH.out,←HEE.out] at h;exact h)) fun x69 w69 hE _=>?_
   refine mV7 hE ?_ HX HL HH B14 B15 C1 LP1;clear HX HL HH B14 B15 C1 LP1;intro HX HL HH B14 B15 C1 LP1
   have hs_w69:=hE.size;clear hE;replace b_B14:=Front.b3 B14;replace b_B15:=Front.b3 B15;by_cases he:e=0
   case neg =>
    have heb:(e == 0)=false:=by rw [beq_eq_false_iff_ne];exact he
    go_wp2_with fail
    refine cM (dZ _) fun x71 w71 hE _=>?_
    refine mV7 hE ?_ HX HL HH B14 B15 C1 LP1;clear HX HL HH B14 B15 C1 LP1;intro HX HL HH B14 B15 C1 LP1
    have hs_w71:=hE.size;clear hE;replace b_B14:=Front.b3 B14;replace b_B15:=Front.b3 B15
    go_wp2_with fail
    refine cM ((by have h:=gG pa pn pc p ⟨ln,la,ll,lc,lb,lm,ld⟩ ⟨hn,ha,hl,hc,hb,hm,hd⟩ ya yn yc qs lo hi 20 1 _ (LP1.out.can.raw HZ.out (by decide)) (HL.out.raw ZL.out (by decide)) (HH.out.raw ZH.out (by decide)) (C1.out.raw HSZ.out (by decide)) (by omega) h8 HFT.out ZL.out ZH.out HSZ.out (by decide) (by decide) (by decide) (by omega);rw [HTZ.out,gL HLH.out,gN HLH.out,←HEE.out] at h;exact h)) fun x75 w75 hE _=>?_
    refine mV7 hE ?_ HX HL HH B14 B15 C1 LP1;clear HX HL HH B14 B15 C1 LP1;intro HX HL HH B14 B15 C1 LP1
    have hs_w75:=hE.size;clear hE;replace b_B14:=Front.b3 B14;replace b_B15:=Front.b3 B15;go_wp2
    go_ret
    exact ⟨(),rfl,HX.out,trivial⟩
   subst he;have HP6:Hid (og p lo hi=true):=Hi (oe HTZ.out HLH.out HEE.out.symm);have HPX:Hid (∀ x,lo≤x→x≤hi→0<evV p x):=Hi (oO HLH.out HEE.out.symm).2;clear C1
   go_wp2_with fail
   refine cM (fi pa pn pc p 400000 ⟨ln,la,ll,lc,lb,lm,ld⟩ ⟨hn,ha,hl,hc,hb,hm,hd⟩ lo hi 1 _ (LP1.out.can.raw HZ.out (by decide)) (by omega) HK1.out (by decide) hpk HK2.out (HL.out.raw ZL.out (by decide)) (HH.out.raw ZH.out (by decide)) ZL.out ZH.out (by decide) HZ4.out HEV.out) fun x81 w81 hE _=>?_
   refine mV6 hE ?_ HX HL HH B14 B15 LP1;clear HX HL HH B14 B15 LP1;intro HX HL HH B14 B15 LP1;have hs_w81:=hE.size;clear hE;replace b_B14:=Front.b3 B14;replace b_B15:=Front.b3 B15;rw [HP6.out]
   go_upto_region 11 with fail
   refine wpG 10 (fun opIx=>match opIx with
    | 3=>.spec RH default RH.v (fun s w'=>aw w' s (hi-lo))
    | 5=>.spec Unit () (fun _=>.int .i64 m) (fun _ _=>True)
    | 6=>.spec RH default RH.v (fun s w'=>aw w' s ((m:Rat) / ((100:Int):Rat)))
    | 7=>.spec RH default RH.v (fun s w'=>aw w' s ((hi-lo)*((m:Rat) / ((100:Int):Rat))))
    | 8=>.spec RH default RH.v (fun s w'=>aw w' s (x))
    | 9=>.alloc 30 #[.bool false,.slice none 0 0,.slice none 0 0]
    | _=>.quiet) (fun|7=>[3,6]|8=>[7]|_=>[]) fun w0 he0 hz0 hc0 hf0=>?_
   refine wps he0.out rfl rfl (fun w1 hW hG=>?_) fun x90=>?_
   ·exact spc [IvV (⟨ln,la,ll,lc,lb,lm,ld⟩,⟨hn,ha,hl,hc,hb,hm,hd⟩)] Tryz.func39 ((by have h:=gg ⟨ln,la,ll,lc,lb,lm,ld⟩ ⟨hn,ha,hl,hc,hb,hm,hd⟩ lo hi 1 _ ((HL.out.ext hW).raw ZL.out (by decide)) ((HH.out.ext hW).raw ZH.out (by decide)) ZL.out ZH.out (by decide);rw [gL HLH.out,gN HLH.out] at h;exact h))
   refine qZ ?_;refine wps he0.out rfl rfl (fun w1 hW hG=>?_) fun x91=>?_
   ·exact spc [.int .i64 zx,.int .i64 101] Tryz.func40 ((by rw [HM.out];exact fk zx 101 _ x1 x2 (by decide) (by decide)))
   refine qZ ?_;refine wps he0.out rfl rfl (fun w1 hW hG=>?_) fun x92=>?_
   ·exact spc [.int .i64 m,.int .i64 100] Tryz.func32 (cN m 100 _ (by omega) (by omega) (by decide) (by decide))
   refine qZ ?_;refine wps he0.out rfl rfl (fun w1 hW hG=>?_) fun x93=>?_
   ·have g90:=(hG 3 (by decide):ay _ _).get fun _ e g=>g.ext e
    have g92:=(hG 6 (by decide):ay _ _).get fun _ e g=>g.ext e
    exact spc [x90.v,x92.v] Tryz.func38 (bW x90 x92 _ _ _ (g90.raw ZW.out (by decide)) (g92.raw ZF.out (by decide)))
   refine qZ ?_;refine wps he0.out rfl rfl (fun w1 hW hG=>?_) fun x94=>?_
   ·have g93:=(hG 7 (by decide):ay _ _).get fun _ e g=>g.ext e
    exact spc [RH.v ⟨ln,la,ll,lc,lb,lm,ld⟩,x93.v] Tryz.func31 ((by rw [HXE.out];exact bX _ x93 _ _ _ ((HL.out.ext hW).raw ZL.out (by decide)) (g93.raw (ZW.out.mul ZF.out) (by decide))))
   refine qZ ?_;refine wpF_alloc rfl rfl (fun w=>by simp [execOp,go_sem,ptr]) (fun b95 hb95 hl95=>?_);refine qZ ?_;refine wpF_nil ?_;intro w91 hI;have hE:=he0.out.trans hI.ext;have G90:=gT (hI.facts 3);have G92:=gT (hI.facts 6);have G93:=gT (hI.facts 7);have G94:=gT (hI.facts 8);have A95:Hid (w91.heap[b95]?=some (.cells #[.bool false,.slice none 0 0,.slice none 0 0] 30 (0,0))):=hI.facts 9;rw [hz0] at hl95;clear hI he0 hz0 hc0 hf0
   refine mV6 hE ?_ HX HH B14 B15 LP1 HL;clear HX HH B14 B15 LP1 HL;intro HX HH B14 B15 LP1 HL
   have hs_w91:=hE.size;clear hE;replace b_B14:=Front.b3 B14;replace b_B15:=Front.b3 B15;replace b_A95:=Front.b3 A95;simp only [pD,ptr];clear G90;clear G92;clear G93;obtain ⟨tn,ta,tl,tc,tb,tm,td⟩:=x94
   go_upto_region 12 with fail
   refine aI A95.out rfl ?_;intro w96 T;replace HX:=Hi (T.ext HX.out (by omega));replace HL:=Hi (HL.out.keep T.keep);replace HH:=Hi (HH.out.keep T.keep);replace B14:=Hi (T.rest _ _ (by omega) B14.out);replace B15:=Hi (T.rest _ _ (by omega) B15.out);replace LP1:=Hi (LP1.out.put T (by omega));replace G94:=Hi (G94.out.keep T.keep);replace A95:=Hi (T.bx);have hs_w96:=nle T.size;have hr_w96:=nle T.size.symm;clear T;replace b_B14:=Front.b3 B14;replace b_B15:=Front.b3 B15;replace b_A95:=Front.b3 A95
   go_wp2_with fail
   refine cM (dZ _) fun x93 w93 hE _=>?_
   refine mV8 hE ?_ HX HL HH B14 B15 LP1 G94 A95;clear HX HL HH B14 B15 LP1 G94 A95;intro HX HL HH B14 B15 LP1 G94 A95
   have hs_w93:=hE.size;clear hE;replace b_B14:=Front.b3 B14;replace b_B15:=Front.b3 B15;replace b_A95:=Front.b3 A95
   go_wp2_with fail
   refine cM (fS pa pn pc p ⟨tn,ta,tl,tc,tb,tm,td⟩ x _ LP1.out.can G94.out (by omega) HZ4.out (ZX.out.mono (by decide)) HEX.out) fun x104 w104 hE G104=>?_
   refine mV8 hE ?_ HX HL HH B14 B15 LP1 G94 A95;clear HX HL HH B14 B15 LP1 G94 A95;intro HX HL HH B14 B15 LP1 G94 A95
   have hs_w104:=hE.size;clear hE;replace b_B14:=Front.b3 B14;replace b_B15:=Front.b3 B15;replace b_A95:=Front.b3 A95
   go_wp2_with fail
   refine cM (cL x104 (evV p x) _ (G104.out.raw (HEX.out 0 (Nat.zero_le _)) (by decide))) fun x105 w105 hE _=>?_
   refine mV8 hE ?_ G104 HX HL HH B14 B15 LP1 G94;clear G104 HX HL HH B14 B15 LP1 G94;intro G104 HX HL HH B14 B15 LP1 G94
   replace A95:=mV hE A95;have hs_w105:=hE.size;clear hE;replace b_B14:=Front.b3 B14;replace b_B15:=Front.b3 B15;replace b_A95:=Front.b3 A95;have hsg:0<dM (evV p x) 0:=by rw [k9,Sg.sg_pos (HPX.out x HIN.out.1 HIN.out.2)];decide
   obtain ⟨z,hz⟩:∃ z,z=dM (evV p x) 0:=⟨_,rfl⟩;rw [←hz] at hsg ⊢;clear hz;go_wp2
   go_ret
   exact ⟨(),rfl,HX.out,trivial⟩
  have hmb:decide (ap<(mn:Int))=true:=decide_eq_true hmore;rw [hmb];by_cases h12:yn<12
  case neg =>
   have h12b:¬ (yn:Int)<12:=by omega
   clear HA;have C1:=Hi (eL.can (s:=⟨ya,yn,yc⟩) HO.out).2;have hyn:=(eL.can (s:=⟨ya,yn,yc⟩) HO.out).1;simp only at hyn;have LP1:Hid (LIn w36 ⟨pa,pn,pc⟩ p 0 w36.heap.size):=Hi LP.out.can.lin;have HSZ:Hid (SzL 1 qs):=Hi (fun q hq=>nO (HQ.out q hq));obtain ⟨e,hee⟩:∃ e,e=ckE p lo hi (tps qs):=⟨_,rfl⟩;have HEE:=Hi hee;clear hee;clear LP;clear HO
   (try clear b_B16);clear B16
   (try clear b_B17);clear B17
   go_wp2_with fail
   refine cM ((by have h:=iV pa pn pc p ⟨ln,la,ll,lc,lb,lm,ld⟩ ⟨hn,ha,hl,hc,hb,hm,hd⟩ ya yn yc qs lo hi 20 1 _ (LP1.out.can.raw HZ.out (by decide)) (HL.out.raw ZL.out (by decide)) (HH.out.raw ZH.out (by decide)) (C1.out.raw HSZ.out (by decide)) (by omega) h8 HZT.out ZL.out ZH.out HSZ.out (by decide) (by decide) (by omega);rw [HTZ.out,gL HLH.out,gN HLH.out,←HEE.out] at h;exact h)) fun x69 w69 hE _=>?_
   refine mV7 hE ?_ HX HL HH B14 B15 C1 LP1;clear HX HL HH B14 B15 C1 LP1;intro HX HL HH B14 B15 C1 LP1
   have hs_w69:=hE.size;clear hE;replace b_B14:=Front.b3 B14;replace b_B15:=Front.b3 B15;by_cases he:e=0
   case neg =>
    have heb:(e == 0)=false:=by rw [beq_eq_false_iff_ne];exact he
    go_wp2_with fail
    refine cM (dZ _) fun x71 w71 hE _=>?_
    refine mV7 hE ?_ HX HL HH B14 B15 C1 LP1;clear HX HL HH B14 B15 C1 LP1;intro HX HL HH B14 B15 C1 LP1
    have hs_w71:=hE.size;clear hE;replace b_B14:=Front.b3 B14;replace b_B15:=Front.b3 B15
    go_wp2_with fail
    refine cM ((by have h:=gG pa pn pc p ⟨ln,la,ll,lc,lb,lm,ld⟩ ⟨hn,ha,hl,hc,hb,hm,hd⟩ ya yn yc qs lo hi 20 1 _ (LP1.out.can.raw HZ.out (by decide)) (HL.out.raw ZL.out (by decide)) (HH.out.raw ZH.out (by decide)) (C1.out.raw HSZ.out (by decide)) (by omega) h8 HFT.out ZL.out ZH.out HSZ.out (by decide) (by decide) (by decide) (by omega);rw [HTZ.out,gL HLH.out,gN HLH.out,←HEE.out] at h;exact h)) fun x75 w75 hE _=>?_
    refine mV7 hE ?_ HX HL HH B14 B15 C1 LP1;clear HX HL HH B14 B15 C1 LP1;intro HX HL HH B14 B15 C1 LP1
    have hs_w75:=hE.size;clear hE;replace b_B14:=Front.b3 B14;replace b_B15:=Front.b3 B15;go_wp2
    go_ret
    exact ⟨(),rfl,HX.out,trivial⟩
   subst he;have HP6:Hid (og p lo hi=true):=Hi (oe HTZ.out HLH.out HEE.out.symm);have HPX:Hid (∀ x,lo≤x→x≤hi→0<evV p x):=Hi (oO HLH.out HEE.out.symm).2;clear C1
   go_wp2_with fail
   refine cM (fi pa pn pc p 400000 ⟨ln,la,ll,lc,lb,lm,ld⟩ ⟨hn,ha,hl,hc,hb,hm,hd⟩ lo hi 1 _ (LP1.out.can.raw HZ.out (by decide)) (by omega) HK1.out (by decide) hpk HK2.out (HL.out.raw ZL.out (by decide)) (HH.out.raw ZH.out (by decide)) ZL.out ZH.out (by decide) HZ4.out HEV.out) fun x81 w81 hE _=>?_
   refine mV6 hE ?_ HX HL HH B14 B15 LP1;clear HX HL HH B14 B15 LP1;intro HX HL HH B14 B15 LP1;have hs_w81:=hE.size;clear hE;replace b_B14:=Front.b3 B14;replace b_B15:=Front.b3 B15;rw [HP6.out]
   go_upto_region 11 with fail
   refine wpG 10 (fun opIx=>match opIx with
    | 3=>.spec RH default RH.v (fun s w'=>aw w' s (hi-lo))
    | 5=>.spec Unit () (fun _=>.int .i64 m) (fun _ _=>True)
    | 6=>.spec RH default RH.v (fun s w'=>aw w' s ((m:Rat) / ((100:Int):Rat)))
    | 7=>.spec RH default RH.v (fun s w'=>aw w' s ((hi-lo)*((m:Rat) / ((100:Int):Rat))))
    | 8=>.spec RH default RH.v (fun s w'=>aw w' s (x))
    | 9=>.alloc 30 #[.bool false,.slice none 0 0,.slice none 0 0]
    | _=>.quiet) (fun|7=>[3,6]|8=>[7]|_=>[]) fun w0 he0 hz0 hc0 hf0=>?_
   refine wps he0.out rfl rfl (fun w1 hW hG=>?_) fun x90=>?_
   ·exact spc [IvV (⟨ln,la,ll,lc,lb,lm,ld⟩,⟨hn,ha,hl,hc,hb,hm,hd⟩)] Tryz.func39 ((by have h:=gg ⟨ln,la,ll,lc,lb,lm,ld⟩ ⟨hn,ha,hl,hc,hb,hm,hd⟩ lo hi 1 _ ((HL.out.ext hW).raw ZL.out (by decide)) ((HH.out.ext hW).raw ZH.out (by decide)) ZL.out ZH.out (by decide);rw [gL HLH.out,gN HLH.out] at h;exact h))
   refine qZ ?_;refine wps he0.out rfl rfl (fun w1 hW hG=>?_) fun x91=>?_
   ·exact spc [.int .i64 zx,.int .i64 101] Tryz.func40 ((by rw [HM.out];exact fk zx 101 _ x1 x2 (by decide) (by decide)))
   refine qZ ?_;refine wps he0.out rfl rfl (fun w1 hW hG=>?_) fun x92=>?_
   ·exact spc [.int .i64 m,.int .i64 100] Tryz.func32 (cN m 100 _ (by omega) (by omega) (by decide) (by decide))
   refine qZ ?_;refine wps he0.out rfl rfl (fun w1 hW hG=>?_) fun x93=>?_
   ·have g90:=(hG 3 (by decide):ay _ _).get fun _ e g=>g.ext e
    have g92:=(hG 6 (by decide):ay _ _).get fun _ e g=>g.ext e
    exact spc [x90.v,x92.v] Tryz.func38 (bW x90 x92 _ _ _ (g90.raw ZW.out (by decide)) (g92.raw ZF.out (by decide)))
   refine qZ ?_;refine wps he0.out rfl rfl (fun w1 hW hG=>?_) fun x94=>?_
   ·have g93:=(hG 7 (by decide):ay _ _).get fun _ e g=>g.ext e
    exact spc [RH.v ⟨ln,la,ll,lc,lb,lm,ld⟩,x93.v] Tryz.func31 ((by rw [HXE.out];exact bX _ x93 _ _ _ ((HL.out.ext hW).raw ZL.out (by decide)) (g93.raw (ZW.out.mul ZF.out) (by decide))))
   refine qZ ?_;refine wpF_alloc rfl rfl (fun w=>by simp [execOp,go_sem,ptr]) (fun b95 hb95 hl95=>?_);refine qZ ?_;refine wpF_nil ?_;intro w91 hI;have hE:=he0.out.trans hI.ext;have G90:=gT (hI.facts 3);have G92:=gT (hI.facts 6);have G93:=gT (hI.facts 7);have G94:=gT (hI.facts 8);have A95:Hid (w91.heap[b95]?=some (.cells #[.bool false,.slice none 0 0,.slice none 0 0] 30 (0,0))):=hI.facts 9;rw [hz0] at hl95;clear hI he0 hz0 hc0 hf0
   refine mV6 hE ?_ HX HH B14 B15 LP1 HL;clear HX HH B14 B15 LP1 HL;intro HX HH B14 B15 LP1 HL
   have hs_w91:=hE.size;clear hE;replace b_B14:=Front.b3 B14;replace b_B15:=Front.b3 B15;replace b_A95:=Front.b3 A95;simp only [pD,ptr];clear G90;clear G92;clear G93;obtain ⟨tn,ta,tl,tc,tb,tm,td⟩:=x94
   go_upto_region 12 with fail
   refine aI A95.out rfl ?_;intro w96 T;replace HX:=Hi (T.ext HX.out (by omega));replace HL:=Hi (HL.out.keep T.keep);replace HH:=Hi (HH.out.keep T.keep);replace B14:=Hi (T.rest _ _ (by omega) B14.out);replace B15:=Hi (T.rest _ _ (by omega) B15.out);replace LP1:=Hi (LP1.out.put T (by omega));replace G94:=Hi (G94.out.keep T.keep);replace A95:=Hi (T.bx);have hs_w96:=nle T.size;have hr_w96:=nle T.size.symm;clear T;replace b_B14:=Front.b3 B14;replace b_B15:=Front.b3 B15;replace b_A95:=Front.b3 A95
   go_wp2_with fail
   refine cM (dZ _) fun x93 w93 hE _=>?_
   refine mV8 hE ?_ HX HL HH B14 B15 LP1 G94 A95;clear HX HL HH B14 B15 LP1 G94 A95;intro HX HL HH B14 B15 LP1 G94 A95
   have hs_w93:=hE.size;clear hE;replace b_B14:=Front.b3 B14;replace b_B15:=Front.b3 B15;replace b_A95:=Front.b3 A95
   go_wp2_with fail
   refine cM (fS pa pn pc p ⟨tn,ta,tl,tc,tb,tm,td⟩ x _ LP1.out.can G94.out (by omega) HZ4.out (ZX.out.mono (by decide)) HEX.out) fun x104 w104 hE G104=>?_
   refine mV8 hE ?_ HX HL HH B14 B15 LP1 G94 A95;clear HX HL HH B14 B15 LP1 G94 A95;intro HX HL HH B14 B15 LP1 G94 A95
   have hs_w104:=hE.size;clear hE;replace b_B14:=Front.b3 B14;replace b_B15:=Front.b3 B15;replace b_A95:=Front.b3 A95
   go_wp2_with fail
   refine cM (cL x104 (evV p x) _ (G104.out.raw (HEX.out 0 (Nat.zero_le _)) (by decide))) fun x105 w105 hE _=>?_
   refine mV8 hE ?_ G104 HX HL HH B14 B15 LP1 G94;clear G104 HX HL HH B14 B15 LP1 G94;intro G104 HX HL HH B14 B15 LP1 G94
   replace A95:=mV hE A95;have hs_w105:=hE.size;clear hE;replace b_B14:=Front.b3 B14;replace b_B15:=Front.b3 B15;replace b_A95:=Front.b3 A95;have hsg:0<dM (evV p x) 0:=by rw [k9,Sg.sg_pos (HPX.out x HIN.out.1 HIN.out.2)];decide
   obtain ⟨z,hz⟩:∃ z,z=dM (evV p x) 0:=⟨_,rfl⟩;rw [←hz] at hsg ⊢;clear hz;go_wp2
   go_ret
   exact ⟨(),rfl,HX.out,trivial⟩
  have h12b:(yn:Int)<12:=by omega
  go_wp2_with fail
  refine cM (iJ ⟨qn,qa,ql,qc,qb,qm,qd⟩ ⟨hn,ha,hl,hc,hb,hm,hd⟩ aq hi _ (HA.out.raw (nO TA.out) (by decide)) (HH.out.raw ZH.out (by decide))) fun x47 w47 hE _=>?_
  refine mV8 hE ?_ LP HO B16 HA B17 HX HL HH;clear LP HO B16 HA B17 HX HL HH;intro LP HO B16 HA B17 HX HL HH
  refine mV2 hE ?_ B14 B15;clear B14 B15;intro B14 B15
  have hs_w47:=hE.size;clear hE;replace b_B14:=Front.b3 B14;replace b_B15:=Front.b3 B15;replace b_B16:=Front.b3 B16;replace b_B17:=Front.b3 B17;by_cases hlt:aq<hi
  case neg =>
   have hlb:decide (aq<hi)=false:=decide_eq_false hlt;rw [hlb];clear HA;have C1:=Hi (eL.can (s:=⟨ya,yn,yc⟩) HO.out).2;have hyn:=(eL.can (s:=⟨ya,yn,yc⟩) HO.out).1;simp only at hyn;have LP1:Hid (LIn w47 ⟨pa,pn,pc⟩ p 0 w47.heap.size):=Hi LP.out.can.lin;have HSZ:Hid (SzL 1 qs):=Hi (fun q hq=>nO (HQ.out q hq));obtain ⟨e,hee⟩:∃ e,e=ckE p lo hi (tps qs):=⟨_,rfl⟩;have HEE:=Hi hee;clear hee;clear LP;clear HO
   (try clear b_B16);clear B16
   (try clear b_B17);clear B17
   go_wp2_with fail
   refine cM ((by have h:=iV pa pn pc p ⟨ln,la,ll,lc,lb,lm,ld⟩ ⟨hn,ha,hl,hc,hb,hm,hd⟩ ya yn yc qs lo hi 20 1 _ (LP1.out.can.raw HZ.out (by decide)) (HL.out.raw ZL.out (by decide)) (HH.out.raw ZH.out (by decide)) (C1.out.raw HSZ.out (by decide)) (by omega) h8 HZT.out ZL.out ZH.out HSZ.out (by decide) (by decide) (by omega);rw [HTZ.out,gL HLH.out,gN HLH.out,←HEE.out] at h;exact h)) fun x69 w69 hE _=>?_
   refine mV7 hE ?_ HX HL HH B14 B15 C1 LP1;clear HX HL HH B14 B15 C1 LP1;intro HX HL HH B14 B15 C1 LP1
   have hs_w69:=hE.size;clear hE;replace b_B14:=Front.b3 B14;replace b_B15:=Front.b3 B15;by_cases he:e=0
   case neg =>
    have heb:(e == 0)=false:=by rw [beq_eq_false_iff_ne];exact he
    go_wp2_with fail
    refine cM (dZ _) fun x71 w71 hE _=>?_
    refine mV7 hE ?_ HX HL HH B14 B15 C1 LP1;clear HX HL HH B14 B15 C1 LP1;intro HX HL HH B14 B15 C1 LP1
    have hs_w71:=hE.size;clear hE;replace b_B14:=Front.b3 B14;replace b_B15:=Front.b3 B15
    go_wp2_with fail
    refine cM ((by have h:=gG pa pn pc p ⟨ln,la,ll,lc,lb,lm,ld⟩ ⟨hn,ha,hl,hc,hb,hm,hd⟩ ya yn yc qs lo hi 20 1 _ (LP1.out.can.raw HZ.out (by decide)) (HL.out.raw ZL.out (by decide)) (HH.out.raw ZH.out (by decide)) (C1.out.raw HSZ.out (by decide)) (by omega) h8 HFT.out ZL.out ZH.out HSZ.out (by decide) (by decide) (by decide) (by omega);rw [HTZ.out,gL HLH.out,gN HLH.out,←HEE.out] at h;exact h)) fun x75 w75 hE _=>?_
    refine mV7 hE ?_ HX HL HH B14 B15 C1 LP1;clear HX HL HH B14 B15 C1 LP1;intro HX HL HH B14 B15 C1 LP1
    have hs_w75:=hE.size;clear hE;replace b_B14:=Front.b3 B14;replace b_B15:=Front.b3 B15;go_wp2
    go_ret
    exact ⟨(),rfl,HX.out,trivial⟩
   subst he;have HP6:Hid (og p lo hi=true):=Hi (oe HTZ.out HLH.out HEE.out.symm);have HPX:Hid (∀ x,lo≤x→x≤hi→0<evV p x):=Hi (oO HLH.out HEE.out.symm).2;clear C1
   go_wp2_with fail
   refine cM (fi pa pn pc p 400000 ⟨ln,la,ll,lc,lb,lm,ld⟩ ⟨hn,ha,hl,hc,hb,hm,hd⟩ lo hi 1 _ (LP1.out.can.raw HZ.out (by decide)) (by omega) HK1.out (by decide) hpk HK2.out (HL.out.raw ZL.out (by decide)) (HH.out.raw ZH.out (by decide)) ZL.out ZH.out (by decide) HZ4.out HEV.out) fun x81 w81 hE _=>?_
   refine mV6 hE ?_ HX HL HH B14 B15 LP1;clear HX HL HH B14 B15 LP1;intro HX HL HH B14 B15 LP1;have hs_w81:=hE.size;clear hE;replace b_B14:=Front.b3 B14;replace b_B15:=Front.b3 B15;rw [HP6.out]
   go_upto_region 11 with fail
   refine wpG 10 (fun opIx=>match opIx with
    | 3=>.spec RH default RH.v (fun s w'=>aw w' s (hi-lo))
    | 5=>.spec Unit () (fun _=>.int .i64 m) (fun _ _=>True)
    | 6=>.spec RH default RH.v (fun s w'=>aw w' s ((m:Rat) / ((100:Int):Rat)))
    | 7=>.spec RH default RH.v (fun s w'=>aw w' s ((hi-lo)*((m:Rat) / ((100:Int):Rat))))
    | 8=>.spec RH default RH.v (fun s w'=>aw w' s (x))
    | 9=>.alloc 30 #[.bool false,.slice none 0 0,.slice none 0 0]
    | _=>.quiet) (fun|7=>[3,6]|8=>[7]|_=>[]) fun w0 he0 hz0 hc0 hf0=>?_
   refine wps he0.out rfl rfl (fun w1 hW hG=>?_) fun x90=>?_
   ·exact spc [IvV (⟨ln,la,ll,lc,lb,lm,ld⟩,⟨hn,ha,hl,hc,hb,hm,hd⟩)] Tryz.func39 ((by have h:=gg ⟨ln,la,ll,lc,lb,lm,ld⟩ ⟨hn,ha,hl,hc,hb,hm,hd⟩ lo hi 1 _ ((HL.out.ext hW).raw ZL.out (by decide)) ((HH.out.ext hW).raw ZH.out (by decide)) ZL.out ZH.out (by decide);rw [gL HLH.out,gN HLH.out] at h;exact h))
   refine qZ ?_;refine wps he0.out rfl rfl (fun w1 hW hG=>?_) fun x91=>?_
   ·exact spc [.int .i64 zx,.int .i64 101] Tryz.func40 ((by rw [HM.out];exact fk zx 101 _ x1 x2 (by decide) (by decide)))
   refine qZ ?_;refine wps he0.out rfl rfl (fun w1 hW hG=>?_) fun x92=>?_
   ·exact spc [.int .i64 m,.int .i64 100] Tryz.func32 (cN m 100 _ (by omega) (by omega) (by decide) (by decide))
   refine qZ ?_;refine wps he0.out rfl rfl (fun w1 hW hG=>?_) fun x93=>?_
   ·have g90:=(hG 3 (by decide):ay _ _).get fun _ e g=>g.ext e
    have g92:=(hG 6 (by decide):ay _ _).get fun _ e g=>g.ext e
    exact spc [x90.v,x92.v] Tryz.func38 (bW x90 x92 _ _ _ (g90.raw ZW.out (by decide)) (g92.raw ZF.out (by decide)))
   refine qZ ?_;refine wps he0.out rfl rfl (fun w1 hW hG=>?_) fun x94=>?_
   ·have g93:=(hG 7 (by decide):ay _ _).get fun _ e g=>g.ext e
    exact spc [RH.v ⟨ln,la,ll,lc,lb,lm,ld⟩,x93.v] Tryz.func31 ((by rw [HXE.out];exact bX _ x93 _ _ _ ((HL.out.ext hW).raw ZL.out (by decide)) (g93.raw (ZW.out.mul ZF.out) (by decide))))
   refine qZ ?_;refine wpF_alloc rfl rfl (fun w=>by simp [execOp,go_sem,ptr]) (fun b95 hb95 hl95=>?_);refine qZ ?_;refine wpF_nil ?_;intro w91 hI;have hE:=he0.out.trans hI.ext;have G90:=gT (hI.facts 3);have G92:=gT (hI.facts 6);have G93:=gT (hI.facts 7);have G94:=gT (hI.facts 8);have A95:Hid (w91.heap[b95]?=some (.cells #[.bool false,.slice none 0 0,.slice none 0 0] 30 (0,0))):=hI.facts 9;rw [hz0] at hl95;clear hI he0 hz0 hc0 hf0
   refine mV6 hE ?_ HX HH B14 B15 LP1 HL;clear HX HH B14 B15 LP1 HL;intro HX HH B14 B15 LP1 HL
   have hs_w91:=hE.size;clear hE;replace b_B14:=Front.b3 B14;replace b_B15:=Front.b3 B15;replace b_A95:=Front.b3 A95;simp only [pD,ptr];clear G90;clear G92;clear G93;obtain ⟨tn,ta,tl,tc,tb,tm,td⟩:=x94
   go_upto_region 12 with fail
   refine aI A95.out rfl ?_;intro w96 T;replace HX:=Hi (T.ext HX.out (by omega));replace HL:=Hi (HL.out.keep T.keep);replace HH:=Hi (HH.out.keep T.keep);replace B14:=Hi (T.rest _ _ (by omega) B14.out);replace B15:=Hi (T.rest _ _ (by omega) B15.out);replace LP1:=Hi (LP1.out.put T (by omega));replace G94:=Hi (G94.out.keep T.keep);replace A95:=Hi (T.bx);have hs_w96:=nle T.size;have hr_w96:=nle T.size.symm;clear T;replace b_B14:=Front.b3 B14;replace b_B15:=Front.b3 B15;replace b_A95:=Front.b3 A95
   go_wp2_with fail
   refine cM (dZ _) fun x93 w93 hE _=>?_
   refine mV8 hE ?_ HX HL HH B14 B15 LP1 G94 A95;clear HX HL HH B14 B15 LP1 G94 A95;intro HX HL HH B14 B15 LP1 G94 A95
   have hs_w93:=hE.size;clear hE;replace b_B14:=Front.b3 B14;replace b_B15:=Front.b3 B15;replace b_A95:=Front.b3 A95
   go_wp2_with fail
   refine cM (fS pa pn pc p ⟨tn,ta,tl,tc,tb,tm,td⟩ x _ LP1.out.can G94.out (by omega) HZ4.out (ZX.out.mono (by decide)) HEX.out) fun x104 w104 hE G104=>?_
   refine mV8 hE ?_ HX HL HH B14 B15 LP1 G94 A95;clear HX HL HH B14 B15 LP1 G94 A95;intro HX HL HH B14 B15 LP1 G94 A95
   have hs_w104:=hE.size;clear hE;replace b_B14:=Front.b3 B14;replace b_B15:=Front.b3 B15;replace b_A95:=Front.b3 A95
   go_wp2_with fail
   refine cM (cL x104 (evV p x) _ (G104.out.raw (HEX.out 0 (Nat.zero_le _)) (by decide))) fun x105 w105 hE _=>?_
   refine mV8 hE ?_ G104 HX HL HH B14 B15 LP1 G94;clear G104 HX HL HH B14 B15 LP1 G94;intro G104 HX HL HH B14 B15 LP1 G94
   replace A95:=mV hE A95;have hs_w105:=hE.size;clear hE;replace b_B14:=Front.b3 B14;replace b_B15:=Front.b3 B15;replace b_A95:=Front.b3 A95;have hsg:0<dM (evV p x) 0:=by rw [k9,Sg.sg_pos (HPX.out x HIN.out.1 HIN.out.2)];decide
   obtain ⟨z,hz⟩:∃ z,z=dM (evV p x) 0:=⟨_,rfl⟩;rw [←hz] at hsg ⊢;clear hz;go_wp2
   go_ret
   exact ⟨(),rfl,HX.out,trivial⟩
  have hlb:decide (aq<hi)=true:=decide_eq_true hlt;rw [hlb];clear hmb hlb
  go_upto_region 6 with fail
  have B17k:=B17;obtain ⟨DT,hDT⟩:∃ DT:Nat→Prop,DT=fun k=>k=b17:=⟨_,rfl⟩
  have DT_o:∀ k,DT k→k<w47.heap.size:=fun k hk=>by rw [hDT] at hk;omega
  have DT_w:∀ k,DT k→w.heap.size≤k:=fun k hk=>by rw [hDT] at hk;omega
  have nd14:¬ DT b14:=by rw [hDT];omega
  have nd15:¬ DT b15:=by rw [hDT];omega
  have nd16:¬ DT b16:=by rw [hDT];omega
  have ndl:∀ b,0≤b→b<w27.heap.size→¬ DT b:=fun b _ hb=>by rw [hDT];omega
  have ndo:∀ i,(w31.heap.size≤i∧i<w47.heap.size)→¬ DT i:=fun b hb=>by rw [hDT];omega
  have HDT:=Hi hDT;have ZA:=Hi (nO TA.out);clear hDT;have HO47:=HO;replace HO:=Hi (HO.out.mono (D':=fun k=>w31.heap.size≤k∧k<w47.heap.size) (fun k hk h=>⟨h,hk⟩))
  (try clear b_B17);clear B17
  refine Go.Frd.wp_region_frontd 10 DT (fun opIx=>match opIx with
   | 4=>.mutk ({ v:Int // 0≤v∧v<12 }×Int) ((⟨0,by decide⟩,0)) (fun x=>.int .i64 x.1.1) (fun x w'=>TpF b17 mo mn mc x.2 w')
   | 6=>.spec (RH×{ v:Int // 0≤v∧v<12 }) ((default,⟨0,by decide⟩)) (fun x=>RH.v x.1) (fun x w'=>VR (fun v=>((1+v:Int):Rat) / ((12:Int):Rat)) x w')
   | 7=>.spec (RH×{ v:Int // 0≤v∧v<12 }) ((default,⟨0,by decide⟩)) (fun x=>RH.v x.1) (fun x w'=>VR (fun v=>aq+((1+v:Int):Rat) / ((12:Int):Rat)) x w')
   | 8=>.spec (RH×{ v:Int // 0≤v∧v<12 }) ((default,⟨0,by decide⟩)) (fun x=>RH.v x.1) (fun x w'=>VR (fun v=>loV hi (aq+((1+v:Int):Rat) / ((12:Int):Rat))) x w')
   | 9=>.alloc 30 #[.bool false,.slice none 0 0,.slice none 0 0]
   | _=>.quiet) DT_o (fun|7=>[6]|8=>[7]|_=>[]) (Nat.le_of_ble_eq_true (by kernel_rfl)) (by kernel_rfl) (by kernel_rfl) (by kernel_rfl) (fun w0 he0 hz0 hc0 hf0=>?_)
  replace he0:=Hi he0;simp only [pT]
  repeat (refine Go.Frd.wpF_quiet rfl rfl rfl (fun K hK=>?_);go_big_quiet_op;refine hK _ ?_;clear hK K)
  refine Go.Frd.wpF_mut rfl rfl (fun w1 hw1 hS hG=>?_) (fun x50=>?_)
  ·have hW:Ext w47 w1:=he0.out.trans hS;refine Go.Frd.spec_calld [ptr b17,.int .i64 12] rfl rfl Tryz.func33 (by kernel_rfl) (by kernel_rfl) ?_;exact (wC b17 mn mc mo ms ap 12 w1 (hW.block B17k.out) ((HMI.out.ext HX.out).ext hW) HMR.out HMN.out.symm hml hmc hmm (fun hne p hp=>by have:=hsepm hne p hp;omega) g13 g14 (by decide) (by decide)).mono (fun e w2 hq=>vF HDT.out hq)
  obtain ⟨⟨v50,hv50⟩,a50⟩:=x50;have hv1:=hv50.1;have hv2:=hv50.2;simp only;simp only [pS]
  repeat (refine Go.Frd.wpF_quiet rfl rfl rfl (fun K hK=>?_);go_big_quiet_op;refine hK _ ?_;clear hK K)
  refine Go.Frd.wpF_spec rfl rfl (fun w1 hw1 hG=>?_) (fun x51=>?_)
  ·have hW:=(Go.Frd.Exd.of he0.out).trans hw1;have hK:=hW.2;exact spc [.int .i64 (1+v50),.int .i64 12] Tryz.func32 ((cN (1+v50) 12 _ (by omega) (by omega) (by decide) (by decide)).mono (fun e w2 ⟨y,h1,h2,h3⟩=>⟨(y,⟨v50,hv50⟩),h1,h2,h3⟩))
  simp only [pS]
  repeat (refine Go.Frd.wpF_quiet rfl rfl rfl (fun K hK=>?_);go_big_quiet_op;refine hK _ ?_;clear hK K)
  refine Go.Frd.wpF_spec rfl rfl (fun w1 hw1 hG=>?_) (fun x52=>?_)
  ·have hW:=(Go.Frd.Exd.of he0.out).trans hw1;have hK:=hW.2;obtain ⟨wa51,hwa51,g51⟩:Go.Frd.Sinced _ _ _:=hG 6 (by decide);exact spc [RH.v ⟨qn,qa,ql,qc,qb,qm,qd⟩,x51.1.v] Tryz.func31 ((bX ⟨qn,qa,ql,qc,qb,qm,qd⟩ x51.1 _ _ _ ((HA.out.keep hK).raw ZA.out (by decide)) ((aw.keep g51 hwa51.2).raw (yg x51.2.2.1 x51.2.2.2) (by decide))).mono (fun e w2 ⟨y,h1,h2,h3⟩=>⟨(y,x51.2),h1,h2,h3⟩))
  simp only [pS]
  repeat (refine Go.Frd.wpF_quiet rfl rfl rfl (fun K hK=>?_);go_big_quiet_op;refine hK _ ?_;clear hK K)
  refine Go.Frd.wpF_spec rfl rfl (fun w1 hw1 hG=>?_) (fun x53=>?_)
  ·have hW:=(Go.Frd.Exd.of he0.out).trans hw1;have hK:=hW.2;obtain ⟨wa52,hwa52,g52⟩:Go.Frd.Sinced _ _ _:=hG 7 (by decide);exact spc [RH.v ⟨hn,ha,hl,hc,hb,hm,hd⟩,x52.1.v] Tryz.func30 ((jO ⟨hn,ha,hl,hc,hb,hm,hd⟩ x52.1 _ _ _ ((HH.out.keep hK).raw ZH.out (by decide)) ((aw.keep g52 hwa52.2).raw (ZA.out.add (yg x52.2.2.1 x52.2.2.2)) (by decide))).mono (fun e w2 ⟨y,h1,h2,h3⟩=>⟨(y,x52.2),h1,h2,h3⟩))
  simp only [pS]
  repeat (refine Go.Frd.wpF_quiet rfl rfl rfl (fun K hK=>?_);go_big_quiet_op;refine hK _ ?_;clear hK K)
  refine Go.Frd.wpF_alloc rfl rfl (fun w=>by simp [execOp,go_sem,ptr]) (fun b54 hb54 hl54=>?_);simp only [pS]
  repeat (refine Go.Frd.wpF_quiet rfl rfl rfl (fun K hK=>?_);go_big_quiet_op;refine hK _ ?_;clear hK K)
  refine Go.Frd.wpF_nil ?_;intro w60 hI;have hE:=(Go.Frd.Exd.of he0.out).trans hI.ext;obtain ⟨wa50,hwa50,g50⟩:ay _ _:=hI.facts Go.Frd.DK;have G50:=Hi (g50.ext hwa50);clear g50 hwa50;obtain ⟨wa51,hwa51,g51⟩:Go.Frd.Sinced _ _ _:=hI.facts 6;obtain ⟨wa52,hwa52,g52⟩:Go.Frd.Sinced _ _ _:=hI.facts 7;obtain ⟨wa53,hwa53,g53⟩:Go.Frd.Sinced _ _ _:=hI.facts 8;have A54:Hid (w60.heap[b54]?=some (.cells #[.bool false,.slice none 0 0,.slice none 0 0] 30 (0,0))):=hI.facts 9;rw [hz0] at hl54;clear hI he0 hz0 hc0 hf0;replace HX:=Hi (Ext.mods HX.out hE.1 DT_w);replace LP:=Hi (LIn.modsd LP.out hE (by assumption));replace HL:=Hi (HL.out.keep hE.2);replace HH:=Hi (HH.out.keep hE.2);replace HA:=Hi (HA.out.keep hE.2);replace HO:=Hi (HO.out.mods hE.1 hE.2 (by assumption));replace B14:=Hi (hE.1.blk (by assumption) B14.out);replace B15:=Hi (hE.1.blk (by assumption) B15.out);replace B16:=Hi (hE.1.blk (by assumption) B16.out);have hs_w60:=hE.size;clear hE;replace b_B14:=Front.b3 B14;replace b_B15:=Front.b3 B15;replace b_B16:=Front.b3 B16;replace b_A54:=Front.b3 A54;simp only [pD,ptr];have B17:=Hi G50.out.2.2;have ha1:=G50.out.1;have ha2:=G50.out.2.1;have HN:=Hi (aw.keep g53 hwa53.2);have TN:=Hi (zp TA.out TH.out x53.2.2.1);clear G50 g51 hwa51 g52 hwa52 g53 hwa53 B17k;obtain ⟨⟨un,ua,ul,uc,ub,um,ud⟩,⟨v53,hv53⟩⟩:=x53;simp only at HN TN;obtain ⟨nq,hnq⟩:∃ nq,nq=loV hi (aq+((1+v53:Int):Rat) / ((12:Int):Rat)):=⟨_,rfl⟩;rw [←hnq] at HN TN;clear hnq nd14 nd15 nd16 ndl ndo DT_o DT_w HDT;have hloc:ya=none∨∃ L,ya=some ⟨L,0,none⟩∧w31.heap.size≤L∧L<w47.heap.size:=eL.loc HO47.out
  go_upto_region 7 with fail
  refine aI A54.out rfl ?_;intro w61 T;replace HX:=Hi (T.ext HX.out (by omega));replace LP:=Hi (LP.out.put T (by omega));replace HL:=Hi (HL.out.keep T.keep);replace HH:=Hi (HH.out.keep T.keep);replace HA:=Hi (HA.out.keep T.keep);replace HO:=Hi (HO.out.put T (by intro h;(try dsimp only at h);omega));replace B14:=Hi (T.rest _ _ (by omega) B14.out);replace B15:=Hi (T.rest _ _ (by omega) B15.out);replace B16:=Hi (T.rest _ _ (by omega) B16.out);replace A54:=Hi (T.bx);replace B17:=Hi (T.rest _ _ (by omega) B17.out);replace HN:=Hi (HN.out.keep T.keep);have hs_w61:=nle T.size;have hr_w61:=nle T.size.symm;clear T;replace b_B14:=Front.b3 B14;replace b_B15:=Front.b3 B15;replace b_B16:=Front.b3 B16;replace b_A54:=Front.b3 A54;replace b_B17:=Front.b3 B17;obtain ⟨DL,hDL⟩:∃ DL:Nat→Prop,DL=fun k=>(∃ o,ya=some ⟨k,o,none⟩)∨k=b15:=⟨_,rfl⟩
  have hDLe:∀ k,DL k→(w31.heap.size≤k∧k<w47.heap.size)∨k=b15:=fun k hk=>by
   rw [hDL] at hk;rcases hk with ⟨o,ho⟩|hk
   ·left
    rcases hloc with h|⟨L,h,h1,h2⟩
    ·rw [h] at ho;cases ho
    ·rw [h] at ho;cases ho;exact ⟨h1,h2⟩
   ·exact Or.inr hk
  have DL_o:∀ k,DL k→k<w61.heap.size:=fun k hk=>by have:=hDLe k hk;omega
  have DL_w:∀ k,DL k→w.heap.size≤k:=fun k hk=>by have:=hDLe k hk;omega
  have nd14:¬ DL b14:=fun hk=>by have:=hDLe _ hk;omega
  have nd16:¬ DL b16:=fun hk=>by have:=hDLe _ hk;omega
  have nd17:¬ DL b17:=fun hk=>by have:=hDLe _ hk;omega
  have nd54:¬ DL b54:=fun hk=>by have:=hDLe _ hk;omega
  have ndl:∀ b,0≤b→b<w27.heap.size→¬ DL b:=fun b _ hb hk=>by have:=hDLe _ hk;omega
  have HDL:=Hi hDL;have HDE:=Hi hDLe;have HO1:=HO;have B151:=B15;have hl15:=b_B15.2.2;clear hDL hloc HO47 hDLe;clear HO
  (try clear b_B15);clear B15
  refine Go.Frd.wp_region_frontd 10 DL (fun opIx=>match opIx with
   | 1=>.mutk (Unit) (()) (fun _=>.slice ya yn yc) (fun _ w'=>Ex0 w61 w')
   | 5=>.spec (Nat) (0) (fun b=>.slice (some ⟨b,0,none⟩) 1 1) (fun b w'=>DI w61.heap.size #[.bool qn,.slice qa ql qc,.slice qb qm qd,.bool un,.slice ua ul uc,.slice ub um ud] b w')
   | 6=>.mutk (SH) (default) (SH.v) (fun x w'=>SgF (w31.heap.size≤·) (yn+1) (qs++[aq,nq]) b15 #[.bool ln,.slice la ll lc,.slice lb lm ld,.bool hn,.slice ha hl hc,.slice hb hm hd,.slice ya yn yc] x w')
   | 9=>.mutk (SH) (default) (fun _=>undef) (fun x w'=>SgF (w31.heap.size≤·) (yn+1) (qs++[aq,nq]) b15 #[.bool ln,.slice la ll lc,.slice lb lm ld,.bool hn,.slice ha hl hc,.slice hb hm hd,.slice x.a x.n x.c] x w')
   | _=>.quiet) DL_o (fun|6=>[5,1]|9=>[6,1]|_=>[]) (Nat.le_of_ble_eq_true (by kernel_rfl)) (by kernel_rfl) (by kernel_rfl) (by kernel_rfl) (fun w0 he0 hz0 hc0 hf0=>?_)
  replace he0:=Hi he0;simp only [pT]
  repeat (refine Go.Frd.wpF_quiet rfl rfl rfl (fun K hK=>?_);go_big_quiet_op;refine hK _ ?_;clear hK K)
  refine Go.Frd.wpF_mut rfl rfl (fun w1 hw1 hS hG=>?_) (fun x59=>?_)
  ·have hW:Ext w61 w1:=he0.out.trans hS;exact sy (v:=.slice ya yn yc) () (by have h6:=ae (hW.block B151.out) (i:=6);simp [execOp,go_sem,h6]) rfl (Go.Frd.Exd.refl _ _) hW
  simp only [pS]
  repeat (refine Go.Frd.wpF_quiet rfl rfl rfl (fun K hK=>?_);go_big_quiet_op;refine hK _ ?_;clear hK K)
  refine Go.Frd.wpF_spec rfl rfl (fun w1 hw1 hG=>?_) (fun x60=>?_)
  ·have hW:=(Go.Frd.Exd.of he0.out).trans hw1;have hK:=hW.2;exact sA hW.size (by simp [execOp,go_sem])
  simp only [pS]
  repeat (refine Go.Frd.wpF_quiet rfl rfl rfl (fun K hK=>?_);go_big_quiet_op;refine hK _ ?_;clear hK K)
  refine Go.Frd.wpF_mut rfl rfl (fun w1 hw1 hS hG=>?_) (fun x61=>?_)
  ·have hW:=(Go.Frd.Exd.of he0.out).trans hw1;have hK:=hW.2;obtain ⟨wa59,hwa59,g59⟩:ay _ _:=hS;replace g59:=g59.ext hwa59;obtain ⟨wa60,hwa60,g60⟩:Go.Frd.Sinced _ _ _:=hG 5 (by decide);exact nV (.tmp 59) (.tmp 63) 53 Tryz.underlying53 rfl ⟨ya,yn,yc⟩ yn qs x60 ⟨qn,qa,ql,qc,qb,qm,qd⟩ ⟨un,ua,ul,uc,ub,um,ud⟩ aq nq rfl ((HO1.out.mono (fun k _ h=>h.1)).ext g59) rfl (hwa60.1.blk (fun hk=>by have:=HDE.out _ hk;have:=g60.1;omega) g60.2) (HA.out.ext g59) (HN.out.ext g59) (by omega) (fun k hk=>by have:=hW.size;omega) (by rw [HDL.out];exact fun L o e=>Or.inl ⟨o,e⟩) (Go.Front.Ext.block g59 B151.out) (by omega)
  simp only [pS]
  repeat (refine Go.Frd.wpF_quiet rfl rfl rfl (fun K hK=>?_);go_big_quiet_op;refine hK _ ?_;clear hK K)
  refine Go.Frd.wpF_mut rfl rfl (fun w1 hw1 hS hG=>?_) (fun x62=>?_)
  ·have hW:=(Go.Frd.Exd.of he0.out).trans hw1;have hK:=hW.2;obtain ⟨wa61,hwa61,g61⟩:ay _ _:=hS;replace g61:=g61.ext hwa61;exact (by have T9:=zV x61.v g61.2 rfl;have c9:=fun i=>ae g61.2 (i:=i);have f9:=fun i=>af g61.2 i;exact qU (w':=w1.setCell ⟨b15,6,none⟩ x61.v) x61 rfl (by simp [execOp,go_sem,c9,f9]) ⟨aJ.put (aJ.refl _ w1) T9 (Or.inl (by rw [HDL.out];exact Or.inr rfl)),T9.keep⟩ ⟨g61.1.put T9 (by omega),T9.bx⟩)
  simp only [Act.put]
  repeat (refine Go.Frd.wpF_quiet rfl rfl rfl (fun K hK=>?_);go_big_quiet_op;refine hK _ ?_;clear hK K)
  refine Go.Frd.wpF_nil ?_;intro w62 hI;have hE:=(Go.Frd.Exd.of he0.out).trans hI.ext;obtain ⟨wa60,hwa60,g60⟩:Go.Frd.Sinced _ _ _:=hI.facts 5;obtain ⟨wa62,hwa62,g62⟩:ay _ _:=hI.facts Go.Frd.DK;have G62:=Hi (g62.ext hwa62);clear g62 hwa62;clear hI he0 hz0 hc0 hf0;replace HX:=Hi (Ext.mods HX.out hE.1 DL_w);replace LP:=Hi (LIn.modsd LP.out hE (by assumption));replace HL:=Hi (HL.out.keep hE.2);replace HH:=Hi (HH.out.keep hE.2);replace HA:=Hi (HA.out.keep hE.2);replace B14:=Hi (hE.1.blk (by assumption) B14.out);replace B16:=Hi (hE.1.blk (by assumption) B16.out);replace A54:=Hi (hE.1.blk (by assumption) A54.out);replace B17:=Hi (hE.1.blk (by assumption) B17.out);replace HN:=Hi (HN.out.keep hE.2);have hs_w62:=hE.size;clear hE;replace b_B14:=Front.b3 B14;replace b_B16:=Front.b3 B16;replace b_A54:=Front.b3 A54;replace b_B17:=Front.b3 B17;simp only [pD];have B15:=Hi G62.out.2;have HO:=Hi G62.out.1;clear G62 wa60 hwa60 g60 nd14 nd16 nd17 nd54 ndl DL_o DL_w HDL HDE HO1 B151;replace b_B14:=Front.b3 B14;replace b_B16:=Front.b3 B16;replace b_A54:=Front.b3 A54;replace b_B17:=Front.b3 B17;replace b_B15:=Front.b3 B15
  go_upto_region 5 with fail
  refine aI B16.out rfl ?_;intro w63 T;replace HX:=Hi (T.ext HX.out (by omega));replace LP:=Hi (LP.out.put T (by omega));replace HL:=Hi (HL.out.keep T.keep);replace HH:=Hi (HH.out.keep T.keep);replace HA:=Hi (HA.out.keep T.keep);replace B14:=Hi (T.rest _ _ (by omega) B14.out);replace B16:=Hi (T.bx);replace A54:=Hi (T.rest _ _ (by omega) A54.out);replace B17:=Hi (T.rest _ _ (by omega) B17.out);replace HN:=Hi (HN.out.keep T.keep);replace B15:=Hi (T.rest _ _ (by omega) B15.out);replace HO:=Hi (HO.out.put T (by intro h;(try dsimp only at h);omega));have hs_w63:=nle T.size;have hr_w63:=nle T.size.symm;clear T;replace b_B14:=Front.b3 B14;replace b_B16:=Front.b3 B16;replace b_A54:=Front.b3 A54;replace b_B17:=Front.b3 B17;replace b_B15:=Front.b3 B15;go_wp2
  go_roundg (gk-1)
  case measure=>omega
  case rel =>
   refine ⟨yn+1,x62,qs++[aq,nq],⟨un,ua,ul,uc,ub,um,ud⟩,nq,a50,by omega,HX.out,by omega,LP.out,HL.out,HH.out,B14.out,B15.out,HO.out,B16.out,HN.out,TN.out,fun q hq=>?_,B17.out,ha1,ha2⟩;rcases List.mem_append.1 hq with hq|hq
   ·exact HQ.out q hq
   ·simp only [List.mem_cons,List.not_mem_nil,or_false] at hq;rcases hq with rfl|rfl
    ·exact TA.out
    ·exact TN.out
end Go.Proofs.YtofhkmcllihgmaaGreat
