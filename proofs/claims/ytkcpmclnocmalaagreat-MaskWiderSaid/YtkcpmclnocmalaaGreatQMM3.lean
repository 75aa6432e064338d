import Derived.Test.YtkcpmclnocmalaaGreatQMM2
set_option linter.unusedVariables false
set_option maxRecDepth 4000
set_option maxHeartbeats 2000000
namespace Go.Proofs.YtkcpmclnocmalaaGreat
open Go.RowKit Go.Front Go.Num
structure RH where
 neg:Bool
 a:Option Addr
 n:Nat
 c:Nat
 b:Option Addr
 m:Nat
 d:Nat
instance:Inhabited RH:=⟨⟨false,none,0,0,none,0,0⟩⟩
abbrev RH.v(s:RH):Value:=.agg #[.bool s.neg,.slice s.a s.n s.c,.slice s.b s.m s.d]
abbrev RH.num(s:RH):IH:=⟨s.neg,s.a,s.n,s.c⟩
def aX(w:World)(s:RH)(q:Rat):Prop:=∃ ds es,U32 w s.a s.n s.c ds∧U32 w s.b s.m s.d es∧q=mkRat (sg s.neg (val ds)) (val es)∧s.n≤134217728∧s.m≤134217728
def xh(w:World)(s:RH)(q:Rat):Prop:=∃ ds es,U32 w s.a s.n s.c ds∧U32 w s.b s.m s.d es∧q=mkRat (sg s.neg (val ds)) (val es)∧val es≠0∧s.n≤1073741824∧s.m≤1073741824
def aA(w:World)(s:RH)(q:Rat):Prop:=s.neg=decide (q.num<0)∧U32 w s.a s.n s.c (digs q.num.natAbs)∧U32 w s.b s.m s.d (digs q.den)
theorem aX.ext{w w':World}{s:RH}{q:Rat}(h:aX w s q)(he:Ext w w'):aX w' s q:=let ⟨ds,es,h1,h2,h3⟩:=h;⟨ds,es,h1.ext he,h2.ext he,h3⟩
instance {w w':World} {s:RH} {q:Rat}:Go.Front.Mv w w' (aX w s q) (aX w' s q):=⟨fun e h=>aX.ext h e⟩

theorem aA.ext{w w':World}{s:RH}{q:Rat}(h:aA w s q)(he:Ext w w'):aA w' s q:=⟨h.1,h.2.1.ext he,h.2.2.ext he⟩
instance {w w':World} {s:RH} {q:Rat}:Go.Front.Mv w w' (aA w s q) (aA w' s q):=⟨fun e h=>aA.ext h e⟩

theorem aA.keep{w w':World}{s:RH}{q:Rat}(h:aA w s q)(he:dJ w w'):aA w' s q:=⟨h.1,he _ _ _ _ h.2.1,he _ _ _ _ h.2.2⟩
def Sz(k:Nat)(q:Rat):Prop:=q.num.natAbs<W32 ^ k∧q.den<W32 ^ k
theorem aA.raw{w:World}{s:RH}{q:Rat}{k:Nat}(h:aA w s q)(hs:Sz k q)(hk:k≤134217728):aX w s q:=by
 refine ⟨_,_,h.2.1,h.2.2,?_,?_,?_⟩
 ·rw [ag,ag,h.1,fj,Rat.mkRat_self]
 ·rw [←h.2.1.len];exact nXf (bI hs.1) hk
 ·rw [←h.2.2.len];exact nXf (bI hs.2) hk
theorem Sz.mono{k l:Nat}{q:Rat}(h:Sz k q)(hl:k≤l):Sz l q :=
 ⟨nXn h.1 (nXp aI hl),nXn h.2 (nXp aI hl)⟩
theorem m8(b:Bool)(N D:Nat)(hD:D≠0):(mkRat (sg b N) D).num=sg b (N / Nat.gcd D N)∧(mkRat (sg b N) D).den=D / Nat.gcd D N:=by
 rw [Rat.num_mkRat,Rat.den_mkRat,if_neg hD,if_neg hD,bG];refine ⟨?_,rfl⟩;have hg:((Nat.gcd D N:Nat):Int) ∣ (N:Int):=Int.natCast_dvd_natCast.2 (Nat.gcd_dvd_right _ _);unfold sg;cases b
 ·simp
 ·simp only [if_true];rw [Int.neg_ediv_of_dvd hg,Int.natCast_ediv]
theorem ig{k:Nat}(hk:1≤k):2≤W32 ^ k:=by
 have:=nXp aI hk;rw [Nat.pow_one] at this;unfold W32 at *
 omega
theorem Sz.mk{k:Nat}{n:Int}{d:Nat}(hk:1≤k)(h1:n.natAbs<W32 ^ k)(h2:d<W32 ^ k):Sz k (mkRat n d):=by
 have h0:=ig hk;by_cases hd:d=0
 ·subst hd;rw [Rat.mkRat_zero];exact ⟨by show 0<_;omega,by show 1<_;omega⟩
 ·have:=m8 (decide (n<0)) n.natAbs d hd;rw [fj] at this;unfold Sz;rw [this.1,this.2,bG];exact ⟨nYl (Nat.div_le_self _ _) h1,nYl (Nat.div_le_self _ _) h2⟩
theorem Sz.one_le{k:Nat}{q:Rat}(h:Sz k q):1≤k:=by
 rcases Nat.eq_zero_or_pos k with h0|h0
 ·subst h0;have:=h.2;have:=q.den_pos;simp at *
  omega
 ·exact h0
theorem Sz.add{k l:Nat}{a b:Rat}(ha:Sz k a)(hb:Sz l b):Sz (k+l+1) (a+b):=by
 have hk:=ha.one_le;rw [Rat.add_def'];have h1:(a.num*b.den).natAbs<W32 ^ (k+l):=by
  rw [Int.natAbs_mul,Nat.pow_add];exact Nat.mul_lt_mul_of_lt_of_lt ha.1 hb.2
 have h2:(b.num*a.den).natAbs<W32 ^ (k+l):=by
  rw [Int.natAbs_mul,nYj,Nat.pow_add];exact Nat.mul_lt_mul_of_lt_of_lt hb.1 ha.2
 have h3:a.den*b.den<W32 ^ (k+l):=by rw [Nat.pow_add];exact Nat.mul_lt_mul_of_lt_of_lt ha.2 hb.2
 have h4:=Int.natAbs_add_le (a.num*b.den) (b.num*a.den);have h5:W32 ^ (k+l)*2≤W32 ^ (k+l+1):=by rw [nXu];exact nXg _ dZ
 exact Sz.mk zo zo zo
theorem Sz.mul{k l:Nat}{a b:Rat}(ha:Sz k a)(hb:Sz l b):Sz (k+l) (a*b):=by
 have hk:=ha.one_le;rw [Rat.mul_def'];refine Sz.mk zo ?_ ?_
 ·rw [Int.natAbs_mul,Nat.pow_add];exact Nat.mul_lt_mul_of_lt_of_lt ha.1 hb.1
 ·rw [Nat.pow_add];exact Nat.mul_lt_mul_of_lt_of_lt ha.2 hb.2
theorem Sz.neg{k:Nat}{a:Rat}(ha:Sz k a):Sz k (-a):=⟨by rw [Rat.neg_num,Int.natAbs_neg];exact ha.1,by rw [Rat.neg_den];exact ha.2⟩
theorem Sz.sub{k l:Nat}{a b:Rat}(ha:Sz k a)(hb:Sz l b):Sz (k+l+1) (a-b):=by
 rw [Rat.sub_eq_add_neg];exact ha.add hb.neg
theorem Sz.inv{k:Nat}{a:Rat}(ha:Sz k a):Sz k a⁻¹:=by
 have h0:=ig ha.one_le;by_cases h:a.num=0
 ·have:a=0:=Rat.num_eq_zero.1 h;subst this;rw [Rat.inv_zero];exact ha
 ·refine ⟨?_,?_⟩
  ·rw [Rat.num_inv,Int.natAbs_mul,Int.natAbs_sign_of_ne_zero h,Nat.one_mul];exact ha.2
  ·rw [Rat.den_inv,if_neg h];exact ha.1
theorem Sz.div{k l:Nat}{a b:Rat}(ha:Sz k a)(hb:Sz l b):Sz (k+l) (a / b):=by
 rw [Rat.div_def];exact ha.mul hb.inv
theorem Sz.int{z:Int}(h:z.natAbs<W32):Sz 1 (z:Rat):=⟨by rw [Rat.num_intCast,Nat.pow_one];exact h,by rw [Rat.den_intCast];decide⟩
theorem aA.of{w:World}{s:RH}{b:Bool}{N D:Nat}(hD:D≠0)(hN:N≠0)(h0:s.neg=b)(h1:U32 w s.a s.n s.c (digs (N / Nat.gcd D N)))(h2:U32 w s.b s.m s.d (digs (D / Nat.gcd D N))):aA w s (mkRat (sg b N) D):=by
 obtain ⟨e1,e2⟩:=m8 b N D hD;refine ⟨?_,by rw [e1,bG];exact h1,by rw [e2];exact h2⟩;rw [e1,cP,h0];have hg:0<N / Nat.gcd D N:=Nat.div_pos (Nat.le_of_dvd zo (Nat.gcd_dvd_right _ _)) (Nat.gcd_pos_of_pos_right _ zo);simp [hg]
theorem jZ:digs 1=[1]:=by rw [hZ dZ];rw [show 1 / W32=0 from rfl,aS];rfl
theorem pF(b:Bool){N D:Nat}(hD:D≠0)(h:N % D=0):mkRat (sg b N) D=((sg b (N / D):Int):Rat):=by
 obtain ⟨e1,e2⟩:=m8 b N D hD;have hg:Nat.gcd D N=D:=Nat.gcd_eq_left (Nat.dvd_of_mod_eq_zero h);apply Rat.ext
 ·rw [e1,hg,Rat.num_intCast]
 ·rw [e2,hg,Rat.den_intCast,Nat.div_self zo]
theorem aA.whole{w:World}{s:IH}{z:Int}{b:Option Addr}{m d:Nat}(h:fG w s z)(h2:U32 w b m d [1]):aA w ⟨s.neg,s.a,s.n,s.c,b,m,d⟩ (z:Rat) :=
 ⟨h.1,h.2,by rw [Rat.den_intCast,jZ];exact h2⟩
attribute [local go_sem] XW.cell XW.frozen
theorem iS(s:IH)(z:Int)(w:World)(h:fG w s z):ar 112 [s.v] w RH.v (fun r w'=>aA w' r (z:Rat)):=by
 obtain ⟨neg,ao,n,c⟩:=s;have HU:=Hi h;clear h;unfold ar;go_enter Tryz.func112,Tryz.ntmps112;go_wp2;refine nXa (v:=RH.v ⟨neg,ao,n,c,some ⟨w.heap.size+2,0,none⟩,1,1⟩) (by simp [results,Tryz.results112,go_sem]) rfl ⟨_,rfl,Ext.al3,?_⟩;have h1:=eE ((w.alloc (.cells #[.bool neg,.slice ao n c] 35)).alloc (.cells #[.bool neg,.slice ao n c,.slice (some ⟨w.heap.size+1+1,0,none⟩) 1 1] 37)) 1 dZ;rw [nXc,nXc] at h1;exact aA.whole (HU.out.ext Ext.al3) h1
theorem dM(ao:Option Addr)(n c:Nat)(w:World):ar 135 [.slice ao n c] w (fun _:Unit=>IH.v ⟨false,ao,n,c⟩) (fun _ _=>True):=by
 unfold ar;go_enter Tryz.func135,Tryz.ntmps135;go_wp2;exact nXa (v:=IH.v ⟨false,ao,n,c⟩) (by simp [results,Tryz.results135,go_sem]) rfl ⟨(),rfl,Ext.al1,trivial⟩
theorem jK(s t:IH)(w:World):ar 169 [s.v,t.v] w (fun _:Unit=>RH.v ⟨s.neg != t.neg,s.a,s.n,s.c,t.a,t.n,t.c⟩) (fun _ _=>True):=by
 obtain ⟨neg,ao,n,c⟩:=s;obtain ⟨neg',bo,m,d⟩:=t;unfold ar;go_enter Tryz.func169,Tryz.ntmps169;go_wp2;exact nXa (v:=RH.v ⟨neg != neg',ao,n,c,bo,m,d⟩) (by simp [results,Tryz.results169,go_sem];cases neg <;> cases neg' <;> rfl) rfl ⟨(),rfl,Ext.al3,trivial⟩
theorem rJ(s:RH)(w:World):ar 175 [s.v] w (fun _:Unit=>RH.v ⟨!s.neg,s.a,s.n,s.c,s.b,s.m,s.d⟩) (fun _ _=>True):=by
 obtain ⟨neg,ao,n,c,bo,m,d⟩:=s;unfold ar;go_enter Tryz.func175,Tryz.ntmps175;go_wp2;exact nXa (v:=RH.v ⟨!neg,ao,n,c,bo,m,d⟩) (by simp [results,Tryz.results175,go_sem]) rfl ⟨(),rfl,Ext.al2,trivial⟩
theorem oA(ao:Option Addr)(n c v:Nat)(w:World)(h:U32 w ao n c (digs v)):ar 181 [.slice ao n c] w (fun _:Unit=>.bool (decide (v=1))) (fun _ _=>True):=by
 have HU:=Hi h;have hl:=h.len;clear h;unfold ar;by_cases h1:n=1
 ·obtain ⟨b,off,d,hao,hc,hd,hdl⟩:=HU.out.at (k:=0) zo;rw [Nat.add_zero] at hc;subst hao;have hv:v=d:=by
   have h2:=ag v;rw [h1] at hl
   match hdy:digs v,hl,h2,hd with
   | [e],_,h2,hy0=>simp [val] at h2 hy0;omega
  subst hv;have hb:((n:Int) == 1)=true:=by rw [beq_iff_eq];omega
  clear hd hl;by_cases h2:v=1
  ·subst h2;have H1:=Hi h1;clear h1;have hn0:0<n:=by have:=H1.out;omega
   go_enter Tryz.func181,Tryz.ntmps181;go_wp2
   go_ret
   exact ⟨(),by simp,Ext.refl _,trivial⟩
  ·have h3:((v:Int) == 1)=false:=by rw [nXs];omega
   have H1:=Hi h1;clear h1;have hn0:0<n:=by have:=H1.out;omega
   go_enter Tryz.func181,Tryz.ntmps181;go_wp2
   go_ret
   exact ⟨(),by simp [h2],Ext.refl _,trivial⟩
 ·have hb:((n:Int) == 1)=false:=by rw [nXs];omega
  have hv:v≠1:=by
   intro h;subst h;rw [jZ] at hl;exact h1 hl.symm
  have Hv:=Hi hv;clear hv h1 hl;go_enter Tryz.func181,Tryz.ntmps181;go_wp2
  go_ret
  exact ⟨(),by simp [Hv.out],Ext.refl _,trivial⟩
abbrev NV(p:RH×Bool):Value:=.agg #[.bool p.1.neg,.slice p.1.a p.1.n p.1.c,.slice p.1.b p.1.m p.1.d,.bool p.2]
def j1(w:World)(p:RH×Bool)(q:Rat):Prop:=∃ ds es,U32 w p.1.a p.1.n p.1.c ds∧U32 w p.1.b p.1.m p.1.d es∧q=mkRat (sg p.1.neg (val ds)) (val es)∧val es≠0∧(p.2=true→val es=1)∧p.1.n≤134217728∧p.1.m≤134217728
theorem j1.ext{w w':World}{p:RH×Bool}{q:Rat}(h:j1 w p q)(he:Ext w w'):j1 w' p q:=let ⟨ds,es,h1,h2,h3⟩:=h;⟨ds,es,h1.ext he,h2.ext he,h3⟩
instance {w w':World} {p:RH×Bool} {q:Rat}:Go.Front.Mv w w' (j1 w p q) (j1 w' p q):=⟨fun e h=>j1.ext h e⟩

theorem j1.keep{w w':World}{p:RH×Bool}{q:Rat}(h:j1 w p q)(he:dJ w w'):j1 w' p q:=let ⟨ds,es,h1,h2,h3⟩:=h;⟨ds,es,he _ _ _ _ h1,he _ _ _ _ h2,h3⟩
theorem j1.raw{w:World}{p:RH×Bool}{q:Rat}(h:j1 w p q):xh w p.1 q:=let ⟨ds,es,h1,h2,h3,h4,_,h6,h7⟩:=h;⟨ds,es,h1,h2,h3,h4,zo,zo⟩
theorem cU(s:RH)(q:Rat)(w:World)(h:aX w s q):ar 132 [s.v] w NV (fun p w'=>j1 w' p q):=by
 obtain ⟨neg,ao,n,c,bo,m,d⟩:=s;obtain ⟨ds,es,hU,kU,hq,hn,hm⟩:=h;simp only at hU kU hq hn hm;have HU:=Hi hU;have KU:=Hi kU;have HQ:=Hi hq;have hml:=kU.len;clear hU kU hq;unfold ar;by_cases h1:m=1
 ·obtain ⟨b,off,e,hbo,hc,he,hel⟩:=KU.out.at (k:=0) zo;rw [Nat.add_zero] at hc;subst hbo;have hv:val es=e:=by
   rw [h1] at hml
   match hes:es,hml,he with
   | [e'],_,he=>simp [val] at he ⊢;omega
  have hb:((m:Int) == 1)=true:=by rw [beq_iff_eq];omega
  have hm0:0<m:=zo;have HV:=Hi hv;clear he hml h1 hv;have hbl:b<w.heap.size:=nXq _ _ hc;by_cases h2:e=1
  ·subst h2;go_enter Tryz.func132,Tryz.ntmps132;go_wp2;exact nXa (v:=NV (⟨neg,ao,n,c,some ⟨b,off,none⟩,m,d⟩,true)) (by simp [results,Tryz.results132,go_sem]) rfl ⟨(⟨neg,ao,n,c,some ⟨b,off,none⟩,m,d⟩,true),rfl,Ext.al2,ds,es,HU.out.ext Ext.al2,KU.out.ext Ext.al2,HQ.out,by rw [HV.out];decide,fun _=>HV.out,hn,hm⟩
  ·have h3:((e:Int) == 1)=false:=by rw [nXs];omega
   by_cases h0:e=0
   ·subst h0;go_enter Tryz.func132,Tryz.ntmps132
    go_wp2_with fail
    refine cM (dF ⟨_,_,_⟩ ⟨_,_,_⟩ _ _ _ (KU.out.ext Ext.al2) (bP _)) fun x1 w1 hE G1=>?_
    obtain ⟨hcw,hfw⟩:=ak hE;have hsw:=hE.size
    (try simp only [nXc] at hsw)
    obtain ⟨hs0,hs1⟩:=zs2 hsw;have hB:=hE.block (heap_alloc_new _ _);rw [nXc] at hB;have HB:Hid (w1.heap[w.heap.size+1]?=some _):=Hi hB;clear hB;have E1:=Hi ((Ext.al2).trans hE);have X1:=Hi hE;rw [dH (by rw [HV.out];rfl)];go_wp2;have hF:=((((((Fin.start (L:=w.heap.size+1) E1.out (ai HB.out rfl)).set zo (i:=0) (v:=.bool false) rfl).set zo (i:=1) (v:=.slice none 0 0) rfl).set zo (i:=2) (v:=.slice (some ⟨w1.heap.size,0,none⟩) 1 1) rfl).set zo (i:=3) (v:=.bool true) rfl).alloc (.cells #[.int .u32 1] 124));refine nXa (v:=NV (⟨false,none,0,0,some ⟨w1.heap.size,0,none⟩,1,1⟩,true)) (by simp [results,Tryz.results132,go_sem,ae HB.out,hs1]) rfl ⟨(⟨false,none,0,0,some ⟨w1.heap.size,0,none⟩,1,1⟩,true),rfl,hF.ext,[],[1],bP _,?_,by rw [HQ.out,HV.out];simp [val,sg],dZ,fun _=>rfl,by simp,by simp⟩;have h1:=eE ((((w1.setCell ⟨w.heap.size+1,0,none⟩ (.bool false)).setCell ⟨w.heap.size+1,1,none⟩ (.slice none 0 0)).setCell ⟨w.heap.size+1,2,none⟩ (.slice (some ⟨w1.heap.size,0,none⟩) 1 1)).setCell ⟨w.heap.size+1,3,none⟩ (.bool true)) 1 dZ;simpa using h1
   ·have hc0:(bU (e:Nat) 0 == 0)=false:=by rw [cX zo];rfl
    go_enter Tryz.func132,Tryz.ntmps132
    go_wp2_with fail
    refine cM (dF ⟨_,_,_⟩ ⟨_,_,_⟩ _ _ _ (KU.out.ext Ext.al2) (bP _)) fun x1 w1 hE G1=>?_
    obtain ⟨hcw,hfw⟩:=ak hE;have hsw:=hE.size
    (try simp only [nXc] at hsw)
    obtain ⟨hs0,hs1⟩:=zs2 hsw;have hB:=hE.block (heap_alloc_new _ _);rw [nXc] at hB;have HB:Hid (w1.heap[w.heap.size+1]?=some _):=Hi hB;clear hB;have E1:=Hi ((Ext.al2).trans hE);have X1:=Hi hE;rw [HV.out,cX (by simp only [val];omega)];go_wp2;have hF:=(((((Fin.start (L:=w.heap.size+1) E1.out (ai HB.out rfl)).set zo (i:=0) (v:=.bool neg) rfl).set zo (i:=1) (v:=.slice ao n c) rfl).set zo (i:=2) (v:=.slice (some ⟨b,off,none⟩) m d) rfl).set zo (i:=3) (v:=.bool false) rfl);exact nXa (v:=NV (⟨neg,ao,n,c,some ⟨b,off,none⟩,m,d⟩,false)) (by simp [results,Tryz.results132,go_sem,ae HB.out]) rfl ⟨(⟨neg,ao,n,c,some ⟨b,off,none⟩,m,d⟩,false),rfl,hF.ext,ds,es,hF.keep _ _ _ _ (HU.out.ext E1.out),hF.keep _ _ _ _ (KU.out.ext E1.out),HQ.out,(by rw [HV.out];exact h0),(fun h=>by cases h),hn,hm⟩
 ·have hb:((m:Int) == 1)=false:=by rw [nXs];omega
  by_cases h0:val es=0
  ·have HV:=Hi h0;clear h0 h1 hml;go_enter Tryz.func132,Tryz.ntmps132
   go_wp2_with fail
   refine cM (dF ⟨_,_,_⟩ ⟨_,_,_⟩ _ _ _ (KU.out.ext Ext.al2) (bP _)) fun x1 w1 hE G1=>?_
   obtain ⟨hcw,hfw⟩:=ak hE;have hsw:=hE.size
   (try simp only [nXc] at hsw)
   obtain ⟨hs0,hs1⟩:=zs2 hsw;have hB:=hE.block (heap_alloc_new _ _);rw [nXc] at hB;have HB:Hid (w1.heap[w.heap.size+1]?=some _):=Hi hB;clear hB;have E1:=Hi ((Ext.al2).trans hE);have X1:=Hi hE;rw [dH (by rw [HV.out];rfl)];go_wp2;have hF:=((((((Fin.start (L:=w.heap.size+1) E1.out (ai HB.out rfl)).set zo (i:=0) (v:=.bool false) rfl).set zo (i:=1) (v:=.slice none 0 0) rfl).set zo (i:=2) (v:=.slice (some ⟨w1.heap.size,0,none⟩) 1 1) rfl).set zo (i:=3) (v:=.bool true) rfl).alloc (.cells #[.int .u32 1] 124));refine nXa (v:=NV (⟨false,none,0,0,some ⟨w1.heap.size,0,none⟩,1,1⟩,true)) (by simp [results,Tryz.results132,go_sem,ae HB.out,hs1]) rfl ⟨(⟨false,none,0,0,some ⟨w1.heap.size,0,none⟩,1,1⟩,true),rfl,hF.ext,[],[1],bP _,?_,by rw [HQ.out,HV.out];simp [val,sg],dZ,fun _=>rfl,by simp,by simp⟩;have h1:=eE ((((w1.setCell ⟨w.heap.size+1,0,none⟩ (.bool false)).setCell ⟨w.heap.size+1,1,none⟩ (.slice none 0 0)).setCell ⟨w.heap.size+1,2,none⟩ (.slice (some ⟨w1.heap.size,0,none⟩) 1 1)).setCell ⟨w.heap.size+1,3,none⟩ (.bool true)) 1 dZ;simpa using h1
  ·have HV:=Hi h0;clear h0 h1 hml;go_enter Tryz.func132,Tryz.ntmps132
   go_wp2_with fail
   refine cM (dF ⟨_,_,_⟩ ⟨_,_,_⟩ _ _ _ (KU.out.ext Ext.al2) (bP _)) fun x1 w1 hE G1=>?_
   obtain ⟨hcw,hfw⟩:=ak hE;have hsw:=hE.size
   (try simp only [nXc] at hsw)
   obtain ⟨hs0,hs1⟩:=zs2 hsw;have hB:=hE.block (heap_alloc_new _ _);rw [nXc] at hB;have HB:Hid (w1.heap[w.heap.size+1]?=some _):=Hi hB;clear hB;have E1:=Hi ((Ext.al2).trans hE);have X1:=Hi hE;rw [cX (by have:=HV.out;simp only [val];omega)];go_wp2;have hF:=(((((Fin.start (L:=w.heap.size+1) E1.out (ai HB.out rfl)).set zo (i:=0) (v:=.bool neg) rfl).set zo (i:=1) (v:=.slice ao n c) rfl).set zo (i:=2) (v:=.slice bo m d) rfl).set zo (i:=3) (v:=.bool false) rfl);exact nXa (v:=NV (⟨neg,ao,n,c,bo,m,d⟩,false)) (by simp [results,Tryz.results132,go_sem,ae HB.out]) rfl ⟨(⟨neg,ao,n,c,bo,m,d⟩,false),rfl,hF.ext,ds,es,hF.keep _ _ _ _ (HU.out.ext E1.out),hF.keep _ _ _ _ (KU.out.ext E1.out),HQ.out,HV.out,(fun h=>by cases h),hn,hm⟩
abbrev DM(p:SH×SH):Value:=.tuple #[p.1.v,p.2.v,.int .i64 0]
theorem fO(a b:SH)(x y:List Nat)(w:World)(ha:a.U w x)(hb:b.U w y)(hn:a.n≤1073741824)(hz:val y≠0):ar 189 [a.v,b.v] w DM (fun p w'=>p.1.U w' (digs (val x / val y))∧p.2.U w' (digs (val x % val y))):=by
 refine (th _ _ _ _ _ _ x y w ha hb zo hz).mono ?_;rintro e w' ⟨a,m,c,a',m',c',rfl,h1,h2,h3⟩;exact ⟨(⟨a,m,c⟩,⟨a',m',c'⟩),rfl,h3,h1,h2⟩
theorem U32.nle{w:World}{ao:Option Addr}{n c v k:Nat}(h:U32 w ao n c (Num.digs v))(hv:v<W32 ^ k)(hk:k≤1073741824):n≤1073741824:=by
 rw [←h.len];exact nXf (bI hv) hk
theorem U32.vle{w:World}{ao:Option Addr}{n c:Nat}{ds:List Nat}(h:U32 w ao n c ds):val ds<W32 ^ n:=by
 have:=bE h.dig;rwa [h.len] at this
theorem ez(s:RH)(q:Rat)(w:World)(h:xh w s q):ar 154 [s.v] w RH.v (fun r w'=>aA w' r q):=by
 obtain ⟨neg,ao,n,c,bo,m,d⟩:=s;obtain ⟨ds,es,hU,kU,hq,hz,hn,hm⟩:=h;simp only at hU kU hq hn hm;have HU:=Hi hU;have KU:=Hi kU;have HQ:=Hi hq;have hml:=kU.len;clear hU kU hq hml;obtain ⟨N,hN⟩:∃ N,N=val ds:=⟨_,rfl⟩;obtain ⟨D,hD⟩:∃ D,D=val es:=⟨_,rfl⟩;rw [←hN,←hD] at HQ;rw [←hD] at hz;have HN:=Hi hN;have HD:=Hi hD;clear hN hD;have hN1:N<W32 ^ n:=by rw [HN.out];exact HU.out.vle
 have hD1:D<W32 ^ m:=by rw [HD.out];exact KU.out.vle
 have HN1:=Hi hN1;have HD1:=Hi hD1;clear hN1 hD1;unfold ar;by_cases hr:N % D=0
 ·have hqw:=pF neg hz hr;rw [←HQ.out] at hqw;have HQW:=Hi hqw;clear hqw;have Hr:=Hi hr;clear hr;go_enter Tryz.func154,Tryz.ntmps154
  go_wp2_with fail
  refine cM (fO ⟨ao,n,c⟩ ⟨bo,m,d⟩ _ _ _ (HU.out.ext Ext.al2) (KU.out.ext Ext.al2) hn (by rw [←HD.out];exact hz)) fun x1 w1 hE G1=>?_
  obtain ⟨hcw,hfw⟩:=ak hE;have hsw:=hE.size
  (try simp only [nXc] at hsw)
  obtain ⟨hs0,hs1⟩:=zs2 hsw;have hB:=hE.block (heap_alloc_new _ _);rw [nXc] at hB;have HB:Hid (w1.heap[w.heap.size+1]?=some _):=Hi hB;clear hB;have E1:=Hi ((Ext.al2).trans hE);have X1:=Hi hE;obtain ⟨p1,p2⟩:=x1;obtain ⟨k1,k2⟩:=G1.out;simp only at k1 k2;rw [←HN.out,←HD.out] at k1 k2;rw [Hr.out,aS] at k2;have hl0:p2.n=0:=k2.len.symm;have K1:=Hi k1;clear k1 k2 G1;obtain ⟨pa,pn,pc⟩:=p2;simp only at hl0;subst hl0
  go_wp2_with fail
  refine cM (oy ⟨neg,p1.a,p1.n,p1.c⟩ (sg neg (N / D)) _ ⟨_,K1.out,by rw [ag],U32.nle (k:=n) K1.out (nYl (Nat.div_le_self _ _) HN1.out) hn⟩) fun x2 w2 hE G2=>?_
  obtain ⟨hcw,hfw⟩:=ak hE;have hsw:=hE.size
  (try simp only [nXc] at hsw)
  have hs0:w.heap.size<w2.heap.size:=zo;have hs1:w.heap.size+1<w2.heap.size:=zo;replace HB:=hE.bl HB;have cR:=ae HB.out;have fR:=af HB.out;have E2:=Hi ((E1.out).trans hE);have X2:=Hi hE
  go_wp2_with fail
  refine cM (iS _ _ _ G2.out) fun x3 w3 hE G3=>?_
  obtain ⟨hcw,hfw⟩:=ak hE;have hsw:=hE.size
  (try simp only [nXc] at hsw)
  have hs0:w.heap.size<w3.heap.size:=zo;have hs1:w.heap.size+1<w3.heap.size:=zo;replace HB:=hE.bl HB;have cR:=ae HB.out;have fR:=af HB.out;have E3:=Hi ((E2.out).trans hE);have X3:=Hi hE;rw [←HQW.out] at G3;have HX:=E3;go_wp2;have hF:=((((Fin.start (L:=w.heap.size+1) HX.out (ai HB.out rfl)).set zo (i:=0) (v:=.bool x3.neg) rfl).set zo (i:=1) (v:=.slice x3.a x3.n x3.c) rfl).set zo (i:=2) (v:=.slice x3.b x3.m x3.d) rfl);exact nXa (v:=x3.v) (by simp [results,Tryz.results154,go_sem,ae HB.out]) rfl ⟨x3,rfl,hF.ext,G3.out.keep hF.keep⟩
 ·have hN0:N≠0:=by intro h;subst h;simp at hr
  obtain ⟨g,hg⟩:∃ g,g=Nat.gcd D (N % D):=⟨_,rfl⟩;have hgg:g=Nat.gcd D N:=by rw [hg,Nat.gcd_comm D (N % D),←Nat.gcd_rec]
  have hgn:g ∣ N:=by rw [hgg];exact Nat.gcd_dvd_right _ _
  have hgd:g ∣ D:=by rw [hgg];exact Nat.gcd_dvd_left _ _
  have hg0:g≠0:=by intro h;subst h;exact hz (Nat.eq_zero_of_zero_dvd hgd)
  have HG:=Hi hg;have HGG:=Hi hgg;have Hgd:=Hi hgd;have Hr:=Hi hr;clear hg hgg hgn hgd hr;have hrl:N % D<W32 ^ m:=Nat.lt_trans (Nat.mod_lt _ zo) HD1.out;have Hrl:=Hi hrl;clear hrl;by_cases hg1:g=1
  all_goals
   go_enter Tryz.func154,Tryz.ntmps154
   go_wp2_with fail
   refine cM (fO ⟨ao,n,c⟩ ⟨bo,m,d⟩ _ _ _ (HU.out.ext Ext.al2) (KU.out.ext Ext.al2) hn (by rw [←HD.out];exact hz)) fun x1 w1 hE G1=>?_
   obtain ⟨hcw,hfw⟩:=ak hE;have hsw:=hE.size
   (try simp only [nXc] at hsw)
   obtain ⟨hs0,hs1⟩:=zs2 hsw;have hB:=hE.block (heap_alloc_new _ _);rw [nXc] at hB;have HB:Hid (w1.heap[w.heap.size+1]?=some _):=Hi hB;clear hB;have E1:=Hi ((Ext.al2).trans hE);have X1:=Hi hE;obtain ⟨p1,p2⟩:=x1;obtain ⟨k1,k2⟩:=G1.out;simp only at k1 k2;rw [←HN.out,←HD.out] at k1 k2;have K2:=Hi k2;have hl0:p2.n≠0:=by
    rw [←k2.len];intro h;exact Hr.out (bD.1 (nXj.1 h))
   have hl0b:((p2.n:Int) == 0)=false:=by rw [nXs];omega
   clear k1 k2 G1
   go_wp2_with fail
   refine cM (rH ⟨bo,m,d⟩ p2 _ _ _ (KU.out.ext E1.out) K2.out hm (U32.nle (k:=m) K2.out Hrl.out hm)) fun x2 w2 hE G2=>?_
   obtain ⟨hcw,hfw⟩:=ak hE;have hsw:=hE.size
   (try simp only [nXc] at hsw)
   have hs0:w.heap.size<w2.heap.size:=zo;have hs1:w.heap.size+1<w2.heap.size:=zo;replace HB:=hE.bl HB;have cR:=ae HB.out;have fR:=af HB.out;have E2:=Hi ((E1.out).trans hE);have X2:=Hi hE;rw [←HD.out,ag,←HG.out] at G2
   go_wp2_with fail
   refine cM (oA _ _ _ _ _ G2.out) fun x3 w3 hE G3=>?_
   obtain ⟨hcw,hfw⟩:=ak hE;have hsw:=hE.size
   (try simp only [nXc] at hsw)
   have hs0:w.heap.size<w3.heap.size:=zo;have hs1:w.heap.size+1<w3.heap.size:=zo;replace HB:=hE.bl HB;have cR:=ae HB.out;have fR:=af HB.out;have E3:=Hi ((E2.out).trans hE);have X3:=Hi hE
  ·subst hg1;simp only [decide_true];go_wp2;refine ah 7 (fun opIx=>match opIx with
    | 2=>sI (sg neg N)
    | 5=>sD (D)
    | _=>.quiet) (fun _=>[]) kZ kZ (fun w0 he0 hz0 hc0 hf0=>?_)
   have he1:=Hi he0;replace he0:=Hi ((E3.out).trans he0);simp only [pT];refine qQ ?_;refine wps he0 (fun w1 hW hG=>?_) fun x2=>?_
   ·exact spc [IH.v ⟨neg,ao,n,c⟩] Tryz.func190 (oy _ _ _ ⟨ds,HU.out.ext hW,by rw [HN.out],hn⟩)
   refine qZ ?_;refine wps he0 (fun w1 hW hG=>?_) fun x5=>?_
   ·exact spc [.slice bo m d] Tryz.func167 (HD.out ▸ iT _ _ _ _ _ (KU.out.ext hW) hm)
   refine qZ ?_;refine aq ?_;intro w1 hI;have G2:=gT (hI.facts 2);have G5:=gT (hI.facts 5);have HX:=Hi (he0.out.trans hI.ext);have hX1:=Hi (he1.out.trans hI.ext);obtain ⟨hcw,hfw⟩:=ak (he1.out.trans hI.ext);have hsw:=(he1.out.trans hI.ext).size
   (try simp only [nXc] at hsw)
   have hs0:w.heap.size<w1.heap.size:=zo;have hs1:w.heap.size+1<w1.heap.size:=zo;replace HB:=Hi ((he1.out.trans hI.ext).block HB.out);have cR:=ae HB.out;have fR:=af HB.out;clear hI he0 he1 hz0 hc0 hf0;simp only [pD];go_wp2;have hF:=((((Fin.start (L:=w.heap.size+1) HX.out (ai HB.out rfl)).set zo (i:=0) (v:=.bool x2.neg) rfl).set zo (i:=1) (v:=.slice x2.a x2.n x2.c) rfl).set zo (i:=2) (v:=.slice x5.a x5.n x5.c) rfl);refine nXa (v:=RH.v ⟨x2.neg,x2.a,x2.n,x2.c,x5.a,x5.n,x5.c⟩) (by simp [results,Tryz.results154,go_sem,ae HB.out]) rfl ⟨⟨x2.neg,x2.a,x2.n,x2.c,x5.a,x5.n,x5.c⟩,rfl,hF.ext,?_⟩;rw [HQ.out];have c2:=G2.out.keep hF.keep;have c5:=hF.keep _ _ _ _ G5.out;refine aA.of hz hN0 ?_ ?_ ?_
   ·rw [c2.1,cP];simp;omega
   ·have:=c2.2;rw [bG] at this;rw [←HGG.out,Nat.div_one];exact this
   ·rw [←HGG.out,Nat.div_one];exact c5
  ·have hg1b:decide (g=1)=false:=by simp [hg1]
   rw [hg1b]
   go_wp2_with fail
   refine cM (fO ⟨ao,n,c⟩ x2 _ _ _ (HU.out.ext E3.out) (G2.out.ext X3.out) hn (by rw [ag];exact hg0)) fun x4 w4 hE G4=>?_
   obtain ⟨hcw,hfw⟩:=ak hE;have hsw:=hE.size
   (try simp only [nXc] at hsw)
   have hs0:w.heap.size<w4.heap.size:=zo;have hs1:w.heap.size+1<w4.heap.size:=zo;replace HB:=hE.bl HB;have cR:=ae HB.out;have fR:=af HB.out;have E4:=Hi ((E3.out).trans hE);have X4:=Hi hE;obtain ⟨p3,p4⟩:=x4;obtain ⟨k1,k2⟩:=G4.out;simp only at k1 k2;rw [←HN.out,ag] at k1;have K3:=Hi k1;clear k1 k2 G4
   go_wp2_with fail
   refine cM (fO ⟨bo,m,d⟩ x2 _ _ _ (KU.out.ext E4.out) ((G2.out.ext X3.out).ext X4.out) hm (by rw [ag];exact hg0)) fun x5 w5 hE G5=>?_
   obtain ⟨hcw,hfw⟩:=ak hE;have hsw:=hE.size
   (try simp only [nXc] at hsw)
   have hs0:w.heap.size<w5.heap.size:=zo;have hs1:w.heap.size+1<w5.heap.size:=zo;replace HB:=hE.bl HB;have cR:=ae HB.out;have fR:=af HB.out;have E5:=Hi ((E4.out).trans hE);have X5:=Hi hE;obtain ⟨p5,p6⟩:=x5;obtain ⟨k1,k2⟩:=G5.out;simp only at k1 k2;rw [←HD.out,ag] at k1;have K5:=Hi k1;clear k1 k2 G5;go_wp2;have hF:=((((Fin.start (L:=w.heap.size+1) E5.out (ai HB.out rfl)).set zo (i:=0) (v:=.bool neg) rfl).set zo (i:=1) (v:=.slice p3.a p3.n p3.c) rfl).set zo (i:=2) (v:=.slice p5.a p5.n p5.c) rfl);refine nXa (v:=RH.v ⟨neg,p3.a,p3.n,p3.c,p5.a,p5.n,p5.c⟩) (by simp [results,Tryz.results154,go_sem,ae HB.out]) rfl ⟨⟨neg,p3.a,p3.n,p3.c,p5.a,p5.n,p5.c⟩,rfl,hF.ext,?_⟩;rw [HQ.out];refine aA.of hz hN0 rfl ?_ ?_
   ·rw [←HGG.out];exact hF.keep _ _ _ _ (K3.out.ext X5.out)
   ·rw [←HGG.out];exact hF.keep _ _ _ _ K5.out
theorem xt(a b c d:Value)(w:World):(Instr.field 172 (.agg #[a,b,c,d]) 0).run Tryz.prog w=.ok (.agg #[a,b,c]) w:=by
 simp [Instr.field,asAgg,go_sem]
theorem xV(a b c:Value)(w:World):(Instr.field 170 (.agg #[a,b,c]) 0).run Tryz.prog w=.ok (.agg #[a,b]) w:=by
 simp [Instr.field,asAgg,go_sem]
attribute [local go_sem] xt xV
def cG(a b:Rat):Int:=if a<b then -1 else if a=b then 0 else 1
theorem Fa{n1 n2:Int}{d1 d2:Nat}(h1:d1≠0)(h2:d2≠0):mkRat n1 d1<mkRat n2 d2↔n1*d2<n2*d1:=by
 rw [Rat.mkRat_eq_div,Rat.mkRat_eq_div];have p1:(0:Rat)<(d1:Rat):=Rat.natCast_pos.2 zo;have p2:(0:Rat)<(d2:Rat):=Rat.natCast_pos.2 zo;rw [Rat.div_lt_iff p1,show ((n2:Rat) / d2)*d1=((n2:Rat)*d1) / d2 by rw [Rat.div_def,Rat.div_def];grind,Rat.lt_div_iff p2];rw [←Rat.intCast_natCast d1,←Rat.intCast_natCast d2,←Rat.intCast_mul,←Rat.intCast_mul,Rat.intCast_lt_intCast]
theorem Fc{n1 n2:Int}{d1 d2:Nat}(h1:d1≠0)(h2:d2≠0):mkRat n1 d1=mkRat n2 d2↔n1*d2=n2*d1:=Rat.mkRat_eq_iff h1 h2
theorem pW{n1 n2:Int}{d1 d2:Nat}(h1:d1≠0)(h2:d2≠0):cG (mkRat n1 d1) (mkRat n2 d2)=bU (n1*d2) (n2*d1):=by
 unfold cG bU;simp only [Fa h1 h2,Fc h1 h2]
theorem oR{n1:Int}{d1:Nat}(h1:d1≠0):cG (mkRat n1 d1) 0=bU n1 0:=by
 have:=pW (n2:=0) (d2:=1) (n1:=n1) h1 dZ;rw [Rat.zero_mkRat] at this;simpa using this
theorem j1.num{w:World}{p:RH×Bool}{q:Rat}(h:j1 w p q):∃ z,fo w p.1.num z∧bU z 0=cG q 0:=by
 obtain ⟨ds,es,h1,h2,h3,h4,h5,h6,h7⟩:=h;exact ⟨_,⟨ds,h1,rfl,by simp only;omega⟩,by rw [h3,oR h4]⟩
theorem eG(s:RH)(q:Rat)(w:World)(h:aX w s q):ar 145 [s.v] w RH.v (fun r w'=>aA w' r q):=by
 have HR:=Hi h;obtain ⟨neg,ao,n,c,bo,m,d⟩:=s;clear h;unfold ar;go_enter Tryz.func145,Tryz.ntmps145
 go_wp2_with fail
 refine cM (cU ⟨neg,ao,n,c,bo,m,d⟩ _ _ (HR.out.ext Ext.al2)) fun x1 w1 hE G1=>?_
 obtain ⟨hcw,hfw⟩:=ak hE;have hsw:=hE.size
 (try simp only [nXc] at hsw)
 obtain ⟨hs0,hs1⟩:=zs2 hsw;have hB:=hE.block (heap_alloc_new _ _);rw [nXc] at hB;have HB:Hid (w1.heap[w.heap.size+1]?=some _):=Hi hB;clear hB;have E1:=Hi ((Ext.al2).trans hE);have X1:=Hi hE;obtain ⟨⟨neg',ao',n',c',bo',m',d'⟩,wh⟩:=x1;simp only [NV]
 go_wp2_with fail
 refine cM (ez ⟨neg',ao',n',c',bo',m',d'⟩ _ _ G1.out.raw) fun x2 w2 hE G2=>?_
 obtain ⟨hcw,hfw⟩:=ak hE;have hsw:=hE.size
 (try simp only [nXc] at hsw)
 have hs0:w.heap.size<w2.heap.size:=zo;have hs1:w.heap.size+1<w2.heap.size:=zo;replace HB:=hE.bl HB;have cR:=ae HB.out;have fR:=af HB.out;have E2:=Hi ((E1.out).trans hE);have X2:=Hi hE;have HX:=E2;go_wp2;have hF:=((((Fin.start (L:=w.heap.size+1) HX.out (ai HB.out rfl)).set zo (i:=0) (v:=.bool x2.neg) rfl).set zo (i:=1) (v:=.slice x2.a x2.n x2.c) rfl).set zo (i:=2) (v:=.slice x2.b x2.m x2.d) rfl);exact nXa (v:=x2.v) (by simp [results,Tryz.results145,go_sem,ae HB.out]) rfl ⟨x2,rfl,hF.ext,G2.out.keep hF.keep⟩
theorem bO(n:Int)(w:World)(h1:-9223372036854775808≤n)(h2:n≤9223372036854775807):ar 63 [.int .i64 n] w RH.v (fun r w'=>aA w' r (n:Rat)):=by
 unfold ar;go_enter Tryz.func63,Tryz.ntmps63
 go_wp2_with fail
 refine cM (pL n _ h1 h2) fun x1 w1 hE G1=>?_
 obtain ⟨hcw,hfw⟩:=ak hE;have hsw:=hE.size
 (try simp only [nXc] at hsw)
 have hs0:w.heap.size<w1.heap.size:=zo;have hB:=hE.block (heap_alloc_new _ _);have HB:Hid (w1.heap[w.heap.size]?=some _):=Hi hB;clear hB;have E1:=Hi ((Ext.al1).trans hE);have X1:=Hi hE
 go_wp2_with fail
 refine cM (iS _ _ _ G1.out) fun x2 w2 hE G2=>?_
 obtain ⟨hcw,hfw⟩:=ak hE;have hsw:=hE.size
 (try simp only [nXc] at hsw)
 have hs0:w.heap.size<w2.heap.size:=zo;replace HB:=hE.bl HB;have cR:=ae HB.out;have fR:=af HB.out;have E2:=Hi ((E1.out).trans hE);have X2:=Hi hE;have HX:=E2;go_wp2;have hF:=((((Fin.start (L:=w.heap.size) HX.out (ai HB.out rfl)).set zo (i:=0) (v:=.bool x2.neg) rfl).set zo (i:=1) (v:=.slice x2.a x2.n x2.c) rfl).set zo (i:=2) (v:=.slice x2.b x2.m x2.d) rfl);exact nXa (v:=x2.v) (by simp [results,Tryz.results63,go_sem,ae HB.out]) rfl ⟨x2,rfl,hF.ext,G2.out.keep hF.keep⟩
theorem dV(s:RH)(q:Rat)(w:World)(h:aX w s q):ar 87 [s.v] w (fun _:Unit=>.int .i64 (cG q 0)) (fun _ _=>True):=by
 have HR:=Hi h;obtain ⟨neg,ao,n,c,bo,m,d⟩:=s;clear h;unfold ar;go_enter Tryz.func87,Tryz.ntmps87
 go_wp2_with fail
 refine cM (cU ⟨neg,ao,n,c,bo,m,d⟩ _ _ (HR.out.ext Ext.al1)) fun x1 w1 hE G1=>?_
 obtain ⟨hcw,hfw⟩:=ak hE;have hsw:=hE.size
 (try simp only [nXc] at hsw)
 have hs0:w.heap.size<w1.heap.size:=zo;have E1:=Hi ((Ext.al1).trans hE);have X1:=Hi hE;obtain ⟨⟨neg',ao',n',c',bo',m',d'⟩,wh⟩:=x1;simp only [NV];obtain ⟨z,hz,hzc⟩:=G1.out.num;have HZ:=Hi hz;have HC:=Hi hzc;clear hz hzc
 go_wp2_with fail
 refine cM (cj ⟨neg',ao',n',c'⟩ z _ HZ.out) fun x2 w2 hE G2=>?_
 obtain ⟨hcw,hfw⟩:=ak hE;have hsw:=hE.size
 (try simp only [nXc] at hsw)
 have hs0:w.heap.size<w2.heap.size:=zo;have E2:=Hi ((E1.out).trans hE);have X2:=Hi hE;rw [HC.out];go_wp2
 go_ret
 exact ⟨(),rfl,E2.out,trivial⟩
theorem ES(b:Bool)(N D:Nat):mkRat (N:Int) D=if b then -(mkRat (sg b N) D) else mkRat (sg b N) D:=by
 unfold sg;cases b
 ·simp
 ·simp only [if_true];rw [Rat.neg_mkRat,Int.neg_neg]
theorem Dx(b:Bool)(N D:Nat):mkRat (N:Int) D=(mkRat (sg b N) D).abs:=by
 have h0:0≤mkRat (N:Int) D:=by
  by_cases hD:D=0
  ·subst hD;rw [Rat.mkRat_zero];exact Rat.le_refl
  ·rw [Rat.mkRat_eq_div,Rat.div_def];exact Rat.mul_nonneg (Rat.intCast_nonneg.2 zo) (Rat.le_of_lt (Rat.inv_pos.2 (Rat.natCast_pos.2 zo)))
 have h1:=ES b N D;cases b
 ·simp only [Bool.false_eq_true,if_false] at h1;rw [←h1,Rat.abs_of_nonneg h0]
 ·simp only [if_true] at h1;rw [←Rat.abs_neg,←h1,Rat.abs_of_nonneg h0]
theorem aX.abs{w:World}{s:RH}{q:Rat}(h:aX w s q):aX w ⟨false,s.a,s.n,s.c,s.b,s.m,s.d⟩ q.abs:=by
 obtain ⟨ds,es,h1,h2,h3,h4,h5⟩:=h;exact ⟨ds,es,h1,h2,by rw [h3,←Dx];rfl,h4,h5⟩
theorem aX.neg{w:World}{s:RH}{q:Rat}(h:aX w s q):aX w ⟨!s.neg,s.a,s.n,s.c,s.b,s.m,s.d⟩ (-q):=by
 obtain ⟨ds,es,h1,h2,h3,h4,h5⟩:=h;refine ⟨ds,es,h1,h2,?_,h4,h5⟩;rw [h3,Rat.neg_mkRat]
 congr 1
 unfold sg;cases s.neg <;> simp
theorem i5(s:RH)(q:Rat)(w:World)(h:aX w s q):ar 127 [s.v] w RH.v (fun r w'=>aA w' r q.abs):=by
 have HR:=Hi h;obtain ⟨neg,ao,n,c,bo,m,d⟩:=s;clear h;unfold ar;go_enter Tryz.func127,Tryz.ntmps127
 go_wp2_with fail
 refine cM (eG ⟨false,ao,n,c,bo,m,d⟩ _ _ (HR.out.abs.ext Ext.al2)) fun x1 w1 hE G1=>?_
 obtain ⟨hcw,hfw⟩:=ak hE;have hsw:=hE.size
 (try simp only [nXc] at hsw)
 obtain ⟨hs0,hs1⟩:=zs2 hsw;have hB:=hE.block (heap_alloc_new _ _);rw [nXc] at hB;have HB:Hid (w1.heap[w.heap.size+1]?=some _):=Hi hB;clear hB;have E1:=Hi ((Ext.al2).trans hE);have X1:=Hi hE;have HX:=E1;go_wp2;have hF:=((((Fin.start (L:=w.heap.size+1) HX.out (ai HB.out rfl)).set zo (i:=0) (v:=.bool x1.neg) rfl).set zo (i:=1) (v:=.slice x1.a x1.n x1.c) rfl).set zo (i:=2) (v:=.slice x1.b x1.m x1.d) rfl);exact nXa (v:=x1.v) (by simp [results,Tryz.results127,go_sem,ae HB.out]) rfl ⟨x1,rfl,hF.ext,G1.out.keep hF.keep⟩
def stN(w:World)(b:Nat)(x:RH×Bool):World :=
 (((w.setCell ⟨b,0,none⟩ (.bool x.1.neg)).setCell ⟨b,1,none⟩ (.slice x.1.a x.1.n x.1.c)).setCell ⟨b,2,none⟩ (.slice x.1.b x.1.m x.1.d)).setCell ⟨b,3,none⟩ (.bool x.2)
def gt(x:RH×Bool):Array Value:=#[.bool x.1.neg,.slice x.1.a x.1.n x.1.c,.slice x.1.b x.1.m x.1.d,.bool x.2]
theorem tT{w:World}{b:Nat}{T:TypeId}{c0 c1 c2 c3:Value}{fz:Nat×Nat}(x:RH×Bool)(h:w.heap[b]?=some (.cells #[c0,c1,c2,c3] T fz)):(stN w b x).heap[b]?=some (.cells (gt x) T fz):=by
 unfold stN;exact ax (ax (ax (ax h 0 _) 1 _) 2 _) 3 _
theorem gJ(w:World)(b:Nat)(x:RH×Bool):aL (·=b) w (stN w b x) :=
 (((aL.setCell w ⟨b,0,none⟩ _).trans (aL.setCell _ ⟨b,1,none⟩ _)).trans (aL.setCell _ ⟨b,2,none⟩ _)).trans (aL.setCell _ ⟨b,3,none⟩ _)
theorem tS{w w1:World}{b:Nat}(x:RH×Bool)(hE:Ext w w1)(hN:NoU w1 b)(hl:w.heap.size≤b):Fin w w1 b (stN w1 b x) :=
 ((((Fin.start hE hN).set hl rfl).set hl rfl).set hl rfl).set hl rfl
structure Two (w w1:World) (b c:Nat) (T:TypeId) (x y:RH×Bool) (w2:World):Prop where
 ext:Ext w w2
 keep:dJ w1 w2
 bx:w2.heap[b]?=some (.cells (gt x) T (0,0))
 cy:w2.heap[c]?=some (.cells (gt y) T (0,0))
 rest:∀ k o,k≠b→k≠c→w1.heap[k]?=some o→w2.heap[k]?=some o
 size:w1.heap.size≤w2.heap.size
theorem eF{w w1:World}{b c:Nat}{T:TypeId}(hE:Ext w w1)(h4:w1.heap[b]?=some (.cells #[.bool false,.slice none 0 0,.slice none 0 0,.bool false] T (0,0)))
 (h5:w1.heap[c]?=some (.cells #[.bool false,.slice none 0 0,.slice none 0 0,.bool false] T (0,0)))(hne:c≠b)(l4:w.heap.size≤b)(l5:w.heap.size≤c)(x y:RH×Bool) :
  ∃ w2,w2=stN (stN w1 b x) c y∧Two w w1 b c T x y w2:=by
 have f1:=tS x hE (ai h4 rfl) l4;have h5':=(gJ w1 b x).blk hne h5;have f2:=tS y f1.ext (ai h5' rfl) l5;refine ⟨_,rfl,f2.ext,fun _ _ _ _ h=>f2.keep _ _ _ _ (f1.keep _ _ _ _ h),(gJ _ c y).blk (fun h=>hne h.symm) (tT x h4),tT y h5',fun k o h1 h2 h3=>(gJ _ c y).blk h2 ((gJ _ b x).blk h1 h3),nXf (gJ _ b x).size (gJ _ c y).size⟩
def stI(w:World)(b:Nat)(x:IH):World:=(w.setCell ⟨b,0,none⟩ (.bool x.neg)).setCell ⟨b,1,none⟩ (.slice x.a x.n x.c)
structure One (w w1:World) (b:Nat) (T:TypeId) (x:IH) (w2:World):Prop where
 ext:Ext w w2
 keep:dJ w1 w2
 bx:w2.heap[b]?=some (.cells #[.bool x.neg,.slice x.a x.n x.c] T (0,0))
 rest:∀ k o,k≠b→w1.heap[k]?=some o→w2.heap[k]?=some o
 size:w1.heap.size≤w2.heap.size
theorem pB{w w1:World}{b:Nat}{T:TypeId}(hE:Ext w w1)(h4:w1.heap[b]?=some (.cells #[.bool false,.slice none 0 0] T (0,0)))(l4:w.heap.size≤b)(x:IH) :
  ∃ w2,w2=stI w1 b x∧One w w1 b T x w2:=by
 have f1:Fin w w1 b (stI w1 b x):=((Fin.start hE (ai h4 rfl)).set l4 rfl).set l4 rfl;have m1:aL (·=b) w1 (stI w1 b x):=(aL.setCell w1 ⟨b,0,none⟩ _).trans (aL.setCell _ ⟨b,1,none⟩ _);exact ⟨_,rfl,f1.ext,f1.keep,ax (ax h4 0 _) 1 _,fun k o h1 h3=>m1.blk h1 h3,m1.size⟩
theorem xh.mk{w:World}{s:IH}{z:Int}{b:Option Addr}{m d:Nat}{es:List Nat}{q:Rat}{k:Nat}(h:fG w s z)(h2:U32 w b m d es)(hq:q=mkRat z (val es))(hz:val es≠0)(hk:z.natAbs<W32 ^ k)(hk2:k≤1073741824)(hm:m≤1073741824):xh w ⟨s.neg,s.a,s.n,s.c,b,m,d⟩ q :=
 ⟨_,es,h.2,h2,by rw [hq,ag,h.1,fj],hz,by rw [←h.2.len];exact nXf (bI hk) hk2,hm⟩
theorem fG.rawk{w:World}{s:IH}{z:Int}{k:Nat}(h:fG w s z)(hz:z.natAbs<W32 ^ k)(hk:k≤1073741824):fo w s z:=h.raw (nXf (bI hz) hk)
theorem iz{w:World}{a:Option Addr}{n c:Nat}{ds:List Nat}(h:U32 w a n c ds)(b:Bool):(sg b (val ds)).natAbs<W32 ^ n:=by rw [bG];exact h.vle
theorem jc{a b k l:Nat}(h1:a<W32 ^ k)(h2:b<W32 ^ l):a*b<W32 ^ (k+l):=by rw [Nat.pow_add];exact Nat.mul_lt_mul_of_lt_of_lt h1 h2
theorem AW{a b k l:Nat}(h1:a<W32 ^ k)(h2:b<W32 ^ l):a+b<W32 ^ (k+l+1):=by
 have e1:W32 ^ k≤W32 ^ (k+l):=nXp aI zo;have e2:W32 ^ l≤W32 ^ (k+l):=nXp aI zo;have h5:W32 ^ (k+l)*2≤W32 ^ (k+l+1):=by rw [nXu];exact nXg _ dZ
 omega
theorem pN{a b:Int}{k l:Nat}(h1:a.natAbs<W32 ^ k)(h2:b.natAbs<W32 ^ l):(a+b).natAbs<W32 ^ (k+l+1):=nYl (Int.natAbs_add_le _ _) (AW h1 h2)
theorem cK{a b:Int}{k l:Nat}(h1:a.natAbs<W32 ^ k)(h2:b.natAbs<W32 ^ l):(a*b).natAbs<W32 ^ (k+l):=by rw [Int.natAbs_mul];exact jc h1 h2
abbrev _root_.Go.sR(q : Rat) : Go.Front.Kind := .spec RH default RH.v (fun s w' => aA w' s q)
theorem dw(s t:RH)(q r:Rat)(w:World)(h:aX w s q)(k:aX w t r):ar 104 [s.v,t.v] w RH.v (fun s w'=>aA w' s (q+r)):=by
 have HR:=Hi h;have KR:=Hi k;obtain ⟨neg,ao,n,c,bo,m,d⟩:=s;obtain ⟨neg',ao',n',c',bo',m',d'⟩:=t;clear h k;unfold ar;go_enter Tryz.func104,Tryz.ntmps104;go_wp2;refine ah 6 (fun opIx=>match opIx with
  | 1=>.spec (RH×Bool) (default) (NV) (fun p w'=>j1 w' p q)
  | 3=>.spec (RH×Bool) (default) (NV) (fun p w'=>j1 w' p r)
  | 4=>.alloc 172 #[.bool false,.slice none 0 0,.slice none 0 0,.bool false]
  | 5=>.alloc 172 #[.bool false,.slice none 0 0,.slice none 0 0,.bool false]
  | _=>.quiet) (fun _=>[]) kZ kZ (fun w0 he0 hz0 hc0 hf0=>?_)
 have he1:=Hi he0;replace he0:=Hi ((Ext.al3).trans he0);simp only [pT];refine qQ ?_;refine wps he0 (fun w1 hW hG=>?_) fun x1=>?_
 ·exact spc [RH.v ⟨neg,ao,n,c,bo,m,d⟩] Tryz.func132 (cU _ _ _ (HR.out.ext hW))
 refine qZ ?_;refine wps he0 (fun w1 hW hG=>?_) fun x3=>?_
 ·exact spc [RH.v ⟨neg',ao',n',c',bo',m',d'⟩] Tryz.func132 (cU _ _ _ (KR.out.ext hW))
 refine qZ ?_;refine aW rfl rfl (fun w=>by simp [execOp,go_sem,ptr]) (fun b4 hb4 hl4=>?_);refine qZ ?_;refine aW rfl rfl (fun w=>by simp [execOp,go_sem,ptr]) (fun b5 hb5 hl5=>?_);refine qZ ?_;refine aq ?_;intro w1 hI;have G1:=gT (hI.facts 1);have G3:=gT (hI.facts 3);have A4:Hid (w1.heap[b4]?=some (.cells #[.bool false,.slice none 0 0,.slice none 0 0,.bool false] 172 (0,0))):=hI.facts 4;rw [hz0] at hl4
 (try simp only [nXc] at hl4)
 have hv4:b4<w1.heap.size:=(nXb.1 A4.out).1;have A5:Hid (w1.heap[b5]?=some (.cells #[.bool false,.slice none 0 0,.slice none 0 0,.bool false] 172 (0,0))):=hI.facts 5;rw [hz0] at hl5
 (try simp only [nXc] at hl5)
 have hv5:b5<w1.heap.size:=(nXb.1 A5.out).1;have HX:=Hi (he0.out.trans hI.ext);have hX1:=Hi (he1.out.trans hI.ext);obtain ⟨hcw,hfw⟩:=ak (he1.out.trans hI.ext);have hsw:=(he1.out.trans hI.ext).size
 (try simp only [nXc] at hsw)
 have hs0:w.heap.size<w1.heap.size:=zo;have hs1:w.heap.size+1<w1.heap.size:=zo;have hs2:w.heap.size+2<w1.heap.size:=zo;have hB:=(he1.out.trans hI.ext).block (heap_alloc_new _ _);rw [nXc,nXc] at hB;have HB:Hid (w1.heap[w.heap.size+2]?=some _):=Hi hB;clear hB;clear hI he0 he1 hz0 hc0 hf0;simp only [pD,ptr];obtain ⟨⟨xneg,xa,xn,xc,xb,xm,xd⟩,xw⟩:=x1;obtain ⟨⟨yneg,ya,yn,yc,yb,ym,yd⟩,yw⟩:=x3;simp only [NV];have hne:b5≠b4:=fun h=>hb5 (Or.inl h)
 have cA:=ae A4.out;have cB:=ae A5.out;have fA:=af A4.out;have fB:=af A5.out
 go_upto_region 2 with fail
 obtain ⟨w2,hw2,T2⟩:=eF HX.out A4.out A5.out hne zo zo (⟨xneg,xa,xn,xc,xb,xm,xd⟩,xw) (⟨yneg,ya,yn,yc,yb,ym,yd⟩,yw)
 change Code.wp _ _ _ _ (stN (stN w1 b4 (⟨xneg,xa,xn,xc,xb,xm,xd⟩,xw)) b5 (⟨yneg,ya,yn,yc,yb,ym,yd⟩,yw))
 rw [←hw2];have HB2:=Hi (T2.rest _ _ zo zo HB.out);obtain ⟨ds,es,hU,kU,hq,hz,h1,hn,hm⟩:=G1.out.keep T2.keep;obtain ⟨ds',es',hU',kU',hq',hz',h1',hn',hm'⟩:=G3.out.keep T2.keep;simp only at hU kU hq h1 hn hm hU' kU' hq' h1' hn' hm';have HU:=Hi hU;have KU:=Hi kU;have HU':=Hi hU';have KU':=Hi kU';have HQ:=Hi hq;have HQ':=Hi hq';have H1:=Hi h1;have H1':=Hi h1';have E:=Hi T2.ext;have B4:=Hi T2.bx;have B5:=Hi T2.cy;have hv4:=T2.size;clear hw2 hU kU hq h1 hU' kU' hq' h1' T2 G1 G3 HX HB A4 A5 cA cB fA fB hb4 hb5 hcw hfw;have cA:=ae B4.out;have cB:=ae B5.out;simp only [gt] at cA cB;have hz4:b4<w2.heap.size:=zo;have hz5:b5<w2.heap.size:=zo;have hs0:w.heap.size<w2.heap.size:=zo;have hs1:w.heap.size+1<w2.heap.size:=zo;have hs2:w.heap.size+2<w2.heap.size:=zo;have HB:=HB2;clear HB2;have cR:=ae HB.out;have fR:=af HB.out;have cR2:=ae (B:=w.heap.size+1+1) HB.out;have fR2:=af (B:=w.heap.size+1+1) HB.out;by_cases hw:xw=true∧yw=true
 ·obtain ⟨rfl,rfl⟩:=hw
  go_wp2_with fail
  refine cM (nf ⟨xneg,xa,xn,xc⟩ ⟨yneg,ya,yn,yc⟩ _ _ _ ⟨ds,HU.out,rfl,by simp only;omega⟩ ⟨ds',HU'.out,rfl,by simp only;omega⟩) fun x4 w4 hE G4=>?_
  obtain ⟨hcw,hfw⟩:=ak hE;have hsw:=hE.size
  (try simp only [nXc] at hsw)
  have hs0:w.heap.size<w4.heap.size:=zo;have hs1:w.heap.size+1<w4.heap.size:=zo;have hs2:w.heap.size+2<w4.heap.size:=zo;have hzb4:b4<w4.heap.size:=zo;have hzb5:b5<w4.heap.size:=zo;replace HB:=hE.bl HB;have cR:=ae HB.out;have fR:=af HB.out;have cR2:=ae (B:=w.heap.size+1+1) HB.out;have fR2:=af (B:=w.heap.size+1+1) HB.out;have E4:=Hi ((E.out).trans hE);have X4:=Hi hE
  go_wp2_with fail
  refine cM (iS _ _ _ G4.out) fun x5 w5 hE G5=>?_
  obtain ⟨hcw,hfw⟩:=ak hE;have hsw:=hE.size
  (try simp only [nXc] at hsw)
  have hs0:w.heap.size<w5.heap.size:=zo;have hs1:w.heap.size+1<w5.heap.size:=zo;have hs2:w.heap.size+2<w5.heap.size:=zo;have hzb4:b4<w5.heap.size:=zo;have hzb5:b5<w5.heap.size:=zo;replace HB:=hE.bl HB;have cR:=ae HB.out;have fR:=af HB.out;have cR2:=ae (B:=w.heap.size+1+1) HB.out;have fR2:=af (B:=w.heap.size+1+1) HB.out;have E5:=Hi ((E4.out).trans hE);have X5:=Hi hE;have hqr:((sg xneg (val ds)+sg yneg (val ds'):Int):Rat)=q+r:=by
   rw [HQ.out,HQ'.out,H1.out (by first|rfl|trivial),H1'.out (by first|rfl|trivial),Rat.mkRat_add_mkRat _ _ dZ dZ];simp [Rat.mkRat_one]
  rw [hqr] at G5;clear hqr;have HX:=E5;go_wp2;have hF:=((((Fin.start (L:=w.heap.size+2) HX.out (ai HB.out rfl)).set zo (i:=0) (v:=.bool x5.neg) rfl).set zo (i:=1) (v:=.slice x5.a x5.n x5.c) rfl).set zo (i:=2) (v:=.slice x5.b x5.m x5.d) rfl);exact nXa (v:=x5.v) (by simp [results,Tryz.results104,go_sem,ae HB.out]) rfl ⟨x5,rfl,hF.ext,G5.out.keep hF.keep⟩
 ·have hzz:=Rat.mkRat_add_mkRat (sg xneg (val ds)) (sg yneg (val ds')) hz hz';rw [←HQ.out,←HQ'.out] at hzz;have HZZ:=Hi hzz;have hcase:xw=false∨(xw=true∧yw=false):=by cases xw <;> cases yw <;> simp_all
  clear hw hzz;rcases hcase with rfl|⟨rfl,rfl⟩
  all_goals
   go_wp2_with fail
   refine cM (dF ⟨xb,xm,xd⟩ ⟨yb,ym,yd⟩ _ _ _ KU.out KU'.out) fun x4 w4 hE G4=>?_
   obtain ⟨hcw,hfw⟩:=ak hE;have hsw:=hE.size
   (try simp only [nXc] at hsw)
   have hs0:w.heap.size<w4.heap.size:=zo;have hs1:w.heap.size+1<w4.heap.size:=zo;have hs2:w.heap.size+2<w4.heap.size:=zo;have hzb4:b4<w4.heap.size:=zo;have hzb5:b5<w4.heap.size:=zo;replace HB:=hE.bl HB;have cR:=ae HB.out;have fR:=af HB.out;have cR2:=ae (B:=w.heap.size+1+1) HB.out;have fR2:=af (B:=w.heap.size+1+1) HB.out;have E4:=Hi ((E.out).trans hE);have X4:=Hi hE;by_cases hd:val es=val es'
   ·rw [dH (by rw [hd])];have hqr:q+r=mkRat (sg xneg (val ds)+sg yneg (val ds')) (val es):=by
     rw [HZZ.out,←hd,←Int.add_mul,Rat.mkRat_mul_right hz]
    have HQR:=Hi hqr;clear hqr hd;go_wp2;refine ah 12 (fun opIx=>match opIx with
     | 6=>sI (sg xneg (val ds)+sg yneg (val ds'))
     | 11=>sR (q+r)
     | _=>.quiet) (fun|11=>[6]|_=>[]) kZ kZ (fun w0 he0 hz0 hc0 hf0=>?_)
    have he1:=Hi he0;replace he0:=Hi ((X4.out).trans he0);simp only [pT];refine qQ ?_;refine wps he0 (fun w1 hW hG=>?_) fun x6=>?_
    ·exact spc [IH.v ⟨xneg,xa,xn,xc⟩,IH.v ⟨yneg,ya,yn,yc⟩] Tryz.func152 (nf _ _ _ _ _ ⟨ds,HU.out.ext hW,rfl,by simp only;omega⟩ ⟨ds',HU'.out.ext hW,rfl,by simp only;omega⟩)
    refine qZ ?_;refine wps he0 (fun w1 hW hG=>?_) fun x11=>?_
    ·have g6:=gS (hG 6 dZ);exact spc [RH.v ⟨x6.neg,x6.a,x6.n,x6.c,xb,xm,xd⟩] Tryz.func154 (ez _ _ _ (xh.mk g6 (KU.out.ext hW) HQR.out hz (pN (iz HU.out _) (iz HU'.out _)) zo zo))
    refine qZ ?_;refine aq ?_;intro w1 hI;have G6:=gT (hI.facts 6);have G11:=gT (hI.facts 11);have HX:=Hi (he0.out.trans hI.ext);have hX1:=Hi (he1.out.trans hI.ext);obtain ⟨hcw,hfw⟩:=ak (he1.out.trans hI.ext);have hsw:=(he1.out.trans hI.ext).size
    (try simp only [nXc] at hsw)
    have hs0:w.heap.size<w1.heap.size:=zo;have hs1:w.heap.size+1<w1.heap.size:=zo;have hs2:w.heap.size+2<w1.heap.size:=zo;have hzb4:b4<w1.heap.size:=zo;have hzb5:b5<w1.heap.size:=zo;replace HB:=Hi ((he1.out.trans hI.ext).block HB.out);have cR:=ae HB.out;have fR:=af HB.out;have cR2:=ae (B:=w.heap.size+1+1) HB.out;have fR2:=af (B:=w.heap.size+1+1) HB.out;clear hI he0 he1 hz0 hc0 hf0;simp only [pD];replace HX:=Hi (E.out.trans HX.out);go_wp2;have hF:=((((Fin.start (L:=w.heap.size+2) HX.out (ai HB.out rfl)).set zo (i:=0) (v:=.bool x11.neg) rfl).set zo (i:=1) (v:=.slice x11.a x11.n x11.c) rfl).set zo (i:=2) (v:=.slice x11.b x11.m x11.d) rfl);exact nXa (v:=x11.v) (by simp [results,Tryz.results104,go_sem,ae HB.out]) rfl ⟨x11,rfl,hF.ext,G11.out.keep hF.keep⟩
   ·have hcc:(bU (val es:Nat) (val es':Nat) == 0)=false:=by
     unfold bU;split
     ·rfl
     ·rw [if_neg zo];rfl
    clear hd;go_wp2;refine ah 18 (fun opIx=>match opIx with
     | 6=>sU (IH.v ⟨false,yb,ym,yd⟩)
     | 7=>sI (sg xneg (val ds)*(val es':Nat))
     | 14=>sU (IH.v ⟨false,xb,xm,xd⟩)
     | 15=>sI (sg yneg (val ds')*(val es:Nat))
     | 16=>sI (sg xneg (val ds)*(val es':Nat)+sg yneg (val ds')*(val es:Nat))
     | 17=>.alloc 35 #[.bool false,.slice none 0 0]
     | _=>.quiet) (fun|16=>[7,15]|_=>[]) kZ kZ (fun w0 he0 hz0 hc0 hf0=>?_)
    have he1:=Hi he0;replace he0:=Hi ((X4.out).trans he0);simp only [pT];refine qQ ?_;refine wps he0 (fun w1 hW hG=>?_) fun x6=>?_
    ·exact spc [.slice yb ym yd] Tryz.func135 (dM _ _ _ _)
    refine qZ ?_;refine wps he0 (fun w1 hW hG=>?_) fun x7=>?_
    ·exact spc [IH.v ⟨xneg,xa,xn,xc⟩,IH.v ⟨false,yb,ym,yd⟩] Tryz.func134 (fM _ _ _ _ _ ⟨ds,HU.out.ext hW,rfl,by simp only;omega⟩ ⟨es',KU'.out.ext hW,rfl,by simp only;omega⟩)
    refine qZ ?_;refine wps he0 (fun w1 hW hG=>?_) fun x14=>?_
    ·exact spc [.slice xb xm xd] Tryz.func135 (dM _ _ _ _)
    refine qZ ?_;refine wps he0 (fun w1 hW hG=>?_) fun x15=>?_
    ·exact spc [IH.v ⟨yneg,ya,yn,yc⟩,IH.v ⟨false,xb,xm,xd⟩] Tryz.func134 (fM _ _ _ _ _ ⟨ds',HU'.out.ext hW,rfl,by simp only;omega⟩ ⟨es,KU.out.ext hW,rfl,by simp only;omega⟩)
    refine qZ ?_;refine wps he0 (fun w1 hW hG=>?_) fun x16=>?_
    ·have g7:=gS (hG 7 dZ);have g15:=gS (hG 15 dZ);exact spc [x7.v,x15.v] Tryz.func152 (nf _ _ _ _ _ (g7.rawk (cK (iz HU.out _) KU'.out.vle) zo) (g15.rawk (cK (iz HU'.out _) KU.out.vle) zo))
    refine qZ ?_;refine aW rfl rfl (fun w=>by simp [execOp,go_sem,ptr]) (fun b17 hb17 hl17=>?_);refine qZ ?_;refine aq ?_;intro w1 hI;have G7:=gT (hI.facts 7);have G15:=gT (hI.facts 15);have G16:=gT (hI.facts 16);have A17:Hid (w1.heap[b17]?=some (.cells #[.bool false,.slice none 0 0] 35 (0,0))):=hI.facts 17;rw [hz0] at hl17
    (try simp only [nXc] at hl17)
    have hv17:b17<w1.heap.size:=(nXb.1 A17.out).1;have HX:=Hi (he0.out.trans hI.ext);have hX1:=Hi (he1.out.trans hI.ext);obtain ⟨hcw,hfw⟩:=ak (he1.out.trans hI.ext);have hsw:=(he1.out.trans hI.ext).size
    (try simp only [nXc] at hsw)
    have hs0:w.heap.size<w1.heap.size:=zo;have hs1:w.heap.size+1<w1.heap.size:=zo;have hs2:w.heap.size+2<w1.heap.size:=zo;have hzb4:b4<w1.heap.size:=zo;have hzb5:b5<w1.heap.size:=zo;replace HB:=Hi ((he1.out.trans hI.ext).block HB.out);have cR:=ae HB.out;have fR:=af HB.out;have cR2:=ae (B:=w.heap.size+1+1) HB.out;have fR2:=af (B:=w.heap.size+1+1) HB.out;clear hI he0 he1 hz0 hc0 hf0;simp only [pD,ptr];have cC:=ae A17.out;have fC:=af A17.out
    go_upto_region 7 with fail
    obtain ⟨w5,hw5,T5⟩:=pB HX.out A17.out zo x16
    change Code.wp _ _ _ _ (stI w1 b17 x16)
    rw [←hw5];replace HB:=Hi (T5.rest _ _ zo HB.out);have HG:=Hi (G16.out.keep T5.keep);have HZ5:=Hi T5.ext;have B17:=Hi T5.bx;have hv5:=T5.size;obtain ⟨hcw,hfw⟩:=ak T5.ext;clear hw5 T5 G16 G7 G15 HX A17 cC fC;have cC:=ae B17.out;have cR:=ae HB.out;have fR:=af HB.out;have cR2:=ae (B:=w.heap.size+1+1) HB.out;have fR2:=af (B:=w.heap.size+1+1) HB.out;have hz4:b4<w5.heap.size:=zo;have hz5:b5<w5.heap.size:=zo;have hz17:b17<w5.heap.size:=zo;have hs2:w.heap.size+2<w5.heap.size:=zo;refine ah 10 (fun opIx=>match opIx with
     | 7=>sD (val es*val es')
     | 9=>sR (q+r)
     | _=>.quiet) (fun|9=>[7]|_=>[]) kZ kZ (fun w0 he0 hz0 hc0 hf0=>?_)
    have he1:=Hi he0;replace he0:=Hi ((HZ5.out).trans he0);simp only [pT];refine qQ ?_;refine wps he0 (fun w1 hW hG=>?_) fun x7=>?_
    ·exact spc [.slice xb xm xd,.slice yb ym yd] Tryz.func155 (mX ⟨xb,xm,xd⟩ ⟨yb,ym,yd⟩ _ _ _ (KU.out.ext hW) (KU'.out.ext hW) (by simp only;omega) (by simp only;omega))
    refine qZ ?_;refine bN rfl rfl (fun w1 hw1 hG=>?_) (fun x9=>?_)
    ·have hW:=he0.out.trans hw1;have g7:=gS (hG 7 dZ);exact spc [RH.v ⟨x16.neg,x16.a,x16.n,x16.c,x7.a,x7.n,x7.c⟩] Tryz.func154 (ez _ _ _ (xh.mk (HG.out.ext (he1.out.trans hw1)) g7 (by rw [HZZ.out,ag]) (by rw [ag];exact Nat.mul_ne_zero hz hz') (pN (cK (iz HU.out _) KU'.out.vle) (cK (iz HU'.out _) KU.out.vle)) zo (by rw [←g7.len];exact nXf (bI (jc KU.out.vle KU'.out.vle)) zo)))
    refine qZ ?_;refine aq ?_;intro w1 hI;have G7:=gT (hI.facts 7);have G9:=gT (hI.facts 9);have HX:=Hi (he0.out.trans hI.ext);have hX1:=Hi (he1.out.trans hI.ext);obtain ⟨hcw,hfw⟩:=ak (he1.out.trans hI.ext);have hsw:=(he1.out.trans hI.ext).size
    (try simp only [nXc] at hsw)
    have hs0:w.heap.size<w1.heap.size:=zo;have hs1:w.heap.size+1<w1.heap.size:=zo;have hs2:w.heap.size+2<w1.heap.size:=zo;have hzb4:b4<w1.heap.size:=zo;have hzb5:b5<w1.heap.size:=zo;have hzb17:b17<w1.heap.size:=zo;replace HB:=Hi ((he1.out.trans hI.ext).block HB.out);have cR:=ae HB.out;have fR:=af HB.out;have cR2:=ae (B:=w.heap.size+1+1) HB.out;have fR2:=af (B:=w.heap.size+1+1) HB.out;clear hI he0 he1 hz0 hc0 hf0;simp only [pD];replace HX:=Hi (E.out.trans HX.out);go_wp2;have hF:=((((Fin.start (L:=w.heap.size+2) HX.out (ai HB.out rfl)).set zo (i:=0) (v:=.bool x9.neg) rfl).set zo (i:=1) (v:=.slice x9.a x9.n x9.c) rfl).set zo (i:=2) (v:=.slice x9.b x9.m x9.d) rfl);exact nXa (v:=x9.v) (by simp [results,Tryz.results104,go_sem,ae HB.out]) rfl ⟨x9,rfl,hF.ext,G9.out.keep hF.keep⟩
attribute [local go_sem] XW.cell XW.frozen xt xV
theorem aK(s t:RH)(q r:Rat)(w:World)(h:aX w s q)(k:aX w t r):ar 108 [s.v,t.v] w RH.v (fun s w'=>aA w' s (q*r)):=by
 have HR:=Hi h;have KR:=Hi k;obtain ⟨neg,ao,n,c,bo,m,d⟩:=s;obtain ⟨neg',ao',n',c',bo',m',d'⟩:=t;clear h k;unfold ar;go_enter Tryz.func108,Tryz.ntmps108;go_wp2;refine ah 6 (fun opIx=>match opIx with
  | 1=>.spec (RH×Bool) (default) (NV) (fun p w'=>j1 w' p q)
  | 3=>.spec (RH×Bool) (default) (NV) (fun p w'=>j1 w' p r)
  | 4=>.alloc 172 #[.bool false,.slice none 0 0,.slice none 0 0,.bool false]
  | 5=>.alloc 172 #[.bool false,.slice none 0 0,.slice none 0 0,.bool false]
  | _=>.quiet) (fun _=>[]) kZ kZ (fun w0 he0 hz0 hc0 hf0=>?_)
 have he1:=Hi he0;replace he0:=Hi ((Ext.al3).trans he0);simp only [pT];refine qQ ?_;refine wps he0 (fun w1 hW hG=>?_) fun x1=>?_
 ·exact spc [RH.v ⟨neg,ao,n,c,bo,m,d⟩] Tryz.func132 (cU _ _ _ (HR.out.ext hW))
 refine qZ ?_;refine wps he0 (fun w1 hW hG=>?_) fun x3=>?_
 ·exact spc [RH.v ⟨neg',ao',n',c',bo',m',d'⟩] Tryz.func132 (cU _ _ _ (KR.out.ext hW))
 refine qZ ?_;refine aW rfl rfl (fun w=>by simp [execOp,go_sem,ptr]) (fun b4 hb4 hl4=>?_);refine qZ ?_;refine aW rfl rfl (fun w=>by simp [execOp,go_sem,ptr]) (fun b5 hb5 hl5=>?_);refine qZ ?_;refine aq ?_;intro w1 hI;have G1:=gT (hI.facts 1);have G3:=gT (hI.facts 3);have A4:Hid (w1.heap[b4]?=some (.cells #[.bool false,.slice none 0 0,.slice none 0 0,.bool false] 172 (0,0))):=hI.facts 4;rw [hz0] at hl4
 (try simp only [nXc] at hl4)
 have hv4:b4<w1.heap.size:=(nXb.1 A4.out).1;have A5:Hid (w1.heap[b5]?=some (.cells #[.bool false,.slice none 0 0,.slice none 0 0,.bool false] 172 (0,0))):=hI.facts 5;rw [hz0] at hl5
 (try simp only [nXc] at hl5)
 have hv5:b5<w1.heap.size:=(nXb.1 A5.out).1;have HX:=Hi (he0.out.trans hI.ext);have hX1:=Hi (he1.out.trans hI.ext);obtain ⟨hcw,hfw⟩:=ak (he1.out.trans hI.ext);have hsw:=(he1.out.trans hI.ext).size
 (try simp only [nXc] at hsw)
 have hs0:w.heap.size<w1.heap.size:=zo;have hs1:w.heap.size+1<w1.heap.size:=zo;have hs2:w.heap.size+2<w1.heap.size:=zo;have hB:=(he1.out.trans hI.ext).block (heap_alloc_new _ _);rw [nXc,nXc] at hB;have HB:Hid (w1.heap[w.heap.size+2]?=some _):=Hi hB;clear hB;clear hI he0 he1 hz0 hc0 hf0;simp only [pD,ptr];obtain ⟨⟨xneg,xa,xn,xc,xb,xm,xd⟩,xw⟩:=x1;obtain ⟨⟨yneg,ya,yn,yc,yb,ym,yd⟩,yw⟩:=x3;simp only [NV];have hne:b5≠b4:=fun h=>hb5 (Or.inl h)
 have cA:=ae A4.out;have cB:=ae A5.out;have fA:=af A4.out;have fB:=af A5.out
 go_upto_region 2 with fail
 obtain ⟨w2,hw2,T2⟩:=eF HX.out A4.out A5.out hne zo zo (⟨xneg,xa,xn,xc,xb,xm,xd⟩,xw) (⟨yneg,ya,yn,yc,yb,ym,yd⟩,yw)
 change Code.wp _ _ _ _ (stN (stN w1 b4 (⟨xneg,xa,xn,xc,xb,xm,xd⟩,xw)) b5 (⟨yneg,ya,yn,yc,yb,ym,yd⟩,yw))
 rw [←hw2];have HB2:=Hi (T2.rest _ _ zo zo HB.out);obtain ⟨ds,es,hU,kU,hq,hz,h1,hn,hm⟩:=G1.out.keep T2.keep;obtain ⟨ds',es',hU',kU',hq',hz',h1',hn',hm'⟩:=G3.out.keep T2.keep;simp only at hU kU hq h1 hn hm hU' kU' hq' h1' hn' hm';have HU:=Hi hU;have KU:=Hi kU;have HU':=Hi hU';have KU':=Hi kU';have HQ:=Hi hq;have HQ':=Hi hq';have H1:=Hi h1;have H1':=Hi h1';have E:=Hi T2.ext;have B4:=Hi T2.bx;have B5:=Hi T2.cy;have hv4:=T2.size;clear hw2 hU kU hq h1 hU' kU' hq' h1' T2 G1 G3 HX HB A4 A5 cA cB fA fB hb4 hb5 hcw hfw;have cA:=ae B4.out;have cB:=ae B5.out;simp only [gt] at cA cB;have hz4:b4<w2.heap.size:=zo;have hz5:b5<w2.heap.size:=zo;have hs0:w.heap.size<w2.heap.size:=zo;have hs1:w.heap.size+1<w2.heap.size:=zo;have hs2:w.heap.size+2<w2.heap.size:=zo;have HB:=HB2;clear HB2;have cR:=ae HB.out;have fR:=af HB.out;have cR2:=ae (B:=w.heap.size+1+1) HB.out;have fR2:=af (B:=w.heap.size+1+1) HB.out;have hzz:=Rat.mkRat_mul_mkRat (sg xneg (val ds)) (sg yneg (val ds')) (val es) (val es');rw [←HQ.out,←HQ'.out] at hzz;have HZZ:=Hi hzz;clear hzz
 go_wp2_with fail
 refine cM (fM ⟨xneg,xa,xn,xc⟩ ⟨yneg,ya,yn,yc⟩ _ _ _ ⟨ds,HU.out,rfl,by simp only;omega⟩ ⟨ds',HU'.out,rfl,by simp only;omega⟩) fun x4 w4 hE G4=>?_
 obtain ⟨hcw,hfw⟩:=ak hE;have hsw:=hE.size
 (try simp only [nXc] at hsw)
 have hs0:w.heap.size<w4.heap.size:=zo;have hs1:w.heap.size+1<w4.heap.size:=zo;have hs2:w.heap.size+2<w4.heap.size:=zo;have hzb4:b4<w4.heap.size:=zo;have hzb5:b5<w4.heap.size:=zo;replace HB:=hE.bl HB;have cR:=ae HB.out;have fR:=af HB.out;have cR2:=ae (B:=w.heap.size+1+1) HB.out;have fR2:=af (B:=w.heap.size+1+1) HB.out;have E4:=Hi ((E.out).trans hE);have X4:=Hi hE
 go_upto_region 3 with fail
 obtain ⟨b6,hb6⟩:∃ b6,b6=w4.heap.size:=⟨_,rfl⟩;obtain ⟨w5,hw5⟩:∃ w5,w5=w4.alloc (.cells #[.bool x4.neg,.slice x4.a x4.n x4.c] 35):=⟨_,rfl⟩;rw [←hw5,←hb6];have hE5:Ext w4 w5:=by rw [hw5];exact Ext.alloc _ _
 have B6:Hid (w5.heap[b6]?=some (.cells #[.bool x4.neg,.slice x4.a x4.n x4.c] 35 (0,0))):=Hi (by rw [hw5,hb6];exact heap_alloc_new _ _);have hz6:b6<w5.heap.size:=(nXb.1 B6.out).1;have X5:=Hi hE5;have E5:=Hi (E4.out.trans hE5);have G5:=Hi (G4.out.ext hE5);replace HB:=Hi (hE5.block HB.out);obtain ⟨hcw,hfw⟩:=ak hE5;have hsw:=hE5.size;clear hw5 hb6 hE5 G4;have cC:=ae B6.out;have cR:=ae HB.out;have fR:=af HB.out;have cR2:=ae (B:=w.heap.size+1+1) HB.out;have fR2:=af (B:=w.heap.size+1+1) HB.out;have hz4:b4<w5.heap.size:=zo;have hz5:b5<w5.heap.size:=zo;have hs2:w.heap.size+2<w5.heap.size:=zo;by_cases hw:xw=true∧yw=true
 ·obtain ⟨rfl,rfl⟩:=hw
  go_wp2_with fail
  refine cM (iS _ _ _ G5.out) fun x6 w6 hE G6=>?_
  obtain ⟨hcw,hfw⟩:=ak hE;have hsw:=hE.size
  (try simp only [nXc] at hsw)
  have hs0:w.heap.size<w6.heap.size:=zo;have hs1:w.heap.size+1<w6.heap.size:=zo;have hs2:w.heap.size+2<w6.heap.size:=zo;have hzb4:b4<w6.heap.size:=zo;have hzb5:b5<w6.heap.size:=zo;have hzb6:b6<w6.heap.size:=zo;replace HB:=hE.bl HB;have cR:=ae HB.out;have fR:=af HB.out;have cR2:=ae (B:=w.heap.size+1+1) HB.out;have fR2:=af (B:=w.heap.size+1+1) HB.out;have E6:=Hi ((E5.out).trans hE);have X6:=Hi hE;have hqr:((sg xneg (val ds)*sg yneg (val ds'):Int):Rat)=q*r:=by
   rw [HZZ.out,H1.out (by first|rfl|trivial),H1'.out (by first|rfl|trivial)];simp [Rat.mkRat_one]
  rw [hqr] at G6;clear hqr;have HX:=E6;go_wp2;have hF:=((((Fin.start (L:=w.heap.size+2) HX.out (ai HB.out rfl)).set zo (i:=0) (v:=.bool x6.neg) rfl).set zo (i:=1) (v:=.slice x6.a x6.n x6.c) rfl).set zo (i:=2) (v:=.slice x6.b x6.m x6.d) rfl);exact nXa (v:=x6.v) (by simp [results,Tryz.results108,go_sem,ae HB.out]) rfl ⟨x6,rfl,hF.ext,G6.out.keep hF.keep⟩
 ·have hcase:xw=false∨(xw=true∧yw=false):=by cases xw <;> cases yw <;> simp_all
  clear hw;rcases hcase with rfl|⟨rfl,rfl⟩
  all_goals
   go_wp2;refine ah 10 (fun opIx=>match opIx with
    | 7=>sD (val es*val es')
    | 9=>sR (q*r)
    | _=>.quiet) (fun|9=>[7]|_=>[]) kZ kZ (fun w0 he0 hz0 hc0 hf0=>?_)
   have he1:=Hi he0;replace he0:=Hi (((X4.out.trans X5.out)).trans he0);simp only [pT];refine qQ ?_;refine wps he0 (fun w1 hW hG=>?_) fun x7=>?_
   ·exact spc [.slice xb xm xd,.slice yb ym yd] Tryz.func155 (mX ⟨xb,xm,xd⟩ ⟨yb,ym,yd⟩ _ _ _ (KU.out.ext hW) (KU'.out.ext hW) (by simp only;omega) (by simp only;omega))
   refine qZ ?_;refine bN rfl rfl (fun w1 hw1 hG=>?_) (fun x9=>?_)
   ·have hW:=he0.out.trans hw1;have g7:=gS (hG 7 dZ);exact spc [RH.v ⟨x4.neg,x4.a,x4.n,x4.c,x7.a,x7.n,x7.c⟩] Tryz.func154 (ez _ _ _ (xh.mk (G5.out.ext (he1.out.trans hw1)) g7 (by rw [HZZ.out,ag]) (by rw [ag];exact Nat.mul_ne_zero hz hz') (cK (iz HU.out _) (iz HU'.out _)) zo (by rw [←g7.len];exact nXf (bI (jc KU.out.vle KU'.out.vle)) zo)))
   refine qZ ?_;refine aq ?_;intro w1 hI;have G7:=gT (hI.facts 7);have G9:=gT (hI.facts 9);have HX:=Hi (he0.out.trans hI.ext);have hX1:=Hi (he1.out.trans hI.ext);obtain ⟨hcw,hfw⟩:=ak (he1.out.trans hI.ext);have hsw:=(he1.out.trans hI.ext).size
   (try simp only [nXc] at hsw)
   have hs0:w.heap.size<w1.heap.size:=zo;have hs1:w.heap.size+1<w1.heap.size:=zo;have hs2:w.heap.size+2<w1.heap.size:=zo;have hzb4:b4<w1.heap.size:=zo;have hzb5:b5<w1.heap.size:=zo;have hzb6:b6<w1.heap.size:=zo;replace HB:=Hi ((he1.out.trans hI.ext).block HB.out);have cR:=ae HB.out;have fR:=af HB.out;have cR2:=ae (B:=w.heap.size+1+1) HB.out;have fR2:=af (B:=w.heap.size+1+1) HB.out;clear hI he0 he1 hz0 hc0 hf0;simp only [pD];replace HX:=Hi (E.out.trans HX.out);go_wp2;have hF:=((((Fin.start (L:=w.heap.size+2) HX.out (ai HB.out rfl)).set zo (i:=0) (v:=.bool x9.neg) rfl).set zo (i:=1) (v:=.slice x9.a x9.n x9.c) rfl).set zo (i:=2) (v:=.slice x9.b x9.m x9.d) rfl);exact nXa (v:=x9.v) (by simp [results,Tryz.results108,go_sem,ae HB.out]) rfl ⟨x9,rfl,hF.ext,G9.out.keep hF.keep⟩
theorem bS(s t:RH)(q r:Rat)(w:World)(h:aX w s q)(k:aX w t r):ar 81 [s.v,t.v] w (fun _:Unit=>.int .i64 (cG q r)) (fun _ _=>True):=by
 have HR:=Hi h;have KR:=Hi k;obtain ⟨neg,ao,n,c,bo,m,d⟩:=s;obtain ⟨neg',ao',n',c',bo',m',d'⟩:=t;clear h k;unfold ar;go_enter Tryz.func81,Tryz.ntmps81;go_wp2;refine ah 6 (fun opIx=>match opIx with
  | 1=>.spec (RH×Bool) (default) (NV) (fun p w'=>j1 w' p q)
  | 3=>.spec (RH×Bool) (default) (NV) (fun p w'=>j1 w' p r)
  | 4=>.alloc 172 #[.bool false,.slice none 0 0,.slice none 0 0,.bool false]
  | 5=>.alloc 172 #[.bool false,.slice none 0 0,.slice none 0 0,.bool false]
  | _=>.quiet) (fun _=>[]) kZ kZ (fun w0 he0 hz0 hc0 hf0=>?_)
 have he1:=Hi he0;replace he0:=Hi ((Ext.al2).trans he0);simp only [pT];refine qQ ?_;refine wps he0 (fun w1 hW hG=>?_) fun x1=>?_
 ·exact spc [RH.v ⟨neg,ao,n,c,bo,m,d⟩] Tryz.func132 (cU _ _ _ (HR.out.ext hW))
 refine qZ ?_;refine wps he0 (fun w1 hW hG=>?_) fun x3=>?_
 ·exact spc [RH.v ⟨neg',ao',n',c',bo',m',d'⟩] Tryz.func132 (cU _ _ _ (KR.out.ext hW))
 refine qZ ?_;refine aW rfl rfl (fun w=>by simp [execOp,go_sem,ptr]) (fun b4 hb4 hl4=>?_);refine qZ ?_;refine aW rfl rfl (fun w=>by simp [execOp,go_sem,ptr]) (fun b5 hb5 hl5=>?_);refine qZ ?_;refine aq ?_;intro w1 hI;have G1:=gT (hI.facts 1);have G3:=gT (hI.facts 3);have A4:Hid (w1.heap[b4]?=some (.cells #[.bool false,.slice none 0 0,.slice none 0 0,.bool false] 172 (0,0))):=hI.facts 4;rw [hz0] at hl4
 (try simp only [nXc] at hl4)
 have hv4:b4<w1.heap.size:=(nXb.1 A4.out).1;have A5:Hid (w1.heap[b5]?=some (.cells #[.bool false,.slice none 0 0,.slice none 0 0,.bool false] 172 (0,0))):=hI.facts 5;rw [hz0] at hl5
 (try simp only [nXc] at hl5)
 have hv5:b5<w1.heap.size:=(nXb.1 A5.out).1;have HX:=Hi (he0.out.trans hI.ext);have hX1:=Hi (he1.out.trans hI.ext);obtain ⟨hcw,hfw⟩:=ak (he1.out.trans hI.ext);have hsw:=(he1.out.trans hI.ext).size
 (try simp only [nXc] at hsw)
 have hs0:w.heap.size<w1.heap.size:=zo;have hs1:w.heap.size+1<w1.heap.size:=zo;clear hI he0 he1 hz0 hc0 hf0;simp only [pD,ptr];obtain ⟨⟨xneg,xa,xn,xc,xb,xm,xd⟩,xw⟩:=x1;obtain ⟨⟨yneg,ya,yn,yc,yb,ym,yd⟩,yw⟩:=x3;simp only [NV];have hne:b5≠b4:=fun h=>hb5 (Or.inl h)
 have cA:=ae A4.out;have cB:=ae A5.out;have fA:=af A4.out;have fB:=af A5.out
 go_upto_region 2 with fail
 obtain ⟨w2,hw2,T2⟩:=eF HX.out A4.out A5.out hne zo zo (⟨xneg,xa,xn,xc,xb,xm,xd⟩,xw) (⟨yneg,ya,yn,yc,yb,ym,yd⟩,yw)
 change Code.wp _ _ _ _ (stN (stN w1 b4 (⟨xneg,xa,xn,xc,xb,xm,xd⟩,xw)) b5 (⟨yneg,ya,yn,yc,yb,ym,yd⟩,yw))
 rw [←hw2];obtain ⟨ds,es,hU,kU,hq,hz,h1,hn,hm⟩:=G1.out.keep T2.keep;obtain ⟨ds',es',hU',kU',hq',hz',h1',hn',hm'⟩:=G3.out.keep T2.keep;simp only at hU kU hq h1 hn hm hU' kU' hq' h1' hn' hm';have HU:=Hi hU;have KU:=Hi kU;have HU':=Hi hU';have KU':=Hi kU';have HQ:=Hi hq;have HQ':=Hi hq';have H1:=Hi h1;have H1':=Hi h1';have E:=Hi T2.ext;have B4:=Hi T2.bx;have B5:=Hi T2.cy;have hv4:=T2.size;clear hw2 hU kU hq h1 hU' kU' hq' h1' T2 G1 G3 HX A4 A5 cA cB fA fB hb4 hb5 hcw hfw;have cA:=ae B4.out;have cB:=ae B5.out;simp only [gt] at cA cB;have hz4:b4<w2.heap.size:=zo;have hz5:b5<w2.heap.size:=zo;have hs0:w.heap.size<w2.heap.size:=zo;have hs1:w.heap.size+1<w2.heap.size:=zo;have hzz:=pW (n1:=sg xneg (val ds)) (n2:=sg yneg (val ds')) hz hz';rw [←HQ.out,←HQ'.out] at hzz;have HZZ:=Hi hzz;clear hzz;by_cases hw:xw=true∧yw=true
 ·obtain ⟨rfl,rfl⟩:=hw
  go_wp2_with fail
  refine cM (rF ⟨xneg,xa,xn,xc⟩ ⟨yneg,ya,yn,yc⟩ _ _ _ ⟨ds,HU.out,rfl,by simp only;omega⟩ ⟨ds',HU'.out,rfl,by simp only;omega⟩) fun x4 w4 hE G4=>?_
  obtain ⟨hcw,hfw⟩:=ak hE;have hsw:=hE.size
  (try simp only [nXc] at hsw)
  have hs0:w.heap.size<w4.heap.size:=zo;have hs1:w.heap.size+1<w4.heap.size:=zo;have hzb4:b4<w4.heap.size:=zo;have hzb5:b5<w4.heap.size:=zo;have E4:=Hi ((E.out).trans hE);have X4:=Hi hE;go_wp2
  go_ret
  exact ⟨(),aZ (by rw [HZZ.out,H1.out (by first|rfl|trivial),H1'.out (by first|rfl|trivial),Int.natCast_one,Int.mul_one,Int.mul_one]),E4.out,trivial⟩
 ·have hcase:xw=false∨(xw=true∧yw=false):=by cases xw <;> cases yw <;> simp_all
  clear hw;rcases hcase with rfl|⟨rfl,rfl⟩
  all_goals
   go_wp2;refine ah 17 (fun opIx=>match opIx with
    | 6=>sU (IH.v ⟨false,yb,ym,yd⟩)
    | 7=>sI (sg xneg (val ds)*(val es':Nat))
    | 14=>sU (IH.v ⟨false,xb,xm,xd⟩)
    | 15=>sI (sg yneg (val ds')*(val es:Nat))
    | 16=>sU (.int .i64 (bU (sg xneg (val ds)*(val es':Nat)) (sg yneg (val ds')*(val es:Nat))))
    | _=>.quiet) (fun|16=>[7,15]|_=>[]) kZ kZ (fun w0 he0 hz0 hc0 hf0=>?_)
   have he1:=Hi he0;replace he0:=Hi (((Ext.refl w2)).trans he0);simp only [pT];refine qQ ?_;refine wps he0 (fun w1 hW hG=>?_) fun x6=>?_
   ·exact spc [.slice yb ym yd] Tryz.func135 (dM _ _ _ _)
   refine qZ ?_;refine wps he0 (fun w1 hW hG=>?_) fun x7=>?_
   ·exact spc [IH.v ⟨xneg,xa,xn,xc⟩,IH.v ⟨false,yb,ym,yd⟩] Tryz.func134 (fM _ _ _ _ _ ⟨ds,HU.out.ext hW,rfl,by simp only;omega⟩ ⟨es',KU'.out.ext hW,rfl,by simp only;omega⟩)
   refine qZ ?_;refine wps he0 (fun w1 hW hG=>?_) fun x14=>?_
   ·exact spc [.slice xb xm xd] Tryz.func135 (dM _ _ _ _)
   refine qZ ?_;refine wps he0 (fun w1 hW hG=>?_) fun x15=>?_
   ·exact spc [IH.v ⟨yneg,ya,yn,yc⟩,IH.v ⟨false,xb,xm,xd⟩] Tryz.func134 (fM _ _ _ _ _ ⟨ds',HU'.out.ext hW,rfl,by simp only;omega⟩ ⟨es,KU.out.ext hW,rfl,by simp only;omega⟩)
   refine qZ ?_;refine wps he0 (fun w1 hW hG=>?_) fun x16=>?_
   ·have g7:=gS (hG 7 dZ);have g15:=gS (hG 15 dZ);exact spc [x7.v,x15.v] Tryz.func133 (rF _ _ _ _ _ (g7.rawk (cK (iz HU.out _) KU'.out.vle) zo) (g15.rawk (cK (iz HU'.out _) KU.out.vle) zo))
   refine qZ ?_;refine aq ?_;intro w1 hI;have G7:=gT (hI.facts 7);have G15:=gT (hI.facts 15);have HX:=Hi (he0.out.trans hI.ext);have hX1:=Hi (he1.out.trans hI.ext);obtain ⟨hcw,hfw⟩:=ak (he1.out.trans hI.ext);have hsw:=(he1.out.trans hI.ext).size
   (try simp only [nXc] at hsw)
   have hs0:w.heap.size<w1.heap.size:=zo;have hs1:w.heap.size+1<w1.heap.size:=zo;have hzb4:b4<w1.heap.size:=zo;have hzb5:b5<w1.heap.size:=zo;clear hI he0 he1 hz0 hc0 hf0;simp only [pD];go_wp2
   go_ret
   exact ⟨(),aZ HZZ.out.symm,E.out.trans HX.out,trivial⟩
theorem we(A B:Int)(hB:B≠0):(A:Rat) / (B:Rat)=mkRat (sg (decide (A<0) != decide (B<0)) A.natAbs) B.natAbs:=by
 rw [Rat.mkRat_eq_div];rcases Int.lt_or_gt_of_ne hB with h|h
 ·have e1:((B.natAbs:Nat):Rat)=-(B:Rat):=by rw [←Rat.intCast_natCast,←Rat.intCast_neg];congr 1;omega
  have e2:sg (decide (A<0) != decide (B<0)) A.natAbs=-A:=by
   unfold sg;simp only [h,decide_true];by_cases ha:A<0 <;> simp [ha] <;> omega
  rw [e1,e2,Rat.intCast_neg];have hB':(B:Rat)≠0:=by intro h0;exact hB (Rat.intCast_eq_zero_iff.1 h0)
  grind
 ·have e1:((B.natAbs:Nat):Rat)=(B:Rat):=by rw [←Rat.intCast_natCast];congr 1;omega
  have hn:¬ B<0:=zo;have e2:sg (decide (A<0) != decide (B<0)) A.natAbs=A:=by
   unfold sg;simp only [hn,decide_false];by_cases ha:A<0 <;> simp [ha] <;> omega
  rw [e1,e2]
theorem xh.quo{w:World}{x y:IH}{A B:Int}{q:Rat}{k l:Nat}(hx:fG w x A)(hy:fG w y B)(hB:B≠0)(hq:q=mkRat (sg (decide (A<0) != decide (B<0)) A.natAbs) B.natAbs)(hA:A.natAbs<W32 ^ k)(hBl:B.natAbs<W32 ^ l)(hk:k≤1073741824)(hl:l≤1073741824):xh w ⟨x.neg != y.neg,x.a,x.n,x.c,y.a,y.n,y.c⟩ q :=
 ⟨_,_,hx.2,hy.2,by rw [hq,ag,ag,hx.1,hy.1],by rw [ag];omega,by rw [←hx.2.len];exact nXf (bI hA) hk,by rw [←hy.2.len];exact nXf (bI hBl) hl⟩
theorem D7{z1 z2:Int}{D1 D2:Nat}(h1:D1≠0)(h2:D2≠0)(hz:z2≠0):mkRat z1 D1 / mkRat z2 D2=((z1*D2:Int):Rat) / (((D1:Int)*z2:Int):Rat):=by
 rw [Rat.mkRat_eq_div,Rat.mkRat_eq_div,Rat.intCast_mul,Rat.intCast_mul,Rat.intCast_natCast,Rat.intCast_natCast];have a1:(D1:Rat)≠0:=by intro h0;exact h1 (Rat.natCast_eq_zero_iff.1 h0)
 have a2:(D2:Rat)≠0:=by intro h0;exact h2 (Rat.natCast_eq_zero_iff.1 h0)
 have a3:(z2:Rat)≠0:=by intro h0;exact hz (Rat.intCast_eq_zero_iff.1 h0)
 grind
theorem cx(s t:RH)(q r:Rat)(w:World)(h:aX w s q)(k:aX w t r)(hr:r≠0):ar 128 [s.v,t.v] w (fun s:RH=>.tuple #[s.v,.int .i64 0]) (fun s w'=>aA w' s (q / r)):=by
 have HR:=Hi h;have KR:=Hi k;obtain ⟨neg,ao,n,c,bo,m,d⟩:=s;obtain ⟨neg',ao',n',c',bo',m',d'⟩:=t;clear h k;unfold ar;go_enter Tryz.func128,Tryz.ntmps128;go_wp2;refine ah 6 (fun opIx=>match opIx with
  | 1=>.spec (RH×Bool) (default) (NV) (fun p w'=>j1 w' p q)
  | 3=>.spec (RH×Bool) (default) (NV) (fun p w'=>j1 w' p r)
  | 4=>.alloc 172 #[.bool false,.slice none 0 0,.slice none 0 0,.bool false]
  | 5=>.alloc 172 #[.bool false,.slice none 0 0,.slice none 0 0,.bool false]
  | _=>.quiet) (fun _=>[]) kZ kZ (fun w0 he0 hz0 hc0 hf0=>?_)
 have he1:=Hi he0;replace he0:=Hi ((Ext.al3).trans he0);simp only [pT];refine qQ ?_;refine wps he0 (fun w1 hW hG=>?_) fun x1=>?_
 ·exact spc [RH.v ⟨neg,ao,n,c,bo,m,d⟩] Tryz.func132 (cU _ _ _ (HR.out.ext hW))
 refine qZ ?_;refine wps he0 (fun w1 hW hG=>?_) fun x3=>?_
 ·exact spc [RH.v ⟨neg',ao',n',c',bo',m',d'⟩] Tryz.func132 (cU _ _ _ (KR.out.ext hW))
 refine qZ ?_;refine aW rfl rfl (fun w=>by simp [execOp,go_sem,ptr]) (fun b4 hb4 hl4=>?_);refine qZ ?_;refine aW rfl rfl (fun w=>by simp [execOp,go_sem,ptr]) (fun b5 hb5 hl5=>?_);refine qZ ?_;refine aq ?_;intro w1 hI;have G1:=gT (hI.facts 1);have G3:=gT (hI.facts 3);have A4:Hid (w1.heap[b4]?=some (.cells #[.bool false,.slice none 0 0,.slice none 0 0,.bool false] 172 (0,0))):=hI.facts 4;rw [hz0] at hl4
 (try simp only [nXc] at hl4)
 have hv4:b4<w1.heap.size:=(nXb.1 A4.out).1;have A5:Hid (w1.heap[b5]?=some (.cells #[.bool false,.slice none 0 0,.slice none 0 0,.bool false] 172 (0,0))):=hI.facts 5;rw [hz0] at hl5
 (try simp only [nXc] at hl5)
 have hv5:b5<w1.heap.size:=(nXb.1 A5.out).1;have HX:=Hi (he0.out.trans hI.ext);have hX1:=Hi (he1.out.trans hI.ext);obtain ⟨hcw,hfw⟩:=ak (he1.out.trans hI.ext);have hsw:=(he1.out.trans hI.ext).size
 (try simp only [nXc] at hsw)
 have hs0:w.heap.size<w1.heap.size:=zo;have hs1:w.heap.size+1<w1.heap.size:=zo;have hs2:w.heap.size+2<w1.heap.size:=zo;have hB:=(he1.out.trans hI.ext).block (heap_alloc_new _ _);rw [nXc,nXc] at hB;have HB:Hid (w1.heap[w.heap.size+2]?=some _):=Hi hB;clear hB;clear hI he0 he1 hz0 hc0 hf0;simp only [pD,ptr];obtain ⟨⟨xneg,xa,xn,xc,xb,xm,xd⟩,xw⟩:=x1;obtain ⟨⟨yneg,ya,yn,yc,yb,ym,yd⟩,yw⟩:=x3;simp only [NV];have hne:b5≠b4:=fun h=>hb5 (Or.inl h)
 have cA:=ae A4.out;have cB:=ae A5.out;have fA:=af A4.out;have fB:=af A5.out
 go_upto_region 2 with fail
 obtain ⟨w2,hw2,T2⟩:=eF HX.out A4.out A5.out hne zo zo (⟨xneg,xa,xn,xc,xb,xm,xd⟩,xw) (⟨yneg,ya,yn,yc,yb,ym,yd⟩,yw)
 change Code.wp _ _ _ _ (stN (stN w1 b4 (⟨xneg,xa,xn,xc,xb,xm,xd⟩,xw)) b5 (⟨yneg,ya,yn,yc,yb,ym,yd⟩,yw))
 rw [←hw2];have HB2:=Hi (T2.rest _ _ zo zo HB.out);obtain ⟨ds,es,hU,kU,hq,hz,h1,hn,hm⟩:=G1.out.keep T2.keep;obtain ⟨ds',es',hU',kU',hq',hz',h1',hn',hm'⟩:=G3.out.keep T2.keep;simp only at hU kU hq h1 hn hm hU' kU' hq' h1' hn' hm';have HU:=Hi hU;have KU:=Hi kU;have HU':=Hi hU';have KU':=Hi kU';have HQ:=Hi hq;have HQ':=Hi hq';have H1:=Hi h1;have H1':=Hi h1';have E:=Hi T2.ext;have B4:=Hi T2.bx;have B5:=Hi T2.cy;have hv4:=T2.size;clear hw2 hU kU hq h1 hU' kU' hq' h1' T2 G1 G3 HX HB A4 A5 cA cB fA fB hb4 hb5 hcw hfw;have cA:=ae B4.out;have cB:=ae B5.out;simp only [gt] at cA cB;have hz4:b4<w2.heap.size:=zo;have hz5:b5<w2.heap.size:=zo;have hs0:w.heap.size<w2.heap.size:=zo;have hs1:w.heap.size+1<w2.heap.size:=zo;have hs2:w.heap.size+2<w2.heap.size:=zo;have HB:=HB2;clear HB2;have cR:=ae HB.out;have fR:=af HB.out;have cR2:=ae (B:=w.heap.size+1+1) HB.out;have fR2:=af (B:=w.heap.size+1+1) HB.out;have hz2:sg yneg (val ds')≠0:=by
  intro h0;apply hr;rw [HQ'.out,h0,Rat.zero_mkRat]
 have hzz:=D7 (z1:=sg xneg (val ds)) (z2:=sg yneg (val ds')) hz hz' hz2;rw [←HQ.out,←HQ'.out] at hzz;have hB0:((val es:Nat):Int)*sg yneg (val ds')≠0:=Int.mul_ne_zero zo hz2;rw [we _ _ hB0] at hzz;have HZZ:=Hi hzz;have HB0:=Hi hB0;have hcs:(bU (sg yneg (val ds')) 0 == 0)=false:=by
  unfold bU;split
  ·rfl
  ·rfl
 clear hzz hB0;have Hz2:=Hi hz2;clear hz2
 go_wp2_with fail
 refine cM (cj ⟨yneg,ya,yn,yc⟩ _ _ ⟨ds',HU'.out,rfl,by simp only;omega⟩) fun x4 w4 hE G4=>?_
 obtain ⟨hcw,hfw⟩:=ak hE;have hsw:=hE.size
 (try simp only [nXc] at hsw)
 have hs0:w.heap.size<w4.heap.size:=zo;have hs1:w.heap.size+1<w4.heap.size:=zo;have hs2:w.heap.size+2<w4.heap.size:=zo;have hzb4:b4<w4.heap.size:=zo;have hzb5:b5<w4.heap.size:=zo;replace HB:=hE.bl HB;have cR:=ae HB.out;have fR:=af HB.out;have cR2:=ae (B:=w.heap.size+1+1) HB.out;have fR2:=af (B:=w.heap.size+1+1) HB.out;have E4:=Hi ((E.out).trans hE);have X4:=Hi hE;go_wp2;refine ah 9 (fun opIx=>match opIx with
  | 6=>sU (IH.v ⟨false,yb,ym,yd⟩)
  | 7=>sI (sg xneg (val ds)*(val es':Nat))
  | 8=>.alloc 35 #[.bool false,.slice none 0 0]
  | _=>.quiet) (fun _=>[]) kZ kZ (fun w0 he0 hz0 hc0 hf0=>?_)
 have he1:=Hi he0;replace he0:=Hi ((X4.out).trans he0);simp only [pT];refine qQ ?_;refine wps he0 (fun w1 hW hG=>?_) fun x6=>?_
 ·exact spc [.slice yb ym yd] Tryz.func135 (dM _ _ _ _)
 refine qZ ?_;refine wps he0 (fun w1 hW hG=>?_) fun x7=>?_
 ·exact spc [IH.v ⟨xneg,xa,xn,xc⟩,IH.v ⟨false,yb,ym,yd⟩] Tryz.func134 (fM _ _ _ _ _ ⟨ds,HU.out.ext hW,rfl,by simp only;omega⟩ ⟨es',KU'.out.ext hW,rfl,by simp only;omega⟩)
 refine qZ ?_;refine aW rfl rfl (fun w=>by simp [execOp,go_sem,ptr]) (fun b8 hb8 hl8=>?_);refine qZ ?_;refine aq ?_;intro w1 hI;have G7:=gT (hI.facts 7);have A8:Hid (w1.heap[b8]?=some (.cells #[.bool false,.slice none 0 0] 35 (0,0))):=hI.facts 8;rw [hz0] at hl8
 (try simp only [nXc] at hl8)
 have hv8:b8<w1.heap.size:=(nXb.1 A8.out).1;have HX:=Hi (he0.out.trans hI.ext);have hX1:=Hi (he1.out.trans hI.ext);obtain ⟨hcw,hfw⟩:=ak (he1.out.trans hI.ext);have hsw:=(he1.out.trans hI.ext).size
 (try simp only [nXc] at hsw)
 have hs0:w.heap.size<w1.heap.size:=zo;have hs1:w.heap.size+1<w1.heap.size:=zo;have hs2:w.heap.size+2<w1.heap.size:=zo;have hzb4:b4<w1.heap.size:=zo;have hzb5:b5<w1.heap.size:=zo;replace HB:=Hi ((he1.out.trans hI.ext).block HB.out);have cR:=ae HB.out;have fR:=af HB.out;have cR2:=ae (B:=w.heap.size+1+1) HB.out;have fR2:=af (B:=w.heap.size+1+1) HB.out;clear hI he0 he1 hz0 hc0 hf0;simp only [pD,ptr];have cCb8:=ae A8.out;have fCb8:=af A8.out
 go_upto_region 5 with fail
 obtain ⟨w5,hw5,Tw5⟩:=pB HX.out A8.out zo x7
 change Code.wp _ _ _ _ (stI w1 b8 x7)
 rw [←hw5];replace HB:=Hi (Tw5.rest _ _ zo HB.out);have HG8:=Hi (G7.out.keep Tw5.keep);have HZ8:=Hi Tw5.ext;have B8:=Hi Tw5.bx;have hvw5:=Tw5.size;obtain ⟨hcw,hfw⟩:=ak Tw5.ext;clear hw5 G7 HX A8 cCb8 fCb8;have cCb8:=ae B8.out;have cR:=ae HB.out;have fR:=af HB.out;have cR2:=ae (B:=w.heap.size+1+1) HB.out;have fR2:=af (B:=w.heap.size+1+1) HB.out;have hz4:b4<w5.heap.size:=zo;have hz5:b5<w5.heap.size:=zo;have hzb8:b8<w5.heap.size:=zo;have hs2:w.heap.size+2<w5.heap.size:=zo;refine ah 9 (fun opIx=>match opIx with
  | 3=>sU (IH.v ⟨false,xb,xm,xd⟩)
  | 7=>sI ((val es:Nat)*sg yneg (val ds'))
  | 8=>.alloc 35 #[.bool false,.slice none 0 0]
  | _=>.quiet) (fun _=>[]) kZ kZ (fun w0 he0 hz0 hc0 hf0=>?_)
 have he1:=Hi he0;replace he0:=Hi ((HZ8.out).trans he0);simp only [pT];refine qQ ?_;refine wps he0 (fun w1 hW hG=>?_) fun x3=>?_
 ·exact spc [.slice xb xm xd] Tryz.func135 (dM _ _ _ _)
 refine qZ ?_;refine wps he0 (fun w1 hW hG=>?_) fun x9=>?_
 ·exact spc [IH.v ⟨false,xb,xm,xd⟩,IH.v ⟨yneg,ya,yn,yc⟩] Tryz.func134 (fM _ _ _ _ _ ⟨es,KU.out.ext hW,rfl,by simp only;omega⟩ ⟨ds',HU'.out.ext hW,rfl,by simp only;omega⟩)
 refine qZ ?_;refine aW rfl rfl (fun w=>by simp [execOp,go_sem,ptr]) (fun b9 hb9 hl9=>?_);refine qZ ?_;refine aq ?_;intro w1 hI;have G9:=gT (hI.facts 7);have A9:Hid (w1.heap[b9]?=some (.cells #[.bool false,.slice none 0 0] 35 (0,0))):=hI.facts 8;rw [hz0] at hl9
 (try simp only [nXc] at hl9)
 have hv9:b9<w1.heap.size:=(nXb.1 A9.out).1;have HX:=Hi (he0.out.trans hI.ext);have hX1:=Hi (he1.out.trans hI.ext);obtain ⟨hcw,hfw⟩:=ak (he1.out.trans hI.ext);have hsw:=(he1.out.trans hI.ext).size
 (try simp only [nXc] at hsw)
 have hs0:w.heap.size<w1.heap.size:=zo;have hs1:w.heap.size+1<w1.heap.size:=zo;have hs2:w.heap.size+2<w1.heap.size:=zo;have hzb4:b4<w1.heap.size:=zo;have hzb5:b5<w1.heap.size:=zo;have hzb8:b8<w1.heap.size:=zo;replace B8:=Hi ((he1.out.trans hI.ext).block B8.out);replace HB:=Hi ((he1.out.trans hI.ext).block HB.out);have cR:=ae HB.out;have fR:=af HB.out;have cR2:=ae (B:=w.heap.size+1+1) HB.out;have fR2:=af (B:=w.heap.size+1+1) HB.out;clear hI he0 he1 hz0 hc0 hf0;simp only [pD,ptr];have HG8:=Hi (HG8.out.ext hX1.out);have cCb9:=ae A9.out;have fCb9:=af A9.out
 go_upto_region 6 with fail
 obtain ⟨w6,hw6,Tw6⟩:=pB HX.out A9.out zo x9
 change Code.wp _ _ _ _ (stI w1 b9 x9)
 rw [←hw6];replace HB:=Hi (Tw6.rest _ _ zo HB.out);have HG9:=Hi (G9.out.keep Tw6.keep);have HZ9:=Hi Tw6.ext;have B9:=Hi Tw6.bx;have hvw6:=Tw6.size;obtain ⟨hcw,hfw⟩:=ak Tw6.ext;replace B8:=Hi (Tw6.rest _ _ zo B8.out);clear hw6 G9 HX A9 cCb9 fCb9;have cCb9:=ae B9.out;have cR:=ae HB.out;have fR:=af HB.out;have cR2:=ae (B:=w.heap.size+1+1) HB.out;have fR2:=af (B:=w.heap.size+1+1) HB.out;have hz4:b4<w6.heap.size:=zo;have hz5:b5<w6.heap.size:=zo;have hzb9:b9<w6.heap.size:=zo;have hs2:w.heap.size+2<w6.heap.size:=zo;have HG8:=Hi (HG8.out.keep Tw6.keep);have cC8:=ae B8.out;have hzb8:b8<w6.heap.size:=zo;clear Tw5 Tw6
 go_wp2_with fail
 refine cM (jK x7 x9 _) fun x10 w10 hE G10=>?_
 obtain ⟨hcw,hfw⟩:=ak hE;have hsw:=hE.size
 (try simp only [nXc] at hsw)
 have hs0:w.heap.size<w10.heap.size:=zo;have hs1:w.heap.size+1<w10.heap.size:=zo;have hs2:w.heap.size+2<w10.heap.size:=zo;have hzb4:b4<w10.heap.size:=zo;have hzb5:b5<w10.heap.size:=zo;have hzb8:b8<w10.heap.size:=zo;have hzb9:b9<w10.heap.size:=zo;replace HB:=hE.bl HB;have cR:=ae HB.out;have fR:=af HB.out;have cR2:=ae (B:=w.heap.size+1+1) HB.out;have fR2:=af (B:=w.heap.size+1+1) HB.out;have E10:=Hi ((E.out.trans HZ9.out).trans hE);have X10:=Hi hE
 go_wp2_with fail
 refine cM (ez ⟨x7.neg != x9.neg,x7.a,x7.n,x7.c,x9.a,x9.n,x9.c⟩ (q / r) _ (xh.quo (HG8.out.ext X10.out) (HG9.out.ext X10.out) HB0.out HZZ.out (cK (iz HU.out _) KU'.out.vle) (cK (k:=xm) KU.out.vle (iz HU'.out _)) zo zo)) fun x11 w11 hE G11=>?_
 obtain ⟨hcw,hfw⟩:=ak hE;have hsw:=hE.size
 (try simp only [nXc] at hsw)
 have hs0:w.heap.size<w11.heap.size:=zo;have hs1:w.heap.size+1<w11.heap.size:=zo;have hs2:w.heap.size+2<w11.heap.size:=zo;have hzb4:b4<w11.heap.size:=zo;have hzb5:b5<w11.heap.size:=zo;have hzb8:b8<w11.heap.size:=zo;have hzb9:b9<w11.heap.size:=zo;replace HB:=hE.bl HB;have cR:=ae HB.out;have fR:=af HB.out;have cR2:=ae (B:=w.heap.size+1+1) HB.out;have fR2:=af (B:=w.heap.size+1+1) HB.out;have E11:=Hi ((E10.out).trans hE);have X11:=Hi hE;have HX:=E11;go_wp2;have hF:=((((Fin.start (L:=w.heap.size+2) HX.out (ai HB.out rfl)).set zo (i:=0) (v:=.bool x11.neg) rfl).set zo (i:=1) (v:=.slice x11.a x11.n x11.c) rfl).set zo (i:=2) (v:=.slice x11.b x11.m x11.d) rfl);exact nXa (v:=.tuple #[x11.v,.int .i64 0]) (by simp [results,Tryz.results128,go_sem,ae HB.out]) rfl ⟨x11,rfl,hF.ext,G11.out.keep hF.keep⟩
theorem nZ(s t:RH)(q r:Rat)(w:World)(h:aX w s q)(k:aX w t r)(hr:r=0):ar 128 [s.v,t.v] w (fun _:Unit=>.tuple #[RH.v ⟨false,none,0,0,none,0,0⟩,.int .i64 3]) (fun _ _=>True):=by
 have HR:=Hi h;have KR:=Hi k;obtain ⟨neg,ao,n,c,bo,m,d⟩:=s;obtain ⟨neg',ao',n',c',bo',m',d'⟩:=t;clear h k;unfold ar;go_enter Tryz.func128,Tryz.ntmps128;go_wp2;refine ah 6 (fun opIx=>match opIx with
  | 1=>.spec (RH×Bool) (default) (NV) (fun p w'=>j1 w' p q)
  | 3=>.spec (RH×Bool) (default) (NV) (fun p w'=>j1 w' p r)
  | 4=>.alloc 172 #[.bool false,.slice none 0 0,.slice none 0 0,.bool false]
  | 5=>.alloc 172 #[.bool false,.slice none 0 0,.slice none 0 0,.bool false]
  | _=>.quiet) (fun _=>[]) kZ kZ (fun w0 he0 hz0 hc0 hf0=>?_)
 have he1:=Hi he0;replace he0:=Hi ((Ext.al3).trans he0);simp only [pT];refine qQ ?_;refine wps he0 (fun w1 hW hG=>?_) fun x1=>?_
 ·exact spc [RH.v ⟨neg,ao,n,c,bo,m,d⟩] Tryz.func132 (cU _ _ _ (HR.out.ext hW))
 refine qZ ?_;refine wps he0 (fun w1 hW hG=>?_) fun x3=>?_
 ·exact spc [RH.v ⟨neg',ao',n',c',bo',m',d'⟩] Tryz.func132 (cU _ _ _ (KR.out.ext hW))
 refine qZ ?_;refine aW rfl rfl (fun w=>by simp [execOp,go_sem,ptr]) (fun b4 hb4 hl4=>?_);refine qZ ?_;refine aW rfl rfl (fun w=>by simp [execOp,go_sem,ptr]) (fun b5 hb5 hl5=>?_);refine qZ ?_;refine aq ?_;intro w1 hI;have G1:=gT (hI.facts 1);have G3:=gT (hI.facts 3);have A4:Hid (w1.heap[b4]?=some (.cells #[.bool false,.slice none 0 0,.slice none 0 0,.bool false] 172 (0,0))):=hI.facts 4;rw [hz0] at hl4
 (try simp only [nXc] at hl4)
 have hv4:b4<w1.heap.size:=(nXb.1 A4.out).1;have A5:Hid (w1.heap[b5]?=some (.cells #[.bool false,.slice none 0 0,.slice none 0 0,.bool false] 172 (0,0))):=hI.facts 5;rw [hz0] at hl5
 (try simp only [nXc] at hl5)
 have hv5:b5<w1.heap.size:=(nXb.1 A5.out).1;have HX:=Hi (he0.out.trans hI.ext);have hX1:=Hi (he1.out.trans hI.ext);obtain ⟨hcw,hfw⟩:=ak (he1.out.trans hI.ext);have hsw:=(he1.out.trans hI.ext).size
 (try simp only [nXc] at hsw)
 have hs0:w.heap.size<w1.heap.size:=zo;have hs1:w.heap.size+1<w1.heap.size:=zo;have hs2:w.heap.size+2<w1.heap.size:=zo;have hB:=(he1.out.trans hI.ext).block (heap_alloc_new _ _);rw [nXc,nXc] at hB;have HB:Hid (w1.heap[w.heap.size+2]?=some _):=Hi hB;clear hB;clear hI he0 he1 hz0 hc0 hf0;simp only [pD,ptr];obtain ⟨⟨xneg,xa,xn,xc,xb,xm,xd⟩,xw⟩:=x1;obtain ⟨⟨yneg,ya,yn,yc,yb,ym,yd⟩,yw⟩:=x3;simp only [NV];have hne:b5≠b4:=fun h=>hb5 (Or.inl h)
 have cA:=ae A4.out;have cB:=ae A5.out;have fA:=af A4.out;have fB:=af A5.out
 go_upto_region 2 with fail
 obtain ⟨w2,hw2,T2⟩:=eF HX.out A4.out A5.out hne zo zo (⟨xneg,xa,xn,xc,xb,xm,xd⟩,xw) (⟨yneg,ya,yn,yc,yb,ym,yd⟩,yw)
 change Code.wp _ _ _ _ (stN (stN w1 b4 (⟨xneg,xa,xn,xc,xb,xm,xd⟩,xw)) b5 (⟨yneg,ya,yn,yc,yb,ym,yd⟩,yw))
 rw [←hw2];have HB2:=Hi (T2.rest _ _ zo zo HB.out);obtain ⟨ds,es,hU,kU,hq,hz,h1,hn,hm⟩:=G1.out.keep T2.keep;obtain ⟨ds',es',hU',kU',hq',hz',h1',hn',hm'⟩:=G3.out.keep T2.keep;simp only at hU kU hq h1 hn hm hU' kU' hq' h1' hn' hm';have HU:=Hi hU;have KU:=Hi kU;have HU':=Hi hU';have KU':=Hi kU';have HQ:=Hi hq;have HQ':=Hi hq';have H1:=Hi h1;have H1':=Hi h1';have E:=Hi T2.ext;have B4:=Hi T2.bx;have B5:=Hi T2.cy;have hv4:=T2.size;clear hw2 hU kU hq h1 hU' kU' hq' h1' T2 G1 G3 HX HB A4 A5 cA cB fA fB hb4 hb5 hcw hfw;have cA:=ae B4.out;have cB:=ae B5.out;simp only [gt] at cA cB;have hz4:b4<w2.heap.size:=zo;have hz5:b5<w2.heap.size:=zo;have hs0:w.heap.size<w2.heap.size:=zo;have hs1:w.heap.size+1<w2.heap.size:=zo;have hs2:w.heap.size+2<w2.heap.size:=zo;have HB:=HB2;clear HB2;have cR:=ae HB.out;have fR:=af HB.out;have cR2:=ae (B:=w.heap.size+1+1) HB.out;have fR2:=af (B:=w.heap.size+1+1) HB.out;have hz2:sg yneg (val ds')=0:=by
  have:=HQ'.out;rw [hr] at this;exact (Rat.mkRat_eq_zero hz').1 this.symm
 have Hz2:=Hi hz2;clear hz2
 go_wp2_with fail
 refine cM (cj ⟨yneg,ya,yn,yc⟩ _ _ ⟨ds',HU'.out,rfl,by simp only;omega⟩) fun x4 w4 hE G4=>?_
 obtain ⟨hcw,hfw⟩:=ak hE;have hsw:=hE.size
 (try simp only [nXc] at hsw)
 have hs0:w.heap.size<w4.heap.size:=zo;have hs1:w.heap.size+1<w4.heap.size:=zo;have hs2:w.heap.size+2<w4.heap.size:=zo;have hzb4:b4<w4.heap.size:=zo;have hzb5:b5<w4.heap.size:=zo;replace HB:=hE.bl HB;have cR:=ae HB.out;have fR:=af HB.out;have cR2:=ae (B:=w.heap.size+1+1) HB.out;have fR2:=af (B:=w.heap.size+1+1) HB.out;have E4:=Hi ((E.out).trans hE);have X4:=Hi hE;rw [Hz2.out,dH rfl];have HX:=E4;go_wp2;have hF:=((((Fin.start (L:=w.heap.size+2) HX.out (ai HB.out rfl)).set zo (i:=0) (v:=.bool false) rfl).set zo (i:=1) (v:=.slice none 0 0) rfl).set zo (i:=2) (v:=.slice none 0 0) rfl);exact nXa (v:=.tuple #[RH.v ⟨false,none,0,0,none,0,0⟩,.int .i64 3]) (by simp [results,Tryz.results128,go_sem,ae HB.out]) rfl ⟨(),rfl,hF.ext,trivial⟩
theorem i4(s t:RH)(q r:Rat)(w:World)(h:aX w s q)(k:aX w t r):ar 191 [s.v,t.v] w RH.v (fun s w'=>aA w' s (q-r)):=by
 have HR:=Hi h;have KR:=Hi k;obtain ⟨neg,ao,n,c,bo,m,d⟩:=s;obtain ⟨neg',ao',n',c',bo',m',d'⟩:=t;clear h k;rw [Rat.sub_eq_add_neg];unfold ar;go_enter Tryz.func191,Tryz.ntmps191;go_wp2;refine ah 4 (fun opIx=>match opIx with
  | 2=>sU (RH.v ⟨!neg',ao',n',c',bo',m',d'⟩)
  | 3=>sR (q+-r)
  | _=>.quiet) (fun _=>[]) kZ kZ (fun w0 he0 hz0 hc0 hf0=>?_)
 have he1:=Hi he0;replace he0:=Hi ((Ext.al3).trans he0);simp only [pT];refine qQ ?_;refine wps he0 (fun w1 hW hG=>?_) fun x2=>?_
 ·exact spc [RH.v ⟨neg',ao',n',c',bo',m',d'⟩] Tryz.func175 (rJ _ _)
 refine qZ ?_;refine wps he0 (fun w1 hW hG=>?_) fun x3=>?_
 ·exact spc [RH.v ⟨neg,ao,n,c,bo,m,d⟩,RH.v ⟨!neg',ao',n',c',bo',m',d'⟩] Tryz.func104 (dw _ _ _ _ _ (HR.out.ext hW) (KR.out.neg.ext hW))
 refine qZ ?_;refine aq ?_;intro w1 hI;have G3:=gT (hI.facts 3);have HX:=Hi (he0.out.trans hI.ext);have hX1:=Hi (he1.out.trans hI.ext);obtain ⟨hcw,hfw⟩:=ak (he1.out.trans hI.ext);have hsw:=(he1.out.trans hI.ext).size
 (try simp only [nXc] at hsw)
 have hs0:w.heap.size<w1.heap.size:=zo;have hs1:w.heap.size+1<w1.heap.size:=zo;have hs2:w.heap.size+2<w1.heap.size:=zo;have hB:=(he1.out.trans hI.ext).block (heap_alloc_new _ _);rw [nXc,nXc] at hB;have HB:Hid (w1.heap[w.heap.size+2]?=some _):=Hi hB;clear hB;clear hI he0 he1 hz0 hc0 hf0;simp only [pD];go_wp2;have hF:=((((Fin.start (L:=w.heap.size+2) HX.out (ai HB.out rfl)).set zo (i:=0) (v:=.bool x3.neg) rfl).set zo (i:=1) (v:=.slice x3.a x3.n x3.c) rfl).set zo (i:=2) (v:=.slice x3.b x3.m x3.d) rfl);exact nXa (v:=x3.v) (by simp [results,Tryz.results191,go_sem,ae HB.out]) rfl ⟨x3,rfl,hF.ext,G3.out.keep hF.keep⟩
end Go.Proofs.YtkcpmclnocmalaaGreat
