import Derived.Test.YtkcpmclnocmalaaGreatQMM1
import Derived.IntWalk
set_option linter.unusedVariables false
set_option maxRecDepth 8000
set_option maxHeartbeats 4000000
namespace Go.Proofs.YtkcpmclnocmalaaGreat
open Go.RowKit Go.Front Go.Num
attribute [local go_sem] XW.cell XW.frozen
def xq(q r:List Nat)(w:World)(e:Ending)(w':World):Prop :=
 ∃ ao n ac bo m bc,e=.returned (.tuple #[.slice ao n ac,.slice bo m bc])∧U32 w' ao n ac q∧U32 w' bo m bc r∧Ext w w'
structure D1 (x:List Nat) (y Q:Nat) (w wr:World) (i r:Nat):Prop where
 ext:Ext w wr
 le:i≤x.length
 db:∃ os,DB wr Q (List.replicate i 0++os) #[]∧os.length=x.length-i∧Dig os∧val os*y+r=val (x.drop i)
 r1:r<y
theorem D1.next{x:List Nat}{y Q:Nat}{w wr:World}{i r d:Nat}(h:D1 x y Q w wr (i+1) r)(hQ:w.heap.size≤Q)(hy:y<4294967296)(hd:d=x.getD i 0)(hdl:d<4294967296) :
  D1 x y Q w (wr.setCell ⟨Q,i,none⟩ (.int .u32 (((r*4294967296+d) / y:Nat):Int))) i ((r*4294967296+d) % y)∧(r*4294967296+d) / y<4294967296:=by
 obtain ⟨os,h1,h2,h3,h4⟩:=h.db;have hr:=h.r1;have hi:i<x.length:=h.le;have hy0:0<y:=zo;have hq:(r*4294967296+d) / y<4294967296:=by
  rw [Nat.div_lt_iff_lt_mul hy0];have:=nXh 4294967296 (show r+1≤y by omega);rw [nYf 4294967296 y];omega
 have e0:val (x.drop i)=d+4294967296*val (x.drop (i+1)):=by
  rw [List.drop_eq_getElem_cons hi,val,hd];simp [hi,W32]
 refine ⟨⟨Ext.set h.ext hQ _,nYm hi,⟨_ :: os,?_,by simp [h2];omega,Dig.cons hq h3,?_⟩,Nat.mod_lt _ hy0⟩,hq⟩
 ·have h5:=h1.set (i:=i) (by simp;omega) ((r*4294967296+d) / y);rw [jV] at h5;exact h5
 ·rw [val,e0,←h4];have e:=Nat.div_add_mod (r*4294967296+d) y;have e2:W32*val os*y=4294967296*(val os*y):=by rw [Nat.mul_assoc];rfl
  rw [Nat.add_mul,e2,nYf _ y];omega
structure DL (x:List Nat) (U V n m L Q:Nat) (v:List Nat) (vo:Option Addr) (w wr:World) (j:Nat):Prop where
 mods:aL (fun k=>k=L∨k=Q) w wr
 u:∃ us,DB wr L us #[]∧us.length=n+1∧Dig us∧val (us.drop j)<V∧∃ qs,DB wr Q (List.replicate j 0++qs) #[]∧qs.length=n-m+1-j∧Dig qs∧W32 ^ j*val qs*V+val us=U
theorem bT{a b:Nat}(h:a≤b):(digs a).length≤(digs b).length:=by
 apply bI;have:=bE (cF b);rw [ag] at this;omega
theorem ti(ao bo:Option Addr)(n ac m bc X Y:Nat)(w:World)(ha:U32 w ao n ac (digs X))(hb:U32 w bo m bc (digs Y))(hY:Y≠0)(hn:n≤4294967296)(hle:Y≤X)(hm1:m=1) :
  Calls Tryz.prog 204 #[.slice ao n ac,.slice bo m bc] w (xq (digs (X / Y)) (digs (X % Y)) w):=by
 obtain ⟨i0,hi0,hz0,hz1,hz2⟩:=info_parts eO;have HA:=Hi ha;have HB:=Hi hb;have han:=ha.len;have hbm:=hb.len;have hm0:0<m:=by
  rw [←hbm];rcases Nat.eq_zero_or_pos (digs Y).length with h|h
  ·exact absurd (bD.1 (nXj.1 h)) hY
  ·exact h
 obtain ⟨x,hx⟩:∃ x,x=digs X:=⟨_,rfl⟩;obtain ⟨y,hy⟩:∃ y,y=digs Y:=⟨_,rfl⟩;have hvx:val x=X:=by rw [hx,ag]
 have hvy:val y=Y:=by rw [hy,ag]
 rw [←hx] at han;rw [←hy] at hbm;have HXe:=Hi hx;have HYe:=Hi hy;have HVX:=Hi hvx;have HVY:=Hi hvy;have HAn:=Hi han;have HBm:=Hi hbm;have hmn:m≤n:=by rw [←hbm,←han,hx,hy];exact bT hle
 clear ha hb hx hy hvx hvy han hbm;obtain ⟨c,hc0,hce⟩:∃ c:Int,0≤c∧bU (X:Nat) (Y:Nat)=c:=⟨_,by unfold bU;split <;> (try split) <;> omega,rfl⟩;have hcd:decide (c<0)=false:=by simp;omega
 have Hce:=Hi hce;clear hce;have hm1b:((m:Int) == 1)=true:=by rw [beq_iff_eq];omega
 obtain ⟨yb,boff,y0,hbo,hcy,hy0,hyl⟩:=HB.out.at (k:=0) zo;subst hbo;rw [Nat.add_zero] at hcy;have hYy:Y=y0:=by
  have h1:=HB.out.len;have h2:=ag Y;rw [hm1] at h1
  match hdy:digs Y,h1,h2,hy0 with
  | [d],_,h2,hy0=>simp [val] at h2 hy0;omega
 subst hYy;clear hy0;have HM1:=Hi hm1;clear hm1;have hy0b:((Y:Int) == 0)=false:=by simp;omega
 go_enter Tryz.func204,Tryz.ntmps204
 go_wp2_with fail
 refine (dQ _ _ _ _ _ _ _ _ _ HA.out HB.out).mono ?_;rintro e w1 ⟨rfl,hE⟩;rw [ag,ag,Hce.out];have HE:=Hi hE;clear hE Hce
 go_wp2_with (refine aB rfl (.tmp 27) (.tmp 27) 33 rfl 124 i0 (.int .u32 0) 1 Tryz.underlying33 hi0 hz0 hz1 _ _ (n-m+1) rfl rfl (by simp;omega) (by simp;omega) (by rw [hz2];omega) zo ?_;intro w2 hnew hE2;replace hnew:=Hi hnew;replace hE2:=Hi hE2)
 have hDB:=DB.make rfl hnew.out;have hE2:=hE2.out;have hQ2:w1.heap.size<w2.heap.size:=(nXb.1 hDB).1;have hyb:yb<w1.heap.size:=nXq _ _ (HE.out.cell hcy);have hyne:yb≠w1.heap.size:=zo;have I0:D1 x Y w1.heap.size w1 w2 n 0:=⟨hE2,by rw [HAn.out];exact nXe _,⟨[],by rw [show n-m+1=n by have:=HM1.out;omega] at hDB;simpa using hDB,by rw [HAn.out];simp,Dig.nil,by rw [List.drop_of_length_le (by rw [HAn.out];exact nXe _)];simp [val]⟩,zo⟩;have HI0:=Hi I0;clear I0 hDB hE2 hnew;go_wp2
 go_loopg [8,9] n (fun g r i wr=>∃ k:Nat,i=.int .i64 ((g:Int)-1)∧r=.int .u64 (k:Nat)∧g≤n∧D1 x Y w1.heap.size w1 wr g k)
 case atStart=>exact ⟨0,by go_num,rfl,nXe _,HI0.out⟩
 case round =>
  obtain ⟨k,rfl,rfl,hg,hI⟩:=hrel;have hkr:=hI.r1;have HI:=Hi hI;clear hI HI0;by_cases h0:gk=0
  ·subst h0;obtain ⟨os,h1,h2,h3,h4⟩:=HI.out.db;rw [List.replicate_zero,List.nil_append] at h1;rw [List.drop_zero,HVX.out] at h4;have hU:U32 wr (some ⟨w1.heap.size,0,none⟩) (n-m+1) (n-m+1) os:=h1.u32 (by rw [h2,HAn.out];have:=HM1.out;omega) (nXe _) zo h3;have HU:=Hi hU;have hq:val os=X / Y∧k=X % Y:=dP (q:=val os) (O:=k) (U:=X) zo (by rw [Nat.add_mul];omega) zo;have HQ:=Hi hq;clear h1 h2 h3 h4 hU hq
   go_wp2_with fail
   refine (bJ _ _ _ _ _ HU.out).mono ?_;rintro e w3 ⟨rfl,rfl⟩
   go_wp2_with fail
   have hk4:k<4294967296:=zo;have hU2:U32 (wr.alloc (.cells #[.int .u32 (k:Int)] 124)) (some ⟨wr.heap.size,0,none⟩) 1 1 [k]:=(show DB _ _ [k] #[] from heap_alloc_new wr _).u32 rfl (nXe _) dZ (Dig.cons hk4 Dig.nil);have HU2:=Hi hU2;clear hU2;refine (bJ _ _ _ _ _ HU2.out).mono ?_;rintro e w3 ⟨rfl,rfl⟩;go_wp2
   go_ret2
   have h1:=(HU.out.ext (Ext.alloc _ (.cells #[.int .u32 (k:Int)] 124))).digs;have h2:=HU2.out.digs;refine ⟨_,_,_,_,_,_,rfl,by rw [←HQ.out.1];exact h1,by rw [←HQ.out.2];simpa [val] using h2,(HE.out.trans HI.out.ext).trans (Ext.alloc _ _)⟩
  ·obtain ⟨g1,rfl⟩:∃ g1,gk=g1+1:=⟨gk-1,zo⟩;clear h0;obtain ⟨b,off,d,hao,hc,hd,hdl⟩:=HA.out.at (k:=g1) zo;subst hao;replace hc:=(HE.out.trans HI.out.ext).cell hc;replace hcy:=(HE.out.trans HI.out.ext).cell hcy;rw [←HXe.out] at hd;have hcL:∃ z,wr.cell? ⟨w1.heap.size,g1,none⟩=some (.int .u32 z):=by obtain ⟨os,h,h2,_⟩:=HI.out.db;exact ⟨_,h.cell (by simp;omega)⟩
   obtain ⟨z,hcL⟩:=hcL;have hfL:wr.frozen? ⟨w1.heap.size,g1,none⟩=false:=by obtain ⟨os,h,h2,_⟩:=HI.out.db;exact h.frozen _
   have Hd:=Hi hd;clear hd;have hor:=kH (show k<4294967296 by omega) hdl;have hgi:g1<n-m+1:=by have:=HM1.out;omega
   go_wp2
   go_roundg g1
   case measure=>omega
   case rel =>
    have hnx:=HI.out.next (nXe _) zo Hd.out hdl;have e1:((k:Int)*4294967296+d) % Y=(((k*4294967296+d) % Y:Nat):Int):=by simp
    have e2:((k:Int)*4294967296+d) / Y % 4294967296=(((k*4294967296+d) / Y:Nat):Int):=by
     have h:=hnx.2;rw [show (k:Int)*4294967296+d=((k*4294967296+d:Nat):Int) by omega,←Int.natCast_ediv];generalize (k*4294967296+d) / Y=a at h ⊢;omega
    rw [e1,e2];exact ⟨_,rfl,rfl,zo,hnx.1⟩
theorem DL.next{x:List Nat}{U V n m L Q:Nat}{v:List Nat}{vo:Option Addr}{w wr:World}{j:Nat}(h:DL x U V n m L Q v vo w wr (j+1))(hj:j+m≤n)(hV:V<W32 ^ m)(hLQ:L≠Q) :
  ∃ pre seg post,DB wr L (pre++(seg++post)) #[]∧pre.length=j∧seg.length=m+1∧Dig seg∧val seg<W32*V∧∀ w' rs,DB w' L (pre++(rs++post)) #[]→rs.length=seg.length→Dig rs→val rs=val seg % V→aL (·=L) wr w' →
   DL x U V n m L Q v vo w (w'.setCell ⟨Q,j,none⟩ (.int .u32 ((val seg / V:Nat):Int))) j∧∃ z,w'.cell? ⟨Q,j,none⟩=some (.int .u32 z)∧w'.frozen? ⟨Q,j,none⟩=false:=by
 obtain ⟨us,h1,h2,h3,h4,qs,h5,h6,h7,h8⟩:=h.u;have hV0:0<V:=zo;have hju:j<us.length:=zo;have e0:val (us.drop j)=us.getD j 0+W32*val (us.drop (j+1)):=by
  rw [List.drop_eq_getElem_cons hju,val];simp [hju]
 have hd:=h3.at j;have hlt:val (us.drop j)<W32*V:=by
  have:=nXg W32 (show val (us.drop (j+1))+1≤V by omega);rw [Nat.mul_add] at this;omega
 have hsplit:=bY (us.drop j) (m+1) (by simp;omega);have hVW:W32*V<W32 ^ (m+1):=by rw [nXu,nYf];exact Nat.mul_lt_mul_of_pos_right hV aI
 have hp0:val ((us.drop j).drop (m+1))=0:=by
  rcases Nat.eq_zero_or_pos (val ((us.drop j).drop (m+1))) with h|h
  ·exact h
  ·have:=nXg (W32 ^ (m+1)) h;omega
 rw [hp0,Nat.mul_zero,Nat.add_zero] at hsplit;have hus:us=us.take j++((us.drop j).take (m+1)++(us.drop j).drop (m+1)):=by rw [List.take_append_drop,List.take_append_drop]
 have hpl:(us.take j).length=j:=by simp;omega
 have hsl:((us.drop j).take (m+1)).length=m+1:=by simp;omega
 refine ⟨us.take j,(us.drop j).take (m+1),(us.drop j).drop (m+1),by rw [←hus];exact h1,hpl,hsl,(h3.drop j).take _,zo,?_⟩;intro w' rs g1 g2 g3 g4 g5;have hQw:DB w' Q (List.replicate (j+1) 0++qs) #[]:=g5.blk (fun h=>hLQ h.symm) h5;have hq1:val ((us.drop j).take (m+1)) / V<W32:=by rw [Nat.div_lt_iff_lt_mul hV0];omega
 generalize hseg:(us.drop j).take (m+1)=seg at *
 generalize hpost:(us.drop j).drop (m+1)=post at *
 refine ⟨⟨h.mods.trans ((g5.mono (fun k hk=>Or.inl hk)).trans ((aL.setCell w' ⟨Q,j,none⟩ _).mono (fun k hk=>Or.inr hk))),us.take j++(rs++post),?_,?_,?_,?_,(val seg / V) :: qs,?_,?_,Dig.cons hq1 h7,?_⟩,_,hQw.cell (by simp;omega),hQw.frozen _⟩
 ·exact (aL.setCell w' ⟨Q,j,none⟩ _).blk hLQ g1
 ·rw [nXi,nXi,g2,←nXi,←nXi,←hus];exact h2
 ·exact (h3.take j).append (g3.append (by rw [←hpost];exact (h3.drop j).drop _))
 ·rw [List.drop_append_of_le_length zo,List.drop_of_length_le zo,List.nil_append,cw,hp0,Nat.mul_zero,Nat.add_zero,g4];exact Nat.mod_lt _ hV0
 ·have:=hQw.set (i:=j) (by simp;omega) (val seg / V);rw [jV] at this;exact this
 ·simp [h6];omega
 ·have e1:val us=val (us.take j)+W32 ^ j*val (us.drop j):=bY us j zo;have e2:val (us.take j++(rs++post))=val (us.take j)+W32 ^ j*val rs:=by rw [cw,cw,hp0,hpl,Nat.mul_zero,Nat.add_zero]
  have e3:val (us.drop j)=V*(val seg / V)+val rs:=by rw [g4,hsplit,Nat.div_add_mod]
  rw [e2,val];rw [e1,e3] at h8;rw [←h8,nXu];generalize W32 ^ j=P;generalize val seg / V=T;generalize W32=Z;generalize val qs=S;generalize val rs=R;grind
theorem mB{Y m d:Nat}(hm:(digs Y).length=m+1)(hd:d=(digs Y).getD m 0):d≠0∧d*W32 ^ m≤Y∧Y<(d+1)*W32 ^ m:=by
 have h1:=au (ds:=digs Y) (k:=m) zo;rw [aw zo,ag,←hd] at h1;have h2:=bE ((cF Y).take m);rw [nXk,Nat.min_eq_left zo] at h2;refine ⟨?_,?_,?_⟩
 ·intro h0;have h3:=gU (ce Y) (by intro h;rw [h] at hm;simp at hm);rw [ag,hm,Nat.add_sub_cancel] at h3;rw [h0] at h1;omega
 ·rw [nYf];omega
 ·rw [nYf,Nat.mul_add];omega
theorem kr{Y m d s:Nat}(hm:(digs Y).length=m+1)(hd:d=(digs Y).getD m 0)(hs:s=32-Lib.bitLen d)(hdl:d<4294967296) :
  s<32∧Y*2 ^ s<W32 ^ (m+1)∧∀ v:List Nat,v.length=m+1→Dig v→val v=Y*2 ^ s→2147483648≤v.getD m 0:=by
 obtain ⟨h0,h1,h2⟩:=mB hm hd;obtain ⟨b1,b2,b3,b4⟩:=er h0 hdl;have e1:2 ^ Lib.bitLen d*2 ^ s=W32:=by rw [←Nat.pow_add,hs,show Lib.bitLen d+(32-Lib.bitLen d)=32 by omega];rfl
 have e2:2 ^ (Lib.bitLen d-1)*2 ^ s=2147483648:=by rw [←Nat.pow_add,hs,show Lib.bitLen d-1+(32-Lib.bitLen d)=31 by omega]
 have hP:0<W32 ^ m:=nYn aI;have hsp:0<2 ^ s:=Nat.two_pow_pos _;refine ⟨zo,?_,?_⟩
 ·calc Y*2 ^ s<(d+1)*W32 ^ m*2 ^ s:=Nat.mul_lt_mul_of_pos_right h2 hsp
   _≤2 ^ Lib.bitLen d*W32 ^ m*2 ^ s:=nXh _ (nXh _ b4)
   _=W32 ^ m*(2 ^ Lib.bitLen d*2 ^ s):=by simp only [Nat.mul_left_comm,nYf]
   _=W32 ^ (m+1):=by rw [e1,nXu]
 ·intro v hl hd' hv;have g1:=au (ds:=v) (k:=m) zo;rw [aw zo,hv] at g1;have g2:=bE (hd'.take m);rw [nXk,Nat.min_eq_left zo] at g2;have g3:W32 ^ m*2147483648≤Y*2 ^ s:=by
   calc W32 ^ m*2147483648=2 ^ (Lib.bitLen d-1)*W32 ^ m*2 ^ s:=by rw [←e2];simp only [Nat.mul_left_comm,nYf]
    _≤d*W32 ^ m*2 ^ s:=nXh _ (nXh _ b3)
    _≤Y*2 ^ s:=nXh _ h1
  have g4:W32 ^ m*2147483648<W32 ^ m*(v.getD m 0+1):=by rw [Nat.mul_add,Nat.mul_one];omega
  have:=Nat.lt_of_mul_lt_mul_left g4;omega
theorem yI{X Y n m s:Nat}{us:List Nat}(hX:(digs X).length=n)(hY:(digs Y).length=m+1)(hmn:m+1≤n)(hl:us.length=n+1)(hv:val us=X*2 ^ s):val (us.drop (n-(m+1)+1))<Y*2 ^ s:=by
 have h1:=bY us (n-(m+1)+1) zo;have h2:=bE (cF X);rw [ag,hX] at h2;have h3:=gU (ce Y) (by intro h;rw [h] at hY;simp at hY);rw [ag,hY,Nat.add_sub_cancel] at h3;have hP:0<W32 ^ (n-(m+1)+1):=nYn aI;have hs:0<2 ^ s:=Nat.two_pow_pos _;have h4:X*2 ^ s<W32 ^ (n-(m+1)+1)*(Y*2 ^ s):=by
  calc X*2 ^ s<W32 ^ n*2 ^ s:=Nat.mul_lt_mul_of_pos_right h2 hs
   _=W32 ^ (n-(m+1)+1)*(W32 ^ m*2 ^ s):=by rw [←Nat.mul_assoc,←Nat.pow_add,show n-(m+1)+1+m=n by omega]
   _≤_:=nXg _ (nXh _ h3)
 exact Nat.lt_of_mul_lt_mul_left (a:=W32 ^ (n-(m+1)+1)) zo
theorem wt(n:Nat){U j ucap lu lv:Nat}{pre u post:List Nat}{re:Array Value}{vo:Option Addr}{vc:Nat}{v:List Nat}(w:World)(hU:DB w U (pre++(u++post)) re)(hj:pre.length=j)(hul:u.length=n+3)(hv:U32 w vo lv vc v)(hvU:∀ p,vo=some p→p.block≠U)(hlt:val u<W32*val v)
 (hv1:2147483648≤v.getD (n+1) 0)(du:Dig u)(hn:n≤4294967296)(hlu:lu=n+3)(hlv:lv=n+2) :
  Calls Tryz.prog 213 #[.slice (some ⟨U,j,none⟩) lu ucap,.slice vo lv vc] w (xk U pre u post re v w):=by
 subst hlu hlv;exact wu U j ucap pre u post re vo vc n v _ hU hj hul hv hvU hlt hv1 du hn
theorem pV(ao bo:Option Addr)(n ac m bc X Y:Nat)(w:World)(ha:U32 w ao n ac (digs X))(hb:U32 w bo m bc (digs Y))(hY:Y≠0)(hn:n≤4294967296)(hle:Y≤X)(hm2:2≤m) :
  Calls Tryz.prog 204 #[.slice ao n ac,.slice bo m bc] w (xq (digs (X / Y)) (digs (X % Y)) w):=by
 obtain ⟨i0,hi0,hz0,hz1,hz2⟩:=info_parts eO;have HA:=Hi ha;have HB:=Hi hb;have han:=ha.len;have hbm:=hb.len;have hm0:0<m:=by
  rw [←hbm];rcases Nat.eq_zero_or_pos (digs Y).length with h|h
  ·exact absurd (bD.1 (nXj.1 h)) hY
  ·exact h
 obtain ⟨x,hx⟩:∃ x,x=digs X:=⟨_,rfl⟩;obtain ⟨y,hy⟩:∃ y,y=digs Y:=⟨_,rfl⟩;have hvx:val x=X:=by rw [hx,ag]
 have hvy:val y=Y:=by rw [hy,ag]
 rw [←hx] at han;rw [←hy] at hbm;have HXe:=Hi hx;have HYe:=Hi hy;have HVX:=Hi hvx;have HVY:=Hi hvy;have HAn:=Hi han;have HBm:=Hi hbm;have hmn:m≤n:=by rw [←hbm,←han,hx,hy];exact bT hle
 clear ha hb hx hy hvx hvy han hbm;obtain ⟨c,hc0,hce⟩:∃ c:Int,0≤c∧bU (X:Nat) (Y:Nat)=c:=⟨_,by unfold bU;split <;> (try split) <;> omega,rfl⟩;have hcd:decide (c<0)=false:=by simp;omega
 have Hce:=Hi hce;clear hce;have hm1b:((m:Int) == 1)=false:=by rw [nXs];omega
 obtain ⟨yb,boff,d,hbo,hcy,hd,hdl⟩:=HB.out.at (k:=m-1) zo;subst hbo;obtain ⟨m1,hm1⟩:∃ m1,m=m1+1:=⟨m-1,zo⟩;have hd':d=(digs Y).getD m1 0:=by rw [hd,hm1];rfl
 have hd0:=(mB (by rw [HB.out.len,hm1]) hd').1;obtain ⟨s,hs⟩:∃ s,s=32-Lib.bitLen d:=⟨_,rfl⟩;obtain ⟨hs32,hYs,htop⟩:=kr (by rw [HB.out.len,hm1]) hd' hs hdl;have hm1i:(m:Int)-1=((m-1:Nat):Int):=zo;have HM1:=Hi hm1;have HS:=Hi hs;have HTop:=Hi htop;have HYs:=Hi hYs;clear hd hd' hs htop hYs hm1;go_enter Tryz.func204,Tryz.ntmps204
 go_wp2_with fail
 refine (dQ _ _ _ _ _ _ _ _ _ HA.out HB.out).mono ?_;rintro e w1 ⟨rfl,hE⟩;rw [ag,ag,Hce.out];have HE:=Hi hE;clear hE Hce
 go_wp2_with (refine aB rfl (.tmp 27) (.tmp 27) 33 rfl 124 i0 (.int .u32 0) 1 Tryz.underlying33 hi0 hz0 hz1 _ _ (n-m+1) rfl rfl (by simp;omega) (by simp;omega) (by rw [hz2];omega) zo ?_;intro w2 hnew hE2;replace hnew:=Hi hnew;replace hE2:=Hi hE2;replace hcy:=(HE.out.trans hE2.out).cell hcy)
 refine (rA _ _ hd0 hdl).mono ?_;rintro e w3 ⟨rfl,rfl⟩;rw [←HS.out];have hDB:=DB.make rfl hnew.out;have hQ2:w1.heap.size<w3.heap.size:=(nXb.1 hDB).1;have HDB:=Hi hDB;clear hDB hnew;have hsi:(s:Int)<32:=zo
 go_wp2_with fail
 refine (rD _ _ _ s _ _ _ (HA.out.ext (HE.out.trans hE2.out)) hs32 hn (Or.inl rfl)).mono ?_;rintro e w4 ⟨zs,rfl,hz1',hz2',hz3',hz4',hzE⟩;rw [ag] at hz4';have HZ1:=Hi hz1';have HZ2:=Hi hz2';have HZ3:=Hi hz3';have HZ4:=Hi hz4';have HZE:=Hi hzE;clear hz1' hz2' hz3' hz4' hzE
 go_wp2_with fail
 refine (rD _ _ _ s _ _ _ (HB.out.ext ((HE.out.trans hE2.out).trans HZE.out)) hs32 zo (Or.inr ⟨rfl,by rw [ag,HM1.out];exact HYs.out⟩)).mono ?_;rintro e w5 ⟨vs,rfl,hv1',hv2',hv3',hv4',hvE⟩;rw [ag] at hv4';have hL4:w3.heap.size<w4.heap.size:=(nXb.1 HZ1.out).1;have hL5:w4.heap.size<w5.heap.size:=(nXb.1 hv1').1;have hvU:U32 w5 (some ⟨w4.heap.size,0,none⟩) m m vs:=hv1'.u32 hv2' (nXe _) zo hv3';have HVU:=Hi hvU;have HV2:=Hi hv2';have HV3:=Hi hv3';have HV4:=Hi hv4';have HVE:=Hi hvE;have hM1:=HM1.out;have I0:DL x (X*2 ^ s) (Y*2 ^ s) n m w3.heap.size w1.heap.size vs (some ⟨w4.heap.size,0,none⟩) w5 w5 (n-m+1) :=
  ⟨aL.refl _ _,zs,HZ1.out.ext HVE.out,HZ2.out,HZ3.out,by rw [hM1];exact yI (HAn.out ▸ (by rw [HXe.out])) (by rw [HB.out.len,hM1]) zo HZ2.out HZ4.out,[],by rw [List.append_nil];exact (HDB.out.ext HZE.out).ext HVE.out,by simp,Dig.nil,by rw [val,Nat.mul_zero,Nat.zero_mul,Nat.zero_add,HZ4.out]⟩
 have HI0:=Hi I0;clear hvU hv1' hv2' hv3' hv4' hvE I0 hM1;go_wp2
 go_loopg [14] (n-m+1) (fun g j wr=>j=.int .i64 ((g:Int)-1)∧g≤n-m+1∧DL x (X*2 ^ s) (Y*2 ^ s) n m w3.heap.size w1.heap.size vs (some ⟨w4.heap.size,0,none⟩) w5 wr g)
 case atStart=>exact ⟨by go_num,nXe _,HI0.out⟩
 case round =>
  obtain ⟨rfl,hg,hI⟩:=hrel;have HI:=Hi hI;clear hI HI0;by_cases h0:gk=0
  ·subst h0;obtain ⟨us,g1,g2,g3,g4,qs,g5,g6,g7,g8⟩:=HI.out.u;rw [List.drop_zero] at g4;rw [List.replicate_zero,List.nil_append] at g5;rw [Nat.pow_zero,Nat.one_mul] at g8;obtain ⟨e1,e2⟩:=dP (q:=val qs) (O:=val us) (U:=X*2 ^ s) (V:=Y*2 ^ s) zo (by rw [Nat.add_mul];omega) (by rw [nYj];exact g8);rw [Nat.mul_div_mul_right _ _ (Nat.two_pow_pos s)] at e1;rw [Nat.mul_mod_mul_right] at e2;have hut:val (us.take m)=X % Y*2 ^ s:=by
    have h1:=bY us m zo;have h2:=HYs.out;rw [←HM1.out] at h2;have h3:val (us.drop m)=0:=by
     rcases Nat.eq_zero_or_pos (val (us.drop m)) with h|h
     ·exact h
     ·have:=nXg (W32 ^ m) h;omega
    rw [h3,Nat.mul_zero,Nat.add_zero] at h1;rw [←h1];exact e2
   have hUq:U32 wr (some ⟨w1.heap.size,0,none⟩) (n-m+1) (n-m+1) qs:=g5.u32 zo (nXe _) zo g7;have hUu:U32 wr (some ⟨w3.heap.size,0,none⟩) m (n+1) (us.take m):=(g1.u32 (n:=n+1) (cap:=n+1) g2 (nXe _) zo g3).take zo;have HUq:=Hi hUq;have HUu:=Hi hUu;have HE1:=Hi e1;have HUt:=Hi hut;clear g1 g2 g3 g4 g5 g6 g7 g8 e1 e2 hut hUq hUu;go_wp2;refine ah 10 (fun opIx=>match opIx with
    | 1=>sU (.slice (some ⟨w1.heap.size,0,none⟩) (digs (X / Y)).length (n-m+1))
    | 6=>.spec Nat 0 (fun b=>.slice (some ⟨b,0,none⟩) m m) (fun b w'=>∃ zs,U32 w' (some ⟨b,0,none⟩) m m zs∧val zs=X % Y)
    | 7=>.spec Nat 0 (fun b=>.slice (some ⟨b,0,none⟩) (digs (X % Y)).length m) (fun b w'=>U32 w' (some ⟨b,0,none⟩) (digs (X % Y)).length m (digs (X % Y)))
    | _=>.quiet) (fun|7=>[6]|_=>[]) kZ kZ (fun w0 he0 hz0 hc0 hf0=>?_)
   simp only [pT];refine qQ ?_;refine bN rfl rfl (fun w1 hw1 hG=>?_) (fun _=>?_)
   ·refine gi [.slice (some ⟨_,0,none⟩) (n-m+1:Nat) (n-m+1:Nat)] rfl rfl Tryz.func186 kZ kZ ?_;refine (bJ _ _ _ _ _ ((HUq.out.ext he0).ext hw1)).mono ?_;rintro e w' ⟨rfl,rfl⟩;exact ⟨(),by rw [HE1.out],Ext.refl _,trivial⟩
   refine qZ ?_;refine bN rfl rfl (fun w1 hw1 hG=>?_) (fun b=>?_)
   ·refine gi [.slice (some ⟨_,0,none⟩) (m:Nat) (n+1:Nat),.int .u64 (s:Nat)] rfl rfl Tryz.func214 kZ kZ ?_;refine (uY _ _ _ _ _ _ ((HUu.out.ext he0).ext hw1) hs32 zo).mono ?_;rintro e w' ⟨zs,rfl,k1,k2,k3,k4,k5⟩;exact ⟨_,rfl,k5,zs,k1.u32 k2 (nXe _) zo k3,by rw [k4,HUt.out,Nat.mul_div_cancel _ (Nat.two_pow_pos s)]⟩
   simp only [pS];refine bN rfl rfl (fun w1 hw1 hG=>?_) (fun b2=>?_)
   ·have h6:=hG 6 (by simp);simp only [jS] at h6;obtain ⟨wa,hwa,zs,k1,k2⟩:=h6;refine gi [.slice (some ⟨b,0,none⟩) (m:Nat) (m:Nat)] rfl rfl Tryz.func186 kZ kZ ?_;refine (bJ _ _ _ _ _ (k1.ext hwa)).mono ?_;rintro e w' ⟨rfl,rfl⟩;have k3:=(k1.ext hwa).digs;rw [k2] at k3;exact ⟨b,by rw [k2],Ext.refl _,k3⟩
   refine qZ ?_;refine aq ?_;intro w' hI;have h7:=hI.facts 7;have hx:=he0.trans hI.ext;simp only [jS] at h7;obtain ⟨wa,hwa,k1⟩:=h7;have HK1:=Hi (k1.ext hwa);have HX:=Hi hx;clear hI hx hwa k1;simp only [pD];go_wp2
   go_ret2
   have k2:=(HUq.out.ext HX.out).digs;rw [HE1.out] at k2;refine ⟨_,_,_,_,_,_,rfl,k2,HK1.out,?_⟩;have hM:=HI.out.mods;have hw5:Ext w1 w5:=(hE2.out.trans HZE.out).trans HVE.out;exact (HE.out.trans (Ext.of_below hw5 (hM.below (N:=w1.heap.size) (by have:=hw5.size;omega) (fun k hk=>by rcases hk with rfl|rfl <;> omega)) (nXe _))).trans HX.out
  ·obtain ⟨g1,rfl⟩:∃ g1,gk=g1+1:=⟨gk-1,zo⟩;clear h0;obtain ⟨pre,seg,post,a1,a2,a3,a4,a5,a6⟩:=HI.out.next zo (by rw [HM1.out];exact HYs.out) zo;have hvU':U32 wr (some ⟨w4.heap.size,0,none⟩) m m vs:=by
    have h:=HVU.out;refine ⟨h.len,h.le,h.max,h.dig,h.at'.imp id fun ⟨b,off,h1,h2⟩=>⟨b,off,h1,fun k hk=>?_⟩⟩;cases h1;exact HI.out.mods.cell (p:=⟨w4.heap.size,0+k,none⟩) (by simp;omega) (h2 k hk)
   have HA1:=Hi a1;have HA2:=Hi a2;have HA3:=Hi a3;have HA4:=Hi a4;have HA5:=Hi a5;have HA6:=Hi a6;have HVU':=Hi hvU';clear a1 a2 a3 a4 a5 a6 hvU';have hgi:g1<n-m+1:=zo
   go_wp2_with fail
   refine (wt (m-2) _ HA1.out HA2.out (by rw [HA3.out];omega) HVU'.out (fun p hp=>by cases hp;show w4.heap.size≠w3.heap.size;omega) (by rw [HV4.out];exact HA5.out) (by have:=HTop.out vs (by rw [HV2.out,HM1.out]) HV3.out HV4.out;rwa [show m-2+1=m1 by have:=HM1.out;omega]) HA4.out zo zo zo).mono ?_;rintro e w6 ⟨rs,rfl,d1,d2,d3,d4,d5⟩;rw [HV4.out] at d4 ⊢;obtain ⟨hnx,z,hcQ,hfQ⟩:=HA6.out w6 rs d1 d2 d3 d4 d5;have HNx:=Hi hnx;have hQ6:w1.heap.size<w6.heap.size:=nXq _ _ hcQ;clear hnx d1 d2 d3 d4 d5;go_wp2
   go_roundg g1
   case measure=>omega
   case rel=>exact ⟨rfl,zo,HNx.out⟩
theorem jF(ao bo:Option Addr)(n ac m bc X Y:Nat)(w:World)(ha:U32 w ao n ac (digs X))(hb:U32 w bo m bc (digs Y))(hY:Y≠0)(hn:n≤4294967296) :
  Calls Tryz.prog 204 #[.slice ao n ac,.slice bo m bc] w (xq (digs (X / Y)) (digs (X % Y)) w):=by
 by_cases hlt:X<Y
 ·have HA:=Hi ha;have HB:=Hi hb;clear ha hb;go_enter Tryz.func204,Tryz.ntmps204
  go_wp2_with fail
  refine (dQ _ _ _ _ _ _ _ _ _ HA.out HB.out).mono ?_;rintro e w1 ⟨rfl,hE⟩;rw [ag,ag,dG zo];have HE:=Hi hE
  go_wp2_with fail
  refine (oS _ _ _ _ _ (HA.out.ext HE.out) hn).mono ?_;rintro e w2 ⟨ao2,n2,c2,rfl,hU,hE2⟩;have HU:=Hi hU;have HE2:=Hi hE2;clear hU hE2;go_wp2
  go_ret2
  refine ⟨_,_,_,_,_,_,rfl,?_,?_,HE.out.trans HE2.out⟩
  ·rw [Nat.div_eq_of_lt hlt,aS];exact U32.nil _ _ _ dZ
  ·rw [Nat.mod_eq_of_lt hlt];exact HU.out
 ·have hm0:m≠0:=by
   intro h;have:=hb.len;rw [h] at this;exact hY (bD.1 (nXj.1 this))
  by_cases hm1:m=1
  ·exact ti ao bo n ac m bc X Y w ha hb hY hn zo hm1
  ·exact pV ao bo n ac m bc X Y w ha hb hY hn zo zo
def EE(q r:List Nat)(w:World)(e:Ending)(w':World):Prop :=
 ∃ ao n ac bo m bc,e=.returned (.tuple #[.slice ao n ac,.slice bo m bc,.int .i64 0])∧U32 w' ao n ac q∧U32 w' bo m bc r∧Ext w w'
theorem th(ao bo:Option Addr)(n ac m bc:Nat)(ds es:List Nat)(w:World)(ha:U32 w ao n ac ds)(hb:U32 w bo m bc es)(hn:n≤4294967296)(hz:val es≠0) :
  Calls Tryz.prog 189 #[.slice ao n ac,.slice bo m bc] w (EE (digs (val ds / val es)) (digs (val ds % val es)) w):=by
 have HA:=Hi ha;have HB:=Hi hb;have hne:(digs (val es)).length≠0:=fun h=>hz (bD.1 (nXj.1 h))
 have hneb:(((digs (val es)).length:Int) == 0)=false:=by rw [nXs];omega
 have hal:=aE ha.dig;rw [ha.len] at hal;clear ha hb;go_enter Tryz.func189,Tryz.ntmps189
 go_wp2_with fail
 refine (bJ _ _ _ _ _ HB.out).mono ?_;rintro e w1 ⟨rfl,rfl⟩
 go_wp2_with fail
 refine (bJ _ _ _ _ _ HA.out).mono ?_;rintro e w1 ⟨rfl,rfl⟩
 go_wp2_with fail
 refine (jF _ _ _ _ _ _ _ _ _ HA.out.digs HB.out.digs hz zo).mono ?_;rintro e w1 ⟨a1,n1,c1,b2,m2,c2,rfl,h1,h2,hE⟩;have H1:=Hi h1;have H2:=Hi h2;have HE:=Hi hE;clear h1 h2 hE;go_wp2;exact nXa (v:=.tuple #[.slice a1 n1 c1,.slice b2 m2 c2,.int .i64 0]) (by simp [results,Tryz.results189,go_sem]) rfl ⟨_,_,_,_,_,_,rfl,H1.out,H2.out,HE.out⟩
end Go.Proofs.YtkcpmclnocmalaaGreat
namespace Go.Num
structure Leh (X Y D:Int) (s:Bool) (a b c d p q:Int):Prop where
 P1:0≤p+a
 P2:0≤p+b
 Q1:0≤q+c
 Q2:0≤q+d
 P1':p+a≤4611686018427387904
 P2':p+b≤4611686018427387904
 Q1':q+c≤4611686018427387904
 Q2':q+d≤4611686018427387904
 bd:-2147483647≤a∧a≤2147483647∧-2147483647≤b∧b≤2147483647∧-2147483647≤c∧c≤2147483647∧-2147483647≤d∧d≤2147483647
 sg:if s then 0≤a∧b≤0∧c≤0∧0≤d else a≤0∧0≤b∧0≤c∧d≤0
 hx:if s then D*(p+b)≤a*X+b*Y∧a*X+b*Y≤D*(p+a) else D*(p+a)≤a*X+b*Y∧a*X+b*Y≤D*(p+b)
 hy:if s then D*(q+c)≤c*X+d*Y∧c*X+d*Y≤D*(q+d) else D*(q+d)≤c*X+d*Y∧c*X+d*Y≤D*(q+c)
 nn:0≤c*X+d*Y
 le:c*X+d*Y≤a*X+b*Y
 leY:c*X+d*Y≤Y
 leX:a*X+b*Y≤X
 YX:Y≤X
 on:b=0∨(c*X+d*Y<Y∧c*X+d*Y<a*X+b*Y)
 g:Int.gcd (a*X+b*Y) (c*X+d*Y)=Int.gcd X Y

theorem Leh.first{X Y D p q:Int}(h0:0≤Y)(hle:Y≤X)(hp:D*p≤X)(hp':X≤D*(p+1))(hq:D*q≤Y)(hq':Y≤D*(q+1))(p0:0≤p)(q0:0≤q)(pl:p<4611686018427387904)(ql:q<4611686018427387904):Leh X Y D true 1 0 0 1 p q where
 P1:=by omega
 P2:=by omega
 Q1:=by omega
 Q2:=by omega
 P1':=by omega
 P2':=by omega
 Q1':=by omega
 Q2':=by omega
 bd:=by omega
 sg:=by simp
 hx:=by simp;exact ⟨hp,hp'⟩
 hy:=by simp;exact ⟨hq,hq'⟩
 nn:=by simpa using h0
 le:=by simpa using hle
 leY:=by simp
 leX:=by simp
 YX:=hle
 on:=Or.inl rfl
 g:=by simp

theorem yU(A B f:Int):Int.gcd B (A-f*B)=Int.gcd A B:=by
 rw [Int.gcd_comm,show A-f*B=A+B*(-f) by grind];simp

theorem Leh.step{X Y D:Int}{s:Bool}{a b c d p q f:Int}(h:Leh X Y D s a b c d p q)(hD:0<D)(q1:q+c≠0)(q2:q+d≠0)(f1:f=(p+a) / (q+c))(f2:f=(p+b) / (q+d))
 (he:-2147483647≤a-f*c∧a-f*c≤2147483647∧-2147483647≤b-f*d∧b-f*d≤2147483647):Leh X Y D (!s) c d (a-f*c) (b-f*d) q (p-f*q):=by
 have hq1:0<q+c:=by have:=h.Q1;omega
 have hq2:0<q+d:=by have:=h.Q2;omega
 have hf:0≤f:=by rw [f1];exact Int.ediv_nonneg h.P1 h.Q1
 have m1:p+a=(q+c)*f+(p+a) % (q+c):=by rw [f1];exact (Int.mul_ediv_add_emod ..).symm
 have m2:p+b=(q+d)*f+(p+b) % (q+d):=by rw [f2];exact (Int.mul_ediv_add_emod ..).symm
 have r1:=Int.emod_nonneg (p+a) q1;have r2:=Int.emod_nonneg (p+b) q2;have l1:=Int.emod_lt_of_pos (p+a) hq1;have l2:=Int.emod_lt_of_pos (p+b) hq2;generalize (p+a) % (q+c)=R1 at *
 generalize (p+b) % (q+d)=R2 at *
 have e1:p-f*q+(a-f*c)=R1:=by grind
 have e2:p-f*q+(b-f*d)=R2:=by grind
 have eY:(a-f*c)*X+(b-f*d)*Y=(a*X+b*Y)-f*(c*X+d*Y):=by grind
 obtain ⟨hb1,hb2,hb3,hb4,hb5,hb6,hb7,hb8⟩:=h.bd;have hsg:=h.sg;have hx:=h.hx;have hy:=h.hy;have hQ1':=h.Q1';have hQ2':=h.Q2';have hnn:=h.nn;have hle:=h.le;have hon:=h.leY;have hYX:=h.YX;have hg:=h.g;have g1:=h.Q1;have g2:=h.Q2;clear h;obtain ⟨A,hA⟩:∃ A,A=a*X+b*Y:=⟨_,rfl⟩;obtain ⟨B,hB⟩:∃ B,B=c*X+d*Y:=⟨_,rfl⟩;rw [←hA] at hx hle hg eY;rw [←hB] at hy hnn hle hg hon eY
 -- the new member is between 0 and B
 have key:0≤A-f*B∧A-f*B<B∧(if s then D*R2≤A-f*B∧A-f*B≤D*R1 else D*R1≤A-f*B∧A-f*B≤D*R2):=by
  cases s
  ·simp only [Bool.false_eq_true,if_false] at *
   have k1:D*R1≤A-f*B:=by
    have:=Int.mul_le_mul_of_nonneg_left hy.2 hf;have e:D*(p+a)=f*(D*(q+c))+D*R1:=by rw [m1];grind
    omega
   have k2:A-f*B≤D*R2:=by
    have:=Int.mul_le_mul_of_nonneg_left hy.1 hf;have e:D*(p+b)=f*(D*(q+d))+D*R2:=by rw [m2];grind
    omega
   have k3:D*R2<D*(q+d):=Int.mul_lt_mul_of_pos_left l2 hD;have k4:0≤D*R1:=Int.mul_nonneg zo r1;exact ⟨zo,zo,k1,k2⟩
  ·simp only [if_true] at *
   have k1:D*R2≤A-f*B:=by
    have:=Int.mul_le_mul_of_nonneg_left hy.2 hf;have e:D*(p+b)=f*(D*(q+d))+D*R2:=by rw [m2];grind
    omega
   have k2:A-f*B≤D*R1:=by
    have:=Int.mul_le_mul_of_nonneg_left hy.1 hf;have e:D*(p+a)=f*(D*(q+c))+D*R1:=by rw [m1];grind
    omega
   have k3:D*R1<D*(q+c):=Int.mul_lt_mul_of_pos_left l1 hD;have k4:0≤D*R2:=Int.mul_nonneg zo r2;exact ⟨zo,zo,k1,k2⟩
 obtain ⟨k0,kl,kb⟩:=key;refine ⟨g1,g2,zo,zo,hQ1',hQ2',zo,zo,⟨hb5,hb6,hb7,hb8,he.1,he.2.1,he.2.2.1,he.2.2.2⟩,?_,?_,?_,?_,?_,?_,?_,hYX,?_,?_⟩
 ·cases s
  ·simp only [Bool.false_eq_true,if_false,Bool.not_false,if_true] at *
   have t1:=Int.mul_nonneg hf hsg.2.2.1;have t2:f*d≤0:=Int.mul_nonpos_of_nonneg_of_nonpos hf hsg.2.2.2;omega
  ·simp only [Bool.false_eq_true,if_false,Bool.not_true,if_true] at *
   have t1:f*c≤0:=Int.mul_nonpos_of_nonneg_of_nonpos hf hsg.2.2.1;have t2:=Int.mul_nonneg hf hsg.2.2.2;omega
 ·rw [←hB];cases s
  ·simpa using hy
  ·simpa using hy
 ·rw [e1,e2,eY];cases s
  ·simpa using kb
  ·simpa using kb
 ·rw [eY];exact k0
 ·rw [eY,←hB];omega
 ·rw [eY];omega
 ·rw [←hB];omega
 ·right
  rw [eY,←hB];exact ⟨zo,kl⟩
 ·rw [eY,←hB,yU];exact hg
end Go.Num
namespace Go.Proofs.YtkcpmclnocmalaaGreat
open Go.RowKit Go.Front Go.Num
attribute [local go_sem] XW.cell XW.frozen
theorem uH{a b:Nat}(ha:a<4294967296)(hb:b<4294967296):bits .or .u64 (a:Int) ((b:Int)*4294967296)=((a+b*4294967296:Nat):Int):=by
 rw [show (b:Int)*4294967296=((b*4294967296:Nat):Int) by omega,u64_or_nat _ _ zo zo,Nat.or_comm,nYf b,show (4294967296:Nat)=2 ^ 32 from rfl,l9 zo,nYj]
theorem o0(d:Nat)(h:d<18446744073709551616):bits .or .u64 0 (d:Int)=(d:Int):=by
 rw [show (0:Int)=((0:Nat):Int) from rfl,u64_or_nat _ _ dZ h,Nat.zero_or]
theorem vi{d1 d2 d3 s T:Nat}(l1:d1<4294967296)(l2:d2<4294967296)(l3:d3<4294967296)(hs:s<32)(hb:(d1*4294967296+d2)*2 ^ s<18446744073709551616)(hT:T=(d1*4294967296+d2)*4294967296+d3) :
  wrap64 (bits .or .u64 (IntKind.u64.wrap (bits .or .u64 ((d1:Int)*4294967296) (d2:Int)*2 ^ s)) (IntKind.u64.wrap ((d3:Int)*2 ^ s) / 4294967296) / 4)=((T / 2 ^ (32-s) / 4:Nat):Int)∧T / 2 ^ (32-s)<18446744073709551616:=by
 have hP:=gp (nYm hs);have hp:0<2 ^ s:=Nat.two_pow_pos _;have hq:0<2 ^ (32-s):=Nat.two_pow_pos _;have h32:2 ^ s≤2147483648:=by have:=nXp (n:=2) dZ (show s≤31 by omega);omega
 have e1:T / 2 ^ (32-s)=(d1*4294967296+d2)*2 ^ s+d3 / 2 ^ (32-s):=by
  rw [hT,←hP,show (d1*(2 ^ s*2 ^ (32-s))+d2)*(2 ^ s*2 ^ (32-s))+d3=d3+2 ^ (32-s)*((d1*(2 ^ s*2 ^ (32-s))+d2)*2 ^ s) by grind,Nat.add_mul_div_left _ _ hq,nYj]
 have e2:d3*2 ^ s / 4294967296=d3 / 2 ^ (32-s):=by rw [←hP,nYf d3,Nat.mul_div_mul_left _ _ hp]
 have e3:d3 / 2 ^ (32-s)<2 ^ s:=by rw [Nat.div_lt_iff_lt_mul hq,hP];exact l3
 have e4:(d1*4294967296+d2)*2 ^ s+d3 / 2 ^ (32-s)<18446744073709551616:=by
  have:(d1*4294967296+d2)*2 ^ s+2 ^ s≤18446744073709551616:=by
   have h1:(d1*4294967296+d2)*2 ^ s<2 ^ (64-s)*2 ^ s:=by rw [←Nat.pow_add,show 64-s+s=64 by omega];exact hb
   have h2:=Nat.lt_of_mul_lt_mul_right h1;have h3:=nXh (2 ^ s) h2;rw [←Nat.pow_add,show 64-s+s=64 by omega,nXz] at h3;exact h3
  omega
 have e5:d3*2 ^ s<18446744073709551616:=by
  have:=nXy (nYm l3) h32;omega
 refine ⟨?_,by rw [e1];exact e4⟩;have c1:(((d1*4294967296+d2:Nat):Int))*2 ^ s=(((d1*4294967296+d2)*2 ^ s:Nat):Int):=by rw [Int.natCast_mul _ (2 ^ s),Int.natCast_pow];rfl
 have c2:((d3:Int))*2 ^ s=((d3*2 ^ s:Nat):Int):=by rw [Int.natCast_mul _ (2 ^ s),Int.natCast_pow];rfl
 rw [kH l1 l2,c1,c2,bF,bF,e1];generalize hA:(d1*4294967296+d2)*2 ^ s=A at *
 generalize hB:d3*2 ^ s=B at *
 rw [show ((A:Nat):Int) % 18446744073709551616=(A:Int) by omega,show ((B:Nat):Int) % 18446744073709551616 / 4294967296=((B / 4294967296:Nat):Int) by omega,e2,u64_or_nat _ _ zo zo];rw [←hA,nYf _ (2 ^ s),l9 e3];rw [nYf (2 ^ s),hA];have hw:wrap64 (((A+d3 / 2 ^ (32-s):Nat):Int) / 4)=((A+d3 / 2 ^ (32-s):Nat):Int) / 4:=IntWalk.wrap64_in _ zo;rw [hw];omega
theorem nT(ao:Option Addr)(n ac:Nat)(x:List Nat)(w:World)(ha:U32 w ao n ac x)(hn:n≤2) :
  Calls Tryz.prog 205 #[.slice ao n ac] w fun e w'=>e=.returned (.int .u64 (val x:Nat))∧w=w':=by
 have HX:=Hi ha;have HL:=Hi ha.len;clear ha;go_enter Tryz.func205,Tryz.ntmps205;go_wp2
 go_loopg [3,8] n (fun g v i wr=>∃ k:Nat,k+g=n∧i=.int .i64 (k:Nat)∧v=.int .u64 ((val (x.take k):Nat):Int)∧w=wr)
 case atStart=>exact ⟨0,zo,rfl,rfl,rfl⟩
 case round =>
  obtain ⟨k,hk,rfl,rfl,rfl⟩:=hrel;by_cases hlt:k<n
  ·obtain ⟨g1,rfl⟩:∃ g1,gk=g1+1:=⟨gk-1,zo⟩;obtain ⟨b,off,d,hao,hc,hd,hdl⟩:=HX.out.at hlt;subst hao;have Hd:=Hi hd;clear hd;have hT:=au (ds:=x) (k:=k) (by rw [HL.out];exact hlt);rw [←Hd.out] at hT;have HT:=Hi hT;have hB:=bE (HX.out.dig.take k);rw [nXk,HL.out,Nat.min_eq_left zo] at hB;obtain ⟨v,hv⟩:∃ v,v=val (x.take k):=⟨_,rfl⟩;rw [←hv] at hB ⊢;have HV:=Hi hv;clear hT hv;rcases (show k=0∨k=1 by omega) with rfl|rfl
   ·rw [Nat.pow_zero] at hB;obtain rfl:v=0:=by omega
    clear hB;rw [Nat.add_zero] at hc;go_wp2
    go_roundg g1
    case measure=>omega
    case rel =>
     refine ⟨1,zo,rfl,?_,rfl⟩;have:=HT.out;rw [←HV.out] at this;rw [this];rw [o0 d zo];simp
   ·rw [Nat.pow_one] at hB;unfold W32 at hB;go_wp2
    go_roundg g1
    case measure=>omega
    case rel =>
     refine ⟨2,zo,rfl,?_,rfl⟩;have:=HT.out;rw [←HV.out] at this;rw [this,uH hB hdl,Nat.pow_one,nYf W32 d];rfl
  ·obtain rfl:k=n:=by omega
   go_wp2
   go_ret
   exact ⟨aZ (by rw [aw (by rw [HL.out];exact nXe _)]),rfl⟩
theorem cu(x:List Nat)(k:Nat):val (x.drop k)=x.getD k 0+W32*val (x.drop (k+1)):=by
 by_cases hk:k<x.length
 ·rw [List.drop_eq_getElem_cons hk,val];simp [hk]
 ·rw [List.drop_of_length_le zo,List.drop_of_length_le zo];simp [val,List.getElem?_eq_none (Nat.le_of_not_lt hk)]
theorem j7{x:List Nat}(hd:Dig x)(k:Nat):val x / W32 ^ k=val (x.drop k):=by
 have hP:0<W32 ^ k:=nYn aI;by_cases hk:k≤x.length
 ·have h1:=bY x k hk;have h2:=bE (hd.take k);rw [nXk,Nat.min_eq_left hk] at h2;rw [h1,Nat.add_mul_div_left _ _ hP,Nat.div_eq_of_lt h2,Nat.zero_add]
 ·rw [List.drop_of_length_le zo];have h2:=bE hd;have h3:W32 ^ x.length≤W32 ^ k:=nXp aI zo;exact Nat.div_eq_of_lt zo
theorem jE(B:Nat)(ao:Option Addr)(m ac i:Nat)(x:List Nat)(w:World)(hB:w.cell? ⟨B,0,none⟩=some (.slice ao m ac))(ha:U32 w ao m ac x) :
  Calls Tryz.prog 216 #[.int .i64 (i:Nat),.pointer (some ⟨B,0,none⟩)] w fun e w'=>e=.returned (.int .u64 (x.getD i 0:Nat))∧w=w':=by
 have HX:=Hi ha;have HL:=Hi ha.len;clear ha;by_cases hlt:i<m
 ·obtain ⟨b,off,d,hao,hc,hd,hdl⟩:=HX.out.at hlt;subst hao;rw [←hd];clear hd;go_enter Tryz.func216,Tryz.ntmps216;go_wp2
  go_ret
  exact ⟨rfl,rfl⟩
 ·rw [show x.getD i 0=0 by simp [List.getElem?_eq_none (show x.length≤i by rw [HL.out];omega)]];go_enter Tryz.func216,Tryz.ntmps216;go_wp2
  go_ret
  exact ⟨rfl,rfl⟩
theorem kS(ao:Option Addr)(m ac n s:Nat)(x:List Nat)(w:World)(ha:U32 w ao m ac x)(hmn:m≤n)(hn:3≤n)(hnb:n≤4294967296)(hs:s<32)(hv:val x*2 ^ s<W32 ^ n) :
  Calls Tryz.prog 210 #[.slice ao m ac,.int .i64 (n:Nat),.int .u64 (s:Nat)] w fun e w'=>e=.returned (.int .i64 ((val x / (W32 ^ (n-3)*2 ^ (32-s)*4):Nat):Int))∧Ext w w':=by
 have hmf:∀ (fn:Fn) (first cap:Array Value) (w:World),(Instr.makeFunc fn first cap).run Tryz.prog w=.ok (.func fn first cap) w:=fun _ _ _ _=>rfl
 obtain ⟨d1,hd1⟩:∃ d,d=x.getD (n-1) 0:=⟨_,rfl⟩;obtain ⟨d2,hd2⟩:∃ d,d=x.getD (n-2) 0:=⟨_,rfl⟩;obtain ⟨d3,hd3⟩:∃ d,d=x.getD (n-3) 0:=⟨_,rfl⟩;have l1:d1<4294967296:=by rw [hd1];exact ha.dig.at _
 have l2:d2<4294967296:=by rw [hd2];exact ha.dig.at _
 have l3:d3<4294967296:=by rw [hd3];exact ha.dig.at _
 have HX:=Hi ha;have H1:=Hi hd1;have H2:=Hi hd2;have H3:=Hi hd3;have HV:=Hi hv;clear ha hd1 hd2 hd3 hv;have i1:(n:Int)-1=((n-1:Nat):Int):=zo;have i2:(n:Int)-2=((n-2:Nat):Int):=zo;have i3:(n:Int)-3=((n-3:Nat):Int):=zo;have hcB:(w.alloc (.cells #[.slice ao m ac] 33)).cell? ⟨w.heap.size,0,none⟩=some (.slice ao m ac):=wN _ _ _ _;have HcB:=Hi hcB;clear hcB;go_enter Tryz.func210,Tryz.ntmps210
 go_wp2_with fail
 refine (jE _ _ _ _ _ _ _ HcB.out (HX.out.ext (Ext.alloc _ _))).mono ?_;rintro e w1 ⟨rfl,rfl⟩;rw [←H1.out]
 go_wp2_with fail
 refine (jE _ _ _ _ _ _ _ HcB.out (HX.out.ext (Ext.alloc _ _))).mono ?_;rintro e w1 ⟨rfl,rfl⟩;rw [←H2.out]
 go_wp2_with fail
 refine (jE _ _ _ _ _ _ _ HcB.out (HX.out.ext (Ext.alloc _ _))).mono ?_;rintro e w1 ⟨rfl,rfl⟩;rw [←H3.out];go_wp2
 go_ret
 have hx:=HX.out;have e0:val (x.drop (n-3))=(d1*4294967296+d2)*4294967296+d3:=by
  have g1:=cu x (n-3);have g2:=cu x (n-2);have g3:=cu x (n-1);rw [show n-3+1=n-2 by omega,←H3.out] at g1;rw [show n-2+1=n-1 by omega,←H2.out] at g2;rw [show n-1+1=n by omega,←H1.out,List.drop_of_length_le (i:=n) (by rw [hx.len];exact hmn)] at g3;simp only [val,Nat.mul_zero,Nat.add_zero] at g3;unfold W32 at g1 g2;omega
 have hdiv:=j7 hx.dig (n-3);have hb:(d1*4294967296+d2)*2 ^ s<18446744073709551616:=by
  have g1:W32 ^ (n-3)*((d1*4294967296+d2)*4294967296+d3)≤val x:=by rw [←e0,←hdiv];exact Nat.mul_div_le _ _
  have g2:W32 ^ (n-2)*((d1*4294967296+d2)*2 ^ s)<W32 ^ (n-2)*18446744073709551616:=by
   rw [show n-2=n-3+1 by omega,nXu]
   calc W32 ^ (n-3)*W32*((d1*4294967296+d2)*2 ^ s)=W32 ^ (n-3)*((d1*4294967296+d2)*W32)*2 ^ s:=by grind
    _≤val x*2 ^ s:=nXh _ (nXf (nXg _ (Nat.le_add_right _ d3)) g1)
    _<W32 ^ n:=HV.out
    _=W32 ^ (n-3)*W32*18446744073709551616:=by
     rw [show (18446744073709551616:Nat)=W32*W32 from rfl]
     conv=>lhs;rw [show n=n-3+1+1+1 by omega,nXu,nXu,nXu]
     rw [Nat.mul_assoc]
  exact Nat.lt_of_mul_lt_mul_left g2
 have hlb:=vi l1 l2 l3 hs hb rfl;refine ⟨aZ (hlb.1.trans ?_),Ext.alloc _ _⟩;rw [←e0,←hdiv,Nat.div_div_eq_div_mul,Nat.div_div_eq_div_mul];simp only [Nat.mul_assoc]
def CR(X Y D:Int)(w:World)(e:Ending)(w':World):Prop:=∃ a b c d s p q,e=.returned (.tuple #[.int .i64 a,.int .i64 b,.int .i64 c,.int .i64 d])∧Leh X Y D s a b c d p q∧w=w'
theorem FP(x y:Int):∃ M,(∀ (P:Program) (ts:Array TypeId) (t:TypeId) (w:World),(Builtin.max_ ts t #[.int .i64 x,.int .i64 (-x),.int .i64 y,.int .i64 (-y)]).run P w=.ok (.int .i64 M) w)∧((M≤2147483647→-2147483647≤x∧x≤2147483647∧-2147483647≤y∧y≤2147483647)∧True):=by
 refine ⟨if -y > (if y > (if -x > x then -x else x) then y else (if -x > x then -x else x)) then -y else (if y > (if -x > x then -x else x) then y else (if -x > x then -x else x)),?_,?_,trivial⟩
 ·intro P ts t w;simp [Builtin.max_,Builtin.max2]
 ·intro h;split at h <;> split at h <;> split at h <;> omega
theorem E8{p q a c f:Int}(h:p+a≤4611686018427387904)(hf:f=(p+a) / (q+c))(hf0:0≤f)(hq:0≤q+c)(hne:q+c≠0)(h1:-2147483647≤a-f*c)(h2:a-f*c≤2147483647)(h3:-2147483647≤a)(h4:a≤2147483647)(hp:0≤p+a:=by omega):-4294967296≤f*q∧f*q≤4611686022722355200:=by
 have e1:f*(q+c)≤p+a:=by rw [hf];exact Int.ediv_mul_le _ hne
 have e2:0≤f*(q+c):=Int.mul_nonneg hf0 hq;rw [Int.mul_add] at e1 e2;omega
theorem mg{f c:Int}(h0:0≤f)(h1:f≤2147483647)(h2:-2147483647≤c)(h3:c≤2147483647):f*c≤4611686014132420609∧-4611686014132420609≤f*c:=by
 have a:=Int.mul_le_mul_of_nonneg_left h3 h0;have b:=Int.mul_le_mul_of_nonneg_left h2 h0;omega
theorem nt(X Y D p0 q0:Int)(w:World)(h0:Leh X Y D true 1 0 0 1 p0 q0)(hD:0<D) :
  Calls Tryz.prog 209 #[.int .i64 p0,.int .i64 q0] w (CR X Y D w):=by
 have H0:=Hi h0;have b1:=h0.Q2;clear h0;go_enter Tryz.func209,Tryz.ntmps209;go_wp2
 go_loopg [0,1,4,5,6,7] (q0+1).toNat (fun g p' q' a' b' c' d' wr=>∃ (s:Bool) (a b c d p q:Int),p'=.int .i64 p∧q'=.int .i64 q∧a'=.int .i64 a∧b'=.int .i64 b∧c'=.int .i64 c∧d'=.int .i64 d∧Leh X Y D s a b c d p q∧(g:Int)=q+d∧w=wr)
 case atStart=>exact ⟨true,1,0,0,1,p0,q0,rfl,rfl,rfl,rfl,rfl,rfl,H0.out,zo,rfl⟩
 case round =>
  obtain ⟨s,a,b,c,d,p,q,rfl,rfl,rfl,rfl,rfl,rfl,hL,hg,rfl⟩:=hrel;have hP1:=hL.P1;have hP2:=hL.P2;have hQ1:=hL.Q1;have hQ2:=hL.Q2;have hP1':=hL.P1';have hP2':=hL.P2';have hQ1':=hL.Q1';have hQ2':=hL.Q2';obtain ⟨hb1,hb2,hb3,hb4,hb5,hb6,hb7,hb8⟩:=hL.bd;have HL:=Hi hL;have HG:=Hi hg;clear hL hg H0;by_cases q1:q+c=0
  ·have q1b:(q+c != 0)=false:=by simp [q1]
   have Q1e:=Hi q1;clear q1;go_wp2;exact nXa (v:=.tuple #[.int .i64 a,.int .i64 b,.int .i64 c,.int .i64 d]) (by simp [results,Tryz.results209,go_sem]) rfl ⟨_,_,_,_,_,_,_,rfl,HL.out,rfl⟩
  ·have q1b:(q+c != 0)=true:=by simp [q1]
   have q1e:(q+c == 0)=false:=by simp [q1]
   by_cases q2:q+d=0
   ·have q2b:(q+d != 0)=false:=by simp [q2]
    have Q2e:=Hi q2;clear q2;go_wp2;exact nXa (v:=.tuple #[.int .i64 a,.int .i64 b,.int .i64 c,.int .i64 d]) (by simp [results,Tryz.results209,go_sem]) rfl ⟨_,_,_,_,_,_,_,rfl,HL.out,rfl⟩
   ·have q2b:(q+d != 0)=true:=by simp [q2]
    have q2e:(q+d == 0)=false:=by simp [q2]
    obtain ⟨f,hf⟩:∃ f,f=(p+a) / (q+c):=⟨_,rfl⟩;obtain ⟨f',hf'⟩:∃ f,f=(p+b) / (q+d):=⟨_,rfl⟩;have hf0:0≤f:=by rw [hf];exact Int.ediv_nonneg hP1 hQ1
    have hf0':0≤f':=by rw [hf'];exact Int.ediv_nonneg hP2 hQ2
    have HF:=Hi hf;have HF':=Hi hf';clear hf hf'
    go_upto_region 4 with fail
    rw [←HF.out];by_cases hff:f=f'∧f≤2147483647
    ·obtain ⟨hff,hfl⟩:=hff;have hnb:(f != (p+b) / (q+d))=false:=by rw [←HF'.out,←hff];simp
     have hfld:decide (2147483647<f)=false:=by simp;omega
     have Hff:=Hi hff;clear hff;have m1:f*c≤4611686014132420609∧-4611686014132420609≤f*c:=mg hf0 hfl hb5 hb6;have m2:f*d≤4611686014132420609∧-4611686014132420609≤f*d:=mg hf0 hfl hb7 hb8;obtain ⟨m1,m1'⟩:=m1;obtain ⟨m2,m2'⟩:=m2;obtain ⟨M,hM1,hM2⟩:=FP (a-f*c) (b-f*d)
     go_upto_region 6 with fail
     have hmx:∀ w:World,(Builtin.max_ #[2,2,2,2] 2 #[.int .i64 (a-f*c),.int .i64 (-(a-f*c)),.int .i64 (b-f*d),.int .i64 (-(b-f*d))]).run Tryz.prog w=.ok (.int .i64 M) w:=fun w=>hM1 _ _ _ w
     have HM2:=Hi hM2;clear hM1 hM2;by_cases hMl:M≤2147483647
     ·have hMd:decide (2147483647<M)=false:=by simp;omega
      have hb:=HM2.out.1 hMl;have HFQ:=Hi (E8 hP1' HF.out hf0 hQ1 (by intro h;simp [h] at q1e) hb.1 hb.2.1 hb1 hb2);obtain ⟨fq1,fq2⟩:=HFQ.out;have hpq:-9223372036854775808≤p-f*q∧p-f*q≤9223372036854775807:=zo;have q1':q+c≠0:=by intro h;simp [h] at q1e
      have q2':q+d≠0:=by intro h;simp [h] at q2e
      have hS:=HL.out.step hD q1' q2' HF.out (by rw [Hff.out];exact HF'.out) hb;have hlt:p-f*q+(b-f*d)<q+d:=by
       have e:p-f*q+(b-f*d)=(p+b) % (q+d):=by
        have:=Int.mul_ediv_add_emod (p+b) (q+d);rw [←HF'.out,←Hff.out] at this;grind
       rw [e];exact Int.emod_lt_of_pos _ zo
      have hge:0≤p-f*q+(b-f*d):=hS.Q2;have HS:=Hi hS;have Hlt:=Hi hlt;have Hge:=Hi hge;clear hS hlt hge hb q1' q2';go_wp2
      go_roundg (p-f*q+(b-f*d)).toNat
      case measure=>have:=Hlt.out;have:=Hge.out;have:=HG.out;omega
      case rel=>exact ⟨_,_,_,_,_,_,_,rfl,rfl,rfl,rfl,rfl,rfl,HS.out,by have:=Hge.out;omega,rfl⟩
     ·have hMd:decide (2147483647<M)=true:=by simp;omega
      go_wp2;exact nXa (v:=.tuple #[.int .i64 a,.int .i64 b,.int .i64 c,.int .i64 d]) (by simp [results,Tryz.results209,go_sem]) rfl ⟨_,_,_,_,_,_,_,rfl,HL.out,rfl⟩
    ·have Hno:=Hi hff;clear hff;by_cases hff:f=f'
     ·have hnb:(f != (p+b) / (q+d))=false:=by rw [←HF'.out,←hff];simp
      have hfld:decide (2147483647<f)=true:=by have:=Hno.out;simp;omega
      have Hff:=Hi hff;clear hff;go_wp2;exact nXa (v:=.tuple #[.int .i64 a,.int .i64 b,.int .i64 c,.int .i64 d]) (by simp [results,Tryz.results209,go_sem]) rfl ⟨_,_,_,_,_,_,_,rfl,HL.out,rfl⟩
     ·have hnb:(f != (p+b) / (q+d))=true:=by rw [←HF'.out];simp [hff]
      have Hff:=Hi hff;clear hff;go_wp2;exact nXa (v:=.tuple #[.int .i64 a,.int .i64 b,.int .i64 c,.int .i64 d]) (by simp [results,Tryz.results209,go_sem]) rfl ⟨_,_,_,_,_,_,_,rfl,HL.out,rfl⟩
structure EF (x y:List Nat) (f g:Int) (w wr:World) (i:Nat) (c:Int):Prop where
 ext:Ext w wr
 le:i≤x.length
 db:∃ os,DB wr w.heap.size (os++List.replicate (x.length-i) 0) #[]∧os.length=i∧Dig os∧(val os:Int)+(W32:Int) ^ i*c=f*val (x.take i)+g*val (y.take i)
 c0:-2147483648≤c
 c1:c≤2147483647
theorem EF.next{x y:List Nat}{f g:Int}{w wr:World}{i:Nat}{c t:Int}{d e:Nat}(h:EF x y f g w wr i c)(hi:i<x.length)(ht:t=f*d+c+g*e)(hd:d=x.getD i 0)(he:val (y.take (i+1))=val (y.take i)+W32 ^ i*e)(t0:-9223372036854775808≤t)(t1:t≤9223372036854775807) :
  EF x y f g w (wr.setCell ⟨w.heap.size,i,none⟩ (.int .u32 (t % 4294967296))) (i+1) (t / 4294967296):=by
 obtain ⟨os,h1,h2,h3,h4⟩:=h.db;obtain ⟨r,hr⟩:∃ r:Nat,(r:Int)=t % 4294967296:=⟨(t % 4294967296).toNat,zo⟩;rw [←hr];refine ⟨Ext.set h.ext (nXe _) _,hi,⟨os++[r],?_,by simp [h2],h3.append (Dig.cons (by unfold W32;omega) Dig.nil),?_⟩,zo,zo⟩
 ·have h5:=h1.set (i:=i) (by simp [h2];omega) r;subst h2;rw [show x.length-os.length=x.length-(os.length+1)+1 by omega,gL] at h5;exact h5
 ·rw [bp,h2,au hi,he,←hd];have e1:t=4294967296*(t / 4294967296)+r:=by omega
  have e2:(W32:Int) ^ i*t=(W32:Int) ^ (i+1)*(t / 4294967296)+(W32:Int) ^ i*r:=by
   conv=>lhs;rw [e1]
   rw [Int.pow_succ,Int.mul_add,Int.mul_assoc];rfl
  rw [ht] at e2;simp only [Int.natCast_add,Int.natCast_mul,Int.natCast_pow];rw [←ht] at e2;generalize t / 4294967296=K at *
  generalize (W32:Int) ^ (i+1)=P1 at *
  generalize (W32:Int) ^ i=P at *
  subst ht;grind
theorem kC{f:Int}{d:Nat}(h1:-2147483647≤f)(h2:f≤2147483647)(hd:d<4294967296):-9223372030412324865≤f*d∧f*d≤9223372030412324865:=by
 have a:=Int.mul_le_mul_of_nonneg_right h1 (show (0:Int)≤d by omega);have b:=Int.mul_le_mul_of_nonneg_right h2 (show (0:Int)≤d by omega);omega
theorem ug{f g:Int}{d e:Nat}(h:f≤0∧0≤g∨0≤f∧g≤0):f*d≤0∧0≤g*e∨0≤f*d∧g*e≤0:=by
 rcases h with ⟨h1,h2⟩|⟨h1,h2⟩
 ·exact Or.inl ⟨Int.mul_nonpos_of_nonpos_of_nonneg h1 zo,Int.mul_nonneg h2 zo⟩
 ·exact Or.inr ⟨Int.mul_nonneg h1 zo,Int.mul_nonpos_of_nonpos_of_nonneg h2 zo⟩
theorem lk(ao bo:Option Addr)(n ac m bc:Nat)(x y:List Nat)(f g:Int)(w:World)(ha:U32 w ao n ac x)(hb:U32 w bo m bc y)(hmn:m≤n)(hn:n≤4294967296)(hf1:-2147483647≤f)(hf2:f≤2147483647)(hg1:-2147483647≤g)(hg2:g≤2147483647)
 (hsg:f≤0∧0≤g∨0≤f∧g≤0)(R:Nat)(hR:(R:Int)=f*val x+g*val y)(hRl:R≤val x) :
  Calls Tryz.prog 211 #[.slice ao n ac,.slice bo m bc,.int .i64 f,.int .i64 g] w (iM (digs R) w):=by
 obtain ⟨i0,hi0,hz0,hz1,hz2⟩:=info_parts eO;have hxl:=ha.len;have hyl:=hb.len;subst hxl hyl;have HX:=Hi ha;have HY:=Hi hb;have HR:=Hi hR;clear ha hb hR;have HS:=Hi hsg;clear hsg;go_enter Tryz.func211,Tryz.ntmps211
 go_wp2_with (refine aB rfl (.tmp 15) (.tmp 15) 33 rfl 124 i0 (.int .u32 0) 1 Tryz.underlying33 hi0 hz0 hz1 _ _ x.length rfl rfl (by simp) (by simp) (by rw [hz2];omega) zo ?_;intro w1 hnew hE)
 have I0:EF x y f g w w1 0 0:=⟨hE,Nat.zero_le _,⟨[],by have:=DB.make rfl hnew;simpa using this,rfl,Dig.nil,by simp [val]⟩,zo,zo⟩;have HI0:=Hi I0;clear I0 hnew hE;go_wp2
 go_loopg [10,19] x.length (fun gh c i wr=>∃ (j:Nat) (k:Int),j+gh=x.length∧i=.int .i64 j∧c=.int .i64 k∧EF x y f g w wr j k)
 case atStart=>exact ⟨0,0,zo,rfl,rfl,HI0.out⟩
 case round =>
  obtain ⟨j,k,hj,rfl,rfl,hI⟩:=hrel;have hk0:=hI.c0;have hk1:=hI.c1;have HI:=Hi hI;clear hI HI0;have hLw:w.heap.size<wr.heap.size∨x.length=0:=by
   by_cases h:x.length=0
   ·exact Or.inr h
   ·left
    obtain ⟨os,h,_⟩:=HI.out.db;exact (nXb.1 h).1
  by_cases hlt:j<x.length
  ·obtain ⟨g1,rfl⟩:∃ g1,gk=g1+1:=⟨gk-1,zo⟩;have hLw:w.heap.size<wr.heap.size:=zo;obtain ⟨b,off,d,hao,hc,hd,hdl⟩:=HX.out.at hlt;subst hao;replace hc:=HI.out.ext.cell hc;have hcL:∃ z,wr.cell? ⟨w.heap.size,j,none⟩=some (.int .u32 z):=by obtain ⟨os,h,h2,_⟩:=HI.out.db;exact ⟨_,h.cell (by simp [h2];omega)⟩
   obtain ⟨z,hcL⟩:=hcL;have hfL:wr.frozen? ⟨w.heap.size,j,none⟩=false:=by obtain ⟨os,h,h2,_⟩:=HI.out.db;exact h.frozen _
   have Hd:=Hi hd;clear hd;obtain ⟨pf1,pf2⟩:=kC hf1 hf2 hdl;by_cases hy:j<y.length
   ·obtain ⟨b',off',e,hao',hc',he,hel⟩:=HY.out.at hy;subst hao';replace hc':=HI.out.ext.cell hc';have He:=Hi he;clear he;obtain ⟨pg1,pg2⟩:=kC hg1 hg2 hel;have hsp:=ug (d:=d) (e:=e) HS.out;have t0:-9223372036854775808≤f*d+k+g*e:=zo;have t1:f*d+k+g*e≤9223372036854775807:=zo;clear hsp;go_wp2
    go_roundg g1
    case measure=>omega
    case rel=>exact ⟨j+1,_,zo,by go_num,rfl,HI.out.next hlt rfl Hd.out (by rw [au hy,←He.out]) t0 t1⟩
   ·go_wp2
    go_roundg g1
    case measure=>omega
    case rel=>exact ⟨j+1,_,zo,by go_num,rfl,HI.out.next (e:=0) hlt zo Hd.out (iV zo) zo zo⟩
  ·have hj':j=x.length:=by omega
   subst hj';clear hj;have hfin:∃ zs,val zs=R∧U32 wr (some ⟨w.heap.size,0,none⟩) x.length x.length zs:=by
    obtain ⟨os,h,h2,h6,h7⟩:=HI.out.db;rw [Nat.sub_self,List.replicate_zero,List.append_nil] at h;rw [aw (nXe _),aw hmn,←HR.out] at h7;refine ⟨os,?_,h.u32 h2 (nXe _) zo h6⟩;have b1:=bE h6;have b2:=bE HX.out.dig;rw [h2] at b1;have hk:k=0:=by
     have hP:(0:Int)<(W32:Int) ^ x.length:=Int.pow_pos dZ;have e1:((W32 ^ x.length:Nat):Int)=(W32:Int) ^ x.length:=Int.natCast_pow _ _;rcases Int.lt_trichotomy k 0 with hk|hk|hk
     ·have:=Int.mul_le_mul_of_nonneg_left (show k≤-1 by omega) (Int.le_of_lt hP);omega
     ·exact hk
     ·have:=Int.mul_le_mul_of_nonneg_left (show 1≤k by omega) (Int.le_of_lt hP);omega
    rw [hk,Int.mul_zero] at h7;omega
   obtain ⟨zs,hz,hU⟩:=hfin;have HZ:=Hi hz;have HU:=Hi hU;clear hz hU
   go_wp2_with fail
   refine (bJ _ _ _ _ _ HU.out).mono ?_;rintro e w2 ⟨rfl,rfl⟩;go_wp2
   go_ret
   rw [HZ.out];exact iM.of HU.out HI.out.ext HZ.out
theorem eE(w:World)(a:Nat)(ha:a<4294967296):U32 (w.alloc (.cells #[.int .u32 (a:Int)] 124)) (some ⟨w.heap.size,0,none⟩) 1 1 [a] :=
 (show DB _ _ [a] #[] from heap_alloc_new w _).u32 rfl (nXe _) dZ (Dig.cons ha Dig.nil)
theorem mz(w:World)(a b:Nat)(ha:a<4294967296)(hb:b<4294967296):U32 (w.alloc (.cells #[.int .u32 (a:Int),.int .u32 (b:Int)] 124)) (some ⟨w.heap.size,0,none⟩) 2 2 [a,b] :=
 (show DB _ _ [a,b] #[] from heap_alloc_new w _).u32 rfl (nXe _) dZ (Dig.cons ha (Dig.cons hb Dig.nil))
def EC(X Y:Nat)(w:World)(e:Ending)(w':World):Prop :=
 ∃ X' Y' ao n ac bo m bc,e=.returned (.tuple #[.slice ao n ac,.slice bo m bc])∧U32 w' ao n ac (digs X')∧U32 w' bo m bc (digs Y')∧Ext w w'∧Y' < Y∧Y'≤X'∧X'≤X∧Nat.gcd X' Y'=Nat.gcd X Y
theorem BW{X Y n s D:Nat}(hX:X*2 ^ s<W32 ^ n)(hn:3≤n)(hs:s<32)(hle:Y≤X)(hD:D=W32 ^ (n-3)*2 ^ (32-s)*4):0<D∧Leh X Y D true 1 0 0 1 ((X / D:Nat):Int) ((Y / D:Nat):Int):=by
 have hD0:0<D:=by rw [hD];exact Nat.mul_pos (Nat.mul_pos (nYn aI) (Nat.two_pow_pos _)) dZ
 have hP:=gp (nYm hs);have hlt:X<D*4611686018427387904:=by
  refine Nat.lt_of_mul_lt_mul_right (a:=2 ^ s) ?_;rw [hD,show W32 ^ (n-3)*2 ^ (32-s)*4*4611686018427387904*2 ^ s=W32 ^ (n-3)*(2 ^ s*2 ^ (32-s))*18446744073709551616 by grind,hP];refine nXn hX ?_
  conv=>lhs;rw [show n=n-3+1+1+1 by omega,nXu,nXu,nXu]
  rw [show (18446744073709551616:Nat)=W32*W32 from rfl,show (4294967296:Nat)=W32 from rfl];simp only [Nat.mul_assoc,nXe]
 have px:X / D<4611686018427387904:=by rw [Nat.div_lt_iff_lt_mul hD0,nYf];exact hlt
 have py:Y / D<4611686018427387904:=nYl (Nat.div_le_div_right hle) px;have x1:=Nat.mul_div_le X D;have x2:=Nat.lt_mul_div_succ X hD0;have y1:=Nat.mul_div_le Y D;have y2:=Nat.lt_mul_div_succ Y hD0;refine ⟨hD0,Leh.first zo zo ?_ ?_ ?_ ?_ (Int.natCast_nonneg _) (Int.natCast_nonneg _) zo zo⟩
 ·rw [←Int.natCast_mul];exact Int.ofNat_le.2 x1
 ·rw [show ((X / D:Nat):Int)+1=((X / D+1:Nat):Int) by omega,←Int.natCast_mul];exact Int.ofNat_le.2 (nYm x2)
 ·rw [←Int.natCast_mul];exact Int.ofNat_le.2 y1
 ·rw [show ((Y / D:Nat):Int)+1=((Y / D+1:Nat):Int) by omega,←Int.natCast_mul];exact Int.ofNat_le.2 (nYm y2)
theorem vg{X Y D:Int}{s:Bool}{a b c d p q:Int}(h:Leh X Y D s a b c d p q):(a≤0∧0≤b∨0≤a∧b≤0)∧(c≤0∧0≤d∨0≤c∧d≤0):=by
 have:=h.sg;cases s <;> simp at this <;> omega
theorem pf(ao bo:Option Addr)(n ac m bc X Y:Nat)(w:World)(ha:U32 w ao n ac (digs X))(hb:U32 w bo m bc (digs Y))(hle:Y≤X)(hm:2<m)(hn:n≤4294967296) :
  Calls Tryz.prog 203 #[.slice ao n ac,.slice bo m bc] w (EC X Y w):=by
 have hmn:m≤n:=by rw [←ha.len,←hb.len];exact bT hle
 have hY0:Y≠0:=by
  intro h;have:=hb.len;rw [h,aS] at this;simp at this;omega
 obtain ⟨xb,xoff,d,hxo,hcx,hd,hdl⟩:=ha.at (k:=n-1) zo;subst hxo;obtain ⟨n1,hn1⟩:∃ n1,n=n1+1:=⟨n-1,zo⟩;have hd':d=(digs X).getD n1 0:=by rw [hd,hn1];rfl
 have hd0:=(mB (by rw [ha.len,hn1]) hd').1;obtain ⟨s,hs⟩:∃ s,s=32-Lib.bitLen d:=⟨_,rfl⟩;obtain ⟨hs32,hXs,-⟩:=kr (by rw [ha.len,hn1]) hd' hs hdl;rw [←hn1] at hXs;have hYs:Y*2 ^ s<W32 ^ n:=nYl (nXh _ hle) hXs;obtain ⟨D,hD⟩:∃ D,D=W32 ^ (n-3)*2 ^ (32-s)*4:=⟨_,rfl⟩;obtain ⟨hD0,hL⟩:=BW hXs zo hs32 hle hD;have hm1i:(n:Int)-1=((n-1:Nat):Int):=zo;have HA:=Hi ha;have HB:=Hi hb;have HS:=Hi hs;have HXs:=Hi hXs;have HYs:=Hi hYs;have HD:=Hi hD;have HL:=Hi hL;have hsi:(s:Int)<32:=zo;clear ha hb hd hd' hs hXs hYs hD hL hn1;go_enter Tryz.func203,Tryz.ntmps203
 go_wp2_with fail
 refine (rA _ _ hd0 hdl).mono ?_;rintro e w1 ⟨rfl,rfl⟩;rw [←HS.out]
 go_wp2_with fail
 refine (kS _ _ _ n s _ _ HA.out (nXe _) zo hn hs32 (by rw [ag];exact HXs.out)).mono ?_;rintro e w2 ⟨rfl,hE2⟩;rw [ag,←HD.out];have HE2:=Hi hE2;clear hE2
 go_wp2_with fail
 refine (kS _ _ _ n s _ _ (HB.out.ext HE2.out) hmn zo hn hs32 (by rw [ag];exact HYs.out)).mono ?_;rintro e w3 ⟨rfl,hE3⟩;rw [ag,←HD.out];have HE3:=Hi (HE2.out.trans hE3);clear hE3 HE2
 go_wp2_with fail
 refine (nt _ _ _ _ _ _ HL.out zo).mono ?_;rintro e w4 ⟨a,b,c,dd,sg,p,q,rfl,hC,rfl⟩;have HC:=Hi hC;obtain ⟨hb1,hb2,hb3,hb4,hb5,hb6,hb7,hb8⟩:=hC.bd;clear hC;by_cases hb0:b=0
 ·subst hb0
  go_wp2_with fail
  refine (jF _ _ _ _ _ _ _ _ _ (HA.out.ext HE3.out) (HB.out.ext HE3.out) hY0 hn).mono ?_;rintro e w5 ⟨a1,n1,c1,b2,m2,c2,rfl,h1,h2,hE⟩;have H2:=Hi h2;have HE5:=hE.tr HE3;clear h1 h2 hE;go_wp2
  go_ret2
  refine ⟨Y,X % Y,_,_,_,_,_,_,rfl,HB.out.ext HE5.out,H2.out,HE5.out,Nat.mod_lt _ zo,nYm (Nat.mod_lt _ zo),hle,?_⟩;rw [Nat.gcd_comm Y,←Nat.gcd_rec,Nat.gcd_comm]
 ·have hb0b:(b == 0)=false:=by simp [hb0]
  obtain ⟨o1,o2⟩:=HC.out.on.resolve_left hb0;obtain ⟨sg1,sg2⟩:=vg HC.out;have hnn:=HC.out.nn;have hleX:=HC.out.leX;have hg:=HC.out.g;obtain ⟨X',hX'⟩:∃ X':Nat,(X':Int)=a*X+b*Y:=⟨(a*X+b*Y).toNat,zo⟩;obtain ⟨Y',hY'⟩:∃ Y':Nat,(Y':Int)=c*X+dd*Y:=⟨(c*X+dd*Y).toNat,zo⟩;rw [←hX'] at o2 hleX hg;rw [←hY'] at o1 o2 hnn hg;have HX':=Hi hX';have HY':=Hi hY';have HSg1:=Hi sg1;have HSg2:=Hi sg2;have HG:=Hi hg;have HO:=Hi (And.intro o1 (And.intro o2 hleX));clear hX' hY' sg1 sg2 hg o1 o2 hleX hnn HC
  go_wp2_with fail
  refine (lk _ _ _ _ _ _ _ _ _ _ _ (HA.out.ext HE3.out) (HB.out.ext HE3.out) hmn hn hb1 hb2 hb3 hb4 HSg1.out X' (by rw [ag,ag];exact HX'.out) (by rw [ag];have:=HO.out;omega)).mono ?_;rintro e w5 ⟨a1,n1,c1,rfl,h1,hE⟩;have H1:=Hi h1;have HE5:=hE.tr HE3;clear h1 hE
  go_wp2_with fail
  refine (lk _ _ _ _ _ _ _ _ _ _ _ (HA.out.ext HE5.out) (HB.out.ext HE5.out) hmn hn hb5 hb6 hb7 hb8 HSg2.out Y' (by rw [ag,ag];exact HY'.out) (by rw [ag];have:=HO.out;omega)).mono ?_;rintro e w6 ⟨a2,n2,c2,rfl,h2,hE⟩;have H2:=Hi h2;have HE6:=Hi hE;clear h2 hE;go_wp2
  go_ret2
  refine ⟨X',Y',_,_,_,_,_,_,rfl,H1.out.ext HE6.out,H2.out,HE5.out.trans HE6.out,by have:=HO.out;omega,by have:=HO.out;omega,by have:=HO.out;omega,?_⟩;have:=HG.out
  rwa [Int.gcd_natCast_natCast,Int.gcd_natCast_natCast] at this
theorem Cc(ao bo:Option Addr)(n ac m bc:Nat)(ds es:List Nat)(w:World)(ha:U32 w ao n ac ds)(hb:U32 w bo m bc es)(hn:n≤4294967296)(hm:m≤4294967296) :
  Calls Tryz.prog 182 #[.slice ao n ac,.slice bo m bc] w (iM (digs (Nat.gcd (val ds) (val es))) w):=by
 have HA:=Hi ha;have HB:=Hi hb;have hxl:=aE ha.dig;have hyl:=aE hb.dig;rw [ha.len] at hxl;rw [hb.len] at hyl;clear ha hb;obtain ⟨X0,hX0⟩:∃ X,X=val ds:=⟨_,rfl⟩;obtain ⟨Y0,hY0⟩:∃ Y,Y=val es:=⟨_,rfl⟩;rw [←hX0,←hY0];rw [←hX0] at hxl;rw [←hY0] at hyl;have HX0:=Hi hX0;have HY0:=Hi hY0;clear hX0 hY0;go_enter Tryz.func182,Tryz.ntmps182
 go_wp2_with fail
 refine (mA _ _ _ _ _ HA.out hn).mono ?_;rintro e w1 ⟨a1,n1,c1,rfl,h1,hE1⟩;rw [et HA.out.dig,←HX0.out] at h1;have HE1:=Hi hE1;have H1:=Hi h1;clear h1 hE1
 go_wp2_with fail
 refine (mA _ _ _ _ _ (HB.out.ext HE1.out) hm).mono ?_;rintro e w2 ⟨a2,n2,c2,rfl,h2,hE2⟩;rw [et HB.out.dig,←HY0.out] at h2;have HE2:=Hi hE2;have H2:=Hi h2;clear h2 hE2
 go_wp2_with fail
 refine (dQ _ _ _ _ _ _ _ _ _ (H1.out.ext HE2.out) H2.out).mono ?_;rintro e w3 ⟨rfl,hE3⟩;rw [ag,ag];have HE3:=Hi hE3;clear hE3;have HE:=Hi ((HE1.out.trans HE2.out).trans HE3.out);have H1':=Hi (H1.out.ext (HE2.out.trans HE3.out));have H2':=Hi (H2.out.ext HE3.out);have hn1:=H1.out.len;have hn2:=H2.out.len;have hnb:n1≤4294967296:=zo;have hnb2:n2≤4294967296:=zo;clear H1 H2 HE1 HE2 HE3 hxl hyl hn1 hn2;obtain ⟨cc,hcc⟩:∃ cc,cc=bU (X0:Nat) (Y0:Nat):=⟨_,rfl⟩;rw [←hcc];have Hcc:=Hi hcc;clear hcc
 go_upto_if 18 with fail
 go_cut [5,6] (fun p q wr=>∃ X Y ao n ac bo m bc,p=.slice ao n ac∧q=.slice bo m bc∧U32 wr ao n ac (digs X)∧U32 wr bo m bc (digs Y)∧n≤4294967296∧Y≤X∧Nat.gcd X Y=Nat.gcd X0 Y0∧Ext w wr)
 case first =>
  by_cases hlt:X0<Y0
  ·have hc1:cc<0:=by rw [Hcc.out,dG zo];decide
   go_wp2
   go_meet
   case rel=>exact ⟨_,_,_,_,_,_,_,_,rfl,rfl,H2'.out,H1'.out,hnb2,zo,Nat.gcd_comm _ _,HE.out⟩
  ·have hc1:0≤cc:=by
    rw [Hcc.out];unfold bU;rw [if_neg zo];split <;> decide
   go_wp2
   go_meet
   case rel=>exact ⟨_,_,_,_,_,_,_,_,rfl,rfl,H1'.out,H2'.out,hnb,zo,rfl,HE.out⟩
 case rest =>
  obtain ⟨X,Y,xo,n',xc,yo,m',yc,rfl,rfl,h1,h2,h3,h4,h5,h6⟩:=hcut;clear H1' H2' HE hnb hnb2 Hcc HA HB HX0 HY0;have G1:=Hi h1;have G2:=Hi h2;have G5:=Hi h5;have G6:=Hi h6;clear h1 h2 h5 h6;go_wp2
  go_loopg [5,6] Y (fun g p q wr=>∃ X ao n ac bo m bc,p=.slice ao n ac∧q=.slice bo m bc∧U32 wr ao n ac (digs X)∧U32 wr bo m bc (digs g)∧n≤4294967296∧g≤X∧Nat.gcd X g=Nat.gcd X0 Y0∧Ext w wr)
  case atStart=>exact ⟨_,_,_,_,_,_,_,rfl,rfl,G1.out,G2.out,h3,h4,G5.out,G6.out⟩
  case round =>
   obtain ⟨X1,xo1,n1,xc1,yo1,m1,yc1,rfl,rfl,h1,h2,h3,h4,h5,h6⟩:=hrel;clear G1 G2 G5 G6;have K1:=Hi h1;have K2:=Hi h2;have K5:=Hi h5;have K6:=Hi h6;clear h1 h2 h5 h6;by_cases hm2:2<m1
   ·have hd:decide (2<(m1:Int))=true:=by simp;omega
    go_wp2_with fail
    refine (pf _ _ _ _ _ _ _ _ _ K1.out K2.out h4 hm2 h3).mono ?_;rintro e w4 ⟨X',Y',ao',n',ac',bo',m',bc',rfl,g1,g2,g3,g4,g5,g6,g7⟩;have J1:=Hi g1;have J2:=Hi g2;have J3:=Hi g3;have J7:=Hi g7;have hl:n'≤4294967296:=by
     have e1:=g1.len;have e2:=K1.out.len;have:=bT g6;omega
    clear g1 g2 g3 g7;go_wp2
    go_roundg Y'
    case measure=>exact g4
    case rel=>exact ⟨_,_,_,_,_,_,_,rfl,rfl,J1.out,J2.out,hl,g5,by rw [J7.out];exact K5.out,K6.out.trans J3.out⟩
   ·have hd:decide (2<(m1:Int))=false:=by simp;omega
    by_cases hm0:m1=0
    ·subst hm0;go_wp2
     go_ret
     have hg0:gk=0:=bD.1 (nXj.1 K2.out.len);have:=K5.out;rw [hg0,Nat.gcd_zero_right] at this;exact ⟨_,_,_,rfl,by rw [←this];exact K1.out,K6.out⟩
    ·have hm0b:((m1:Int) == 0)=false:=by rw [nXs];omega
     have hg0:gk≠0:=by
      intro h;have:=K2.out.len;rw [h,aS] at this;exact hm0 this.symm
     have hgl:gk<18446744073709551616:=by
      have h1:=bE (cF gk);rw [ag,K2.out.len] at h1;have h2:W32 ^ m1≤W32 ^ 2:=nXp aI zo;exact nXn h1 h2
     go_wp2_with fail
     refine (jF _ _ _ _ _ _ _ _ _ K1.out K2.out hg0 h3).mono ?_;rintro e w4 ⟨a1,n1',c1,b2,m2,c2,rfl,g1,g2,hE⟩;have J2:=Hi g2;have HE4:=Hi hE;have hm22:m2≤2:=by
      have e1:=g2.len;have:=bT (nYm (Nat.mod_lt X1 (Nat.pos_of_ne_zero hg0)));have e2:=K2.out.len;omega
     clear g1 g2 hE
     go_wp2_with fail
     refine (nT _ _ _ _ _ (K2.out.ext HE4.out) zo).mono ?_;rintro e w5 ⟨rfl,rfl⟩;rw [ag]
     go_wp2_with fail
     refine (nT _ _ _ _ _ J2.out hm22).mono ?_;rintro e w5 ⟨rfl,rfl⟩;rw [ag];have hq:X1 % gk<gk:=Nat.mod_lt _ (Nat.pos_of_ne_zero hg0);have hG:Nat.gcd gk (X1 % gk)=Nat.gcd X0 Y0:=by rw [Nat.gcd_comm gk,←Nat.gcd_rec,Nat.gcd_comm];exact K5.out
     obtain ⟨q0,hq0⟩:∃ q,q=X1 % gk:=⟨_,rfl⟩;rw [←hq0] at hq hG;rw [show ((X1 % gk:Nat):Int)=(q0:Int) by rw [hq0]];obtain ⟨p0,hp0⟩:∃ p,p=gk:=⟨_,rfl⟩;rw [←hp0] at hq hG hgl;rw [show ((gk:Nat):Int)=(p0:Int) by rw [hp0]];have HG:=Hi hG;have HEE:=Hi (K6.out.trans HE4.out);clear hG hq0 hp0;go_wp2
     go_loopg [9,10] q0 (fun g p q wr=>∃ P:Nat,p=.int .u64 (P:Nat)∧q=.int .u64 (g:Nat)∧P<18446744073709551616∧g<18446744073709551616∧Nat.gcd P g=Nat.gcd X0 Y0∧Ext w wr)
     case atStart=>exact ⟨p0,rfl,rfl,hgl,zo,HG.out,HEE.out⟩
     case round =>
      obtain ⟨P,rfl,rfl,hP,hQ,hG,hE⟩:=hrel;have HG2:=Hi hG;have HE2:=Hi hE;clear hG hE HG HEE;by_cases hq0:gk=0
      ·subst hq0;have hPd:P=Nat.gcd X0 Y0:=by have:=HG2.out;rwa [Nat.gcd_zero_right] at this
       have HPd:=Hi hPd;clear hPd
       go_wp2_with fail
       rw [show ((P:Int) % 4294967296)=((P % 4294967296:Nat):Int) by omega,show ((P:Int) / 4294967296)=((P / 4294967296:Nat):Int) by omega];have hU2:=mz wr (P % 4294967296) (P / 4294967296) (Nat.mod_lt _ dZ) zo;have HU2:=Hi hU2;clear hU2;refine (bJ _ _ _ _ _ HU2.out).mono ?_;rintro e w3 ⟨rfl,rfl⟩;go_wp2
       go_ret
       have hv:val [P % 4294967296,P / 4294967296]=P:=by simp only [val];unfold W32;omega
       rw [show digs (Nat.gcd X0 Y0)=digs P by rw [←HPd.out],hv];exact iM.of HU2.out (HE2.out.trans (Ext.alloc _ _)) hv
      ·have hqb:((gk:Int) != 0)=true:=by simp;omega
       have hqe:((gk:Int) == 0)=false:=by simp;omega
       go_wp2
       go_quiet (fail)
       go_wp2
       go_roundg (P % gk)
       case measure=>exact Nat.mod_lt _ zo
       case rel =>
        have hlt:P % gk<gk:=Nat.mod_lt _ zo;exact ⟨gk,rfl,congrArg _ (by simp),hQ,zo,by rw [Nat.gcd_comm gk,←Nat.gcd_rec,Nat.gcd_comm];exact HG2.out,HE2.out.trans (Ext.drewN _ _)⟩
def A1{α:Type}(mk:α→Value)(φ:α→World→Prop)(w:World)(e:Ending)(w':World):Prop:=∃ x,e=.returned (mk x)∧Ext w w'∧φ x w'
def ar(f:FuncId)(args:List Value)(w:World){α:Type}(mk:α→Value)(φ:α→World→Prop):Prop :=
 Calls Tryz.prog f args.toArray w (A1 mk φ w)
theorem cM{f:FuncId}{args:List Value}{w:World}{α:Type}{mk:α→Value}{φ:α→World→Prop}{Q:Ending→World→Prop}(h:ar f args w mk φ)(k:∀ (x:α) w2,Ext w w2→RowKit.Hid (φ x w2)→Q (.returned (mk x)) w2):Calls Tryz.prog f args.toArray w Q:=Calls.mono h (by rintro e w2 ⟨x,rfl,h1,h2⟩;exact k x w2 h1 h2)
theorem Ext.al1{w:World}{a:Obj}:Ext w (w.alloc a):=Ext.alloc _ _
theorem Ext.al2{w:World}{a b:Obj}:Ext w ((w.alloc a).alloc b):=(Ext.alloc _ _).trans (Ext.alloc _ _)
theorem Ext.al3{w:World}{a b c:Obj}:Ext w (((w.alloc a).alloc b).alloc c):=((Ext.alloc _ _).trans (Ext.alloc _ _)).trans (Ext.alloc _ _)
def dL:Value→Bool
 | .int .u32 _=>false
 | _=>true
def NoU(w:World)(L:Nat):Prop:=∃ cs T fz,w.heap[L]?=some (.cells cs T fz)∧cs.toList.all dL=true
def dJ(w w':World):Prop:=∀ ao n c ds,U32 w ao n c ds→U32 w' ao n c ds
theorem ai{w:World}{L:Nat}{cs:Array Value}{T:TypeId}{fz:Nat×Nat}(h:w.heap[L]?=some (.cells cs T fz))(hc:cs.toList.all dL=true):NoU w L:=⟨cs,T,fz,h,hc⟩
theorem NoU.not{w:World}{L:Nat}(h:NoU w L){i:Nat}{v:Value}(hv:w.cell? ⟨L,i,none⟩=some v):dL v=true:=by
 obtain ⟨cs,T,fz,h1,h2⟩:=h;rw [ae h1] at hv;exact List.all_eq_true.1 h2 v (by simpa using Array.mem_of_getElem? hv)
structure Fin (w w1:World) (L:Nat) (w2:World):Prop where
 ext:Ext w w2
 keep:dJ w1 w2
 no:NoU w2 L
theorem Fin.start{w w1:World}{L:Nat}(hE:Ext w w1)(hN:NoU w1 L):Fin w w1 L w1:=⟨hE,fun _ _ _ _ h=>h,hN⟩
theorem Fin.set{w w1:World}{L:Nat}{w2:World}(h:Fin w w1 L w2)(hL:w.heap.size≤L){i:Nat}{v:Value}(hv:dL v=true):Fin w w1 L (w2.setCell ⟨L,i,none⟩ v) where
 ext:=Ext.set h.ext hL v
 keep:=fun ao n c ds hU=>by
  have h1:=h.keep ao n c ds hU;refine ⟨h1.len,h1.le,h1.max,h1.dig,h1.at'.imp id fun ⟨b,off,e,hc⟩=>⟨b,off,e,fun k hk=>?_⟩⟩;by_cases hb:b=L
  ·subst hb;have:=h.no.not (hc k hk);simp [dL] at this
  ·exact (aL.setCell w2 ⟨L,i,none⟩ v).cell (p:=⟨b,off+k,none⟩) hb (hc k hk)
 no:=by
  obtain ⟨cs,T,fz,h1,h2⟩:=h.no;refine ⟨_,T,fz,ax h1 i v,?_⟩;rw [List.all_eq_true] at *
  intro x hx;rw [Array.toList_setIfInBounds] at hx;rcases List.mem_or_eq_of_mem_set hx with h3|h3
  ·exact h2 x h3
  ·rw [h3];exact hv
theorem Fin.alloc{w w1:World}{L:Nat}{w2:World}(h:Fin w w1 L w2)(o:Obj):Fin w w1 L (w2.alloc o) :=
 ⟨h.ext.trans (Ext.alloc _ _),fun _ _ _ _ hU=>(h.keep _ _ _ _ hU).ext (Ext.alloc _ _),let ⟨cs,T,fz,h1,h2⟩:=h.no;⟨cs,T,fz,(Ext.alloc _ _).block h1,h2⟩⟩
structure SH where
 a:Option Addr
 n:Nat
 c:Nat
abbrev SH.v(s:SH):Value:=.slice s.a s.n s.c
abbrev SH.U(s:SH)(w:World)(ds:List Nat):Prop:=U32 w s.a s.n s.c ds
instance:Inhabited SH:=⟨⟨none,0,0⟩⟩
structure IH where
 neg:Bool
 a:Option Addr
 n:Nat
 c:Nat
instance:Inhabited IH:=⟨⟨false,none,0,0⟩⟩
abbrev IH.v(s:IH):Value:=.agg #[.bool s.neg,.slice s.a s.n s.c]
def sg(b:Bool)(n:Nat):Int:=if b then -(n:Int) else n
def fo(w:World)(s:IH)(z:Int):Prop:=∃ ds,U32 w s.a s.n s.c ds∧z=sg s.neg (val ds)∧s.n≤1073741824
def fG(w:World)(s:IH)(z:Int):Prop:=s.neg=decide (z<0)∧U32 w s.a s.n s.c (digs z.natAbs)
theorem fo.ext{w w':World}{s:IH}{z:Int}(h:fo w s z)(he:Ext w w'):fo w' s z:=let ⟨ds,h1,h2⟩:=h;⟨ds,h1.ext he,h2⟩
instance {w w':World} {s:IH} {z:Int}:Go.Front.Mv w w' (fo w s z) (fo w' s z):=⟨fun e h=>fo.ext h e⟩

theorem fG.ext{w w':World}{s:IH}{z:Int}(h:fG w s z)(he:Ext w w'):fG w' s z:=⟨h.1,h.2.ext he⟩
instance {w w':World} {s:IH} {z:Int}:Go.Front.Mv w w' (fG w s z) (fG w' s z):=⟨fun e h=>fG.ext h e⟩

theorem fG.keep{w w':World}{s:IH}{z:Int}(h:fG w s z)(he:dJ w w'):fG w' s z:=⟨h.1,he _ _ _ _ h.2⟩
theorem bG(b:Bool)(n:Nat):(sg b n).natAbs=n:=by unfold sg;cases b <;> simp
theorem fj(z:Int):sg (decide (z<0)) z.natAbs=z:=by unfold sg;split <;> simp_all <;> omega
theorem cP(b:Bool)(n:Nat):decide (sg b n<0)=(b && decide (0<n)):=by unfold sg;cases b <;> simp <;> omega
theorem fG.raw{w:World}{s:IH}{z:Int}(h:fG w s z)(hz:(digs z.natAbs).length≤1073741824):fo w s z:=⟨_,h.2,by rw [ag,h.1,fj],by rw [←h.2.len];exact hz⟩
theorem dK(neg:Bool)(ao:Option Addr)(n c v:Nat)(w:World)(h:U32 w ao n c (digs v))(z:Int)(hz:z=sg neg v) :
  ar 166 [.bool neg,.slice ao n c] w IH.v (fun s w'=>fG w' s z):=by
 have HU:=Hi h;have HZ:=Hi hz;have hl:=h.len;have hn:n=0↔v=0:=by rw [←hl,nXj,bD]
 have HN:=Hi hn;clear h hz hn hl;unfold ar;have hE:∀ b:Bool,Ext w (w.alloc (.cells #[.bool b,.slice ao n c] 35)):=fun b=>Ext.alloc _ _
 cases neg
 ·go_enter Tryz.func166,Tryz.ntmps166;go_wp2;exact nXa (v:=IH.v ⟨false,ao,n,c⟩) (by simp [results,Tryz.results166,go_sem]) rfl ⟨⟨false,ao,n,c⟩,rfl,hE _,by rw [HZ.out,cP];rfl,by rw [HZ.out,bG];exact HU.out.ext (hE _)⟩
 ·by_cases h0:n=0
  ·have hv:=HN.out.1 h0;subst h0;go_enter Tryz.func166,Tryz.ntmps166;go_wp2;exact nXa (v:=IH.v ⟨false,ao,0,c⟩) (by simp [results,Tryz.results166,go_sem]) rfl ⟨⟨false,ao,0,c⟩,rfl,hE _,by rw [HZ.out,cP,hv];rfl,by rw [HZ.out,bG];exact HU.out.ext (hE _)⟩
  ·have hv:v≠0:=fun h=>h0 (HN.out.2 h)
   have hd:decide (0<n)=true:=by simp;omega
   have hd':decide (0<(n:Int))=true:=by simp;omega
   go_enter Tryz.func166,Tryz.ntmps166;go_wp2;exact nXa (v:=IH.v ⟨true,ao,n,c⟩) (by simp [results,Tryz.results166,go_sem]) rfl ⟨⟨true,ao,n,c⟩,rfl,hE _,by rw [HZ.out,cP];simp;omega,by rw [HZ.out,bG];exact HU.out.ext (hE _)⟩
theorem iT(ao:Option Addr)(n cap:Nat)(ds:List Nat)(w:World)(h:U32 w ao n cap ds)(hsz:n≤1073741824) :
  ar 167 [.slice ao n cap] w SH.v (fun s w'=>s.U w' (digs (val ds))):=by
 refine (mA ao n cap ds w h zo).mono ?_;rintro e w' ⟨a,m,c,rfl,h1,h2⟩;rw [et h.dig] at h1;exact ⟨⟨a,m,c⟩,rfl,h2,h1⟩
abbrev _root_.Go.sI(z : Int) : Go.Front.Kind := .spec IH default IH.v (fun s w' => fG w' s z)
abbrev _root_.Go.sD(v : Nat) : Go.Front.Kind := .spec SH default SH.v (fun s w' => s.U w' (digs v))
theorem oy(s:IH)(z:Int)(w:World)(h:fo w s z):ar 190 [s.v] w IH.v (fun s w'=>fG w' s z):=by
 obtain ⟨neg,ao,n,c⟩:=s;obtain ⟨ds,hU,hz,hn⟩:=h;simp only at hU hz hn;have HU:=Hi hU;have HZ:=Hi hz;clear hU hz;unfold ar;go_enter Tryz.func190,Tryz.ntmps190;go_wp2;refine ah 6 (fun opIx=>match opIx with
  | 4=>sD (val ds)
  | 5=>sI (z)
  | _=>.quiet) (fun|5=>[4]|_=>[]) kZ kZ (fun w0 he0 hz0 hc0 hf0=>?_)
 have he1:=Hi he0;replace he0:=Hi ((Ext.al2).trans he0);simp only [pT];refine qQ ?_;refine wps he0 (fun w1 hW hG=>?_) fun x4=>?_
 ·exact spc [.slice ao n c] Tryz.func167 (iT _ _ _ _ _ (HU.out.ext hW) hn)
 refine qZ ?_;refine wps he0 (fun w1 hW hG=>?_) fun x5=>?_
 ·have g4:=gS (hG 4 dZ);exact spc [.bool neg,x4.v] Tryz.func166 (dK _ _ _ _ _ _ g4 _ HZ.out)
 refine qZ ?_;refine aq ?_;intro w1 hI;have G4:=gT (hI.facts 4);have G5:=gT (hI.facts 5);have HX:=Hi (he0.out.trans hI.ext);have hX1:=Hi (he1.out.trans hI.ext);obtain ⟨hcw,hfw⟩:=ak (he1.out.trans hI.ext);have hsw:=(he1.out.trans hI.ext).size
 (try simp only [nXc] at hsw)
 have hs0:w.heap.size<w1.heap.size:=zo;have hs1:w.heap.size+1<w1.heap.size:=zo;have hB:=(he1.out.trans hI.ext).block (heap_alloc_new _ _);rw [nXc] at hB;have HB:Hid (w1.heap[w.heap.size+1]?=some _):=Hi hB;clear hB;clear hI he0 he1 hz0 hc0 hf0;simp only [pD];go_wp2;have hF:=(((Fin.start (L:=w.heap.size+1) HX.out (ai HB.out rfl)).set zo (i:=0) (v:=.bool x5.neg) rfl).set zo (i:=1) (v:=.slice x5.a x5.n x5.c) rfl);exact nXa (v:=x5.v) (by simp [results,Tryz.results190,go_sem,ae HB.out]) rfl ⟨x5,rfl,hF.ext,G5.out.keep hF.keep⟩
theorem Ab(a b:SH)(x y:List Nat)(w:World)(ha:a.U w x)(hb:b.U w y)(hn:a.n≤1073741824)(hm:b.n≤1073741824):ar 184 [a.v,b.v] w SH.v (fun s w'=>s.U w' (digs (val x+val y))):=by
 refine (CM _ _ _ _ _ _ x y w ha hb zo zo).mono ?_;rintro e w' ⟨a,m,c,rfl,h1,h2⟩;exact ⟨⟨a,m,c⟩,rfl,h2,h1⟩
theorem qA(a b:SH)(x y:List Nat)(w:World)(ha:a.U w x)(hb:b.U w y)(hn:a.n≤1073741824)(hm:b.n≤1073741824):ar 185 [a.v,b.v] w SH.v (fun s w'=>s.U w' (digs (val x-val y))):=by
 refine (A7 _ _ _ _ _ _ x y w ha hb zo zo).mono ?_;rintro e w' ⟨a,m,c,rfl,h1,h2⟩;exact ⟨⟨a,m,c⟩,rfl,h2,h1⟩
theorem mX(a b:SH)(x y:List Nat)(w:World)(ha:a.U w x)(hb:b.U w y)(hn:a.n≤1073741824)(hm:b.n≤1073741824):ar 155 [a.v,b.v] w SH.v (fun s w'=>s.U w' (digs (val x*val y))):=by
 refine (BM _ _ _ _ _ _ x y w ha hb zo zo).mono ?_;rintro e w' ⟨a,m,c,rfl,h1,h2⟩;exact ⟨⟨a,m,c⟩,rfl,h2,h1⟩
theorem rH(a b:SH)(x y:List Nat)(w:World)(ha:a.U w x)(hb:b.U w y)(hn:a.n≤1073741824)(hm:b.n≤1073741824):ar 182 [a.v,b.v] w SH.v (fun s w'=>s.U w' (digs (Nat.gcd (val x) (val y)))):=by
 refine (Cc _ _ _ _ _ _ x y w ha hb zo zo).mono ?_;rintro e w' ⟨a,m,c,rfl,h1,h2⟩;exact ⟨⟨a,m,c⟩,rfl,h2,h1⟩
theorem dF(a b:SH)(x y:List Nat)(w:World)(ha:a.U w x)(hb:b.U w y):ar 153 [a.v,b.v] w (fun _:Unit=>.int .i64 (bU (val x:Nat) (val y:Nat))) (fun _ _=>True):=by
 refine (dQ _ _ _ _ _ _ x y w ha hb).mono ?_;rintro e w' ⟨rfl,h⟩;exact ⟨(),rfl,h,trivial⟩
theorem bP(w:World):U32 w none 0 0 []:=U32.nil _ _ _ dZ
theorem wH(b:Bool)(v:Nat):bU (sg b v) 0=if v=0 then 0 else if b then -1 else 1:=by
 unfold sg bU;cases b <;> by_cases h:v=0 <;> simp [h] <;> omega
theorem cj(s:IH)(z:Int)(w:World)(h:fo w s z):ar 144 [s.v] w (fun _:Unit=>.int .i64 (bU z 0)) (fun _ _=>True):=by
 obtain ⟨neg,ao,n,c⟩:=s;obtain ⟨ds,hU,hz,hn⟩:=h;simp only at hU hz hn;subst hz;rw [wH];have HU:=Hi hU;clear hU;unfold ar;by_cases h0:val ds=0
 ·rw [if_pos h0];have H0:=Hi h0;clear h0;go_enter Tryz.func144,Tryz.ntmps144
  go_wp2_with fail
  refine Calls.mono (dF ⟨_,_,_⟩ ⟨_,_,_⟩ _ _ _ (HU.out.ext Ext.al1) (bP _)) ?_;rintro e w1 ⟨_,rfl,hE,-⟩;rw [dH (by rw [H0.out];rfl)];have HE:=Hi hE;go_wp2
  go_ret
  exact ⟨(),rfl,Ext.al1.trans HE.out,trivial⟩
 ·rw [if_neg h0];have H0:=Hi h0;clear h0;cases neg
  all_goals
   go_enter Tryz.func144,Tryz.ntmps144
   go_wp2_with fail
   refine Calls.mono (dF ⟨_,_,_⟩ ⟨_,_,_⟩ _ _ _ (HU.out.ext Ext.al1) (bP _)) ?_;rintro e w1 ⟨_,rfl,hE,-⟩;rw [cX (by have:=H0.out;simp only [val];omega)];obtain ⟨hcw,hfw⟩:=ak hE;have HE:=Hi hE;go_wp2
   go_ret
   exact ⟨(),rfl,Ext.al1.trans HE.out,trivial⟩
theorem Db{b1 b2:Bool}{v1 v2:Nat}:bU (sg b1 v1) (sg b2 v2)=if bU (sg b1 v1) 0<bU (sg b2 v2) 0 then -1 else if bU (sg b2 v2) 0<bU (sg b1 v1) 0 then 1 else if bU (sg b1 v1) 0=-1 then bU v2 v1 else bU v1 v2:=by
 simp only [wH];cases b1 <;> cases b2 <;> by_cases h1:v1=0 <;> by_cases h2:v2=0 <;> simp [h1,h2,sg,bU] <;> (try (rw [if_pos zo])) <;> (try (rw [if_neg zo,if_neg zo]))
 ·omega
 ·simp only [eq_comm]
theorem rF(s t:IH)(z y:Int)(w:World)(h:fo w s z)(k:fo w t y):ar 133 [s.v,t.v] w (fun _:Unit=>.int .i64 (bU z y)) (fun _ _=>True):=by
 obtain ⟨neg,ao,n,c⟩:=s;obtain ⟨neg',bo,m,d⟩:=t;have HA:=Hi h;have HB':=Hi k;obtain ⟨ds,hU,hz,hn⟩:=h;obtain ⟨es,kU,kz,kn⟩:=k;simp only at hU hz hn kU kz kn;have HU:=Hi hU;have KU:=Hi kU;have HC:=Hi (Db (b1:=neg) (b2:=neg') (v1:=val ds) (v2:=val es));rw [←hz,←kz] at HC;clear hU kU hz kz;unfold ar;obtain ⟨p,hp⟩:∃ p,p=bU z 0:=⟨_,rfl⟩;obtain ⟨q,hq⟩:∃ q,q=bU y 0:=⟨_,rfl⟩;rw [←hp,←hq] at HC;have HP:=Hi hp;have HQ:=Hi hq;clear hp hq;rcases (show p<q∨q<p∨p=q by omega) with hpq|hpq|hpq
 ·have hr:bU z y=-1:=by rw [HC.out,if_pos hpq]
  rw [hr];clear hr;go_enter Tryz.func133,Tryz.ntmps133;go_wp2;refine ah 6 (fun opIx=>match opIx with
   | 1=>sU (.int .i64 p)
   | 3=>sU (.int .i64 q)
   | _=>.quiet) (fun _=>[]) kZ kZ (fun w0 he0 hz0 hc0 hf0=>?_)
  have he1:=Hi he0;replace he0:=Hi ((Ext.al2).trans he0);simp only [pT];refine qQ ?_;refine wps he0 (fun w1 hW hG=>?_) fun x1=>?_
  ·exact spc [IH.v ⟨neg,ao,n,c⟩] Tryz.func144 (HP.out ▸ cj _ z _ (HA.out.ext hW))
  refine qZ ?_;refine wps he0 (fun w1 hW hG=>?_) fun x3=>?_
  ·exact spc [IH.v ⟨neg',bo,m,d⟩] Tryz.func144 (HQ.out ▸ cj _ y _ (HB'.out.ext hW))
  refine qZ ?_;refine aq ?_;intro w1 hI;have HX:=Hi (he0.out.trans hI.ext);have hX1:=Hi (he1.out.trans hI.ext);obtain ⟨hcw,hfw⟩:=ak (he1.out.trans hI.ext);have hsw:=(he1.out.trans hI.ext).size
  (try simp only [nXc] at hsw)
  have hs0:w.heap.size<w1.heap.size:=zo;have hs1:w.heap.size+1<w1.heap.size:=zo;clear hI he0 he1 hz0 hc0 hf0;simp only [pD];go_wp2
  go_ret
  exact ⟨(),rfl,HX.out,trivial⟩
 ·have hr:bU z y=1:=by rw [HC.out,if_neg zo,if_pos hpq]
  rw [hr];clear hr;go_enter Tryz.func133,Tryz.ntmps133;go_wp2;refine ah 6 (fun opIx=>match opIx with
   | 1=>sU (.int .i64 p)
   | 3=>sU (.int .i64 q)
   | _=>.quiet) (fun _=>[]) kZ kZ (fun w0 he0 hz0 hc0 hf0=>?_)
  have he1:=Hi he0;replace he0:=Hi ((Ext.al2).trans he0);simp only [pT];refine qQ ?_;refine wps he0 (fun w1 hW hG=>?_) fun x1=>?_
  ·exact spc [IH.v ⟨neg,ao,n,c⟩] Tryz.func144 (HP.out ▸ cj _ z _ (HA.out.ext hW))
  refine qZ ?_;refine wps he0 (fun w1 hW hG=>?_) fun x3=>?_
  ·exact spc [IH.v ⟨neg',bo,m,d⟩] Tryz.func144 (HQ.out ▸ cj _ y _ (HB'.out.ext hW))
  refine qZ ?_;refine aq ?_;intro w1 hI;have HX:=Hi (he0.out.trans hI.ext);have hX1:=Hi (he1.out.trans hI.ext);obtain ⟨hcw,hfw⟩:=ak (he1.out.trans hI.ext);have hsw:=(he1.out.trans hI.ext).size
  (try simp only [nXc] at hsw)
  have hs0:w.heap.size<w1.heap.size:=zo;have hs1:w.heap.size+1<w1.heap.size:=zo;clear hI he0 he1 hz0 hc0 hf0;simp only [pD];go_wp2
  go_ret
  exact ⟨(),rfl,HX.out,trivial⟩
 ·subst hpq;by_cases hm:p=-1
  ·have hr:bU z y=bU (val es:Nat) (val ds:Nat):=by rw [HC.out,if_neg zo,if_neg zo,if_pos hm]
   rw [hr];clear hr HC;have hmb:(p == -1)=true:=by simp [hm]
   have Hm:=Hi hm;clear hm;go_enter Tryz.func133,Tryz.ntmps133;go_wp2;refine ah 6 (fun opIx=>match opIx with
    | 1=>sU (.int .i64 p)
    | 3=>sU (.int .i64 p)
    | _=>.quiet) (fun _=>[]) kZ kZ (fun w0 he0 hz0 hc0 hf0=>?_)
   have he1:=Hi he0;replace he0:=Hi ((Ext.al2).trans he0);simp only [pT];refine qQ ?_;refine wps he0 (fun w1 hW hG=>?_) fun x1=>?_
   ·exact spc [IH.v ⟨neg,ao,n,c⟩] Tryz.func144 (HP.out ▸ cj _ z _ (HA.out.ext hW))
   refine qZ ?_;refine wps he0 (fun w1 hW hG=>?_) fun x3=>?_
   ·exact spc [IH.v ⟨neg',bo,m,d⟩] Tryz.func144 (HQ.out ▸ cj _ y _ (HB'.out.ext hW))
   refine qZ ?_;refine aq ?_;intro w1 hI;have HX:=Hi (he0.out.trans hI.ext);have hX1:=Hi (he1.out.trans hI.ext);obtain ⟨hcw,hfw⟩:=ak (he1.out.trans hI.ext);have hsw:=(he1.out.trans hI.ext).size
   (try simp only [nXc] at hsw)
   have hs0:w.heap.size<w1.heap.size:=zo;have hs1:w.heap.size+1<w1.heap.size:=zo;clear hI he0 he1 hz0 hc0 hf0;simp only [pD]
   go_wp2_with fail
   refine Calls.mono (dF ⟨_,_,_⟩ ⟨_,_,_⟩ _ _ _ (KU.out.ext HX.out) (HU.out.ext HX.out)) ?_;rintro e w2 ⟨_,rfl,hE,-⟩;have HE:=Hi hE;go_wp2
   go_ret
   exact ⟨(),rfl,HX.out.trans HE.out,trivial⟩
  ·have hr:bU z y=bU (val ds:Nat) (val es:Nat):=by rw [HC.out,if_neg zo,if_neg zo,if_neg hm]
   rw [hr];clear hr HC;have hmb:(p == -1)=false:=by simp [hm]
   have Hm:=Hi hm;clear hm;go_enter Tryz.func133,Tryz.ntmps133;go_wp2;refine ah 6 (fun opIx=>match opIx with
    | 1=>sU (.int .i64 p)
    | 3=>sU (.int .i64 p)
    | _=>.quiet) (fun _=>[]) kZ kZ (fun w0 he0 hz0 hc0 hf0=>?_)
   have he1:=Hi he0;replace he0:=Hi ((Ext.al2).trans he0);simp only [pT];refine qQ ?_;refine wps he0 (fun w1 hW hG=>?_) fun x1=>?_
   ·exact spc [IH.v ⟨neg,ao,n,c⟩] Tryz.func144 (HP.out ▸ cj _ z _ (HA.out.ext hW))
   refine qZ ?_;refine wps he0 (fun w1 hW hG=>?_) fun x3=>?_
   ·exact spc [IH.v ⟨neg',bo,m,d⟩] Tryz.func144 (HQ.out ▸ cj _ y _ (HB'.out.ext hW))
   refine qZ ?_;refine aq ?_;intro w1 hI;have HX:=Hi (he0.out.trans hI.ext);have hX1:=Hi (he1.out.trans hI.ext);obtain ⟨hcw,hfw⟩:=ak (he1.out.trans hI.ext);have hsw:=(he1.out.trans hI.ext).size
   (try simp only [nXc] at hsw)
   have hs0:w.heap.size<w1.heap.size:=zo;have hs1:w.heap.size+1<w1.heap.size:=zo;clear hI he0 he1 hz0 hc0 hf0;simp only [pD]
   go_wp2_with fail
   refine Calls.mono (dF ⟨_,_,_⟩ ⟨_,_,_⟩ _ _ _ (HU.out.ext HX.out) (KU.out.ext HX.out)) ?_;rintro e w2 ⟨_,rfl,hE,-⟩;have HE:=Hi hE;go_wp2
   go_ret
   exact ⟨(),rfl,HX.out.trans HE.out,trivial⟩
theorem kt(b:Bool)(x y:Nat):sg b (x+y)=sg b x+sg b y:=by unfold sg;cases b <;> simp <;> omega
theorem nW{b c:Bool}{x y:Nat}(h:b≠c)(hle:y≤x):sg b (x-y)=sg b x+sg c y:=by unfold sg;cases b <;> cases c <;> simp at*<;> omega
theorem nV{b c:Bool}{x y:Nat}(h:b≠c)(hle:x<y):sg c (y-x)=sg b x+sg c y:=by unfold sg;cases b <;> cases c <;> simp at*<;> omega
theorem eh(b c:Bool)(x y:Nat):sg (b != c) (x*y)=sg b x*sg c y:=by unfold sg;cases b <;> cases c <;> simp [Int.mul_neg,Int.neg_mul]
theorem nf(s t:IH)(z y:Int)(w:World)(h:fo w s z)(k:fo w t y):ar 152 [s.v,t.v] w IH.v (fun s w'=>fG w' s (z+y)):=by
 obtain ⟨neg,ao,n,c⟩:=s;obtain ⟨neg',bo,m,d⟩:=t;obtain ⟨ds,hU,hz,hn⟩:=h;obtain ⟨es,kU,kz,kn⟩:=k;simp only at hU hz hn kU kz kn;have HU:=Hi hU;have KU:=Hi kU;have HZ:=Hi hz;have KZ:=Hi kz;clear hU kU hz kz;unfold ar;by_cases hs:neg=neg'
 ·subst hs;have hb:(neg == neg)=true:=by simp
  go_enter Tryz.func152,Tryz.ntmps152;go_wp2;refine ah 8 (fun opIx=>match opIx with
   | 6=>sD (val ds+val es)
   | 7=>sI (z+y)
   | _=>.quiet) (fun|7=>[6]|_=>[]) kZ kZ (fun w0 he0 hz0 hc0 hf0=>?_)
  have he1:=Hi he0;replace he0:=Hi ((Ext.al3).trans he0);simp only [pT];refine qQ ?_;refine wps he0 (fun w1 hW hG=>?_) fun x6=>?_
  ·exact spc [.slice ao n c,.slice bo m d] Tryz.func184 (Ab ⟨ao,n,c⟩ ⟨bo,m,d⟩ _ _ _ (HU.out.ext hW) (KU.out.ext hW) hn kn)
  refine qZ ?_;refine wps he0 (fun w1 hW hG=>?_) fun x7=>?_
  ·have g6:=gS (hG 6 dZ);exact spc [.bool neg,x6.v] Tryz.func166 (dK _ _ _ _ _ _ g6 _ (by rw [HZ.out,KZ.out,kt]))
  refine qZ ?_;refine aq ?_;intro w1 hI;have G6:=gT (hI.facts 6);have G7:=gT (hI.facts 7);have HX:=Hi (he0.out.trans hI.ext);have hX1:=Hi (he1.out.trans hI.ext);obtain ⟨hcw,hfw⟩:=ak (he1.out.trans hI.ext);have hsw:=(he1.out.trans hI.ext).size
  (try simp only [nXc] at hsw)
  have hs0:w.heap.size<w1.heap.size:=zo;have hs1:w.heap.size+1<w1.heap.size:=zo;have hs2:w.heap.size+2<w1.heap.size:=zo;have hB:=(he1.out.trans hI.ext).block (heap_alloc_new _ _);rw [nXc,nXc] at hB;have HB:Hid (w1.heap[w.heap.size+2]?=some _):=Hi hB;clear hB;clear hI he0 he1 hz0 hc0 hf0;simp only [pD];go_wp2;have hF:=(((Fin.start (L:=w.heap.size+2) HX.out (ai HB.out rfl)).set zo (i:=0) (v:=.bool x7.neg) rfl).set zo (i:=1) (v:=.slice x7.a x7.n x7.c) rfl);exact nXa (v:=x7.v) (by simp [results,Tryz.results152,go_sem,ae HB.out]) rfl ⟨x7,rfl,hF.ext,G7.out.keep hF.keep⟩
 ·have hb:(neg == neg')=false:=by simpa using hs
  by_cases hlt:val ds<val es
  ·go_enter Tryz.func152,Tryz.ntmps152
   go_wp2_with fail
   refine cM (dF ⟨_,_,_⟩ ⟨_,_,_⟩ _ _ _ (HU.out.ext Ext.al3) (KU.out.ext Ext.al3)) fun x2 w2 hE G2=>?_
   obtain ⟨hcw,hfw⟩:=ak hE;have hsw:=hE.size
   (try simp only [nXc] at hsw)
   obtain ⟨hs0,hs1,hs2⟩:=zs3 hsw;have hB:=hE.block (heap_alloc_new _ _);rw [nXc,nXc] at hB;have HB:Hid (w2.heap[w.heap.size+2]?=some _):=Hi hB;clear hB;have E2:=Hi ((Ext.al3).trans hE);have X2:=Hi hE;rw [dG zo];go_wp2;refine ah 8 (fun opIx=>match opIx with
    | 6=>sD (val es-val ds)
    | 7=>sI (z+y)
    | _=>.quiet) (fun|7=>[6]|_=>[]) kZ kZ (fun w0 he0 hz0 hc0 hf0=>?_)
   have he1:=Hi he0;replace he0:=Hi ((E2.out).trans he0);simp only [pT];refine qQ ?_;refine wps he0 (fun w1 hW hG=>?_) fun x6=>?_
   ·exact spc [.slice bo m d,.slice ao n c] Tryz.func185 (qA ⟨bo,m,d⟩ ⟨ao,n,c⟩ _ _ _ (KU.out.ext hW) (HU.out.ext hW) kn hn)
   refine qZ ?_;refine wps he0 (fun w1 hW hG=>?_) fun x7=>?_
   ·have g6:=gS (hG 6 dZ);exact spc [.bool neg',x6.v] Tryz.func166 (dK _ _ _ _ _ _ g6 _ (by rw [HZ.out,KZ.out,nV hs hlt]))
   refine qZ ?_;refine aq ?_;intro w1 hI;have G6:=gT (hI.facts 6);have G7:=gT (hI.facts 7);have HX:=Hi (he0.out.trans hI.ext);have hX1:=Hi (he1.out.trans hI.ext);obtain ⟨hcw,hfw⟩:=ak (he1.out.trans hI.ext);have hsw:=(he1.out.trans hI.ext).size
   (try simp only [nXc] at hsw)
   have hs0:w.heap.size<w1.heap.size:=zo;have hs1:w.heap.size+1<w1.heap.size:=zo;have hs2:w.heap.size+2<w1.heap.size:=zo;replace HB:=Hi ((he1.out.trans hI.ext).block HB.out);have cR:=ae HB.out;have fR:=af HB.out;have cR2:=ae (B:=w.heap.size+1+1) HB.out;have fR2:=af (B:=w.heap.size+1+1) HB.out;clear hI he0 he1 hz0 hc0 hf0;simp only [pD];go_wp2;have hF:=(((Fin.start (L:=w.heap.size+2) HX.out (ai HB.out rfl)).set zo (i:=0) (v:=.bool x7.neg) rfl).set zo (i:=1) (v:=.slice x7.a x7.n x7.c) rfl);exact nXa (v:=x7.v) (by simp [results,Tryz.results152,go_sem,ae HB.out]) rfl ⟨x7,rfl,hF.ext,G7.out.keep hF.keep⟩
  ·have hne:(bU (val ds:Nat) (val es:Nat) == -1)=false:=by
    unfold bU;rw [if_neg zo];split <;> rfl
   go_enter Tryz.func152,Tryz.ntmps152
   go_wp2_with fail
   refine cM (dF ⟨_,_,_⟩ ⟨_,_,_⟩ _ _ _ (HU.out.ext Ext.al3) (KU.out.ext Ext.al3)) fun x2 w2 hE G2=>?_
   obtain ⟨hcw,hfw⟩:=ak hE;have hsw:=hE.size
   (try simp only [nXc] at hsw)
   obtain ⟨hs0,hs1,hs2⟩:=zs3 hsw;have hB:=hE.block (heap_alloc_new _ _);rw [nXc,nXc] at hB;have HB:Hid (w2.heap[w.heap.size+2]?=some _):=Hi hB;clear hB;have E2:=Hi ((Ext.al3).trans hE);have X2:=Hi hE;go_wp2;refine ah 8 (fun opIx=>match opIx with
    | 6=>sD (val ds-val es)
    | 7=>sI (z+y)
    | _=>.quiet) (fun|7=>[6]|_=>[]) kZ kZ (fun w0 he0 hz0 hc0 hf0=>?_)
   have he1:=Hi he0;replace he0:=Hi ((E2.out).trans he0);simp only [pT];refine qQ ?_;refine wps he0 (fun w1 hW hG=>?_) fun x6=>?_
   ·exact spc [.slice ao n c,.slice bo m d] Tryz.func185 (qA ⟨ao,n,c⟩ ⟨bo,m,d⟩ _ _ _ (HU.out.ext hW) (KU.out.ext hW) hn kn)
   refine qZ ?_;refine wps he0 (fun w1 hW hG=>?_) fun x7=>?_
   ·have g6:=gS (hG 6 dZ);exact spc [.bool neg,x6.v] Tryz.func166 (dK _ _ _ _ _ _ g6 _ (by rw [HZ.out,KZ.out,nW hs zo]))
   refine qZ ?_;refine aq ?_;intro w1 hI;have G6:=gT (hI.facts 6);have G7:=gT (hI.facts 7);have HX:=Hi (he0.out.trans hI.ext);have hX1:=Hi (he1.out.trans hI.ext);obtain ⟨hcw,hfw⟩:=ak (he1.out.trans hI.ext);have hsw:=(he1.out.trans hI.ext).size
   (try simp only [nXc] at hsw)
   have hs0:w.heap.size<w1.heap.size:=zo;have hs1:w.heap.size+1<w1.heap.size:=zo;have hs2:w.heap.size+2<w1.heap.size:=zo;replace HB:=Hi ((he1.out.trans hI.ext).block HB.out);have cR:=ae HB.out;have fR:=af HB.out;have cR2:=ae (B:=w.heap.size+1+1) HB.out;have fR2:=af (B:=w.heap.size+1+1) HB.out;clear hI he0 he1 hz0 hc0 hf0;simp only [pD];go_wp2;have hF:=(((Fin.start (L:=w.heap.size+2) HX.out (ai HB.out rfl)).set zo (i:=0) (v:=.bool x7.neg) rfl).set zo (i:=1) (v:=.slice x7.a x7.n x7.c) rfl);exact nXa (v:=x7.v) (by simp [results,Tryz.results152,go_sem,ae HB.out]) rfl ⟨x7,rfl,hF.ext,G7.out.keep hF.keep⟩
theorem fM(s t:IH)(z y:Int)(w:World)(h:fo w s z)(k:fo w t y):ar 134 [s.v,t.v] w IH.v (fun s w'=>fG w' s (z*y)):=by
 obtain ⟨neg,ao,n,c⟩:=s;obtain ⟨neg',bo,m,d⟩:=t;obtain ⟨ds,hU,hz,hn⟩:=h;obtain ⟨es,kU,kz,kn⟩:=k;simp only at hU hz hn kU kz kn;have HU:=Hi hU;have KU:=Hi kU;have HZ:=Hi hz;have KZ:=Hi kz;clear hU kU hz kz;unfold ar;go_enter Tryz.func134,Tryz.ntmps134;go_wp2;refine ah 11 (fun opIx=>match opIx with
  | 9=>sD (val ds*val es)
  | 10=>sI (z*y)
  | _=>.quiet) (fun|10=>[9]|_=>[]) kZ kZ (fun w0 he0 hz0 hc0 hf0=>?_)
 have he1:=Hi he0;replace he0:=Hi ((Ext.al3).trans he0);simp only [pT];refine qQ ?_;refine wps he0 (fun w1 hW hG=>?_) fun x9=>?_
 ·exact spc [.slice ao n c,.slice bo m d] Tryz.func155 (mX ⟨ao,n,c⟩ ⟨bo,m,d⟩ _ _ _ (HU.out.ext hW) (KU.out.ext hW) hn kn)
 refine qZ ?_;refine wps he0 (fun w1 hW hG=>?_) fun x10=>?_
 ·have g9:=gS (hG 9 dZ);exact spc [.bool (neg != neg'),x9.v] Tryz.func166 (dK _ _ _ _ _ _ g9 _ (by rw [HZ.out,KZ.out,eh]))
 refine qZ ?_;refine aq ?_;intro w1 hI;have G9:=gT (hI.facts 9);have G10:=gT (hI.facts 10);have HX:=Hi (he0.out.trans hI.ext);have hX1:=Hi (he1.out.trans hI.ext);obtain ⟨hcw,hfw⟩:=ak (he1.out.trans hI.ext);have hsw:=(he1.out.trans hI.ext).size
 (try simp only [nXc] at hsw)
 have hs0:w.heap.size<w1.heap.size:=zo;have hs1:w.heap.size+1<w1.heap.size:=zo;have hs2:w.heap.size+2<w1.heap.size:=zo;have hB:=(he1.out.trans hI.ext).block (heap_alloc_new _ _);rw [nXc,nXc] at hB;have HB:Hid (w1.heap[w.heap.size+2]?=some _):=Hi hB;clear hB;clear hI he0 he1 hz0 hc0 hf0;simp only [pD];go_wp2;have hF:=(((Fin.start (L:=w.heap.size+2) HX.out (ai HB.out rfl)).set zo (i:=0) (v:=.bool x10.neg) rfl).set zo (i:=1) (v:=.slice x10.a x10.n x10.c) rfl);exact nXa (v:=x10.v) (by simp [results,Tryz.results134,go_sem,ae HB.out]) rfl ⟨x10,rfl,hF.ext,G10.out.keep hF.keep⟩
theorem pL(n:Int)(w:World)(h1:-9223372036854775808≤n)(h2:n≤9223372036854775807):ar 113 [.int .i64 n] w IH.v (fun s w'=>fG w' s n):=by
 unfold ar;obtain ⟨m,hm⟩:∃ m:Nat,m=n.natAbs:=⟨_,rfl⟩;have hml:m≤9223372036854775808:=zo;have hsg:n=sg (decide (n<0)) m:=by rw [hm,fj]
 have HM:=Hi hm;have HS:=Hi hsg;clear hm hsg;by_cases hn:n<0
 ·have hmn:(m:Int)=-n:=by have:=HM.out;omega
  have hw:IntKind.u64.wrap (-(IntKind.u64.wrap n))=m:=by rw [bF,bF];omega
  have HW:=Hi hw;clear hw;have hd:decide (n<0)=true:=by simpa using hn
  have hU:=mz (w.alloc (.cells #[.bool false,.slice none 0 0] 35)) (m % 4294967296) (m / 4294967296) (Nat.mod_lt _ dZ) zo;rw [nXc] at hU;have HU:=Hi hU;clear hU;go_enter Tryz.func113,Tryz.ntmps113
  go_wp2_with fail
  rw [HW.out,show (m:Int) % 4294967296=((m % 4294967296:Nat):Int) by omega,show (m:Int) / 4294967296 % 4294967296=((m / 4294967296:Nat):Int) by omega];refine Calls.mono (iT _ _ _ _ _ HU.out dZ) ?_;rintro e w1 ⟨x1,rfl,hE,g1⟩;rw [show val [m % 4294967296,m / 4294967296]=m by simp only [val];unfold W32;omega] at g1;have G1:=Hi g1;have HB:=Hi (hE.block ((Ext.alloc _ _).block (heap_alloc_new w (.cells #[.bool false,.slice none 0 0] 35))));obtain ⟨hcw,hfw⟩:=ak hE;have hsw:=hE.size;simp only [nXc] at hsw;have hs1:w.heap.size<w1.heap.size:=zo;have E1:=Hi (Ext.al2.trans hE);clear g1 hE
  go_wp2_with fail
  refine Calls.mono (dK _ _ _ _ m _ G1.out n (by rw [←hd];exact HS.out)) ?_;rintro e w2 ⟨x2,rfl,hE,g2⟩;have G2:=Hi g2;replace HB:=hE.bl HB;obtain ⟨hcw,hfw⟩:=ak hE;have hsw:=hE.size;have HX:=hE.tr E1;clear g2 hE;go_wp2;have hF:=(((Fin.start (L:=w.heap.size) HX.out (ai HB.out rfl)).set zo (i:=0) (v:=.bool x2.neg) rfl).set zo (i:=1) (v:=.slice x2.a x2.n x2.c) rfl);exact nXa (v:=x2.v) (by simp [results,Tryz.results113,go_sem,ae HB.out]) rfl ⟨x2,rfl,hF.ext,G2.out.keep hF.keep⟩
 ·have hmn:(m:Int)=n:=by have:=HM.out;omega
  have Hmn:=Hi hmn;clear hmn;have hd:decide (n<0)=false:=by simpa using hn
  have hU:=mz (w.alloc (.cells #[.bool false,.slice none 0 0] 35)) (m % 4294967296) (m / 4294967296) (Nat.mod_lt _ dZ) zo;rw [nXc] at hU;have HU:=Hi hU;clear hU;go_enter Tryz.func113,Tryz.ntmps113
  go_wp2_with fail
  have hmn:=Hmn.out;rw [show n % 4294967296=((m % 4294967296:Nat):Int) by omega,show n / 4294967296=((m / 4294967296:Nat):Int) by omega];clear hmn;refine Calls.mono (iT _ _ _ _ _ HU.out dZ) ?_;rintro e w1 ⟨x1,rfl,hE,g1⟩;rw [show val [m % 4294967296,m / 4294967296]=m by simp only [val];unfold W32;omega] at g1;have G1:=Hi g1;have HB:=Hi (hE.block ((Ext.alloc _ _).block (heap_alloc_new w (.cells #[.bool false,.slice none 0 0] 35))));obtain ⟨hcw,hfw⟩:=ak hE;have hsw:=hE.size;simp only [nXc] at hsw;have hs1:w.heap.size<w1.heap.size:=zo;have E1:=Hi (Ext.al2.trans hE);clear g1 hE
  go_wp2_with fail
  refine Calls.mono (dK _ _ _ _ m _ G1.out n (by rw [←hd];exact HS.out)) ?_;rintro e w2 ⟨x2,rfl,hE,g2⟩;have G2:=Hi g2;replace HB:=hE.bl HB;obtain ⟨hcw,hfw⟩:=ak hE;have hsw:=hE.size;have HX:=hE.tr E1;clear g2 hE;go_wp2;have hF:=(((Fin.start (L:=w.heap.size) HX.out (ai HB.out rfl)).set zo (i:=0) (v:=.bool x2.neg) rfl).set zo (i:=1) (v:=.slice x2.a x2.n x2.c) rfl);exact nXa (v:=x2.v) (by simp [results,Tryz.results113,go_sem,ae HB.out]) rfl ⟨x2,rfl,hF.ext,G2.out.keep hF.keep⟩
end Go.Proofs.YtkcpmclnocmalaaGreat
