/- Package dspcompilerref06: the members of its chain and their sizes. Plain facts. -/
import Derived.Test.YtafgmcimcbhhjaaGreatQIK14
import Derived.Test.YtafgmcimcbhhjaaGreatQIK13
import Derived.Test.YtafgmcimcbhhjaaGreatQIK1
import Derived.Test.YtafgmcimcbhhjaaGreatQIK2
import Derived.Test.YtafgmcimcbhhjaaGreatQIK10
import Derived.Test.YtafgmcimcbhhjaaGreatQIK4
import Derived.Test.YtafgmcimcbhhjaaGreatQIK6
set_option linter.unusedVariables false
set_option maxHeartbeats 8000000
set_option maxRecDepth 8000
namespace Go.Proofs.YtafgmcimcbhhjaaGreat
open Go.RowKit Go.Front Go.Num Stab Sg
theorem tw{T:Nat}{x:Rat}(h:Sz T x):Fr T x.den x:=by
 refine Fr.int (z:=x.num) h.1 ?_;exact low x
theorem AO{S D T:Nat}{l:List Rat}{x:Rat}(hl:FrL S D l)(hx:Sz T x):∀ j k,k+j=l.length→Fr (S+j*(T+1)) (D*x.den ^ j) (evV (l.drop k) x):=by
 intro j;induction j with
 | zero =>
  intro k hk;rw [List.drop_eq_nil_of_le (by omega)];exact Fr.zero _ _
 | succ j ih =>
  intro k hk;rw [nf l x (by omega)];have h1:=(ih (k+1) (by omega)).mul (tw hx);have hd:x.den ^ (j+1)≤W32 ^ (T*(j+1)):=by
   rw [Nat.pow_mul];exact Nat.pow_le_pow_left (nYj hx.2) _
  have h2:=(hl.at k).up (E:=x.den ^ (j+1)) hd (nYk x.den_pos);rw [Nat.mul_assoc,←nXs] at h1;have e1:j*(T+1)=j*T+j:=Nat.mul_succ _ _;have e2:(j+1)*(T+1)=j*T+j+(T+1):=by rw [nXx,e1]
  have e3:T*(j+1)=j*T+T:=by rw [Nat.mul_succ,nYc]
  refine ((h1.mono (S':=S+j*T+j+T) (by omega)).add (h2.mono (by omega))).mono (by omega)
theorem AN{S D T:Nat}{l:List Rat}{x:Rat}(hl:FrL S D l)(hx:Sz T x)(hS:1≤S)(hD:0<D)(hD2:D<W32 ^ S)(k:Nat):Sz (S+l.length*(T+1)) (evV (l.drop k) x):=by
 rcases Nat.lt_or_ge l.length k with h|h
 ·rw [List.drop_eq_nil_of_le (by omega)];exact (Sz.int (z:=0) (by decide)).mono (by omega)
 ·have h1:=AO hl hx (l.length-k) k (by omega);have hm:(l.length-k)*(T+1)≤l.length*(T+1):=nXg _ (by omega);refine (h1.sz (by omega) (Nat.mul_pos hD (nYk x.den_pos)) ?_).mono (by omega);have hd:x.den ^ (l.length-k)≤W32 ^ ((l.length-k)*(T+1)):=by
   rw [nYc,Nat.pow_mul];refine Nat.pow_le_pow_left (nXe (nYj hx.2) (nXo aA (by omega))) _
  rw [Nat.pow_add];exact Nat.mul_lt_mul_of_lt_of_le hD2 hd (nYk aA)
end Go.Proofs.YtafgmcimcbhhjaaGreat
/- Derivative of the reference's polynomials. -/
namespace Go.Proofs.YtafgmcimcbhhjaaGreat
open Go.RowKit Go.Front Go.Num Stab Sg
attribute [local go_sem] XW.cell XW.frozen
theorem tU(l:List Rat)(j:Nat):(List.range (j+1)).map (oz l)=(List.range j).map (oz l)++[l.getD (j+1) 0*(((j+1:Nat):Int):Rat)]:=bL (oz l) j
theorem pM(ao:Option Addr)(n cap:Nat)(l:List Rat)(w:World)(h:aG w ⟨ao,n,cap⟩ l)(hn:n≤1000000)(hz:SzL 8388608 l) :
  aq 53 [.slice ao n cap] w SH.v (fun s w'=>bR w.heap.size w' s (tz (derL l))):=by
 have HX:=Hi (Ext.refl w);have LA:=Hi h.lin;have Hlen:=Hi h.len;simp only at Hlen;have HZ:=Hi hz;clear h hz;unfold aq;go_enter Tryz.func53,Tryz.ntmps53;go_wp2
 go_loopg [3,4] (n-1) (fun g v i wr=>∃ (j:Nat) (s:SH),v=s.v∧j+g=n-1∧i=.int .i64 ((j:Int)+1)∧Ext w wr∧eP wr (w.heap.size≤·) s.v ((List.range j).map (oz l)))
 case atStart=>exact ⟨0,⟨none,0,0⟩,rfl,by omega,rfl,HX.out,eP.nil _ _⟩
 case round =>
  obtain ⟨j,⟨sa,sn,sc⟩,rfl,hj,rfl,g1,g4⟩:=hrel;clear HX;have HX:=Hi g1;have HO:=Hi g4;have LA2:=Hi (LA.out.ext g1);have hsz:=g1.size;clear g1 g4;simp only [SH.v];have HLj:Hid (((List.range j).map (oz l)).length=j):=Hi (by simp);by_cases h0:gk=0
  case pos =>
   subst h0;have hin:¬ (j:Int)+1<n:=by omega
   have hsn:=eP.len (s:=⟨sa,sn,sc⟩) HO.out;rw [HLj.out] at hsn;simp only at hsn;subst hsn;have HSz:Hid (SzL 16777216 ((List.range j).map (oz l))):=Hi (by
    intro q hq;obtain ⟨k,hk,rfl⟩:=nYd.1 hq;have hk:=List.mem_range.1 hk;have h1:Sz 8388608 (l.getD (k+1) 0):=HZ.out.at (by rw [Hlen.out];omega);exact (h1.mul (Sz.int (z:=((k+1:Nat):Int)) (by rw [nYf];show _<4294967296;omega))).mono (by decide))
   have HV:Hid (tz ((List.range j).map (oz l))=tz (derL l)):=Hi (by
    by_cases h1:n=0
    ·have hl:l=[]:=nXi.1 (by rw [Hlen.out];exact h1);have hj0:j=0:=by omega
     rw [hl,hj0];rfl
    ·exact pL l (by rw [Hlen.out];omega))
   go_wp2_with fail
   refine cM (rA sa j sc _ _ ((eP.can (s:=⟨sa,j,sc⟩) HO.out).raw HSz.out (by decide)) (by omega)) fun x22 w22 hE G22=>?_
   refine mV3 hE ?_ HX HO LA2;clear HX HO LA2;intro HX HO LA2;have hs_w22:=hE.size;clear hE;go_wp2
   go_ret
   exact ⟨x22,rfl,HX.out,by rw [←HV.out];exact G22.out.mono hsz⟩
  have hjn:(j:Int)+1<n:=by omega
  have hjn2:j+1<n:=by omega
  have HJI:Hid ((j:Int)+1=((j+1:Nat):Int)):=Hi (by omega);obtain ⟨b,off,r,hao,hbl,⟨hc1,hc2,hc3⟩,hP⟩:=LA2.out.celx (k:=j+1) hjn2;obtain ⟨rneg,ra,rn,rc,rb,rm,rd⟩:=r;simp only at hc1 hc2 hc3;subst hao;have RP:=Hi hP;clear hP;have ZP:Hid (Sz 8388608 (l.getD (j+1) 0)):=Hi (HZ.out.at (by rw [Hlen.out];exact hjn2));have HNx:=Hi (tU l j)
  go_upto_region 5 with fail
  refine wpG 9 (fun opIx=>match opIx with
   | 6=>.spec RH default RH.v (fun s w'=>av w' s ((((j+1:Nat):Int):Rat)))
   | 7=>.spec RH default RH.v (fun s w'=>av w' s (l.getD (j+1) 0*(((j+1:Nat):Int):Rat)))
   | 8=>.spec (Nat×RH) ((0,default)) (fun p=>.slice (some ⟨p.1,0,none⟩) 1 1) (fun p w'=>fU w' p (l.getD (j+1) 0*(((j+1:Nat):Int):Rat)))
   | _=>.quiet) (fun|7=>[6]|8=>[7]|_=>[]) fun w0 he0 hz0 hc0 hf0=>?_
  refine wps he0.out rfl rfl (fun w1 hW hG=>?_) fun x30=>?_
  ·exact spc [.int .i64 ((j:Int)+1)] Tryz.func36 ((by rw [HJI.out];exact fZ ((j+1:Nat):Int) _ (by omega) (by omega)))
  refine qZ ?_;refine wps he0.out rfl rfl (fun w1 hW hG=>?_) fun x31=>?_
  ·have g30:=(hG 6 (by decide):aw _ _).get fun _ e g=>g.ext e
   exact spc [RH.v ⟨rneg,ra,rn,rc,rb,rm,rd⟩,x30.v] Tryz.func48 (eH _ x30 _ _ _ ((RP.out.ext hW).raw ZP.out (by decide)) (g30.raw (Sz.int (by rw [nYf];show _<4294967296;omega)) (by decide)))
  refine qZ ?_;refine wps he0.out rfl rfl (fun w1 hW hG=>?_) fun x32=>?_
  ·have g31:=(hG 7 (by decide):aw _ _).get fun _ e g=>g.ext e
   exact kC x31 _ g31 rfl (by simp [execOp,go_sem])
  refine qZ ?_;refine aj ?_;intro w5 hI;have hE:=he0.out.trans hI.ext;have G30:=gT (hI.facts 6);have G31:=gT (hI.facts 7);have G32:=gT (hI.facts 8);clear hI he0 hz0 hc0 hf0;refine mV4 hE ?_ HX HO LA2 RP;clear HX HO LA2 RP;intro HX HO LA2 RP;have hs_w5:=hE.size;clear hE;simp only [pD];clear hc1 hc2 hc3
  go_upto_region 4 with (at_builtin;refine fs rfl (.tmp 11) (.tmp 19) 24 Tryz.underlying24 rfl (w.heap.size≤·) _ _ x32.2 _ x32.1 rfl HO.out rfl G32.out.1 G32.out.2 (by rw [HLj.out];omega) (fun k hk=>by omega) ?_;intro s' y3 q1 q2 q3)
  have HX3:=Hi (Ext.mods HX.out q2 (fun k h=>h));have HO3:Hid (eP y3 (w.heap.size≤·) s'.v ((List.range (j+1)).map (oz l))):=Hi (by rw [HNx.out];exact q1);clear q1 q2 q3;go_wp2
  go_roundg (gk-1)
  case measure=>omega
  case rel=>exact ⟨j+1,s',rfl,by omega,by go_num,HX3.out,HO3.out⟩
end Go.Proofs.YtafgmcimcbhhjaaGreat
/- Eval of the reference's polynomials, of any form. -/
namespace Go.Proofs.YtafgmcimcbhhjaaGreat
open Go.RowKit Go.Front Go.Num Stab
attribute [local go_sem] XW.cell XW.frozen
end Go.Proofs.YtafgmcimcbhhjaaGreat
/- roots, Count, Positive of package dspcompilerref06; Squarefree of dspcompilerref05. -/
namespace Go.Proofs.YtafgmcimcbhhjaaGreat
open Go.RowKit Go.Front Go.Num Stab Sg
attribute [local go_sem] XW.cell XW.frozen
def Fn(A:Prop):Prop:=Unit→A
def uE(l:List Rat)(a b:Rat):Bool:=if tz l=[] then false else decide (zX (tz l) (loV a b) (hiV a b)=0∧0<Sg.sg (evV l a))
end Go.Proofs.YtafgmcimcbhhjaaGreat
/- Count and Positive of package sturm and of the reference are the same. Plain facts. -/
namespace Go.Proofs.YtafgmcimcbhhjaaGreat.Sg
open Go.RowKit Go.Front Go.Num Go.Stab Go.Proofs.YtafgmcimcbhhjaaGreat
/-! ## Chains of -p -/
def ng(l:List Rat):List Rat:=l.map (·*-1)
theorem iu(l:List Rat)(n:Nat):seq (ng l) n=seq l n*-1:=aU l (-1) n
theorem mL{l:List Rat}:ng l=[]↔l=[]:=List.map_eq_nil_iff
theorem wY(l:List Rat):(ng l).length=l.length:=nXk ..
theorem yA(l:List Rat):tz (ng l)=ng (tz l):=gX (c:=-1) (by decide) l
theorem o3(b:Rat):(b*-1).abs=b.abs:=by
 unfold Rat.abs;split <;> split <;> grind
theorem xq(b:Rat):(b*-1)⁻¹=b⁻¹*-1:=by
 by_cases h:b=0
 ·subst h;decide +kernel
 ·have h1:=nYh b h;have h2:=nYh (b*-1) (fun e=>h (by grind));generalize (b*-1)⁻¹=x at *
  generalize b⁻¹=y at *
  have:x=x*(b*y):=by rw [h1,Rat.mul_one]
  rw [this];have h3:x*(b*y)=(b*-1*x)*(y*-1):=by grind
  rw [h3,h2,Rat.one_mul]
theorem yt(a b:Rat):fk a (b*-1)=fk a b:=by
 unfold fk;by_cases ha:a=0
 ·rw [if_pos ha,if_pos ha,o3]
 ·rw [if_neg ha,if_neg ha];by_cases hb:b=0
  ·rw [if_pos hb,if_pos (by rw [hb];grind)]
  ·have e1:a / (b*-1)=-(a / b):=by
    rw [Rat.div_def,Rat.div_def,xq];grind
   rw [if_neg hb,if_neg (fun e=>hb (by grind)),e1,Rat.neg_num,Rat.intCast_neg];rw [show a / -(((a / b).num:Int):Rat)=a / (((a / b).num:Int):Rat)*-1 from by rw [Rat.div_def,show -(((a / b).num:Int):Rat)=(((a / b).num:Int):Rat)*-1 by grind,xq,Rat.div_def];grind,o3]
theorem yK(l:List Rat):aZ (ng l)=aZ l:=by
 unfold aZ ng
 suffices ∀ m,List.foldl fk m (l.map (·*-1))=List.foldl fk m l from this 0
 induction l with
 | nil=>intro m;rfl
 | cons x l ih=>intro m;rw [List.map_cons,List.foldl_cons,List.foldl_cons,yt];exact ih _
theorem rL(p:List Rat):ax (ng p)=ng (ax p):=by
 unfold ax aK;rw [yA,yK];unfold ng;rw [List.map_map,List.map_map];exact List.map_congr_left fun x _=>by show x*-1 / _=x / _*-1;rw [Rat.div_def,Rat.div_def];grind
theorem BQ(l:List Rat)(x:Rat):evV (ng l) x=evV l x*-1:=(bJ l (-1) x).trans (nYa ..)
theorem yB{a b:List Rat}(hb:tz b≠[]):ax (ng (bP (ng a) (ng b)))=ng (ax (ng (bP a b))):=by
 obtain ⟨h1,-,-,h4⟩:=cu a hb;have hb2:tz (ng b)≠[]:=by rw [yA];exact fun h=>hb (mL.1 h)
 have h5:=(gg (p:=ng a) (q:=ng b) hb2 (s:=seq (bA a b)) (r:=seq (ng (bP a b))) (F:=1) (N:=(bA a b).length) (Bd.seq _) (fun i hi=>by rw [iu,Bd.seq _ i (by rw [yA,wY] at hi;omega),nXy]) (fun n=>by
  have hs:seq (ng b)=fun i=>-1*seq b i:=funext fun i=>by rw [iu];grind
  rw [Rat.one_mul,iu,iu,h4 n,hs,eD _ (fun i=>-1*seq b i),eO,eD];grind)).2
 have h6:ax (ng (bP (ng a) (ng b)))=ax (ng (ng (bP a b))):=bW (c:=1) (by decide) (fun n=>by rw [iu,iu,h5 n];grind);rw [h6,rL (ng (bP a b))]
theorem xD:∀ (n:Nat) (a b:List Rat),tz b=b→chn n (ng a) (ng b)=(chn n a b).map ng
 | 0,_,_,_=>rfl
 | n+1,a,b,hb=>by
  unfold chn;by_cases h1:a=[]
  ·rw [if_pos h1,if_pos (mL.2 h1)];rfl
  ·rw [if_neg h1,if_neg (fun h=>h1 (mL.1 h))];by_cases h2:b=[]
   ·rw [if_pos h2,if_pos (mL.2 h2)];rfl
   ·rw [if_neg h2,if_neg (fun h=>h2 (mL.1 h)),List.map_cons];have h3:=yB (a:=a) (b:=b) (by rw [hb];exact h2);have h4:=xD n b (ax (ng (bP a b))) (bt _);show ng a :: chn n (ng b) (ax (ng (bP (ng a) (ng b))))=_;rw [h3,h4];rfl
theorem rk:∀ (l:List Int) (a:Int),vr (-a) (l.map (fun s=>-s))=vr a l
 | [],_=>rfl
 | s :: l,a=>by
  rw [List.map_cons];unfold vr;by_cases h:s=0
  ·rw [if_pos h,if_pos (by omega)];exact rk l a
  ·rw [if_neg h,if_neg (by omega),rk l s]
   congr 1
   by_cases h2:a≠0∧s≠a
   ·rw [if_pos h2,if_pos (by omega)]
   ·rw [if_neg h2,if_neg (by omega)]
theorem z7(l:List (List Rat))(x:Rat):iI (l.map ng) x=iI l x:=by
 unfold iI;rw [List.map_map,show (fun m=>sg (evV m x)) ∘ ng=fun m=>-(sg (evV m x)) from funext fun m=>by show sg (evV (ng m) x)=_;rw [BQ,i5];show _*(-1:Int)=_;omega];rw [show (l.map fun m=>-(sg (evV m x)))=(l.map fun m=>sg (evV m x)).map (fun s=>-s) by rw [List.map_map];rfl];exact rk _ 0
theorem pV:∀ (n m:Nat) (a b:List Rat),tz b=b→b.length≤n→b.length≤m→chn (n+1) a b=chn (m+1) a b
 | n,m,a,b,hb,h1,h2=>by
  rw [chn,chn];by_cases h3:a=[]
  ·rw [if_pos h3,if_pos h3]
  ·rw [if_neg h3,if_neg h3];by_cases h4:b=[]
   ·rw [if_pos h4,if_pos h4]
   ·rw [if_neg h4,if_neg h4];have h5:=nYe.2 h4;obtain ⟨n',rfl⟩:∃ k,n=k+1:=⟨n-1,by omega⟩;obtain ⟨m',rfl⟩:∃ k,m=k+1:=⟨m-1,by omega⟩;have h6:=lC a b (by rw [hb];exact h4);rw [hb] at h6;rw [pV n' m' b _ (bt _) (by omega) (by omega)]
 termination_by n=>n
theorem xC(p:List Rat):(ax (derL p)).length≤p.length:=by
 by_cases h:tz p=[]
 ·have:tz (derL p)=[]:=wM (b:=[]) (fun i=>by
   show seq (derL p) i=_;rw [seq_derL,←aT p,h];show _*(0:Rat)=0;rw [nXz])
  rw [cD.2 this];exact Nat.zero_le _
 ·rw [aD];obtain ⟨n,hn,-⟩:=eN h;have:=gL p n hn;have:=ai p;omega
theorem rems_same{a b:List Rat}{c:Rat}(hc:0<c)(h:∀ n,seq b n=seq a n*c):remsV b=remsV a:=by
 have h1:ax b=ax a:=bW hc h;have h2:ax (derL b)=ax (derL a):=bW hc (fun n=>by rw [seq_derL,seq_derL,h,nYb]);unfold remsV;rw [h1,h2];exact pV _ _ _ _ (bt _) (by rw [←h2];exact xC b) (xC a)
theorem xX(p:List Rat):remsV (ng p)=(remsV p).map ng:=by
 have h2:ax (derL (ng p))=ng (ax (derL p)):=by
  rw [←rL];exact bW (c:=1) (by decide) (fun n=>by rw [iu,seq_derL,seq_derL,iu];grind)
 unfold remsV;rw [rL,h2,wY];exact xD _ _ _ (bt _)
theorem mr{a b:List Rat}{c:Rat}(hc:c≠0)(h:∀ n,seq b n=seq a n*c)(x:Rat):iI (remsV b) x=iI (remsV a) x:=by
 by_cases h1:0<c
 ·rw [rems_same h1 h]
 ·rw [rems_same (a:=ng a) (c:=-c) (by grind) (fun n=>by rw [iu,h n];grind),xX,z7]
theorem qh{a b:List Rat}(h:∀ x,evV a x*evV b x=1):∃ c:Rat,c≠0∧∀ x,evV b x=c:=by
 have ha:tz a≠[]:=fun h0=>by have:=h 0;rw [ev_tznil.1 h0,nXy] at this;exact absurd this (by decide)
 have hb:tz b≠[]:=fun h0=>by have:=h 0;rw [ev_tznil.1 h0,nXz] at this;exact absurd this (by decide)
 have h1:∀ x,evV (ar a b) x=evV [1] x:=fun x=>by rw [aJ,h x];show (1:Rat)=0*x+1;grind
 have h2:=df h1;have h3:=j1 ha hb;have h4:ln [1]=1:=by decide
 have h5:=ez ha;have h6:=ez hb;have h7:(tz b).length=1:=by show ln b=1;omega
 obtain ⟨c,hc⟩:=List.length_eq_one_iff.1 h7;have h8:∀ x,evV b x=c:=fun x=>by rw [←tA b,hc];show 0*x+c=c;grind
 exact ⟨c,fun h0=>by have:=h 0;rw [h8,h0,nXz] at this;exact absurd this (by decide),h8⟩
theorem xT{p:List Rat}(h:tz p≠[])(h1:Rt p p):∃ c:Rat,c≠0∧∀ n,seq (sqfV p) n=seq p n*c:=by
 obtain ⟨g1,q1,⟨a1,rfl⟩,-,⟨-,-,u,v,⟨bu,rfl⟩,⟨bv,rfl⟩,h4⟩,h2,-⟩:=h1.dv;obtain ⟨g2,q2,⟨a2,rfl⟩,-,⟨⟨k1,⟨b1,rfl⟩,h5⟩,⟨k2,⟨b2,rfl⟩,h6⟩,-⟩,h3,-⟩:=(ky h).dv;have e1:∀ x,evV a1 x=1:=by
  have i1:∀ x,evV (ar (subV a1 [1]) p) x=0:=fun x=>by
   rw [aJ,em];show (evV a1 x-(0*x+1))*evV p x=0;have:=h2 x;grind
  have i2:=ev_tznil.2 i1;have i3:tz (subV a1 [1])=[]:=Classical.byContradiction fun hn=>by
   have h7:=j1 hn h;have h8:=ez hn;have h9:=ez h;have h0:ln (ar (subV a1 [1]) p)=0:=by show (tz _).length=0;rw [i2];rfl
   omega
  intro x;have h7:=ev_tznil.1 i3 x;rw [em] at h7;have h8:evV [1] x=1:=by show 0*x+1=(1:Rat);grind
  rw [h8] at h7;grind
 obtain ⟨c,hc,h7⟩:=qh (a:=bf (ar bu b1) (ar bv b2)) (b:=a2) (fun x=>by
  have i1:=h4 x;rw [e1 x,h5 x,h6 x] at i1;rw [ev_add5,aJ,aJ];grind)
 refine ⟨c⁻¹,fun h0=>by have k:=nYh c hc;rw [h0,nXz] at k;exact absurd k (by decide),fun n=>?_⟩;rw [←aU];refine iE (fun x=>?_) n;rw [bJ,h3 x,h7 x,←nYb,Rat.inv_mul_cancel c hc,Rat.one_mul]
theorem Bk{p:List Rat}(h:tz p≠[])(lo hi:Rat):cntV p lo hi=zX p lo hi:=by
 have hd:∀ (r:List Rat),tz r≠[]→(rtV (remsV r) lo=true↔sg (evV r lo)=0):=fun r hr=>by
  obtain ⟨l,hl⟩:=mE hr;unfold rtV;rw [hl,decide_eq_true_eq];show sg (evV (ax r) lo)=0↔_;rw [nH]
 have hne:=(ky h).ne;unfold cntV zX;rw [js,js];by_cases hr:2≤((remsV p).getLast?.getD []).length
 ·have e:rootV p=sqfV p:=by unfold rootV;rw [if_pos hr]
  rw [e];by_cases h0:sg (evV (sqfV p) lo)=0
  ·rw [if_pos h0,if_pos ((hd _ hne).2 h0)]
  ·rw [if_neg h0,if_neg (fun k=>h0 ((hd _ hne).1 k))]
 ·have e:rootV p=p:=by unfold rootV;rw [if_neg hr]
  have hrt:=rX h;rw [e] at hrt ⊢;obtain ⟨c,hc,h1⟩:=xT h hrt;rw [mr hc h1,mr hc h1];have h2:evV (sqfV p) lo=c*evV p lo:=fP (fun n=>by rw [h1 n,nYa]) lo;by_cases h0:sg (evV p lo)=0
  ·rw [if_pos ((hd _ h).2 h0),if_pos (by rw [h2,i5,h0,Int.mul_zero])]
  ·rw [if_neg (fun k=>h0 ((hd _ h).1 k)),if_neg (fun k=>by
    rw [h2,i5] at k;rcases Int.mul_eq_zero.1 k with k|k
    ·exact hc (oV.1 k)
    ·exact h0 k)]
theorem pos_eq{p:List Rat}{lo hi:Rat}(hlh:lo≤hi):posV (tz p) lo hi=uE p lo hi:=by
 unfold posV uE;rw [bs];by_cases h:tz p=[]
 ·rw [if_pos h,if_pos h]
 ·rw [if_neg h,if_neg h,vL hlh,vS hlh,nH,tA];by_cases h1:sg (evV p lo)≤0
  ·rw [if_pos h1,decide_eq_false (fun k=>by have:=k.2;omega)]
  ·rw [if_neg h1,Bk (by rw [bs];exact h)];by_cases h2:zX (tz p) lo hi=0
   ·rw [decide_eq_true h2,decide_eq_true ⟨h2,by omega⟩]
   ·rw [decide_eq_false h2,decide_eq_false (fun k=>h2 k.1)]
end Go.Proofs.YtafgmcimcbhhjaaGreat.Sg
/- Positive for lists of any form. -/
namespace Go.Proofs.YtafgmcimcbhhjaaGreat
open Go.RowKit Go.Front Go.Num Stab
attribute [local go_sem] XW.cell XW.frozen
theorem r4(p:List Rat):Sg.remsV (tz p)=Sg.remsV p :=
 (Sg.rems_same (c:=1) (by decide) (fun n=>by rw [aT,Rat.mul_one])).symm
theorem yH(p:List Rat):cg (tz p)=cg p:=Pr.mon ⟨1,by decide,fun n=>by rw [aT,Rat.one_mul]⟩
theorem wO(p:List Rat):Sg.sqfV (tz p)=Sg.sqfV p:=by
 have hd:tz (Sg.derL (tz p))=tz (Sg.derL p):=jQ (fun n=>by rw [Sg.seq_derL,Sg.seq_derL,aT]);have hg:dp (tz p) (Sg.derL (tz p))=dp p (Sg.derL p):=by
  rw [←lZ,hd,lZ];unfold dp;rw [yH]
 have hq:bA (tz p) (dp p (Sg.derL p))=bA p (dp p (Sg.derL p)):=by unfold bA;rw [bs]
 unfold Sg.sqfV;rw [hg,hq]
theorem Bj(p:List Rat)(lo hi:Rat):Sg.cntV (tz p) lo hi=Sg.cntV p lo hi:=by
 have h:Sg.remsV (Sg.rootV (tz p))=Sg.remsV (Sg.rootV p):=by
  unfold Sg.rootV;rw [r4,wO];split
  ·rfl
  ·exact r4 p
 unfold Sg.cntV;rw [h]
theorem Av(p:List Rat)(lo hi:Rat):Sg.posV (tz p) lo hi=Sg.posV p lo hi:=by
 unfold Sg.posV;rw [bs,rJ,Bj]
theorem yg{p:List Rat}{lo hi:Rat}(h:lo≤hi):Sg.posV p lo hi=uE p lo hi:=by rw [←Av,Sg.pos_eq h]
open Sg
theorem uP(pa:Option Addr)(P pc:Nat)(p:List Rat)(K:Nat)(s t:RH)(a b:Rat)(T:Nat)(w:World)(h:cV w ⟨pa,P,pc⟩ p)(hP:P≤49)(hk:FrK K p)(hkq:FrK K (sqfV p))(hK:K≤12000000)(hK2:(P+1)*(K / 3)≤25000000)
 (hs:aW w s a)(ht:aW w t b)(za:Sz T a)(zb:Sz T b)(hT:1≤T)(hT3:T≤1000) :
  aq 27 [.slice pa P pc,IvV (s,t)] w (fun _:Unit=>.tuple #[.bool (posV p (loV a b) (hiV a b)),.int .i64 0]) (fun _ _=>True):=by
 obtain ⟨sn,sa,sl,sc,sb,sm,sd⟩:=s;obtain ⟨tn,ta,tl,tc,tb,tm,td⟩:=t;have HX:=Hi (Ext.refl w);have LP:=Hi (RIn.of h);have HS:=Hi hs;have HT:=Hi ht;have hlen:=h.len;simp only at hlen;have HKp:=Hi hk;have HKs:=Hi hkq;obtain ⟨S,D,hS,hD,hDW,hF,hSK⟩:=hk;have hSs:=KZ.small hSK;have HF:=Hi hF;have HSW:Hid (∀ y ∈ ax p,Wz S y):=Hi (dM (fun x hx=>hF x (gD hx)) hD);have HSl:Hid ((ax p).length≤P):=Hi (by rw [aD,←hlen];exact ai p);have ZA:Hid (Sz T (loV a b)):=Hi (by rcases AC a b with e|e <;> rw [e] <;> assumption);have ZB:Hid (Sz T (hiV a b)):=Hi (by rcases AG a b with e|e <;> rw [e] <;> assumption);have HLH:Hid (loV (loV a b) (hiV a b)=loV a b∧hiV (loV a b) (hiV a b)=hiV a b):=Hi ⟨vL (AD a b),vS (AD a b)⟩;obtain ⟨lo,hlo⟩:∃ lo,lo=loV a b:=⟨_,rfl⟩;obtain ⟨hi,hhi⟩:∃ hi,hi=hiV a b:=⟨_,rfl⟩;rw [←hlo] at ZA;rw [←hhi] at ZB;rw [←hlo,←hhi] at HLH;have HLO:=Hi hlo;have HHI:=Hi hhi;have HLn:=Hi hlen;rw [←hlo,←hhi];clear h hs ht hkq za zb hlo hhi hF hSK hlen;unfold aq;go_enter Tryz.func27,Tryz.ntmps27
 go_upto_region 1 with fail
 refine nmA ?_;intro w1 hE B3 hz_w1 hr_w1;refine mV4 hE ?_ HX LP HS HT;clear HX LP HS HT;intro HX LP HS HT;have hs_w1:=hE.size;clear hE;replace b_B3:=bX3 B3
 go_wp2_with fail
 refine cM (oW pa P pc p _ LP.out.raw) fun x9 w9 hE _=>?_
 refine mV5 hE ?_ B3 HX LP HS HT;clear B3 HX LP HS HT;intro B3 HX LP HS HT;have hs_w9:=hE.size;clear hE;replace b_B3:=bX3 B3;by_cases h0:tz p=[]
 case pos =>
  have HE:Hid (posV p lo hi=false):=Hi (by unfold posV;rw [if_pos h0]);have HCk:Hid (qU p=3):=Hi (by unfold qU;rw [if_neg (by rw [h0];decide),if_pos h0]);rw [HCk.out];clear h0;go_wp2;exact bodyPost_ret (v:=.tuple #[.bool (posV p lo hi),.int .i64 0]) (by rw [HE.out];simp [results,Tryz.results27,go_sem]) rfl ⟨(),rfl,HX.out,trivial⟩
 have H0:=Hi h0;rw [Bn h0 (by rw [HLn.out];exact hP)];clear h0;have HNV:Hid (posV p lo hi=if Sg.sg (evV (ax p) lo)≤0 then false else decide (cntV p lo hi=0)):=Hi (by
  unfold posV;rw [if_neg H0.out])
 go_wp2_with fail
 refine cM (kP ⟨sn,sa,sl,sc,sb,sm,sd⟩ ⟨tn,ta,tl,tc,tb,tm,td⟩ a b _ HS.out HT.out) fun x15 w15 hE G15=>?_
 refine mV5 hE ?_ B3 HX LP HS HT;clear B3 HX LP HS HT;intro B3 HX LP HS HT;have hs_w15:=hE.size;clear hE;replace b_B3:=bX3 B3;obtain ⟨⟨ln,la,ll,lc,lb,lm,ld⟩,⟨hn,ha,hl,hc,hb,hm,hd⟩⟩:=x15;rw [←HLO.out,←HHI.out] at G15;have HL:=Hi G15.out.1;have HH:=Hi G15.out.2;clear G15;clear HS;clear HT
 go_upto_region 7 with fail
 refine bY B3.out rfl ?_;intro w16 T;replace HX:=Hi (T.ext HX.out (by omega));replace LP:=Hi (LP.out.put T (by omega));replace B3:=Hi (T.bx);replace HL:=Hi (HL.out.keep T.keep);replace HH:=Hi (HH.out.keep T.keep);have hs_w16:=nle T.size;have hr_w16:=nle T.size.symm;clear T;replace b_B3:=bX3 B3;obtain ⟨s1,hs1⟩:∃ s1,s1=Sg.sg (evV (ax p) lo):=⟨_,rfl⟩;have HS1:=Hi hs1;rw [←hs1] at HNV;clear hs1;refine wpG 6 (fun opIx=>match opIx with
  | 1=>.spec (SH) (default) (SH.v) (fun x w'=>zU (ax p).length w' x (ax p))
  | 4=>.spec Unit () (fun _=>.int .i64 s1) (fun _ _=>True)
  | _=>.quiet) (fun|4=>[1]|_=>[]) fun w0 he0 hz0 hc0 hf0=>?_
 refine wps he0.out rfl rfl (fun w1 hW hG=>?_) fun x20=>?_
 ·exact spc [.slice pa P pc] Tryz.func77 ((jB pa P pc p S D _ (LP.out.ext hW).raw (by omega) hS (by omega) hD hDW HF.out).wk (fun x w' _ h=>(let ⟨_,_,_,_,h4⟩:=h.lin (by have:=HSl.out;omega);⟨h4.can,h4.len.symm⟩)))
 refine qZ ?_;refine wps he0.out rfl rfl (fun w1 hW hG=>?_) fun x21=>?_
 ·have g20:=(hG 1 (by decide):aw _ _).get fun _ e g=>g.ext e
  exact spc [x20.v,RH.v ⟨ln,la,ll,lc,lb,lm,ld⟩] Tryz.func79 ((by rw [HS1.out];exact jA x20.a x20.n x20.c (ax p) ⟨ln,la,ll,lc,lb,lm,ld⟩ lo S T _ g20.1 (HL.out.ext hW) (by rw [g20.2];have:=HSl.out;omega) HSW.out ZA.out hT hS (by omega) hT3))
 refine qZ ?_;refine aj ?_;intro w17 hI;have hE:=he0.out.trans hI.ext;have G20:=gT (hI.facts 1);clear hI he0 hz0 hc0 hf0;refine mV5 hE ?_ HX B3 HH LP HL;clear HX B3 HH LP HL;intro HX B3 HH LP HL;have hs_w17:=hE.size;clear hE;replace b_B3:=bX3 B3;simp only [pD];clear G20;by_cases hn1:s1≤0
 case pos =>
  have HE:Hid (posV p lo hi=false):=Hi (by rw [HNV.out,if_pos hn1]);go_wp2;exact bodyPost_ret (v:=.tuple #[.bool (posV p lo hi),.int .i64 0]) (by rw [HE.out];simp [results,Tryz.results27,go_sem]) rfl ⟨(),rfl,HX.out,trivial⟩
 rw [if_neg (fun h=>by omega)] at HNV
 go_wp2_with fail
 refine cM (qw pa P pc p K ⟨ln,la,ll,lc,lb,lm,ld⟩ ⟨hn,ha,hl,hc,hb,hm,hd⟩ lo hi T _ LP.out.raw hP H0.out HKp.out hK hK2 HKs.out (HL.out.raw ZA.out (by omega)) (HH.out.raw ZB.out (by omega)) ZA.out ZB.out hT hT3) fun x25 w25 hE _=>?_
 refine mV5 hE ?_ HX B3 HH LP HL;clear HX B3 HH LP HL;intro HX B3 HH LP HL;have hs_w25:=hE.size;clear hE;replace b_B3:=bX3 B3;rw [HLH.out.1,HLH.out.2];obtain ⟨c,hcc⟩:∃ c,c=cntV p lo hi:=⟨_,rfl⟩;rw [←hcc] at HNV ⊢;clear hcc;by_cases hc0:c=0
 ·have HE:Hid (posV p lo hi=true):=Hi (by rw [HNV.out,decide_eq_true hc0]);subst hc0;go_wp2;exact bodyPost_ret (v:=.tuple #[.bool (posV p lo hi),.int .i64 0]) (by rw [HE.out];simp [results,Tryz.results27,go_sem]) rfl ⟨(),rfl,HX.out,trivial⟩
 ·have HE:Hid (posV p lo hi=false):=Hi (by rw [HNV.out,decide_eq_false hc0]);have hcb:(c == 0)=false:=by rw [nXr];exact hc0
  go_wp2;exact bodyPost_ret (v:=.tuple #[.bool (posV p lo hi),.int .i64 0]) (by rw [HE.out];simp [results,Tryz.results27,go_sem]) rfl ⟨(),rfl,HX.out,trivial⟩
end Go.Proofs.YtafgmcimcbhhjaaGreat
/- The divisors of a polynomial with whole coefficients are small: Gauss's lemma, and a polynomial from its values. Plain facts. -/
namespace Go.Proofs.YtafgmcimcbhhjaaGreat.Sg
open Go.RowKit Go.Front Go.Num Go.Stab Go.Proofs.YtafgmcimcbhhjaaGreat Sie
theorem Az{g a b:Rat}(ha:Mu g a)(hb:Mu g b)(h0:a≠0∨b≠0):Mu g (fk a b):=by
 have habs:∀ {x:Rat},Mu g x→Mu g x.abs:=fun {x} ⟨z,hz,e⟩=>by
  rcases ut x with k|k
  ·exact ⟨z,hz,by rw [k,e]⟩
  ·exact ⟨-z,hz.neg,by rw [k,e];grind⟩
 unfold fk;by_cases ha0:a=0
 ·rw [if_pos ha0];exact habs hb
 ·rw [if_neg ha0];by_cases hb0:b=0
  ·rw [if_pos hb0];exact ha
  ·rw [if_neg hb0];refine habs ?_;obtain ⟨z,hz,rfl⟩:=ha;obtain ⟨y,hy,rfl⟩:=hb;have hg:g≠0:=fun h=>ha0 (by rw [h];grind)
   have hz0:z≠0:=fun h=>ha0 (by rw [h];grind)
   have hy0:y≠0:=fun h=>hb0 (by rw [h];grind)
   have e:z*g / (y*g)=z / y:=l7 hg z hy0;rw [e];have h1:=low (z / y);have h2:=aE (a:=z) hy0;have hq0:z / y≠0:=fun h=>hz0 (by rw [←h2,h];grind)
   have hN:=kM hq0;rw [hz.eq,hy.eq] at h1 h2;rw [hz.eq,hy.eq] at hN ⊢;generalize hq:(z.num:Rat) / (y.num:Rat)=q at *
   -- z den=y num
   have h3:z.num*q.den=y.num*q.num:=by
    have:(z.num:Rat)*(q.den:Rat)=(y.num:Rat)*(q.num:Rat):=by rw [←h1,←h2];grind
    have h4:((z.num*q.den:Int):Rat)=((y.num*q.num:Int):Rat):=by
     rw [Rat.intCast_mul,Rat.intCast_mul,Rat.intCast_natCast];exact this
    exact Rat.intCast_inj.1 h4
   have hd:q.num ∣ z.num:=by
    have h4:q.num ∣ z.num*q.den:=⟨y.num,by rw [h3,Int.mul_comm]⟩;have h5:q.num.natAbs ∣ z.num.natAbs*q.den:=by
     have:=Int.natAbs_dvd_natAbs.2 h4
     rwa [Int.natAbs_mul,nYf] at this
    exact Int.natAbs_dvd_natAbs.1 (Nat.Coprime.dvd_of_dvd_mul_right q.reduced h5)
   obtain ⟨k,hk⟩:=hd;refine ⟨(k:Rat),Wh.int k,?_⟩;have h6:=aE (a:=(z.num:Rat)*g) hN;have h7:(z.num:Rat)=(q.num:Rat)*(k:Rat):=by rw [hk,Rat.intCast_mul]
   have h8:((z.num:Rat)*g / (q.num:Rat)-(k:Rat)*g)*(q.num:Rat)=0:=by rw [Rat.sub_eq_add_neg,Rat.add_mul,h6,h7];grind
   rcases nXq.1 h8 with h|h
   ·grind
   ·exact absurd h hN
theorem yG{g:Rat}(l:List Rat)(h:∀ x ∈ l,Mu g x):Mu g (aZ l):=by
 induction l using snoc_ind with
 | h0=>exact Mu.zero g
 | h1 l r ih =>
  rw [eh];have h1:=ih (fun x hx=>h x (List.mem_append_left _ hx));have h2:=h r (by simp);by_cases h3:aZ l≠0∨r≠0
  ·exact Az h1 h2 h3
  ·have e1:aZ l=0:=Decidable.byContradiction fun h4=>h3 (Or.inl h4)
   have e2:r=0:=Decidable.byContradiction fun h4=>h3 (Or.inr h4)
   rw [e1,e2,pQ];exact Mu.zero g
theorem nI(p:List Rat)(i:Nat):seq (ax p) i=(((seq (ax p) i).num:Int):Rat):=by
 rcases Nat.lt_or_ge i (ax p).length with h4|h4
 ·exact (wQ p _ (bI h4)).eq
 ·rw [show seq (ax p) i=0 from bB h4];rfl
theorem uQ{p:List Rat}(hp:tz p≠[]){t:Int}(h:∀ i,t ∣ (seq (ax p) i).num):t.natAbs=1:=by
 have hm:=bF hp;have h1:Mu ((t:Rat)*aK p) (aK p):=yG (tz p) fun x hx=>by
  obtain ⟨i,hi,rfl⟩:=dD hx;rw [bj];have h2:=cX p i;obtain ⟨k,hk⟩:=h i;have h3:=nI p i;refine ⟨(k:Rat),Wh.int k,?_⟩;show seq p i=_;rw [h2,h3,hk,Rat.intCast_mul];grind
 obtain ⟨z,hz,e⟩:=h1;have h2:z*(t:Rat)=1:=by
  have h3:(z*(t:Rat)-1)*aK p=0:=by grind
  rcases nXq.1 h3 with h|h
  ·grind
  ·rw [h] at hm;exact absurd hm Rat.lt_irrefl
 rw [hz.eq,←Rat.intCast_mul] at h2;have h4:z.num*t=1:=Rat.intCast_inj.1 h2;exact Int.natAbs_dvd_natAbs.2 (⟨z.num,by rw [←h4,Int.mul_comm]⟩:t ∣ 1) |> fun h=>Nat.dvd_one.1 h
theorem sU:∀ N:Nat,2≤N→∃ r,2≤r∧r ∣ N∧∀ x y:Int,(r:Int) ∣ x*y→(r:Int) ∣ x∨(r:Int) ∣ y:=by
 intro N hN;have key:∀ n:Nat,∀ r,2≤r→r≤n→r ∣ N→∃ r,2≤r∧r ∣ N∧∀ d,d ∣ N→2≤d→r≤d:=by
  intro n;induction n with
  | zero=>intro r h1 h2;omega
  | succ n ih =>
   intro r h1 h2 h3;by_cases h4:∃ d,d ∣ N∧2≤d∧d<r
   ·obtain ⟨d,d1,d2,d3⟩:=h4;exact ih d d2 (by omega) d1
   ·exact ⟨r,h1,h3,fun d d1 d2=>Classical.byContradiction fun h5=>h4 ⟨d,d1,d2,by omega⟩⟩
 obtain ⟨r,h1,h2,h3⟩:=key N N hN (nXd N) (Nat.dvd_refl N);refine ⟨r,h1,h2,fun x y h=>?_⟩;have hg:Nat.gcd r x.natAbs=1∨Nat.gcd r x.natAbs=r:=by
  have a1:=Nat.gcd_dvd_left r x.natAbs;have a2:Nat.gcd r x.natAbs ∣ N:=Nat.dvd_trans a1 h2;have a3:=Nat.le_of_dvd (by omega) a1;have a4:0<Nat.gcd r x.natAbs:=Nat.gcd_pos_of_pos_left _ (by omega);rcases Nat.lt_or_ge (Nat.gcd r x.natAbs) 2 with h4|h4
  ·left;omega
  ·right
   have:=h3 _ a2 h4;omega
 have hn:r ∣ x.natAbs*y.natAbs:=by
  have:=Int.natAbs_dvd_natAbs.2 h
  rwa [nYf,Int.natAbs_mul] at this
 rcases hg with h4|h4
 ·right
  exact Int.natAbs_dvd_natAbs.1 (by rw [nYf];exact Nat.Coprime.dvd_of_dvd_mul_left h4 hn)
 ·left
  exact Int.natAbs_dvd_natAbs.1 (by rw [nYf,←h4];exact Nat.gcd_dvd_right _ _)
theorem mY{r:Int}{f:Nat→Int}(h:∃ i,¬ r ∣ f i):∃ i,¬ r ∣ f i∧∀ j,j<i→r ∣ f j:=by
 obtain ⟨i,hi⟩:=h;induction i using Nat.strongRecOn with
 | _ i ih =>
  by_cases h2:∃ j,j<i∧¬ r ∣ f j
  ·obtain ⟨j,h3,h4⟩:=h2;exact ih j h3 h4
  ·exact ⟨i,hi,fun j hj=>Decidable.byContradiction fun h=>h2 ⟨j,hj,h⟩⟩
theorem vO{r:Int}{n:Nat}{f:Nat→Int}(h:∀ i,i<n→r ∣ f i):r ∣ gO n f:=by
 induction n with
 | zero=>exact ⟨0,by simp [gO]⟩
 | succ n ih=>exact Int.dvd_add (ih fun i hi=>h i (by omega)) (h n (Nat.lt_succ_self n))
theorem vP{r:Int}:∀ {n:Nat} {f:Nat→Int} {k:Nat},k<n→(∀ i,i<n→i≠k→r ∣ f i)→r ∣ gO n f→r ∣ f k:=by
 intro n;induction n with
 | zero=>intro f k h;omega
 | succ n ih =>
  intro f k hk h hs;have hs':r ∣ gO n f+f n:=hs;by_cases h1:k=n
  ·subst h1;exact (Int.dvd_add_right (vO fun i hi=>h i (by omega) (by omega))).1 hs'
  ·exact ih (by omega) (fun i hi hne=>h i (by omega) hne) ((Int.dvd_add_left (h n (Nat.lt_succ_self n) (by omega))).1 hs')
theorem BN{r:Nat}(hr:∀ x y:Int,(r:Int) ∣ x*y→(r:Int) ∣ x∨(r:Int) ∣ y){f g:Nat→Int}(hf:∃ i,¬ (r:Int) ∣ f i)(hg:∃ i,¬ (r:Int) ∣ g i):∃ n,¬ (r:Int) ∣ gO (n+1) (fun i=>f i*g (n-i)):=by
 obtain ⟨a,ha,ha2⟩:=mY hf;obtain ⟨b,hb,hb2⟩:=mY hg;refine ⟨a+b,fun h=>?_⟩;have h1:=vP (k:=a) (by omega) (fun i hi hne=>?_) h
 ·rw [show a+b-a=b by omega] at h1;rcases hr _ _ h1 with h2|h2
  ·exact ha h2
  ·exact hb h2
 ·rcases Nat.lt_or_ge i a with h2|h2
  ·exact Int.dvd_mul_of_dvd_left (ha2 i h2)
  ·exact Int.dvd_mul_of_dvd_right (hb2 (a+b-i) (by omega))
theorem wA{q g h:List Rat}(hq:∀ i,Wh (seq q i))(hq0:tz q≠[])(hg:ax g=g)(he:∀ x,evV q x=evV g x*evV h x):∀ i,Wh (seq h i):=by
 have hg0:tz g≠[]:=fun h0=>by
  obtain ⟨y,hy⟩:=vF hq0;exact hy (by rw [he,ev_tznil.1 h0 y];grind)
 have hh0:tz h≠[]:=fun h0=>by
  obtain ⟨y,hy⟩:=vF hq0;exact hy (by rw [he,ev_tznil.1 h0 y];grind)
 have whs:=nI;have hc:∀ n,(seq q n)*((aK h).den:Rat)=((aK h).num:Rat)*((gO (n+1) (fun i=>(seq g i).num*(seq (ax h) (n-i)).num):Int):Rat):=fun n=>by
  have h1:=iE (p:=q) (q:=ar g h) (fun x=>by rw [aJ,he]) n;rw [h1,dJ,fT,mR];have h2:cv (seq g) (seq h) n=aK h*sm (n+1) (fun i=>(((seq g i).num*(seq (ax h) (n-i)).num:Int):Rat)):=by
   rw [←jC];refine sm_congr fun i hi=>?_
   rw [Rat.intCast_mul,←whs h,cX h (n-i)];have h3:=whs g i;rw [hg] at h3;rw [←h3];grind
  rw [h2];have h4:=low (aK h);rw [←h4];grind
 have hd:(aK h).den=1:=by
  apply Classical.byContradiction;intro hd;have hd2:2≤(aK h).den:=by have:=(aK h).den_pos;omega
  obtain ⟨r,r1,r2,r3⟩:=sU _ hd2;have hpf:∀ {p:List Rat},tz p≠[]→∃ i,¬ (r:Int) ∣ (seq (ax p) i).num:=fun {p} hp=>Classical.byContradiction fun hn=>by
   have:=uQ hp (t:=(r:Int)) (fun i=>Classical.byContradiction fun h=>hn ⟨i,h⟩);rw [nYf] at this;omega
  have hgf:=hpf hg0;rw [hg] at hgf;obtain ⟨n,hn⟩:=BN r3 hgf (hpf hh0);apply hn;have h1:=hc n;rw [(hq n).eq] at h1;have h2:(seq q n).num*(aK h).den=(aK h).num*gO (n+1) (fun i=>(seq g i).num*(seq (ax h) (n-i)).num):=by
   apply Rat.intCast_inj.1;rw [Rat.intCast_mul,Rat.intCast_mul,Rat.intCast_natCast];exact h1
  have h3:(r:Int) ∣ (aK h).num*gO (n+1) (fun i=>(seq g i).num*(seq (ax h) (n-i)).num):=by
   rw [←h2];obtain ⟨k,hk⟩:=r2;exact ⟨(seq q n).num*k,by rw [hk,Int.natCast_mul];grind⟩
  rcases r3 _ _ h3 with h4|h4
  ·exfalso;have h5:r ∣ (aK h).num.natAbs:=by
    have:=Int.natAbs_dvd_natAbs.2 h4
    rwa [nYf] at this
   have h6:=Nat.dvd_gcd h5 r2;rw [(aK h).reduced] at h6;have:=Nat.dvd_one.1 h6;omega
  ·exact h4
 intro i;rw [cX h i];exact Wh.mul hd (by rw [whs h i];exact Wh.int _)
end Go.Proofs.YtafgmcimcbhhjaaGreat.Sg
