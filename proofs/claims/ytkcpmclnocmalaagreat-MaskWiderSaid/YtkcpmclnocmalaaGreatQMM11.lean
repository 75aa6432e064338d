import Derived.Test.YtkcpmclnocmalaaGreatQMK1
set_option linter.unusedVariables false
set_option maxRecDepth 8000
set_option maxHeartbeats 4000000
namespace Go.Proofs.YtkcpmclnocmalaaGreat
open Go.RowKit Go.Front Go.Num
attribute [local go_sem] XW.cell XW.frozen
theorem eB{qs:List Rat}{i:Nat}(h:qs.length≤i):qs.getD i 0=0:=by
 rw [nXd,List.getElem?_eq_none h];rfl
theorem nG(ao:Option Addr)(n cap:Nat)(qs:List Rat)(i:Nat)(w:World)(h:cN w ⟨ao,n,cap⟩ qs)(hi:i≤1073741824) :
  ar 72 [.slice ao n cap,.int .i64 (i:Nat)] w RH.v (fun x w'=>aA w' x (qs.getD i 0)):=by
 have HX:=Hi (Ext.refl w);have hle:=h.le;have hmx:=h.max;have hlen:=h.len;simp only at hle hmx hlen;unfold ar;by_cases hin:i<n
 ·obtain ⟨b,off,r,hao,hbl,⟨hc1,hc2,hc3⟩,hP⟩:=h.cells' (k:=i) hin;subst hao;obtain ⟨rneg,ra,rn,rc,rb,rm,rd⟩:=r;simp only at hc1 hc2 hc3;have HP:=Hi hP;clear hP h hlen;go_enter Tryz.func72,Tryz.ntmps72
  go_wp2_with fail
  refine nmA (F:=fun W=>Calls _ _ _ W _) ?_;intro w1 hE B4 hz_w1 hr_w1;refine mV2 hE ?_ HX HP;clear HX HP;intro HX HP;have hs_w1:=hE.size;replace b_B4:=bX3 B4
  change Calls _ _ _ _ _
  refine cM (ey ⟨rneg,ra,rn,rc,rb,rm,rd⟩ (qs.getD i 0) _ HP.out) fun x2 w2 hE G2=>?_
  refine mV3 hE ?_ B4 HX HP;clear B4 HX HP;intro B4 HX HP;have hs_w2:=hE.size;replace b_B4:=bX3 B4;go_wp2;have hF:=((((Fin.start (L:=w.heap.size) HX.out (ai B4.out rfl)).set zo (i:=0) (v:=.bool x2.neg) rfl).set zo (i:=1) (v:=.slice x2.a x2.n x2.c) rfl).set zo (i:=2) (v:=.slice x2.b x2.m x2.d) rfl);exact nXa (v:=x2.v) (by simp [results,Tryz.results72,go_sem,ae B4.out]) rfl ⟨x2,rfl,hF.ext,G2.out.keep hF.keep⟩
 ·have HZ:Hid (qs.getD i 0=((0:Int):Rat)):=Hi (eB zo);clear h hlen;go_enter Tryz.func72,Tryz.ntmps72
  go_wp2_with fail
  refine nmA (F:=fun W=>Calls _ _ _ W _) ?_;intro w1 hE B4 hz_w1 hr_w1;replace HX:=hE.tr HX;have hs_w1:=hE.size;replace b_B4:=bX3 B4
  change Calls _ _ _ _ _
  refine cM (dR 0 _ dZ dZ) fun x2 w2 hE G2=>?_
  refine mV2 hE ?_ B4 HX;clear B4 HX;intro B4 HX;have hs_w2:=hE.size;replace b_B4:=bX3 B4;go_wp2;have hF:=((((Fin.start (L:=w.heap.size) HX.out (ai B4.out rfl)).set zo (i:=0) (v:=.bool x2.neg) rfl).set zo (i:=1) (v:=.slice x2.a x2.n x2.c) rfl).set zo (i:=2) (v:=.slice x2.b x2.m x2.d) rfl);exact nXa (v:=x2.v) (by simp [results,Tryz.results72,go_sem,ae B4.out]) rfl ⟨x2,rfl,hF.ext,(by rw [HZ.out];exact G2.out.keep hF.keep)⟩
def dA(xs:List Int)(d:Nat):List Rat:=tz ((xs.take (d+1)).map xu)
theorem Bk:∀ a:Nat,a<25→∀ b:Nat,b<8→((((a:Int)-12:Int):Rat) / ((1+(b:Int):Int):Rat)).num.natAbs<W32∧((((a:Int)-12:Int):Rat) / ((1+(b:Int):Int):Rat)).den<W32:=by decide +kernel
theorem Bl(n:Int):Sz 1 (xu n):=by
 have h1:=Int.emod_nonneg n (show (25:Int)≠0 by decide);have h2:=Int.emod_lt_of_pos n (show (0:Int)<25 by decide);have h3:=Int.emod_nonneg (n.tdiv 25) (show (8:Int)≠0 by decide);have h4:=Int.emod_lt_of_pos (n.tdiv 25) (show (0:Int)<8 by decide);have h:=Bk (n % 25).toNat zo (n.tdiv 25 % 8).toNat zo;rw [show (((n % 25).toNat:Nat):Int)=n % 25 by omega,show (((n.tdiv 25 % 8).toNat:Nat):Int)=n.tdiv 25 % 8 by omega] at h;exact ⟨by rw [Nat.pow_one];exact h.1,by rw [Nat.pow_one];exact h.2⟩
theorem pt(xs:List Int):SzL 1 (xs.map xu):=by
 intro q hq;obtain ⟨n,-,rfl⟩:=nYg.1 hq;exact Bl n
theorem qV(ao:Option Addr)(cap d:Nat)(xs:List Int)(w:World)(h:bW w ao xs)(hr:InR xs)(hl:xs.length≤9223372036854775807)(hd:d≤1000)(hc:xs.length≤cap)(hcm:cap≤9223372036854775807) :
  ar 32 [.slice ao xs.length cap,.int .i64 (d:Nat)] w SH.v (fun s w'=>ct w.heap.size w' s (dA xs d)):=by
 have HX:=Hi (Ext.refl w);unfold ar;by_cases hgt:d+1<xs.length
 ·have hz:(xs.take (d+1)).length=d+1:=by rw [nXk];omega
  have hcl:=qO ao cap (xs.take (d+1)) w (bW.take h _) (hr.take _) zo zo hcm;rw [hz] at hcl;have HC:=Hi hcl;have Hz:=Hi hz;obtain ⟨n,hn⟩:∃ n,n=xs.length:=⟨_,rfl⟩;rw [←hn] at hl hc hgt ⊢;clear h hr hn hcl hz;go_enter Tryz.func32,Tryz.ntmps32
  go_wp2_with fail
  refine cM (HC.out) fun x1 w1 hE G1=>?_
  replace HX:=hE.tr HX;have hs_w1:=hE.size;obtain ⟨ra,rn,rc⟩:=x1;simp only [SH.v];have hrn:d+1=rn:=by have:=G1.out.len;rw [nXl,Hz.out] at this;exact this
  subst hrn
  go_wp2_with fail
  refine cM (ft ra (d+1) rc _ _ (G1.out.can.raw (pt _) dZ) zo) fun x2 w2 hE G2=>?_
  replace HX:=hE.tr HX;have hs_w2:=hE.size;go_wp2
  go_ret
  exact ⟨x2,rfl,HX.out,G2.out.mono hs_w1⟩
 ·have hcl:=qO ao cap xs w h hr zo hc hcm;have HC:=Hi hcl;have HT:Hid (xs.take (d+1)=xs):=Hi (nXm zo);obtain ⟨n,hn⟩:∃ n,n=xs.length:=⟨_,rfl⟩;have Hn:=Hi hn;rw [←hn] at hl hc hgt HC ⊢;clear h hr hn hcl;go_enter Tryz.func32,Tryz.ntmps32
  go_wp2_with fail
  refine cM (HC.out) fun x1 w1 hE G1=>?_
  replace HX:=hE.tr HX;have hs_w1:=hE.size;obtain ⟨ra,rn,rc⟩:=x1;simp only [SH.v];have hrn:n=rn:=by have:=G1.out.len;rw [nXl,←Hn.out] at this;exact this
  subst hrn
  go_wp2_with fail
  refine cM (ft ra n rc _ _ (G1.out.can.raw (pt _) dZ) zo) fun x2 w2 hE G2=>?_
  replace HX:=hE.tr HX;have hs_w2:=hE.size;go_wp2
  go_ret
  exact ⟨x2,rfl,HX.out,by unfold dA;rw [HT.out];exact G2.out.mono hs_w1⟩
theorem eI(g:Nat→Rat)(j:Nat):(List.range (j+1)).map g=(List.range j).map g++[g j]:=by rw [List.range_succ,List.map_append];rfl
def cY(ps qs:List Rat):List Rat:=tz ((List.range (max ps.length qs.length)).map (fun i=>ps.getD i 0+qs.getD i 0))
theorem Ac(ao bo:Option Addr)(n c m d:Nat)(ps qs:List Rat)(w:World)(h:cN w ⟨ao,n,c⟩ ps)(k:cN w ⟨bo,m,d⟩ qs)(hn:n≤1073741823)(hm:m≤1073741823)(hz:SzL 8388608 ps)(kz:SzL 8388608 qs) :
  ar 33 [.slice ao n c,.slice bo m d] w SH.v (fun s w'=>ct w.heap.size w' s (cY ps qs)):=by
 have H:=Hi h;have K:=Hi k;have HX:=Hi (Ext.refl w);have h1:=h.le;have h2:=h.max;have k1:=k.le;have k2:=k.max;have Hn:=Hi h.len;have Hm:=Hi k.len;simp only at h1 h2 k1 k2 Hn Hm;have HZ:=Hi hz;have KZ:=Hi kz;clear h k hz kz;obtain ⟨M,hM⟩:∃ M,M=max n m:=⟨_,rfl⟩;have HM:=Hi hM;have hM1:n≤M:=zo;have hM2:m≤M:=zo;have hM3:M≤1073741823:=zo;have hM4:M=n∨M=m:=by omega
 clear hM;unfold ar;go_enter Tryz.func33,Tryz.ntmps33;go_wp2
 go_loopg [5,6] M (fun g v i wr=>∃ (j:Nat) (s:SH),v=s.v∧j+g=M∧i=.int .i64 (j:Nat)∧Ext w wr∧dX wr (w.heap.size≤·) s.v ((List.range j).map (fun i=>ps.getD i 0+qs.getD i 0)))
 case atStart=>exact ⟨0,⟨none,0,0⟩,rfl,zo,rfl,HX.out,dX.nil _ _⟩
 case round =>
  obtain ⟨j,s,rfl,hj,rfl,g1,g2⟩:=hrel;clear HX;have HX:=Hi g1;have HO:=Hi g2;have hsz:=g1.size;clear g1 g2;by_cases hP:j<n
  ·have hPi:(j:Int)<n:=zo;have hc1:=Hi (Ext.refl wr)
   go_wp2_with fail
   refine cM (nG ao n c ps j _ (H.out.ext HX.out) zo) fun x1 w1 hE G1=>?_
   refine mV2 hE ?_ HX HO;clear HX HO;intro HX HO;have hs_w1:=hE.size
   go_wp2_with fail
   refine cM (nG bo m d qs j _ (K.out.ext HX.out) zo) fun x2 w2 hE G2=>?_
   refine mV3 hE ?_ G1 HX HO;clear G1 HX HO;intro G1 HX HO;have hs_w2:=hE.size
   go_wp2_with fail
   refine cM (go x1 x2 _ _ _ (G1.out.raw (HZ.out.getD dZ j) dZ) (G2.out.raw (KZ.out.getD dZ j) dZ)) fun x3 w3 hE G3=>?_
   refine mV4 hE ?_ G2 G1 HX HO;clear G2 G1 HX HO;intro G2 G1 HX HO;have hs_w3:=hE.size
   go_wp2_with (at_builtin;refine dr rfl (.tmp 19) (.tmp 27) 24 Tryz.underlying24 rfl (w.heap.size≤·) _ _ x3 _ rfl HO.out rfl G3.out (by simp;omega) (fun k hk=>by omega) ?_;intro s' y3 q1 q2 q3)
   have HX3:=Hi (Ext.mods HX.out q2 (fun k h=>h));have HO3:Hid (dX y3 (w.heap.size≤·) s'.v ((List.range (j+1)).map (fun i=>ps.getD i 0+qs.getD i 0))):=Hi (by rw [eI (fun i=>ps.getD i 0+qs.getD i 0)];exact q1);clear q1 q2 q3;go_wp2
   go_roundg (gk-1)
   case measure=>omega
   case rel=>exact ⟨j+1,s',rfl,zo,by go_num,HX3.out,HO3.out⟩
  ·have hPi:¬ (j:Int)<n:=zo;by_cases hQ:j<m
   ·have hQi:(j:Int)<m:=zo;have hc1:=Hi (Ext.refl wr)
    go_wp2_with fail
    refine cM (nG ao n c ps j _ (H.out.ext HX.out) zo) fun x1 w1 hE G1=>?_
    refine mV2 hE ?_ HX HO;clear HX HO;intro HX HO;have hs_w1:=hE.size
    go_wp2_with fail
    refine cM (nG bo m d qs j _ (K.out.ext HX.out) zo) fun x2 w2 hE G2=>?_
    refine mV3 hE ?_ G1 HX HO;clear G1 HX HO;intro G1 HX HO;have hs_w2:=hE.size
    go_wp2_with fail
    refine cM (go x1 x2 _ _ _ (G1.out.raw (HZ.out.getD dZ j) dZ) (G2.out.raw (KZ.out.getD dZ j) dZ)) fun x3 w3 hE G3=>?_
    refine mV4 hE ?_ G2 G1 HX HO;clear G2 G1 HX HO;intro G2 G1 HX HO;have hs_w3:=hE.size
    go_wp2_with (at_builtin;refine dr rfl (.tmp 19) (.tmp 27) 24 Tryz.underlying24 rfl (w.heap.size≤·) _ _ x3 _ rfl HO.out rfl G3.out (by simp;omega) (fun k hk=>by omega) ?_;intro s' y3 q1 q2 q3)
    have HX3:=Hi (Ext.mods HX.out q2 (fun k h=>h));have HO3:Hid (dX y3 (w.heap.size≤·) s'.v ((List.range (j+1)).map (fun i=>ps.getD i 0+qs.getD i 0))):=Hi (by rw [eI (fun i=>ps.getD i 0+qs.getD i 0)];exact q1);clear q1 q2 q3;go_wp2
    go_roundg (gk-1)
    case measure=>omega
    case rel=>exact ⟨j+1,s',rfl,zo,by go_num,HX3.out,HO3.out⟩
   ·have hQi:¬ (j:Int)<m:=zo;obtain rfl:j=M:=by omega
    have hsn:=dX.len HO.out;rw [nXl,nXt] at hsn;obtain ⟨sa,sn,sc⟩:=s;simp only at hsn;subst hsn;have HSz:Hid (SzL 16777217 ((List.range j).map (fun i=>ps.getD i 0+qs.getD i 0))):=Hi (by
     intro q hq;obtain ⟨i,-,rfl⟩:=nYg.1 hq;exact ((HZ.out.getD dZ i).add (KZ.out.getD dZ i)).mono dZ)
    go_wp2_with fail
    refine cM (ft sa j sc _ _ ((dX.can (s:=⟨sa,j,sc⟩) HO.out).raw HSz.out dZ) zo) fun x1 w1 hE G1=>?_
    refine mV2 hE ?_ HX HO;clear HX HO;intro HX HO;have hs_w1:=hE.size;go_wp2
    go_ret
    refine ⟨x1,rfl,HX.out,?_⟩;unfold cY;rw [Hn.out,Hm.out,←HM.out];exact G1.out.mono hsz
def pmS(p q:List Rat)(i k n:Nat):Rat:=Stab.sm i (fun i'=>p.getD i' 0*Stab.shn i' (Stab.seq q) n)+if i≤n∧n<i+k then p.getD i 0*q.getD (n-i) 0 else 0
theorem yh(p q:List Rat)(n:Nat):pmS p q 0 0 n=0:=by
 unfold pmS;rw [if_neg zo];show (0:Rat)+0=0;grind
theorem yj(p q:List Rat)(i k:Nat):pmS p q i (k+1) (i+k)=pmS p q i k (i+k)+p.getD i 0*q.getD k 0:=by
 unfold pmS;rw [if_pos zo,if_neg zo,show i+k-i=k by omega];grind
theorem yk{p q:List Rat}{i k n:Nat}(h:n≠i+k):pmS p q i (k+1) n=pmS p q i k n:=by
 unfold pmS;by_cases h1:i≤n∧n<i+k
 ·rw [if_pos h1,if_pos zo]
 ·rw [if_neg h1,if_neg zo]
theorem yi{p q:List Rat}{i k:Nat}(hk:q.length=k)(n:Nat):pmS p q (i+1) 0 n=pmS p q i k n:=by
 unfold pmS;rw [if_neg zo];simp only [Stab.sm];have e:Stab.shn i (Stab.seq q) n=if i≤n∧n<i+k then q.getD (n-i) 0 else 0:=by
  unfold Stab.shn Stab.seq;by_cases h1:i≤n
  ·rw [if_pos h1];by_cases h2:n<i+k
   ·rw [if_pos ⟨h1,h2⟩]
   ·rw [if_neg zo,eB zo]
  ·rw [if_neg h1,if_neg zo]
 rw [e];split <;> grind
theorem Bo(p q:List Rat)(n:Nat):pmS p q p.length 0 n=Stab.ap p (Stab.seq q) n:=by
 unfold pmS;rw [if_neg zo,Stab.ap_sum];grind
def lC(w:World)(L:Nat)(os:List Rat)(b:Nat):Prop:=∃ rs,RBk w L rs #[]∧dk aX w rs os∧SzL b os
theorem lC.ext{w w':World}{L b:Nat}{os:List Rat}(h:lC w L os b)(he:Ext w w'):lC w' L os b:=let ⟨rs,h1,h2,h3⟩:=h;⟨rs,h1.ext he,h2.raw_ext he,h3⟩
instance {w w':World} {L b:Nat} {os:List Rat}:Go.Front.Mv w w' (lC w L os b) (lC w' L os b):=⟨fun e h=>lC.ext h e⟩

theorem lC.lt{w:World}{L b:Nat}{os:List Rat}(h:lC w L os b):L<w.heap.size:=let ⟨_,h1,_⟩:=h;h1.lt
theorem n4(w:World):aX w default 0:=⟨[],[],bP _,bP _,by decide +kernel,dZ,dZ⟩
theorem lC.start{w:World}{L M:Nat}(h:RBk w L (List.replicate M default) #[]):lC w L (List.replicate M 0) 1:=by
 refine ⟨_,h,⟨by simp,fun k hk=>?_⟩,fun q hq=>?_⟩
 ·simp only [nXx] at hk;rw [show (List.replicate M (default:RH)).getD k default=default by simp [hk],show (List.replicate M (0:Rat)).getD k 0=0 by simp [hk]];exact n4 w
 ·rw [List.eq_of_mem_replicate hq];exact Sz.zero dZ
theorem lC.cells{w:World}{L b:Nat}{os:List Rat}(h:lC w L os b){k:Nat}(hk:k<os.length):∃ r,RAt w L (k*3) r∧aX w r (os.getD k 0):=by
 obtain ⟨rs,h1,h2,h3⟩:=h;exact ⟨_,h1.at (by rw [h2.1];exact hk),h2.2 k hk⟩
theorem dk.rawkeep{w w':World}{rs:List RH}{qs:List Rat}(h:dk aX w rs qs)(he:dJ w w'):dk aX w' rs qs:=⟨h.1,fun k hk=>(h.2 k hk).keep he⟩
theorem dk.set{P:World→RH→Rat→Prop}{w:World}{rs:List RH}{qs:List Rat}(h:dk P w rs qs){r:RH}{q:Rat}(hr:P w r q)(k:Nat):dk P w (rs.set k r) (qs.set k q):=by
 refine ⟨by simp [h.1],fun j hj=>?_⟩;simp only [nXo] at hj;by_cases hjk:k=j
 ·subst hjk;rw [show (rs.set k r).getD k default=r by simp [show k<rs.length by rw [h.1];exact hj],show (qs.set k q).getD k 0=q by simp [hj]];exact hr
 ·rw [show (rs.set k r).getD j default=rs.getD j default by rw [nXd,nXd,List.getElem?_set_ne hjk],show (qs.set k q).getD j 0=qs.getD j 0 by rw [nXd,nXd,List.getElem?_set_ne hjk]];exact h.2 j hj
theorem Do{w1:World}{L b b' k:Nat}{os:List Rat}{q:Rat}{F:World→Prop}{x:RH}(h:lC w1 L os b)(hk:k<os.length)(hx:aX w1 x q)(hz:Sz b' q)(hb:b≤b')
 (H:∀ w2,(∃ cs,cT w1 L 37 cs w2)→lC w2 L (os.set k q) b'→F w2) :
  F (((w1.setCell ⟨L,k*3,none⟩ (.bool x.neg)).setCell ⟨L,k*3+1,none⟩ (.slice x.a x.n x.c)).setCell ⟨L,k*3+2,none⟩ (.slice x.b x.m x.d)):=by
 obtain ⟨rs,h1,h2,h3⟩:=h;refine eK h1 rfl (by rw [h2.1];exact hk) fun w2 T=>H w2 ⟨_,T⟩ ⟨rs.set k x,T.bx,(h2.rawkeep T.keep).set (hx.keep T.keep) k,fun y hy=>?_⟩
 rcases List.mem_or_eq_of_mem_set hy with h4|h4
 ·exact (h3 y h4).mono hb
 ·rw [h4];exact hz
def aO(ps qs:List Rat):List Rat:=tz ((List.range ((tz ps).length+(tz qs).length-1)).map (Stab.ap (tz ps) (Stab.seq (tz qs))))
theorem xB{l:List Rat}(h:∀ x ∈ l,x=0):tz l=[]:=by
 induction l using Stab.snoc_ind with
 | h0=>rfl
 | h1 l r ih =>
  obtain rfl:r=0:=h r (by simp);rw [eU];exact ih (fun x hx=>h x (by simp [hx]))
theorem Ex(n:Nat)(p:List Rat):Stab.ap p (Stab.seq []) n=0:=by
 rw [Stab.ap_sum,Stab.sm_congr (g:=fun _=>0) (fun i _=>?_),Stab.sm_zero];have:Stab.shn i (Stab.seq []) n=0:=by unfold Stab.shn Stab.seq;split <;> rfl
 rw [this];grind
theorem ru{ps qs:List Rat}(h:tz ps=[]∨tz qs=[]):aO ps qs=[]:=by
 unfold aO;apply xB;intro x hx;obtain ⟨n,-,rfl⟩:=nYg.1 hx;rcases h with h|h
 ·rw [h];rfl
 ·rw [h];exact Ex n _
theorem EW{os:List Rat}{M:Nat}{f:Nat→Rat}(hl:os.length=M)(h:∀ n,n<M→os.getD n 0=f n):os=(List.range M).map f:=by
 apply Stab.getD_ext
 ·simp [hl]
 ·intro i hi;rw [hl] at hi;rw [h i hi];simp [hi]
theorem lC.raw{w:World}{L b M:Nat}{os:List Rat}(h:lC w L os b)(hl:os.length=M)(hM:M≤9223372036854775807):cN w ⟨some ⟨L,0,none⟩,M,M⟩ os:=by
 obtain ⟨rs,h1,h2,h3⟩:=h;exact ⟨rs,h1.rs (by rw [h2.1,hl]) (nXe _) hM,h2⟩
theorem xS{p q os:List Rat}{M i k:Nat}(hl:os.length=M)(h:∀ n,n<M→os.getD n 0=pmS p q i k n)(hj:i+k<M):∀ n,n<M→(os.set (i+k) (os.getD (i+k) 0+p.getD i 0*q.getD k 0)).getD n 0=pmS p q i (k+1) n:=by
 intro n hn;by_cases he:n=i+k
 ·subst he;rw [show (os.set (i+k) (os.getD (i+k) 0+p.getD i 0*q.getD k 0)).getD (i+k) 0=os.getD (i+k) 0+p.getD i 0*q.getD k 0 by simp [hl,hj],h _ hn,yj]
 ·rw [show (os.set (i+k) (os.getD (i+k) 0+p.getD i 0*q.getD k 0)).getD n 0=os.getD n 0 by rw [nXd,List.getElem?_set_ne (Ne.symm he),←nXd],h _ hn,yk he]
theorem uS(ao bo:Option Addr)(n c m d:Nat)(ps qs:List Rat)(s:Nat)(w:World)(h:cN w ⟨ao,n,c⟩ ps)(k:cN w ⟨bo,m,d⟩ qs)(hn:n≤100)(hm:m≤100)(hz:SzL s ps)(kz:SzL s qs)(hs:s≤1000000)(hnm:n*m*(2*s+1)≤100010000) :
  ar 29 [.slice ao n c,.slice bo m d] w SH.v (fun s w'=>ct w.heap.size w' s (aO ps qs)):=by
 obtain ⟨i0,hi0,hz0,hz1,hz2⟩:=info_parts ii;have H:=Hi h;have K:=Hi k;have HX:=Hi (Ext.refl w);have Hn:=Hi h.len;have Hm:=Hi k.len;simp only at Hn Hm;have HZ:=Hi hz;have KZ:=Hi kz;have Hnm:=Hi hnm;clear h k hz kz hnm;unfold ar;go_enter Tryz.func29,Tryz.ntmps29
 go_wp2_with fail
 refine cM (ft ao n c ps _ H.out zo) fun x1 w1 hE G1=>?_
 replace HX:=hE.tr HX;have hs_w1:=hE.size
 go_wp2_with fail
 refine cM (ft bo m d qs _ (K.out.ext HX.out) zo) fun x2 w2 hE G2=>?_
 refine mV2 hE ?_ G1 HX;clear G1 HX;intro G1 HX;have hs_w2:=hE.size;obtain ⟨pa,P,pc⟩:=x1;obtain ⟨qa,Q,qc⟩:=x2;simp only [SH.v];have hP:=G1.out.len;have hQ:=G2.out.len;have hp1:=LIn.can G1.out |>.le
 have hp2:=LIn.can G1.out |>.max
 have hq1:=LIn.can G2.out |>.le
 have hq2:=LIn.can G2.out |>.max
 have hPn:=aj ps;have hQn:=aj qs;rw [Hn.out] at hPn;rw [Hm.out] at hQn;simp only at hP hQ hp1 hp2 hq1 hq2;rw [hP] at hPn;rw [hQ] at hQn;have HPl:=Hi hP;have HQl:=Hi hQ;have HPz:=Hi HZ.out.tz;have HQz:=Hi KZ.out.tz;have HV:Hid (aO ps qs=tz ((List.range (P+Q-1)).map (Stab.ap (tz ps) (Stab.seq (tz qs))))):=Hi (by unfold aO;rw [hP,hQ]);clear hP hQ;by_cases hP0:P=0
 ·subst hP0;have hv:aO ps qs=[]:=ru (Or.inl (nXj.1 HPl.out));go_wp2
  go_ret
  exact ⟨⟨none,0,0⟩,rfl,HX.out,by rw [hv];exact ct.nil _ _⟩
 have hPb:((P:Int) == 0)=false:=by rw [nXs];omega
 by_cases hQ0:Q=0
 ·subst hQ0;have hv:aO ps qs=[]:=ru (Or.inr (nXj.1 HQl.out));go_wp2
  go_ret
  exact ⟨⟨none,0,0⟩,rfl,HX.out,by rw [hv];exact ct.nil _ _⟩
 have hQb:((Q:Int) == 0)=false:=by rw [nXs];omega
 obtain ⟨p,hp⟩:∃ p,p=tz ps:=⟨_,rfl⟩;obtain ⟨q,hq⟩:∃ q,q=tz qs:=⟨_,rfl⟩;rw [←hp] at HPl HPz HV G1;rw [←hq] at HQl HQz HV G2;clear hp hq;obtain ⟨M,hM⟩:∃ M,P+Q=M+1:=⟨P+Q-1,zo⟩;rw [show P+Q-1=M by omega] at HV;have hMi:(P:Int)+Q-1=M:=by omega
 have hwL:w.heap.size≤w2.heap.size:=zo;have HPL:=Hi (LIn.can G1.out);have HQL:=Hi (LIn.can G2.out)
 go_upto_region 5 with (refine aB rfl (.tmp 25) (.tmp 25) 24 rfl 37 i0 (RH.v default) 3 Tryz.underlying24 hi0 hz0 hz1 _ _ M rfl rfl zo zo (by rw [hz2];omega) zo ?_;intro w3 hnew hE)
 have HOB:=Hi (lC.start (RBk.make rfl hnew));have HX2:=Hi hE;clear hnew hE;obtain ⟨L,hL⟩:∃ L,L=w2.heap.size:=⟨_,rfl⟩;have hL2:w2.heap.size≤L:=zo;rw [←hL] at HOB ⊢;clear hL;obtain ⟨t,ht⟩:∃ t,t=2*s+1:=⟨_,rfl⟩;have Ht:=Hi ht;go_wp2
 go_loopg [29] P (fun g v wr=>∃ (i:Nat) (os:List Rat),i+g=P∧v=.int .i64 (i:Nat)∧Ext w2 wr∧lC wr L os (1+i*Q*t)∧os.length=M∧∀ n,n<M→os.getD n 0=pmS p q i 0 n)
 case atStart=>exact ⟨0,_,zo,rfl,HX2.out,by rw [Nat.zero_mul,Nat.zero_mul];exact HOB.out,by simp,fun n hn=>by rw [yh];simp [hn]⟩
 case round =>
  obtain ⟨i,os,hi,rfl,g1,g2,g3,g4⟩:=hrel;clear HX2 HOB;have HX2:=Hi g1;have HOB:=Hi g2;have HOl:=Hi g3;have HOv:=Hi g4;clear g1 g2 g3 g4;by_cases h0:gk=0
  ·subst h0;obtain rfl:i=P:=by omega
   have HXw:=Hi (HX.out.trans HX2.out);have hwr:=HX2.out.size
   go_wp2_with fail
   refine cM (ft (some ⟨L,0,none⟩) M M os _ (HOB.out.raw HOl.out zo) zo) fun x3 w3 hE G3=>?_
   replace HXw:=hE.tr HXw;have hs_w3:=hE.size;have HOe:Hid (os=(List.range M).map (Stab.ap p (Stab.seq q))):=Hi (EW HOl.out (fun n hn=>by rw [HOv.out n hn,←HPl.out,Bo]));go_wp2
   go_ret
   refine ⟨x3,rfl,HXw.out,?_⟩;rw [HV.out,←HOe.out];exact G3.out.mono zo
  ·obtain ⟨g0,rfl⟩:∃ g0,gk=g0+1:=⟨gk-1,zo⟩;go_wp2
   go_loopg [34] Q (fun g v wr=>∃ (k:Nat) (os:List Rat),k+g=Q∧v=.int .i64 (k:Nat)∧Ext w2 wr∧lC wr L os (1+(i*Q+k)*t)∧os.length=M∧∀ n,n<M→os.getD n 0=pmS p q i k n)
   case atStart=>exact ⟨0,os,zo,rfl,HX2.out,HOB.out,HOl.out,HOv.out⟩
   case round =>
    obtain ⟨k,os,hk,rfl,g1,g2,g3,g4⟩:=hrel;clear HX2 HOB HOl HOv;have HX2:=Hi g1;have HOB:=Hi g2;have HOl:=Hi g3;have HOv:=Hi g4;have hszr:=g1.size;clear g1 g2 g3 g4;by_cases h1:gk=0
    ·subst h1;obtain rfl:k=Q:=by omega
     have HOB':Hid (lC wr L os (1+(i+1)*k*t)):=Hi (by rw [nXz];exact HOB.out);go_wp2
     go_roundg g0
     case measure=>omega
     case rel=>exact ⟨i+1,os,zo,by go_num,HX2.out,HOB'.out,HOl.out,fun n hn=>by rw [yi HQl.out];exact HOv.out n hn⟩
    ·have hjM:i+k<M:=zo;have hiQ:(i+1)*Q≤n*m:=nXy zo zo;rw [nXz] at hiQ;have hNt:(i*Q+k+1)*t≤10000*10001:=nXf (nXh t (show i*Q+k+1≤n*m by omega)) (by rw [Ht.out];exact Hnm.out);have hst:(i*Q+k+1)*t=(i*Q+k)*t+t:=nXz _ _;have Hst:=Hi hst;have HNt:=Hi hNt;obtain ⟨ro,hro,hrr⟩:=HOB.out.cells (k:=i+k) (by rw [HOl.out];exact hjM);have hzo:=(let ⟨_,_,_,h3⟩:=HOB.out;h3:SzL _ os).at (i:=i+k) (by rw [HOl.out];exact hjM);obtain ⟨b,off,rp,hpa,hp3,hp4⟩:=(HPL.out.ext HX2.out).at (k:=i) zo;obtain ⟨b',off',rq,hqa,hq3,hq4⟩:=(HQL.out.ext HX2.out).at (k:=k) zo;have hbl:=RAt.lt hp3;have hbl':=RAt.lt hq3;have hLl:=HOB.out.lt;have hfr:∀ x,wr.frozen? ⟨L,x,none⟩=false:=let ⟨_,h1,_⟩:=HOB.out;h1.frozen;subst hpa hqa;obtain ⟨on,oa,ol,oc,ob,om,od⟩:=ro;obtain ⟨pn,pa,pl,pc',pb,pm,pd⟩:=rp;obtain ⟨qn,qa,ql,qc',qb,qm,qd⟩:=rq;obtain ⟨a1,a2,a3⟩:=hro;obtain ⟨a4,a5,a6⟩:=hp3;obtain ⟨a7,a8,a9⟩:=hq3;simp only at a1 a2 a3 a4 a5 a6 a7 a8 a9;obtain ⟨j,hj⟩:∃ j,j=i+k:=⟨_,rfl⟩;obtain ⟨v,hv⟩:∃ v,v=os.getD (i+k) 0:=⟨_,rfl⟩;rw [←hv] at hrr hzo;have hji:(i:Int)+k=j:=by omega
     rw [←hj] at a1 a2 a3 hjM;have Hj:=Hi hj;have Hv:=Hi hv;have RO:=Hi hrr;have RP:=Hi (hp4.raw (HPz.out.at (by rw [HPl.out];omega)) zo);have RQ:=Hi (hq4.raw (HQz.out.at (by rw [HQl.out];omega)) zo);have ZP:=Hi (HPz.out.at (i:=i) (by rw [HPl.out];omega));have ZQ:=Hi (HQz.out.at (i:=k) (by rw [HQl.out];omega));have ZO:=Hi hzo;clear hrr hp4 hq4 hzo hj hv hst hNt hiQ;have hiP:(i:Int)<P:=zo;have hkQ:(k:Int)<Q:=zo
     go_upto_region 11 with fail
     refine wpG 21 (fun opIx=>match opIx with
      | 18=>sR (p.getD i 0*q.getD k 0)
      | 19=>sR (v+p.getD i 0*q.getD k 0)
      | _=>.quiet) (fun|19=>[18]|_=>[]) fun w0 he0 hz0 hc0 hf0=>?_
     refine wps he0 (fun w1 hW hG=>?_) fun x18=>?_
     ·exact spc [RH.v ⟨pn,pa,pl,pc',pb,pm,pd⟩,RH.v ⟨qn,qa,ql,qc',qb,qm,qd⟩] Tryz.func13 (kA _ _ _ _ _ (RP.out.ext hW) (RQ.out.ext hW))
     refine qZ ?_;refine wps he0 (fun w1 hW hG=>?_) fun x19=>?_
     ·have g18:=gS (hG 18 dZ);exact spc [RH.v ⟨on,oa,ol,oc,ob,om,od⟩,x18.v] Tryz.func12 (go _ x18 _ _ _ (RO.out.ext hW) (g18.raw (ZP.out.mul ZQ.out) zo))
     refine qZ ?_;refine aq ?_;intro w5 hI;have hE:=he0.out.trans hI.ext;have G18:=gT (hI.facts 18);have G19:=gT (hI.facts 19);clear hI he0 hz0 hc0 hf0;refine mV2 hE ?_ HX2 HOB;clear HX2 HOB;intro HX2 HOB;have hs_w5:=hE.size;simp only [pD];have hfr5:∀ x,w5.frozen? ⟨L,x,none⟩=false:=let ⟨_,h1,_⟩:=HOB.out;h1.frozen;have hLl5:=HOB.out.lt;obtain ⟨ro5,⟨e1,e2,e3⟩,-⟩:=HOB.out.cells (k:=j) (by rw [HOl.out];exact hjM);have ZS:Hid (Sz (1+(i*Q+(k+1))*t) (v+p.getD i 0*q.getD k 0)):=Hi ((ZO.out.add (ZP.out.mul ZQ.out)).mono (by have:=Hst.out;rw [show i*Q+(k+1)=i*Q+k+1 by omega];omega));have RS5:=Hi (G19.out.raw ZS.out (by have:=HNt.out;rw [show i*Q+(k+1)=i*Q+k+1 by omega];omega))
     go_upto_region 12 with fail
     refine Do (k:=j) (x:=x19) HOB.out (by rw [HOl.out];exact hjM) RS5.out ZS.out (by have:=Hst.out;rw [show i*Q+(k+1)=i*Q+k+1 by omega];omega) ?_;intro w6 hT hOB6;obtain ⟨cs,T⟩:=hT;have HOB6:=Hi hOB6;have HX6:=Hi (T.ext HX2.out zo);have HOv6:=Hi (xS HOl.out HOv.out (by rw [←Hj.out];exact hjM));rw [←Hv.out,←Hj.out] at HOv6;clear T hOB6;go_wp2
     go_roundg (gk-1)
     case measure=>omega
     case rel=>exact ⟨k+1,_,zo,by go_num,HX6.out,HOB6.out,by rw [nXo];exact HOl.out,HOv6.out⟩
theorem yC(ao bo:Option Addr)(n c m d:Nat)(ps qs:List Rat)(s:Nat)(w:World)(h:cN w ⟨ao,n,c⟩ ps)(k:cN w ⟨bo,m,d⟩ qs)(hn:n≤100)(hm:m≤100)(hz:SzL s ps)(kz:SzL s qs)(hs:s≤5000) :
  ar 29 [.slice ao n c,.slice bo m d] w SH.v (fun s w'=>ct w.heap.size w' s (aO ps qs)):=uS ao bo n c m d ps qs s w h k hn hm hz kz zo (nXy (nXy hn hm) (show 2*s+1≤10001 by omega))
theorem yD(ao bo:Option Addr)(n c m d:Nat)(ps qs:List Rat)(s:Nat)(w:World)(h:cN w ⟨ao,n,c⟩ ps)(k:cN w ⟨bo,m,d⟩ qs)(hn:n≤100)(hm:m≤100)(hz:SzL s ps)(kz:SzL s qs)(hs:s≤400) :
  ar 29 [.slice ao n c,.slice bo m d] w SH.v (fun s w'=>ct w.heap.size w' s (aO ps qs)):=yC ao bo n c m d ps qs s w h k hn hm hz kz zo
theorem CL{p q:List Rat}{n:Nat}(h:p.length+q.length≤n+1):Stab.ap p (Stab.seq q) n=0:=by
 rw [Stab.ap_sum,Stab.sm_congr (g:=fun _=>0) (fun i hi=>?_),Stab.sm_zero];have:Stab.shn i (Stab.seq q) n=0:=by
  unfold Stab.shn Stab.seq;split
  ·exact eB zo
  ·rfl
 rw [this];grind
theorem yB(ps qs:List Rat):Stab.seq (aO ps qs)=Stab.ap (tz ps) (Stab.seq (tz qs)):=by
 funext n
 unfold Stab.seq aO;rw [bC];rcases Nat.lt_or_ge n ((tz ps).length+(tz qs).length-1) with h|h
 ·rw [nXd,nXw,List.getElem?_range h];rfl
 ·rw [eB (by simpa using h)];exact (CL zo).symm
end Go.Proofs.YtkcpmclnocmalaaGreat
