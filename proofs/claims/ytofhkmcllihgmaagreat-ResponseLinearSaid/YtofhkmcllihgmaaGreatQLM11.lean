/- Rf6, Rf7, Rf8, StbR, StbS -/
import Derived.Test.YtofhkmcllihgmaaGreatQLK1
set_option linter.unusedVariables false
set_option maxRecDepth 4000
set_option maxHeartbeats 1000000
namespace Go.Proofs.YtofhkmcllihgmaaGreat
open Go.RowKit Go.Front Go.Num
attribute [local go_sem] XW.cell XW.frozen
theorem bG{qs:List Rat}{i:Nat}(h:qs.length≤i):qs.getD i 0=0:=by
 rw [List.getD_eq_getElem?_getD,List.getElem?_eq_none h];rfl
theorem pF(ao:Option Addr)(n cap:Nat)(qs:List Rat)(i:Nat)(w:World)(h:bW w ⟨ao,n,cap⟩ qs)(hi:i≤1073741824) :
  aq 143 [.slice ao n cap,.int .i64 (i:Nat)] w RH.v (fun x w'=>au w' x (qs.getD i 0)):=by
 have HX:=Hi (Ext.refl w);have hle:=h.le;have hmx:=h.max;have hlen:=h.len;simp only at hle hmx hlen;unfold aq;by_cases hin:i<n
 ·obtain ⟨b,off,r,hao,hbl,⟨hc1,hc2,hc3⟩,hP⟩:=h.cells' (k:=i) hin;subst hao;obtain ⟨rneg,ra,rn,rc,rb,rm,rd⟩:=r;simp only at hc1 hc2 hc3;have HP:=Hi hP;clear hP h hlen;go_enter Tryz.func143,Tryz.ntmps143
  go_wp2_with fail
  refine nmA (F:=fun W=>Calls _ _ _ W _) ?_;intro w1 hE B4 hz_w1 hr_w1;refine mV2 hE ?_ HX HP;clear HX HP;intro HX HP;have hs_w1:=hE.size;clear hE;replace b_B4:=bX3 B4
  change Calls _ _ _ _ _
  refine cM (ez ⟨rneg,ra,rn,rc,rb,rm,rd⟩ (qs.getD i 0) _ HP.out) fun x2 w2 hE G2=>?_
  refine mV3 hE ?_ B4 HX HP;clear B4 HX HP;intro B4 HX HP;have hs_w2:=hE.size;clear hE;replace b_B4:=bX3 B4;go_wp2;have hF:=((((Fin.start (L:=w.heap.size) HX.out (ah B4.out rfl)).set (by omega) (i:=0) (v:=.bool x2.neg) rfl).set (by omega) (i:=1) (v:=.slice x2.a x2.n x2.c) rfl).set (by omega) (i:=2) (v:=.slice x2.b x2.m x2.d) rfl);exact bodyPost_ret (v:=x2.v) (by simp [results,Tryz.results143,go_sem,ae B4.out]) rfl ⟨x2,rfl,hF.ext,G2.out.keep hF.keep⟩
 ·have HZ:Hid (qs.getD i 0=((0:Int):Rat)):=Hi (bG (by omega));clear h hlen;go_enter Tryz.func143,Tryz.ntmps143
  go_wp2_with fail
  refine nmA (F:=fun W=>Calls _ _ _ W _) ?_;intro w1 hE B4 hz_w1 hr_w1;replace HX:=hE.tr HX;have hs_w1:=hE.size;clear hE;replace b_B4:=bX3 B4
  change Calls _ _ _ _ _
  refine cM (fI 0 _ (by decide) (by decide)) fun x2 w2 hE G2=>?_
  refine mV2 hE ?_ B4 HX;clear B4 HX;intro B4 HX;have hs_w2:=hE.size;clear hE;replace b_B4:=bX3 B4;go_wp2;have hF:=((((Fin.start (L:=w.heap.size) HX.out (ah B4.out rfl)).set (by omega) (i:=0) (v:=.bool x2.neg) rfl).set (by omega) (i:=1) (v:=.slice x2.a x2.n x2.c) rfl).set (by omega) (i:=2) (v:=.slice x2.b x2.m x2.d) rfl);exact bodyPost_ret (v:=x2.v) (by simp [results,Tryz.results143,go_sem,ae B4.out]) rfl ⟨x2,rfl,hF.ext,(by rw [HZ.out];exact G2.out.keep hF.keep)⟩
def qC(xs:List Int)(d:Nat):List Rat:=tz ((xs.take (d+1)).map gC)
theorem sK:∀ a:Nat,a<25→∀ b:Nat,b<8→((((a:Int)-12:Int):Rat) / ((1+(b:Int):Int):Rat)).num.natAbs<W32∧((((a:Int)-12:Int):Rat) / ((1+(b:Int):Int):Rat)).den<W32:=by decide +kernel
theorem f6(n:Int):Sz 1 (gC n):=by
 have h1:=Int.emod_nonneg n (show (25:Int)≠0 by decide);have h2:=Int.emod_lt_of_pos n (show (0:Int)<25 by decide);have h3:=Int.emod_nonneg (n.tdiv 25) (show (8:Int)≠0 by decide);have h4:=Int.emod_lt_of_pos (n.tdiv 25) (show (0:Int)<8 by decide);have h:=sK (n % 25).toNat (by omega) (n.tdiv 25 % 8).toNat (by omega);rw [show (((n % 25).toNat:Nat):Int)=n % 25 by omega,show (((n.tdiv 25 % 8).toNat:Nat):Int)=n.tdiv 25 % 8 by omega] at h;exact ⟨by rw [Nat.pow_one];exact h.1,by rw [Nat.pow_one];exact h.2⟩
theorem kZ(xs:List Int):SzL 1 (xs.map gC):=by
 intro q hq;obtain ⟨n,-,rfl⟩:=List.mem_map.1 hq;exact f6 n
theorem qB(ao:Option Addr)(cap d:Nat)(xs:List Int)(w:World)(h:br w ao xs)(hr:InR xs)(hl:xs.length≤9223372036854775807)(hd:d≤1000)(hc:xs.length≤cap)(hcm:cap≤9223372036854775807) :
  aq 19 [.slice ao xs.length cap,.int .i64 (d:Nat)] w SH.v (fun s w'=>bv w.heap.size w' s (qC xs d)):=by
 have HX:=Hi (Ext.refl w);unfold aq;by_cases hgt:d+1<xs.length
 ·have hz:(xs.take (d+1)).length=d+1:=by rw [List.length_take];omega
  have hcl:=lV ao cap (xs.take (d+1)) w (br.take h _) (hr.take _) (by omega) (by omega) hcm;rw [hz] at hcl;have HC:=Hi hcl;have Hz:=Hi hz;obtain ⟨n,hn⟩:∃ n,n=xs.length:=⟨_,rfl⟩;rw [←hn] at hl hc hgt ⊢;clear h hr hn hcl hz;go_enter Tryz.func19,Tryz.ntmps19
  go_wp2_with fail
  refine cM (HC.out) fun x1 w1 hE G1=>?_
  replace HX:=hE.tr HX;have hs_w1:=hE.size;clear hE;obtain ⟨ra,rn,rc⟩:=x1;simp only [SH.v];have hrn:d+1=rn:=by have:=G1.out.len;rw [List.length_map,Hz.out] at this;exact this
  subst hrn
  go_wp2_with fail
  refine cM (ft ra (d+1) rc _ _ (G1.out.can.raw (kZ _) (by decide)) (by omega)) fun x2 w2 hE G2=>?_
  replace HX:=hE.tr HX;have hs_w2:=hE.size;clear hE;go_wp2
  go_ret
  exact ⟨x2,rfl,HX.out,G2.out.mono hs_w1⟩
 ·have hcl:=lV ao cap xs w h hr (by omega) hc hcm;have HC:=Hi hcl;have HT:Hid (xs.take (d+1)=xs):=Hi (List.take_of_length_le (by omega));obtain ⟨n,hn⟩:∃ n,n=xs.length:=⟨_,rfl⟩;have Hn:=Hi hn;rw [←hn] at hl hc hgt HC ⊢;clear h hr hn hcl;go_enter Tryz.func19,Tryz.ntmps19
  go_wp2_with fail
  refine cM (HC.out) fun x1 w1 hE G1=>?_
  replace HX:=hE.tr HX;have hs_w1:=hE.size;clear hE;obtain ⟨ra,rn,rc⟩:=x1;simp only [SH.v];have hrn:n=rn:=by have:=G1.out.len;rw [List.length_map,←Hn.out] at this;exact this
  subst hrn
  go_wp2_with fail
  refine cM (ft ra n rc _ _ (G1.out.can.raw (kZ _) (by decide)) (by omega)) fun x2 w2 hE G2=>?_
  replace HX:=hE.tr HX;have hs_w2:=hE.size;clear hE;go_wp2
  go_ret
  exact ⟨x2,rfl,HX.out,by unfold qC;rw [HT.out];exact G2.out.mono hs_w1⟩
theorem bf(g:Nat→Rat)(j:Nat):(List.range (j+1)).map g=(List.range j).map g++[g j]:=by rw [List.range_succ,List.map_append];rfl
def fj(ps qs:List Rat):List Rat:=tz ((List.range (max ps.length qs.length)).map (fun i=>ps.getD i 0+qs.getD i 0))
def pmS(p q:List Rat)(i k n:Nat):Rat:=Stab.sm i (fun i'=>p.getD i' 0*Stab.shn i' (Stab.seq q) n)+if i≤n∧n<i+k then p.getD i 0*q.getD (n-i) 0 else 0
theorem qD(p q:List Rat)(n:Nat):pmS p q 0 0 n=0:=by
 unfold pmS;rw [if_neg (by omega)];show (0:Rat)+0=0;grind
theorem qF(p q:List Rat)(i k:Nat):pmS p q i (k+1) (i+k)=pmS p q i k (i+k)+p.getD i 0*q.getD k 0:=by
 unfold pmS;rw [if_pos (by omega),if_neg (by omega),show i+k-i=k by omega];grind
theorem qG{p q:List Rat}{i k n:Nat}(h:n≠i+k):pmS p q i (k+1) n=pmS p q i k n:=by
 unfold pmS;by_cases h1:i≤n∧n<i+k
 ·rw [if_pos h1,if_pos (by omega)]
 ·rw [if_neg h1,if_neg (by omega)]
theorem qE{p q:List Rat}{i k:Nat}(hk:q.length=k)(n:Nat):pmS p q (i+1) 0 n=pmS p q i k n:=by
 unfold pmS;rw [if_neg (by omega)];simp only [Stab.sm];have e:Stab.shn i (Stab.seq q) n=if i≤n∧n<i+k then q.getD (n-i) 0 else 0:=by
  unfold Stab.shn Stab.seq;by_cases h1:i≤n
  ·rw [if_pos h1];by_cases h2:n<i+k
   ·rw [if_pos ⟨h1,h2⟩]
   ·rw [if_neg (by omega),bG (by omega)]
  ·rw [if_neg h1,if_neg (by omega)]
 rw [e];split <;> grind
theorem sM(p q:List Rat)(n:Nat):pmS p q p.length 0 n=Stab.ap p (Stab.seq q) n:=by
 unfold pmS;rw [if_neg (by omega),Stab.ap_sum];grind
def fP(w:World)(L:Nat)(os:List Rat)(b:Nat):Prop:=∃ rs,RBk w L rs #[]∧dV bi w rs os∧SzL b os
theorem fP.ext{w w':World}{L b:Nat}{os:List Rat}(h:fP w L os b)(he:Ext w w'):fP w' L os b:=let ⟨rs,h1,h2,h3⟩:=h;⟨rs,h1.ext he,h2.raw_ext he,h3⟩
instance {w w':World} {L b:Nat} {os:List Rat}:Go.Front.Mv w w' (fP w L os b) (fP w' L os b):=⟨fun e h=>fP.ext h e⟩

theorem fP.lt{w:World}{L b:Nat}{os:List Rat}(h:fP w L os b):L<w.heap.size:=let ⟨_,h1,_⟩:=h;h1.lt
theorem kf(w:World):bi w default 0:=⟨[],[],bj _,bj _,by decide +kernel,by decide,by decide⟩
theorem fP.start{w:World}{L M:Nat}(h:RBk w L (List.replicate M default) #[]):fP w L (List.replicate M 0) 1:=by
 refine ⟨_,h,⟨by simp,fun k hk=>?_⟩,fun q hq=>?_⟩
 ·simp only [List.length_replicate] at hk;rw [show (List.replicate M (default:RH)).getD k default=default by simp [hk],show (List.replicate M (0:Rat)).getD k 0=0 by simp [hk]];exact kf w
 ·rw [List.eq_of_mem_replicate hq];exact Sz.zero (by decide)
theorem fP.cells{w:World}{L b:Nat}{os:List Rat}(h:fP w L os b){k:Nat}(hk:k<os.length):∃ r,RAt w L (k*3) r∧bi w r (os.getD k 0):=by
 obtain ⟨rs,h1,h2,h3⟩:=h;exact ⟨_,h1.at (by rw [h2.1];exact hk),h2.2 k hk⟩
theorem dV.rawkeep{w w':World}{rs:List RH}{qs:List Rat}(h:dV bi w rs qs)(he:fk w w'):dV bi w' rs qs:=⟨h.1,fun k hk=>(h.2 k hk).keep he⟩
theorem dV.set{P:World→RH→Rat→Prop}{w:World}{rs:List RH}{qs:List Rat}(h:dV P w rs qs){r:RH}{q:Rat}(hr:P w r q)(k:Nat):dV P w (rs.set k r) (qs.set k q):=by
 refine ⟨by simp [h.1],fun j hj=>?_⟩;simp only [List.length_set] at hj;by_cases hjk:k=j
 ·subst hjk;rw [show (rs.set k r).getD k default=r by simp [show k<rs.length by rw [h.1];exact hj],show (qs.set k q).getD k 0=q by simp [hj]];exact hr
 ·rw [show (rs.set k r).getD j default=rs.getD j default by rw [List.getD_eq_getElem?_getD,List.getD_eq_getElem?_getD,List.getElem?_set_ne hjk],show (qs.set k q).getD j 0=qs.getD j 0 by rw [List.getD_eq_getElem?_getD,List.getD_eq_getElem?_getD,List.getElem?_set_ne hjk]];exact h.2 j hj
theorem mo{w1:World}{L b b' k:Nat}{os:List Rat}{q:Rat}{F:World→Prop}{x:RH}(h:fP w1 L os b)(hk:k<os.length)(hx:bi w1 x q)(hz:Sz b' q)(hb:b≤b')
 (H:∀ w2,(∃ cs,gp w1 L 30 cs w2)→fP w2 L (os.set k q) b'→F w2) :
  F (((w1.setCell ⟨L,k*3,none⟩ (.bool x.neg)).setCell ⟨L,k*3+1,none⟩ (.slice x.a x.n x.c)).setCell ⟨L,k*3+2,none⟩ (.slice x.b x.m x.d)):=by
 obtain ⟨rs,h1,h2,h3⟩:=h;refine bT h1 rfl (by rw [h2.1];exact hk) fun w2 T=>H w2 ⟨_,T⟩ ⟨rs.set k x,T.bx,(h2.rawkeep T.keep).set (hx.keep T.keep) k,fun y hy=>?_⟩
 rcases List.mem_or_eq_of_mem_set hy with h4|h4
 ·exact (h3 y h4).mono hb
 ·rw [h4];exact hz
def ch(ps qs:List Rat):List Rat:=tz ((List.range ((tz ps).length+(tz qs).length-1)).map (Stab.ap (tz ps) (Stab.seq (tz qs))))
theorem lK{l:List Rat}(h:∀ x ∈ l,x=0):tz l=[]:=by
 induction l using Stab.snoc_ind with
 | h0=>rfl
 | h1 l r ih =>
  obtain rfl:r=0:=h r (by simp);rw [dk];exact ih (fun x hx=>h x (by simp [hx]))
theorem u4(n:Nat)(p:List Rat):Stab.ap p (Stab.seq []) n=0:=by
 rw [Stab.ap_sum,Stab.sm_congr (g:=fun _=>0) (fun i _=>?_),Stab.sm_zero];have:Stab.shn i (Stab.seq []) n=0:=by unfold Stab.shn Stab.seq;split <;> rfl
 rw [this];grind
theorem qT{ps qs:List Rat}(h:tz ps=[]∨tz qs=[]):ch ps qs=[]:=by
 unfold ch;apply lK;intro x hx;obtain ⟨n,-,rfl⟩:=List.mem_map.1 hx;rcases h with h|h
 ·rw [h];rfl
 ·rw [h];exact u4 n _
theorem vC{os:List Rat}{M:Nat}{f:Nat→Rat}(hl:os.length=M)(h:∀ n,n<M→os.getD n 0=f n):os=(List.range M).map f:=by
 apply Stab.getD_ext
 ·simp [hl]
 ·intro i hi;rw [hl] at hi;rw [h i hi];simp [hi]
theorem fP.raw{w:World}{L b M:Nat}{os:List Rat}(h:fP w L os b)(hl:os.length=M)(hM:M≤9223372036854775807):bW w ⟨some ⟨L,0,none⟩,M,M⟩ os:=by
 obtain ⟨rs,h1,h2,h3⟩:=h;exact ⟨rs,h1.rs (by rw [h2.1,hl]) (Nat.le_refl _) hM,h2⟩
theorem qp{p q os:List Rat}{M i k:Nat}(hl:os.length=M)(h:∀ n,n<M→os.getD n 0=pmS p q i k n)(hj:i+k<M):∀ n,n<M→(os.set (i+k) (os.getD (i+k) 0+p.getD i 0*q.getD k 0)).getD n 0=pmS p q i (k+1) n:=by
 intro n hn;by_cases he:n=i+k
 ·subst he;rw [show (os.set (i+k) (os.getD (i+k) 0+p.getD i 0*q.getD k 0)).getD (i+k) 0=os.getD (i+k) 0+p.getD i 0*q.getD k 0 by simp [hl,hj],h _ hn,qF]
 ·rw [show (os.set (i+k) (os.getD (i+k) 0+p.getD i 0*q.getD k 0)).getD n 0=os.getD n 0 by rw [List.getD_eq_getElem?_getD,List.getElem?_set_ne (Ne.symm he),←List.getD_eq_getElem?_getD],h _ hn,qG he]
end Go.Proofs.YtofhkmcllihgmaaGreat
namespace Go.Proofs.YtofhkmcllihgmaaGreat
open Go.RowKit Go.Front Go.Num
theorem tN{p q:List Rat}{n:Nat}(h:p.length+q.length≤n+1):Stab.ap p (Stab.seq q) n=0:=by
 rw [Stab.ap_sum,Stab.sm_congr (g:=fun _=>0) (fun i hi=>?_),Stab.sm_zero];have:Stab.shn i (Stab.seq q) n=0:=by
  unfold Stab.shn Stab.seq;split
  ·exact bG (by omega)
  ·rfl
 rw [this];grind
theorem qS(ps qs:List Rat):Stab.seq (ch ps qs)=Stab.ap (tz ps) (Stab.seq (tz qs)):=by
 funext n
 unfold Stab.seq ch;rw [aD];rcases Nat.lt_or_ge n ((tz ps).length+(tz qs).length-1) with h|h
 ·rw [List.getD_eq_getElem?_getD,List.getElem?_map,List.getElem?_range h];rfl
 ·rw [bG (by simpa using h)];exact (tN (by omega)).symm
theorem qj{n t:Nat}{f:Nat→Rat}(h:∀ i,i<n→Sz t (f i)):Sz (1+n*(t+1)) (Stab.sm n f):=by
 induction n with
 | zero=>exact Sz.zero (by omega)
 | succ n ih =>
  simp only [Stab.sm];exact ((ih (fun i hi=>h i (by omega))).add (h n (by omega))).mono (by rw [Nat.succ_mul];omega)
end Go.Proofs.YtofhkmcllihgmaaGreat
