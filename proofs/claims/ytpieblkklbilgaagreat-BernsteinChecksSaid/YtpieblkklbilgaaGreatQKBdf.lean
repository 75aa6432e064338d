/- Binomial of the reference 07; Bound of package stability. -/
import Derived.Test.YtpieblkklbilgaaGreatQKBP
import Derived.Test.YtpieblkklbilgaaGreatQKM21
import Derived.Test.YtpieblkklbilgaaGreatQKBnE
import Derived.Test.YtpieblkklbilgaaGreatQKM27
import Derived.Test.YtpieblkklbilgaaGreatQKBn7
import Derived.Test.YtpieblkklbilgaaGreatQKM10
set_option linter.unusedVariables false
namespace Go.Proofs.YtpieblkklbilgaaGreat
open Go.RowKit Go.Front Go.Num
attribute [local go_sem] XW.cell XW.frozen
def bnd (m:Nat):Nat→Rat
 | 0=>1
 | i+1=>bnd m i * (((m+(i+1):Nat):Int):Rat) / (((i+1:Nat):Int):Rat)
theorem bnd_sz {m:Nat} (hm:m≤64):∀ i,i≤100→Sz (2 * i+1) (bnd m i)
 | 0,_=>Sz.one
 | i+1,h=>by
  have h1:=bnd_sz hm i (by omega)
  have h2:Sz 1 (((m+(i+1):Nat):Int):Rat):=Sz.int (by unfold W32;omega)
  have h3:Sz 1 (((i+1:Nat):Int):Rat):=Sz.int (by unfold W32;omega)
  exact ((h1.mul h2).div h3).mono (by omega)
set_option maxRecDepth 8000 in
set_option maxHeartbeats 2000000 in
theorem binom_any (m k:Nat) (z:Int) (w:World) (hm:m≤64) (hk:k≤100) (hz:z=(m:Int)+k) :
  Does 119 [.int .i64 z,.int .i64 (k:Nat)] w RH.v (fun x w'=>CanR w' x (bnd m k)):=by
 have HX:=Hi (Ext.refl w)
 have hzk:z - (k:Int)=m:=by omega
 have hz1:0≤z∧z≤200:=by omega
 clear hz
 unfold Does
 go_enter Tryz.func119,Tryz.ntmps119
 go_upto_region 1 with fail
 refine nm_alloc ?_
 intro w1 hE hB0 hz
 have hz_w1:=nle hz
 have hr_w1:=nle hz.symm
 clear hz
 replace HX:=hE.tr HX
 have hs_w1:=hE.size
 clear hE
 have B4:=Hi hB0
 clear hB0
 obtain ⟨c_B4,f_B4,l_B4⟩:=blk3 B4.out
 go_wp2_with fail
 refine Calls.mono (rof3_any 1 _ (by decide) (by decide)) ?_
 rintro e w2 ⟨x2,rfl,hE,g2⟩
 have G2:=Hi g2
 clear g2
 replace HX:=hE.tr HX
 replace B4:=hE.bl B4
 have hs_w2:=hE.size
 clear hE
 try clear c_B4 f_B4 l_B4
 obtain ⟨c_B4,f_B4,l_B4⟩:=blk3 B4.out
 go_upto_region 2 with fail
 refine nm_alloc ?_
 intro y3 hE hB0 hz
 have hz_y3:=nle hz
 have hr_y3:=nle hz.symm
 clear hz
 replace HX:=hE.tr HX
 replace B4:=hE.bl B4
 replace G2:=Hi (G2.out.ext hE)
 have hs_y3:=hE.size
 clear hE
 try clear c_B4 f_B4 l_B4
 obtain ⟨c_B4,f_B4,l_B4⟩:=blk3 B4.out
 have B5:=Hi hB0
 clear hB0
 obtain ⟨c_B5,f_B5,l_B5⟩:=blk3 B5.out
 obtain ⟨b5,hb5⟩:∃ b,b=w2.heap.size:=⟨_,rfl⟩
 have hb5w:w.heap.size+1≤b5:=by omega
 rw [← hb5] at B5 ⊢
 clear hb5 c_B4 f_B4 l_B4 c_B5 f_B5 l_B5
 have G0:Hid (CanR y3 x2 (bnd m 0)):=G2
 go_wp2
 go_loopg [6] k (fun g v wr=>∃ (j:Nat) (f:RH),j+g=k∧v=.int .i64 ((j:Int)+1)∧Ext w wr∧wr.heap[w.heap.size]?=some (.cells #[.bool false,.slice none 0 0,.slice none 0 0] 30 (0,0))∧wr.heap[b5]?=some (.cells #[.bool f.neg,.slice f.a f.n f.c,.slice f.b f.m f.d] 30 (0,0))∧CanR wr f (bnd m j))
 case atStart=>exact ⟨0,x2,by omega,rfl,HX.out,B4.out,B5.out,G0.out⟩
 case round =>
  obtain ⟨j,f,hj,rfl,g1,g3,g4,g5⟩:=hrel
  clear HX B4 B5 G2 G0
  have HX:=Hi g1
  have B4:=Hi g3
  have B5:=Hi g4
  have GF:=Hi g5
  clear g1 g3 g4 g5
  try clear c_B4 f_B4 l_B4
  obtain ⟨c_B4,f_B4,l_B4⟩:=blk3 B4.out
  try clear c_B5 f_B5 l_B5
  obtain ⟨c_B5,f_B5,l_B5⟩:=blk3 B5.out
  by_cases h0:gk=0
  case pos =>
   subst h0
   obtain rfl:j=k:=by omega
   have hjn:¬ ((j:Int)+1≤j):=by omega
   go_wp2
   have hF:=((((Fin.start (L:=w.heap.size) HX.out (noU_block B4.out rfl)).set (by omega) (i:=0) (v:=.bool f.neg) rfl).set (by omega) (i:=1) (v:=.slice f.a f.n f.c) rfl).set (by omega) (i:=2) (v:=.slice f.b f.m f.d) rfl)
   exact bodyPost_ret (v:=f.v) (by simp [results,Tryz.results119,go_sem,blk_cell B4.out]) rfl ⟨f,rfl,hF.ext,GF.out.keep hF.keep⟩
  have hjn:(j:Int)+1≤k:=by omega
  have ZF:=Hi (bnd_sz hm j (by omega))
  obtain ⟨p1,hp1⟩:∃ p:Nat,p=m+(j+1):=⟨_,rfl⟩
  have hP1:(m:Int)+((j:Int)+1)=(p1:Nat):=by omega
  have hp1b:p1≤1000:=by omega
  have Z1:Hid (Sz 1 (((p1:Nat):Int):Rat)):=Hi (Sz.int (by unfold W32;omega))
  have Z2:Hid (Sz 1 (((j:Int)+1:Int):Rat)):=Hi (Sz.int (by unfold W32;omega))
  have HN:Hid (bnd m j * (((p1:Nat):Int):Rat) / (((j:Int)+1:Int):Rat)=bnd m (j+1)):=Hi (by rw [hp1];rfl)
  clear hp1
  go_upto_region 5 with fail
  refine wp_region_front 11 (fun opIx=>match opIx with
   | 6=>.spec RH default RH.v (fun s w'=>CanR w' s ((((p1:Nat):Int):Rat)))
   | 7=>.spec RH default RH.v (fun s w'=>CanR w' s (bnd m j * (((p1:Nat):Int):Rat)))
   | 9=>.spec RH default RH.v (fun s w'=>CanR w' s ((((j:Int)+1:Int):Rat)))
   | 10=>.spec RH default RH.v (fun s w'=>CanR w' s (bnd m (j+1)))
   | _=>.quiet) (fun | 7=>[6] | 10=>[7,9] | _=>[]) (by kernel_rfl) (by kernel_rfl) (fun w0 he0 hz0 hc0 hf0=>?_)
  replace he0:=Hi he0
  simp only [pT]
  repeat (refine wpq fun K h=>?_;go_big_quiet_op;refine h _ ?_;clear h K)
  refine wps he0.out rfl rfl (fun w1 hW hG=>?_) fun x20=>?_
  ·exact spc [.int .i64 (p1:Nat)] Tryz.func66 (rof3_any (p1:Nat) _ (by omega) (by omega))
  simp only [pS]
  repeat (refine wpq fun K h=>?_;go_big_quiet_op;refine h _ ?_;clear h K)
  refine wps he0.out rfl rfl (fun w1 hW hG=>?_) fun x21=>?_
  ·have g20:=(hG 6 (by decide):Since _ _).get fun _ e g=>g.ext e
   exact spc [f.v,x20.v] Tryz.func38 (rmul3_any f x20 _ _ _ ((GF.out.ext hW).raw ZF.out (by omega)) (g20.raw Z1.out (by decide)))
  simp only [pS]
  repeat (refine wpq fun K h=>?_;go_big_quiet_op;refine h _ ?_;clear h K)
  refine wps he0.out rfl rfl (fun w1 hW hG=>?_) fun x22=>?_
  ·exact spc [.int .i64 ((j:Int)+1)] Tryz.func66 (rof3_any ((j:Int)+1) _ (by omega) (by omega))
  simp only [pS]
  repeat (refine wpq fun K h=>?_;go_big_quiet_op;refine h _ ?_;clear h K)
  refine wps he0.out rfl rfl (fun w1 hW hG=>?_) fun x23=>?_
  ·have g21:=(hG 7 (by decide):Since _ _).get fun _ e g=>g.ext e
   have g22:=(hG 9 (by decide):Since _ _).get fun _ e g=>g.ext e
   exact spc [x21.v,x22.v] Tryz.func118 ((by rw [← HN.out];exact rover3_any x21 x22 _ _ _ (g21.raw (ZF.out.mul Z1.out) (by omega)) (g22.raw Z2.out (by decide))))
  simp only [pS]
  repeat (refine wpq fun K h=>?_;go_big_quiet_op;refine h _ ?_;clear h K)
  refine wpF_nil ?_
  intro w6 hI
  have hE:=he0.out.trans hI.ext
  have G20:=Hi ((hI.facts 6:Since _ _).get fun _ e g=>g.ext e)
  have G21:=Hi ((hI.facts 7:Since _ _).get fun _ e g=>g.ext e)
  have G22:=Hi ((hI.facts 9:Since _ _).get fun _ e g=>g.ext e)
  have G23:=Hi ((hI.facts 10:Since _ _).get fun _ e g=>g.ext e)
  clear hI he0 hz0 hc0 hf0
  replace HX:=hE.tr HX
  replace B4:=hE.bl B4
  replace B5:=hE.bl B5
  replace GF:=Hi (GF.out.ext hE)
  have hs_w6:=hE.size
  clear hE
  try clear c_B4 f_B4 l_B4
  obtain ⟨c_B4,f_B4,l_B4⟩:=blk3 B4.out
  try clear c_B5 f_B5 l_B5
  obtain ⟨c_B5,f_B5,l_B5⟩:=blk3 B5.out
  simp only [pD]
  go_upto_region 4 with fail
  refine nm_set3 B5.out rfl ?_
  intro y7 T
  replace HX:=Hi (T.ext HX.out (by omega))
  replace B4:=Hi (T.rest _ _ (by omega) B4.out)
  replace B5:=Hi (T.bx)
  replace GF:=Hi (GF.out.keep T.keep)
  replace G20:=Hi (G20.out.keep T.keep)
  replace G21:=Hi (G21.out.keep T.keep)
  replace G22:=Hi (G22.out.keep T.keep)
  replace G23:=Hi (G23.out.keep T.keep)
  have hs_y7:=nle T.size
  have hr_y7:=nle T.size.symm
  clear T
  try clear c_B4 f_B4 l_B4
  obtain ⟨c_B4,f_B4,l_B4⟩:=blk3 B4.out
  try clear c_B5 f_B5 l_B5
  obtain ⟨c_B5,f_B5,l_B5⟩:=blk3 B5.out
  clear hP1
  go_wp2
  go_roundg (gk - 1)
  case measure=>omega
  case rel=>exact ⟨j+1,x23,by omega,by go_num,HX.out,B4.out,B5.out,G23.out⟩
end Go.Proofs.YtpieblkklbilgaaGreat
/- Coefficients of the reference 07. -/
set_option linter.unusedVariables false
set_option maxRecDepth 8000
set_option maxHeartbeats 16000000
namespace Go.Proofs.YtpieblkklbilgaaGreat
open Go.RowKit Go.Front Go.Num Stab
attribute [local go_sem] XW.cell XW.frozen
theorem fc_succ (n:Nat):fc (n+1)=fc n * (n+1):=rfl
theorem bnd_ch (m:Nat):∀ k,bnd m k=((ch (m+k) k:Nat):Rat)
 | 0=>by rw [ch_zero];rfl
 | k+1=>by
  have ih:=bnd_ch m k
  show bnd m k * (((m+(k+1):Nat):Int):Rat) / (((k+1:Nat):Int):Rat)=_
  have h1:=ch_fc (n:=m+k) (k:=k) (by omega)
  have h2:=ch_fc (n:=m+(k+1)) (k:=k+1) (by omega)
  rw [show m+k - k=m by omega] at h1
  rw [show m+(k+1) - (k+1)=m by omega,show m+(k+1)=m+k+1 by omega,fc_succ,fc_succ,← h1] at h2
  have h3:ch (m+k+1) (k+1) * (k+1)=ch (m+k) k * (m+k+1):=by
   have hp:0 < fc k * fc m:=Nat.mul_pos (fc_pos _) (fc_pos _)
   apply Nat.eq_of_mul_eq_mul_right hp
   calc ch (m+k+1) (k+1) * (k+1) * (fc k * fc m)=ch (m+k+1) (k+1) * (fc k * (k+1) * fc m):=by grind
    _=ch (m+k) k * (fc k * fc m) * (m+k+1):=h2
    _=_:=by grind
  have h4:((ch (m+k+1) (k+1):Nat):Rat) * ((k+1:Nat):Rat)=((ch (m+k) k:Nat):Rat) * ((m+k+1:Nat):Rat):=by
   rw [← Rat.natCast_mul,← Rat.natCast_mul,h3]
  have h5:((k+1:Nat):Rat) ≠ 0:=natne (by omega)
  rw [ih,show m+(k+1)=m+k+1 by omega,Rat.intCast_natCast,Rat.intCast_natCast,← h4,Rat.div_def,Rat.mul_assoc,Rat.mul_inv_cancel _ h5,Rat.mul_one]
theorem bn_can {w:World} {x:Nat × RH} {q:Rat} (h:BuiltR w x q):CanL w ⟨some ⟨x.1,0,none⟩,1,1⟩ [q] :=
 ⟨[x.2],RBk.rs (rs:=[x.2]) (re:=#[]) h.1 rfl (Nat.le_refl _) (by decide),(Vals.nil _ _).snoc h.2⟩
theorem szl_one {s:Nat} {q:Rat} (h:Sz s q):SzL s [q]:=by
 intro x hx
 obtain rfl:x=q:=by simpa using hx
 exact h
def hnV (p:List Rat) (a w:Rat):Nat→List Rat
 | 0=>[]
 | j+1=>add5V (mul5V (hnV p a w j) [a,w]) [p.getD (p.length - 1 - j) 0]
theorem a5V_getD (ps qs:List Rat) (i:Nat):(add5V ps qs).getD i 0=ps.getD i 0+qs.getD i 0:=by
 unfold add5V
 rw [tz_getD']
 by_cases h:i < max ps.length qs.length
 ·simp [h]
 ·rw [getD_over' (by simp;omega),getD_over' (by omega),getD_over' (by omega)];decide +kernel
theorem lin_mul (b:List Rat) (a w:Rat) (i:Nat):(mul5V b [a,w]).getD i 0=b.getD i 0 * a+if 0 < i then b.getD (i - 1) 0 * w else 0:=by
 have e:(mul5V b [a,w]).getD i 0=ap b (seq [a,w]) i:=congrFun (seq_mul b [a,w]) i
 rw [e,ap_swap]
 show a * b.getD i 0+sh (fun n=>w * b.getD n 0+sh (fun _=>0) n) i=_
 cases i with
 | zero =>
  rw [if_neg (by omega)]
  show a * _+(0:Rat)=_
  grind
 | succ i =>
  rw [if_pos (by omega)]
  show a * _+(w * b.getD i 0+sh (fun _=>0) i)=_+b.getD i 0 * w
  rw [show sh (fun _=>(0:Rat)) i=0 by rw [sh_zero]]
  grind
theorem hnV_at (p:List Rat) (a w:Rat) (j:Nat):∀ k,(hnV p a w j).getD k 0=hq p a w j k:=by
 induction j with
 | zero=>intro k;rfl
 | succ j ih =>
  intro k
  show (add5V (mul5V (hnV p a w j) [a,w]) [p.getD (p.length - 1 - j) 0]).getD k 0=_
  rw [a5V_getD,lin_mul,ih]
  cases k with
  | zero =>
   rw [if_neg (by omega)]
   show _+(0:Rat)+p.getD (p.length - 1 - j) 0=hq p a w j 0 * a+p.getD (p.length - 1 - j) 0
   grind
  | succ k =>
   rw [if_pos (by omega),show k+1 - 1=k by omega,ih]
   show _+_+(0:Rat)=hq p a w j (k+1) * a+hq p a w j k * w
   grind
theorem hnV_len (p:List Rat) (a w:Rat):∀ j,(hnV p a w j).length≤3 * j
 | 0=>Nat.le_refl _
 | j+1=>by
  have ih:=hnV_len p a w j
  have h1:=mul5_len (hnV p a w j) [a,w]
  show (add5V (mul5V (hnV p a w j) [a,w]) [p.getD (p.length - 1 - j) 0]).length≤_
  unfold add5V
  refine Nat.le_trans (tz_len_le _) ?_
  simp only [List.length_map,List.length_range,List.length_cons,List.length_nil] at h1 ⊢
  omega
theorem hnV_frb {p:List Rat} {a w:Rat} {S U:Nat} (hp:FrB S p) (hl:FrB U [a,w]):∀ j,j≤100→FrB (j * (U+S+2)+1) (hnV p a w j)
 | 0,_=>by rw [Nat.zero_mul];exact FrB.nil
 | j+1,hj=>by
  have ih:=hnV_frb hp hl j (by omega)
  have hlen:=hnV_len p a w j
  have h1:=ih.mul hl (by omega)
  have h2:FrB S [p.getD (p.length - 1 - j) 0]:=by
   obtain ⟨h0,D,e1,e2,e3⟩:=hp
   exact ⟨h0,D,e1,e2,fun x hx=>by rw [List.mem_singleton.1 hx];exact e3.at _⟩
  exact (h1.add h2).mono (by rw [Nat.succ_mul];omega)
theorem FrB.getDz {S:Nat} {l:List Rat} (h:FrB S l) (i:Nat):Sz S (l.getD i 0):=by
 obtain ⟨h0,D,h1,h2,h3⟩:=h
 exact (h3.at i).sz h0 h1 h2
def cfS (p:List Rat) (a w:Rat) (i m:Nat):Rat:=sm m (fun k=>hq p a w p.length k * (bnd (i - k) k / bnd (p.length - 1 - k) k))
theorem cfS_bc {p:List Rat} (hp:p ≠ []) (a w:Rat) {i:Nat} (hi:i < p.length):cfS p a w i (i+1)=bcV p a w i:=by
 unfold bcV
 rw [bt_sm]
 refine sm_congr (fun k hk=>?_)
 rw [bnd_ch,bnd_ch,show i - k+k=i by omega,show p.length - 1 - k+k=p.length - 1 by omega,Rat.div_def]
 grind
theorem line_frb {a b:Rat} {T:Nat} (za:Sz T a) (zb:Sz T b) (hT:1≤T):FrB (6 * T+4) [a,b - a]:=by
 have h:SzL (2 * T+1) [a,b - a]:=by
  intro x hx
  rcases List.mem_cons.1 hx with rfl | h
  ·exact za.mono (by omega)
  ·rw [List.mem_singleton.1 h];exact (zb.sub za).mono (by omega)
 exact (FrB.of h (n:=2) (Nat.le_refl 2)).mono (by omega)
theorem cfS_sz {p:List Rat} {a w:Rat} {U:Nat} (h:∀ k,Sz U (hq p a w p.length k)) (hp:p.length≤8) (i:Nat) (hi:i < p.length):∀ m,m≤i+1→Sz (m * (U+40)+1) (cfS p a w i m)
 | 0,_=>by rw [Nat.zero_mul];exact Sz.zero (by decide)
 | m+1,hm=>by
  have ih:=cfS_sz h hp i hi m (by omega)
  have h1:=(bnd_sz (m:=i - m) (by omega) m (by omega)).mono (show 2 * m+1≤17 by omega)
  have h2:=(bnd_sz (m:=p.length - 1 - m) (by omega) m (by omega)).mono (show 2 * m+1≤17 by omega)
  exact (ih.add ((h m).mul (h1.div h2))).mono (by rw [Nat.succ_mul];omega)
theorem rcoef7_nil (ao:Option Addr) (n cap:Nat) (l:List Rat) (s t:RH) (w:World) (h:RawL w ⟨ao,n,cap⟩ l) (hn:n≤1000) (h0:tz l=[]) :
  Does 47 [.slice ao n cap,IvV (s,t)] w SH.v (fun x w'=>x=⟨none,0,0⟩):=by
 have HX:=Hi (Ext.refl w)
 have LA:=Hi h
 have H0:=Hi h0
 clear h h0
 obtain ⟨sn,sa,sl,sc,sb,sm,sd⟩:=s
 obtain ⟨tn,ta,tl,tc,tb,tm,td⟩:=t
 unfold Does
 go_enter Tryz.func47,Tryz.ntmps47
 go_upto_region 1 with fail
 refine nm_alloc ?_
 intro w1 hE hB0 hz
 have hz_w1:=nle hz
 have hr_w1:=nle hz.symm
 clear hz
 replace HX:=hE.tr HX
 have hs_w1:=hE.size
 clear hE
 have B3:=Hi hB0
 clear hB0
 obtain ⟨c_B3,f_B3,l_B3⟩:=blk3 B3.out
 go_wp2_with fail
 refine Calls.mono (trim5_any ao n cap l _ (LA.out.ext HX.out) (by omega)) ?_
 rintro e w14 ⟨x14,rfl,hE,g14⟩
 have G14:=Hi g14
 clear g14
 replace HX:=hE.tr HX
 replace B3:=hE.bl B3
 have hs_w14:=hE.size
 clear hE
 try clear c_B3 f_B3 l_B3
 obtain ⟨c_B3,f_B3,l_B3⟩:=blk3 B3.out
 obtain ⟨xa,xn,xc⟩:=x14
 have hxn:xn=0:=by have:=G14.out.len;rw [H0.out] at this;exact this.symm
 subst hxn
 simp only [SH.v]
 go_wp2
 go_ret
 exact ⟨⟨none,0,0⟩,rfl,HX.out,rfl⟩
theorem rcoef7_any (ao:Option Addr) (n cap:Nat) (l:List Rat) (s t:RH) (a b:Rat) (S T:Nat) (w:World) (h:RawL w ⟨ao,n,cap⟩ l) (hs:RawR w s a) (ht:RawR w t b) (hn:n≤1000) (h0:tz l ≠ []) (h8:(tz l).length≤8) (hz:FrB S (tz l)) (za:Sz T a) (zb:Sz T b) (hS:S≤100) (hT1:1≤T) (hT:T≤60) :
  Does 47 [.slice ao n cap,IvV (s,t)] w SH.v (fun x w'=>NewL w.heap.size w' x (bcL (tz l) (loV a b) (hiV a b))):=by
 have HX:=Hi (Ext.refl w)
 have LA:=Hi h
 have HS:=Hi hs
 have HT:=Hi ht
 have H0:=Hi h0
 have HZ:=Hi hz
 have ZA:=Hi (lo_sz za zb)
 have ZB:=Hi (hi_sz za zb)
 have HLO:Hid (loV (loV a b) (hiV a b)=loV a b):=Hi (lo_of (lo_hi a b))
 have HHI:Hid (hiV (loV a b) (hiV a b)=hiV a b):=Hi (hi_of (lo_hi a b))
 have HLN:=Hi (line_frb ZA.out ZB.out hT1)
 clear h h0 hs ht za zb hz
 obtain ⟨sn,sa,sl,sc,sb,sm',sd⟩:=s
 obtain ⟨tn,ta,tl,tc,tb,tm,td⟩:=t
 unfold Does
 go_enter Tryz.func47,Tryz.ntmps47
 go_upto_region 1 with fail
 refine nm_alloc ?_
 intro w1 hE hB0 hz
 have hz_w1:=nle hz
 have hr_w1:=nle hz.symm
 clear hz
 replace HX:=hE.tr HX
 replace HS:=Hi (HS.out.ext hE)
 replace HT:=Hi (HT.out.ext hE)
 have hs_w1:=hE.size
 clear hE
 have B3:=Hi hB0
 clear hB0
 obtain ⟨c_B3,f_B3,l_B3⟩:=blk3 B3.out
 go_wp2_with fail
 refine Calls.mono (trim5_any ao n cap l _ (LA.out.ext HX.out) (by omega)) ?_
 rintro e w14 ⟨x14,rfl,hE,g14⟩
 have G14:=Hi g14
 clear g14
 replace HX:=hE.tr HX
 replace HS:=Hi (HS.out.ext hE)
 replace HT:=Hi (HT.out.ext hE)
 replace B3:=hE.bl B3
 have hs_w14:=hE.size
 clear hE
 try clear c_B3 f_B3 l_B3
 obtain ⟨c_B3,f_B3,l_B3⟩:=blk3 B3.out
 obtain ⟨pa,P,pc⟩:=x14
 obtain ⟨p,hp⟩:∃ p,p=tz l:=⟨_,rfl⟩
 have HV:Hid (bcL (tz l) (loV a b) (hiV a b)=bcL p (loV a b) (hiV a b)):=Hi (by rw [hp])
 rw [← hp] at G14 H0 HZ h8
 have HPN:=Hi G14.out
 have hP:=G14.out.len
 simp only at hP
 have HPl:=Hi hP
 have hP1:0 < P:=by
  rcases Nat.eq_zero_or_pos P with h | h
  ·exact absurd (List.length_eq_zero_iff.1 (hP.trans h)) H0.out
  ·exact h
 have hP8:P≤8:=by omega
 have hp1:=HPN.out.can.le
 have hp2:=HPN.out.can.max
 simp only at hp1 hp2
 obtain ⟨N1,hN1⟩:∃ N1,P=N1+1:=⟨P - 1,by omega⟩
 have hN1i:(P:Int) - 1=(N1:Nat):=by omega
 have HN1:=Hi hN1
 clear hN1
 clear hp G14 hP
 simp only [SH.v]
 have hPb:((P:Int) == 0)=false:=by rw [beq_eq_false_iff_ne];omega
 go_wp2_with fail
 refine Calls.mono (ivtrim4_any ⟨sn,sa,sl,sc,sb,sm',sd⟩ ⟨tn,ta,tl,tc,tb,tm,td⟩ a b _ HS.out HT.out) ?_
 rintro e w19 ⟨x19,rfl,hE,g19⟩
 have G19:=Hi g19
 clear g19
 replace HX:=hE.tr HX
 replace HS:=Hi (HS.out.ext hE)
 replace HT:=Hi (HT.out.ext hE)
 replace B3:=hE.bl B3
 replace HPN:=Hi (HPN.out.ext hE)
 have hs_w19:=hE.size
 clear hE
 try clear c_B3 f_B3 l_B3
 obtain ⟨c_B3,f_B3,l_B3⟩:=blk3 B3.out
 obtain ⟨⟨ln,la,ll,lc,lb,lm,ld⟩,⟨hn',ha,hl,hcc,hb,hm,hd⟩⟩:=x19
 have HL:=Hi G19.out.1
 have HH:=Hi G19.out.2
 clear G19
 simp only at HL HH
 clear HS
 clear HT
 go_upto_region 5 with fail
 refine nm_set6 B3.out rfl ?_
 intro w20 T
 replace HX:=Hi (T.ext HX.out (by omega))
 replace B3:=Hi (T.bx)
 replace HPN:=Hi (HPN.out.put T (by omega))
 replace HL:=Hi (HL.out.keep T.keep)
 replace HH:=Hi (HH.out.keep T.keep)
 have hs_w20:=nle T.size
 have hr_w20:=nle T.size.symm
 clear T
 try clear c_B3 f_B3 l_B3
 obtain ⟨c_B3,f_B3,l_B3⟩:=blk3 B3.out
 have HPL:=Hi HPN.out.can
 clear HPN
 obtain ⟨u,hu⟩:∃ u,u=loV a b:=⟨_,rfl⟩
 obtain ⟨v,hv⟩:∃ v,v=hiV a b:=⟨_,rfl⟩
 have HV2:Hid (bcL (tz l) (loV a b) (hiV a b)=bcL p u v):=Hi (by rw [HV.out,hu,hv])
 rw [← hu] at HL ZA HLO HHI HLN
 rw [← hv] at HH ZB HLO HHI HLN
 clear hu hv
 go_upto_region 6 with fail
 refine wp_region_front 5 (fun opIx=>match opIx with
  | 3=>.spec RH default RH.v (fun s w'=>CanR w' s (v - u))
  | 4=>.spec (Nat) (0) (fun b:Nat=>.slice (some ⟨b,0,none⟩) 2 2) (fun b w'=>CanL w' ⟨some ⟨b,0,none⟩,2,2⟩ [u,v - u])
  | _=>.quiet) (fun | 4=>[3] | _=>[]) (by kernel_rfl) (by kernel_rfl) (fun w0 he0 hz0 hc0 hf0=>?_)
 replace he0:=Hi he0
 simp only [pT]
 repeat (refine wpq fun K h=>?_;go_big_quiet_op;refine h _ ?_;clear h K)
 refine wps he0.out rfl rfl (fun w1 hW hG=>?_) fun x30=>?_
 ·exact spc [IvV (⟨ln,la,ll,lc,lb,lm,ld⟩,⟨hn',ha,hl,hcc,hb,hm,hd⟩)] Tryz.func39 ((by have h:=ivwid4_any ⟨ln,la,ll,lc,lb,lm,ld⟩ ⟨hn',ha,hl,hcc,hb,hm,hd⟩ u v T _ ((HL.out.ext hW).raw ZA.out (by omega)) ((HH.out.ext hW).raw ZB.out (by omega)) ZA.out ZB.out (by omega);rw [HLO.out,HHI.out] at h;exact h))
 simp only [pS]
 repeat (refine wpq fun K h=>?_;go_big_quiet_op;refine h _ ?_;clear h K)
 refine wps he0.out rfl rfl (fun w1 hW hG=>?_) fun x31=>?_
 ·have g30:=(hG 3 (by decide):Since _ _).get fun _ e g=>g.ext e
  exact spec_build2b ⟨ln,la,ll,lc,lb,lm,ld⟩ x30 _ _ (HL.out.ext hW) g30 rfl (by simp [execOp,go_sem])
 simp only [pS]
 repeat (refine wpq fun K h=>?_;go_big_quiet_op;refine h _ ?_;clear h K)
 refine wpF_nil ?_
 intro w24 hI
 have hE:=he0.out.trans hI.ext
 have G30:=Hi ((hI.facts 3:Since _ _).get fun _ e g=>g.ext e)
 have G31:=Hi ((hI.facts 4:Since _ _).get fun _ e g=>g.ext e)
 clear hI he0 hz0 hc0 hf0
 replace HX:=hE.tr HX
 replace B3:=hE.bl B3
 replace HL:=Hi (HL.out.ext hE)
 replace HH:=Hi (HH.out.ext hE)
 replace HPL:=Hi (HPL.out.ext hE)
 have hs_w24:=hE.size
 clear hE
 try clear c_B3 f_B3 l_B3
 obtain ⟨c_B3,f_B3,l_B3⟩:=blk3 B3.out
 simp only [pD]
 have HLI:=G31
 clear G30 G31
 have HZL:Hid (SzL (6 * T+4) [u,v - u]):=Hi HLN.out.sz
 have HFB:Hid (∀ j,j≤8→FrB (j * (6 * T+4+S+2)+1) (hnV p u (v - u) j)):=Hi (fun j hj=>hnV_frb HZ.out HLN.out j (by omega))
 have HZS:Hid (SzL S p):=Hi HZ.out.sz
 clear HL
 clear HH
 (try clear c_B3 f_B3 l_B3);clear B3
 go_wp2
 go_loopg [7,8] P (fun g y i wr=>∃ (j:Nat) (s:SH) (z:Int),y=s.v∧j+g=P∧i=.int .i64 z∧z=(g:Int) - 1∧Ext w24 wr∧CanL wr s (hnV p u (v - u) j))
 case atStart=>exact ⟨0,⟨none,0,0⟩,_,rfl,by omega,rfl,by omega,Ext.refl _,(NewL.nil 0 _).can⟩
 case round =>
  obtain ⟨j,s,z,rfl,hj,rfl,hz,hE,g2⟩:=hrel
  have LO:=Hi g2
  have HE2:=Hi hE
  clear g2
  obtain ⟨qa,qn,qc⟩:=s
  simp only [SH.v]
  have hqn:=LO.out.len
  simp only at hqn
  have hqs:=hnV_len p u (v - u) j
  rw [hqn] at hqs
  have HQF:=Hi ((HFB.out j (by omega)).mono (show _≤4000 by have:=Nat.mul_le_mul (show j≤8 by omega) (show 6 * T+4+S+2≤466 by omega);omega))
  clear hqn
  replace HX:=hE.tr HX
  replace HPL:=Hi (HPL.out.ext hE)
  replace HLI:=Hi (HLI.out.ext hE)
  have hs_wr:=hE.size
  clear hE
  by_cases h0:gk=0
  case neg =>
   obtain ⟨i,rfl⟩:∃ i,gk=i+1:=⟨gk - 1,by omega⟩
   obtain rfl:z=(i:Int):=by omega
   clear hz
   have Hh:Hid (hnV p u (v - u) (j+1)=add5V (mul5V (hnV p u (v - u) j) [u,v - u]) [p.getD i 0]):=Hi (by show add5V _ [p.getD (p.length - 1 - j) 0]=_;rw [HPl.out,show P - 1 - j=i by omega])
   have HMF:=Hi ((HQF.out.mul HLN.out (by have:=hnV_len p u (v - u) j;omega)).mono (show 4000+(6 * T+4)+1≤5000 by omega))
   have HMl:Hid ((mul5V (hnV p u (v - u) j) [u,v - u]).length≤100):=Hi (by
    have h1:=mul5_len (hnV p u (v - u) j) [u,v - u]
    have h2:=hnV_len p u (v - u) j
    simp only [List.length_cons,List.length_nil] at h1
    omega)
   have ZP:=Hi (HZS.out.at (i:=i) (by rw [HPl.out];omega))
   obtain ⟨b,off,r,hao,hat,hP⟩:=HPL.out.at (k:=i) (by omega)
   have hbl:=RAt.lt hat
   obtain ⟨hc1,hc2,hc3⟩:=hat
   obtain ⟨rneg,ra,rn,rc,rb,rm,rd⟩:=r
   simp only at hc1 hc2 hc3
   subst hao
   have RP:=Hi hP
   clear hP h0
   go_upto_region 11 with fail
   refine wp_region_front 9 (fun opIx=>match opIx with
    | 2=>.spec (SH) (default) (SH.v) (fun s w'=>CanL w' s (mul5V (hnV p u (v - u) j) [u,v - u]))
    | 7=>.spec (Nat × RH) ((0,default)) (fun p=>.slice (some ⟨p.1,0,none⟩) 1 1) (fun p' w'=>BuiltR w' p' (p.getD i 0))
    | 8=>.spec (SH) (default) (SH.v) (fun s w'=>CanL w' s (hnV p u (v - u) (j+1)))
    | _=>.quiet) (fun | 8=>[2,7] | _=>[]) (by kernel_rfl) (by kernel_rfl) (fun w0 he0 hz0 hc0 hf0=>?_)
   replace he0:=Hi he0
   simp only [pT]
   repeat (refine wpq fun K h=>?_;go_big_quiet_op;refine h _ ?_;clear h K)
   refine wps he0.out rfl rfl (fun w1 hW hG=>?_) fun x2=>?_
   ·exact spc [.slice qa qn qc,.slice (some ⟨x31,0,none⟩) 2 2] Tryz.func70 ((mul5_big qa _ qn qc 2 2 _ _ 4000 _ ((LO.out.ext hW).raw HQF.out.sz (by decide)) ((HLI.out.ext hW).raw HZL.out (by omega)) (by omega) (by decide) HQF.out.sz (HZL.out.mono (by omega)) (by omega)).weak (fun x w' _ h=>h.can))
   simp only [pS]
   repeat (refine wpq fun K h=>?_;go_big_quiet_op;refine h _ ?_;clear h K)
   refine wps he0.out rfl rfl (fun w1 hW hG=>?_) fun x7=>?_
   ·exact spec_build ⟨rneg,ra,rn,rc,rb,rm,rd⟩ _ (RP.out.ext hW) rfl (by simp [execOp,go_sem])
   simp only [pS]
   repeat (refine wpq fun K h=>?_;go_big_quiet_op;refine h _ ?_;clear h K)
   refine wps he0.out rfl rfl (fun w1 hW hG=>?_) fun x8=>?_
   ·have g2:=(hG 2 (by decide):Since _ _).get fun _ e g=>g.ext e
    have g7:=(hG 7 (by decide):Since _ _).get fun _ e g=>g.ext e
    exact spc [x2.v,.slice (some ⟨x7.1,0,none⟩) 1 1] Tryz.func71 ((add5_any x2.a (some ⟨x7.1,0,none⟩) x2.n x2.c 1 1 _ _ _ (g2.raw HMF.out.sz (by decide)) ((bn_can g7).raw (szl_one ZP.out) (by omega)) (by have h1:=g2.len;have h2:=HMl.out;rw [h1] at h2;omega) (by decide) (HMF.out.sz.mono (by decide)) ((szl_one ZP.out).mono (by omega))).weak (fun x w' _ h=>by rw [Hh.out];exact h.can))
   simp only [pS]
   repeat (refine wpq fun K h=>?_;go_big_quiet_op;refine h _ ?_;clear h K)
   refine wpF_nil ?_
   intro w8 hI
   have hE:=he0.out.trans hI.ext
   have G2:=Hi ((hI.facts 2:Since _ _).get fun _ e g=>g.ext e)
   have G7:=Hi ((hI.facts 7:Since _ _).get fun _ e g=>g.ext e)
   have G8:=Hi ((hI.facts 8:Since _ _).get fun _ e g=>g.ext e)
   clear hI he0 hz0 hc0 hf0
   replace HX:=hE.tr HX
   replace HPL:=Hi (HPL.out.ext hE)
   replace HLI:=Hi (HLI.out.ext hE)
   replace HE2:=hE.tr HE2
   replace LO:=Hi (LO.out.ext hE)
   have hs_w8:=hE.size
   clear hE
   simp only [pD]
   go_wp2
   go_roundg i
   case measure=>omega
   case rel=>exact ⟨j+1,x8,_,rfl,by omega,by go_num,by omega,HE2.out,G8.out⟩
  subst h0
  obtain rfl:z=-1:=by omega
  obtain rfl:j=P:=by omega
  clear hz hj
  obtain ⟨wq,hwq⟩:∃ x,x=wr:=⟨_,rfl⟩
  subst hwq
  have HXq:=Hi (Ext.refl wq)
  have hszq:=HX.out.size
  have HQZ:Hid (∀ k,Sz 4000 (hq p u (v - u) j k)):=Hi (fun k=>by rw [← hnV_at];exact HQF.out.getDz k)
  have HBC:Hid (∀ i,i < j→cfS p u (v - u) i (i+1)=bcV p u (v - u) i):=Hi (fun i hi=>cfS_bc H0.out u (v - u) (by rw [HPl.out];exact hi))
  have HCZ:Hid (∀ i,i < j→∀ m,m≤i+1→Sz (m * (4000+40)+1) (cfS p u (v - u) i m)):=Hi (fun i hi m hm=>cfS_sz (fun k=>by rw [HPl.out];exact HQZ.out k) (by rw [HPl.out];exact hP8) i (by rw [HPl.out];exact hi) m hm)
  have HBL:=Hi (bcL_len p u v)
  go_wp2
  go_loopg [9,10] j (fun g y i wr=>∃ (m:Nat) (s2:SH),y=s2.v∧m+g=j∧i=.int .i64 (m:Nat)∧Ext wq wr∧OwnQ wr (wq.heap.size≤·) s2.v ((bcL p u v).take m))
  case atStart=>exact ⟨0,⟨none,0,0⟩,rfl,by omega,rfl,Ext.refl _,OwnQ.nil _ _⟩
  case round =>
   obtain ⟨m,s2,rfl,hm',rfl,g1,g2⟩:=hrel
   clear HXq
   have HXq:=Hi g1
   have HO:=Hi g2
   clear g1 g2
   have hsr:=HXq.out.size
   by_cases h0:gk=0
   case pos =>
    subst h0
    obtain rfl:m=j:=by omega
    have hin:¬ (m:Int)≤(N1:Nat):=by have:=HN1.out;omega
    have hfull:(bcL p u v).take m=bcL p u v:=List.take_of_length_le (by rw [HBL.out,HPl.out];exact Nat.le_refl _)
    have HF:=Hi HO.out.lin
    rw [hfull] at HF
    go_wp2
    go_ret
    exact ⟨s2,rfl,HX.out.trans HXq.out,by rw [HV2.out];exact LIn.mono HF.out (by omega) (Nat.le_refl _)⟩
   have hin:(m:Int)≤(N1:Nat):=by have:=HN1.out;omega
   go_wp2_with fail
   refine Calls.mono (rof3_any 0 _ (by decide) (by decide)) ?_
   rintro e w47 ⟨x47,rfl,hE,g47⟩
   have G47:=Hi g47
   clear g47
   replace HXq:=hE.tr HXq
   replace HO:=Hi (HO.out.ext hE)
   have hs_w47:=hE.size
   clear hE
   have HO1:Hid (OwnQ w47 (fun k=>wq.heap.size≤k∧k < w47.heap.size) s2.v ((bcL p u v).take m)):=Hi (HO.out.mono (fun k hk h=>⟨h,hk⟩))
   clear HO
   go_upto_region 17 with fail
   refine nm_alloc ?_
   intro w48 hE hB0 hz
   have hz_w48:=nle hz
   have hr_w48:=nle hz.symm
   clear hz
   replace HXq:=hE.tr HXq
   replace G47:=Hi (G47.out.ext hE)
   replace HO1:=Hi (HO1.out.ext hE)
   have hs_w48:=hE.size
   clear hE
   have B11:=Hi hB0
   clear hB0
   obtain ⟨c_B11,f_B11,l_B11⟩:=blk3 B11.out
   obtain ⟨b11,hb11⟩:∃ b,b=w47.heap.size:=⟨_,rfl⟩
   have q11:wq.heap.size≤b11:=by omega
   rw [← hb11] at B11 HO1 ⊢
   have HS0:Hid (CanR w48 x47 (cfS p u (v - u) m 0)):=G47
   clear hb11 c_B11 f_B11 l_B11
   go_wp2
   go_loopg [12] (m+1) (fun g y wr=>∃ (k:Nat) (x:RH),k+g=m+1∧y=.int .i64 (k:Nat)∧Ext wq wr∧OwnQ wr (fun k=>wq.heap.size≤k∧k < b11) s2.v ((bcL p u v).take m)∧wr.heap[b11]?=some (.cells #[.bool x.neg,.slice x.a x.n x.c,.slice x.b x.m x.d] 30 (0,0))∧CanR wr x (cfS p u (v - u) m k))
   case atStart=>exact ⟨0,x47,by omega,rfl,HXq.out,HO1.out,B11.out,HS0.out⟩
   case round =>
    obtain ⟨k,⟨xn,xa,xl,xc,xb,xm,xd⟩,hk,rfl,g1,g2,g3,g4⟩:=hrel
    clear HXq HO1 B11 HS0 G47
    have HXq:=Hi g1
    have HO:=Hi g2
    have B11:=Hi g3
    have GS:=Hi g4
    clear g1 g2 g3 g4
    simp only at B11
    have hsr2:=HXq.out.size
    try clear c_B11 f_B11 l_B11
    obtain ⟨c_B11,f_B11,l_B11⟩:=blk3 B11.out
    by_cases h1:gk=0
    case pos =>
     subst h1
     obtain rfl:k=m+1:=by omega
     have hkm:¬ (((m+1:Nat):Int))≤(m:Int):=by omega
     rw [HBC.out m (by omega)] at GS
     have HO2:Hid (OwnQ wr (wq.heap.size≤·) s2.v ((bcL p u v).take m)):=Hi (HO.out.mono (fun k hk h=>h.1))
     have hTk:Hid ((bcL p u v).take m ++ [bcV p u (v - u) m]=(bcL p u v).take (m+1)):=Hi (by
      have e:(bcL p u v).getD m 0=bcV p u (v - u) m:=by unfold bcL;exact row_at _ (by rw [HPl.out];omega)
      rw [← e]
      exact take_snoc (by rw [HBL.out,HPl.out];omega))
     have hTl:((bcL p u v).take m).length≤8:=by rw [List.length_take];omega
     have HTL:=Hi hTl
     clear hTl
     go_upto_region 15 with (at_builtin;refine wpList_append_n rfl (.tmp 66) (.tmp 68) 22 Tryz.underlying22 rfl (wq.heap.size≤·) _ _ ⟨xn,xa,xl,xc,xb,xm,xd⟩ _ rfl HO2.out rfl GS.out (by have:=HTL.out;omega) (fun k hk=>by omega) ?_;intro s' y3 q1 q2 q3)
     have HX3:=Hi (Ext.mods HXq.out q2 (fun k h=>h))
     have HO3:Hid (OwnQ y3 (wq.heap.size≤·) s'.v ((bcL p u v).take (m+1))):=Hi (by rw [← hTk.out];exact q1)
     clear q1 q2 q3
     go_wp2
     go_roundg (gk - 1)
     case measure=>omega
     case rel=>exact ⟨m+1,s',rfl,by omega,by go_num,HX3.out,HO3.out⟩
    have hkm:(k:Int)≤(m:Int):=by omega
    have hQk:hq p u (v - u) j k=(hnV p u (v - u) j).getD k 0:=(hnV_at _ _ _ _ _).symm
    have HQk:=Hi hQk
    have ZB1:=Hi (bnd_sz (m:=m - k) (by omega) k (by omega))
    have ZB2:=Hi (bnd_sz (m:=N1 - k) (by have:=HN1.out;omega) k (by omega))
    have ZC:=Hi (HCZ.out m (by omega) k (by omega))
    have HSt:Hid (cfS p u (v - u) m (k+1)=cfS p u (v - u) m k+hq p u (v - u) j k * (bnd (m - k) k / bnd (N1 - k) k)):=Hi (by
     show sm (k+1) _=_
     simp only [sm]
     rw [HPl.out,show j - 1=N1 by have:=HN1.out;omega]
     unfold cfS
     rw [HPl.out,show j - 1=N1 by have:=HN1.out;omega])
    have hmk:((m:Nat):Int)=((m - k:Nat):Int)+k:=by omega
    have hnk:((N1:Nat):Int)=((N1 - k:Nat):Int)+k:=by have:=HN1.out;omega
    have LQ:=Hi (LO.out.ext HXq.out)
    have zc:k * (4000+40)+1≤36000:=by omega
    clear hQk
    go_upto_region 20 with fail
    refine wp_region_front 13 (fun opIx=>match opIx with
     | 3=>.spec RH default RH.v (fun s w'=>CanR w' s (hq p u (v - u) j k))
     | 6=>.spec RH default RH.v (fun s w'=>CanR w' s (bnd (m - k) k))
     | 9=>.spec RH default RH.v (fun s w'=>CanR w' s (bnd (N1 - k) k))
     | 10=>.spec RH default RH.v (fun s w'=>CanR w' s (bnd (m - k) k / bnd (N1 - k) k))
     | 11=>.spec RH default RH.v (fun s w'=>CanR w' s (hq p u (v - u) j k * (bnd (m - k) k / bnd (N1 - k) k)))
     | 12=>.spec RH default RH.v (fun s w'=>CanR w' s (cfS p u (v - u) m (k+1)))
     | _=>.quiet) (fun | 10=>[6,9] | 11=>[3,10] | 12=>[11] | _=>[]) (by kernel_rfl) (by kernel_rfl) (fun w0 he0 hz0 hc0 hf0=>?_)
    replace he0:=Hi he0
    simp only [pT]
    repeat (refine wpq fun K h=>?_;go_big_quiet_op;refine h _ ?_;clear h K)
    refine wps he0.out rfl rfl (fun w1 hW hG=>?_) fun x60=>?_
    ·exact spc [.slice qa qn qc,.int .i64 (k:Nat)] Tryz.func117 ((by rw [HQk.out];exact at5_any qa qn qc _ k _ ((LQ.out.ext hW).raw HQF.out.sz (by decide)) (by omega)))
    simp only [pS]
    repeat (refine wpq fun K h=>?_;go_big_quiet_op;refine h _ ?_;clear h K)
    refine wps he0.out rfl rfl (fun w1 hW hG=>?_) fun x61=>?_
    ·exact spc [.int .i64 (m:Nat),.int .i64 (k:Nat)] Tryz.func119 (binom_any (m - k) k (m:Nat) _ (by omega) (by omega) hmk)
    simp only [pS]
    repeat (refine wpq fun K h=>?_;go_big_quiet_op;refine h _ ?_;clear h K)
    refine wps he0.out rfl rfl (fun w1 hW hG=>?_) fun x62=>?_
    ·exact spc [.int .i64 (N1:Nat),.int .i64 (k:Nat)] Tryz.func119 (binom_any (N1 - k) k (N1:Nat) _ (by have:=HN1.out;omega) (by omega) hnk)
    simp only [pS]
    repeat (refine wpq fun K h=>?_;go_big_quiet_op;refine h _ ?_;clear h K)
    refine wps he0.out rfl rfl (fun w1 hW hG=>?_) fun x63=>?_
    ·have g61:=(hG 6 (by decide):Since _ _).get fun _ e g=>g.ext e
     have g62:=(hG 9 (by decide):Since _ _).get fun _ e g=>g.ext e
     exact spc [x61.v,x62.v] Tryz.func118 (rover3_any x61 x62 _ _ _ (g61.raw ZB1.out (by omega)) (g62.raw ZB2.out (by omega)))
    simp only [pS]
    repeat (refine wpq fun K h=>?_;go_big_quiet_op;refine h _ ?_;clear h K)
    refine wps he0.out rfl rfl (fun w1 hW hG=>?_) fun x64=>?_
    ·have g60:=(hG 3 (by decide):Since _ _).get fun _ e g=>g.ext e
     have g63:=(hG 10 (by decide):Since _ _).get fun _ e g=>g.ext e
     exact spc [x60.v,x63.v] Tryz.func38 (rmul3_any x60 x63 _ _ _ (g60.raw (HQZ.out k) (by decide)) (g63.raw (ZB1.out.div ZB2.out) (by omega)))
    simp only [pS]
    repeat (refine wpq fun K h=>?_;go_big_quiet_op;refine h _ ?_;clear h K)
    refine wps he0.out rfl rfl (fun w1 hW hG=>?_) fun x65=>?_
    ·have g64:=(hG 11 (by decide):Since _ _).get fun _ e g=>g.ext e
     exact spc [RH.v ⟨xn,xa,xl,xc,xb,xm,xd⟩,x64.v] Tryz.func30 ((by rw [HSt.out];exact radd3_any _ x64 _ _ _ ((GS.out.ext hW).raw ZC.out (by omega)) (g64.raw ((HQZ.out k).mul (ZB1.out.div ZB2.out)) (by omega))))
    simp only [pS]
    repeat (refine wpq fun K h=>?_;go_big_quiet_op;refine h _ ?_;clear h K)
    refine wpF_nil ?_
    intro w49 hI
    have hE:=he0.out.trans hI.ext
    have G60:=Hi ((hI.facts 3:Since _ _).get fun _ e g=>g.ext e)
    have G61:=Hi ((hI.facts 6:Since _ _).get fun _ e g=>g.ext e)
    have G62:=Hi ((hI.facts 9:Since _ _).get fun _ e g=>g.ext e)
    have G63:=Hi ((hI.facts 10:Since _ _).get fun _ e g=>g.ext e)
    have G64:=Hi ((hI.facts 11:Since _ _).get fun _ e g=>g.ext e)
    have G65:=Hi ((hI.facts 12:Since _ _).get fun _ e g=>g.ext e)
    clear hI he0 hz0 hc0 hf0
    replace HXq:=hE.tr HXq
    replace HO:=Hi (HO.out.ext hE)
    replace B11:=hE.bl B11
    replace GS:=Hi (GS.out.ext hE)
    have hs_w49:=hE.size
    clear hE
    try clear c_B11 f_B11 l_B11
    obtain ⟨c_B11,f_B11,l_B11⟩:=blk3 B11.out
    simp only [pD]
    clear hmk hnk
    go_upto_region 19 with fail
    refine nm_set3 B11.out rfl ?_
    intro w50 T
    replace HXq:=Hi (T.ext HXq.out (by omega))
    replace HO:=Hi (HO.out.put T (by intro h;(try dsimp only at h);omega))
    replace B11:=Hi (T.bx)
    replace GS:=Hi (GS.out.keep T.keep)
    replace G60:=Hi (G60.out.keep T.keep)
    replace G61:=Hi (G61.out.keep T.keep)
    replace G62:=Hi (G62.out.keep T.keep)
    replace G63:=Hi (G63.out.keep T.keep)
    replace G64:=Hi (G64.out.keep T.keep)
    replace G65:=Hi (G65.out.keep T.keep)
    have hs_w50:=nle T.size
    have hr_w50:=nle T.size.symm
    clear T
    try clear c_B11 f_B11 l_B11
    obtain ⟨c_B11,f_B11,l_B11⟩:=blk3 B11.out
    go_wp2
    go_roundg (gk - 1)
    case measure=>omega
    case rel=>exact ⟨k+1,x65,by omega,by go_num,HXq.out,HO.out,B11.out,G65.out⟩
end Go.Proofs.YtpieblkklbilgaaGreat
