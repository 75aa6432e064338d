/- remainders of package sturm. -/
import Derived.Test.YtcbgamclcgcodaaGreatQYSt4
import Derived.Test.YtcbgamclcgcodaaGreatQYSt5
import Derived.Test.YtcbgamclcgcodaaGreatQYDer
import Derived.Test.YtcbgamclcgcodaaGreatQYOl
set_option linter.unusedVariables false
namespace Go.Proofs.YtcbgamclcgcodaaGreat
open Go.RowKit Go.Front Go.Num Stab Sg
attribute [local go_sem] XW.cell XW.frozen
theorem RowC.lin {w:World} {L n c:Nat} {os:List Rat} (h:RowC w L os) (hn:n≤os.length) (hc:os.length≤c) (hm:c≤9223372036854775807):LIn w ⟨some ⟨L,0,none⟩,n,c⟩ (os.take n) L (L + 1):=by
 have h1:LIn w ⟨some ⟨L,0,none⟩,os.length,c⟩ os L (L + 1):=by
  obtain ⟨rs,h2,h3⟩:=h.can rfl hc hm
  exact ⟨rs,h2,h3,Or.inr ⟨L,0,rfl,Nat.le_refl _,Nat.lt_succ_self _⟩⟩
 exact h1.take hn
theorem NewRow.lin {B:Nat} {w:World} {x:SH} {os:List Rat} (h:NewRow B w x os) (hl:os.length≤9223372036854775807):∃ L,B≤L∧L < w.heap.size∧x = ⟨some ⟨L,0,none⟩,os.length,os.length⟩∧LIn w x os L (L + 1):=by
 obtain ⟨L,h1,rfl,h2⟩:=h
 refine ⟨L,h1,h2.lt,rfl,?_⟩
 have:=h2.lin (n:=os.length) (c:=os.length) (Nat.le_refl _) (Nat.le_refl _) hl
 rwa [List.take_of_length_le (Nat.le_refl _)] at this
theorem derL_fr {S D:Nat} {p:List Rat} (hf:∀ x ∈ p,Fr S D x) (hl:p.length≤100000):∀ x ∈ tz (derL p),Fr (S + 1) D x:=by
 intro x hx
 obtain ⟨i,hi,rfl⟩:=mem_getD hx
 rw [tz_getD']
 have h1:=seq_derL p i
 unfold seq at h1
 rw [h1]
 by_cases h2:i + 1 < p.length
 ·obtain ⟨w1,w2⟩:=hf _ (getD_mem h2)
  obtain ⟨z,hz⟩:=Wh.iff.1 w1
  rw [hz,Rat.num_intCast] at w2
  refine Fr.int (z:=((i + 1:Nat):Int) * z) ?_ (by rw [Rat.mul_assoc,hz]; exact_mod_cast rfl)
  rw [Int.natAbs_mul,Int.natAbs_natCast,Nat.pow_succ,Nat.mul_comm]
  exact Nat.mul_lt_mul'' w2 (by show _ < 4294967296; omega)
 ·rw [pd_over (by omega)]
  rw [Rat.mul_zero]
  exact Fr.zero _ _
theorem rems_start {S D:Nat} {p:List Rat} (hS:1≤S) (hD:0 < D) (hf:∀ x ∈ p,Fr S D x) (hl:p.length≤1000) (h0:tz p ≠ []) {K:Nat} (hK:(S + 2) * 3 ^ p.length≤K):RmI K (splL p) (splL (tz (derL p))) (S + 1):=by
 obtain ⟨n,hn⟩:∃ n,(tz p).length = n + 1:=⟨(tz p).length - 1,by have:=List.length_pos_iff.2 h0; omega⟩
 have hd:=der_len p n hn
 have hp:=tz_len_le p
 have hb:(splL (tz (derL p))).length = (tz (derL p)).length:=by rw [spl_len,tz_idem]
 have ha:(splL p).length = n + 1:=by rw [spl_len,hn]
 have hft:∀ x ∈ tz p,Fr S D x:=fun x hx=>by
  obtain ⟨i,hi,rfl⟩:=mem_getD hx
  rw [tz_getD']
  exact hf _ (getD_mem (by omega))
 refine ⟨spl_tz _,spl_tz _,fun x hx=>(spl_wz hft hD x hx).mono (by omega),fun x hx=>spl_wz (fun y hy=>derL_fr hf (by omega) y (by rwa [tz_idem] at hy)) hD x hx,by omega,?_,Or.inr (by omega),by omega,by omega⟩
 refine Nat.le_trans (Nat.mul_le_mul_left _ (Nat.pow_le_pow_right (by decide) ?_)) hK
 omega
theorem spl_tzr (p:List Rat):splL (tz p) = splL p:=by unfold splL splM; rw [tz_idem]
theorem srem_q (pa qa:Option Addr) (P pc Q qc:Nat) (p q:List Rat) (S U:Nat) (w:World) (hp:CanL w ⟨pa,P,pc⟩ p) (hq:CanL w ⟨qa,Q,qc⟩ q) (hpw:∀ x ∈ p,Wz S x) (hqw:∀ x ∈ q,Wz U x) (hS:1≤S) (hU:1≤U) (htp:tz p = p) (htq:tz q = q) (hP:P≤100000) (hQ:0 < Q) (hQP:Q≤P) (hsz:S + (P + 1 - Q) * (U + 1)≤30000000) (hUz:U≤30000000) :
  Does 229 [.slice pa P pc,.slice qa Q qc] w SH.v (fun x w'=>SrP p q S U w.heap.size x w'):=by
 obtain ⟨m,rfl⟩:∃ m,Q = m + 1:=⟨Q - 1,by omega⟩
 exact srem_any pa qa P pc m qc p q S U w hp hq hpw hqw hS hU htp htq hP (by omega) (by rw [show P + 1 - (m + 1) = P - m by omega] at hsz; exact hsz) hUz
structure RmL (w wr:World) (p:List Rat) (K b2:Nat) (xl xa xb:SH) (a b:List Rat):Prop where
 hx:Ext w wr
 hB2:wr.heap[b2]? = some (.cells #[.slice none 0 0] 129 (0,0))
 ex:∃ (fuel X B ba bb:Nat) (ps:List (List Rat)),w.heap.size≤B∧b2 ≠ B∧ba ≠ B∧bb ≠ B∧ba < wr.heap.size∧bb < wr.heap.size∧b2 < ba∧b2 < bb∧LIn wr xa a ba (ba + 1)∧LIn wr xb b bb (bb + 1)∧ChM wr (b2 + 1) B xl.v ps∧RmI K a b X∧a.length < fuel∧ps ++ chn fuel a b = remsV p∧(∀ m ∈ ps,∀ y ∈ m,Wz K y)∧ps.length + a.length≤2000
abbrev CV (x:SH):Value:=.agg #[x.v]
set_option maxRecDepth 8000 in
set_option maxHeartbeats 8000000 in
theorem srems_any (pa:Option Addr) (P pc:Nat) (p:List Rat) (S D K:Nat) (w:World) (h:CanL w ⟨pa,P,pc⟩ p) (hP:P≤1000) (h0:tz p ≠ []) (hS:1≤S) (hD:0 < D) (hD2:D < W32 ^ S) (hf:∀ x ∈ p,Fr S D x) (hK:(S + 2) * 3 ^ P≤K) (hK2:K≤16777216) :
  Does 189 [.slice pa P pc] w CV (fun x w'=>(∃ B,w.heap.size≤B∧ChM w' w.heap.size B x.v (remsV p))∧∀ m ∈ remsV p,∀ y ∈ m,Wz K y):=by
 have LP:=Hi h.lin
 have HX:=Hi (Ext.refl w)
 have HPl:Hid (p.length = P):=Hi h.len
 have HF:=Hi hf
 have HI0:Hid (RmI K (splL p) (splL (tz (derL p))) (S + 1)):=Hi (rems_start hS hD hf (by have:=h.len; simp only at this; omega) h0 (by have:=h.len; simp only at this; rw [this]; exact hK))
 have hSK:S + 2≤K:=by have:=HI0.out.small; omega
 have HSz:Hid (SzL S p):=Hi (fr_all_sz hS hD hD2 hf)
 have HDF:Hid (∀ x ∈ tz (derL p),Fr (S + 1) D x):=Hi (derL_fr hf (by have:=h.len; simp only at this; omega))
 have hD3:D < W32 ^ (S + 1):=Nat.lt_of_lt_of_le hD2 (Nat.pow_le_pow_right W32_pos (by omega))
 clear h hf
 unfold Does
 go_enter Tryz.func189,Tryz.ntmps189
 go_upto_region 1 with fail
 refine nm_alloc ?_
 intro w1 hE hB0 hz
 have hz_w1:=nle hz
 have hr_w1:=nle hz.symm
 clear hz
 replace HX:=hE.tr HX
 replace LP:=Hi (LP.out.ext hE)
 have hs_w1:=hE.size
 clear hE
 have B2:=Hi hB0
 clear hB0
 obtain ⟨c_B2,f_B2,l_B2⟩:=blk3 B2.out
 go_wp2_with fail
 refine Calls.mono (sprim_any pa P pc p S D _ LP.out.can (by omega) hS (by omega) hD hD2 HF.out) ?_
 rintro e w2 ⟨x2,rfl,hE,g2⟩
 have G2:=Hi g2
 clear g2
 replace HX:=hE.tr HX
 replace LP:=Hi (LP.out.ext hE)
 replace B2:=hE.bl B2
 have hs_w2:=hE.size
 clear hE
 try clear c_B2 f_B2 l_B2
 obtain ⟨c_B2,f_B2,l_B2⟩:=blk3 B2.out
 obtain ⟨La,hLa,hLa2,hxa,hra⟩:=NewRow.lin G2.out (by rw [spl_len]; have:=tz_len_le p; have:=HPl.out; omega)
 subst hxa
 have HA:=Hi hra
 clear hra G2
 go_wp2_with fail
 refine Calls.mono (pder_any pa P pc p _ (LP.out.can.raw HSz.out (by omega)) (by omega) (HSz.out.mono (by omega))) ?_
 rintro e w3 ⟨x3,rfl,hE,g3⟩
 have G3:=Hi g3
 clear g3
 replace HX:=hE.tr HX
 replace LP:=Hi (LP.out.ext hE)
 replace B2:=hE.bl B2
 replace HA:=Hi (HA.out.ext hE)
 have hs_w3:=hE.size
 clear hE
 try clear c_B2 f_B2 l_B2
 obtain ⟨c_B2,f_B2,l_B2⟩:=blk3 B2.out
 obtain ⟨da,dn,dc⟩:=x3
 have HD3:Hid (LIn w3 ⟨da,dn,dc⟩ (tz (derL p)) w2.heap.size w3.heap.size):=Hi G3.out
 clear G3
 go_wp2_with fail
 refine Calls.mono (sprim_any da dn dc (tz (derL p)) (S + 1) D _ HD3.out.can (by have h2:=HD3.out.can.len; have h3:=HI0.out.2.2.2.2.2.2.2.2; rw [spl_len,tz_idem] at h3; simp only at h2; omega) (by omega) (by omega) hD hD3 HDF.out) ?_
 rintro e w4 ⟨x4,rfl,hE,g4⟩
 have G4:=Hi g4
 clear g4
 replace HX:=hE.tr HX
 replace LP:=Hi (LP.out.ext hE)
 replace B2:=hE.bl B2
 replace HA:=Hi (HA.out.ext hE)
 replace HD3:=Hi (HD3.out.ext hE)
 have hs_w4:=hE.size
 clear hE
 try clear c_B2 f_B2 l_B2
 obtain ⟨c_B2,f_B2,l_B2⟩:=blk3 B2.out
 obtain ⟨Lb,hLb,hLb2,hxb,hrb⟩:=NewRow.lin G4.out (by have h3:=HI0.out.2.2.2.2.2.2.2.2; omega)
 subst hxb
 have HB:=Hi hrb
 clear hrb G4
 rw [spl_tzr] at *
 obtain ⟨B0,hB0⟩:∃ B0,B0 = w4.heap.size:=⟨_,rfl⟩
 have hb2w:w.heap.size < w1.heap.size:=by omega
 obtain ⟨b2,hb2⟩:∃ b2,b2 = w.heap.size:=⟨_,rfl⟩
 rw [← hb2] at B2 ⊢
 have hb2l:b2 < w1.heap.size:=by omega
 have hb2g:w.heap.size≤b2:=by omega
 clear hb2 c_B2 f_B2 l_B2
 have hlen0:(splL p).length≤1000:=by rw [spl_len]; have:=tz_len_le p; have:=HPl.out; omega
 go_wp2
 go_loopg [3,4,5] (splL p).length (fun g vl va vb wr=>∃ (xl xa xb:SH) (a b:List Rat),vl = xl.v∧va = xa.v∧vb = xb.v∧a.length = g∧RmL w wr p K b2 xl xa xb a b)
 case atStart =>
  refine ⟨⟨none,0,0⟩,_,_,splL p,splL (derL p),rfl,rfl,rfl,rfl,HX.out,B2.out,p.length + 1,S + 1,w4.heap.size,La,Lb,[],by omega,by omega,by omega,by omega,by omega,by omega,by omega,by omega,HA.out,HB.out,ChM.nil _ _ _,HI0.out,?_,rfl,fun m hm=>by simp at hm,by simp; omega⟩
  rw [spl_len]; have:=tz_len_le p; omega
 case round =>
  obtain ⟨xl,xa,xb,a,b,rfl,rfl,rfl,hag,g1,g2,fuel,X,B,ba,bb,ps,g3,g4,g5,g6,g7,g8,g9,g10,g11,g12,g13,g14,g15,g16,g17,g18⟩:=hrel
  clear HX B2 HA HB LP HD3
  have HX:=Hi g1
  have B2:=Hi g2
  have HA:=Hi g11
  have HB:=Hi g12
  have HC:=Hi g13
  have HI:=Hi g14
  have HE:=Hi g16
  have HW:=Hi g17
  have hxa:=g11.len
  have hxb:=g12.len
  obtain ⟨aa,an,ac⟩:=xa
  obtain ⟨xba,bn,bc⟩:=xb
  simp only at hxa hxb
  subst hxa hxb hag
  clear g1 g2 g11 g12 g13 g14 g16 g17
  have hb2r:b2 < wr.heap.size:=(Array.getElem?_eq_some_iff.1 B2.out).1
  try clear c_B2 f_B2 l_B2
  obtain ⟨c_B2,f_B2,l_B2⟩:=blk3 B2.out
  by_cases h0:a.length = 0
  case pos =>
   have ha0:a = []:=List.length_eq_zero_iff.1 h0
   subst ha0
   have HV:Hid (ps = remsV p):=Hi (by
    have h1:=HE.out
    obtain ⟨f2,rfl⟩:∃ f2,fuel = f2 + 1:=⟨fuel - 1,by omega⟩
    rw [show chn (f2 + 1) [] b = [] by simp [chn]] at h1
    simpa using h1)
   go_wp2
   refine nm_set1 (F:=fun W=>bodyPost _ _ _ _ _ W) B2.out rfl ?_
   intro y9 T
   replace HX:=Hi (T.ext HX.out (by omega))
   replace B2:=Hi (T.bx)
   replace HC:=Hi (HC.out.put T (by omega))
   have hs_y9:=nle T.size
   have hr_y9:=nle T.size.symm
   clear T
   try clear c_B2 f_B2 l_B2
   obtain ⟨c_B2,f_B2,l_B2⟩:=blk3 B2.out
   exact bodyPost_ret (v:=CV xl) (by simp [results,Tryz.results189,go_sem,CV,c_B2]) rfl
    ⟨xl,rfl,HX.out,⟨B,g3,by rw [← HV.out]; exact HC.out.mono (by omega)⟩,by rw [← HV.out]; exact HW.out⟩
  have ha0:(0:Int) < a.length:=by omega
  go_upto_region 5 with (at_builtin; refine wpList_append_ch rfl (.tmp 16) (.tmp 18) 127 Tryz.underlying127 rfl (b2 + 1) B _ ps ⟨aa,a.length,ac⟩ a ba rfl HC.out HA.out g5 (by omega) g7 rfl (by omega) ?_; intro L cap y1 q1 q2 q3 q4)
  have HX2:=Hi (q2.ext HX.out g3)
  have B22:=Hi (q2.rest b2 _ g4 B2.out)
  have HA2:=Hi (HA.out.mut q2 (by omega))
  have HB2:=Hi (HB.out.mut q2 (by omega))
  have HC2:=Hi q1
  have hyr:=q2.size
  have hLg:w.heap.size≤L:=by omega
  have hLb2:b2 ≠ L:=by omega
  have hLa:ba ≠ L:=by omega
  have hLb:bb ≠ L:=by omega
  clear q1 q2 q3 HX B2 HA HB HC c_B2 f_B2 l_B2
  have HX:=HX2
  have B2:=B22
  have HA:=HA2
  have HB:=HB2
  have HC:=HC2
  clear HX2 B22 HA2 HB2 HC2
  have hb2r:b2 < y1.heap.size:=by omega
  have HAK:Hid (∀ m ∈ ps ++ [a],∀ y ∈ m,Wz K y):=Hi (fun m hm y hy=>by
   rcases List.mem_append.1 hm with hm | hm
   ·exact HW.out m hm y hy
   ·obtain rfl:m = a:=by simpa using hm
    exact (HI.out.2.2.1 y hy).mono (by have:=HI.out.small; omega))
  obtain ⟨f2,rfl⟩:∃ f2,fuel = f2 + 1:=⟨fuel - 1,by omega⟩
  have Ha:Hid (a ≠ []):=Hi (fun h=>h0 (by rw [h]; rfl))
  try clear c_B2 f_B2 l_B2
  obtain ⟨c_B2,f_B2,l_B2⟩:=blk3 B2.out
  by_cases hb0:b.length = 0
  case pos =>
   have hb1:b = []:=List.length_eq_zero_iff.1 hb0
   subst hb1
   have HV:Hid (ps ++ [a] = remsV p):=Hi (by
    have h1:=HE.out
    rw [chn_nil Ha.out] at h1
    exact h1)
   go_wp2
   refine nm_set1 (F:=fun W=>bodyPost _ _ _ _ _ W) B2.out rfl ?_
   intro y9 T
   replace HX:=Hi (T.ext HX.out (by omega))
   replace B2:=Hi (T.bx)
   replace HA:=Hi (HA.out.put T (by omega))
   replace HB:=Hi (HB.out.put T (by omega))
   replace HC:=Hi (HC.out.put T (by omega))
   have hs_y9:=nle T.size
   have hr_y9:=nle T.size.symm
   clear T
   try clear c_B2 f_B2 l_B2
   obtain ⟨c_B2,f_B2,l_B2⟩:=blk3 B2.out
   exact bodyPost_ret (v:=CV ⟨some ⟨L,0,none⟩,ps.length + 1,cap⟩) (by simp [results,Tryz.results189,go_sem,CV,c_B2]) rfl
    ⟨⟨some ⟨L,0,none⟩,ps.length + 1,cap⟩,rfl,HX.out,⟨L,hLg,by rw [← HV.out]; exact HC.out.mono (by omega)⟩,by rw [← HV.out]; exact HAK.out⟩
  have hb1:((b.length:Int) == 0) = false:=by rw [beq_eq_false_iff_ne]; omega
  have Hb:Hid (b ≠ []):=Hi (fun h=>hb0 (by rw [h]; rfl))
  have hba:b.length < a.length:=by
   rcases HI.out.2.2.2.2.2.2.1 with h | h
   ·exact absurd h Ha.out
   ·exact h
  have hXK:X + (a.length + 1 - b.length) * (X + 1)≤K:=HI.out.size Hb.out
  have hX1:1≤X:=HI.out.2.2.2.2.1
  have hal:a.length≤100000:=HI.out.2.2.2.2.2.2.2.1
  have HX0:=HX
  have HA0:=HA
  have HB0:=HB
  have HC0:=HC
  have B20:=B2
  have HX7:=Hi (Ext.refl y1)
  clear HX
  clear HA
  clear HB
  clear HC
  (try clear c_B2 f_B2 l_B2); clear B2
  go_wp2_with fail
  refine Calls.mono (srem_q aa xba a.length ac b.length bc a b X X _ HA0.out.can HB0.out.can HI.out.2.2.1 HI.out.2.2.2.1 hX1 hX1 HI.out.1 HI.out.2.1 hal (by omega) (by omega) (by omega) (by omega)) ?_
  rintro e w6 ⟨x6,rfl,hE,g6⟩
  have G6:=Hi g6
  clear g6
  replace HX7:=hE.tr HX7
  have hs_w6:=hE.size
  clear hE
  obtain ⟨Lr,n,c,ros,sq,f,hLr,hx6,hros,hnr,hrc,hcm,hf0,hd⟩:=G6.out
  subst hx6
  have HR:=Hi hros
  have HD:=Hi hd
  have HF0:=Hi hf0
  clear G6 hros hd hf0
  have hLy:y1.heap.size≤Lr:=hLr
  have HRW:Hid (∀ k,k < n→Wz (X + (a.length + 1 - b.length) * (X + 1)) (ros.getD k 0)):=Hi (fun k hk=>by
   have h1:=HD.out.2.2.2.1 _ (getD_mem (i:=k) (l:=ros.take n) (by rw [List.length_take]; omega))
   rwa [getD_take hk] at h1)
  go_wp2
  go_loopg [28] n (fun g v wr=>∃ (i:Nat),i + g = n∧v = .int .i64 (i:Nat)∧Ext y1 wr∧RowC wr Lr (mulR ros i (-1)))
  case atStart=>exact ⟨0,by omega,rfl,HX7.out,by simpa [mulR] using HR.out⟩
  case round =>
   obtain ⟨i,hi,rfl,g1,g2⟩:=hrel
   clear HX7 HR
   have HX7:=Hi g1
   have HR:=Hi g2
   have hyw:=g1.size
   clear g1 g2
   (try simp only [SH.v])
   by_cases h1:gk = 0
   case neg =>
    have hin:(i:Int) < n:=by omega
    have HV:Hid ((mulR ros i (-1)).getD i 0 = ros.getD i 0):=Hi (by
     unfold mulR
     have h1:((ros.take i).map (· * (-1))).length = i:=by rw [List.length_map,List.length_take]; omega
     rw [List.getD_eq_getElem?_getD,List.getElem?_append_right (by omega),h1,Nat.sub_self,List.getElem?_drop,Nat.add_zero,← List.getD_eq_getElem?_getD])
    obtain ⟨r,⟨f1,f2,f3⟩,hrc'⟩:=RowC.cells HR.out (k:=i) (by rw [mulR_len]; omega)
    rw [HV.out] at hrc'
    have HRC:=Hi hrc'
    clear hrc'
    have hfz:=RowC.frozen HR.out
    have hLl:=RowC.lt HR.out
    obtain ⟨ren,rea,rel,rec',reb,rem,red⟩:=r
    simp only at f1 f2 f3
    go_wp2_with fail
    refine Calls.mono (rneg_any ⟨ren,rea,rel,rec',reb,rem,red⟩ (ros.getD i 0) _ (HRC.out.raw ((HRW.out i (by omega)).sz (by omega)) (by omega))) ?_
    rintro e w8 ⟨x8,rfl,hE,g8⟩
    have G8:=Hi g8
    clear g8
    replace HX7:=hE.tr HX7
    replace HR:=Hi (HR.out.ext hE)
    replace HRC:=Hi (HRC.out.ext hE)
    have hs_w8:=hE.size
    clear hE
    clear f1 f2 f3 hfz hLl
    clear HRC
    obtain ⟨r2,⟨f1,f2,f3⟩,-⟩:=RowC.cells HR.out (k:=i) (by rw [mulR_len]; omega)
    have hfz:=RowC.frozen HR.out
    have hLl:=RowC.lt HR.out
    go_upto_region 11 with fail
    refine nm_row (k:=i) HR.out (by rw [mulR_len]; omega) G8.out ?_
    rintro y6 ⟨cs,T⟩ TN
    rw [show -ros.getD i 0 = ros.getD i 0 * (-1) by grind,mul_step (by omega)] at TN
    clear f1 f2 f3 hfz hLl HV
    clear G8
    clear HR
    replace HX7:=Hi (T.ext HX7.out (by omega))
    have hs_y6:=nle T.size
    have hr_y6:=nle T.size.symm
    clear T
    have HR:=Hi TN
    clear TN
    go_wp2
    go_roundg (gk - 1)
    case measure=>omega
    case rel=>exact ⟨i + 1,by omega,by go_num,HX7.out,HR.out⟩
   subst h1
   obtain rfl:i = n:=by omega
   have hin:¬ (i:Int) < i:=by omega
   have hib:i < b.length:=by have:=HD.out.2.2.2.2.2.1; rw [List.length_take] at this; omega
   have hbl:b.length≤100000:=by omega
   have HRN:Hid (CanL wr ⟨some ⟨Lr,0,none⟩,i,c⟩ ((ros.take i).map (· * (-1)))):=Hi (by
    rw [← mulR_take (-1) hnr]
    exact (HR.out.can (M:=ros.length) (mulR_len _ _ _) hrc hcm).take hnr)
   have HFR:Hid (∀ x ∈ (ros.take i).map (· * (-1)),Fr (X + (a.length + 1 - b.length) * (X + 1)) 1 x):=Hi (fun x hx=>by
    obtain ⟨y,hy,rfl⟩:=List.mem_map.1 hx
    rw [show y * (-1) = -y by grind]
    exact Fr.one (HD.out.2.2.2.1 y hy).neg)
   obtain ⟨hN,hI2⟩:=HI.out.next Hb.out HF0.out HD.out
   have HN:=Hi hN
   have HI2:=Hi hI2
   clear hN hI2
   go_wp2_with fail
   refine Calls.mono (sprim_any (some ⟨Lr,0,none⟩) i c ((ros.take i).map (· * (-1))) (X + (a.length + 1 - b.length) * (X + 1)) 1 _ HRN.out (by omega) (by omega) (by omega) (by decide) (Nat.one_lt_pow (by omega) (by decide)) HFR.out) ?_
   rintro e w9 ⟨x9,rfl,hE,g9⟩
   have G9:=Hi g9
   clear g9
   replace HX7:=hE.tr HX7
   replace HR:=Hi (HR.out.ext hE)
   have hs_w9:=hE.size
   clear hE
   obtain ⟨Ln,hLn,hLn2,hxn,hrn⟩:=NewRow.lin G9.out (by have:=HI2.out.2.2.2.2.2.2.2.2; omega)
   subst hxn
   have HNB:=Hi hrn
   clear hrn G9
   go_wp2
   go_roundg b.length
   case measure=>omega
   case rel =>
    refine ⟨⟨some ⟨L,0,none⟩,ps.length + 1,cap⟩,⟨xba,b.length,bc⟩,_,b,_,rfl,rfl,rfl,rfl,HX0.out.trans HX7.out,HX7.out.block B20.out,f2,_,L,bb,Ln,ps ++ [a],hLg,hLb2,hLb,by omega,by omega,hLn2,by omega,by omega,HB0.out.ext HX7.out,(by have h:=HNB.out; simp only [List.map_take] at h ⊢; exact h),HC0.out.ext HX7.out,(by have h:=HI2.out; simp only [List.map_take] at h ⊢; exact h),by omega,?_,HAK.out,by simp; omega⟩
    have hN:=HN.out
    simp only [List.map_take] at hN ⊢
    rw [hN,List.append_assoc,List.singleton_append,← chn_cons Ha.out Hb.out]
    exact HE.out
end Go.Proofs.YtcbgamclcgcodaaGreat
