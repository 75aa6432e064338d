/- signAfter of package sturm. -/
import Derived.Test.YtcbgamclcgcodaaGreatQYCnt
set_option linter.unusedVariables false
namespace Go.Proofs.YtcbgamclcgcodaaGreat
open Go.RowKit Go.Front Go.Num Stab Sg
attribute [local go_sem] XW.cell XW.frozen
theorem fr1_wz {S:Nat} {x:Rat} (h:Fr S 1 x):Wz S x:=by
 unfold Fr at h
 rw [show x * ((1:Nat):Rat) = x from Rat.mul_one x] at h
 exact h
theorem der_wz {S:Nat} {p:List Rat} (h:∀ x ∈ p,Wz S x) (hl:p.length≤100000):∀ x ∈ tz (derL p),Wz (S + 1) x:=fun x hx=>fr1_wz (derL_fr (D:=1) (fun y hy=>Fr.one (h y hy)) hl x hx)
theorem saf_nil (n:Nat) (x:Rat):safV n [] x = 0:=by cases n <;> simp [safV]
theorem saf_is:∀ (n:Nat) (p:List Rat) (x:Rat),IsS (safV n p x):=by
 intro n
 induction n with
 | zero=>intro p x; exact Or.inr (Or.inl rfl)
 | succ n ih =>
  intro p x
  unfold safV
  split
  ·exact Or.inr (Or.inl rfl)
  ·split
   ·exact sg_is _
   ·exact ih _ _
set_option maxRecDepth 8000 in
set_option maxHeartbeats 4000000 in
theorem ssaf_any (pa:Option Addr) (P pc:Nat) (p:List Rat) (t:RH) (x:Rat) (S T:Nat) (w:World) (h:CanL w ⟨pa,P,pc⟩ p) (hP:P≤900) (htz:tz p = p) (hW:∀ y ∈ p,Wz S y) (hS:1≤S) (hS2:S≤16770000) (ht:CanR w t x) (hx:Sz T x) (hT:1≤T) (hT3:T≤1000) :
  Does 115 [.slice pa P pc,t.v] w (fun _:Unit=>.int .i64 (safV (P + 1) p x)) (fun _ _=>True):=by
 obtain ⟨tn,ta,tl,tc,tb,tm,td⟩:=t
 have HX:=Hi (Ext.refl w)
 have LP:=Hi h.lin
 have HT:=Hi ht
 have ZX:=Hi hx
 have HW:=Hi hW
 have HTZ:=Hi htz
 have HLn:=Hi h.len
 simp only at HLn
 clear h ht hx hW htz
 unfold Does
 go_enter Tryz.func115,Tryz.ntmps115
 go_upto_region 1 with fail
 refine nm_alloc ?_
 intro w1 hE hB0 hz
 have hz_w1:=nle hz
 have hr_w1:=nle hz.symm
 clear hz
 replace HX:=hE.tr HX
 replace LP:=Hi (LP.out.ext hE)
 replace HT:=Hi (HT.out.ext hE)
 have hs_w1:=hE.size
 clear hE
 have B3:=Hi hB0
 clear hB0
 obtain ⟨c_B3,f_B3,l_B3⟩:=blk3 B3.out
 obtain ⟨b3,hb3⟩:∃ b,b = w.heap.size:=⟨_,rfl⟩
 have hw3:w.heap.size≤b3:=by omega
 rw [← hb3] at B3 ⊢
 clear hb3 c_B3 f_B3 l_B3
 go_wp2
 go_loopg [0] P (fun g v wr=>∃ (qa:Option Addr) (qn qc i:Nat) (q:List Rat),v = .slice qa qn qc∧Ext w wr∧CanL wr ⟨qa,qn,qc⟩ q∧CanR wr ⟨tn,ta,tl,tc,tb,tm,td⟩ x∧wr.heap[b3]? = some (.cells #[.bool tn,.slice ta tl tc,.slice tb tm td] 34 (0,0))∧tz q = q∧i + g = P∧qn≤g∧(∀ y ∈ q,Wz (S + i) y)∧safV (g + 1) q x = safV (P + 1) p x)
 case atStart=>exact ⟨pa,P,pc,0,p,rfl,HX.out,LP.out.can,HT.out,B3.out,HTZ.out,by omega,Nat.le_refl _,HW.out,rfl⟩
 case round =>
  obtain ⟨qa,qn,qc,i,q,rfl,g1,g2,g3,g4,g5,g6,g7,g8,g9⟩:=hrel
  clear HX LP HT B3
  have HX:=Hi g1
  have LQ:=Hi g2.lin
  have HT:=Hi g3
  have B3:=Hi g4
  have HQZ:=Hi g5
  have HQW:=Hi g8
  have HV:=Hi g9
  have HQl:=Hi g2.len
  simp only at HQl
  clear g1 g2 g3 g4 g5 g8 g9
  try clear c_B3 f_B3 l_B3
  obtain ⟨c_B3,f_B3,l_B3⟩:=blk3 B3.out
  by_cases h0:qn = 0
  case pos =>
   subst h0
   have HE:Hid (safV (P + 1) p x = 0):=Hi (by rw [← HV.out,List.length_eq_zero_iff.1 HQl.out,saf_nil])
   go_wp2
   go_ret
   exact ⟨(),by rw [HE.out]; rfl,HX.out,trivial⟩
  obtain ⟨m,rfl⟩:∃ m,qn = m + 1:=⟨qn - 1,by omega⟩
  have hpos:(0:Int) < (m:Int) + 1:=by omega
  have Hne:Hid (q ≠ []):=Hi (fun h=>by have:=HQl.out; rw [h] at this; simp at this)
  go_wp2_with fail
  refine Calls.mono (ssign_any qa (m + 1) qc q ⟨tn,ta,tl,tc,tb,tm,td⟩ x (S + i) T _ LQ.out.can HT.out (by omega) HQW.out ZX.out hT (by omega) (by omega) hT3) ?_
  rintro e w11 ⟨x11,rfl,hE,-⟩
  replace HX:=hE.tr HX
  replace LQ:=Hi (LQ.out.ext hE)
  replace HT:=Hi (HT.out.ext hE)
  replace B3:=hE.bl B3
  have hs_w11:=hE.size
  clear hE
  try clear c_B3 f_B3 l_B3
  obtain ⟨c_B3,f_B3,l_B3⟩:=blk3 B3.out
  obtain ⟨s,hs⟩:∃ s,s = Sg.sg (evV q x):=⟨_,rfl⟩
  have HS:=Hi hs
  rw [← hs]
  clear hs
  obtain ⟨g0,rfl⟩:∃ g0,gk = g0 + 1:=⟨gk - 1,by omega⟩
  have HST:Hid (safV (g0 + 1 + 1) q x = if s ≠ 0 then s else safV (g0 + 1) (tz (derL q)) x):=Hi (by
   rw [show safV (g0 + 1 + 1) q x = if q = [] then 0 else if Sg.sg (evV q x) ≠ 0 then Sg.sg (evV q x) else safV (g0 + 1) (tz (derL q)) x from rfl,if_neg Hne.out,← HS.out])
  by_cases hs0:s = 0
  case neg =>
   have hsb:(s == 0) = false:=by rw [beq_eq_false_iff_ne]; exact hs0
   have hsb2:(s != 0) = true:=by rw [bne,hsb]; rfl
   have HE:Hid (safV (P + 1) p x = s):=Hi (by rw [← HV.out,HST.out,if_pos hs0])
   go_wp2
   go_ret
   exact ⟨(),by rw [HE.out]; rfl,HX.out,trivial⟩
  have HE:Hid (safV (g0 + 1) (tz (derL q)) x = safV (P + 1) p x):=Hi (by rw [← HV.out,HST.out,if_neg (fun h=>h hs0)])
  subst hs0
  have HQ2:Hid ((tz (derL q)).length + 1≤m + 1):=Hi (by have:=derT_len (p:=q) (by rw [HQZ.out]; exact Hne.out); have:=HQl.out; omega)
  have HSZ:Hid (SzL 16777216 q):=Hi (fun y hy=>((HQW.out y hy).sz (by omega)).mono (by omega))
  go_wp2_with fail
  refine Calls.mono (pder_any qa (m + 1) qc q _ (LQ.out.can.raw HSZ.out (by omega)) (by omega) HSZ.out) ?_
  rintro e w16 ⟨x16,rfl,hE,g16⟩
  have G16:=Hi g16
  clear g16
  replace HX:=hE.tr HX
  replace LQ:=Hi (LQ.out.ext hE)
  replace HT:=Hi (HT.out.ext hE)
  replace B3:=hE.bl B3
  have hs_w16:=hE.size
  clear hE
  try clear c_B3 f_B3 l_B3
  obtain ⟨c_B3,f_B3,l_B3⟩:=blk3 B3.out
  obtain ⟨da,dn,dc⟩:=x16
  have HD:Hid (CanL w16 ⟨da,dn,dc⟩ (tz (derL q))):=Hi G16.out.can
  have hdn:=HD.out.len
  simp only at hdn
  have hd2:=HQ2.out
  simp only [SH.v]
  go_wp2
  go_roundg g0
  case measure=>omega
  case rel=>exact ⟨da,dn,dc,i + 1,_,rfl,HX.out,HD.out,HT.out,B3.out,tz_idem _,by omega,by omega,fun y hy=>(der_wz HQW.out (by have:=HQl.out; omega) y hy).mono (by omega),HE.out⟩
end Go.Proofs.YtcbgamclcgcodaaGreat
/- changes, Nonnegative, Positive of package sturm. -/
set_option linter.unusedVariables false
namespace Go.Proofs.YtcbgamclcgcodaaGreat
open Go.RowKit Go.Front Go.Num Stab Sg
attribute [local go_sem] XW.cell XW.frozen
def OkC (K:Nat):Nat→List Rat→Prop
 | 0,_=>True
 | n + 1,p=>FrK K p∧FrK K (sqfV p)∧OkC K n (gcdV p (derL p))
theorem gcd_lt {p:List Rat} (h:2≤(tz p).length):(gcdV p (derL p)).length < p.length:=by
 obtain ⟨n,hn⟩:∃ n,(tz p).length = n + 2:=⟨(tz p).length - 2,by omega⟩
 have h1:=der_ne hn
 have h2:=dv_len (gcd_spec p (derL p)).2.1 h1
 have h3:=der_len p (n + 1) hn
 rw [gcdV_tz] at h2
 have:=tz_len_le p
 omega
theorem btw_len {p:List Rat} {a b:Rat} (h0:tz p ≠ []) (h:btwV p a b ≠ 0):2≤(tz p).length:=by
 apply Classical.byContradiction
 intro hn
 have hl:(tz p).length = 1:=by have:=List.length_pos_iff.2 h0; omega
 apply h
 have h1:=der_len p 0 hl
 have h2:splL (derL p) = []:=spl_ne.2 (List.length_eq_zero_iff.1 (by omega))
 have h3:remsV p = [splL p]:=by
  unfold remsV
  rw [h2,chn_nil (fun h=>h0 (spl_ne.1 h))]
 have h4:rootV p = p:=by
  unfold rootV
  rw [h3]
  show (if 2≤(splL p).length then sqfV p else p) = p
  rw [if_neg (by rw [spl_len]; omega)]
 have h5:∀ x,varV [splL p] x = 0:=fun x=>by
  unfold varV
  simp [vr]
 have h6:rtV (remsV (rootV p)) b = false:=by
  cases e:rtV (remsV (rootV p)) b with
  | false=>rfl
  | true =>
   have h7:=(rtV_iff h0 b).1 e
   obtain ⟨y,hy⟩:=ne_ex h0
   rw [len_one (by omega)] at h7 hy
   exact absurd h7 hy
 unfold btwV
 rw [h6,h4,h3,h5,h5,if_neg (by simp)]
 rfl
set_option maxRecDepth 8000 in
set_option maxHeartbeats 8000000 in
theorem schg_any (pa:Option Addr) (P pc:Nat) (p:List Rat) (K:Nat) (s t:RH) (a b:Rat) (T:Nat) (w:World) (h:CanL w ⟨pa,P,pc⟩ p) (hP:P≤49) (h0:tz p ≠ []) (hok:OkC K (2 * (P + 1)) p) (hK:K≤12000000) (hK2:(P + 1) * (K / 3)≤25000000)
  (hs:CanR w s a) (ht:CanR w t b) (za:Sz T a) (zb:Sz T b) (hT:1≤T) (hT3:T≤1000) :
  Does 116 [.slice pa P pc,IvV (s,t)] w (fun _:Unit=>.bool (chgV (P + 1) p a b)) (fun _ _=>True):=by
 obtain ⟨sn,sa,sl,sc,sb,sm,sd⟩:=s
 obtain ⟨tn,ta,tl,tc,tb,tm,td⟩:=t
 have HX:=Hi (Ext.refl w)
 have LP:=Hi h.lin
 have HS:=Hi hs
 have HT:=Hi ht
 have ZA:=Hi za
 have ZB:=Hi zb
 have H0:=Hi h0
 have HOK:=Hi hok
 have HLn:=Hi h.len
 simp only at HLn
 clear h hs ht za zb h0 hok
 unfold Does
 go_enter Tryz.func116,Tryz.ntmps116
 go_upto_region 1 with fail
 refine nm_alloc ?_
 intro w1 hE hB0 hz
 have hz_w1:=nle hz
 have hr_w1:=nle hz.symm
 clear hz
 replace HX:=hE.tr HX
 replace LP:=Hi (LP.out.ext hE)
 replace HS:=Hi (HS.out.ext hE)
 replace HT:=Hi (HT.out.ext hE)
 have hs_w1:=hE.size
 clear hE
 have B3:=Hi hB0
 clear hB0
 obtain ⟨c_B3,f_B3,l_B3⟩:=blk3 B3.out
 obtain ⟨b3,hb3⟩:∃ b,b = w.heap.size:=⟨_,rfl⟩
 have hw3:w.heap.size≤b3:=by omega
 rw [← hb3] at B3 ⊢
 clear hb3 c_B3 f_B3 l_B3
 go_wp2
 go_loopg [0] (P + 1) (fun g v wr=>∃ (qa:Option Addr) (qn qc:Nat) (q:List Rat),v = .slice qa qn qc∧Ext w wr∧CanL wr ⟨qa,qn,qc⟩ q∧CanR wr ⟨sn,sa,sl,sc,sb,sm,sd⟩ a∧CanR wr ⟨tn,ta,tl,tc,tb,tm,td⟩ b∧wr.heap[b3]? = some (.cells #[.bool sn,.slice sa sl sc,.slice sb sm sd,.bool tn,.slice ta tl tc,.slice tb tm td] 38 (0,0))∧tz q ≠ []∧qn + 1≤g∧qn≤P∧OkC K (2 * g) q∧chgV g q a b = chgV (P + 1) p a b)
 case atStart=>exact ⟨pa,P,pc,p,rfl,HX.out,LP.out.can,HS.out,HT.out,B3.out,H0.out,Nat.le_refl _,Nat.le_refl _,HOK.out,rfl⟩
 case round =>
  obtain ⟨qa,qn,qc,q,rfl,g1,g2,g3,g4,g5,g6,g7,g8,g9,g10⟩:=hrel
  clear HX LP HS HT B3
  have HX:=Hi g1
  have LQ:=Hi g2.lin
  have HS:=Hi g3
  have HT:=Hi g4
  have B3:=Hi g5
  have HQ0:=Hi g6
  have HQl:=Hi g2.len
  simp only at HQl
  obtain ⟨g0,rfl⟩:∃ g0,gk = g0 + 1:=⟨gk - 1,by omega⟩
  rw [show 2 * (g0 + 1) = 2 * g0 + 1 + 1 by omega] at g9
  obtain ⟨k1,k2,k3,k4,k5⟩:=g9
  have HK1:=Hi k1
  have HK2:=Hi k2
  have HK3:Hid (FrK K (gcdV q (derL q))):=Hi k3
  have HK4:Hid (FrK K (sqfV (gcdV q (derL q)))):=Hi k4
  have HK5:=Hi k5
  have HV:=Hi g10
  clear g1 g2 g3 g4 g5 g6 g10 k1 k2 k3 k4 k5
  have hmul:(qn + 1) * (K / 3)≤(P + 1) * (K / 3):=Nat.mul_le_mul_right _ (by omega)
  have HMS:Hid (0 < (remsV (rootV q)).length):=Hi (rems_pos (root_rt HQ0.out).ne)
  try clear c_B3 f_B3 l_B3
  obtain ⟨c_B3,f_B3,l_B3⟩:=blk3 B3.out
  obtain ⟨o,ho⟩:∃ o,o = btwV q a b:=⟨_,rfl⟩
  have HO:=Hi ho
  clear ho
  go_upto_region 1 with fail
  refine wp_region_front 8 (fun opIx=>match opIx with
   | 1=>.spec (SH) (default) (CV) (fun x w'=>ChK w' x (remsV (rootV q)) K)
   | 6=>.spec Unit () (fun _=>.int .i64 o) (fun _ _=>True)
   | _=>.quiet) (fun | 6=>[1] | _=>[]) (by kernel_rfl) (by kernel_rfl) (fun w0 he0 hz0 hc0 hf0=>?_)
  replace he0:=Hi he0
  simp only [pT]
  repeat (refine wpq fun K h=>?_; go_big_quiet_op; refine h _ ?_; clear h K)
  refine wps he0.out rfl rfl (fun w1 hW hG=>?_) fun x20=>?_
  ·exact spc [.slice qa qn qc] Tryz.func108 (snew_any qa qn qc q K _ (LQ.out.can.ext hW) (by omega) HQ0.out HK1.out hK (by omega) HK2.out)
  simp only [pS]
  repeat (refine wpq fun K h=>?_; go_big_quiet_op; refine h _ ?_; clear h K)
  refine wps he0.out rfl rfl (fun w1 hW hG=>?_) fun x21=>?_
  ·have g20:=(hG 1 (by decide):Since _ _).get fun _ e g=>g.ext e
   exact spc [CV x20,RH.v ⟨sn,sa,sl,sc,sb,sm,sd⟩,RH.v ⟨tn,ta,tl,tc,tb,tm,td⟩] Tryz.func195 ((by rw [HO.out]; exact sbtw_any x20 (remsV (rootV q)) K ⟨sn,sa,sl,sc,sb,sm,sd⟩ ⟨tn,ta,tl,tc,tb,tm,td⟩ a b T _ g20 HMS.out (HS.out.ext hW) (HT.out.ext hW) ZA.out ZB.out hT hT3))
  simp only [pS]
  repeat (refine wpq fun K h=>?_; go_big_quiet_op; refine h _ ?_; clear h K)
  refine wpF_nil ?_
  intro w2 hI
  have hE:=he0.out.trans hI.ext
  have G20:=Hi ((hI.facts 1:Since _ _).get fun _ e g=>g.ext e)
  clear hI he0 hz0 hc0 hf0
  replace HX:=hE.tr HX
  replace LQ:=Hi (LQ.out.ext hE)
  replace HS:=Hi (HS.out.ext hE)
  replace HT:=Hi (HT.out.ext hE)
  replace B3:=hE.bl B3
  have hs_w2:=hE.size
  clear hE
  try clear c_B3 f_B3 l_B3
  obtain ⟨c_B3,f_B3,l_B3⟩:=blk3 B3.out
  simp only [pD]
  clear G20
  have HST:Hid (chgV (g0 + 1) q a b = if o = 0 then false else if btwV (gcdV q (derL q)) a b ≠ o then true else chgV g0 (gcdV (gcdV q (derL q)) (derL (gcdV q (derL q)))) a b):=Hi (by rw [HO.out]; rfl)
  by_cases ho0:o = 0
  case pos =>
   subst ho0
   have HE:Hid (chgV (P + 1) p a b = false):=Hi (by rw [← HV.out,HST.out,if_pos rfl])
   go_wp2
   go_ret
   exact ⟨(),by rw [HE.out]; rfl,HX.out,trivial⟩
  have hob:(o == 0) = false:=by rw [beq_eq_false_iff_ne]; exact ho0
  have HQ2:Hid (2≤(tz q).length):=Hi (btw_len HQ0.out (by rw [← HO.out]; exact ho0))
  have HG0:Hid (tz (gcdV q (derL q)) ≠ []):=Hi (gcd_ne HQ0.out)
  have HGl:Hid ((gcdV q (derL q)).length < qn):=Hi (by have:=gcd_lt HQ2.out; have:=HQl.out; omega)
  obtain ⟨S17,D17,hS17,hD17,hDW17,hF17,hSK17⟩:=HK1.out
  have HF17:Hid (FrL S17 D17 q):=Hi hF17
  have hs17:=FrK.small hSK17
  have HSK17:Hid ((S17 + 2) * 3 ^ qn≤K):=Hi (by have:=LQ.out.len; simp only at this; rw [← this]; exact hSK17)
  have HSz17:Hid (SzL S17 q):=Hi (hF17.sz hS17 hD17 hDW17)
  have hDV17:D17 < W32 ^ (S17 + 1):=Nat.lt_of_lt_of_le hDW17 (Nat.pow_le_pow_right W32_pos (by omega))
  have HDF17:Hid (∀ x ∈ tz (derL q),Fr (S17 + 1) D17 x):=Hi (derL_fr hF17 (by have:=LQ.out.len; simp only at this; omega))
  have HDl17:Hid ((tz (derL q)).length + 1≤qn):=Hi (by have:=derT_len HQ0.out; have:=LQ.out.len; simp only at this; omega)
  clear hF17 hSK17
  go_wp2_with fail
  refine Calls.mono (pder_any qa qn qc q _ (LQ.out.can.raw HSz17.out (by omega)) (by omega) (HSz17.out.mono (by omega))) ?_
  rintro e w17 ⟨x17,rfl,hE,g17⟩
  have G17:=Hi g17
  clear g17
  replace HX:=hE.tr HX
  replace LQ:=Hi (LQ.out.ext hE)
  replace HS:=Hi (HS.out.ext hE)
  replace HT:=Hi (HT.out.ext hE)
  replace B3:=hE.bl B3
  have hs_w17:=hE.size
  clear hE
  try clear c_B3 f_B3 l_B3
  obtain ⟨c_B3,f_B3,l_B3⟩:=blk3 B3.out
  obtain ⟨da17,dn17,dc17⟩:=x17
  have HD17:Hid (LIn w17 ⟨da17,dn17,dc17⟩ (tz (derL q)) 0 w17.heap.size):=Hi G17.out.can.lin
  clear G17
  have hdn17:dn17 + 1≤qn:=by have h1:=HD17.out.len; have h2:=HDl17.out; simp only at h1; omega
  simp only [SH.v]
  go_wp2_with fail
  refine Calls.mono (pgcd_any qa da17 qn qc dn17 dc17 q (tz (derL q)) (S17 + 1) D17 D17 _ LQ.out.can HD17.out.can (by omega) (by omega) (by omega) hD17 hDV17 hD17 hDV17 (HF17.out.mono (by omega)) HDF17.out K (by rw [show max qn (dn17 + 1) = qn by omega]; exact HSK17.out) (by omega)) ?_
  rintro e w18 ⟨x18,rfl,hE,g18⟩
  have G18:=Hi g18
  clear g18
  replace HX:=hE.tr HX
  replace LQ:=Hi (LQ.out.ext hE)
  replace HS:=Hi (HS.out.ext hE)
  replace HT:=Hi (HT.out.ext hE)
  replace B3:=hE.bl B3
  replace HD17:=Hi (HD17.out.ext hE)
  have hs_w18:=hE.size
  clear hE
  try clear c_B3 f_B3 l_B3
  obtain ⟨c_B3,f_B3,l_B3⟩:=blk3 B3.out
  rw [gcdV_tzr] at G18
  obtain ⟨ga18,gn18,gc18⟩:=x18
  have LG:=Hi G18.out.1.lin
  clear G18 HF17 HDF17 HSz17 HSK17
  clear HD17
  simp only [SH.v]
  have hgn:gn18 < qn:=by have h1:=LG.out.len; have h2:=HGl.out; simp only at h1; omega
  have hmul2:(gn18 + 1) * (K / 3)≤(P + 1) * (K / 3):=Nat.mul_le_mul_right _ (by omega)
  have HMS2:Hid (0 < (remsV (rootV (gcdV q (derL q)))).length):=Hi (rems_pos (root_rt HG0.out).ne)
  obtain ⟨r,hr⟩:∃ r,r = gcdV q (derL q):=⟨_,rfl⟩
  rw [← hr] at LG HG0 HMS2 HK3 HK4 HK5 HST
  clear hr HGl HMS
  obtain ⟨o2,ho2⟩:∃ o,o = btwV r a b:=⟨_,rfl⟩
  have HO2:=Hi ho2
  rw [← ho2] at HST
  clear ho2
  clear LQ
  go_upto_region 5 with fail
  refine wp_region_front 9 (fun opIx=>match opIx with
   | 1=>.spec (SH) (default) (CV) (fun x w'=>ChK w' x (remsV (rootV r)) K)
   | 6=>.spec Unit () (fun _=>.int .i64 o2) (fun _ _=>True)
   | _=>.quiet) (fun | 6=>[1] | _=>[]) (by kernel_rfl) (by kernel_rfl) (fun w0 he0 hz0 hc0 hf0=>?_)
  replace he0:=Hi he0
  simp only [pT]
  repeat (refine wpq fun K h=>?_; go_big_quiet_op; refine h _ ?_; clear h K)
  refine wps he0.out rfl rfl (fun w1 hW hG=>?_) fun x30=>?_
  ·exact spc [.slice ga18 gn18 gc18] Tryz.func108 (snew_any ga18 gn18 gc18 r K _ (LG.out.can.ext hW) (by omega) HG0.out HK3.out hK (by omega) HK4.out)
  simp only [pS]
  repeat (refine wpq fun K h=>?_; go_big_quiet_op; refine h _ ?_; clear h K)
  refine wps he0.out rfl rfl (fun w1 hW hG=>?_) fun x31=>?_
  ·have g30:=(hG 1 (by decide):Since _ _).get fun _ e g=>g.ext e
   exact spc [CV x30,RH.v ⟨sn,sa,sl,sc,sb,sm,sd⟩,RH.v ⟨tn,ta,tl,tc,tb,tm,td⟩] Tryz.func195 ((by rw [HO2.out]; exact sbtw_any x30 (remsV (rootV r)) K ⟨sn,sa,sl,sc,sb,sm,sd⟩ ⟨tn,ta,tl,tc,tb,tm,td⟩ a b T _ g30 HMS2.out (HS.out.ext hW) (HT.out.ext hW) ZA.out ZB.out hT hT3))
  simp only [pS]
  repeat (refine wpq fun K h=>?_; go_big_quiet_op; refine h _ ?_; clear h K)
  refine wpF_nil ?_
  intro w3 hI
  have hE:=he0.out.trans hI.ext
  have G30:=Hi ((hI.facts 1:Since _ _).get fun _ e g=>g.ext e)
  clear hI he0 hz0 hc0 hf0
  replace HX:=hE.tr HX
  replace HS:=Hi (HS.out.ext hE)
  replace HT:=Hi (HT.out.ext hE)
  replace B3:=hE.bl B3
  replace LG:=Hi (LG.out.ext hE)
  have hs_w3:=hE.size
  clear hE
  try clear c_B3 f_B3 l_B3
  obtain ⟨c_B3,f_B3,l_B3⟩:=blk3 B3.out
  simp only [pD]
  clear G30
  by_cases ho3:o2 = o
  case neg =>
   have hb1:(o2 == o) = false:=by rw [beq_eq_false_iff_ne]; exact ho3
   have hb2:(o2 != o) = true:=by rw [bne,hb1]; rfl
   have HE:Hid (chgV (P + 1) p a b = true):=Hi (by rw [← HV.out,HST.out,if_neg ho0,if_pos ho3])
   go_wp2
   go_ret
   exact ⟨(),by rw [HE.out]; rfl,HX.out,trivial⟩
  have HE:Hid (chgV g0 (gcdV r (derL r)) a b = chgV (P + 1) p a b):=Hi (by rw [← HV.out,HST.out,if_neg ho0,if_neg (fun h=>h ho3)])
  subst ho3
  have HR0:Hid (tz (gcdV r (derL r)) ≠ []):=Hi (gcd_ne HG0.out)
  have HRl:Hid ((gcdV r (derL r)).length≤gn18):=Hi (by have h1:=gcd_len HG0.out; have h2:=LG.out.len; simp only at h2; omega)
  obtain ⟨S30,D30,hS30,hD30,hDW30,hF30,hSK30⟩:=HK3.out
  have HF30:Hid (FrL S30 D30 r):=Hi hF30
  have hs30:=FrK.small hSK30
  have HSK30:Hid ((S30 + 2) * 3 ^ gn18≤K):=Hi (by have:=LG.out.len; simp only at this; rw [← this]; exact hSK30)
  have HSz30:Hid (SzL S30 r):=Hi (hF30.sz hS30 hD30 hDW30)
  have hDV30:D30 < W32 ^ (S30 + 1):=Nat.lt_of_lt_of_le hDW30 (Nat.pow_le_pow_right W32_pos (by omega))
  have HDF30:Hid (∀ x ∈ tz (derL r),Fr (S30 + 1) D30 x):=Hi (derL_fr hF30 (by have:=LG.out.len; simp only at this; omega))
  have HDl30:Hid ((tz (derL r)).length + 1≤gn18):=Hi (by have:=derT_len HG0.out; have:=LG.out.len; simp only at this; omega)
  clear hF30 hSK30
  go_wp2_with fail
  refine Calls.mono (pder_any ga18 gn18 gc18 r _ (LG.out.can.raw HSz30.out (by omega)) (by omega) (HSz30.out.mono (by omega))) ?_
  rintro e w30 ⟨x30,rfl,hE,g30⟩
  have G30:=Hi g30
  clear g30
  replace HX:=hE.tr HX
  replace HS:=Hi (HS.out.ext hE)
  replace HT:=Hi (HT.out.ext hE)
  replace B3:=hE.bl B3
  replace LG:=Hi (LG.out.ext hE)
  have hs_w30:=hE.size
  clear hE
  try clear c_B3 f_B3 l_B3
  obtain ⟨c_B3,f_B3,l_B3⟩:=blk3 B3.out
  obtain ⟨da30,dn30,dc30⟩:=x30
  have HD30:Hid (LIn w30 ⟨da30,dn30,dc30⟩ (tz (derL r)) 0 w30.heap.size):=Hi G30.out.can.lin
  clear G30
  have hdn30:dn30 + 1≤gn18:=by have h1:=HD30.out.len; have h2:=HDl30.out; simp only at h1; omega
  simp only [SH.v]
  go_wp2_with fail
  refine Calls.mono (pgcd_any ga18 da30 gn18 gc18 dn30 dc30 r (tz (derL r)) (S30 + 1) D30 D30 _ LG.out.can HD30.out.can (by omega) (by omega) (by omega) hD30 hDV30 hD30 hDV30 (HF30.out.mono (by omega)) HDF30.out K (by rw [show max gn18 (dn30 + 1) = gn18 by omega]; exact HSK30.out) (by omega)) ?_
  rintro e w31 ⟨x31,rfl,hE,g31⟩
  have G31:=Hi g31
  clear g31
  replace HX:=hE.tr HX
  replace HS:=Hi (HS.out.ext hE)
  replace HT:=Hi (HT.out.ext hE)
  replace B3:=hE.bl B3
  replace LG:=Hi (LG.out.ext hE)
  replace HD30:=Hi (HD30.out.ext hE)
  have hs_w31:=hE.size
  clear hE
  try clear c_B3 f_B3 l_B3
  obtain ⟨c_B3,f_B3,l_B3⟩:=blk3 B3.out
  rw [gcdV_tzr] at G31
  obtain ⟨ga31,gn31,gc31⟩:=x31
  have LR:=Hi G31.out.1.lin
  clear G31 HF30 HDF30 HSz30 HSK30
  clear HD30
  simp only [SH.v]
  have hrn:gn31≤gn18:=by have h1:=LR.out.len; have h2:=HRl.out; simp only at h1; omega
  go_wp2
  go_roundg g0
  case measure=>omega
  case rel=>exact ⟨ga31,gn31,gc31,_,rfl,HX.out,LR.out.can,HS.out,HT.out,B3.out,HR0.out,by omega,by omega,HK5.out,HE.out⟩
end Go.Proofs.YtcbgamclcgcodaaGreat
/- Nonnegative, Positive of package sturm. -/
set_option linter.unusedVariables false
set_option maxRecDepth 8000
set_option maxHeartbeats 8000000
namespace Go.Proofs.YtcbgamclcgcodaaGreat
open Go.RowKit Go.Front Go.Num Stab Sg
attribute [local go_sem] XW.cell XW.frozen
structure PoK (K P:Nat) (p:List Rat):Prop where
 tz:tz p = p
 fr:FrK K p
 sq:FrK K (sqfV p)
 ok:OkC K (2 * (P + 1)) (splL p)
def CanN (n:Nat) (w:World) (x:SH) (l:List Rat):Prop:=CanL w x l∧x.n = n
theorem CanN.ext {n:Nat} {w w':World} {x:SH} {l:List Rat} (h:CanN n w x l) (he:Ext w w'):CanN n w' x l:=⟨h.1.ext he,h.2⟩
theorem cmpR_eq0 {a b:Rat}:cmpR a b = 0↔a = b:=by
 unfold cmpR
 split
 ·constructor
  ·intro h; omega
  ·intro h; subst h; exfalso; grind
 ·split
  ·exact ⟨fun _=>by assumption,fun _=>rfl⟩
  ·constructor
   ·intro h; omega
   ·intro h; contradiction
theorem chkV_z {p:List Rat} (h:p = []):chkV p = 3:=by subst h; rfl
theorem chkV_n {p:List Rat} (h:tz p ≠ []) (hl:p.length≤49):chkV p = 0:=by unfold chkV; rw [if_neg (by have:=tz_len_le p; omega),if_neg h]
theorem snng_any (pa:Option Addr) (P pc:Nat) (p:List Rat) (K:Nat) (s t:RH) (a b:Rat) (T:Nat) (w:World) (h:CanL w ⟨pa,P,pc⟩ p) (hP:P≤49) (hk:PoK K P p) (hK:K≤12000000) (hK2:(P + 1) * (K / 3)≤25000000)
  (hs:RawR w s a) (ht:RawR w t b) (za:Sz T a) (zb:Sz T b) (hT:1≤T) (hT3:T≤1000) :
  Does 46 [.slice pa P pc,IvV (s,t)] w (fun _:Unit=>.tuple #[.bool (nngV p (loV a b) (hiV a b)),.int .i64 0]) (fun _ _=>True):=by
 obtain ⟨sn,sa,sl,sc,sb,sm,sd⟩:=s
 obtain ⟨tn,ta,tl,tc,tb,tm,td⟩:=t
 have HX:=Hi (Ext.refl w)
 have LP:=Hi h.lin
 have HS:=Hi hs
 have HT:=Hi ht
 have hlen:=h.len
 simp only at hlen
 have HKp:=Hi hk.fr
 have HKo:=Hi hk.ok
 have HTZ:=Hi hk.tz
 obtain ⟨S,D,hS,hD,hDW,hF,hSK⟩:=hk.fr
 have hSs:=FrK.small hSK
 have HF:=Hi hF
 have HSz:Hid (SzL K p):=Hi ((hF.sz hS hD hDW).mono (by omega))
 have HSW:Hid (∀ y ∈ splL p,Wz S y):=Hi (spl_wz (fun x hx=>hF x (mem_tz hx)) hD)
 have HSl:Hid ((splL p).length = P):=Hi (by rw [spl_len,hk.tz,hlen])
 have ZA:Hid (Sz T (loV a b)):=Hi (by rcases lo_or a b with e | e <;> rw [e] <;> assumption)
 have ZB:Hid (Sz T (hiV a b)):=Hi (by rcases hi_or a b with e | e <;> rw [e] <;> assumption)
 obtain ⟨lo,hlo⟩:∃ lo,lo = loV a b:=⟨_,rfl⟩
 obtain ⟨hi,hhi⟩:∃ hi,hi = hiV a b:=⟨_,rfl⟩
 rw [← hlo] at ZA
 rw [← hhi] at ZB
 have HLO:=Hi hlo
 have HHI:=Hi hhi
 have HLn:=Hi hlen
 rw [← hlo,← hhi]
 clear h hs ht hk za zb hlo hhi hF hSK hlen
 unfold Does
 go_enter Tryz.func46,Tryz.ntmps46
 go_upto_region 1 with fail
 refine nm_alloc ?_
 intro w1 hE hB0 hz
 have hz_w1:=nle hz
 have hr_w1:=nle hz.symm
 clear hz
 replace HX:=hE.tr HX
 replace LP:=Hi (LP.out.ext hE)
 replace HS:=Hi (HS.out.ext hE)
 replace HT:=Hi (HT.out.ext hE)
 have hs_w1:=hE.size
 clear hE
 have B3:=Hi hB0
 clear hB0
 obtain ⟨c_B3,f_B3,l_B3⟩:=blk3 B3.out
 go_wp2_with fail
 refine Calls.mono (schk_any pa P pc p _ (LP.out.can.raw HSz.out (by omega))) ?_
 rintro e w8 ⟨x8,rfl,hE,-⟩
 replace HX:=hE.tr HX
 replace LP:=Hi (LP.out.ext hE)
 replace HS:=Hi (HS.out.ext hE)
 replace HT:=Hi (HT.out.ext hE)
 replace B3:=hE.bl B3
 have hs_w8:=hE.size
 clear hE
 try clear c_B3 f_B3 l_B3
 obtain ⟨c_B3,f_B3,l_B3⟩:=blk3 B3.out
 by_cases h0:P = 0
 case pos =>
  subst h0
  have hp:p = []:=List.length_eq_zero_iff.1 HLn.out
  have HE:Hid (nngV p lo hi = true):=Hi (by rw [hp]; rfl)
  rw [chkV_z hp]
  clear hp
  go_wp2
  exact bodyPost_ret (v:=.tuple #[.bool (nngV p lo hi),.int .i64 0]) (by rw [HE.out]; simp [results,Tryz.results46,go_sem]) rfl ⟨(),rfl,HX.out,trivial⟩
 have hp:tz p ≠ []:=fun h=>h0 (by rw [← HLn.out,← HTZ.out,h]; rfl)
 have H0:=Hi hp
 rw [chkV_n hp (by rw [HLn.out]; exact hP)]
 clear hp
 have HNV:Hid (nngV p lo hi = if Sg.sg (evV (splL p) lo) < 0 ∨ Sg.sg (evV (splL p) hi) < 0 then false else if lo = hi then true else decide (0 < safV (P + 1) (splL p) lo) && !chgV (P + 1) (splL p) lo hi):=Hi (by
  have e:(tz p).length = P:=by rw [HTZ.out,HLn.out]
  unfold nngV
  rw [if_neg H0.out,e])
 go_wp2_with fail
 refine Calls.mono (ivtrim_any ⟨sn,sa,sl,sc,sb,sm,sd⟩ ⟨tn,ta,tl,tc,tb,tm,td⟩ a b _ HS.out HT.out) ?_
 rintro e w14 ⟨x14,rfl,hE,g14⟩
 have G14:=Hi g14
 clear g14
 replace HX:=hE.tr HX
 replace LP:=Hi (LP.out.ext hE)
 replace HS:=Hi (HS.out.ext hE)
 replace HT:=Hi (HT.out.ext hE)
 replace B3:=hE.bl B3
 have hs_w14:=hE.size
 clear hE
 try clear c_B3 f_B3 l_B3
 obtain ⟨c_B3,f_B3,l_B3⟩:=blk3 B3.out
 obtain ⟨⟨ln,la,ll,lc,lb,lm,ld⟩,⟨hn,ha,hl,hc,hb,hm,hd⟩⟩:=x14
 rw [← HLO.out,← HHI.out] at G14
 have HL:=Hi G14.out.1
 have HH:=Hi G14.out.2
 clear G14
 clear HS
 clear HT
 go_upto_region 7 with fail
 refine nm_set6 B3.out rfl ?_
 intro w15 T
 replace HX:=Hi (T.ext HX.out (by omega))
 replace LP:=Hi (LP.out.put T (by omega))
 replace B3:=Hi (T.bx)
 replace HL:=Hi (HL.out.keep T.keep)
 replace HH:=Hi (HH.out.keep T.keep)
 have hs_w15:=nle T.size
 have hr_w15:=nle T.size.symm
 clear T
 try clear c_B3 f_B3 l_B3
 obtain ⟨c_B3,f_B3,l_B3⟩:=blk3 B3.out
 go_wp2_with fail
 refine Calls.mono (sprim_any pa P pc p S D _ LP.out.can (by omega) hS (by omega) hD hDW HF.out) ?_
 rintro e w16 ⟨x16,rfl,hE,g16⟩
 have G16:=Hi g16
 clear g16
 replace HX:=hE.tr HX
 replace LP:=Hi (LP.out.ext hE)
 replace B3:=hE.bl B3
 replace HL:=Hi (HL.out.ext hE)
 replace HH:=Hi (HH.out.ext hE)
 have hs_w16:=hE.size
 clear hE
 try clear c_B3 f_B3 l_B3
 obtain ⟨c_B3,f_B3,l_B3⟩:=blk3 B3.out
 obtain ⟨Lq,hLq,hLq2,hxq,hrq⟩:=NewRow.lin G16.out (by have:=HSl.out; omega)
 rw [HSl.out] at hxq
 subst hxq
 have HQ:=Hi hrq
 clear hrq G16
 have HS0:Hid (tz (splL p) ≠ []):=Hi (by rw [spl_tz]; exact fun h=>H0.out (spl_ne.1 h))
 obtain ⟨q,hq⟩:∃ q,q = splL p:=⟨_,rfl⟩
 have HTQ:Hid (tz q = q):=Hi (by rw [hq]; exact spl_tz p)
 rw [← hq] at HQ HSW HKo HNV HS0 HSl
 clear hq
 clear LP
 go_wp2_with fail
 refine Calls.mono (ssign_any (some ⟨Lq,0,none⟩) P P q ⟨ln,la,ll,lc,lb,lm,ld⟩ lo S T _ HQ.out.can HL.out (by omega) HSW.out ZA.out hT hS (by omega) hT3) ?_
 rintro e w20 ⟨x20,rfl,hE,-⟩
 replace HX:=hE.tr HX
 replace B3:=hE.bl B3
 replace HL:=Hi (HL.out.ext hE)
 replace HH:=Hi (HH.out.ext hE)
 replace HQ:=Hi (HQ.out.ext hE)
 have hs_w20:=hE.size
 clear hE
 try clear c_B3 f_B3 l_B3
 obtain ⟨c_B3,f_B3,l_B3⟩:=blk3 B3.out
 obtain ⟨s1,hs1⟩:∃ s1,s1 = Sg.sg (evV q lo):=⟨_,rfl⟩
 rw [← hs1] at HNV ⊢
 clear hs1
 by_cases hn1:s1 < 0
 case pos =>
  have HE:Hid (nngV p lo hi = false):=Hi (by rw [HNV.out,if_pos (Or.inl hn1)])
  go_wp2
  exact bodyPost_ret (v:=.tuple #[.bool (nngV p lo hi),.int .i64 0]) (by rw [HE.out]; simp [results,Tryz.results46,go_sem]) rfl ⟨(),rfl,HX.out,trivial⟩
 go_wp2_with fail
 refine Calls.mono (ssign_any (some ⟨Lq,0,none⟩) P P q ⟨hn,ha,hl,hc,hb,hm,hd⟩ hi S T _ HQ.out.can HH.out (by omega) HSW.out ZB.out hT hS (by omega) hT3) ?_
 rintro e w26 ⟨x26,rfl,hE,-⟩
 replace HX:=hE.tr HX
 replace B3:=hE.bl B3
 replace HL:=Hi (HL.out.ext hE)
 replace HH:=Hi (HH.out.ext hE)
 replace HQ:=Hi (HQ.out.ext hE)
 have hs_w26:=hE.size
 clear hE
 try clear c_B3 f_B3 l_B3
 obtain ⟨c_B3,f_B3,l_B3⟩:=blk3 B3.out
 obtain ⟨s2,hs2⟩:∃ s2,s2 = Sg.sg (evV q hi):=⟨_,rfl⟩
 rw [← hs2] at HNV ⊢
 clear hs2
 by_cases hn2:s2 < 0
 case pos =>
  have HE:Hid (nngV p lo hi = false):=Hi (by rw [HNV.out,if_pos (Or.inr hn2)])
  go_wp2
  exact bodyPost_ret (v:=.tuple #[.bool (nngV p lo hi),.int .i64 0]) (by rw [HE.out]; simp [results,Tryz.results46,go_sem]) rfl ⟨(),rfl,HX.out,trivial⟩
 rw [if_neg (fun h=>h.elim (fun k=>by omega) (fun k=>by omega))] at HNV
 go_wp2_with fail
 refine Calls.mono (rcmp_any ⟨ln,la,ll,lc,lb,lm,ld⟩ ⟨hn,ha,hl,hc,hb,hm,hd⟩ lo hi _ (HL.out.raw ZA.out (by omega)) (HH.out.raw ZB.out (by omega))) ?_
 rintro e w33 ⟨x33,rfl,hE,-⟩
 replace HX:=hE.tr HX
 replace B3:=hE.bl B3
 replace HL:=Hi (HL.out.ext hE)
 replace HH:=Hi (HH.out.ext hE)
 replace HQ:=Hi (HQ.out.ext hE)
 have hs_w33:=hE.size
 clear hE
 try clear c_B3 f_B3 l_B3
 obtain ⟨c_B3,f_B3,l_B3⟩:=blk3 B3.out
 obtain ⟨c,hcc⟩:∃ c,c = cmpR lo hi:=⟨_,rfl⟩
 have HCC:Hid (c = 0↔lo = hi):=Hi (by rw [hcc]; exact cmpR_eq0)
 rw [← hcc]
 clear hcc
 by_cases hc0:c = 0
 case pos =>
  have HE:Hid (nngV p lo hi = true):=Hi (by rw [HNV.out,if_pos (HCC.out.1 hc0)])
  subst hc0
  go_wp2
  exact bodyPost_ret (v:=.tuple #[.bool (nngV p lo hi),.int .i64 0]) (by rw [HE.out]; simp [results,Tryz.results46,go_sem]) rfl ⟨(),rfl,HX.out,trivial⟩
 have hcb:(c == 0) = false:=by rw [beq_eq_false_iff_ne]; exact hc0
 rw [if_neg (fun h=>hc0 (HCC.out.2 h))] at HNV
 go_wp2_with fail
 refine Calls.mono (ssaf_any (some ⟨Lq,0,none⟩) P P q ⟨ln,la,ll,lc,lb,lm,ld⟩ lo S T _ HQ.out.can (by omega) HTQ.out HSW.out hS (by omega) HL.out ZA.out hT hT3) ?_
 rintro e w38 ⟨x38,rfl,hE,-⟩
 replace HX:=hE.tr HX
 replace B3:=hE.bl B3
 replace HL:=Hi (HL.out.ext hE)
 replace HH:=Hi (HH.out.ext hE)
 replace HQ:=Hi (HQ.out.ext hE)
 have hs_w38:=hE.size
 clear hE
 try clear c_B3 f_B3 l_B3
 obtain ⟨c_B3,f_B3,l_B3⟩:=blk3 B3.out
 have hsI:=saf_is (P + 1) q lo
 obtain ⟨s3,hs3⟩:∃ s3,s3 = safV (P + 1) q lo:=⟨_,rfl⟩
 rw [← hs3] at HNV hsI ⊢
 clear hs3
 by_cases hp3:0 < s3
 case neg =>
  have HE:Hid (nngV p lo hi = false):=Hi (by rw [HNV.out,decide_eq_false hp3]; rfl)
  go_wp2
  exact bodyPost_ret (v:=.tuple #[.bool (nngV p lo hi),.int .i64 0]) (by rw [HE.out]; simp [results,Tryz.results46,go_sem]) rfl ⟨(),rfl,HX.out,trivial⟩
 go_wp2_with fail
 refine Calls.mono (schg_any (some ⟨Lq,0,none⟩) P P q K ⟨ln,la,ll,lc,lb,lm,ld⟩ ⟨hn,ha,hl,hc,hb,hm,hd⟩ lo hi T _ HQ.out.can hP HS0.out HKo.out hK hK2 HL.out HH.out ZA.out ZB.out hT hT3) ?_
 rintro e w43 ⟨x43,rfl,hE,-⟩
 replace HX:=hE.tr HX
 replace B3:=hE.bl B3
 replace HL:=Hi (HL.out.ext hE)
 replace HH:=Hi (HH.out.ext hE)
 replace HQ:=Hi (HQ.out.ext hE)
 have hs_w43:=hE.size
 clear hE
 try clear c_B3 f_B3 l_B3
 obtain ⟨c_B3,f_B3,l_B3⟩:=blk3 B3.out
 obtain ⟨r,hr⟩:∃ r,r = chgV (P + 1) q lo hi:=⟨_,rfl⟩
 rw [← hr,decide_eq_true hp3] at HNV
 rw [← hr]
 clear hr
 have HE:Hid (nngV p lo hi = !r):=Hi (by rw [HNV.out]; rfl)
 cases r
 ·go_wp2
  exact bodyPost_ret (v:=.tuple #[.bool (nngV p lo hi),.int .i64 0]) (by rw [HE.out]; simp [results,Tryz.results46,go_sem]) rfl ⟨(),rfl,HX.out,trivial⟩
 ·go_wp2
  exact bodyPost_ret (v:=.tuple #[.bool (nngV p lo hi),.int .i64 0]) (by rw [HE.out]; simp [results,Tryz.results46,go_sem]) rfl ⟨(),rfl,HX.out,trivial⟩
theorem spos_any (pa:Option Addr) (P pc:Nat) (p:List Rat) (K:Nat) (s t:RH) (a b:Rat) (T:Nat) (w:World) (h:CanL w ⟨pa,P,pc⟩ p) (hP:P≤49) (hk:PoK K P p) (hK:K≤12000000) (hK2:(P + 1) * (K / 3)≤25000000)
  (hs:RawR w s a) (ht:RawR w t b) (za:Sz T a) (zb:Sz T b) (hT:1≤T) (hT3:T≤1000) :
  Does 47 [.slice pa P pc,IvV (s,t)] w (fun _:Unit=>.tuple #[.bool (posV p (loV a b) (hiV a b)),.int .i64 0]) (fun _ _=>True):=by
 obtain ⟨sn,sa,sl,sc,sb,sm,sd⟩:=s
 obtain ⟨tn,ta,tl,tc,tb,tm,td⟩:=t
 have HX:=Hi (Ext.refl w)
 have LP:=Hi h.lin
 have HS:=Hi hs
 have HT:=Hi ht
 have hlen:=h.len
 simp only at hlen
 have HKp:=Hi hk.fr
 have HKs:=Hi hk.sq
 have HTZ:=Hi hk.tz
 obtain ⟨S,D,hS,hD,hDW,hF,hSK⟩:=hk.fr
 have hSs:=FrK.small hSK
 have HF:=Hi hF
 have HSz:Hid (SzL K p):=Hi ((hF.sz hS hD hDW).mono (by omega))
 have HSW:Hid (∀ y ∈ splL p,Wz S y):=Hi (spl_wz (fun x hx=>hF x (mem_tz hx)) hD)
 have HSl:Hid ((splL p).length = P):=Hi (by rw [spl_len,hk.tz,hlen])
 have ZA:Hid (Sz T (loV a b)):=Hi (by rcases lo_or a b with e | e <;> rw [e] <;> assumption)
 have ZB:Hid (Sz T (hiV a b)):=Hi (by rcases hi_or a b with e | e <;> rw [e] <;> assumption)
 have HLH:Hid (loV (loV a b) (hiV a b) = loV a b∧hiV (loV a b) (hiV a b) = hiV a b):=Hi ⟨lo_of (lo_hi a b),hi_of (lo_hi a b)⟩
 obtain ⟨lo,hlo⟩:∃ lo,lo = loV a b:=⟨_,rfl⟩
 obtain ⟨hi,hhi⟩:∃ hi,hi = hiV a b:=⟨_,rfl⟩
 rw [← hlo] at ZA
 rw [← hhi] at ZB
 rw [← hlo,← hhi] at HLH
 have HLO:=Hi hlo
 have HHI:=Hi hhi
 have HLn:=Hi hlen
 rw [← hlo,← hhi]
 clear h hs ht hk za zb hlo hhi hF hSK hlen
 unfold Does
 go_enter Tryz.func47,Tryz.ntmps47
 go_upto_region 1 with fail
 refine nm_alloc ?_
 intro w1 hE hB0 hz
 have hz_w1:=nle hz
 have hr_w1:=nle hz.symm
 clear hz
 replace HX:=hE.tr HX
 replace LP:=Hi (LP.out.ext hE)
 replace HS:=Hi (HS.out.ext hE)
 replace HT:=Hi (HT.out.ext hE)
 have hs_w1:=hE.size
 clear hE
 have B3:=Hi hB0
 clear hB0
 obtain ⟨c_B3,f_B3,l_B3⟩:=blk3 B3.out
 go_wp2_with fail
 refine Calls.mono (schk_any pa P pc p _ (LP.out.can.raw HSz.out (by omega))) ?_
 rintro e w9 ⟨x9,rfl,hE,-⟩
 replace HX:=hE.tr HX
 replace LP:=Hi (LP.out.ext hE)
 replace HS:=Hi (HS.out.ext hE)
 replace HT:=Hi (HT.out.ext hE)
 replace B3:=hE.bl B3
 have hs_w9:=hE.size
 clear hE
 try clear c_B3 f_B3 l_B3
 obtain ⟨c_B3,f_B3,l_B3⟩:=blk3 B3.out
 by_cases h0:P = 0
 case pos =>
  subst h0
  have hp:p = []:=List.length_eq_zero_iff.1 HLn.out
  have HE:Hid (posV p lo hi = false):=Hi (by rw [hp]; rfl)
  rw [chkV_z hp]
  clear hp
  go_wp2
  exact bodyPost_ret (v:=.tuple #[.bool (posV p lo hi),.int .i64 0]) (by rw [HE.out]; simp [results,Tryz.results47,go_sem]) rfl ⟨(),rfl,HX.out,trivial⟩
 have hp:tz p ≠ []:=fun h=>h0 (by rw [← HLn.out,← HTZ.out,h]; rfl)
 have H0:=Hi hp
 rw [chkV_n hp (by rw [HLn.out]; exact hP)]
 clear hp
 have HNV:Hid (posV p lo hi = if Sg.sg (evV (splL p) lo)≤0 then false else decide (cntV p lo hi = 0)):=Hi (by
  unfold posV
  rw [if_neg H0.out])
 go_wp2_with fail
 refine Calls.mono (ivtrim_any ⟨sn,sa,sl,sc,sb,sm,sd⟩ ⟨tn,ta,tl,tc,tb,tm,td⟩ a b _ HS.out HT.out) ?_
 rintro e w15 ⟨x15,rfl,hE,g15⟩
 have G15:=Hi g15
 clear g15
 replace HX:=hE.tr HX
 replace LP:=Hi (LP.out.ext hE)
 replace HS:=Hi (HS.out.ext hE)
 replace HT:=Hi (HT.out.ext hE)
 replace B3:=hE.bl B3
 have hs_w15:=hE.size
 clear hE
 try clear c_B3 f_B3 l_B3
 obtain ⟨c_B3,f_B3,l_B3⟩:=blk3 B3.out
 obtain ⟨⟨ln,la,ll,lc,lb,lm,ld⟩,⟨hn,ha,hl,hc,hb,hm,hd⟩⟩:=x15
 rw [← HLO.out,← HHI.out] at G15
 have HL:=Hi G15.out.1
 have HH:=Hi G15.out.2
 clear G15
 clear HS
 clear HT
 go_upto_region 7 with fail
 refine nm_set6 B3.out rfl ?_
 intro w16 T
 replace HX:=Hi (T.ext HX.out (by omega))
 replace LP:=Hi (LP.out.put T (by omega))
 replace B3:=Hi (T.bx)
 replace HL:=Hi (HL.out.keep T.keep)
 replace HH:=Hi (HH.out.keep T.keep)
 have hs_w16:=nle T.size
 have hr_w16:=nle T.size.symm
 clear T
 try clear c_B3 f_B3 l_B3
 obtain ⟨c_B3,f_B3,l_B3⟩:=blk3 B3.out
 obtain ⟨s1,hs1⟩:∃ s1,s1 = Sg.sg (evV (splL p) lo):=⟨_,rfl⟩
 have HS1:=Hi hs1
 rw [← hs1] at HNV
 clear hs1
 refine wp_region_front 6 (fun opIx=>match opIx with
  | 1=>.spec (SH) (default) (SH.v) (fun x w'=>CanN P w' x (splL p))
  | 4=>.spec Unit () (fun _=>.int .i64 s1) (fun _ _=>True)
  | _=>.quiet) (fun | 4=>[1] | _=>[]) (by kernel_rfl) (by kernel_rfl) (fun w0 he0 hz0 hc0 hf0=>?_)
 replace he0:=Hi he0
 simp only [pT]
 repeat (refine wpq fun K h=>?_; go_big_quiet_op; refine h _ ?_; clear h K)
 refine wps he0.out rfl rfl (fun w1 hW hG=>?_) fun x20=>?_
 ·exact spc [.slice pa P pc] Tryz.func113 ((sprim_any pa P pc p S D _ (LP.out.can.ext hW) (by omega) hS (by omega) hD hDW HF.out).wk (fun x w' _ h=>⟨let ⟨_,_,_,_,h4⟩:=h.lin (by have:=HSl.out; omega); h4.can,by have h5:=(let ⟨_,_,_,_,h4⟩:=h.lin (by have:=HSl.out; omega); h4.can.len); rw [← h5]; exact HSl.out⟩))
 simp only [pS]
 repeat (refine wpq fun K h=>?_; go_big_quiet_op; refine h _ ?_; clear h K)
 refine wps he0.out rfl rfl (fun w1 hW hG=>?_) fun x21=>?_
 ·have g20:=(hG 1 (by decide):Since _ _).get fun _ e g=>g.ext e
  exact spc [x20.v,RH.v ⟨ln,la,ll,lc,lb,lm,ld⟩] Tryz.func114 ((by rw [HS1.out]; exact ssign_any x20.a x20.n x20.c (splL p) ⟨ln,la,ll,lc,lb,lm,ld⟩ lo S T _ g20.1 (HL.out.ext hW) (by rw [g20.2]; omega) HSW.out ZA.out hT hS (by omega) hT3))
 simp only [pS]
 repeat (refine wpq fun K h=>?_; go_big_quiet_op; refine h _ ?_; clear h K)
 refine wpF_nil ?_
 intro w17 hI
 have hE:=he0.out.trans hI.ext
 have G20:=Hi ((hI.facts 1:Since _ _).get fun _ e g=>g.ext e)
 clear hI he0 hz0 hc0 hf0
 replace HX:=hE.tr HX
 replace LP:=Hi (LP.out.ext hE)
 replace B3:=hE.bl B3
 replace HL:=Hi (HL.out.ext hE)
 replace HH:=Hi (HH.out.ext hE)
 have hs_w17:=hE.size
 clear hE
 try clear c_B3 f_B3 l_B3
 obtain ⟨c_B3,f_B3,l_B3⟩:=blk3 B3.out
 simp only [pD]
 clear G20
 by_cases hn1:s1≤0
 case pos =>
  have HE:Hid (posV p lo hi = false):=Hi (by rw [HNV.out,if_pos hn1])
  go_wp2
  exact bodyPost_ret (v:=.tuple #[.bool (posV p lo hi),.int .i64 0]) (by rw [HE.out]; simp [results,Tryz.results47,go_sem]) rfl ⟨(),rfl,HX.out,trivial⟩
 rw [if_neg (fun h=>by omega)] at HNV
 go_wp2_with fail
 refine Calls.mono (scount_any pa P pc p K ⟨ln,la,ll,lc,lb,lm,ld⟩ ⟨hn,ha,hl,hc,hb,hm,hd⟩ lo hi T _ LP.out.can hP H0.out HKp.out hK hK2 HKs.out (HL.out.raw ZA.out (by omega)) (HH.out.raw ZB.out (by omega)) ZA.out ZB.out hT hT3) ?_
 rintro e w25 ⟨x25,rfl,hE,-⟩
 replace HX:=hE.tr HX
 replace LP:=Hi (LP.out.ext hE)
 replace B3:=hE.bl B3
 replace HL:=Hi (HL.out.ext hE)
 replace HH:=Hi (HH.out.ext hE)
 have hs_w25:=hE.size
 clear hE
 try clear c_B3 f_B3 l_B3
 obtain ⟨c_B3,f_B3,l_B3⟩:=blk3 B3.out
 rw [HLH.out.1,HLH.out.2]
 obtain ⟨c,hcc⟩:∃ c,c = cntV p lo hi:=⟨_,rfl⟩
 rw [← hcc] at HNV ⊢
 clear hcc
 by_cases hc0:c = 0
 ·have HE:Hid (posV p lo hi = true):=Hi (by rw [HNV.out,decide_eq_true hc0])
  subst hc0
  go_wp2
  exact bodyPost_ret (v:=.tuple #[.bool (posV p lo hi),.int .i64 0]) (by rw [HE.out]; simp [results,Tryz.results47,go_sem]) rfl ⟨(),rfl,HX.out,trivial⟩
 ·have HE:Hid (posV p lo hi = false):=Hi (by rw [HNV.out,decide_eq_false hc0])
  have hcb:(c == 0) = false:=by rw [beq_eq_false_iff_ne]; exact hc0
  go_wp2
  exact bodyPost_ret (v:=.tuple #[.bool (posV p lo hi),.int .i64 0]) (by rw [HE.out]; simp [results,Tryz.results47,go_sem]) rfl ⟨(),rfl,HX.out,trivial⟩
end Go.Proofs.YtcbgamclcgcodaaGreat
