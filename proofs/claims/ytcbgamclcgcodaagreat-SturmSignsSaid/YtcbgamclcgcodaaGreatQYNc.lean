/- Squarefree of package poly. -/
import Derived.Test.YtcbgamclcgcodaaGreatQYSt6
import Derived.Test.YtcbgamclcgcodaaGreatQYSg
set_option linter.unusedVariables false
namespace Go.Proofs.YtcbgamclcgcodaaGreat
open Go.RowKit Go.Front Go.Num Stab Sg
attribute [local go_sem] XW.cell XW.frozen
theorem gcdI_mon:∀ (f:Nat) (p q:List Rat),monV p = p→monV q = q→monV (gcdI f p q) = gcdI f p q:=by
 intro f
 induction f with
 | zero=>intro p q h _; exact h
 | succ f ih =>
  intro p q h k
  by_cases h0:q = []
  ·subst h0; rw [gcdI_nil]; exact h
  ·rw [gcdI_step h0]; exact ih q _ k (monV_mon _)
theorem gcdV_mon (p q:List Rat):monV (gcdV p q) = gcdV p q:=gcdI_mon _ _ _ (monV_mon p) (monV_mon q)
theorem gcdV_tzr (p q:List Rat):gcdV p (tz q) = gcdV p q:=by
 have h:monV (tz q) = monV q:=Pr.mon ⟨1,by decide,fun n=>by rw [seq_tz,Rat.one_mul]⟩
 unfold gcdV
 rw [tz_idem,h]
theorem gcd_ne {p:List Rat} (h:tz p ≠ []):tz (gcdV p (derL p)) ≠ []:=isg_ne h (dv_der (gcd_spec p (derL p)))
theorem gcd_dv (p:List Rat):Dv (evV (gcdV p (derL p))) (evV p):=(gcd_spec p (derL p)).1
theorem seq_nz {p:List Rat} {i:Nat} (h:seq p i ≠ 0):i < p.length:=Classical.byContradiction fun hn=>h (pd_over (by omega))
theorem quo_sz {p:List Rat} (h:tz p ≠ []) {T U:Nat} (hp:SzL T p) (hs:SzL U (sqfV p)):SzL (U + T) (quoV p (gcdV p (derL p))):=by
 have hg0:=gcd_ne h
 have he:=quo_exact hg0 (gcd_dv p)
 have ht:tz (quoV p (gcdV p (derL p))) = quoV p (gcdV p (derL p)):=(quo_rem p hg0).2.2.1
 have hsv:sqfV p = monV (quoV p (gcdV p (derL p))):=rfl
 have hgm:=gcdV_mon p (derL p)
 generalize quoV p (gcdV p (derL p)) = q at *
 generalize gcdV p (derL p) = g at *
 have hq0:tz q ≠ []:=fun h0=>by
  obtain ⟨y,hy⟩:=ne_ex h
  exact hy (by rw [he,ev_tznil.1 h0 y]; grind)
 obtain ⟨m,hm,hm0⟩:=len_ne hq0
 obtain ⟨k,hk,hk0⟩:=len_ne hg0
 have hgl:seq g k = 1:=by
  have h1:=mon_lead hg0
  rw [hgm] at h1
  unfold lead at h1
  rw [hk,tz_getD'] at h1
  exact h1
 have hlead:lead (tz q) = seq q m:=by
  unfold lead
  rw [hm,tz_getD']
  rfl
 have hsp:seq p (m + k) = seq q m:=by
  have h1:=ev_inj (p:=p) (q:=mul5V q g) (fun x=>by rw [ev_mul5,he x]; grind) (m + k)
  rw [h1,seq_mul,ap_cv]
  have b1:Bd (m + 1) (seq q):=by rw [← seq_tz,← hm]; exact Bd.seq _
  have b2:Bd (k + 1) (seq g):=by rw [← seq_tz,← hk]; exact Bd.seq _
  rw [cv_top b1 b2,hgl,Rat.mul_one]
 have hz:Sz T (seq p (m + k)):=hp.at (seq_nz (by rw [hsp]; exact hm0))
 rw [hsv,monV_eq hq0,hlead,ht] at hs
 intro x hx
 have h2:=hs _ (List.mem_map.2 ⟨x,hx,rfl⟩)
 have h3:=h2.mul hz
 rw [hsp] at h3
 have h4:x * (((1:Int):Rat) / seq q m) * seq q m = x:=by rw [Rat.mul_assoc,div_cancel hm0]; exact Rat.mul_one x
 rw [h4] at h3
 exact h3
theorem gcdV_tz (p q:List Rat):tz (gcdV p q) = gcdV p q:=by
 have h:=monV_tz (gcdV p q)
 rw [gcdV_mon] at h
 exact h
theorem gcd_len {p:List Rat} (h:tz p ≠ []):(gcdV p (derL p)).length≤p.length:=by
 have h1:=dv_len (gcd_dv p) h
 rw [gcdV_tz] at h1
 exact Nat.le_trans h1 (tz_len_le p)
theorem quo_len {p:List Rat} (h:tz p ≠ []):(quoV p (gcdV p (derL p))).length≤p.length:=by
 have hg0:=gcd_ne h
 have he:=quo_exact hg0 (gcd_dv p)
 have h1:=dv_len (a:=quoV p (gcdV p (derL p))) (b:=p) ⟨_,Pf.ev (gcdV p (derL p)),fun x=>by rw [he x]; grind⟩ h
 rw [(quo_rem p hg0).2.2.1] at h1
 exact Nat.le_trans h1 (tz_len_le p)
theorem sqf_len {p:List Rat} (h:tz p ≠ []):(sqfV p).length≤p.length:=by
 have h1:(sqfV p).length = (tz (quoV p (gcdV p (derL p)))).length:=monV_len _
 have h2:=tz_len_le (quoV p (gcdV p (derL p)))
 have:=quo_len h
 omega
theorem pow3_le {K X n:Nat} (h:(X + 1) * 3 ^ max n 1≤K):X + 1≤K / 3:=by
 have h1:(X + 1) * 3≤(X + 1) * 3 ^ max n 1:=Nat.mul_le_mul_left _ (by
  have:=Nat.pow_le_pow_right (n:=3) (by decide) (show 1≤max n 1 by omega)
  omega)
 omega
def FrK (K:Nat) (p:List Rat):Prop:=∃ S D,1≤S∧0 < D∧D < W32 ^ S∧FrL S D p∧(S + 2) * 3 ^ p.length≤K
theorem FrK.le {K L:Nat} {p:List Rat} (h:FrK K p) (hl:K≤L):FrK L p:=let ⟨S,D,h1,h2,h3,h4,h5⟩:=h; ⟨S,D,h1,h2,h3,h4,Nat.le_trans h5 hl⟩
theorem FrK.small {K S n:Nat} (h:(S + 2) * 3 ^ n≤K):S + 2≤K:=Nat.le_trans (Nat.le_mul_of_pos_right _ (Nat.pow_pos (by decide))) h
theorem FrK.small3 {K S n:Nat} (hn:1≤n) (h:(S + 2) * 3 ^ n≤K):S + 2≤K / 3:=by
 have h1:(S + 2) * 3≤(S + 2) * 3 ^ n:=Nat.mul_le_mul_left _ (by
  have:=Nat.pow_le_pow_right (n:=3) (by decide) hn
  omega)
 omega
theorem derT_len {p:List Rat} (h:tz p ≠ []):(tz (derL p)).length + 1≤p.length:=by
 obtain ⟨n,hn,-⟩:=len_ne h
 have:=der_len p n hn
 have:=tz_len_le p
 omega
set_option maxRecDepth 8000 in
set_option maxHeartbeats 8000000 in
theorem psqf_any (pa:Option Addr) (P pc:Nat) (p:List Rat) (K:Nat) (w:World) (h:CanL w ⟨pa,P,pc⟩ p) (hP:P≤1000) (h0:tz p ≠ []) (hk:FrK K p) (hK:K≤12000000) (hK2:(P + 1) * (K / 3)≤25000000) (hs:FrK K (sqfV p)) :
  Does 190 [.slice pa P pc] w SH.v (fun x w'=>CanL w' x (sqfV p)):=by
 obtain ⟨S,D,hS,hD,hD2,hf,hSK⟩:=hk
 obtain ⟨U,E,hU,hE,hE2,hfU,hUK⟩:=hs
 have LP:=Hi h.lin
 have HX:=Hi (Ext.refl w)
 have hlen:=h.len
 simp only at hlen
 have hp1:1≤p.length:=by
  have:=tz_len_le p
  have:=List.length_pos_iff.2 h0
  omega
 have hS3:=FrK.small3 hp1 hSK
 have hUs:=FrK.small hUK
 have hz:=hf.sz hS hD hD2
 have HSz:Hid (SzL S p):=Hi hz
 have HQ:Hid (SzL 16777216 (quoV p (gcdV p (derL p)))):=Hi ((quo_sz h0 hz (hfU.sz hU hE hE2)).mono (by omega))
 have HF:Hid (FrL (S + 1) D p):=Hi (hf.mono (by omega))
 have HF1:Hid (FrL S D p):=Hi hf
 have HDF:Hid (∀ x ∈ tz (derL p),Fr (S + 1) D x):=Hi (derL_fr hf (by omega))
 have hD3:D < W32 ^ (S + 1):=Nat.lt_of_lt_of_le hD2 (Nat.pow_le_pow_right W32_pos (by omega))
 have HDl:Hid ((tz (derL p)).length + 1≤P):=Hi (by rw [← hlen]; exact derT_len h0)
 have hgl0:(gcdV p (derL p)).length≤P:=by rw [← hlen]; exact gcd_len h0
 have hql0:(quoV p (gcdV p (derL p))).length≤P:=by rw [← hlen]; exact quo_len h0
 have HG0:Hid (tz (gcdV p (derL p)) ≠ []):=Hi (gcd_ne h0)
 have HSK:Hid ((S + 2) * 3 ^ P≤K):=Hi (by rw [← hlen]; exact hSK)
 have HPl:Hid (1≤P):=Hi (by omega)
 have hP1:P + 1≤1001:=by omega
 clear h hlen hf hfU hUK hSK hz h0 hp1
 unfold Does
 go_enter Tryz.func190,Tryz.ntmps190
 go_wp2_with fail
 refine Calls.mono (pder_any pa P pc p _ (LP.out.can.raw HSz.out (by omega)) (by omega) (HSz.out.mono (by omega))) ?_
 rintro e w1 ⟨x1,rfl,hE,g1⟩
 have G1:=Hi g1
 clear g1
 replace HX:=hE.tr HX
 replace LP:=Hi (LP.out.ext hE)
 have hs_w1:=hE.size
 clear hE
 obtain ⟨da,dn,dc⟩:=x1
 have HD3:Hid (LIn w1 ⟨da,dn,dc⟩ (tz (derL p)) w.heap.size w1.heap.size):=Hi G1.out
 clear G1
 have hdn:dn + 1≤P:=by have h1:=HD3.out.len; have h2:=HDl.out; simp only at h1; omega
 simp only [SH.v]
 go_wp2_with fail
 refine Calls.mono (pgcd_any pa da P pc dn dc p (tz (derL p)) (S + 1) D D _ LP.out.can HD3.out.can (by omega) (by omega) (by omega) hD hD3 hD hD3 HF.out HDF.out K (by rw [show max P (dn + 1) = P by omega]; exact HSK.out) (by omega)) ?_
 rintro e w2 ⟨x2,rfl,hE,g2⟩
 have G2:=Hi g2
 clear g2
 replace HX:=hE.tr HX
 replace LP:=Hi (LP.out.ext hE)
 replace HD3:=Hi (HD3.out.ext hE)
 have hs_w2:=hE.size
 clear hE
 rw [gcdV_tzr] at G2
 obtain ⟨ga,gn,gc⟩:=x2
 have HGL:=Hi G2.out.1.lin
 obtain ⟨X,F,hFX,hX1,hF0,hF2,hXK⟩:=G2.out.2
 have HFX:=Hi hFX
 have hX3:=pow3_le hXK
 clear G2 hFX hXK
 have hgl:=HGL.out.len
 simp only at hgl
 have hgn:0 < gn:=by
  have:=tz_len_le (gcdV p (derL p))
  have:=List.length_pos_iff.2 HG0.out
  omega
 obtain ⟨m,rfl⟩:∃ m,gn = m + 1:=⟨gn - 1,by omega⟩
 have hz0:((m:Int) + 1 == 0) = false:=by rw [beq_eq_false_iff_ne]; omega
 have hgm:m + 1≤P:=by omega
 clear HD3
 have hm1:P * (X + 1)≤P * (K / 3):=Nat.mul_le_mul_left _ hX3
 have hm2:(P + 1) * (K / 3) = P * (K / 3) + K / 3:=Nat.succ_mul _ _
 (try dsimp only)
 go_wp2_with fail
 refine Calls.mono (pdivmod_any pa ga P pc (m + 1) gc p (gcdV p (derL p)) S X D F _ LP.out.can HGL.out.can (by omega) (by omega) hS hX1 hD hD2 hF0 hF2 HF1.out HFX.out HG0.out (by omega) (by omega)) ?_
 rintro e w3 ⟨x3,rfl,hE,g3⟩
 have G3:=Hi g3
 clear g3
 replace HX:=hE.tr HX
 replace LP:=Hi (LP.out.ext hE)
 replace HGL:=Hi (HGL.out.ext hE)
 have hs_w3:=hE.size
 clear hE
 obtain ⟨⟨qa,qn,qc⟩,⟨ra,rn,rc⟩⟩:=x3
 have HQL:=Hi G3.out.1.lin
 clear G3
 have hqn:=HQL.out.len
 simp only at hqn
 (try dsimp only)
 go_wp2_with fail
 refine Calls.mono (pmonic_any qa qn qc (quoV p (gcdV p (derL p))) 16777216 _ HQL.out.can (by omega) (by omega) HQ.out) ?_
 rintro e w4 ⟨x4,rfl,hE,g4⟩
 have G4:=Hi g4
 clear g4
 replace HX:=hE.tr HX
 replace LP:=Hi (LP.out.ext hE)
 replace HGL:=Hi (HGL.out.ext hE)
 replace HQL:=Hi (HQL.out.ext hE)
 have hs_w4:=hE.size
 clear hE
 go_wp2
 go_ret
 exact ⟨x4,rfl,HX.out,G4.out⟩
end Go.Proofs.YtcbgamclcgcodaaGreat
/- newChain, variations, rootAt, between of package sturm; checked. -/
set_option linter.unusedVariables false
set_option maxRecDepth 8000
set_option maxHeartbeats 4000000
namespace Go.Proofs.YtcbgamclcgcodaaGreat
open Go.RowKit Go.Front Go.Num Stab Sg
attribute [local go_sem] XW.cell XW.frozen
theorem spec_callf {P:Program} {o:Oper} {a:Act} {α:Type} {mk:α→Value} {φ:α→World→Prop} {w:World} {f:FuncId} {fn:Func} {t:Operand} {xs:Array Operand} {ats:Array TypeId} (first:Array Value) (args:List Value)
  (ho:o.op = .call { callee:=.value t,args:=xs,argTypes:=ats }) (ht:a.eval t = .func (.func f) first #[]) (ha:first.toList ++ xs.toList.map a.eval = args)
  (hf:P.funcs[f]? = some fn) (hn:(fn.name == "runtime.NumGoroutine") = false) (hb:fn.body.isNone = false)
  (h:Calls P f args.toArray w (fun e w''=>∃ x,e = .returned (mk x)∧Ext w w''∧φ x w'')):specAt P o a w mk φ:=by
 obtain ⟨dst,op,type,pos,after,guard⟩:=o
 simp only at ho
 subst ho
 unfold specAt
 have ha':first ++ xs.map a.eval ++ #[] = args.toArray:=by
  rw [← ha,Array.append_empty]; apply Array.ext'; simp
 have:execOp a.eval { dst,op:=.call { callee:=.value t,args:=xs,argTypes:=ats },type,pos,after,guard } = callFunc f (first ++ xs.map a.eval ++ #[]):=by
  simp only [execOp,resolve,ht,Deferred.ofValue]
  rfl
 rw [this,ha',run_callFunc hf hn hb]
 exact ⟨Ext.refl _,h⟩
def chkV (p:List Rat):Int:=if 49 < (tz p).length then 12 else if tz p = [] then 3 else 0
theorem schk_any (ao:Option Addr) (n c:Nat) (p:List Rat) (w:World) (h:RawL w ⟨ao,n,c⟩ p):Does 107 [.slice ao n c] w (fun _:Unit=>.int .i64 (chkV p)) (fun _ _=>True):=by
 have HX:=Hi (Ext.refl w)
 have HP:=Hi h
 clear h
 unfold Does
 go_enter Tryz.func107,Tryz.ntmps107
 go_wp2_with fail
 refine Calls.mono (pdegree_any ao n c p _ HP.out) ?_
 rintro e w5 ⟨x5,rfl,hE,-⟩
 replace HX:=hE.tr HX
 have hs_w5:=hE.size
 clear hE
 obtain ⟨P,hP⟩:∃ P,P = (tz p).length:=⟨_,rfl⟩
 rw [← hP]
 by_cases h1:49 < P
 ·have e:chkV p = 12:=by unfold chkV; rw [← hP,if_pos h1]
  have E:=Hi e
  clear e
  have h2:(48:Int) < (P:Int) - 1:=by omega
  go_wp2
  go_ret
  exact ⟨(),by rw [E.out]; rfl,HX.out,trivial⟩
 ·have h2:¬ (48:Int) < (P:Int) - 1:=by omega
  by_cases h3:P = 0
  ·have e:chkV p = 3:=by unfold chkV; rw [← hP,if_neg h1,if_pos (List.length_eq_zero_iff.1 (by omega))]
   have E:=Hi e
   clear e
   have h4:(P:Int) - 1 < 0:=by omega
   go_wp2
   go_ret
   exact ⟨(),by rw [E.out]; rfl,HX.out,trivial⟩
  ·have e:chkV p = 0:=by unfold chkV; rw [← hP,if_neg h1,if_neg (fun h=>h3 (by rw [hP,h]; rfl))]
   have E:=Hi e
   clear e
   have h4:¬ (P:Int) - 1 < 0:=by omega
   go_wp2
   go_ret
   exact ⟨(),by rw [E.out]; rfl,HX.out,trivial⟩
theorem ChM.at {w:World} {lo B:Nat} {va:Option Addr} {vn vc:Nat} {ms:List (List Rat)} (h:ChM w lo B (SH.v ⟨va,vn,vc⟩) ms):vn = ms.length∧∀ k,k < ms.length→∃ L a n c,va = some ⟨L,0,none⟩∧L < w.heap.size∧w.cell? ⟨L,k,none⟩ = some (.slice a n c)∧CanL w ⟨a,n,c⟩ (ms.getD k []):=by
 obtain ⟨xs,h1,h2,h3⟩:=h
 rcases h1 with ⟨e,rfl⟩ | ⟨L,cap,re,e,g1,g2,g3⟩
 ·simp only [SH.v,Value.slice.injEq] at e
  refine ⟨by rw [e.2.1,← h2]; rfl,fun k hk=>?_⟩
  rw [← h2] at hk
  simp at hk
 ·simp only [SH.v,Value.slice.injEq] at e
  refine ⟨by rw [e.2.1,h2],fun k hk=>?_⟩
  obtain ⟨b,-,-,h4⟩:=h3 k hk
  exact ⟨L,_,_,_,e.1,g2.lt,g2.cell (by omega),h4.can⟩
structure ChK (w:World) (v:SH) (ms:List (List Rat)) (K:Nat):Prop where
 ch:∃ lo B,ChM w lo B v.v ms
 wz:∀ m ∈ ms,∀ y ∈ m,Wz K y
 ln:ms.length≤1000
 ml:∀ m ∈ ms,m.length≤1000
 k1:1≤K
 k2:K≤30000000
theorem ChK.ext {w w':World} {v:SH} {ms:List (List Rat)} {K:Nat} (h:ChK w v ms K) (he:Ext w w'):ChK w' v ms K :=
 ⟨let ⟨lo,B,h1⟩:=h.ch; ⟨lo,B,h1.ext he⟩,h.wz,h.ln,h.ml,h.k1,h.k2⟩
theorem ChK.len {w:World} {va:Option Addr} {vn vc:Nat} {ms:List (List Rat)} {K:Nat} (h:ChK w ⟨va,vn,vc⟩ ms K):vn = ms.length:=let ⟨_,_,h1⟩:=h.ch; h1.at.1
theorem ChK.at {w:World} {va:Option Addr} {vn vc:Nat} {ms:List (List Rat)} {K k:Nat} (h:ChK w ⟨va,vn,vc⟩ ms K) (hk:k < ms.length):∃ L a n c,va = some ⟨L,0,none⟩∧L < w.heap.size∧w.cell? ⟨L,k,none⟩ = some (.slice a n c)∧CanL w ⟨a,n,c⟩ (ms.getD k [])∧n≤1000∧∀ y ∈ ms.getD k [],Wz K y:=by
 obtain ⟨lo,B,h1⟩:=h.ch
 obtain ⟨L,a,n,c,e1,e2,e3,e4⟩:=h1.at.2 k hk
 have hm:ms.getD k [] ∈ ms:=by
  rw [List.getD_eq_getElem?_getD,List.getElem?_eq_getElem hk]
  exact List.getElem_mem _
 refine ⟨L,a,n,c,e1,e2,e3,e4,?_,h.wz _ hm⟩
 have:=h.ml _ hm
 have:=e4.len
 simp only at this
 omega
theorem drop_map {α β:Type} (f:α→β) (l:List α) (d:α) {k:Nat} (hk:k < l.length):(l.drop k).map f = f (l.getD k d) :: (l.drop (k + 1)).map f:=by
 rw [List.drop_eq_getElem_cons hk,List.map_cons,List.getD_eq_getElem?_getD,List.getElem?_eq_getElem hk]
 rfl
theorem svar_any (v:SH) (ms:List (List Rat)) (K:Nat) (t:RH) (x:Rat) (T:Nat) (w:World) (hc:ChK w v ms K) (ht:CanR w t x) (hx:Sz T x) (hT:1≤T) (hT3:T≤1000) :
  Does 109 [CV v,t.v] w (fun _:Unit=>.int .i64 (varV ms x)) (fun _ _=>True):=by
 obtain ⟨va,vn,vc⟩:=v
 obtain ⟨tn,ta,tl,tc,tb,tm,td⟩:=t
 have HX:=Hi (Ext.refl w)
 have HC:=Hi hc
 have HT:=Hi ht
 have ZX:=Hi hx
 obtain rfl:=hc.len
 have hK1:=hc.k1
 have hK2:=hc.k2
 have hl:=hc.ln
 clear hc ht hx
 unfold Does
 go_enter Tryz.func109,Tryz.ntmps109
 simp only [CV,SH.v]
 go_upto_region 1 with fail
 refine nm_alloc2 ?_
 intro w1 hE hB0 hB1 hz
 have hz_w1:=nle hz
 have hr_w1:=nle hz.symm
 clear hz
 replace HX:=hE.tr HX
 replace HC:=Hi (HC.out.ext hE)
 replace HT:=Hi (HT.out.ext hE)
 have hs_w1:=hE.size
 clear hE
 have B2:=Hi hB0
 clear hB0
 obtain ⟨c_B2,f_B2,l_B2⟩:=blk3 B2.out
 have B3:=Hi hB1
 clear hB1
 obtain ⟨c_B3,f_B3,l_B3⟩:=blk3 B3.out
 obtain ⟨b3,hb3⟩:∃ b3,b3 = w.heap.size + 1:=⟨_,rfl⟩
 have hb3w:b3 < w1.heap.size:=by omega
 rw [← hb3] at B3 ⊢
 clear c_B3 f_B3 l_B3
 have c_B3:=blk_cell B3.out
 have f_B3:=blk_frozen B3.out
 clear hb3
 go_wp2
 go_loopg [5,6,13] ms.length (fun g cv lv iv wr=>∃ (k cnt:Nat) (la:Int),k + g = ms.length∧iv = .int .i64 (k:Nat)∧cv = .int .i64 (cnt:Nat)∧lv = .int .i64 la∧Ext w wr∧Ext w1 wr∧cnt + vr la ((ms.drop k).map fun m=>Sg.sg (evV m x)) = varV ms x∧cnt≤k∧IsS la)
 case atStart=>exact ⟨0,0,0,by omega,rfl,rfl,rfl,HX.out,Ext.refl _,by rw [Nat.zero_add]; rfl,Nat.le_refl _,Or.inr (Or.inl rfl)⟩
 case round =>
  obtain ⟨k,cnt,la,hk,rfl,rfl,rfl,g1,g2,g3,g4,g5⟩:=hrel
  clear HX
  have HX:=Hi g1
  have HX7:=Hi g2
  have HC2:=Hi (HC.out.ext g2)
  have HT2:=Hi (HT.out.ext g2)
  have B32:=Hi (g2.block B3.out)
  have HV:=Hi g3
  have hla:-1≤la∧la≤1:=by unfold IsS at g5; omega
  have HLA:=Hi g5
  have hb3r:=g2.size
  clear g1 g2 g3 g5 c_B2 f_B2 l_B2 c_B3 f_B3
  try clear c_B32 f_B32 l_B32
  obtain ⟨c_B32,f_B32,l_B32⟩:=blk3 B32.out
  by_cases h0:gk = 0
  case pos =>
   subst h0
   obtain rfl:k = ms.length:=by omega
   have HE:Hid (cnt = varV ms x):=Hi (by have:=HV.out; rw [List.drop_length,List.map_nil] at this; exact this)
   have hin:¬ ((ms.length:Nat):Int) < (ms.length:Nat):=by omega
   go_wp2
   go_ret
   exact ⟨(),by rw [HE.out]; rfl,HX.out,trivial⟩
  have hin:(k:Int) < (ms.length:Nat):=by omega
  have hkn:k < ms.length:=by omega
  obtain ⟨L,a,n,c,hva,hLl,hcell,hcan,hn,hwz⟩:=HC2.out.at (k:=k) hkn
  subst hva
  have HL:=Hi hcan
  have HW:=Hi hwz
  have HD:=Hi (drop_map (fun m=>Sg.sg (evV m x)) ms [] hkn)
  clear hcan hwz
  go_wp2_with fail
  refine Calls.mono (ssign_any a n c (ms.getD k []) ⟨tn,ta,tl,tc,tb,tm,td⟩ x K T _ HL.out HT2.out hn HW.out ZX.out hT hK1 hK2 hT3) ?_
  rintro e w19 ⟨x19,rfl,hE,-⟩
  replace HX:=hE.tr HX
  replace HX7:=hE.tr HX7
  replace HC2:=Hi (HC2.out.ext hE)
  replace HT2:=Hi (HT2.out.ext hE)
  replace B32:=hE.bl B32
  replace HL:=Hi (HL.out.ext hE)
  have hs_w19:=hE.size
  clear hE
  try clear c_B32 f_B32 l_B32
  obtain ⟨c_B32,f_B32,l_B32⟩:=blk3 B32.out
  rw [HD.out] at HV
  have hs:=sg_is (evV (ms.getD k []) x)
  obtain ⟨s,es⟩:∃ s,s = Sg.sg (evV (ms.getD k []) x):=⟨_,rfl⟩
  rw [← es] at HV hs ⊢
  have HS:=Hi hs
  clear es HD HL HW hcell
  have hs2:-1≤s∧s≤1:=by unfold IsS at hs; omega
  clear hs
  obtain ⟨rl,hrl⟩:∃ rl,rl = (ms.drop (k + 1)).map fun m=>Sg.sg (evV m x):=⟨_,rfl⟩
  rw [← hrl] at HV
  have HRL:=Hi hrl
  clear hrl
  by_cases hs0:s = 0
  case pos =>
   subst hs0
   have HV2:Hid (cnt + vr la rl = varV ms x):=Hi (by have:=HV.out; rw [show vr la (0 :: rl) = vr la rl by simp [vr]] at this; exact this)
   clear HV
   go_wp2
   go_roundg (gk - 1)
   case measure=>omega
   case rel=>exact ⟨k + 1,cnt,la,by omega,by go_num,rfl,rfl,HX.out,HX7.out,by rw [← HRL.out]; exact HV2.out,by omega,HLA.out⟩
  have hsb:(s == 0) = false:=by rw [beq_eq_false_iff_ne]; exact hs0
  by_cases hl0:la = 0
  case pos =>
   subst hl0
   have HV2:Hid (cnt + vr s rl = varV ms x):=Hi (by have:=HV.out; rw [show vr 0 (s :: rl) = vr s rl by simp [vr,hs0]] at this; exact this)
   clear HV
   go_wp2
   go_roundg (gk - 1)
   case measure=>omega
   case rel=>exact ⟨k + 1,cnt,s,by omega,by go_num,rfl,rfl,HX.out,HX7.out,by rw [← HRL.out]; exact HV2.out,by omega,HS.out⟩
  have hlb:(la == 0) = false:=by rw [beq_eq_false_iff_ne]; exact hl0
  by_cases hsl:s = la
  case pos =>
   subst hsl
   have HV2:Hid (cnt + vr s rl = varV ms x):=Hi (by have:=HV.out; rw [show vr s (s :: rl) = vr s rl by simp [vr,hs0]] at this; exact this)
   clear HV
   go_wp2
   go_roundg (gk - 1)
   case measure=>omega
   case rel=>exact ⟨k + 1,cnt,s,by omega,by go_num,rfl,rfl,HX.out,HX7.out,by rw [← HRL.out]; exact HV2.out,by omega,HS.out⟩
  have hslb:(s == la) = false:=by rw [beq_eq_false_iff_ne]; exact hsl
  have hlb2:(la != 0) = true:=by rw [bne,hlb]; rfl
  have hslb2:(s != la) = true:=by rw [bne,hslb]; rfl
  have HV2:Hid ((cnt + 1) + vr s rl = varV ms x):=Hi (by have:=HV.out; rw [show vr la (s :: rl) = 1 + vr s rl by simp [vr,hs0,hl0,hsl]] at this; omega)
  clear HV
  go_wp2
  go_roundg (gk - 1)
  case measure=>omega
  case rel=>exact ⟨k + 1,cnt + 1,s,by omega,by go_num,by go_num,rfl,HX.out,HX7.out,by rw [← HRL.out]; exact HV2.out,by omega,HS.out⟩
theorem srootat_any (v:SH) (ms:List (List Rat)) (K:Nat) (t:RH) (x:Rat) (T:Nat) (w:World) (hc:ChK w v ms K) (h0:0 < ms.length) (ht:CanR w t x) (hx:Sz T x) (hT:1≤T) (hT3:T≤1000) :
  Does 110 [CV v,t.v] w (fun _:Unit=>.bool (rtV ms x)) (fun _ _=>True):=by
 obtain ⟨va,vn,vc⟩:=v
 obtain ⟨tn,ta,tl,tc,tb,tm,td⟩:=t
 have HX:=Hi (Ext.refl w)
 have HC:=Hi hc
 have HT:=Hi ht
 have ZX:=Hi hx
 have hvl:=hc.len
 obtain ⟨N,rfl⟩:∃ N,vn = N + 1:=⟨vn - 1,by omega⟩
 have hK1:=hc.k1
 have hK2:=hc.k2
 have hl:=hc.ln
 clear hc ht hx
 unfold Does
 go_enter Tryz.func110,Tryz.ntmps110
 simp only [CV,SH.v]
 go_upto_region 1 with fail
 refine nm_alloc2 ?_
 intro w1 hE hB0 hB1 hz
 have hz_w1:=nle hz
 have hr_w1:=nle hz.symm
 clear hz
 replace HX:=hE.tr HX
 replace HC:=Hi (HC.out.ext hE)
 replace HT:=Hi (HT.out.ext hE)
 have hs_w1:=hE.size
 clear hE
 have B2:=Hi hB0
 clear hB0
 obtain ⟨c_B2,f_B2,l_B2⟩:=blk3 B2.out
 have B3:=Hi hB1
 clear hB1
 obtain ⟨c_B3,f_B3,l_B3⟩:=blk3 B3.out
 obtain ⟨L,a,n,c,hva,hLl,hcell,hcan,hn,hwz⟩:=HC.out.at (k:=0) h0
 subst hva
 have HL:=Hi hcan
 have HW:=Hi hwz
 have hin:(0:Int) < (N:Int) + 1:=by omega
 clear hcan hwz
 obtain ⟨s,hs⟩:∃ s,s = Sg.sg (evV (ms.getD 0 []) x):=⟨_,rfl⟩
 have HSE:=Hi hs
 have HV:Hid (rtV ms x = (s == 0)):=Hi (by
  unfold rtV
  rw [← hs]
  by_cases h:s = 0
  ·rw [h]; rfl
  ·rw [decide_eq_false h,beq_eq_false_iff_ne.2 h])
 clear hs
 refine wp_region_front 8 (fun opIx=>match opIx with
  | 5=>.spec Unit () (fun _=>.int .i64 s) (fun _ _=>True)
  | _=>.quiet) (fun _=>[]) (by kernel_rfl) (by kernel_rfl) (fun w0 he0 hz0 hc0 hf0=>?_)
 replace he0:=Hi he0
 simp only [pT]
 repeat (refine wpq fun K h=>?_; go_big_quiet_op; refine h _ ?_; clear h K)
 refine wps he0.out rfl rfl (fun w1 hW hG=>?_) fun x20=>?_
 ·exact spc [.slice a n c,RH.v ⟨tn,ta,tl,tc,tb,tm,td⟩] Tryz.func114 ((by rw [HSE.out]; exact ssign_any a n c (ms.getD 0 []) ⟨tn,ta,tl,tc,tb,tm,td⟩ x K T _ (HL.out.ext hW) (HT.out.ext hW) hn HW.out ZX.out hT hK1 hK2 hT3))
 simp only [pS]
 repeat (refine wpq fun K h=>?_; go_big_quiet_op; refine h _ ?_; clear h K)
 refine wpF_nil ?_
 intro w2 hI
 have hE:=he0.out.trans hI.ext
 clear hI he0 hz0 hc0 hf0
 replace HX:=hE.tr HX
 replace HC:=Hi (HC.out.ext hE)
 replace HT:=Hi (HT.out.ext hE)
 replace B2:=hE.bl B2
 replace B3:=hE.bl B3
 replace HL:=Hi (HL.out.ext hE)
 have hs_w2:=hE.size
 clear hE
 try clear c_B2 f_B2 l_B2
 obtain ⟨c_B2,f_B2,l_B2⟩:=blk3 B2.out
 try clear c_B3 f_B3 l_B3
 obtain ⟨c_B3,f_B3,l_B3⟩:=blk3 B3.out
 simp only [pD]
 go_wp2
 go_ret
 exact ⟨(),by rw [HV.out]; rfl,HX.out,trivial⟩
end Go.Proofs.YtcbgamclcgcodaaGreat
/- newChain of package sturm. -/
set_option linter.unusedVariables false
namespace Go.Proofs.YtcbgamclcgcodaaGreat
open Go.RowKit Go.Front Go.Num Stab Sg
attribute [local go_sem] XW.cell XW.frozen
theorem chn_len:∀ (n:Nat) (a b:List Rat),(chn n a b).length≤n:=by
 intro n
 induction n with
 | zero=>intro a b; exact Nat.le_refl _
 | succ n ih =>
  intro a b
  by_cases ha:a = []
  ·rw [show chn (n + 1) a b = [] by simp [chn,ha]]; exact Nat.zero_le _
  ·by_cases hb:b = []
   ·subst hb; rw [chn_nil ha]; simp
   ·rw [chn_cons ha hb,List.length_cons]
    exact Nat.succ_le_succ (ih _ _)
theorem chn_mem {L:Nat}:∀ (n:Nat) (a b:List Rat),a.length≤L→b.length≤L→tz b = b→∀ m ∈ chn n a b,m.length≤L:=by
 intro n
 induction n with
 | zero=>intro a b _ _ _ m hm; simp [chn] at hm
 | succ n ih =>
  intro a b ha hb ht m hm
  by_cases ha0:a = []
  ·rw [show chn (n + 1) a b = [] by simp [chn,ha0]] at hm; simp at hm
  ·by_cases hb0:b = []
   ·subst hb0
    rw [chn_nil ha0] at hm
    obtain rfl:m = a:=by simpa using hm
    exact ha
   ·rw [chn_cons ha0 hb0] at hm
    rcases List.mem_cons.1 hm with rfl | hm
    ·exact ha
    ·have:=rem_len a b (by rw [ht]; exact hb0)
     rw [ht] at this
     exact ih _ _ hb (by omega) (spl_tz _) m hm
theorem rems_len (p:List Rat):(remsV p).length≤p.length + 1:=chn_len _ _ _
theorem rems_mem {p:List Rat} (h:tz p ≠ []):∀ m ∈ remsV p,m.length≤p.length:=by
 refine chn_mem _ _ _ ?_ ?_ (spl_tz _)
 ·rw [spl_len]; exact tz_len_le p
 ·rw [spl_len]; have:=derT_len h; omega
theorem rems_pos {p:List Rat} (h:tz p ≠ []):0 < (remsV p).length:=by
 obtain ⟨l,e⟩:=rems_head h
 rw [e]; exact Nat.succ_pos _
theorem rems_last {p:List Rat} (h:tz p ≠ []) {N:Nat} (hN:(remsV p).length = N + 1):(remsV p).getLast?.getD [] = (remsV p).getD N []∧tz ((remsV p).getD N []) = (remsV p).getD N []:=by
 have h1:(remsV p).getLast?.getD [] = (remsV p).getD N []:=by
  rw [List.getLast?_eq_getElem?,hN,List.getD_eq_getElem?_getD]
  rfl
 have hlen:(splL (derL p)).length≤p.length:=by
  rw [spl_len]; have:=derT_len h; omega
 obtain ⟨e,k1,k2,k3,-⟩:=chn_last p.length (splL p) (splL (derL p)) hlen (spl_tz _) (spl_tz _) (fun h0=>h (spl_ne.1 h0))
 have h7:(remsV p).getLast? = some e:=k1
 refine ⟨h1,?_⟩
 rw [← h1,h7]
 exact k3
theorem ChM.chk {w:World} {lo B:Nat} {v:SH} {r:List Rat} {K:Nat} (h:ChM w lo B v.v (remsV r)) (hr:tz r ≠ []) (hl:r.length≤999) (hW:∀ m ∈ remsV r,∀ y ∈ m,Wz K y) (h1:1≤K) (h2:K≤30000000):ChK w v (remsV r) K :=
 ⟨⟨lo,B,h⟩,hW,by have:=rems_len r; omega,fun m hm=>by have:=rems_mem hr m hm; omega,h1,h2⟩
set_option maxRecDepth 8000 in
set_option maxHeartbeats 8000000 in
theorem snew_any (pa:Option Addr) (P pc:Nat) (p:List Rat) (K:Nat) (w:World) (h:CanL w ⟨pa,P,pc⟩ p) (hP:P≤900) (h0:tz p ≠ []) (hk:FrK K p) (hK:K≤12000000) (hK2:(P + 1) * (K / 3)≤25000000) (hs:FrK K (sqfV p)) :
  Does 108 [.slice pa P pc] w CV (fun x w'=>ChK w' x (remsV (rootV p)) K):=by
 have HK1:=Hi hk
 have HK2:=Hi hs
 obtain ⟨S,D,hS,hD,hD2,hf,hSK⟩:=hk
 obtain ⟨U,E,hU,hE,hE2,hfU,hUK⟩:=hs
 have LP:=Hi h.lin
 have HX:=Hi (Ext.refl w)
 have hlen:=h.len
 simp only at hlen
 have H0:=Hi h0
 have HF:=Hi hf
 have HFU:=Hi hfU
 have HSK:Hid ((S + 2) * 3 ^ P≤K):=Hi (by rw [← hlen]; exact hSK)
 have hUs:=FrK.small hUK
 have HUK:Hid ((U + 2) * 3 ^ (sqfV p).length≤K):=Hi hUK
 have hsl:(sqfV p).length≤P:=by rw [← hlen]; exact sqf_len h0
 have hK1:1≤K:=by omega
 obtain ⟨N,hN⟩:∃ N,(remsV p).length = N + 1:=⟨(remsV p).length - 1,by have:=rems_pos h0; omega⟩
 have hN2:N≤P:=by have:=rems_len p; omega
 have HLA:=Hi (rems_last h0 hN)
 have HPl:Hid (p.length = P):=Hi hlen
 have HRT:=Hi (sqf_rt h0).ne
 have HMm:Hid ((remsV p).getD N [] ∈ remsV p):=Hi (by
  rw [List.getD_eq_getElem?_getD,List.getElem?_eq_getElem (by omega)]
  exact List.getElem_mem _)
 have HRV:Hid (rootV p = if 2≤(tz ((remsV p).getD N [])).length then sqfV p else p):=Hi (by
  unfold rootV
  rw [HLA.out.1,HLA.out.2])
 clear h hlen hf hfU hSK hUK h0
 unfold Does
 go_enter Tryz.func108,Tryz.ntmps108
 go_upto_region 1 with fail
 refine nm_alloc ?_
 intro w1 hE hB0 hz
 have hz_w1:=nle hz
 have hr_w1:=nle hz.symm
 clear hz
 replace HX:=hE.tr HX
 replace LP:=Hi (LP.out.ext hE)
 have hs_w1:=hE.size
 clear hE
 have B2:=Hi hB0
 clear hB0
 obtain ⟨c_B2,f_B2,l_B2⟩:=blk3 B2.out
 go_wp2_with fail
 refine Calls.mono (srems_any pa P pc p S D K _ LP.out.can (by omega) H0.out hS hD hD2 HF.out HSK.out (by omega)) ?_
 rintro e w5 ⟨x5,rfl,hE,g5⟩
 have G5:=Hi g5
 clear g5
 replace HX:=hE.tr HX
 replace LP:=Hi (LP.out.ext hE)
 replace B2:=hE.bl B2
 have hs_w5:=hE.size
 clear hE
 try clear c_B2 f_B2 l_B2
 obtain ⟨c_B2,f_B2,l_B2⟩:=blk3 B2.out
 obtain ⟨xa,xn,xc⟩:=x5
 obtain ⟨⟨B,hB,hch⟩,hwz⟩:=G5.out
 have HC:=Hi hch
 have HW:=Hi hwz
 clear G5 hch hwz
 go_upto_region 2 with fail
 refine nm_alloc ?_
 intro w6 hE hB0 hz
 have hz_w6:=nle hz
 have hr_w6:=nle hz.symm
 clear hz
 replace HX:=hE.tr HX
 replace LP:=Hi (LP.out.ext hE)
 replace B2:=hE.bl B2
 replace HC:=Hi (HC.out.ext hE)
 have hs_w6:=hE.size
 clear hE
 try clear c_B2 f_B2 l_B2
 obtain ⟨c_B2,f_B2,l_B2⟩:=blk3 B2.out
 have B3:=Hi hB0
 clear hB0
 obtain ⟨c_B3,f_B3,l_B3⟩:=blk3 B3.out
 obtain ⟨hxn,hat⟩:=HC.out.at
 rw [hN] at hxn
 subst hxn
 obtain ⟨L,a,n,c,hva,hLl,hcell,hcan⟩:=hat N (by omega)
 subst hva
 have HL:=Hi hcan
 have HZ:Hid (SzL K ((remsV p).getD N [])):=Hi (fun y hy=>(HW.out _ HMm.out y hy).sz hK1)
 obtain ⟨D2,hD2e⟩:∃ D2,D2 = (tz ((remsV p).getD N [])).length:=⟨_,rfl⟩
 have HDe:=Hi hD2e
 rw [← hD2e] at HRV
 clear hat hcan
 have hN1:((N:Int) + 1) - 1 = N:=by omega
 have hN3:(N:Int) < (N:Int) + 1:=by omega
 go_wp2_with fail
 refine Calls.mono (pdegree_any a n c ((remsV p).getD N []) _ (HL.out.raw HZ.out (by omega))) ?_
 rintro e w14 ⟨x14,rfl,hE,-⟩
 replace HX:=hE.tr HX
 replace LP:=Hi (LP.out.ext hE)
 replace B2:=hE.bl B2
 replace HC:=Hi (HC.out.ext hE)
 replace B3:=hE.bl B3
 replace HL:=Hi (HL.out.ext hE)
 have hs_w14:=hE.size
 clear hE
 try clear c_B2 f_B2 l_B2
 obtain ⟨c_B2,f_B2,l_B2⟩:=blk3 B2.out
 try clear c_B3 f_B3 l_B3
 obtain ⟨c_B3,f_B3,l_B3⟩:=blk3 B3.out
 rw [← hD2e]
 clear hD2e hcell
 clear HL
 by_cases hd:2≤D2
 case pos =>
  have hd2:(0:Int) < (D2:Int) - 1:=by omega
  have HV:Hid (rootV p = sqfV p):=Hi (by rw [HRV.out,if_pos hd])
  clear hd
  go_wp2_with fail
  refine Calls.mono (psqf_any pa P pc p K _ LP.out.can (by omega) H0.out HK1.out hK hK2 HK2.out) ?_
  rintro e w17 ⟨x17,rfl,hE,g17⟩
  have G17:=Hi g17
  clear g17
  replace HX:=hE.tr HX
  replace LP:=Hi (LP.out.ext hE)
  replace B2:=hE.bl B2
  replace HC:=Hi (HC.out.ext hE)
  replace B3:=hE.bl B3
  have hs_w17:=hE.size
  clear hE
  try clear c_B2 f_B2 l_B2
  obtain ⟨c_B2,f_B2,l_B2⟩:=blk3 B2.out
  try clear c_B3 f_B3 l_B3
  obtain ⟨c_B3,f_B3,l_B3⟩:=blk3 B3.out
  obtain ⟨qa,qn,qc⟩:=x17
  have HQ:=Hi G17.out.lin
  have hqn:=HQ.out.len
  simp only at hqn
  clear G17
  clear HC
  clear LP
  simp only [SH.v]
  go_wp2_with fail
  refine Calls.mono (srems_any qa qn qc (sqfV p) U E K _ HQ.out.can (by omega) HRT.out hU hE hE2 HFU.out (by rw [← hqn]; exact HUK.out) (by omega)) ?_
  rintro e w18 ⟨x18,rfl,hE,g18⟩
  have G18:=Hi g18
  clear g18
  replace HX:=hE.tr HX
  replace B2:=hE.bl B2
  replace B3:=hE.bl B3
  replace HQ:=Hi (HQ.out.ext hE)
  have hs_w18:=hE.size
  clear hE
  try clear c_B2 f_B2 l_B2
  obtain ⟨c_B2,f_B2,l_B2⟩:=blk3 B2.out
  try clear c_B3 f_B3 l_B3
  obtain ⟨c_B3,f_B3,l_B3⟩:=blk3 B3.out
  obtain ⟨ya,yn,yc⟩:=x18
  obtain ⟨⟨B',hB',hch'⟩,hwz'⟩:=G18.out
  have HC2:=Hi hch'
  have HW2:=Hi hwz'
  clear G18 hch' hwz'
  clear HQ
  go_upto_region 4 with fail
  refine nm_set1 B3.out rfl ?_
  intro w19 T
  replace HX:=Hi (T.ext HX.out (by omega))
  replace B2:=Hi (T.rest _ _ (by omega) B2.out)
  replace B3:=Hi (T.bx)
  replace HC2:=Hi (HC2.out.put T (by omega))
  have hs_w19:=nle T.size
  have hr_w19:=nle T.size.symm
  clear T
  try clear c_B2 f_B2 l_B2
  obtain ⟨c_B2,f_B2,l_B2⟩:=blk3 B2.out
  try clear c_B3 f_B3 l_B3
  obtain ⟨c_B3,f_B3,l_B3⟩:=blk3 B3.out
  go_wp2
  refine nm_set1 (F:=fun W=>bodyPost _ _ _ _ _ W) B2.out rfl ?_
  intro w20 T
  replace HX:=Hi (T.ext HX.out (by omega))
  replace B2:=Hi (T.bx)
  replace B3:=Hi (T.rest _ _ (by omega) B3.out)
  replace HC2:=Hi (HC2.out.put T (by omega))
  have hs_w20:=nle T.size
  have hr_w20:=nle T.size.symm
  clear T
  try clear c_B2 f_B2 l_B2
  obtain ⟨c_B2,f_B2,l_B2⟩:=blk3 B2.out
  try clear c_B3 f_B3 l_B3
  obtain ⟨c_B3,f_B3,l_B3⟩:=blk3 B3.out
  exact bodyPost_ret (v:=CV ⟨ya,yn,yc⟩) (by simp [results,Tryz.results108,go_sem,CV,c_B2]) rfl ⟨⟨ya,yn,yc⟩,rfl,HX.out,by rw [HV.out]; exact HC2.out.chk HRT.out (by omega) HW2.out hK1 (by omega)⟩
 have hd2:¬ (0:Int) < (D2:Int) - 1:=by omega
 have HV:Hid (rootV p = p):=Hi (by rw [HRV.out,if_neg hd])
 go_wp2
 refine nm_set1 (F:=fun W=>bodyPost _ _ _ _ _ W) B2.out rfl ?_
 intro w20 T
 replace HX:=Hi (T.ext HX.out (by omega))
 replace LP:=Hi (LP.out.put T (by omega))
 replace B2:=Hi (T.bx)
 replace HC:=Hi (HC.out.put T (by omega))
 replace B3:=Hi (T.rest _ _ (by omega) B3.out)
 have hs_w20:=nle T.size
 have hr_w20:=nle T.size.symm
 clear T
 try clear c_B2 f_B2 l_B2
 obtain ⟨c_B2,f_B2,l_B2⟩:=blk3 B2.out
 try clear c_B3 f_B3 l_B3
 obtain ⟨c_B3,f_B3,l_B3⟩:=blk3 B3.out
 exact bodyPost_ret (v:=CV ⟨some ⟨L,0,none⟩,N + 1,xc⟩) (by simp [results,Tryz.results108,go_sem,CV,c_B2]) rfl ⟨⟨some ⟨L,0,none⟩,N + 1,xc⟩,rfl,HX.out,by rw [HV.out]; exact HC.out.chk H0.out (by rw [HPl.out]; omega) HW.out hK1 (by omega)⟩
end Go.Proofs.YtcbgamclcgcodaaGreat
