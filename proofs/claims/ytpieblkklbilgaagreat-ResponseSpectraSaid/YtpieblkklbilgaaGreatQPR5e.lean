/- Gcd, Squarefree of the reference's polynomials. -/
import Derived.Test.YtpieblkklbilgaaGreatQPR5d
import Derived.Test.YtpieblkklbilgaaGreatQPM26
set_option linter.unusedVariables false
namespace Go.Proofs.YtpieblkklbilgaaGreat
open Go.RowKit Go.Front Go.Num Stab
attribute [local go_sem] XW.cell XW.frozen
theorem dv_ex5 {p q:List Rat} {S U:Nat} (hp:∀ x ∈ p,Wz S x) (hq:∀ x ∈ q,Wz U x) (htp:tz p=p) (htq:tz q=q) (h0:q ≠ []):∃ s r f,DvP p q S U s r f:=by
 have hlead:lead q ≠ 0:=by
  have:=lead_tz (q:=q) (by rw [htq];exact h0)
  rwa [htq] at this
 have hpos:=List.length_pos_iff.2 h0
 by_cases hl:q.length≤p.length
 ·have key:∀ (k j:Nat) (sl r:List Rat) (f:Rat),p.length+2 - j≤k→DvI p q S U j sl r f→∃ s r f,DvP p q S U s r f:=by
   intro k
   induction k with
   | zero=>intro j sl r f hk h;have:=h.jl;omega
   | succ k ih =>
    intro j sl r f hk h
    by_cases h2:r.length < q.length
    ·exact ⟨sl,r,f,h.done h2⟩
    ·refine ih (j+1) _ _ _ (by omega) (h.step hpos hlead hq (by omega) rfl (r2:=(List.range r.length).map fun i=>r.getD i 0 * (((lead r / lead q).den:Int):Rat) - if r.length - q.length≤i then ((lead r / lead q).num:Rat) * q.getD (i - (r.length - q.length)) 0 else 0) (by simp) (fun i hi=>by rw [pd_range,if_pos hi]))
  exact key _ 0 _ _ _ (Nat.le_refl _) (DvI.start hp htp hl)
 ·exact ⟨[],p,1,DvP.short hp htp (by omega)⟩
theorem divV_szr {q:List Rat} {U E:Nat} (hq:FrL U E q) (h0:lead q ≠ 0) (hE:0 < E) (hU:1≤U):∀ (f:Nat) (u p:List Rat) (S D:Nat),FrL S D p→1≤S→0 < D→D < W32 ^ S→p.length≤f →
  SzL (S+p.length * (U+1)) (divV q f u p).2:=by
 intro f
 induction f with
 | zero =>
  intro u p S D hp hS hD hD2 hl
  exact (hp.sz hS hD hD2).mono (by omega)
 | succ f ih =>
  intro u p S D hp hS hD hD2 hl
  show SzL _ (if q.length≤p.length then divV q f (u.set (p.length - q.length) (lead p / lead q)) (rstep p q) else (u,p)).2
  by_cases h:q.length≤p.length
  ·rw [if_pos h]
   have hr:=rstep_len p q
   have hql:0 < q.length:=by
    refine Nat.pos_of_ne_zero fun h1=>h0 ?_
    rw [List.length_eq_zero_iff.1 h1];rfl
   have h1:=rstep_fr hp hq h0
   have h2:D * ldD q E < W32 ^ (S+U+1):=by
    have h3:D * ldD q E < W32 ^ (S+U):=by
     rw [Nat.pow_add]
     exact Nat.mul_lt_mul_of_lt_of_le hD2 (Nat.le_of_lt (ldD_lt hq)) (Nat.pow_pos W32_pos)
    exact Nat.lt_of_lt_of_le h3 (W32_le (by omega))
   refine (ih _ _ _ _ h1 (by omega) (Nat.mul_pos hD (ldD_pos hq h0 hE)) h2 (by omega)).mono ?_
   have h4:(rstep p q).length * (U+1)+(U+1)≤p.length * (U+1):=by
    rw [← Nat.succ_mul]
    exact Nat.mul_le_mul_right _ (by omega)
   omega
  ·rw [if_neg h]
   exact (hp.sz hS hD hD2).mono (by omega)
theorem remV_szr {p q:List Rat} {S U D E:Nat} (hp:FrL S D p) (hq:FrL U E q) (h0:tz q ≠ []) (hS:1≤S) (hU:1≤U) (hD:0 < D) (hD2:D < W32 ^ S) (hE:0 < E):SzL (S+(p.length+1) * (U+1)) (remV p q):=by
 have h1:=divV_szr hq.tz (lead_tz h0) hE hU (tz p).length (List.replicate ((tz p).length+1 - (tz q).length) 0) (tz p) S D hp.tz hS hD hD2 (Nat.le_refl _)
 refine SzL.mono h1 ?_
 have:=tz_len_le p
 have h2:(tz p).length * (U+1)≤(p.length+1) * (U+1):=Nat.mul_le_mul_right _ (by omega)
 omega
theorem mon_frx {a:List Rat} {X:Nat} (ha:∀ x ∈ a,Wz X x) (ht:tz a=a) (hX:1≤X):∃ D,0 < D∧D < W32 ^ X∧FrL X D (monV a):=by
 have hf:FrL X 1 a:=fun x hx=>Fr.one (ha x hx)
 by_cases h:tz a=[]
 ·refine ⟨1,by decide,Nat.one_lt_pow (by omega) (by decide),?_⟩
  have:monV a=[]:=by unfold monV;rw [if_pos h]
  rw [this]
  exact fun x hx=>by simp at hx
 ·exact ⟨ldD (tz a) 1,ldD_pos hf.tz (lead_tz h) (by decide),ldD_lt hf.tz,monV_fr hf⟩
theorem GcI.dsz {K:Nat} {p q a b:List Rat} {X:Nat} (h:GcI K p q a b X):X+(a.length+1) * (X+1)≤K:=by
 have h1:=h.2.2.2.2.2.1
 have h2:a.length+2≤3 ^ max a.length (b.length+1):=by
  have h3:=three_e (max a.length (b.length+1)) (by omega)
  omega
 have h4:(X+1) * (a.length+2)≤(X+1) * 3 ^ max a.length (b.length+1):=Nat.mul_le_mul_left _ h2
 rw [show (a.length+1) * (X+1)=(X+1) * (a.length+1) from Nat.mul_comm _ _]
 rw [show a.length+2=(a.length+1)+1 from rfl,Nat.mul_succ] at h4
 omega
set_option maxRecDepth 8000 in
set_option maxHeartbeats 8000000 in
theorem gcd5_any (pa qa:Option Addr) (P pc Q qc:Nat) (p q:List Rat) (S D E:Nat) (w:World) (hp:CanL w ⟨pa,P,pc⟩ p) (hq:CanL w ⟨qa,Q,qc⟩ q) (hP:P≤100000) (hQ:Q≤100000)
  (hS:1≤S) (hD:0 < D) (hD2:D < W32 ^ S) (hE:0 < E) (hE2:E < W32 ^ S) (hpf:FrL S D p) (hqf:FrL S E q) (K:Nat) (hsz:(S+1) * 3 ^ max P (Q+1)≤K) (hK:K≤8000000) :
  Does 145 [.slice pa P pc,.slice qa Q qc] w SH.v (fun x w'=>CanL w' x (gcdV p q)∧GcR K (gcdV p q)):=by
 have HX:=Hi (Ext.refl w)
 have LP:=Hi hp.lin
 have LQ:=Hi hq.lin
 have HZP:=Hi (hpf.sz hS hD hD2)
 have HZQ:=Hi (hqf.sz hS hE hE2)
 have hSs:S+1≤8000000:=by
  have:S+1≤(S+1) * 3 ^ max P (Q+1):=Nat.le_mul_of_pos_right _ (Nat.pow_pos (by decide))
  omega
 have hlp:(splL p).length≤P:=by have:=hp.len;have h2:=tz_len_le p;rw [spl_len];simp only at this;omega
 have hlq:(splL q).length≤Q:=by have:=hq.len;have h2:=tz_len_le q;rw [spl_len];simp only at this;omega
 have HG:Hid (GcI K p q (splL p) (splL q) S):=Hi ⟨spl_tz p,spl_tz q,spl_wz (fun x hx=>hpf x (mem_tz hx)) hD,spl_wz (fun x hx=>hqf x (mem_tz hx)) hE,hS,
  Nat.le_trans (Nat.mul_le_mul_left _ (Nat.pow_le_pow_right (by decide) (by omega))) hsz,gcd_first p q,by omega,by omega⟩
 have HMP:Hid (monV p=monV (splL p)):=Hi ((spl_pr p).mon).symm
 have HMQ:Hid (monV q=monV (splL q)):=Hi ((spl_pr q).mon).symm
 clear hp hq hpf hqf hsz
 unfold Does
 go_enter Tryz.func145,Tryz.ntmps145
 go_wp2_with fail
 refine Calls.mono (mon5_any pa P pc p S _ LP.out.can (by omega) (by omega) HZP.out) ?_
 rintro e w9 ⟨x9,rfl,hE,g9⟩
 have G9:=Hi g9
 clear g9
 replace HX:=hE.tr HX
 replace LP:=Hi (LP.out.ext hE)
 replace LQ:=Hi (LQ.out.ext hE)
 have hs_w9:=hE.size
 clear hE
 go_wp2_with fail
 refine Calls.mono (mon5_any qa Q qc q S _ LQ.out.can (by omega) (by omega) HZQ.out) ?_
 rintro e w11 ⟨x11,rfl,hE,g11⟩
 have G11:=Hi g11
 clear g11
 replace HX:=hE.tr HX
 replace LP:=Hi (LP.out.ext hE)
 replace LQ:=Hi (LQ.out.ext hE)
 replace G9:=Hi (G9.out.ext hE)
 have hs_w11:=hE.size
 clear hE
 rw [HMP.out] at G9
 rw [HMQ.out] at G11
 clear LP
 clear LQ
 go_wp2
 go_loopg [0,1] (splL q).length (fun g u v wr=>∃ (x y:SH) (a b:List Rat) (X:Nat),u=x.v∧v=y.v∧b.length≤g∧Ext w wr∧CanL wr x (monV a)∧CanL wr y (monV b)∧GcI K p q a b X)
 case atStart=>exact ⟨_,_,_,_,S,rfl,rfl,Nat.le_refl _,HX.out,G9.out.can,G11.out.can,HG.out⟩
 case round =>
  obtain ⟨⟨xa,xn,xc⟩,⟨ya,yn,yc⟩,a,b,X,rfl,rfl,hg,g1,g2,g3,g4⟩:=hrel
  clear HX G9 G11 HG
  have HX:=Hi g1
  have LA:=Hi g2.lin
  have LB:=Hi g3.lin
  have HG:=Hi g4
  have hxl:a.length=xn:=by have:=g2.len;rw [monV_len,g4.1] at this;exact this
  have hyl:b.length=yn:=by have:=g3.len;rw [monV_len,g4.2.1] at this;exact this
  have HXl:=Hi g2.len
  clear g1 g2 g3 g4
  simp only [SH.v]
  by_cases h0:yn=0
  case pos =>
   subst h0
   have hb:b=[]:=List.length_eq_zero_iff.1 hyl
   have HV:Hid (gcdV p q=monV a):=Hi (by have:=HG.out.2.2.2.2.2.2.1;rw [hb] at this;exact this.symm)
   go_wp2
   go_ret
   exact ⟨⟨xa,xn,xc⟩,rfl,HX.out,by rw [HV.out];exact LA.out.can,HG.out.done hb⟩
  obtain ⟨m,rfl⟩:∃ m,yn=m+1:=⟨yn - 1,by omega⟩
  have hpos:(0:Int) < (m:Int)+1:=by omega
  have Hb0:Hid (b ≠ []):=Hi (by intro h;rw [h] at hyl;simp at hyl)
  obtain ⟨e1,e2,e3,e4,e5,e6,e7,e8,e9⟩:=HG.out
  have hdz:=HG.out.dsz
  obtain ⟨Da,u1,u2,u3⟩:=mon_frx e3 e1 e5
  obtain ⟨Db,v1,v2,v3⟩:=mon_frx e4 e2 e5
  have HM0:Hid (tz (monV b) ≠ []):=Hi (by
   rw [monV_tz];intro h
   have h2:(monV b).length=m+1:=by rw [monV_len,e2];exact hyl
   rw [h] at h2;simp at h2)
  obtain ⟨s,r,f,hdv⟩:=dv_ex5 e3 e4 e1 e2 Hb0.out
  have HNX:=Hi (HG.out.next Hb0.out hdv)
  have hml:(monV a).length=xn:=by rw [monV_len,e1];exact hxl
  have HRS:Hid (SzL 8000000 (remV (monV a) (monV b))):=Hi ((remV_szr u3 v3 HM0.out e5 e5 u1 u2 v1).mono (by rw [hml,← hxl];omega))
  have HRM:Hid (monV (remV (monV a) (monV b))=monV (splL r)):=Hi (by
   obtain ⟨d0,d1,d2,d3,d4,d5,d6,d7⟩:=hdv
   have hbt:tz b ≠ []:=by rw [e2];exact Hb0.out
   have h1:Pr (remV (monV a) (monV b)) (remV a b):=remV_pr (monV_pr a) (monV_pr b) hbt
   have h2:Pr r (remV a b):=rest_pr hbt d0 (Bd.seq s) (by rw [e2];exact d5) d7
   rw [h1.mon,← h2.mon,(spl_pr r).mon])
  have hrl:(splL r).length < b.length:=by obtain ⟨d0,d1,d2,d3,d4,d5,d6,d7⟩:=hdv;rw [spl_len,d4];exact d5
  clear hdv hml
  go_wp2_with fail
  refine Calls.mono (dm5_any xa ya xn xc (m+1) yc (monV a) (monV b) X X Da Db _ LA.out.can LB.out.can (by omega) (by omega) e5 e5 u1 u2 v1 v2 u3 v3 HM0.out (by rw [← hxl];omega)) ?_
  rintro e w18 ⟨x18,rfl,hE,g18⟩
  have G18:=Hi g18
  clear g18
  replace HX:=hE.tr HX
  replace LA:=Hi (LA.out.ext hE)
  replace LB:=Hi (LB.out.ext hE)
  have hs_w18:=hE.size
  clear hE
  obtain ⟨xq,⟨ra,rn,rc⟩⟩:=x18
  have HR1:=Hi G18.out.2.lin
  have hrl2:=G18.out.2.len
  clear G18
  simp only [QT] at *
  have hrn:rn≤100000:=by
   have h1:=(quo_rem (monV a) HM0.out).1
   have h2:(tz (monV b)).length=m+1:=by rw [monV_tz,monV_len,e2];exact hyl
   rw [hrl2] at h1
   omega
  clear hrl2 u1 u2 u3 v1 v2 v3 e1 e2 e3 e4 e7
  go_wp2_with fail
  refine Calls.mono (mon5_any ra rn rc (remV (monV a) (monV b)) 8000000 _ HR1.out.can (by omega) (by omega) HRS.out) ?_
  rintro e w24 ⟨x24,rfl,hE,g24⟩
  have G24:=Hi g24
  clear g24
  replace HX:=hE.tr HX
  replace LA:=Hi (LA.out.ext hE)
  replace LB:=Hi (LB.out.ext hE)
  replace HR1:=Hi (HR1.out.ext hE)
  have hs_w24:=hE.size
  clear hE
  rw [HRM.out] at G24
  go_wp2
  go_roundg (gk - 1)
  case measure=>omega
  case rel=>exact ⟨⟨ya,m+1,yc⟩,_,b,splL r,_,rfl,rfl,by omega,HX.out,LB.out.can,G24.out.can,HNX.out⟩
end Go.Proofs.YtpieblkklbilgaaGreat
