/- Rooted of make. -/
import Derived.Test.YtcbgamclcgcodaaGreatQYRoo
import Derived.Test.YtcbgamclcgcodaaGreatQYIv2
import Derived.Test.YtcbgamclcgcodaaGreatQYM20
import Derived.Test.YtcbgamclcgcodaaGreatQYOl
import Derived.Test.YtcbgamclcgcodaaGreatQYM22
import Derived.Test.YtcbgamclcgcodaaGreatQYNg
import Derived.Deep.DeepCutAuto
set_option linter.unusedVariables false
namespace Go.Proofs.YtcbgamclcgcodaaGreat
open Go.RowKit Go.Front Go.Num Stab Sg
attribute [local go_sem] XW.cell XW.frozen
theorem LIn.one {w:World} {s:SH} {qs:List Rat} {lo hi:Nat} (h:LIn w s qs lo hi):∃ b,lo≤b∧(s.n ≠ 0→b < hi)∧LIn w s qs b (b + 1):=by
 obtain ⟨rs,h1,h2,h3⟩:=h
 rcases h3 with h0 | ⟨b,off,e,h4,h5⟩
 ·exact ⟨lo,Nat.le_refl _,fun k=>absurd h0 k,rs,h1,h2,Or.inl h0⟩
 ·exact ⟨b,h4,fun _=>h5,rs,h1,h2,Or.inr ⟨b,off,e,Nat.le_refl _,Nat.lt_succ_self _⟩⟩
theorem LIn.blt {w:World} {s:SH} {qs:List Rat} {b:Nat} (h:LIn w s qs b (b + 1)) (hn:s.n ≠ 0):b < w.heap.size:=by
 obtain ⟨rs,h1,h2,h3⟩:=h
 rcases h3 with h0 | ⟨x,off,e,h4,h5⟩
 ·exact absurd h0 hn
 ·rcases h1.in with h0 | ⟨y,o,e2,-,h6⟩
  ·exact absurd h0 hn
  ·rw [e] at e2
   obtain ⟨rfl,rfl⟩:x = y∧off = o:=by simpa using e2
   omega
theorem CanL.at0 {w:World} {N n c:Nat} {qs:List Rat} (h:CanL w ⟨some ⟨N,0,none⟩,n,c⟩ qs):LIn w ⟨some ⟨N,0,none⟩,n,c⟩ qs N (N + 1) :=
 let ⟨rs,h1,h2⟩:=h; ⟨rs,h1,h2,Or.inr ⟨N,0,rfl,Nat.le_refl _,Nat.lt_succ_self _⟩⟩
theorem OwnQ.at {w:World} {L:Nat} {s:SH} {qs:List Rat} (h:OwnQ w (· = L) s.v qs):LIn w s qs L (L + 1):=by
 have h1:=h.new (B:=L) (fun k _ e=>nle e.symm)
 obtain ⟨rs,h2,h3⟩:=h
 rcases h2 with ⟨e,rfl⟩ | ⟨L2,cap,re,e,h4,h5⟩
 ·obtain ⟨rs2,k1,k2,k3⟩:=h1
  refine ⟨rs2,k1,k2,Or.inl ?_⟩
  have:=congrArg (fun v=>match v with | .slice _ n _=>n | _=>0) e
  simpa [SH.v] using this
 ·obtain ⟨rs2,k1,k2,k3⟩:=h1
  have e2:=congrArg (fun v=>match v with | .slice a _ _=>a | _=>none) e
  simp only at e2
  exact ⟨rs2,k1,k2,Or.inr ⟨L2,0,e2,nle h4.symm,by omega⟩⟩
theorem wpList_append_o {w:World} {ops:Array Oper} {rest:List Oper} {o:Oper} {a:Act} {Q:Exit→Act→World→Prop} (hgd:o.guard = none) (s x:Operand) (T:TypeId) (hT:Tryz.prog.underlying T = some (.slice 34))
  (ho:o.op = .call { callee:=.builtin .append,args:=#[s,x],argTypes:=#[T,T] }) (L:Nat) (v:Value) (qs:List Rat) (r:RH) (q:Rat) (hs:a.eval s = v) (hown:OwnQ w (· = L) v qs)
  (hx:a.eval x = .slice (some ⟨w.heap.size,0,none⟩) 1 1) (hr:CanR w r q) (hl:qs.length≤1073741824)
  (h:∀ (s':SH) L' w',OwnQ w' (· = L') s'.v (qs ++ [q])→Mut L w w'→(L' = L ∨ w.heap.size≤L')→L' < w'.heap.size→wpList Tryz.prog ops Q rest (a.put o.dst s'.v) w'):wpList Tryz.prog ops Q (o :: rest) a (w.alloc (.cells #[.bool r.neg,.slice r.a r.n r.c,.slice r.b r.m r.d] 34)):=by
 refine wpList_append_n hgd s x T hT ho (fun k=>k = L ∨ w.heap.size≤k) v qs r q hs (hown.mono fun k _ e=>Or.inl e) hx hr hl (fun k hk=>Or.inr hk) ?_
 intro s' w' g1 g2 g3
 have hm:Mut L w w':=⟨g3,⟨g2.os,g2.tape,g2.output,g2.size,fun k hk hn=>g2.block k hk (fun h=>h.elim hn (fun h4=>Nat.lt_irrefl _ (Nat.lt_of_lt_of_le hk h4)))⟩⟩
 obtain ⟨rs,k1,k2⟩:=g1
 rcases k1 with ⟨e,rfl⟩ | ⟨L2,cap,re,e,h4,h5,h6⟩
 ·have h7:=k2.1
  simp at h7
 ·exact h s' L2 w' ⟨rs,Or.inr ⟨L2,cap,re,e,rfl,h5,h6⟩,k2⟩ hm h4 h5.lt
theorem OwnQ.fresh {w:World} {L N:Nat} {v:Value} {qs:List Rat} (h:OwnQ w (· = L) v qs):∃ L2,OwnQ w (· = L2) v qs∧((L2 = L∧L < w.heap.size) ∨ L2 = N):=by
 obtain ⟨rs,h1,h2⟩:=h
 rcases h1 with ⟨e,rfl⟩ | ⟨L2,cap,re,e,h3,h4,h5⟩
 ·exact ⟨N,⟨[],Or.inl ⟨e,rfl⟩,h2⟩,Or.inr rfl⟩
 ·exact ⟨L,⟨rs,Or.inr ⟨L2,cap,re,e,h3,h4,h5⟩,h2⟩,Or.inl ⟨rfl,by rw [← h3]; exact h4.lt⟩⟩
theorem tw_all:∀ m:Nat,m < 25→((((m:Int) - 12:Int):Rat) / 12).num.natAbs < W32∧((((m:Int) - 12:Int):Rat) / 12).den < W32:=by decide +kernel
theorem tw_sz {q:Rat} (h:Tw q):Sz 1 q:=by
 obtain ⟨z,h1,h2⟩:=h
 have e:q = (((z + 12).toNat:Int) - 12:Int) / 12:=by
  rw [show (((z + 12).toNat:Int) - 12:Int) = z by omega,← h1,Rat.div_def,Rat.mul_assoc,Rat.mul_inv_cancel _ (by decide),Rat.mul_one]
 have h3:=tw_all (z + 12).toNat (by omega)
 rw [← e] at h3
 exact ⟨by rw [Nat.pow_one]; exact h3.1,by rw [Nat.pow_one]; exact h3.2⟩
abbrev RT2 (x:(SH × SH) × (List Rat × List Rat)):Value:=.tuple #[x.1.1.v,x.1.2.v]
theorem mem_snoc {ds:List Rat} {i:Nat} {x:Rat} (hi:i < ds.length):decide (x ∈ ds.take (i + 1)) = (decide (x ∈ ds.take i) || decide (x = ds.getD i 0)):=by
 have e:ds.take (i + 1) = ds.take i ++ [ds.getD i 0]:=by
  rw [List.take_add_one,List.getD_eq_getElem?_getD,List.getElem?_eq_getElem hi]
  rfl
 rw [e]
 by_cases h1:x ∈ ds.take i
 ·rw [decide_eq_true h1,decide_eq_true (List.mem_append.2 (Or.inl h1))]; rfl
 ·rw [decide_eq_false h1]
  by_cases h2:x = ds.getD i 0
  ·rw [decide_eq_true h2,decide_eq_true (List.mem_append.2 (Or.inr (by rw [h2]; exact List.mem_singleton.2 rfl)))]; rfl
  ·rw [decide_eq_false h2,decide_eq_false (fun h=>(List.mem_append.1 h).elim h1 (fun k=>h2 (List.mem_singleton.1 k)))]; rfl
structure RtL (w wr:World) (bt n cap:Nat) (ao:Option Addr) (xp xr:SH) (g:Nat) (a ds:List Rat) (at':Int):Prop where
 hx:Ext w wr
 ha1:0≤at'
 ha2:at'≤n
 ex:∃ (j pb L:Nat) (rl:List Rat),j + g≤3∧LIn wr xp a pb (pb + 1)∧pb ≠ bt∧pb ≠ L∧L ≠ bt∧w.heap.size≤L∧w.heap.size≤pb∧OwnQ wr (· = L) xr.v ds∧RoF a rl none∧RoD ds rl∧rl.length≤3 * j∧ds.length≤j
set_option maxRecDepth 8000 in
set_option maxHeartbeats 8000000 in
theorem rooted_any (ao:Option Addr) (cap:Nat) (xs:List Int) (w:World) (h:IntsAt w ao xs) (hr:InR xs) (hl:xs.length≤9223372036854775807) (hc:xs.length≤cap) (hcm:cap≤9223372036854775807) :
  Does 35 [.slice ao xs.length cap] w RT2 (fun x w'=>CanL w' x.1.1 x.2.1∧CanL w' x.1.2 x.2.2∧RooP x.2.1 x.2.2):=by
 have HX:=Hi (Ext.refl w)
 obtain ⟨n,hn⟩:∃ n,n = xs.length:=⟨_,rfl⟩
 have HI:Hid (∀ b w1 (at' N:Int),w.heap.size≤b→Ext w w1→w1.heap[b]? = some (.cells #[.slice ao n cap,.int .i64 at'] 123 (0,0))→0≤at'→at'≤n→0 < N→N≤9223372036854775807 →
   Calls Tryz.prog 105 #[ptr b,.int .i64 N] w1 (TapePost b n ao cap N w1)):=Hi (fun b w1 at' N hb he hB h0 h1 hN hN2=>next_any b n cap ao xs at' N w1 hB (h.ext he) hr hn.symm (by omega) (by omega) hcm (fun hne p hp=>by have:=h.lt hne p hp; omega) h0 h1 hN hN2)
 rw [← hn] at hl hc ⊢
 clear hn h hr
 unfold Does
 go_enter Tryz.func35,Tryz.ntmps35
 go_upto_region 2 with fail
 refine nm_alloc ?_
 intro w1 hE hB0 hz
 have hz_w1:=nle hz
 have hr_w1:=nle hz.symm
 clear hz
 replace HX:=hE.tr HX
 have hs_w1:=hE.size
 clear hE
 have BT:=Hi hB0
 clear hB0
 obtain ⟨c_BT,f_BT,l_BT⟩:=blk3 BT.out
 obtain ⟨bt,hbt⟩:∃ bt,bt = w.heap.size:=⟨_,rfl⟩
 have hbtw:w.heap.size≤bt:=by omega
 have hbt1:bt < w1.heap.size:=by omega
 rw [← hbt] at BT ⊢
 clear hbt c_BT f_BT l_BT
 go_wp2_with fail
 refine Calls.mono (HI.out bt w1 0 3 hbtw HX.out BT.out (by omega) (by omega) (by decide) (by decide)) ?_
 rintro e w17 ⟨v17,at17,w170,rfl,hv1,hv2,ha1,ha2,T,hE⟩
 replace HX:=Hi (T.ext HX.out (by omega))
 replace BT:=Hi (T.bx)
 have hs_w170:=nle T.size
 have hr_w170:=nle T.size.symm
 clear T
 try clear c_BT f_BT l_BT
 obtain ⟨c_BT,f_BT,l_BT⟩:=blk3 BT.out
 replace HX:=hE.tr HX
 replace BT:=hE.bl BT
 have hs_w17:=hE.size
 clear hE
 try clear c_BT f_BT l_BT
 obtain ⟨c_BT,f_BT,l_BT⟩:=blk3 BT.out
 obtain ⟨c0,rfl⟩:∃ m:Nat,v17 = (m:Nat):=⟨v17.toNat,by omega⟩
 go_wp2_with fail
 refine Calls.mono (rof3_any (1 + (c0:Int)) _ (by omega) (by omega)) ?_
 rintro e w19 ⟨x19,rfl,hE,g19⟩
 have G19:=Hi g19
 clear g19
 replace HX:=hE.tr HX
 replace BT:=hE.bl BT
 have hs_w19:=hE.size
 clear hE
 try clear c_BT f_BT l_BT
 obtain ⟨c_BT,f_BT,l_BT⟩:=blk3 BT.out
 go_upto_region 3 with fail
 refine nm_alloc ?_
 intro w20 hE hB0 hz
 have hz_w20:=nle hz
 have hr_w20:=nle hz.symm
 clear hz
 replace HX:=hE.tr HX
 replace BT:=hE.bl BT
 replace G19:=Hi (G19.out.ext hE)
 have hs_w20:=hE.size
 clear hE
 try clear c_BT f_BT l_BT
 obtain ⟨c_BT,f_BT,l_BT⟩:=blk3 BT.out
 have B20:=Hi hB0
 clear hB0
 obtain ⟨c_B20,f_B20,l_B20⟩:=blk3 B20.out
 have LA:Hid (LIn w20 ⟨some ⟨w19.heap.size,0,none⟩,1,1⟩ [((1 + (c0:Int):Int):Rat)] w19.heap.size (w19.heap.size + 1)):=Hi (canL_1 B20.out G19.out).at0
 have HRF:Hid (RoF [((1 + (c0:Int):Int):Rat)] [] none):=Hi (RoF.start (by omega) (by omega))
 obtain ⟨a0,hae⟩:∃ a:List Rat,a = [((1 + (c0:Int):Int):Rat)]:=⟨_,rfl⟩
 rw [← hae] at LA HRF
 clear hae
 obtain ⟨pb,hpb⟩:∃ b,b = w19.heap.size:=⟨_,rfl⟩
 have hpbt:bt < pb:=by omega
 have hpb20:pb < w20.heap.size:=by omega
 have hpbw:w.heap.size≤pb:=by omega
 rw [← hpb] at LA B20 ⊢
 clear hpb c_B20 f_B20 l_B20
 (try clear c_B20 f_B20 l_B20); clear B20
 clear G19
 go_wp2_with fail
 refine Calls.mono (HI.out bt w20 at17 2 hbtw HX.out BT.out ha1 ha2 (by decide) (by decide)) ?_
 rintro e w22 ⟨v22,at22,w220,rfl,hv3,hv4,ha3,ha4,T,hE⟩
 replace HX:=Hi (T.ext HX.out (by omega))
 replace BT:=Hi (T.bx)
 replace LA:=Hi (LA.out.put T (by omega))
 have hs_w220:=nle T.size
 have hr_w220:=nle T.size.symm
 clear T
 try clear c_BT f_BT l_BT
 obtain ⟨c_BT,f_BT,l_BT⟩:=blk3 BT.out
 replace HX:=hE.tr HX
 replace BT:=hE.bl BT
 replace LA:=Hi (LA.out.ext hE)
 have hs_w22:=hE.size
 clear hE
 try clear c_BT f_BT l_BT
 obtain ⟨c_BT,f_BT,l_BT⟩:=blk3 BT.out
 have HC22:=c_BT
 have ZA:Hid (SzL 2 a0):=Hi (HRF.out.sz (by simp))
 have ZM:Hid (Sz 1 ((-1:Int):Rat)):=Hi (Sz.int (by decide))
 go_upto_if 23 with fail
 go_cut [5] (fun pv wc=>∃ (xp:SH) (a:List Rat) (pb:Nat),pv = xp.v∧Ext w wc∧wc.heap[bt]? = some (.cells #[.slice ao n cap,.int .i64 at22] 123 (0,0))∧LIn wc xp a pb (pb + 1)∧pb ≠ bt∧w.heap.size≤pb∧RoF a [] none)
 case first =>
  by_cases hv:v22 = 1
  case pos =>
   subst hv
   go_wp2_with fail
   refine Calls.mono (rof3_any (-1) _ (by decide) (by decide)) ?_
   rintro e w25 ⟨x25,rfl,hE,g25⟩
   have G25:=Hi g25
   clear g25
   replace HX:=hE.tr HX
   replace BT:=hE.bl BT
   replace LA:=Hi (LA.out.ext hE)
   have hs_w25:=hE.size
   clear hE
   try clear c_BT f_BT l_BT
   obtain ⟨c_BT,f_BT,l_BT⟩:=blk3 BT.out
   go_wp2_with fail
   refine Calls.mono (scale5_any (some ⟨pb,0,none⟩) 1 1 a0 x25 ((-1:Int):Rat) _ (LA.out.can.raw ZA.out (by decide)) (G25.out.raw ZM.out (by decide)) (by decide) (ZA.out.mono (by decide)) (ZM.out.mono (by decide))) ?_
   rintro e w26 ⟨x26,rfl,hE,g26⟩
   have G26:=Hi g26
   clear g26
   replace HX:=hE.tr HX
   replace BT:=hE.bl BT
   replace LA:=Hi (LA.out.ext hE)
   replace G25:=Hi (G25.out.ext hE)
   have hs_w26:=hE.size
   clear hE
   try clear c_BT f_BT l_BT
   obtain ⟨c_BT,f_BT,l_BT⟩:=blk3 BT.out
   obtain ⟨qb,h1,-,h2⟩:=LIn.one G26.out
   have HQ:=Hi h2
   clear h2
   go_wp2
   go_meet
   case rel=>exact ⟨x26,_,qb,rfl,HX.out,BT.out,HQ.out,by omega,by omega,HRF.out.neg⟩
  have hvb:(v22 == 1) = false:=by rw [beq_eq_false_iff_ne]; exact hv
  go_wp2
  go_meet
  case rel=>exact ⟨⟨some ⟨pb,0,none⟩,1,1⟩,a0,pb,rfl,HX.out,BT.out,LA.out,by omega,by omega,HRF.out⟩
 case rest =>
  obtain ⟨⟨xa,xn,xc⟩,a,pb',rfl,g1,g2,g3,g4,g5,g6⟩:=hcut
  clear HX BT LA ZA ZM HRF HC22
  have HX:=Hi g1
  have BT:=Hi g2
  have LP:=Hi g3
  have HRF:=Hi g6
  clear g1 g2 g3 g6 c_BT f_BT l_BT
  simp only [SH.v]
  try clear c_BT f_BT l_BT
  obtain ⟨c_BT,f_BT,l_BT⟩:=blk3 BT.out
  go_wp2_with fail
  refine Calls.mono (HI.out bt wc at22 4 hbtw HX.out BT.out ha3 ha4 (by decide) (by decide)) ?_
  rintro e w28 ⟨v28,at28,w280,rfl,hv5,hv6,ha5,ha6,T,hE⟩
  replace HX:=Hi (T.ext HX.out (by omega))
  replace BT:=Hi (T.bx)
  replace LP:=Hi (LP.out.put T (by omega))
  have hs_w280:=nle T.size
  have hr_w280:=nle T.size.symm
  clear T
  try clear c_BT f_BT l_BT
  obtain ⟨c_BT,f_BT,l_BT⟩:=blk3 BT.out
  replace HX:=hE.tr HX
  replace BT:=hE.bl BT
  replace LP:=Hi (LP.out.ext hE)
  have hs_w28:=hE.size
  clear hE
  try clear c_BT f_BT l_BT
  obtain ⟨c_BT,f_BT,l_BT⟩:=blk3 BT.out
  obtain ⟨m,rfl⟩:∃ m:Nat,v28 = (m:Nat):=⟨v28.toNat,by omega⟩
  go_wp2
  go_loopg [5,6,7] m (fun g u5 u6 u7 wr=>∃ (xp xr:SH) (a ds:List Rat) (at':Int),u5 = xp.v∧u6 = xr.v∧u7 = .int .i64 (g:Nat)∧wr.heap[bt]? = some (.cells #[.slice ao n cap,.int .i64 at'] 123 (0,0))∧RtL w wr bt n cap ao xp xr g a ds at')
  case atStart=>exact ⟨⟨xa,xn,xc⟩,⟨none,0,0⟩,a,[],at28,rfl,rfl,rfl,BT.out,HX.out,ha5,ha6,0,pb',pb' + bt + 1,[],by omega,LP.out,by omega,by omega,by omega,by omega,by omega,OwnQ.nil _ _,HRF.out,RoD.nil,by simp,by simp⟩
  case round =>
   obtain ⟨⟨xa,xn,xc⟩,⟨ya,yn,yc⟩,a,ds,at',rfl,rfl,rfl,g1,g2,hat1,hat2,j,pb,L,rl,hj,g3,h1,h2,h3,h4,h5,g4,g5,g6,h6,h7⟩:=hrel
   clear HX BT LP HRF
   have HX:=Hi g2
   have BT:=Hi g1
   have LP:=Hi g3
   have HO:=Hi g4
   have HRF:=Hi g5
   have HRD:=Hi g6
   clear g1 g2 g3 g4 g5 g6 c_BT f_BT l_BT
   simp only [SH.v] at HO ⊢
   try clear c_BT f_BT l_BT
   obtain ⟨c_BT,f_BT,l_BT⟩:=blk3 BT.out
   have hszw:=HX.out.size
   have hbtr:=l_BT
   by_cases hg0:gk = 0
   case pos =>
    subst hg0
    have hgz:¬ (0:Int) < ((0:Nat):Int):=by omega
    have HO2:Hid (OwnQ wr (· = L) (SH.v ⟨ya,yn,yc⟩) ds):=Hi HO.out
    have LO:Hid (LIn wr ⟨ya,yn,yc⟩ ds L (L + 1)):=Hi HO2.out.at
    clear HO2
    clear HO
    have hal:=HRF.out.len
    have hxl:=LP.out.len
    simp only [dg] at hal hxl
    have hrl9:rl.length≤9:=by omega
    have ZP:Hid (SzL 2 a):=Hi (HRF.out.sz hrl9)
    go_wp2_with fail
    refine Calls.mono (HI.out bt wr at' 2 hbtw HX.out BT.out hat1 hat2 (by decide) (by decide)) ?_
    rintro e w68 ⟨v68,at68,w680,rfl,hv7,hv8,ha7,ha8,T,hE⟩
    replace HX:=Hi (T.ext HX.out (by omega))
    replace BT:=Hi (T.bx)
    replace LP:=Hi (LP.out.put T (by omega))
    replace LO:=Hi (LO.out.put T (by omega))
    have hs_w680:=nle T.size
    have hr_w680:=nle T.size.symm
    clear T
    try clear c_BT f_BT l_BT
    obtain ⟨c_BT,f_BT,l_BT⟩:=blk3 BT.out
    replace HX:=hE.tr HX
    replace BT:=hE.bl BT
    replace LP:=Hi (LP.out.ext hE)
    replace LO:=Hi (LO.out.ext hE)
    have hs_w68:=hE.size
    clear hE
    try clear c_BT f_BT l_BT
    obtain ⟨c_BT,f_BT,l_BT⟩:=blk3 BT.out
    by_cases hv:v68 = 1
    case neg =>
     have hvb:(v68 == 1) = false:=by rw [beq_eq_false_iff_ne]; exact hv
     go_wp2
     exact bodyPost_ret (v:=RT2 ((⟨xa,xn,xc⟩,⟨ya,yn,yc⟩),(a,ds))) (by simp [results,Tryz.results35,go_sem,RT2]) rfl
      ⟨((⟨xa,xn,xc⟩,⟨ya,yn,yc⟩),(a,ds)),rfl,HX.out,LP.out.can,LO.out.can,rl,none,HRF.out,HRD.out,hrl9⟩
    subst hv
    go_wp2_with fail
    refine Calls.mono (HI.out bt w68 at68 4 hbtw HX.out BT.out ha7 ha8 (by decide) (by decide)) ?_
    rintro e w72 ⟨v72,at72,w720,rfl,hv9,hv10,ha9,ha10,T,hE⟩
    replace HX:=Hi (T.ext HX.out (by omega))
    replace BT:=Hi (T.bx)
    replace LP:=Hi (LP.out.put T (by omega))
    replace LO:=Hi (LO.out.put T (by omega))
    have hs_w720:=nle T.size
    have hr_w720:=nle T.size.symm
    clear T
    try clear c_BT f_BT l_BT
    obtain ⟨c_BT,f_BT,l_BT⟩:=blk3 BT.out
    replace HX:=hE.tr HX
    replace BT:=hE.bl BT
    replace LP:=Hi (LP.out.ext hE)
    replace LO:=Hi (LO.out.ext hE)
    have hs_w72:=hE.size
    clear hE
    try clear c_BT f_BT l_BT
    obtain ⟨c_BT,f_BT,l_BT⟩:=blk3 BT.out
    obtain ⟨t,rfl⟩:∃ t:Nat,v72 = (t:Nat):=⟨v72.toNat,by omega⟩
    have ht4:t < 4:=by omega
    have HSX:=Hi (sx_of ht4)
    have HSA:=Hi (sx_all t ht4)
    go_wp2_with fail
    refine Calls.mono (rfrac3_any (1 + (t:Int)) 16 _ (by omega) (by omega) (by decide) (by decide)) ?_
    rintro e w74 ⟨x74,rfl,hE,g74⟩
    have G74:=Hi g74
    clear g74
    replace HX:=hE.tr HX
    replace BT:=hE.bl BT
    replace LP:=Hi (LP.out.ext hE)
    replace LO:=Hi (LO.out.ext hE)
    have hs_w74:=hE.size
    clear hE
    try clear c_BT f_BT l_BT
    obtain ⟨c_BT,f_BT,l_BT⟩:=blk3 BT.out
    obtain ⟨q,hq⟩:∃ q,q = ((1 + (t:Int):Int):Rat) / ((16:Int):Rat):=⟨_,rfl⟩
    have ZQ:Hid (Sz 1 q):=Hi (by rw [hq]; exact ⟨by rw [Nat.pow_one]; exact HSA.out.2.2.1,by rw [Nat.pow_one]; exact HSA.out.2.2.2⟩)
    rw [← hq] at G74 HSX
    clear hq HSA
    go_wp2_with fail
    refine Calls.mono (rof3_any 0 _ (by decide) (by decide)) ?_
    rintro e w75 ⟨x75,rfl,hE,g75⟩
    have G75:=Hi g75
    clear g75
    replace HX:=hE.tr HX
    replace BT:=hE.bl BT
    replace LP:=Hi (LP.out.ext hE)
    replace LO:=Hi (LO.out.ext hE)
    replace G74:=Hi (G74.out.ext hE)
    have hs_w75:=hE.size
    clear hE
    try clear c_BT f_BT l_BT
    obtain ⟨c_BT,f_BT,l_BT⟩:=blk3 BT.out
    go_wp2_with fail
    refine Calls.mono (rof3_any 1 _ (by decide) (by decide)) ?_
    rintro e w76 ⟨x76,rfl,hE,g76⟩
    have G76:=Hi g76
    clear g76
    replace HX:=hE.tr HX
    replace BT:=hE.bl BT
    replace LP:=Hi (LP.out.ext hE)
    replace LO:=Hi (LO.out.ext hE)
    replace G74:=Hi (G74.out.ext hE)
    replace G75:=Hi (G75.out.ext hE)
    have hs_w76:=hE.size
    clear hE
    try clear c_BT f_BT l_BT
    obtain ⟨c_BT,f_BT,l_BT⟩:=blk3 BT.out
    go_wp2_with fail
    refine nm_alloc (F:=fun W=>Calls _ _ _ W _) ?_
    intro w77 hE hB0 hz
    have hz_w77:=nle hz
    have hr_w77:=nle hz.symm
    clear hz
    replace HX:=hE.tr HX
    replace BT:=hE.bl BT
    replace LP:=Hi (LP.out.ext hE)
    replace LO:=Hi (LO.out.ext hE)
    replace G74:=Hi (G74.out.ext hE)
    replace G75:=Hi (G75.out.ext hE)
    replace G76:=Hi (G76.out.ext hE)
    have hs_w77:=hE.size
    clear hE
    try clear c_BT f_BT l_BT
    obtain ⟨c_BT,f_BT,l_BT⟩:=blk3 BT.out
    have B77:=Hi hB0
    clear hB0
    obtain ⟨c_B77,f_B77,l_B77⟩:=blk3 B77.out
    change Calls _ _ _ _ _
    have L3:=Hi (canL_3 B77.out G74.out G75.out G76.out)
    have ZF:Hid (SzL 2 [q,((0:Int):Rat),((1:Int):Rat)]):=Hi (fun y hy=>by
     rcases List.mem_cons.1 hy with rfl | hy
     ·exact ZQ.out.mono (by decide)
     ·rcases List.mem_cons.1 hy with rfl | hy
      ·exact (Sz.int (by decide)).mono (by decide)
      ·obtain rfl:y = ((1:Int):Rat):=by simpa using hy
       exact (Sz.int (by decide)).mono (by decide))
    refine Calls.mono (mul5_any xa _ xn xc 3 3 a [q,((0:Int):Rat),((1:Int):Rat)] 2 _ (LP.out.can.raw ZP.out (by decide)) (L3.out.raw ZF.out (by decide)) (by omega) (by decide) ZP.out ZF.out (by decide)) ?_
    rintro e w78 ⟨x78,rfl,hE,g78⟩
    have G78:=Hi g78
    clear g78
    replace HX:=hE.tr HX
    replace BT:=hE.bl BT
    replace LP:=Hi (LP.out.ext hE)
    replace LO:=Hi (LO.out.ext hE)
    replace G74:=Hi (G74.out.ext hE)
    replace G75:=Hi (G75.out.ext hE)
    replace G76:=Hi (G76.out.ext hE)
    replace B77:=hE.bl B77
    replace L3:=Hi (L3.out.ext hE)
    have hs_w78:=hE.size
    clear hE
    try clear c_BT f_BT l_BT
    obtain ⟨c_BT,f_BT,l_BT⟩:=blk3 BT.out
    try clear c_B77 f_B77 l_B77
    obtain ⟨c_B77,f_B77,l_B77⟩:=blk3 B77.out
    obtain ⟨za,zn,zc⟩:=x78
    have HZ:=Hi (NewL.can G78.out)
    have HRQ:=Hi (HRF.out.quad HSX.out)
    clear G78
    go_wp2
    exact bodyPost_ret (v:=RT2 ((⟨za,zn,zc⟩,⟨ya,yn,yc⟩),(mul5V a [q,((0:Int):Rat),((1:Int):Rat)],ds))) (by simp [results,Tryz.results35,go_sem,RT2]) rfl
     ⟨((⟨za,zn,zc⟩,⟨ya,yn,yc⟩),(mul5V a [q,((0:Int):Rat),((1:Int):Rat)],ds)),rfl,HX.out,HZ.out,LO.out.can,rl,some q,HRQ.out,HRD.out,hrl9⟩
   obtain ⟨g0,rfl⟩:∃ g0,gk = g0 + 1:=⟨gk - 1,by omega⟩
   have hgp:(0:Int) < ((g0 + 1:Nat):Int):=by omega
   go_wp2_with fail
   refine Calls.mono (HI.out bt wr at' 25 hbtw HX.out BT.out hat1 hat2 (by decide) (by decide)) ?_
   rintro e w34 ⟨v34,at34,w340,rfl,hv7,hv8,ha7,ha8,T,hE⟩
   replace HX:=Hi (T.ext HX.out (by omega))
   replace BT:=Hi (T.bx)
   replace LP:=Hi (LP.out.put T (by omega))
   replace HO:=Hi (HO.out.put T (by intro h; (try dsimp only at h); omega))
   have hs_w340:=nle T.size
   have hr_w340:=nle T.size.symm
   clear T
   try clear c_BT f_BT l_BT
   obtain ⟨c_BT,f_BT,l_BT⟩:=blk3 BT.out
   replace HX:=hE.tr HX
   replace BT:=hE.bl BT
   replace LP:=Hi (LP.out.ext hE)
   replace HO:=Hi (HO.out.ext hE)
   have hs_w34:=hE.size
   clear hE
   try clear c_BT f_BT l_BT
   obtain ⟨c_BT,f_BT,l_BT⟩:=blk3 BT.out
   go_wp2_with fail
   refine Calls.mono (cos_any v34 _ (by omega) (by omega)) ?_
   rintro e w35 ⟨x35,rfl,hE,g35⟩
   have G35:=Hi g35
   clear g35
   replace HX:=hE.tr HX
   replace BT:=hE.bl BT
   replace LP:=Hi (LP.out.ext hE)
   replace HO:=Hi (HO.out.ext hE)
   have hs_w35:=hE.size
   clear hE
   try clear c_BT f_BT l_BT
   obtain ⟨c_BT,f_BT,l_BT⟩:=blk3 BT.out
   have HTW:Hid (Tw (cosQ v34)):=Hi (cosQ_tw v34)
   have ZC:=Hi (cosQ_sz v34)
   obtain ⟨x,hx⟩:∃ x,x = cosQ v34:=⟨_,rfl⟩
   rw [← hx] at G35 HTW ZC
   clear hx
   obtain ⟨tn,ta,tl,tc,tb,tm,td⟩:=x35
   have hLP:=HO.out
   obtain ⟨L2,hO2,hL2⟩:=OwnQ.fresh (N:=w35.heap.size + pb + bt + 1) hLP
   have hb1:pb ≠ L2:=by omega
   have hb2:L2 ≠ bt:=by omega
   have hb3:w.heap.size≤L2:=by omega
   have hb4:L2 ≠ w35.heap.size:=by omega
   clear HO
   clear hLP h2 h3 h4 hL2 L
   have HO:=Hi hO2
   clear hO2
   obtain ⟨L,hLe⟩:∃ L,L = L2:=⟨_,rfl⟩
   rw [← hLe] at HO hb1 hb2 hb3 hb4
   clear hLe
   go_upto_region 10 with fail
   refine nm_alloc ?_
   intro w36 hE hB0 hz
   have hz_w36:=nle hz
   have hr_w36:=nle hz.symm
   clear hz
   replace HX:=hE.tr HX
   replace BT:=hE.bl BT
   replace LP:=Hi (LP.out.ext hE)
   replace G35:=Hi (G35.out.ext hE)
   replace HO:=Hi (HO.out.ext hE)
   have hs_w36:=hE.size
   clear hE
   try clear c_BT f_BT l_BT
   obtain ⟨c_BT,f_BT,l_BT⟩:=blk3 BT.out
   have B8:=Hi hB0
   clear hB0
   obtain ⟨c_B8,f_B8,l_B8⟩:=blk3 B8.out
   obtain ⟨b8,hb8⟩:∃ b,b = w35.heap.size:=⟨_,rfl⟩
   have hb8w:b8 < w36.heap.size:=by omega
   have hb8t:bt < b8:=by omega
   have hb8r:wr.heap.size≤b8:=by omega
   have hb8L:b8 ≠ L:=by omega
   rw [← hb8] at B8 ⊢
   clear hb8 c_B8 f_B8 l_B8
   have HO2:Hid (OwnQ w36 (· = L) (SH.v ⟨ya,yn,yc⟩) ds):=Hi HO.out
   have hlen:=HO2.out.len
   simp only at hlen
   have LO:Hid (LIn w36 ⟨ya,yn,yc⟩ ds L (L + 1)):=Hi HO2.out.at
   have HX7:=Hi (Ext.refl w36)
   have ZD:Hid (SzL 1 ds):=Hi (fun q hq=>tw_sz (HRF.out.tw q ((HRD.out.mem q).1 hq)))
   go_wp2
   go_loopg [9,38] yn (fun g u9 u38 wy=>∃ i:Nat,i + g = yn∧u9 = .bool (decide (x ∈ ds.take i))∧u38 = .int .i64 (i:Nat)∧Ext w36 wy)
   case atStart=>exact ⟨0,by omega,rfl,rfl,HX7.out⟩
   case round =>
    obtain ⟨i,hi,rfl,rfl,g1⟩:=hrel
    clear HX7
    have HX7:=Hi g1
    have B82:=Hi (g1.block B8.out)
    have LO2:=Hi (LO.out.ext g1)
    have HT2:=Hi (G35.out.ext g1)
    have hyw:=g1.size
    clear g1
    try clear c_B82 f_B82 l_B82
    obtain ⟨c_B82,f_B82,l_B82⟩:=blk3 B82.out
    by_cases h0:gk = 0
    case neg =>
     have hin:(i:Int) < yn:=by omega
     have hiy:i < yn:=by omega
     have HMS:=Hi (mem_snoc (ds:=ds) (i:=i) (x:=x) (by omega))
     obtain ⟨ba,oa,r,hao,hbl,⟨hc1,hc2,hc3⟩,hPc⟩:=LO2.out.celx (k:=i) hiy
     obtain ⟨rneg,ra,rn,rc,rb,rm,rd⟩:=r
     simp only at hc1 hc2 hc3
     have HC:=Hi hPc
     have ZI:Hid (Sz 1 (ds.getD i 0)):=Hi (ZD.out.at (by omega))
     clear hPc
     subst hao
     go_upto_region 14 with fail
     refine nm_alloc ?_
     intro w11 hE hB0 hz
     have hz_w11:=nle hz
     have hr_w11:=nle hz.symm
     clear hz
     replace HX7:=hE.tr HX7
     replace B82:=hE.bl B82
     replace LO2:=Hi (LO2.out.ext hE)
     replace HT2:=Hi (HT2.out.ext hE)
     replace HC:=Hi (HC.out.ext hE)
     have hs_w11:=hE.size
     clear hE
     try clear c_B82 f_B82 l_B82
     obtain ⟨c_B82,f_B82,l_B82⟩:=blk3 B82.out
     have B11:=Hi hB0
     clear hB0
     obtain ⟨c_B11,f_B11,l_B11⟩:=blk3 B11.out
     clear hc1 hc2 hc3
     obtain ⟨d,hd⟩:∃ d,d = decide (x ∈ ds.take i):=⟨_,rfl⟩
     rw [← hd] at HMS ⊢
     clear hd
     cases d
     case true =>
      have HM2:Hid (decide (x ∈ ds.take (i + 1)) = true):=Hi (by rw [HMS.out]; rfl)
      go_wp2
      go_roundg (gk - 1)
      case measure=>omega
      case rel=>exact ⟨i + 1,by omega,by rw [HM2.out],by go_num,HX7.out⟩
     case false =>
      go_wp2_with fail
      refine Calls.mono (rcmp3_any ⟨tn,ta,tl,tc,tb,tm,td⟩ ⟨rneg,ra,rn,rc,rb,rm,rd⟩ x (ds.getD i 0) _ (HT2.out.raw ZC.out (by decide)) (HC.out.raw ZI.out (by decide))) ?_
      rintro e w46 ⟨x46,rfl,hE,-⟩
      replace HX7:=hE.tr HX7
      replace B82:=hE.bl B82
      replace LO2:=Hi (LO2.out.ext hE)
      replace HT2:=Hi (HT2.out.ext hE)
      replace HC:=Hi (HC.out.ext hE)
      replace B11:=hE.bl B11
      have hs_w46:=hE.size
      clear hE
      try clear c_B82 f_B82 l_B82
      obtain ⟨c_B82,f_B82,l_B82⟩:=blk3 B82.out
      try clear c_B11 f_B11 l_B11
      obtain ⟨c_B11,f_B11,l_B11⟩:=blk3 B11.out
      obtain ⟨c,hcc⟩:∃ c,c = cmpR x (ds.getD i 0):=⟨_,rfl⟩
      have HM2:Hid (decide (x ∈ ds.take (i + 1)) = (c == 0)):=Hi (by
       rw [HMS.out,hcc,Bool.false_or]
       by_cases h:x = ds.getD i 0
       ·rw [decide_eq_true h,cmpR_eq0.2 h]; rfl
       ·rw [decide_eq_false h,beq_eq_false_iff_ne.2 (fun k=>h (cmpR_eq0.1 k))])
      rw [← hcc]
      clear hcc HMS
      go_wp2
      go_roundg (gk - 1)
      case measure=>omega
      case rel=>exact ⟨i + 1,by omega,by rw [HM2.out],by go_num,HX7.out⟩
    subst h0
    obtain rfl:i = yn:=by omega
    have hin:¬ (i:Int) < i:=by omega
    have HDT:Hid (ds.take i = ds):=Hi (List.take_of_length_le (by omega))
    obtain ⟨d,hd⟩:∃ d,d = decide (x ∈ ds.take i):=⟨_,rfl⟩
    have HD:Hid (d = decide (x ∈ ds)):=Hi (by rw [hd,HDT.out])
    rw [← hd]
    clear hd HDT
    have HXw:=Hi (HX.out.trans HX7.out)
    have BTw:=Hi (HX7.out.block BT.out)
    have LPw:=Hi (LP.out.ext HX7.out)
    have HOw:=Hi (HO.out.ext HX7.out)
    cases d
    case true =>
     go_wp2
     go_roundg g0
     case measure=>omega
     case rel=>exact ⟨⟨xa,xn,xc⟩,⟨ya,i,yc⟩,a,ds,at34,rfl,rfl,by go_num,BTw.out,HXw.out,ha7,ha8,j,pb,L,rl,by omega,LPw.out,h1,hb1,hb2,hb3,h5,HOw.out,HRF.out,HRD.out,h6,h7⟩
    have HNI:Hid (x ∉ ds):=Hi (of_decide_eq_false HD.out.symm)
    go_upto_region 18 with (at_builtin; refine wpList_append_o rfl (.tmp 51) (.tmp 53) 23 Tryz.underlying23 rfl L _ ds ⟨tn,ta,tl,tc,tb,tm,td⟩ x rfl HOw.out rfl HT2.out (by omega) ?_; intro s' L' y1 q1 q2 q3 q4)
    obtain ⟨za,zn,zc⟩:=s'
    have HX3:=Hi (q2.ext HXw.out hb3)
    have BT3:=Hi (q2.rest bt _ (by omega) BTw.out)
    have B83:=Hi (q2.rest b8 _ hb8L B82.out)
    have LP3:=Hi (LPw.out.mut q2 (by omega))
    have HT3:=Hi (HT2.out.keep q2.keep)
    have HO3:=Hi q1
    have hxn:xn ≠ 0:=by have e1:=LPw.out.len; have e2:=HRF.out.len; simp only at e1; omega
    have hpw:=LPw.out.blt hxn
    have hb8s:b8 < y1.heap.size:=(Array.getElem?_eq_some_iff.1 B83.out).1
    have hq5:=q2.size
    have hL1:pb ≠ L':=by omega
    have hL2:L' ≠ bt:=by omega
    have hL3:w.heap.size≤L':=by omega
    clear q1 q2 q3 HX7 HXw BTw LPw HOw HX BT LP HO B8 B82 LO LO2 HO2 HT2 HD
    simp only [SH.v] at HO3 ⊢
    try clear c_BT3 f_BT3 l_BT3
    obtain ⟨c_BT3,f_BT3,l_BT3⟩:=blk3 BT3.out
    try clear c_B83 f_B83 l_B83
    obtain ⟨c_B83,f_B83,l_B83⟩:=blk3 B83.out
    go_wp2_with fail
    refine Calls.mono (HI.out bt y1 at34 3 hbtw HX3.out BT3.out ha7 ha8 (by decide) (by decide)) ?_
    rintro e w56 ⟨v56,at56,w560,rfl,hv9,hv10,ha9,ha10,T,hE⟩
    replace HX3:=Hi (T.ext HX3.out (by omega))
    replace BT3:=Hi (T.bx)
    replace B83:=Hi (T.rest _ _ (by omega) B83.out)
    replace LP3:=Hi (LP3.out.put T (by omega))
    replace HT3:=Hi (HT3.out.keep T.keep)
    replace HO3:=Hi (HO3.out.put T (by intro h; (try dsimp only at h); omega))
    have hs_w560:=nle T.size
    have hr_w560:=nle T.size.symm
    clear T
    try clear c_BT3 f_BT3 l_BT3
    obtain ⟨c_BT3,f_BT3,l_BT3⟩:=blk3 BT3.out
    try clear c_B83 f_B83 l_B83
    obtain ⟨c_B83,f_B83,l_B83⟩:=blk3 B83.out
    replace HX3:=hE.tr HX3
    replace BT3:=hE.bl BT3
    replace B83:=hE.bl B83
    replace LP3:=Hi (LP3.out.ext hE)
    replace HT3:=Hi (HT3.out.ext hE)
    replace HO3:=Hi (HO3.out.ext hE)
    have hs_w56:=hE.size
    clear hE
    try clear c_BT3 f_BT3 l_BT3
    obtain ⟨c_BT3,f_BT3,l_BT3⟩:=blk3 BT3.out
    try clear c_B83 f_B83 l_B83
    obtain ⟨c_B83,f_B83,l_B83⟩:=blk3 B83.out
    obtain ⟨k,rfl⟩:∃ m:Nat,v56 = (m:Nat):=⟨v56.toNat,by omega⟩
    have hk2:k≤2:=by omega
    have hk1:((k + 1:Nat):Int) - 1 = k:=by omega
    go_wp2
    go_loopg [5,12] (k + 1) (fun g u5 u12 wz=>∃ (xp:SH) (a' rl':List Rat) (qb:Nat),u5 = xp.v∧u12 = .int .i64 ((g:Int) - 1)∧g≤k + 1∧Ext w56 wz∧LIn wz xp a' qb (qb + 1)∧qb ≠ bt∧qb ≠ L'∧w.heap.size≤qb∧RoF a' rl' none∧rl'.length + g = rl.length + (k + 1)∧(∀ y ∈ rl',y = x ∨ y ∈ rl)∧(∀ y ∈ rl,y ∈ rl')∧(g≤k→x ∈ rl'))
    case atStart=>exact ⟨⟨xa,xn,xc⟩,a,rl,pb,rfl,by rw [hk1],Nat.le_refl _,Ext.refl _,LP3.out,h1,hL1,h5,HRF.out,by omega,fun y hy=>Or.inr hy,fun y hy=>hy,fun h=>absurd h (by omega)⟩
    case round =>
     obtain ⟨⟨pa,pn,pc⟩,a',rl',qb,rfl,rfl,hgk,g1,g2,g3,g4,g5,g6,g7,g8,g9,g10⟩:=hrel
     have HX8:=Hi g1
     have HXz:=Hi (HX3.out.trans g1)
     have BTz:=Hi (g1.block BT3.out)
     have B8z:=Hi (g1.block B83.out)
     have HTz:=Hi (HT3.out.ext g1)
     have HOz:=Hi (HO3.out.ext g1)
     have LPz:=Hi g2
     have HRz:=Hi g6
     have HM1:=Hi g8
     have HM2:=Hi g9
     have HM3:=Hi g10
     have hszz:=g1.size
     clear g1 g2 g6 g8 g9 g10
     simp only [SH.v]
     by_cases h0:gk = 0
     case pos =>
      subst h0
      have hneg:¬ (0:Int)≤((0:Nat):Int) - 1:=by omega
      have HRD2:=Hi (HRD.out.more HNI.out HM1.out HM2.out (HM3.out (Nat.zero_le _)))
      go_wp2
      go_roundg g0
      case measure=>omega
      case rel=>exact ⟨⟨pa,pn,pc⟩,⟨za,zn,zc⟩,a',ds ++ [x],at56,rfl,rfl,by go_num,BTz.out,HXz.out,ha9,ha10,j + 1,qb,L',rl',by omega,LPz.out,g3,g4,hL2,hL3,g5,HOz.out,HRz.out,HRD2.out,by omega,by simp; omega⟩
     obtain ⟨g1,rfl⟩:∃ g1,gk = g1 + 1:=⟨gk - 1,by omega⟩
     have hg1:((g1 + 1:Nat):Int) - 1 = g1:=by omega
     rw [hg1]
     have hgp:(0:Int)≤(g1:Nat):=by omega
     have hrl9:rl'.length≤9:=by omega
     have ZP:Hid (SzL 2 a'):=Hi (HRz.out.sz hrl9)
     have hal:=HRz.out.len
     have hxl:=LPz.out.len
     simp only [dg] at hal hxl
     have ZF:Hid (SzL 2 [-x,((1:Int):Rat)]):=Hi (fun y hy=>by
      rcases List.mem_cons.1 hy with rfl | hy
      ·exact ZC.out.neg.mono (by decide)
      ·obtain rfl:y = ((1:Int):Rat):=by simpa using hy
       exact (Sz.int (by decide)).mono (by decide))
     try clear c_B8z f_B8z l_B8z
     obtain ⟨c_B8z,f_B8z,l_B8z⟩:=blk3 B8z.out
     go_wp2_with fail
     refine Calls.mono (rneg3_any ⟨tn,ta,tl,tc,tb,tm,td⟩ x _ (HTz.out.raw ZC.out (by decide))) ?_
     rintro e w63 ⟨x63,rfl,hE,g63⟩
     have G63:=Hi g63
     clear g63
     replace HX8:=hE.tr HX8
     replace HXz:=hE.tr HXz
     replace B8z:=hE.bl B8z
     replace LPz:=Hi (LPz.out.ext hE)
     replace HTz:=Hi (HTz.out.ext hE)
     have hs_w63:=hE.size
     clear hE
     try clear c_B8z f_B8z l_B8z
     obtain ⟨c_B8z,f_B8z,l_B8z⟩:=blk3 B8z.out
     go_wp2_with fail
     refine Calls.mono (rof3_any 1 _ (by decide) (by decide)) ?_
     rintro e w64 ⟨x64,rfl,hE,g64⟩
     have G64:=Hi g64
     clear g64
     replace HX8:=hE.tr HX8
     replace HXz:=hE.tr HXz
     replace B8z:=hE.bl B8z
     replace LPz:=Hi (LPz.out.ext hE)
     replace HTz:=Hi (HTz.out.ext hE)
     replace G63:=Hi (G63.out.ext hE)
     have hs_w64:=hE.size
     clear hE
     try clear c_B8z f_B8z l_B8z
     obtain ⟨c_B8z,f_B8z,l_B8z⟩:=blk3 B8z.out
     go_wp2_with fail
     refine nm_alloc (F:=fun W=>Calls _ _ _ W _) ?_
     intro w65 hE hB0 hz
     have hz_w65:=nle hz
     have hr_w65:=nle hz.symm
     clear hz
     replace HX8:=hE.tr HX8
     replace HXz:=hE.tr HXz
     replace B8z:=hE.bl B8z
     replace LPz:=Hi (LPz.out.ext hE)
     replace HTz:=Hi (HTz.out.ext hE)
     replace G63:=Hi (G63.out.ext hE)
     replace G64:=Hi (G64.out.ext hE)
     have hs_w65:=hE.size
     clear hE
     try clear c_B8z f_B8z l_B8z
     obtain ⟨c_B8z,f_B8z,l_B8z⟩:=blk3 B8z.out
     have B65:=Hi hB0
     clear hB0
     obtain ⟨c_B65,f_B65,l_B65⟩:=blk3 B65.out
     change Calls _ _ _ _ _
     have L2:=Hi (canL_2 B65.out G63.out G64.out)
     refine Calls.mono (mul5_any pa _ pn pc 2 2 a' [-x,((1:Int):Rat)] 2 _ (LPz.out.can.raw ZP.out (by decide)) (L2.out.raw ZF.out (by decide)) (by omega) (by decide) ZP.out ZF.out (by decide)) ?_
     rintro e w66 ⟨x66,rfl,hE,g66⟩
     have G66:=Hi g66
     clear g66
     replace HX8:=hE.tr HX8
     replace HXz:=hE.tr HXz
     replace B8z:=hE.bl B8z
     replace LPz:=Hi (LPz.out.ext hE)
     replace HTz:=Hi (HTz.out.ext hE)
     replace G63:=Hi (G63.out.ext hE)
     replace G64:=Hi (G64.out.ext hE)
     replace B65:=hE.bl B65
     replace L2:=Hi (L2.out.ext hE)
     have hs_w66:=hE.size
     clear hE
     try clear c_B8z f_B8z l_B8z
     obtain ⟨c_B8z,f_B8z,l_B8z⟩:=blk3 B8z.out
     try clear c_B65 f_B65 l_B65
     obtain ⟨c_B65,f_B65,l_B65⟩:=blk3 B65.out
     obtain ⟨ra,rn,rc⟩:=x66
     obtain ⟨rb,k1,-,k2⟩:=LIn.one G66.out
     have HRn:=Hi k2
     have HRq:=Hi (HRz.out.step HTW.out)
     clear G66 k2
     go_wp2
     go_roundg g1
     case measure=>omega
     case rel=>exact ⟨⟨ra,rn,rc⟩,_,x :: rl',rb,rfl,by go_num,by omega,HX8.out,HRn.out,by omega,by omega,by omega,HRq.out,by rw [List.length_cons]; omega,fun y hy=>(List.mem_cons.1 hy).elim Or.inl (HM1.out y),fun y hy=>List.mem_cons_of_mem _ (HM2.out y hy),fun _=>List.mem_cons_self ..⟩
end Go.Proofs.YtcbgamclcgcodaaGreat
