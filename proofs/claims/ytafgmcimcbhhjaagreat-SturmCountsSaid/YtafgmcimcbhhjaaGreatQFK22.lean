import Derived.Test.YtafgmcimcbhhjaaGreatQFK21
import Derived.Deep.DeepCutAuto
import Derived.ProofKit
import Derived.OpenShut
import Derived.ShutString
import Derived.ChangeOld
import Derived.Lib.SmallJoins
set_option linter.unusedVariables false
namespace Go.Proofs.YtafgmcimcbhhjaaGreat
open Go.RowKit Go.Front Go.Num Stab Sg
attribute [local go_sem] XW.cell XW.frozen
theorem LIn.one{w:World}{s:SH}{qs:List Rat}{lo hi:Nat}(h:LIn w s qs lo hi):∃ b,lo≤b∧(s.n≠0→b<hi)∧LIn w s qs b (b+1):=by
 obtain ⟨rs,h1,h2,h3⟩:=h;rcases h3 with h0|⟨b,off,e,h4,h5⟩
 ·exact ⟨lo,nXe _,fun k=>absurd h0 k,rs,h1,h2,Or.inl h0⟩
 ·exact ⟨b,h4,fun _=>h5,rs,h1,h2,Or.inr ⟨b,off,e,nXe _,Nat.lt_succ_self _⟩⟩
theorem LIn.blt{w:World}{s:SH}{qs:List Rat}{b:Nat}(h:LIn w s qs b (b+1))(hn:s.n≠0):b<w.heap.size:=by
 obtain ⟨rs,h1,h2,h3⟩:=h;rcases h3 with h0|⟨x,off,e,h4,h5⟩
 ·exact absurd h0 hn
 ·rcases h1.in with h0|⟨y,o,e2,-,h6⟩
  ·exact absurd h0 hn
  ·rw [e] at e2;obtain ⟨rfl,rfl⟩:x=y∧off=o:=by simpa using e2
   omega
theorem bB.at0{w:World}{N n c:Nat}{qs:List Rat}(h:bB w ⟨some ⟨N,0,none⟩,n,c⟩ qs):LIn w ⟨some ⟨N,0,none⟩,n,c⟩ qs N (N+1) :=
 let ⟨rs,h1,h2⟩:=h;⟨rs,h1,h2,Or.inr ⟨N,0,rfl,nXe _,Nat.lt_succ_self _⟩⟩
theorem dJ.at{w:World}{L:Nat}{s:SH}{qs:List Rat}(h:dJ w (·=L) s.v qs):LIn w s qs L (L+1):=by
 have h1:=h.new (B:=L) (fun k _ e=>nle e.symm);obtain ⟨rs,h2,h3⟩:=h;rcases h2 with ⟨e,rfl⟩|⟨L2,cap,re,e,h4,h5⟩
 ·obtain ⟨rs2,k1,k2,k3⟩:=h1;refine ⟨rs2,k1,k2,Or.inl ?_⟩;have:=congrArg (fun v=>match v with | .slice _ n _=>n|_=>0) e;simpa [SH.v] using this
 ·obtain ⟨rs2,k1,k2,k3⟩:=h1;have e2:=congrArg (fun v=>match v with | .slice a _ _=>a|_=>none) e;simp only at e2;exact ⟨rs2,k1,k2,Or.inr ⟨L2,0,e2,nle h4.symm,zo⟩⟩
theorem kB{w:World}{ops:Array Oper}{rest:List Oper}{o:Oper}{a:Act}{Q:Exit→Act→World→Prop}(hgd:o.guard=none)(s x:Operand)(T:TypeId)(hT:Tryz.prog.underlying T=some (.slice 34))
 (ho:o.op=.call { callee:=.builtin .append,args:=#[s,x],argTypes:=#[T,T] })(L:Nat)(v:Value)(qs:List Rat)(r:RH)(q:Rat)(hs:a.eval s=v)(hown:dJ w (·=L) v qs)
 (hx:a.eval x=.slice (some ⟨w.heap.size,0,none⟩) 1 1)(hr:aB w r q)(hl:qs.length≤1073741824)
 (h:∀ (s':SH) L' w',dJ w' (·=L') s'.v (qs++[q])→Mut L w w'→(L'=L∨w.heap.size≤L')→L' < w'.heap.size→wpList Tryz.prog ops Q rest (a.put o.dst s'.v) w'):wpList Tryz.prog ops Q (o :: rest) a (w.alloc (.cells #[.bool r.neg,.slice r.a r.n r.c,.slice r.b r.m r.d] 34)):=by
 refine ek hgd s x T hT ho (fun k=>k=L∨w.heap.size≤k) v qs r q hs (hown.mono fun k _ e=>Or.inl e) hx hr hl (fun k hk=>Or.inr hk) ?_;intro s' w' g1 g2 g3;have hm:Mut L w w':=⟨g3,⟨g2.os,g2.tape,g2.output,g2.size,fun k hk hn=>g2.block k hk (fun h=>h.elim hn (fun h4=>Nat.lt_irrefl _ (nXn hk h4)))⟩⟩;obtain ⟨rs,k1,k2⟩:=g1;rcases k1 with ⟨e,rfl⟩|⟨L2,cap,re,e,h4,h5,h6⟩
 ·have h7:=k2.1;simp at h7
 ·exact h s' L2 w' ⟨rs,Or.inr ⟨L2,cap,re,e,rfl,h5,h6⟩,k2⟩ hm h4 h5.lt
theorem dJ.fresh{w:World}{L N:Nat}{v:Value}{qs:List Rat}(h:dJ w (·=L) v qs):∃ L2,dJ w (·=L2) v qs∧((L2=L∧L<w.heap.size)∨L2=N):=by
 obtain ⟨rs,h1,h2⟩:=h;rcases h1 with ⟨e,rfl⟩|⟨L2,cap,re,e,h3,h4,h5⟩
 ·exact ⟨N,⟨[],Or.inl ⟨e,rfl⟩,h2⟩,Or.inr rfl⟩
 ·exact ⟨L,⟨rs,Or.inr ⟨L2,cap,re,e,h3,h4,h5⟩,h2⟩,Or.inl ⟨rfl,by rw [←h3];exact h4.lt⟩⟩
theorem BV:∀ m:Nat,m<25→((((m:Int)-12:Int):Rat) / 12).num.natAbs<W32∧((((m:Int)-12:Int):Rat) / 12).den<W32:=by decide +kernel
theorem Dx{q:Rat}(h:Tw q):Sz 1 q:=by
 obtain ⟨z,h1,h2⟩:=h;have e:q=(((z+12).toNat:Int)-12:Int) / 12:=by
  rw [show (((z+12).toNat:Int)-12:Int)=z by omega,←h1,Rat.div_def,nYd,nYj _ dZ,Rat.mul_one]
 have h3:=BV (z+12).toNat zo;rw [←e] at h3;exact ⟨by rw [Nat.pow_one];exact h3.1,by rw [Nat.pow_one];exact h3.2⟩
abbrev RT2(x:(SH×SH)×(List Rat×List Rat)):Value:=.tuple #[x.1.1.v,x.1.2.v]
theorem xR{ds:List Rat}{i:Nat}{x:Rat}(hi:i<ds.length):decide (x ∈ ds.take (i+1))=(decide (x ∈ ds.take i) || decide (x=ds.getD i 0)):=by
 have e:ds.take (i+1)=ds.take i++[ds.getD i 0]:=by
  rw [List.take_add_one,nXd,List.getElem?_eq_getElem hi];rfl
 rw [e];by_cases h1:x ∈ ds.take i
 ·rw [decide_eq_true h1,decide_eq_true (List.mem_append.2 (Or.inl h1))];rfl
 ·rw [decide_eq_false h1];by_cases h2:x=ds.getD i 0
  ·rw [decide_eq_true h2,decide_eq_true (List.mem_append.2 (Or.inr (by rw [h2];exact nXu.2 rfl)))];rfl
  ·rw [decide_eq_false h2,decide_eq_false (fun h=>(List.mem_append.1 h).elim h1 (fun k=>h2 (nXu.1 k)))];rfl
structure RtL (w wr:World) (bt n cap:Nat) (ao:Option Addr) (xp xr:SH) (g:Nat) (a ds:List Rat) (at':Int):Prop where
 hx:Ext w wr
 ha1:0≤at'
 ha2:at'≤n
 ex:∃ (j pb L:Nat) (rl:List Rat),j+g≤3∧LIn wr xp a pb (pb+1)∧pb≠bt∧pb≠L∧L≠bt∧w.heap.size≤L∧w.heap.size≤pb∧dJ wr (·=L) xr.v ds∧RoF a rl none∧RoD ds rl∧rl.length≤3*j∧ds.length≤j
set_option maxRecDepth 8000 in
set_option maxHeartbeats 8000000 in
theorem sy(ao:Option Addr)(cap:Nat)(xs:List Int)(w:World)(h:eQ w ao xs)(hr:InR xs)(hl:xs.length≤9223372036854775807)(hc:xs.length≤cap)(hcm:cap≤9223372036854775807) :
  ar 29 [.slice ao xs.length cap] w RT2 (fun x w'=>(∃ e,LIn w' x.1.1 x.2.1 w.heap.size e)∧bB w' x.1.2 x.2.2∧zZ x.2.1 x.2.2):=by
 have HX:=Hi (Ext.refl w);obtain ⟨n,hn⟩:∃ n,n=xs.length:=⟨_,rfl⟩;have HI:Hid (∀ b w1 (at' N:Int),w.heap.size≤b→Ext w w1→w1.heap[b]?=some (.cells #[.slice ao n cap,.int .i64 at'] 103 (0,0))→0≤at'→at'≤n→0<N→N≤9223372036854775807 →
   Calls Tryz.prog 82 #[ptr b,.int .i64 N] w1 (rX b n ao cap N w1)):=Hi (fun b w1 at' N hb he hB h0 h1 hN hN2=>xL b n cap ao xs at' N w1 hB (h.ext he) hr hn.symm zo zo hcm (fun hne p hp=>by have:=h.lt hne p hp;omega) h0 h1 hN hN2)
 rw [←hn] at hl hc ⊢;clear hn h hr;unfold ar;go_enter Tryz.func29,Tryz.ntmps29
 go_upto_region 2 with fail
 refine nmA ?_;intro w1 hE BT hz_w1 hr_w1;replace HX:=hE.tr HX;have hs_w1:=hE.size;replace b_BT:=bX3 BT;obtain ⟨bt,hbt⟩:∃ bt,bt=w.heap.size:=⟨_,rfl⟩;have hbtw:w.heap.size≤bt:=zo;have hbt1:bt<w1.heap.size:=zo;rw [←hbt] at BT ⊢;clear hbt b_BT
 go_wp2_with fail
 refine Calls.mono (HI.out bt w1 0 3 hbtw HX.out BT.out zo zo dZ dZ) ?_;rintro e w17 ⟨v17,at17,w170,rfl,hv1,hv2,ha1,ha2,T,hE⟩;replace HX:=Hi (T.ext HX.out zo);replace BT:=Hi (T.bx);have hs_w170:=nle T.size;have hr_w170:=nle T.size.symm;clear T;replace b_BT:=bX3 BT;refine mV2 hE ?_ HX BT;clear HX BT;intro HX BT;have hs_w17:=hE.size;replace b_BT:=bX3 BT;obtain ⟨c0,rfl⟩:∃ m:Nat,v17=(m:Nat):=⟨v17.toNat,zo⟩
 go_wp2_with fail
 refine cM (aO (1+(c0:Int)) _ zo zo) fun x19 w19 hE G19=>?_
 refine mV2 hE ?_ HX BT;clear HX BT;intro HX BT;have hs_w19:=hE.size;replace b_BT:=bX3 BT
 go_upto_region 3 with fail
 refine nmA ?_;intro w20 hE B20 hz_w20 hr_w20;refine mV3 hE ?_ G19 HX BT;clear G19 HX BT;intro G19 HX BT;have hs_w20:=hE.size;replace b_BT:=bX3 BT;replace b_B20:=bX3 B20;have LA:Hid (LIn w20 ⟨some ⟨w19.heap.size,0,none⟩,1,1⟩ [((1+(c0:Int):Int):Rat)] w19.heap.size (w19.heap.size+1)):=Hi (Df B20.out G19.out).at0;have HRF:Hid (RoF [((1+(c0:Int):Int):Rat)] [] none):=Hi (RoF.start zo zo);obtain ⟨a0,hae⟩:∃ a:List Rat,a=[((1+(c0:Int):Int):Rat)]:=⟨_,rfl⟩;rw [←hae] at LA HRF;clear hae;obtain ⟨pb,hpb⟩:∃ b,b=w19.heap.size:=⟨_,rfl⟩;have hpbt:bt<pb:=zo;have hpb20:pb<w20.heap.size:=zo;have hpbw:w.heap.size≤pb:=zo;rw [←hpb] at LA B20 ⊢;clear hpb b_B20
 (try clear b_B20);(try clear B20)
 clear G19
 go_wp2_with fail
 refine Calls.mono (HI.out bt w20 at17 2 hbtw HX.out BT.out ha1 ha2 dZ dZ) ?_;rintro e w22 ⟨v22,at22,w220,rfl,hv3,hv4,ha3,ha4,T,hE⟩;replace HX:=Hi (T.ext HX.out zo);replace BT:=Hi (T.bx);replace LA:=Hi (LA.out.put T zo);have hs_w220:=nle T.size;have hr_w220:=nle T.size.symm;clear T;replace b_BT:=bX3 BT;refine mV3 hE ?_ HX BT LA;clear HX BT LA;intro HX BT LA;have hs_w22:=hE.size;replace b_BT:=bX3 BT;have HC22:=b_BT.1;have ZA:Hid (SzL 2 a0):=Hi (HRF.out.sz (by simp));have ZM:Hid (Sz 1 ((-1:Int):Rat)):=Hi (Sz.int dZ)
 go_upto_if 23 with fail
 go_cut [5] (fun pv wc=>∃ (xp:SH) (a:List Rat) (pb:Nat),pv=xp.v∧Ext w wc∧wc.heap[bt]?=some (.cells #[.slice ao n cap,.int .i64 at22] 103 (0,0))∧LIn wc xp a pb (pb+1)∧pb≠bt∧w.heap.size≤pb∧RoF a [] none)
 case first =>
  by_cases hv:v22=1
  case pos =>
   subst hv
   go_wp2_with fail
   refine cM (aO (-1) _ dZ dZ) fun x25 w25 hE G25=>?_
   refine mV3 hE ?_ HX BT LA;clear HX BT LA;intro HX BT LA;have hs_w25:=hE.size;replace b_BT:=bX3 BT
   go_wp2_with fail
   refine cM (gU (some ⟨pb,0,none⟩) 1 1 a0 x25 ((-1:Int):Rat) _ (LA.out.can.raw ZA.out dZ) (G25.out.raw ZM.out dZ) dZ (ZA.out.mono dZ) (ZM.out.mono dZ)) fun x26 w26 hE G26=>?_
   refine mV4 hE ?_ G25 HX BT LA;clear G25 HX BT LA;intro G25 HX BT LA;have hs_w26:=hE.size;replace b_BT:=bX3 BT;obtain ⟨qb,h1,-,h2⟩:=LIn.one G26.out;have HQ:=Hi h2;clear h2;go_wp2
   go_meet
   case rel=>exact ⟨x26,_,qb,rfl,HX.out,BT.out,HQ.out,zo,zo,HRF.out.neg⟩
  have hvb:(v22 == 1)=false:=by rw [nXs];exact hv
  go_wp2
  go_meet
  case rel=>exact ⟨⟨some ⟨pb,0,none⟩,1,1⟩,a0,pb,rfl,HX.out,BT.out,LA.out,zo,zo,HRF.out⟩
 case rest =>
  obtain ⟨⟨xa,xn,xc⟩,a,pb',rfl,g1,g2,g3,g4,g5,g6⟩:=hcut;clear HX BT LA ZA ZM HRF HC22;have HX:=Hi g1;have BT:=Hi g2;have LP:=Hi g3;have HRF:=Hi g6;clear g1 g2 g3 g6 b_BT;simp only [SH.v];replace b_BT:=bX3 BT
  go_wp2_with fail
  refine Calls.mono (HI.out bt wc at22 4 hbtw HX.out BT.out ha3 ha4 dZ dZ) ?_;rintro e w28 ⟨v28,at28,w280,rfl,hv5,hv6,ha5,ha6,T,hE⟩;replace HX:=Hi (T.ext HX.out zo);replace BT:=Hi (T.bx);replace LP:=Hi (LP.out.put T zo);have hs_w280:=nle T.size;have hr_w280:=nle T.size.symm;clear T;replace b_BT:=bX3 BT;refine mV3 hE ?_ HX BT LP;clear HX BT LP;intro HX BT LP;have hs_w28:=hE.size;replace b_BT:=bX3 BT;obtain ⟨m,rfl⟩:∃ m:Nat,v28=(m:Nat):=⟨v28.toNat,zo⟩;go_wp2
  go_loopg [5,6,7] m (fun g u5 u6 u7 wr=>∃ (xp xr:SH) (a ds:List Rat) (at':Int),u5=xp.v∧u6=xr.v∧u7=.int .i64 (g:Nat)∧wr.heap[bt]?=some (.cells #[.slice ao n cap,.int .i64 at'] 103 (0,0))∧RtL w wr bt n cap ao xp xr g a ds at')
  case atStart=>exact ⟨⟨xa,xn,xc⟩,⟨none,0,0⟩,a,[],at28,rfl,rfl,rfl,BT.out,HX.out,ha5,ha6,0,pb',pb'+bt+1,[],zo,LP.out,zo,zo,zo,zo,zo,dJ.nil _ _,HRF.out,RoD.nil,by simp,by simp⟩
  case round =>
   obtain ⟨⟨xa,xn,xc⟩,⟨ya,yn,yc⟩,a,ds,at',rfl,rfl,rfl,g1,g2,hat1,hat2,j,pb,L,rl,hj,g3,h1,h2,h3,h4,h5,g4,g5,g6,h6,h7⟩:=hrel;clear HX BT LP HRF;have HX:=Hi g2;have BT:=Hi g1;have LP:=Hi g3;have HO:=Hi g4;have HRF:=Hi g5;have HRD:=Hi g6;clear g1 g2 g3 g4 g5 g6 b_BT;simp only [SH.v] at HO ⊢;replace b_BT:=bX3 BT;have hszw:=HX.out.size;have hbtr:=b_BT.2.2;by_cases hg0:gk=0
   case pos =>
    subst hg0;have hgz:¬ (0:Int)<((0:Nat):Int):=zo;have HO2:Hid (dJ wr (·=L) (SH.v ⟨ya,yn,yc⟩) ds):=Hi HO.out;have LO:Hid (LIn wr ⟨ya,yn,yc⟩ ds L (L+1)):=Hi HO2.out.at;clear HO2;clear HO;have hal:=HRF.out.len;have hxl:=LP.out.len;simp only [dg] at hal hxl;have hrl9:rl.length≤9:=zo;have ZP:Hid (SzL 2 a):=Hi (HRF.out.sz hrl9)
    go_wp2_with fail
    refine Calls.mono (HI.out bt wr at' 2 hbtw HX.out BT.out hat1 hat2 dZ dZ) ?_;rintro e w68 ⟨v68,at68,w680,rfl,hv7,hv8,ha7,ha8,T,hE⟩;replace HX:=Hi (T.ext HX.out zo);replace BT:=Hi (T.bx);replace LP:=Hi (LP.out.put T zo);replace LO:=Hi (LO.out.put T zo);have hs_w680:=nle T.size;have hr_w680:=nle T.size.symm;clear T;replace b_BT:=bX3 BT;refine mV4 hE ?_ HX BT LP LO;clear HX BT LP LO;intro HX BT LP LO;have hs_w68:=hE.size;replace b_BT:=bX3 BT;by_cases hv:v68=1
    case neg =>
     have hvb:(v68 == 1)=false:=by rw [nXs];exact hv
     go_wp2;exact nXa (v:=RT2 ((⟨xa,xn,xc⟩,⟨ya,yn,yc⟩),(a,ds))) (by simp [results,Tryz.results29,go_sem,RT2]) rfl
      ⟨((⟨xa,xn,xc⟩,⟨ya,yn,yc⟩),(a,ds)),rfl,HX.out,⟨_,LP.out.mono zo (nXe _)⟩,LO.out.can,rl,none,HRF.out,HRD.out,hrl9⟩
    subst hv
    go_wp2_with fail
    refine Calls.mono (HI.out bt w68 at68 4 hbtw HX.out BT.out ha7 ha8 dZ dZ) ?_;rintro e w72 ⟨v72,at72,w720,rfl,hv9,hv10,ha9,ha10,T,hE⟩;replace HX:=Hi (T.ext HX.out zo);replace BT:=Hi (T.bx);replace LP:=Hi (LP.out.put T zo);replace LO:=Hi (LO.out.put T zo);have hs_w720:=nle T.size;have hr_w720:=nle T.size.symm;clear T;replace b_BT:=bX3 BT;refine mV4 hE ?_ HX BT LP LO;clear HX BT LP LO;intro HX BT LP LO;have hs_w72:=hE.size;replace b_BT:=bX3 BT;obtain ⟨t,rfl⟩:∃ t:Nat,v72=(t:Nat):=⟨v72.toNat,zo⟩;have ht4:t<4:=zo;have HSX:=Hi (Dz ht4);have HSA:=Hi (yU t ht4)
    go_wp2_with fail
    refine cM (jF (1+(t:Int)) 16 _ zo zo dZ dZ) fun x74 w74 hE G74=>?_
    refine mV4 hE ?_ HX BT LP LO;clear HX BT LP LO;intro HX BT LP LO;have hs_w74:=hE.size;replace b_BT:=bX3 BT;obtain ⟨q,hq⟩:∃ q,q=((1+(t:Int):Int):Rat) / ((16:Int):Rat):=⟨_,rfl⟩;have ZQ:Hid (Sz 1 q):=Hi (by rw [hq];exact ⟨by rw [Nat.pow_one];exact HSA.out.2.2.1,by rw [Nat.pow_one];exact HSA.out.2.2.2⟩);rw [←hq] at G74 HSX;clear hq HSA
    go_wp2_with fail
    refine cM (aO 0 _ dZ dZ) fun x75 w75 hE G75=>?_
    refine mV5 hE ?_ G74 HX BT LP LO;clear G74 HX BT LP LO;intro G74 HX BT LP LO;have hs_w75:=hE.size;replace b_BT:=bX3 BT
    go_wp2_with fail
    refine cM (aO 1 _ dZ dZ) fun x76 w76 hE G76=>?_
    refine mV6 hE ?_ G75 G74 HX BT LP LO;clear G75 G74 HX BT LP LO;intro G75 G74 HX BT LP LO;have hs_w76:=hE.size;replace b_BT:=bX3 BT
    go_wp2_with fail
    refine nmA (F:=fun W=>Calls _ _ _ W _) ?_;intro w77 hE B77 hz_w77 hr_w77;refine mV7 hE ?_ G76 G75 G74 HX BT LP LO;clear G76 G75 G74 HX BT LP LO;intro G76 G75 G74 HX BT LP LO;have hs_w77:=hE.size;replace b_BT:=bX3 BT;replace b_B77:=bX3 B77
    change Calls _ _ _ _ _
    have L3:=Hi (zV B77.out G74.out G75.out G76.out);have ZF:Hid (SzL 2 [q,((0:Int):Rat),((1:Int):Rat)]):=Hi (fun y hy=>by
     rcases List.mem_cons.1 hy with rfl|hy
     ·exact ZQ.out.mono dZ
     ·rcases List.mem_cons.1 hy with rfl|hy
      ·exact (Sz.int dZ).mono dZ
      ·obtain rfl:y=((1:Int):Rat):=by simpa using hy
       exact (Sz.int dZ).mono dZ)
    refine cM (rh xa _ xn xc 3 3 a [q,((0:Int):Rat),((1:Int):Rat)] 2 _ (LP.out.can.raw ZP.out dZ) (L3.out.raw ZF.out dZ) zo dZ ZP.out ZF.out dZ) fun x78 w78 hE G78=>?_
    refine mV8 hE ?_ B77 G76 G75 G74 HX BT LP LO;clear B77 G76 G75 G74 HX BT LP LO;intro B77 G76 G75 G74 HX BT LP LO;replace L3:=mV hE L3;have hs_w78:=hE.size;replace b_BT:=bX3 BT;replace b_B77:=bX3 B77;obtain ⟨za,zn,zc⟩:=x78;have HZ:=Hi (LIn.mono (lo':=w.heap.size) G78.out zo (nXe _));have HRQ:=Hi (HRF.out.quad HSX.out);clear G78;go_wp2;exact nXa (v:=RT2 ((⟨za,zn,zc⟩,⟨ya,yn,yc⟩),(aI a [q,((0:Int):Rat),((1:Int):Rat)],ds))) (by simp [results,Tryz.results29,go_sem,RT2]) rfl
     ⟨((⟨za,zn,zc⟩,⟨ya,yn,yc⟩),(aI a [q,((0:Int):Rat),((1:Int):Rat)],ds)),rfl,HX.out,⟨_,HZ.out⟩,LO.out.can,rl,some q,HRQ.out,HRD.out,hrl9⟩
   obtain ⟨g0,rfl⟩:∃ g0,gk=g0+1:=⟨gk-1,zo⟩;have hgp:(0:Int)<((g0+1:Nat):Int):=zo
   go_wp2_with fail
   refine Calls.mono (HI.out bt wr at' 25 hbtw HX.out BT.out hat1 hat2 dZ dZ) ?_;rintro e w34 ⟨v34,at34,w340,rfl,hv7,hv8,ha7,ha8,T,hE⟩;replace HX:=Hi (T.ext HX.out zo);replace BT:=Hi (T.bx);replace LP:=Hi (LP.out.put T zo);replace HO:=Hi (HO.out.put T (by intro h;(try dsimp only at h);omega));have hs_w340:=nle T.size;have hr_w340:=nle T.size.symm;clear T;replace b_BT:=bX3 BT;refine mV4 hE ?_ HX BT LP HO;clear HX BT LP HO;intro HX BT LP HO;have hs_w34:=hE.size;replace b_BT:=bX3 BT
   go_wp2_with fail
   refine cM (nJ v34 _ zo zo) fun x35 w35 hE G35=>?_
   refine mV4 hE ?_ HX BT LP HO;clear HX BT LP HO;intro HX BT LP HO;have hs_w35:=hE.size;replace b_BT:=bX3 BT;have HTW:Hid (Tw (sW v34)):=Hi (Bn v34);have ZC:=Hi (dH v34);obtain ⟨x,hx⟩:∃ x,x=sW v34:=⟨_,rfl⟩;rw [←hx] at G35 HTW ZC;clear hx;obtain ⟨tn,ta,tl,tc,tb,tm,td⟩:=x35;have hLP:=HO.out;obtain ⟨L2,hO2,hL2⟩:=dJ.fresh (N:=w35.heap.size+pb+bt+1) hLP;have hb1:pb≠L2:=zo;have hb2:L2≠bt:=zo;have hb3:w.heap.size≤L2:=zo;have hb4:L2≠w35.heap.size:=zo;clear HO;clear hLP h2 h3 h4 hL2 L;have HO:=Hi hO2;clear hO2;obtain ⟨L,hLe⟩:∃ L,L=L2:=⟨_,rfl⟩;rw [←hLe] at HO hb1 hb2 hb3 hb4;clear hLe
   go_upto_region 10 with fail
   refine nmA ?_;intro w36 hE B8 hz_w36 hr_w36;refine mV5 hE ?_ G35 HX BT LP HO;clear G35 HX BT LP HO;intro G35 HX BT LP HO;have hs_w36:=hE.size;replace b_BT:=bX3 BT;replace b_B8:=bX3 B8;obtain ⟨b8,hb8⟩:∃ b,b=w35.heap.size:=⟨_,rfl⟩;have hb8w:b8<w36.heap.size:=zo;have hb8t:bt<b8:=zo;have hb8r:wr.heap.size≤b8:=zo;have hb8L:b8≠L:=zo;rw [←hb8] at B8 ⊢;clear hb8 b_B8;have HO2:Hid (dJ w36 (·=L) (SH.v ⟨ya,yn,yc⟩) ds):=Hi HO.out;have hlen:=HO2.out.len;simp only at hlen;have LO:Hid (LIn w36 ⟨ya,yn,yc⟩ ds L (L+1)):=Hi HO2.out.at;have HX7:=Hi (Ext.refl w36);have ZD:Hid (SzL 1 ds):=Hi (fun q hq=>Dx (HRF.out.tw q ((HRD.out.mem q).1 hq)));go_wp2
   go_loopg [9,38] yn (fun g u9 u38 wy=>∃ i:Nat,i+g=yn∧u9=.bool (decide (x ∈ ds.take i))∧u38=.int .i64 (i:Nat)∧Ext w36 wy)
   case atStart=>exact ⟨0,zo,rfl,rfl,HX7.out⟩
   case round =>
    obtain ⟨i,hi,rfl,rfl,g1⟩:=hrel;clear HX7;have HX7:=Hi g1;have B82:=Hi (g1.block B8.out);have LO2:=Hi (LO.out.ext g1);have HT2:=Hi (G35.out.ext g1);have hyw:=g1.size;clear g1;replace b_B82:=bX3 B82;by_cases h0:gk=0
    case neg =>
     have hin:(i:Int)<yn:=zo;have hiy:i<yn:=zo;have HMS:=Hi (xR (ds:=ds) (i:=i) (x:=x) zo);obtain ⟨ba,oa,r,hao,hbl,⟨hc1,hc2,hc3⟩,hPc⟩:=LO2.out.celx (k:=i) hiy;obtain ⟨rneg,ra,rn,rc,rb,rm,rd⟩:=r;simp only at hc1 hc2 hc3;have HC:=Hi hPc;have ZI:Hid (Sz 1 (ds.getD i 0)):=Hi (ZD.out.at zo);clear hPc;subst hao
     go_upto_region 14 with fail
     refine nmA ?_;intro w11 hE B11 hz_w11 hr_w11;refine mV5 hE ?_ HX7 B82 LO2 HT2 HC;clear HX7 B82 LO2 HT2 HC;intro HX7 B82 LO2 HT2 HC;have hs_w11:=hE.size;replace b_B82:=bX3 B82;replace b_B11:=bX3 B11;clear hc1 hc2 hc3;obtain ⟨d,hd⟩:∃ d,d=decide (x ∈ ds.take i):=⟨_,rfl⟩;rw [←hd] at HMS ⊢;clear hd;cases d
     case true =>
      have HM2:Hid (decide (x ∈ ds.take (i+1))=true):=Hi (by rw [HMS.out];rfl);go_wp2
      go_roundg (gk-1)
      case measure=>omega
      case rel=>exact ⟨i+1,zo,by rw [HM2.out],by go_num,HX7.out⟩
     case false =>
      go_wp2_with fail
      refine cM (gC ⟨tn,ta,tl,tc,tb,tm,td⟩ ⟨rneg,ra,rn,rc,rb,rm,rd⟩ x (ds.getD i 0) _ (HT2.out.raw ZC.out dZ) (HC.out.raw ZI.out dZ)) fun x46 w46 hE _=>?_
      refine mV6 hE ?_ B11 HX7 B82 LO2 HT2 HC;clear B11 HX7 B82 LO2 HT2 HC;intro B11 HX7 B82 LO2 HT2 HC;have hs_w46:=hE.size;replace b_B82:=bX3 B82;replace b_B11:=bX3 B11;obtain ⟨c,hcc⟩:∃ c,c=dO x (ds.getD i 0):=⟨_,rfl⟩;have HM2:Hid (decide (x ∈ ds.take (i+1))=(c == 0)):=Hi (by
       rw [HMS.out,hcc,Bool.false_or];by_cases h:x=ds.getD i 0
       ·rw [decide_eq_true h,kw.2 h];rfl
       ·rw [decide_eq_false h,nXs.2 (fun k=>h (kw.1 k))])
      rw [←hcc];clear hcc HMS;go_wp2
      go_roundg (gk-1)
      case measure=>omega
      case rel=>exact ⟨i+1,zo,by rw [HM2.out],by go_num,HX7.out⟩
    subst h0;obtain rfl:i=yn:=by omega
    have hin:¬ (i:Int)<i:=zo;have HDT:Hid (ds.take i=ds):=Hi (nXm zo);obtain ⟨d,hd⟩:∃ d,d=decide (x ∈ ds.take i):=⟨_,rfl⟩;have HD:Hid (d=decide (x ∈ ds)):=Hi (by rw [hd,HDT.out]);rw [←hd];clear hd HDT;have HXw:=Hi (HX.out.trans HX7.out);have BTw:=Hi (HX7.out.block BT.out);have LPw:=Hi (LP.out.ext HX7.out);have HOw:=Hi (HO.out.ext HX7.out);cases d
    case true =>
     go_wp2
     go_roundg g0
     case measure=>omega
     case rel=>exact ⟨⟨xa,xn,xc⟩,⟨ya,i,yc⟩,a,ds,at34,rfl,rfl,by go_num,BTw.out,HXw.out,ha7,ha8,j,pb,L,rl,zo,LPw.out,h1,hb1,hb2,hb3,h5,HOw.out,HRF.out,HRD.out,h6,h7⟩
    have HNI:Hid (x ∉ ds):=Hi (of_decide_eq_false HD.out.symm)
    go_upto_region 18 with (at_builtin;refine kB rfl (.tmp 51) (.tmp 53) 23 Tryz.underlying23 rfl L _ ds ⟨tn,ta,tl,tc,tb,tm,td⟩ x rfl HOw.out rfl HT2.out zo ?_;intro s' L' y1 q1 q2 q3 q4)
    obtain ⟨za,zn,zc⟩:=s';have HX3:=Hi (q2.ext HXw.out hb3);have BT3:=Hi (q2.rest bt _ zo BTw.out);have B83:=Hi (q2.rest b8 _ hb8L B82.out);have LP3:=Hi (LPw.out.mut q2 zo);have HT3:=Hi (HT2.out.keep q2.keep);have HO3:=Hi q1;have hxn:xn≠0:=by have e1:=LPw.out.len;have e2:=HRF.out.len;simp only at e1;omega
    have hpw:=LPw.out.blt hxn;have hb8s:b8<y1.heap.size:=(nXb.1 B83.out).1;have hq5:=q2.size;have hL1:pb≠L':=zo;have hL2:L'≠bt:=zo;have hL3:w.heap.size≤L':=zo;clear q1 q2 q3 HX7 HXw BTw LPw HOw HX BT LP HO B8 B82 LO LO2 HO2 HT2 HD;simp only [SH.v] at HO3 ⊢;replace b_BT3:=bX3 BT3;replace b_B83:=bX3 B83
    go_wp2_with fail
    refine Calls.mono (HI.out bt y1 at34 3 hbtw HX3.out BT3.out ha7 ha8 dZ dZ) ?_;rintro e w56 ⟨v56,at56,w560,rfl,hv9,hv10,ha9,ha10,T,hE⟩;replace HX3:=Hi (T.ext HX3.out zo);replace BT3:=Hi (T.bx);replace B83:=Hi (T.rest _ _ zo B83.out);replace LP3:=Hi (LP3.out.put T zo);replace HT3:=Hi (HT3.out.keep T.keep);replace HO3:=Hi (HO3.out.put T (by intro h;(try dsimp only at h);omega));have hs_w560:=nle T.size;have hr_w560:=nle T.size.symm;clear T;replace b_BT3:=bX3 BT3;replace b_B83:=bX3 B83;refine mV6 hE ?_ HX3 BT3 B83 LP3 HT3 HO3;clear HX3 BT3 B83 LP3 HT3 HO3;intro HX3 BT3 B83 LP3 HT3 HO3;have hs_w56:=hE.size;replace b_BT3:=bX3 BT3;replace b_B83:=bX3 B83;obtain ⟨k,rfl⟩:∃ m:Nat,v56=(m:Nat):=⟨v56.toNat,zo⟩;have hk2:k≤2:=zo;have hk1:((k+1:Nat):Int)-1=k:=by omega
    go_wp2
    go_loopg [5,12] (k+1) (fun g u5 u12 wz=>∃ (xp:SH) (a' rl':List Rat) (qb:Nat),u5=xp.v∧u12=.int .i64 ((g:Int)-1)∧g≤k+1∧Ext w56 wz∧LIn wz xp a' qb (qb+1)∧qb≠bt∧qb≠L'∧w.heap.size≤qb∧RoF a' rl' none∧rl'.length+g=rl.length+(k+1)∧(∀ y ∈ rl',y=x∨y ∈ rl)∧(∀ y ∈ rl,y ∈ rl')∧(g≤k→x ∈ rl'))
    case atStart=>exact ⟨⟨xa,xn,xc⟩,a,rl,pb,rfl,by rw [hk1],nXe _,Ext.refl _,LP3.out,h1,hL1,h5,HRF.out,zo,fun y hy=>Or.inr hy,fun y hy=>hy,fun h=>absurd h zo⟩
    case round =>
     obtain ⟨⟨pa,pn,pc⟩,a',rl',qb,rfl,rfl,hgk,g1,g2,g3,g4,g5,g6,g7,g8,g9,g10⟩:=hrel;have HX8:=Hi g1;have HXz:=Hi (HX3.out.trans g1);have BTz:=Hi (g1.block BT3.out);have B8z:=Hi (g1.block B83.out);have HTz:=Hi (HT3.out.ext g1);have HOz:=Hi (HO3.out.ext g1);have LPz:=Hi g2;have HRz:=Hi g6;have HM1:=Hi g8;have HM2:=Hi g9;have HM3:=Hi g10;have hszz:=g1.size;clear g1 g2 g6 g8 g9 g10;simp only [SH.v];by_cases h0:gk=0
     case pos =>
      subst h0;have hneg:¬ (0:Int)≤((0:Nat):Int)-1:=zo;have HRD2:=Hi (HRD.out.more HNI.out HM1.out HM2.out (HM3.out (Nat.zero_le _)));go_wp2
      go_roundg g0
      case measure=>omega
      case rel=>exact ⟨⟨pa,pn,pc⟩,⟨za,zn,zc⟩,a',ds++[x],at56,rfl,rfl,by go_num,BTz.out,HXz.out,ha9,ha10,j+1,qb,L',rl',zo,LPz.out,g3,g4,hL2,hL3,g5,HOz.out,HRz.out,HRD2.out,zo,by simp;omega⟩
     obtain ⟨g1,rfl⟩:∃ g1,gk=g1+1:=⟨gk-1,zo⟩;have hg1:((g1+1:Nat):Int)-1=g1:=by omega
     rw [hg1];have hgp:(0:Int)≤(g1:Nat):=zo;have hrl9:rl'.length≤9:=zo;have ZP:Hid (SzL 2 a'):=Hi (HRz.out.sz hrl9);have hal:=HRz.out.len;have hxl:=LPz.out.len;simp only [dg] at hal hxl;have ZF:Hid (SzL 2 [-x,((1:Int):Rat)]):=Hi (fun y hy=>by
      rcases List.mem_cons.1 hy with rfl|hy
      ·exact ZC.out.neg.mono dZ
      ·obtain rfl:y=((1:Int):Rat):=by simpa using hy
       exact (Sz.int dZ).mono dZ)
     replace b_B8z:=bX3 B8z
     go_wp2_with fail
     refine cM (n8 ⟨tn,ta,tl,tc,tb,tm,td⟩ x _ (HTz.out.raw ZC.out dZ)) fun x63 w63 hE G63=>?_
     refine mV5 hE ?_ HX8 HXz B8z HTz LPz;clear HX8 HXz B8z HTz LPz;intro HX8 HXz B8z HTz LPz;have hs_w63:=hE.size;replace b_B8z:=bX3 B8z
     go_wp2_with fail
     refine cM (aO 1 _ dZ dZ) fun x64 w64 hE G64=>?_
     refine mV6 hE ?_ G63 HX8 HXz B8z HTz LPz;clear G63 HX8 HXz B8z HTz LPz;intro G63 HX8 HXz B8z HTz LPz;have hs_w64:=hE.size;replace b_B8z:=bX3 B8z
     go_wp2_with fail
     refine nmA (F:=fun W=>Calls _ _ _ W _) ?_;intro w65 hE B65 hz_w65 hr_w65;refine mV7 hE ?_ G64 G63 HX8 HXz B8z HTz LPz;clear G64 G63 HX8 HXz B8z HTz LPz;intro G64 G63 HX8 HXz B8z HTz LPz;have hs_w65:=hE.size;replace b_B8z:=bX3 B8z;replace b_B65:=bX3 B65
     change Calls _ _ _ _ _
     have L2:=Hi (De B65.out G63.out G64.out);refine cM (rh pa _ pn pc 2 2 a' [-x,((1:Int):Rat)] 2 _ (LPz.out.can.raw ZP.out dZ) (L2.out.raw ZF.out dZ) zo dZ ZP.out ZF.out dZ) fun x66 w66 hE G66=>?_
     refine mV8 hE ?_ B65 G64 G63 HX8 HXz B8z HTz LPz;clear B65 G64 G63 HX8 HXz B8z HTz LPz;intro B65 G64 G63 HX8 HXz B8z HTz LPz;replace L2:=mV hE L2;have hs_w66:=hE.size;replace b_B8z:=bX3 B8z;replace b_B65:=bX3 B65;obtain ⟨ra,rn,rc⟩:=x66;obtain ⟨rb,k1,-,k2⟩:=LIn.one G66.out;have HRn:=Hi k2;have HRq:=Hi (HRz.out.step HTW.out);clear G66 k2;go_wp2
     go_roundg g1
     case measure=>omega
     case rel=>exact ⟨⟨ra,rn,rc⟩,_,x :: rl',rb,rfl,by go_num,zo,HX8.out,HRn.out,zo,zo,zo,HRq.out,by rw [List.length_cons];omega,fun y hy=>(List.mem_cons.1 hy).elim Or.inl (HM1.out y),fun y hy=>List.mem_cons_of_mem _ (HM2.out y hy),fun _=>List.mem_cons_self ..⟩
end Go.Proofs.YtafgmcimcbhhjaaGreat
/- What all joins of this seat share. -/
namespace Go.Proofs.YtafgmcimcbhhjaaGreat
open Go.ChangeShapes Go.WideShapes Go.ChangeAt Go.RowKit Go.Front Go.Joins
theorem own:ownKnob Tryz.prog.godebug=none:=by kernel_rfl
theorem jO:laidOutB Tryz.prog=true:=by kernel_rfl
theorem mO{n:Int}(h:(Lit.int .i64 n).wf=true):-9223372036854775808≤n∧n≤9223372036854775807:=by
 simp [Lit.wf] at h;exact ⟨h.1,h.2⟩
theorem xA{H:Type}{enc:TypeId×Value→H}{W:World}{a0:Option Addr}{len0 cap0:Nat}{d:DataW H}{p:List MemPlace}(h0:DataW.Trod enc Tryz.prog W 0 (fun _=>true) true 22 (.slice a0 len0 cap0) d p) :
  ∃ xs:List Int,eQ W a0 xs∧InR xs∧xs.length=len0∧len0≤9223372036854775807∧len0≤cap0∧cap0≤9223372036854775807:=by
 obtain ⟨fuel,hf⟩:=h0;rcases open_ints Tryz.underlying22 Tryz.underlying3 kZ hf with ⟨hcs,_⟩|⟨x,l,c,zs,hcs,_,hl,hm,hz,_,hcell,hwz⟩
 ·simp [Value.cells] at hcs;obtain ⟨rfl,rfl,rfl⟩:=hcs;exact ⟨[],Or.inl rfl,fun x hx=>by simp at hx,rfl,dZ,dZ,dZ⟩
 ·simp [Value.cells] at hcs;obtain ⟨rfl,rfl,rfl⟩:=hcs;simp only [maxLen] at hm;have hz':zs.length=cap0:=by simpa using hz
  refine ⟨zs.take len0,?_,fun x hx=>mO (hwz x (List.mem_of_mem_take hx)),by simp;omega,zo,hl,zo⟩;by_cases hp:0<zs.length
  ·obtain ⟨b,off,rfl,hc⟩:=ints_at hcell hp;refine Or.inr ⟨b,off,rfl,fun k hk=>?_⟩;simp only [nXk] at hk;rw [hc k zo];simp [show k<len0 by omega]
  ·left
   have:zs=[]:=nXj.1 zo;rw [this];simp
end Go.Proofs.YtafgmcimcbhhjaaGreat
