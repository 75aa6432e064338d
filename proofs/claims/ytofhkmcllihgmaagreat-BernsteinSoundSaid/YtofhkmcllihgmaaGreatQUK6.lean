/- Package bernstein: halves. -/
import Derived.Test.YtofhkmcllihgmaaGreatQUK5
import Derived.Deep.DeepCutAuto
import Derived.Deep.RegionWith
import Derived.Test.YtofhkmcllihgmaaGreatQUM7
import Derived.Test.YtofhkmcllihgmaaGreatQUK3
import Derived.Test.YtofhkmcllihgmaaGreatQUK4
set_option linter.unusedVariables false
set_option maxRecDepth 8000
set_option maxHeartbeats 16000000
namespace Go.Proofs.YtofhkmcllihgmaaGreat
open Go.RowKit Go.Front Go.Num Stab
attribute [local go_sem] XW.cell XW.frozen
def PaC(w:World)(L N:Nat)(d:Nat→Prop)(f:Nat→Rat):Prop:=∃ rs,RBk w L rs #[]∧rs.length=N∧∀ i,i<N→d i→aw w (rs.getD i default) (f i)
theorem PaC.ext{w w':World}{L N:Nat}{d:Nat→Prop}{f:Nat→Rat}(h:PaC w L N d f)(he:Ext w w'):PaC w' L N d f:=let ⟨rs,h1,h2,h3⟩:=h;⟨rs,h1.ext he,h2,fun i hi hd=>(h3 i hi hd).ext he⟩
instance {w w':World} {L N:Nat} {d:Nat→Prop} {f:Nat→Rat}:Go.Front.Mv w w' (PaC w L N d f) (PaC w' L N d f):=⟨fun e h=>PaC.ext h e⟩

theorem PaC.put{w1 w2:World}{L b N:Nat}{d:Nat→Prop}{f:Nat→Rat}{T:TypeId}{cs:Array Value}(h:PaC w1 L N d f)(T2:dN w1 b T cs w2)(hb:b≠L):PaC w2 L N d f:=by
 obtain ⟨rs,h1,h2,h3⟩:=h;exact ⟨rs,T2.rest L _ (Ne.symm hb) h1,h2,fun i hi hd=>(h3 i hi hd).keep T2.keep⟩
theorem PaC.lt{w:World}{L N:Nat}{d:Nat→Prop}{f:Nat→Rat}(h:PaC w L N d f):L<w.heap.size:=let ⟨_,h1,_⟩:=h;h1.lt
theorem PaC.frozen{w:World}{L N:Nat}{d:Nat→Prop}{f:Nat→Rat}(h:PaC w L N d f)(i:Nat):w.frozen? ⟨L,i,none⟩=false:=let ⟨_,h1,_⟩:=h;h1.frozen i
theorem PaC.at{w:World}{L N:Nat}{d:Nat→Prop}{f:Nat→Rat}(h:PaC w L N d f){k:Nat}(hk:k<N):∃ r,RAt w L (k*3) r:=by
 obtain ⟨rs,h1,h2,h3⟩:=h;exact ⟨_,h1.at (by rw [h2];exact hk)⟩
theorem PaC.mono{w:World}{L N:Nat}{d d':Nat→Prop}{f:Nat→Rat}(h:PaC w L N d f)(hd:∀ i,i<N→d' i→d i):PaC w L N d' f:=let ⟨rs,h1,h2,h3⟩:=h;⟨rs,h1,h2,fun i hi h4=>h3 i hi (hd i hi h4)⟩
theorem PaC.row{w:World}{L N:Nat}{d:Nat→Prop}{f:Nat→Rat}(h:PaC w L N d f)(hd:∀ i,i<N→d i):aX w L (Go.Proofs.YtofhkmcllihgmaaGreat.row N f):=by
 obtain ⟨rs,h1,h2,h3⟩:=h;refine ⟨rs,#[],h1,rfl,by rw [h2,aF],fun k hk=>?_⟩;rw [aF] at hk;rw [bM _ hk];exact h3 k hk (hd k hk)
theorem yv{w1:World}{L k N:Nat}{d:Nat→Prop}{f:Nat→Rat}{F:World→Prop}{x:RH}(h:PaC w1 L N d f)(hk:k<N)(hx:aw w1 x (f k))
 (H:∀ w2,(∃ cs,dN w1 L 30 cs w2)→PaC w2 L N (fun i=>i=k∨d i) f→F w2) :
  F (((w1.setCell ⟨L,k*3,none⟩ (.bool x.neg)).setCell ⟨L,k*3+1,none⟩ (.slice x.a x.n x.c)).setCell ⟨L,k*3+2,none⟩ (.slice x.b x.m x.d)):=by
 obtain ⟨rs,h1,h2,h3⟩:=h;refine mR h1 rfl (by rw [h2];exact hk) fun w2 T=>H w2 ⟨_,T⟩ ⟨rs.set k x,T.bx,by rw [List.length_set,h2],fun i hi hd=>?_⟩
 by_cases e:i=k
 ·subst e;rw [List.getD_eq_getElem?_getD,List.getElem?_set_self (by omega)];exact hx.keep T.keep
 ·rw [List.getD_eq_getElem?_getD,List.getElem?_set_ne (Ne.symm e),←List.getD_eq_getElem?_getD];exact (h3 i hi (hd.resolve_left e)).keep T.keep
theorem r8{o:Oper}{a:Act}{K:Act→World→Prop}{Q:Exit→Act→World→Prop}{w:World}{t:TypeId}(ht:Tryz.prog.underlying t=some (.slice 30)){x:Int}{n:Nat}(hx:x=(n:Nat))(hn:n≤1000000)
 (H:∀ w',Ext w w'→w.heap.size<w'.heap.size→(∀ f,PaC w' w.heap.size n (fun _=>False) f)→Oper.upon Tryz.prog o a K Q (.ok (.value (.slice (some ⟨w.heap.size,0,none⟩) n n)) w')) :
  Oper.upon Tryz.prog o a K Q (((Instr.makeSlice t (.int .i64 x) (.int .i64 x)).run Tryz.prog w).andThen fun a w'=>.ok (.value a) w'):=by
 subst hx;obtain ⟨i0,hi0,hz0,hz1,hz2⟩:=info_parts lW;obtain ⟨w',hrun,r1,r2⟩:=run_make_full (P:=Tryz.prog) w 0 t 30 i0 (RH.v default) 3 ht hi0 hz0 hz1 .i64 .i64 n (by rw [hz2];omega) (by simp [maxLen];omega) (Nat.zero_le _);have hE:Ext w w':=⟨r2.os,r2.tape,r2.output,r2.size,fun k hk=>r2.block k hk (by simp)⟩;have hnew:w'.heap[w.heap.size]?=some (.cells (madeCells (RH.v default).cells (n*3)) 30 (0,0)):=by
  rcases r1.2 with ⟨hv,_⟩|⟨g,cap,cur,hv,_,hgg,_,_,hcs,htake⟩
  ·cases hv
  ·obtain ⟨rfl,rfl⟩:w.heap.size=g∧n=cap:=by simpa using hv
   rw [hgg]
   congr 2
   apply Array.ext';rw [←htake,List.take_of_length_le (by rw [Array.length_toList,hcs];exact Nat.le_refl _)]
 rw [hrun];exact H w' hE (Array.getElem?_eq_some_iff.1 hnew).1 (fun f=>⟨_,RBk.make rfl hnew,by simp,fun i _ h=>h.elim⟩)
theorem CJ(w:World)(a:Option Addr)(n c:Nat):(binOp .eql 22 (.slice a n c) (.slice none 0 0)).run Tryz.prog w=.ok (.bool a.isNone) w:=by
 have h:∀ d:Nat,(Op.equalIn (d+1) 22 (.slice a n c) (.slice none 0 0)).run Tryz.prog w=.ok a.isNone w:=fun d=>by
  cases a <;> simp [Op.equalIn,run_underlying Tryz.underlying22]
 simp only [binOp];simp [Op.equal,Op.maxDepth,h]
attribute [local go_sem] CJ
theorem rB(ao:Option Addr)(n cap:Nat)(l:List Rat)(w:World)(h:ce w ⟨ao,n,cap⟩ l)(hn:n≤1000000)(h0:0<n) :
  au 264 [.slice ao n cap] w SH.v (fun x w'=>∃ L c,w.heap.size≤L∧n≤c∧c≤9223372036854775807∧x=⟨some ⟨L,0,none⟩,n,c⟩∧aX w' L l):=by
 obtain ⟨rs,h1,h2⟩:=h;have hl:rs.length=n:=h1.len;have H2:=Hi h2;obtain ⟨b,off,rfl,hc⟩:∃ b off,ao=some ⟨b,off,none⟩∧∀ k,k<n→RAt w b (off+k*3) (rs.getD k default):=by
  rcases h1.at' with h3|⟨b,off,e,hc⟩
  ·have h3:n=0:=h3;omega
  ·exact ⟨b,off,e,hc⟩
 have HC:=Hi hc;have hE:Hid (Ext w (w.alloc (.cells #[] 30))):=Hi (Ext.alloc _ _);clear h1 h2 hc;unfold au;go_enter Tryz.func264,Tryz.ntmps264
 go_wp2_with (at_builtin;refine iD rfl (.tmp 5) (.tmp 6) 22 Tryz.underlying22 rfl w.heap.size rfl b off n cap rs rfl hl h0 (by omega) (fun k hk=>(HC.out k hk).ext hE.out) ?_;intro w' c re g1 g2 g3 g4 g5)
 rw [World.size_alloc] at g4
 go_ret
 exact ⟨⟨some ⟨w.heap.size+1,0,none⟩,n,c⟩,rfl,hE.out.trans g3,_,c,Nat.le_succ _,g1,g2,rfl,rs,re,g4,g5,H2.out.can_ext (hE.out.trans g3)⟩
def p2f(k:Nat):Rat:=(2:Rat) ^ k
theorem zS(k:Nat):p2f k+p2f k=p2f (k+1):=by unfold p2f;rw [Rat.pow_succ];grind
def su1(n:Nat)(c:Nat→Rat)(j k i:Nat):Rat:=if i<k then suf n c (j+1) i else suf n c j i
theorem vI{n j k N:Nat}{c:Nat→Rat}(h:k<n-j):(row N (su1 n c j k)).set k (suf n c j k+suf n c j (k+1))=row N (su1 n c j (k+1)):=by
 rw [jL];refine aR (fun i _=>?_);unfold su1;by_cases h1:i=k
 ·rw [if_pos h1,if_pos (by omega),h1,pj h]
 ·rw [if_neg h1];by_cases h2:i<k
  ·rw [if_pos h2,if_pos (by omega)]
  ·rw [if_neg h2,if_neg (by omega)]
theorem sr(n N j:Nat)(c:Nat→Rat):row N (su1 n c j 0)=row N (suf n c j):=aR (fun i _=>by unfold su1;rw [if_neg (Nat.not_lt_zero i)])
theorem zu{n j N:Nat}(c:Nat→Rat):row N (su1 n c j (n-j))=row N (suf n c (j+1)):=aR (fun i _=>by
 unfold su1;by_cases h:i<n-j
 ·rw [if_pos h]
 ·rw [if_neg h,po (by omega)])
def lff(n:Nat)(c:Nat→Rat)(i:Nat):Rat:=(2:Rat) ^ n*lfb c i
def rtf(n:Nat)(c:Nat→Rat)(i:Nat):Rat:=(2:Rat) ^ n*rtb n c i
abbrev HT(x:SH×SH):Value:=.tuple #[x.1.v,x.2.v]
theorem oR(ao:Option Addr)(N n cap:Nat)(c:Nat→Rat)(S:Nat)(w:World)(h:ce w ⟨ao,N,cap⟩ (row N c))(hN:N=n+1)(h8:n≤8)(hz:∀ k,k≤n→Wz S (c k))(hS1:1≤S)(hS:S≤1000000) :
  au 209 [.slice ao N cap] w HT (fun x w'=>ls w.heap.size w' x.1 (row N (lff n c))∧ls w.heap.size w' x.2 (row N (rtf n c))):=by
 have HX:=Hi (Ext.refl w);have LA:=Hi h;have HZ:=Hi (yi hz);have hcl:=h.le;have hcm:=h.max;simp only at hcl hcm;clear h hz;unfold au;go_enter Tryz.func209,Tryz.ntmps209;have LA0:Hid (ce w ⟨ao,N,cap⟩ (row N c)):=LA
 go_upto_region 2 with fail
 go_wp2_with fail
 refine cM (fL 1 _ (by decide) (by decide)) fun x3 w3 hE G3=>?_
 replace HX:=hE.tr HX;have hs_w3:=hE.size;clear hE
 go_upto_region 3 with fail
 refine nmA ?_;intro w4 hE BF hz_w4 hr_w4
 revert G3 HX;refine mV2 hE ?_;intro G3 HX
 have hs_w4:=hE.size;clear hE;replace b_BF:=b3 BF;have HO:Hid (bZ w4 (fun k=>w.heap.size≤k) (.slice (some ⟨w3.heap.size,0,none⟩) 1 1) (row 1 p2f)):=Hi (sY (lJ BF.out rfl) G3.out (by show w.heap.size≤w3.heap.size;omega));obtain ⟨s4,hs4⟩:∃ s:SH,s.v=.slice (some ⟨w3.heap.size,0,none⟩) 1 1:=⟨⟨_,_,_⟩,rfl⟩;rw [←hs4] at HO ⊢;clear hs4 b_BF BF G3;go_wp2
 go_loopg [5,18] n (fun g v i wr=>∃ (j:Nat) (s:SH),v=s.v∧j+g=n∧i=.int .i64 (j:Nat)∧Ext w wr∧bZ wr (fun k=>w.heap.size≤k) s.v (row (j+1) p2f))
 case atStart=>exact ⟨0,s4,rfl,by omega,rfl,HX.out,HO.out⟩
 case round =>
  obtain ⟨j,⟨sa,sn,sc⟩,rfl,hj,rfl,g1,g4⟩:=hrel;clear HX HO;have HX:=Hi g1;have HO:=Hi g4;have LB:=Hi (LA0.out.ext g1);have hszr:=g1.size;have hsn:=bZ.len (s:=⟨sa,sn,sc⟩) g4;rw [aF] at hsn;simp only at hsn;subst hsn;clear g1 g4;simp only [SH.v];by_cases h0:gk=0
  case neg =>
   have hjn:(j:Int)<n:=by omega
   have HV:Hid ((row (j+1) p2f).getD j 0=p2f j):=Hi (bM _ (by omega));obtain ⟨b,off,r,hao,hbl,⟨hc1,hc2,hc3⟩,hP⟩:=(bZ.can (s:=⟨sa,j+1,sc⟩) HO.out).lin.celx (k:=j) (by omega);obtain ⟨rneg,ra,rn,rc,rb,rm,rd⟩:=r;simp only at hc1 hc2 hc3;subst hao;rw [HV.out] at hP;have RP:=Hi hP;clear hP;have ZP:Hid (Sz 1 (p2f j)):=Hi ((pg (by omega)).sz (by omega))
   go_upto_region 6 with fail
   refine wpG 11 (fun opIx=>match opIx with
    | 9=>.spec RH default RH.v (fun s w'=>aw w' s (p2f j+p2f j))
    | 10=>.spec (Nat×RH) ((0,default)) (fun p=>.slice (some ⟨p.1,0,none⟩) 1 1) (fun p w'=>fs w' p (p2f j+p2f j))
    | _=>.quiet) (fun|10=>[9]|_=>[]) fun w0 he0 hz0 hc0 hf0=>?_
   refine wps he0.out rfl rfl (fun w1 hW hG=>?_) fun x31=>?_
   ·exact spc [RH.v ⟨rneg,ra,rn,rc,rb,rm,rd⟩,RH.v ⟨rneg,ra,rn,rc,rb,rm,rd⟩] Tryz.func138 (fh _ _ _ _ _ ((RP.out.ext hW).raw ZP.out (by decide)) ((RP.out.ext hW).raw ZP.out (by decide)))
   refine qZ ?_;refine wps he0.out rfl rfl (fun w1 hW hG=>?_) fun x32=>?_
   ·have g31:=(hG 9 (by decide):ay _ _).get fun _ e g=>g.ext e
    exact fX x31 _ g31 rfl (by simp [execOp,go_sem])
   refine qZ ?_;refine wpF_nil ?_;intro w5 hI;have hE:=he0.out.trans hI.ext;have G31:=gT (hI.facts 9);have G32:=gT (hI.facts 10);clear hI he0 hz0 hc0 hf0;refine mV3 hE ?_ HX HO RP;clear HX HO RP;intro HX HO RP;have hs_w5:=hE.size;clear hE;simp only [pD];clear hc1 hc2 hc3
   go_upto_region 7 with (at_builtin;refine cS rfl (.tmp 21) (.tmp 31) 22 Tryz.underlying22 rfl (fun k=>w.heap.size≤k) _ _ x32.2 _ x32.1 rfl HO.out rfl G32.out.1 G32.out.2 (by rw [aF];omega) (fun k hk=>by show w.heap.size≤k;omega) ?_;intro s' y3 q1 q2 q3)
   have HX3:=Hi (Ext.mods HX.out q2 (fun k h=>h));have HO3:Hid (bZ y3 (fun k=>w.heap.size≤k) s'.v (row (j+1+1) p2f)):=Hi (by rw [pB,show p2f (j+1)=p2f j+p2f j from (zS j).symm];exact q1);clear q1 q2 q3;go_wp2
   go_roundg (gk-1)
   case measure=>omega
   case rel=>exact ⟨j+1,s',rfl,by omega,by go_num,HX3.out,HO3.out⟩
  subst h0;obtain rfl:j=n:=by omega
  have hin:¬ (j:Int)<j:=by omega
  have HF0:Hid (LIn wr ⟨sa,j+1,sc⟩ (row (j+1) p2f) w.heap.size wr.heap.size):=Hi (bZ.new (B:=w.heap.size) HO.out (fun k _ h=>h));clear HO;subst hN
  go_wp2_with fail
  refine cM (rB ao (j+1) cap _ _ LB.out (by omega) (by omega)) fun x35 w35 hE G35=>?_
  refine mV3 hE ?_ LB HX HF0;clear LB HX HF0;intro LB HX HF0;have hs_w35:=hE.size;clear hE;obtain ⟨Ls,cs',hLs,hc1,hc2,hx5,hR5⟩:=G35.out;subst hx5;have HR:=Hi hR5;have hLsr:wr.heap.size≤Ls:=hLs;have hLs5:Ls<w35.heap.size:=hR5.lt;clear hR5 G35;have HJ1:Hid ((j:Int)+1=((j+1:Nat):Int)):=Hi (by omega);have hwr:Hid (IntKind.i64.wrap ((j:Int)+1)=((j+1:Nat):Int)):=Hi (by rw [wrap_small _ (by omega) (by omega)];omega);obtain ⟨i0,hi0,hz0,hz1,hz2⟩:=info_parts lW
  go_upto_region 9 with fail
  go_cut [8,9] (fun p q wr=>∃ (Ll Lr:Nat),p=.slice (some ⟨Ll,0,none⟩) (j+1) (j+1)∧q=.slice (some ⟨Lr,0,none⟩) (j+1) (j+1)∧Ext w35 wr∧w35.heap.size≤Ll∧w35.heap.size≤Lr∧Ll≠Lr∧PaC wr Ll (j+1) (fun _=>False) (lff j c)∧PaC wr Lr (j+1) (fun _=>False) (rtf j c))
  case first =>
   go_region_with (refine r8 Tryz.underlying22 (n:=j+1) (by first|exact hwr.out|rfl) (by omega) ?_;intro wm hEm hsm hPm)
   all_goals go_wp2_with fail
   all_goals go_meet
   all_goals rename_i wm1 hE1 hs1 hP1
   all_goals have hE0:Ext w35 wm1:=(Ext.drew w35).trans hE1
   all_goals first|exact ⟨w35.heap.size,wm1.heap.size,rfl,rfl,hE0.trans hEm,Nat.le_refl _,hE0.size,Nat.ne_of_lt hs1,(hP1 _).ext hEm,hPm _⟩|exact ⟨wm1.heap.size,w35.heap.size,rfl,rfl,hE0.trans hEm,hE0.size,Nat.le_refl _,Nat.ne_of_gt hs1,hPm _,(hP1 _).ext hEm⟩
  case rest =>
   obtain ⟨Ll,Lr,rfl,rfl,g1,hl1,hl2,hlr,p1,p2⟩:=hcut;obtain ⟨H9,hH9⟩:∃ H,H=wr.heap.size:=⟨_,rfl⟩;have hH9':H9≤Ls:=by omega
   rw [←hH9] at HF0;replace HX:=Hi (HX.out.trans g1);have HF:=Hi (HF0.out.ext g1);replace HR:Hid (aX wc Ls (row (j+1) (suf j c 0))):=Hi (by
    rw [show row (j+1) (suf j c 0)=row (j+1) c from aR (fun i _=>pi _ _ _)];exact HR.out.ext g1)
   have HA:Hid (PaC wc Ll (j+1) (fun k=>k<0) (lff j c)):=Hi (p1.mono (fun i _ h=>(Nat.not_lt_zero _ h).elim));have HB:Hid (PaC wc Lr (j+1) (fun k=>j<k+0) (rtf j c)):=Hi (p2.mono (fun i hi h=>by omega));have hszc:Ls<wc.heap.size:=by have:=g1.size;omega
   have hll:Ls<Ll:=by omega
   have hlr2:Ls<Lr:=by omega
   have hwl:w.heap.size≤Ll:=by omega
   have hwr2:w.heap.size≤Lr:=by omega
   have hws:w.heap.size≤Ls:=by omega
   clear g1 p1 p2 HF0 hH9;simp only [SH.v];go_wp2
   go_loopg [44] (j+1) (fun g v wr=>∃ (i:Nat),i+g=j+1∧v=.int .i64 (i:Nat)∧Ext w wr∧LIn wr ⟨sa,j+1,sc⟩ (row (j+1) p2f) w.heap.size H9∧aX wr Ls (row (j+1) (suf j c i))∧PaC wr Ll (j+1) (fun k=>k<i) (lff j c)∧PaC wr Lr (j+1) (fun k=>j<k+i) (rtf j c)∧Ls<wr.heap.size)
   case atStart=>exact ⟨0,by omega,rfl,HX.out,HF.out,HR.out,HA.out,HB.out,hszc⟩
   case round =>
    obtain ⟨i,hi,rfl,g1,g2,g3,g4,g5,g6⟩:=hrel;clear HX HF HR HA HB;have HX:=Hi g1;have HF:=Hi g2;have HR:=Hi g3;have HA:=Hi g4;have HB:=Hi g5;have hsz9:=g6;clear g1 g2 g3 g4 g5 g6;by_cases h0:gk=0
    case pos =>
     subst h0;obtain rfl:i=j+1:=by omega
     have hin:¬ ((j+1:Nat):Int)<((j+1:Nat):Int):=by omega
     have HA1:=Hi (HA.out.row (fun i hi=>hi));have HB1:=Hi (HB.out.row (fun i hi=>by omega));go_wp2;exact bodyPost_ret (v:=HT (⟨some ⟨Ll,0,none⟩,j+1,j+1⟩,⟨some ⟨Lr,0,none⟩,j+1,j+1⟩)) (by simp [results,Tryz.results209,go_sem,HT]) rfl
      ⟨(⟨some ⟨Ll,0,none⟩,j+1,j+1⟩,⟨some ⟨Lr,0,none⟩,j+1,j+1⟩),rfl,HX.out,⟨Ll,hwl,by rw [aF],HA1.out⟩,⟨Lr,hwr2,by rw [aF],HB1.out⟩⟩
    obtain ⟨g0,rfl⟩:∃ g0,gk=g0+1:=⟨gk-1,by omega⟩;obtain ⟨k2,hk2⟩:∃ k2:Nat,k2+i=j:=⟨j-i,by omega⟩;have hsub:(j:Int)-(i:Int)=(k2:Nat):=by omega
    have hin:(i:Int)<((j+1:Nat):Int):=by omega
    have hin2:(k2:Int)<((j+1:Nat):Int):=by omega
    have hin3:(0:Int)<((j+1:Nat):Int):=by omega
    have ZP:Hid (Sz 1 (p2f k2)):=Hi ((pg (by omega)).sz (by omega));have ZA:Hid (∀ k,k≤j→Sz (S+i) (suf j c i k)):=Hi (fun k hk=>(HZ.out i k hk).sz (by omega));have HVL:Hid (suf j c i 0*p2f k2=lff j c i):=Hi (by have:=pk (n:=j) (j:=i) (c:=c) (by omega);rw [show j-i=k2 by omega] at this;exact this);have HVR:Hid (suf j c i k2*p2f k2=rtf j c k2):=Hi (by have:=mA (n:=j) (j:=i) (c:=c) (by omega);rw [show j-i=k2 by omega] at this;exact this);obtain ⟨r,⟨f1,f2,f3⟩,hrc⟩:=aX.cells HR.out (k:=0) (by rw [aF];omega);rw [bM _ (by omega)] at hrc;have HP:=Hi hrc;clear hrc;obtain ⟨b,off,r',hao,hbl,⟨d1,d2,d3⟩,hP'⟩:=HF.out.celx (k:=k2) (by omega);subst hao;rw [bM _ (by omega)] at hP';have HP':=Hi hP';clear hP';obtain ⟨rn,ra,rl,rc,rb,rm,rd⟩:=r;obtain ⟨r2n,r2a,r2l,r2c,r2b,r2m,r2d⟩:=r';simp only [Nat.zero_mul] at f1 f2 f3 d1 d2 d3;have hfz:=aX.frozen HR.out;have hLl:=aX.lt HR.out
    go_upto_region 13 with fail
    refine wpG 12 (fun opIx=>match opIx with
     | 11=>.spec RH default RH.v (fun s w'=>aw w' s (suf j c i 0*p2f k2))
     | _=>.quiet) (fun _=>[]) fun w0 he0 hz0 hc0 hf0=>?_
    refine wps he0.out rfl rfl (fun w1 hW hG=>?_) fun x60=>?_
    ·exact spc [RH.v ⟨rn,ra,rl,rc,rb,rm,rd⟩,RH.v ⟨r2n,r2a,r2l,r2c,r2b,r2m,r2d⟩] Tryz.func139 (bj _ _ _ _ _ ((HP.out.ext hW).raw (ZA.out 0 (by omega)) (by omega)) ((HP'.out.ext hW).raw ZP.out (by decide)))
    refine qZ ?_;refine wpF_nil ?_;intro y1 hI;have hE:=he0.out.trans hI.ext;have G60:=gT (hI.facts 11);clear hI he0 hz0 hc0 hf0;refine mV5 hE ?_ HX HF HR HA HB;clear HX HF HR HA HB;intro HX HF HR HA HB;have hs_y1:=hE.size;clear hE;simp only [pD];clear f1 f2 f3 d1 d2 d3 hfz hLl;rw [HVL.out] at G60;obtain ⟨r4,f1,f2,f3⟩:=HA.out.at (k:=i) (by omega);have hfz:=HA.out.frozen;have hLl:=HA.out.lt
    go_upto_region 14 with fail
    refine yv (k:=i) HA.out (by omega) G60.out ?_;rintro y2 ⟨cs2,T⟩ TN;clear f1 f2 f3 hfz hLl;clear HA;replace HX:=Hi (T.ext HX.out (by omega));replace HF:=Hi (HF.out.put T (by omega));replace HR:=Hi (HR.out.put T (by omega));replace HB:=Hi (HB.out.put T (by omega));replace G60:=Hi (G60.out.keep T.keep);have hs_y2:=nle T.size;have hr_y2:=nle T.size.symm;clear T;have HA:=Hi TN;clear TN;have HAi:Hid (PaC y2 Ll (j+1) (fun k=>k<i+1) (lff j c)):=Hi (HA.out.mono (fun k _ h=>by omega));clear HA;obtain ⟨r5,⟨f1,f2,f3⟩,hrc⟩:=aX.cells HR.out (k:=k2) (by rw [aF];omega);rw [bM _ (by omega)] at hrc;have HQ:=Hi hrc;clear hrc;obtain ⟨b',off',r',hao',hbl',⟨d1,d2,d3⟩,hP''⟩:=HF.out.celx (k:=k2) (by omega);obtain ⟨rfl,rfl⟩:b=b'∧off=off':=by simpa using hao'
    clear hao';rw [bM _ (by omega)] at hP'';have HQ':=Hi hP'';clear hP'';obtain ⟨r5n,r5a,r5l,r5c,r5b,r5m,r5d⟩:=r5;obtain ⟨r6n,r6a,r6l,r6c,r6b,r6m,r6d⟩:=r';simp only at f1 f2 f3 d1 d2 d3;have hfz:=aX.frozen HR.out;have hLl:=aX.lt HR.out;refine wpG 17 (fun opIx=>match opIx with
     | 16=>.spec RH default RH.v (fun s w'=>aw w' s (suf j c i k2*p2f k2))
     | _=>.quiet) (fun _=>[]) fun w0 he0 hz0 hc0 hf0=>?_
    refine wps he0.out rfl rfl (fun w1 hW hG=>?_) fun x61=>?_
    ·exact spc [RH.v ⟨r5n,r5a,r5l,r5c,r5b,r5m,r5d⟩,RH.v ⟨r6n,r6a,r6l,r6c,r6b,r6m,r6d⟩] Tryz.func139 (bj _ _ _ _ _ ((HQ.out.ext hW).raw (ZA.out k2 (by omega)) (by omega)) ((HQ'.out.ext hW).raw ZP.out (by decide)))
    refine qZ ?_;refine wpF_nil ?_;intro y3 hI;have hE:=he0.out.trans hI.ext;have G61:=gT (hI.facts 16);clear hI he0 hz0 hc0 hf0;refine mV6 hE ?_ HX HF HR HB G60 HAi;clear HX HF HR HB G60 HAi;intro HX HF HR HB G60 HAi;have hs_y3:=hE.size;clear hE;simp only [pD];clear f1 f2 f3 d1 d2 d3 hfz hLl;rw [HVR.out] at G61;obtain ⟨r4,f1,f2,f3⟩:=HB.out.at (k:=k2) (by omega);have hfz:=HB.out.frozen;have hLl:=HB.out.lt
    go_upto_region 15 with fail
    refine yv (k:=k2) HB.out (by omega) G61.out ?_;rintro y4 ⟨cs2,T⟩ TN;clear f1 f2 f3 hfz hLl;clear HB;replace HX:=Hi (T.ext HX.out (by omega));replace HF:=Hi (HF.out.put T (by omega));replace HR:=Hi (HR.out.put T (by omega));replace G60:=Hi (G60.out.keep T.keep);replace HAi:=Hi (HAi.out.put T (by omega));replace G61:=Hi (G61.out.keep T.keep);have hs_y4:=nle T.size;have hr_y4:=nle T.size.symm;clear T;have HB:=Hi TN;clear TN;have HBi:Hid (PaC y4 Lr (j+1) (fun k=>j<k+(i+1)) (rtf j c)):=Hi (HB.out.mono (fun k hk h=>by omega));have HRi:Hid (aX y4 Ls (row (j+1) (su1 j c i 0))):=Hi (by rw [sr];exact HR.out);have hsz4:Ls<y4.heap.size:=aX.lt HR.out;clear HB HR;go_wp2
    go_loopg [81] k2 (fun g v wr=>∃ (k:Nat),k+g=k2∧v=.int .i64 (k:Nat)∧Ext w wr∧LIn wr ⟨some ⟨b,off,none⟩,j+1,sc⟩ (row (j+1) p2f) w.heap.size H9∧aX wr Ls (row (j+1) (su1 j c i k))∧PaC wr Ll (j+1) (fun k=>k<i+1) (lff j c)∧PaC wr Lr (j+1) (fun k=>j<k+(i+1)) (rtf j c)∧Ls<wr.heap.size)
    case atStart=>exact ⟨0,by omega,rfl,HX.out,HF.out,HRi.out,HAi.out,HBi.out,hsz4⟩
    case round =>
     obtain ⟨k,hk,rfl,g1,g2,g3,g4,g5,g6⟩:=hrel;clear HX HF HRi HAi HBi hsz4;have HX:=Hi g1;have HF:=Hi g2;have HR:=Hi g3;have HA:=Hi g4;have HB:=Hi g5;have hsz4:=g6;clear g1 g2 g3 g4 g5 g6;by_cases h0:gk=0
     case pos =>
      subst h0;obtain rfl:k=k2:=by omega
      have hin:¬ (k:Int)<(k:Int):=by omega
      have HRn:Hid (aX wr Ls (row (j+1) (suf j c (i+1)))):=Hi (by rw [←zu,show j-i=k by omega];exact HR.out);go_wp2
      go_roundg g0
      case measure=>omega
      case rel=>exact ⟨i+1,by omega,by go_num,HX.out,HF.out,HRn.out,HA.out,HB.out,hsz4⟩
     obtain ⟨k1,hk1⟩:∃ k1,k1=k+1:=⟨_,rfl⟩;have hadd:(k:Int)+1=(k1:Nat):=by omega
     have hin:(k:Int)<(k2:Nat):=by omega
     have hin2:(k1:Int)<((j+1:Nat):Int):=by omega
     have hin3:(k:Int)<((j+1:Nat):Int):=by omega
     obtain ⟨r,⟨f1,f2,f3⟩,hrc⟩:=aX.cells HR.out (k:=k) (by rw [aF];omega);obtain ⟨r',⟨d1,d2,d3⟩,hrc'⟩:=aX.cells HR.out (k:=k1) (by rw [aF];omega);rw [bM _ (by omega),show su1 j c i k k=suf j c i k from if_neg (Nat.lt_irrefl _)] at hrc;rw [bM _ (by omega),show su1 j c i k k1=suf j c i k1 from if_neg (by omega)] at hrc';have HP:=Hi hrc;have HP':=Hi hrc';have HK1:=Hi hk1;have hk1j:k1≤j:=by omega
     clear hrc hrc' hk1;obtain ⟨rn,ra,rl,rc,rb,rm,rd⟩:=r;obtain ⟨r2n,r2a,r2l,r2c,r2b,r2m,r2d⟩:=r';simp only at f1 f2 f3 d1 d2 d3;have hfz:=aX.frozen HR.out;have hLl:=aX.lt HR.out
     go_upto_region 18 with fail
     refine wpG 12 (fun opIx=>match opIx with
      | 11=>.spec RH default RH.v (fun s w'=>aw w' s (suf j c i k+suf j c i k1))
      | _=>.quiet) (fun _=>[]) fun w0 he0 hz0 hc0 hf0=>?_
     refine wps he0.out rfl rfl (fun w1 hW hG=>?_) fun x70=>?_
     ·exact spc [RH.v ⟨rn,ra,rl,rc,rb,rm,rd⟩,RH.v ⟨r2n,r2a,r2l,r2c,r2b,r2m,r2d⟩] Tryz.func138 (fh _ _ _ _ _ ((HP.out.ext hW).raw (ZA.out k (by omega)) (by omega)) ((HP'.out.ext hW).raw (ZA.out k1 (by omega)) (by omega)))
     refine qZ ?_;refine wpF_nil ?_;intro y5 hI;have hE:=he0.out.trans hI.ext;have G70:=gT (hI.facts 11);clear hI he0 hz0 hc0 hf0;refine mV5 hE ?_ HX HF HR HA HB;clear HX HF HR HA HB;intro HX HF HR HA HB;have hs_y5:=hE.size;clear hE;simp only [pD];clear f1 f2 f3 d1 d2 d3 hfz hLl;obtain ⟨r4,⟨f1,f2,f3⟩,-⟩:=aX.cells HR.out (k:=k) (by rw [aF];omega);have hfz:=aX.frozen HR.out;have hLl:=aX.lt HR.out
     go_upto_region 19 with fail
     refine j1 (k:=k) HR.out (by rw [aF];omega) G70.out ?_;rintro y6 ⟨cs2,T⟩ TN;rw [HK1.out,vI (by omega)] at TN;clear f1 f2 f3 hfz hLl;clear HR;replace HX:=Hi (T.ext HX.out (by omega));replace HF:=Hi (HF.out.put T (by omega));replace HA:=Hi (HA.out.put T (by omega));replace HB:=Hi (HB.out.put T (by omega));replace G70:=Hi (G70.out.keep T.keep);have hs_y6:=nle T.size;have hr_y6:=nle T.size.symm;clear T;have HR:=Hi TN;clear TN;have hsz6:Ls<y6.heap.size:=aX.lt HR.out;go_wp2
     go_roundg (gk-1)
     case measure=>omega
     case rel=>exact ⟨k+1,by omega,congrArg _ (by have:=HK1.out;omega),HX.out,HF.out,HR.out,HA.out,HB.out,hsz6⟩
end Go.Proofs.YtofhkmcllihgmaaGreat
/- A list of intervals of one's own that grows: an interval is two numbers of three cells. -/
set_option linter.unusedVariables false
namespace Go.Proofs.YtofhkmcllihgmaaGreat
open Go.RowKit Go.Front Go.Num
theorem Dc:(Tryz.prog.info? 49).map (fun i=>(i.zero,i.size,i.bytes))=some (some (IvV (default,default)),6,112):=by kernel_rfl
def IBk(w:World)(L:Nat)(rs:List RH)(re:Array Value):Prop:=w.heap[L]?=some (.cells ((ax rs).toArray++re) 49 (0,0))
theorem IBk.ext{w w':World}{L:Nat}{rs:List RH}{re:Array Value}(h:IBk w L rs re)(he:Ext w w'):IBk w' L rs re:=he.block h
instance {w w':World} {L:Nat} {rs:List RH} {re:Array Value}:Go.Front.Mv w w' (IBk w L rs re) (IBk w' L rs re):=⟨fun e h=>IBk.ext h e⟩

theorem IBk.lt{w:World}{L:Nat}{rs:List RH}{re:Array Value}(h:IBk w L rs re):L<w.heap.size:=(Array.getElem?_eq_some_iff.1 h).1
theorem IBk.noU{w:World}{L:Nat}{rs:List RH}{re:Array Value}(h:IBk w L rs re)(hre:re.toList.all eX=true):NoU w L :=
 ai h (by rw [Array.toList_append,List.all_append,hre,jQ];rfl)
theorem IBk.cell{w:World}{L:Nat}{rs:List RH}{re:Array Value}(h:IBk w L rs re){k j:Nat}(hk:k<rs.length)(hj:j<3):w.cell? ⟨L,k*3+j,none⟩=(jf (rs.getD k default))[j]?:=by
 rw [ae h,←f8 rs hk hj,Array.getElem?_append_left (by rw [List.size_toArray,aH];omega),List.getElem?_toArray]
theorem IBk.at{w:World}{L:Nat}{rs:List RH}{re:Array Value}(h:IBk w L rs re){k:Nat}(hk:k<rs.length):RAt w L (k*3) (rs.getD k default) :=
 ⟨h.cell (j:=0) hk (by decide),h.cell (j:=1) hk (by decide),h.cell (j:=2) hk (by decide)⟩
theorem kJ(n:Nat):(Builtin.zeroCells (IvV (default,default)).cells n).toList.all eX=true:=by
 rw [List.all_eq_true];intro x hx;have h0:(IvV (default,default)).cells=#[.bool false,.slice none 0 0,.slice none 0 0,.bool false,.slice none 0 0,.slice none 0 0]:=by rfl
 rw [h0] at hx;simp [Builtin.zeroCells] at hx;obtain ⟨a,-,rfl⟩:=hx;have h7:a % 6=0∨a % 6=1∨a % 6=2∨a % 6=3∨a % 6=4∨a % 6=5:=by omega
 rcases h7 with h7|h7|h7|h7|h7|h7 <;> rw [h7] <;> rfl
def fv(w:World)(D:Nat→Prop)(v:Value)(n:Nat)(rs:List RH):Prop:=(v=.slice none 0 0∧rs=[]∧n=0)∨∃ L cap re,v=.slice (some ⟨L,0,none⟩) n cap∧D L∧IBk w L rs re∧rs.length=n*2∧n≤cap∧cap≤9223372036854775807∧rs.length*3+re.size=cap*6∧re.toList.all eX=true
theorem fv.nil(w:World)(D:Nat→Prop):fv w D (.slice none 0 0) 0 []:=Or.inl ⟨rfl,rfl,rfl⟩
theorem fv.ext{w w':World}{D:Nat→Prop}{v:Value}{n:Nat}{rs:List RH}(h:fv w D v n rs)(he:Ext w w'):fv w' D v n rs :=
 h.imp id fun ⟨L,cap,re,h1,h2,h3,h4⟩=>⟨L,cap,re,h1,h2,h3.ext he,h4⟩
instance {w w':World} {D:Nat→Prop} {v:Value} {n:Nat} {rs:List RH}:Go.Front.Mv w w' (fv w D v n rs) (fv w' D v n rs):=⟨fun e h=>fv.ext h e⟩

theorem fv.mono{w:World}{D D':Nat→Prop}{v:Value}{n:Nat}{rs:List RH}(h:fv w D v n rs)(hD:∀ k,k<w.heap.size→D k→D' k):fv w D' v n rs :=
 h.imp id fun ⟨L,cap,re,h1,h2,h3,h4⟩=>⟨L,cap,re,h1,hD _ h3.lt h2,h3,h4⟩
theorem fv.len{w:World}{D:Nat→Prop}{v:Value}{n:Nat}{rs:List RH}(h:fv w D v n rs):rs.length=n*2:=by
 rcases h with ⟨-,rfl,rfl⟩|⟨L,cap,re,-,-,-,h,-⟩
 ·rfl
 ·exact h
theorem ij(T ty:TypeId)(hT:Tryz.prog.underlying T=some (.slice 49))(w:World)(D:Nat→Prop)(v:Value)(n:Nat)(rs:List RH)(b off m c:Nat)(ns:List RH)(hown:fv w D v n rs)
   (hm:ns.length=m*2)(h0:0<m)(hN:∀ k,k<m*2→RAt w b (off+k*3) (ns.getD k default))(hl:n≤536870912)(hlm:m≤536870912)(hD:∀ k,w.heap.size≤k→D k) :
    ∃ L cap w',(Builtin.append_ #[T,T] ty #[v,.slice (some ⟨b,off,none⟩) m c]).run Tryz.prog w=.ok (.slice (some ⟨L,0,none⟩) (n+m) cap) w'∧fv w' D (.slice (some ⟨L,0,none⟩) (n+m) cap) (n+m) (rs++ns)∧aJ D w w'∧dB w w':=by
  obtain ⟨i0,hi0,hz0,hz1,hz2⟩:=info_parts Dc;have hnl:(ax ns).length=m*i0.size:=by rw [aH,hz1,hm];omega
  have hcs:=jM (w:=w) (b:=b) (off:=off) hm hN;have hgc:∀ need old,need≤9223372036854775807→need≤grownCap w need old 49∧grownCap w need old 49≤9223372036854775807:=fun need old h=>⟨grownCap_ge _ _ _ _,by have:=grownCap_le_maxLen w need old 49 (by simpa [maxLen] using h);simpa [maxLen] using this⟩
  have hzs:(IvV (default,default)).cells.size=6:=by rfl
  rcases hown with ⟨rfl,rfl,rfl⟩|⟨L,cap,re,rfl,h1,h2,hlen,h3,h4,h5,h6⟩
  · have hr:=run_append_nil (P:=Tryz.prog) w T ty _ i0 _ hT hi0 hz0 ⟨b,off,none⟩ m c (ax ns) hnl hcs h0 (by omega) (by rw [hz2];omega)
    obtain ⟨g1,g2⟩:=hgc m 0 (by omega);have he:Ext w (w.drew.alloc (.cells ((ax ns).toArray++Builtin.zeroCells (IvV (default,default)).cells (grownCap w m 0 49-m)) 49)):=(Ext.drew w).trans (Ext.alloc _ _);rw [Nat.zero_add,List.nil_append];refine ⟨_,_,_,hr,Or.inr ⟨_,_,_,rfl,hD _ (Nat.le_refl _),heap_alloc_new w.drew _,hm,g1,g2,?_,kJ _⟩,aJ.of_ext he,bD he⟩;rw [size_zeroCells,hzs,hm];omega
  · by_cases hroom:n+m≤cap
    · have hcz:((ax rs).toArray++re).size=cap*6:=by rw [Array.size_append,List.size_toArray,aH,h5]
      have hr:=run_append_room (P:=Tryz.prog) w T ty _ i0 hT hi0 L n cap _ h2 ⟨b,off,none⟩ m c (ax ns) hnl hcs (kO _) hroom (by rw [hcz,hz1,hnl,hz1];omega);have hnr:n*i0.size=(ax rs).length:=by rw [aH,hz1,hlen];omega
      have e:(((ax rs).toArray++re).toList.take (n*i0.size)++ax ns++((ax rs).toArray++re).toList.drop (n*i0.size+(ax ns).length)).toArray=(ax (rs++ns)).toArray++(re.toList.drop (ax ns).length).toArray:=by
        rw [hnr,Array.toList_append,dQ,List.take_left,←List.drop_drop,List.drop_left];apply Array.ext';simp
      rw [e] at hr;refine ⟨_,_,_,hr,Or.inr ⟨L,cap,_,rfl,h1,setRow_heap w L _ _ _ _ h2,by rw [List.length_append,hlen,hm];omega,hroom,h4,?_,?_⟩,⟨rfl,rfl,rfl,by simp,fun k hk hnd=>setRow_other w L k _ (fun e=>hnd (e ▸ h1))⟩,jn (h2.noU h6) fun k _ hk=>setRow_other w L k _ hk⟩
      · simp only [List.length_append,List.size_toArray,List.length_drop,Array.length_toList]
        rw [hnl,hz1,hlen,hm];rw [hlen] at h5;omega
      · rw [List.all_eq_true] at h6 ⊢
        intro x hx;exact h6 x (List.mem_of_mem_drop (by simpa using hx))
    · have hr := run_append_grow (P := Tryz.prog) w T ty _ i0 _ hT hi0 hz0 ⟨L, 0, none⟩ n cap (ax rs) (by rw [aH, hz1, hlen]; omega) (fun j u hj => by
          have hlt:j<(ax rs).length:=(List.getElem?_eq_some_iff.1 hj).1;rw [eW,ae h2,Array.getElem?_append_left (by rw [List.size_toArray];exact hlt),List.getElem?_toArray];exact hj) ⟨b,off,none⟩ m c (ax ns) hnl hcs (by omega) (by omega) (growslice_fits (by omega) (by rw [hz2];omega))
      obtain ⟨g1,g2⟩:=hgc (n+m) cap (by omega);have he:Ext w (w.drew.alloc (.cells ((ax rs).toArray++(ax ns).toArray++Builtin.zeroCells (IvV (default,default)).cells (grownCap w (n+m) cap 49-(n+m))) 49)):=(Ext.drew w).trans (Ext.alloc _ _);refine ⟨_,_,_,hr,Or.inr ⟨w.heap.size,_,Builtin.zeroCells (IvV (default,default)).cells (grownCap w (n+m) cap 49-(n+m)),rfl,hD _ (Nat.le_refl _),?_,by rw [List.length_append,hlen,hm];omega,g1,g2,?_,kJ _⟩,aJ.of_ext he,bD he⟩
      · unfold IBk
        rw [dQ];have e2:(ax rs++ax ns).toArray=(ax rs).toArray++(ax ns).toArray:=by simp
        rw [e2];exact heap_alloc_new w.drew _
      · rw [size_zeroCells,hzs,List.length_append,hlen,hm]
        omega
def eL(w:World)(D:Nat→Prop)(v:Value)(n:Nat)(qs:List Rat):Prop:=∃ rs,fv w D v n rs∧dT aw w rs qs
theorem eL.nil(w:World)(D:Nat→Prop):eL w D (.slice none 0 0) 0 []:=⟨[],fv.nil _ _,dT.nil _ _⟩
theorem eL.ext{w w':World}{D:Nat→Prop}{v:Value}{n:Nat}{qs:List Rat}(h:eL w D v n qs)(he:Ext w w'):eL w' D v n qs:=let ⟨rs,h1,h2⟩:=h;⟨rs,h1.ext he,h2.can_ext he⟩
instance {w w':World} {D:Nat→Prop} {v:Value} {n:Nat} {qs:List Rat}:Go.Front.Mv w w' (eL w D v n qs) (eL w' D v n qs):=⟨fun e h=>eL.ext h e⟩

theorem eL.mono{w:World}{D D':Nat→Prop}{v:Value}{n:Nat}{qs:List Rat}(h:eL w D v n qs)(hD:∀ k,k<w.heap.size→D k→D' k):eL w D' v n qs:=let ⟨rs,h1,h2⟩:=h;⟨rs,h1.mono hD,h2⟩
theorem eL.mods{w1 w2:World}{D E:Nat→Prop}{v:Value}{n:Nat}{qs:List Rat}(h:eL w1 D v n qs)(m:aJ E w1 w2)(k:dB w1 w2)(hb:∀ i,D i→¬ E i):eL w2 D v n qs:=by
 obtain ⟨rs,h1,h2⟩:=h;exact ⟨rs,h1.imp id fun ⟨L,cap,re,g1,g2,g3,g4⟩=>⟨L,cap,re,g1,g2,m.blk (hb L g2) g3,g4⟩,h2.keep k⟩
theorem eL.put{w1 w2:World}{D:Nat→Prop}{v:Value}{n:Nat}{qs:List Rat}{b:Nat}{T:TypeId}{cs:Array Value}(h:eL w1 D v n qs)(T2:dN w1 b T cs w2)(hb:¬ D b):eL w2 D v n qs:=by
 obtain ⟨rs,h1,h2⟩:=h;exact ⟨rs,h1.imp id fun ⟨L,cap,re,g1,g2,g3,g4⟩=>⟨L,cap,re,g1,g2,T2.rest L _ (fun e=>hb (e ▸ g2)) g3,g4⟩,h2.keep T2.keep⟩
theorem eL.len{w:World}{D:Nat→Prop}{v:Value}{n:Nat}{qs:List Rat}(h:eL w D v n qs):qs.length=n*2:=by
 obtain ⟨rs,h1,h2⟩:=h;rw [←h2.1,h1.len]
theorem eL.sh{w:World}{D:Nat→Prop}{v:Value}{n:Nat}{qs:List Rat}(h:eL w D v n qs):∃ a c,v=.slice a n c:=by
 obtain ⟨rs,⟨rfl,rfl,rfl⟩|⟨L,cap,re,rfl,_⟩,h2⟩:=h
 ·exact ⟨none,0,rfl⟩
 ·exact ⟨_,_,rfl⟩
theorem dT.app{P:World→RH→Rat→Prop}{w:World}{rs ns:List RH}{qs ps:List Rat}(h:dT P w rs qs)(k:dT P w ns ps):dT P w (rs++ns) (qs++ps):=by
 refine ⟨by simp [h.1,k.1],fun i hi=>?_⟩;have h1:=h.1;by_cases hlt:i<qs.length
 ·rw [show (rs++ns).getD i default=rs.getD i default by rw [List.getD_eq_getElem?_getD,List.getElem?_append_left (by omega),←List.getD_eq_getElem?_getD],show (qs++ps).getD i 0=qs.getD i 0 by rw [List.getD_eq_getElem?_getD,List.getElem?_append_left hlt,←List.getD_eq_getElem?_getD]];exact h.2 i hlt
 ·rw [show (rs++ns).getD i default=ns.getD (i-qs.length) default by rw [List.getD_eq_getElem?_getD,List.getElem?_append_right (by omega),←List.getD_eq_getElem?_getD,h1],show (qs++ps).getD i 0=ps.getD (i-qs.length) 0 by rw [List.getD_eq_getElem?_getD,List.getElem?_append_right (by omega),←List.getD_eq_getElem?_getD]];exact k.2 _ (by rw [List.length_append] at hi;omega)
theorem ju{w:World}{ops:Array Oper}{rest:List Oper}{o:Oper}{a:Act}{Q:Exit→Act→World→Prop}(hgd:o.guard=none)(s x:Operand)(T:TypeId)(hT:Tryz.prog.underlying T=some (.slice 49))
 (ho:o.op=.call { callee:=.builtin .append,args:=#[s,x],argTypes:=#[T,T] })(D:Nat→Prop)(v:Value)(n:Nat)(qs:List Rat)(b off m c:Nat)(ns:List RH)(ps:List Rat)(hs:a.eval s=v)(hown:eL w D v n qs)
 (hx:a.eval x=.slice (some ⟨b,off,none⟩) m c)(hm:ns.length=m*2)(h0:0<m)(hN:∀ k,k<m*2→RAt w b (off+k*3) (ns.getD k default))(hr:dT aw w ns ps)(hl:n≤536870912)(hlm:m≤536870912)(hD:∀ k,w.heap.size≤k→D k)
 (h:∀ (s':SH) w',eL w' D s'.v (n+m) (qs++ps)→aJ D w w'→dB w w'→wpList Tryz.prog ops Q rest (a.put o.dst s'.v) w'):wpList Tryz.prog ops Q (o :: rest) a w:=by
 obtain ⟨rs,h1,h2⟩:=hown;refine wpList_plain hgd fun K hK=>?_
 obtain ⟨L,cap,w',hrun,g1,g2,g3⟩:=ij T o.type hT w D v n rs b off m c ns h1 hm h0 hN hl hlm hD;unfold Oper.wp;simp [execOp,ho,resolve,invoke,builtin,hs,hx,hrun,Result.andThen];exact hK _ _ (h ⟨some ⟨L,0,none⟩,n+m,cap⟩ w' ⟨_,g1,(h2.app hr).keep g3⟩ g2 g3)
end Go.Proofs.YtofhkmcllihgmaaGreat
