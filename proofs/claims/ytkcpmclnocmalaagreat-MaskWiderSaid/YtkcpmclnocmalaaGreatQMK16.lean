import Derived.Test.YtkcpmclnocmalaaGreatQMBn4
import Derived.Deep.DeepCutAuto
import Derived.Deep.RegionWith
set_option linter.unusedVariables false
set_option maxHeartbeats 16000000
set_option maxRecDepth 8000
namespace Go.Proofs.YtkcpmclnocmalaaGreat
open Go.RowKit Go.Front Go.Num Stab
attribute [local go_sem] XW.cell XW.frozen
def PaC(w:World)(L N:Nat)(d:Nat→Prop)(f:Nat→Rat):Prop:=∃ rs,RBk w L rs #[]∧rs.length=N∧∀ i,i<N→d i→aA w (rs.getD i default) (f i)
theorem PaC.ext{w w':World}{L N:Nat}{d:Nat→Prop}{f:Nat→Rat}(h:PaC w L N d f)(he:Ext w w'):PaC w' L N d f:=let ⟨rs,h1,h2,h3⟩:=h;⟨rs,h1.ext he,h2,fun i hi hd=>(h3 i hi hd).ext he⟩
instance {w w':World} {L N:Nat} {d:Nat→Prop} {f:Nat→Rat}:Go.Front.Mv w w' (PaC w L N d f) (PaC w' L N d f):=⟨fun e h=>PaC.ext h e⟩

theorem PaC.put{w1 w2:World}{L b N:Nat}{d:Nat→Prop}{f:Nat→Rat}{T:TypeId}{cs:Array Value}(h:PaC w1 L N d f)(T2:cT w1 b T cs w2)(hb:b≠L):PaC w2 L N d f:=by
 obtain ⟨rs,h1,h2,h3⟩:=h;exact ⟨rs,T2.rest L _ (Ne.symm hb) h1,h2,fun i hi hd=>(h3 i hi hd).keep T2.keep⟩
theorem PaC.lt{w:World}{L N:Nat}{d:Nat→Prop}{f:Nat→Rat}(h:PaC w L N d f):L<w.heap.size:=let ⟨_,h1,_⟩:=h;h1.lt
theorem PaC.frozen{w:World}{L N:Nat}{d:Nat→Prop}{f:Nat→Rat}(h:PaC w L N d f)(i:Nat):w.frozen? ⟨L,i,none⟩=false:=let ⟨_,h1,_⟩:=h;h1.frozen i
theorem PaC.at{w:World}{L N:Nat}{d:Nat→Prop}{f:Nat→Rat}(h:PaC w L N d f){k:Nat}(hk:k<N):∃ r,RAt w L (k*3) r:=by
 obtain ⟨rs,h1,h2,h3⟩:=h;exact ⟨_,h1.at (by rw [h2];exact hk)⟩
theorem PaC.mono{w:World}{L N:Nat}{d d':Nat→Prop}{f:Nat→Rat}(h:PaC w L N d f)(hd:∀ i,i<N→d' i→d i):PaC w L N d' f:=let ⟨rs,h1,h2,h3⟩:=h;⟨rs,h1,h2,fun i hi h4=>h3 i hi (hd i hi h4)⟩
theorem PaC.row{w:World}{L N:Nat}{d:Nat→Prop}{f:Nat→Rat}(h:PaC w L N d f)(hd:∀ i,i<N→d i):aH w L (Go.Proofs.YtkcpmclnocmalaaGreat.row N f):=by
 obtain ⟨rs,h1,h2,h3⟩:=h;refine ⟨rs,#[],h1,rfl,by rw [h2,aM],fun k hk=>?_⟩;rw [aM] at hk;rw [bZ _ hk];exact h3 k hk (hd k hk)
theorem At{w1:World}{L k N:Nat}{d:Nat→Prop}{f:Nat→Rat}{F:World→Prop}{x:RH}(h:PaC w1 L N d f)(hk:k<N)(hx:aA w1 x (f k))
 (H:∀ w2,(∃ cs,cT w1 L 37 cs w2)→PaC w2 L N (fun i=>i=k∨d i) f→F w2) :
  F (((w1.setCell ⟨L,k*3,none⟩ (.bool x.neg)).setCell ⟨L,k*3+1,none⟩ (.slice x.a x.n x.c)).setCell ⟨L,k*3+2,none⟩ (.slice x.b x.m x.d)):=by
 obtain ⟨rs,h1,h2,h3⟩:=h;refine eK h1 rfl (by rw [h2];exact hk) fun w2 T=>H w2 ⟨_,T⟩ ⟨rs.set k x,T.bx,by rw [nXo,h2],fun i hi hd=>?_⟩
 by_cases e:i=k
 ·subst e;rw [nXd,List.getElem?_set_self zo];exact hx.keep T.keep
 ·rw [nXd,List.getElem?_set_ne (Ne.symm e),←nXd];exact (h3 i hi (hd.resolve_left e)).keep T.keep
theorem tG{o:Oper}{a:Act}{K:Act→World→Prop}{Q:Exit→Act→World→Prop}{w:World}{t:TypeId}(ht:Tryz.prog.underlying t=some (.slice 37)){x:Int}{n:Nat}(hx:x=(n:Nat))(hn:n≤1000000)
 (H:∀ w',Ext w w'→w.heap.size<w'.heap.size→(∀ f,PaC w' w.heap.size n (fun _=>False) f)→Oper.upon Tryz.prog o a K Q (.ok (.value (.slice (some ⟨w.heap.size,0,none⟩) n n)) w')) :
  Oper.upon Tryz.prog o a K Q (((Instr.makeSlice t (.int .i64 x) (.int .i64 x)).run Tryz.prog w).andThen fun a w'=>.ok (.value a) w'):=by
 subst hx;obtain ⟨i0,hi0,hz0,hz1,hz2⟩:=info_parts ii;obtain ⟨w',hrun,r1,r2⟩:=run_make_full (P:=Tryz.prog) w 0 t 37 i0 (RH.v default) 3 ht hi0 hz0 hz1 .i64 .i64 n (by rw [hz2];omega) (by simp [maxLen];omega) (Nat.zero_le _);have hE:Ext w w':=⟨r2.os,r2.tape,r2.output,r2.size,fun k hk=>r2.block k hk (by simp)⟩;have hnew:w'.heap[w.heap.size]?=some (.cells (madeCells (RH.v default).cells (n*3)) 37 (0,0)):=by
  rcases r1.2 with ⟨hv,_⟩|⟨g,cap,cur,hv,_,hgg,_,_,hcs,htake⟩
  ·cases hv
  ·obtain ⟨rfl,rfl⟩:w.heap.size=g∧n=cap:=by simpa using hv
   rw [hgg]
   congr 2
   apply Array.ext';rw [←htake,nXm (by rw [Array.length_toList,hcs];exact nXe _)]
 rw [hrun];exact H w' hE (nXb.1 hnew).1 (fun f=>⟨_,RBk.make rfl hnew,by simp,fun i _ h=>h.elim⟩)
theorem EH(w:World)(a:Option Addr)(n c:Nat):(binOp .eql 23 (.slice a n c) (.slice none 0 0)).run Tryz.prog w=.ok (.bool a.isNone) w:=by
 have h:∀ d:Nat,(Op.equalIn (d+1) 23 (.slice a n c) (.slice none 0 0)).run Tryz.prog w=.ok a.isNone w:=fun d=>by
  cases a <;> simp [Op.equalIn,run_underlying Tryz.underlying23]
 simp only [binOp];simp [Op.equal,Op.maxDepth,h]
attribute [local go_sem] EH
theorem sM(ao:Option Addr)(n cap:Nat)(l:List Rat)(w:World)(h:bg w ⟨ao,n,cap⟩ l)(hn:n≤1000000)(h0:0<n) :
  ar 247 [.slice ao n cap] w SH.v (fun x w'=>∃ L c,w.heap.size≤L∧n≤c∧c≤9223372036854775807∧x=⟨some ⟨L,0,none⟩,n,c⟩∧aH w' L l):=by
 obtain ⟨rs,h1,h2⟩:=h;have hl:rs.length=n:=h1.len;have H2:=Hi h2;obtain ⟨b,off,rfl,hc⟩:∃ b off,ao=some ⟨b,off,none⟩∧∀ k,k<n→RAt w b (off+k*3) (rs.getD k default):=by
  rcases h1.at' with h3|⟨b,off,e,hc⟩
  ·have h3:n=0:=h3;omega
  ·exact ⟨b,off,e,hc⟩
 have HC:=Hi hc;have hE:Hid (Ext w (w.alloc (.cells #[] 37))):=Hi (Ext.alloc _ _);clear h1 h2 hc;unfold ar;go_enter Tryz.func247,Tryz.ntmps247
 go_wp2_with (at_builtin;refine fs rfl (.tmp 5) (.tmp 6) 23 Tryz.underlying23 rfl w.heap.size rfl b off n cap rs rfl hl h0 zo (fun k hk=>(HC.out k hk).ext hE.out) ?_;intro w' c re g1 g2 g3 g4 g5)
 rw [nXc] at g4
 go_ret
 exact ⟨⟨some ⟨w.heap.size+1,0,none⟩,n,c⟩,rfl,hE.out.trans g3,_,c,Nat.le_succ _,g1,g2,rfl,rs,re,g4,g5,H2.out.can_ext (hE.out.trans g3)⟩
def p2f(k:Nat):Rat:=(2:Rat) ^ k
theorem Bv(k:Nat):p2f k+p2f k=p2f (k+1):=by unfold p2f;rw [Rat.pow_succ];grind
def su1(n:Nat)(c:Nat→Rat)(j k i:Nat):Rat:=if i<k then suf n c (j+1) i else suf n c j i
theorem xE{n j k N:Nat}{c:Nat→Rat}(h:k<n-j):(row N (su1 n c j k)).set k (suf n c j k+suf n c j (k+1))=row N (su1 n c j (k+1)):=by
 rw [kx];refine bh (fun i _=>?_);unfold su1;by_cases h1:i=k
 ·rw [if_pos h1,if_pos zo,h1,qx h]
 ·rw [if_neg h1];by_cases h2:i<k
  ·rw [if_pos h2,if_pos zo]
  ·rw [if_neg h2,if_neg zo]
theorem tQ(n N j:Nat)(c:Nat→Rat):row N (su1 n c j 0)=row N (suf n c j):=bh (fun i _=>by unfold su1;rw [if_neg (Nat.not_lt_zero i)])
theorem Ba{n j N:Nat}(c:Nat→Rat):row N (su1 n c j (n-j))=row N (suf n c (j+1)):=bh (fun i _=>by
 unfold su1;by_cases h:i<n-j
 ·rw [if_pos h]
 ·rw [if_neg h,qz zo])
def lff(n:Nat)(c:Nat→Rat)(i:Nat):Rat:=(2:Rat) ^ n*lfb c i
def rtf(n:Nat)(c:Nat→Rat)(i:Nat):Rat:=(2:Rat) ^ n*rtb n c i
abbrev HT(x:SH×SH):Value:=.tuple #[x.1.v,x.2.v]
theorem pZ(ao:Option Addr)(N n cap:Nat)(c:Nat→Rat)(S:Nat)(w:World)(h:bg w ⟨ao,N,cap⟩ (row N c))(hN:N=n+1)(h8:n≤8)(hz:∀ k,k≤n→Wz S (c k))(hS1:1≤S)(hS:S≤1000000) :
  ar 243 [.slice ao N cap] w HT (fun x w'=>cJ w.heap.size w' x.1 (row N (lff n c))∧cJ w.heap.size w' x.2 (row N (rtf n c))):=by
 have HX:=Hi (Ext.refl w);have LA:=Hi h;have HZ:=Hi (Ah hz);have hcl:=h.le;have hcm:=h.max;simp only at hcl hcm;clear h hz;unfold ar;go_enter Tryz.func243,Tryz.ntmps243;have LA0:Hid (bg w ⟨ao,N,cap⟩ (row N c)):=LA
 go_upto_region 2 with fail
 go_wp2_with fail
 refine cM (bO 1 _ dZ dZ) fun x3 w3 hE G3=>?_
 replace HX:=hE.tr HX;have hs_w3:=hE.size
 go_upto_region 3 with fail
 refine nmA ?_;intro w4 hE BF hz_w4 hr_w4;refine mV2 hE ?_ G3 HX;clear G3 HX;intro G3 HX;have hs_w4:=hE.size;replace b_BF:=bX3 BF;have HO:Hid (dX w4 (fun k=>w.heap.size≤k) (.slice (some ⟨w3.heap.size,0,none⟩) 1 1) (row 1 p2f)):=Hi (uG (mP BF.out rfl) G3.out (by show w.heap.size≤w3.heap.size;omega));obtain ⟨s4,hs4⟩:∃ s:SH,s.v=.slice (some ⟨w3.heap.size,0,none⟩) 1 1:=⟨⟨_,_,_⟩,rfl⟩;rw [←hs4] at HO ⊢;clear hs4 b_BF BF G3;go_wp2
 go_loopg [5,18] n (fun g v i wr=>∃ (j:Nat) (s:SH),v=s.v∧j+g=n∧i=.int .i64 (j:Nat)∧Ext w wr∧dX wr (fun k=>w.heap.size≤k) s.v (row (j+1) p2f))
 case atStart=>exact ⟨0,s4,rfl,zo,rfl,HX.out,HO.out⟩
 case round =>
  obtain ⟨j,⟨sa,sn,sc⟩,rfl,hj,rfl,g1,g4⟩:=hrel;clear HX HO;have HX:=Hi g1;have HO:=Hi g4;have LB:=Hi (LA0.out.ext g1);have hszr:=g1.size;have hsn:=dX.len (s:=⟨sa,sn,sc⟩) g4;rw [aM] at hsn;simp only at hsn;subst hsn;clear g1 g4;simp only [SH.v];by_cases h0:gk=0
  case neg =>
   have hjn:(j:Int)<n:=zo;have HV:Hid ((row (j+1) p2f).getD j 0=p2f j):=Hi (bZ _ zo);obtain ⟨b,off,r,hao,hbl,⟨hc1,hc2,hc3⟩,hP⟩:=(dX.can (s:=⟨sa,j+1,sc⟩) HO.out).lin.celx (k:=j) zo;obtain ⟨rneg,ra,rn,rc,rb,rm,rd⟩:=r;simp only at hc1 hc2 hc3;subst hao;rw [HV.out] at hP;have RP:=Hi hP;clear hP;have ZP:Hid (Sz 1 (p2f j)):=Hi ((qv zo).sz zo)
   go_upto_region 6 with fail
   refine wpG 11 (fun opIx=>match opIx with
    | 9=>sR (p2f j+p2f j)
    | 10=>.spec (Nat×RH) ((0,default)) (fun p=>.slice (some ⟨p.1,0,none⟩) 1 1) (fun p w'=>jr w' p (p2f j+p2f j))
    | _=>.quiet) (fun|10=>[9]|_=>[]) fun w0 he0 hz0 hc0 hf0=>?_
   refine wps he0 (fun w1 hW hG=>?_) fun x31=>?_
   ·exact spc [RH.v ⟨rneg,ra,rn,rc,rb,rm,rd⟩,RH.v ⟨rneg,ra,rn,rc,rb,rm,rd⟩] Tryz.func104 (dw _ _ _ _ _ ((RP.out.ext hW).raw ZP.out dZ) ((RP.out.ext hW).raw ZP.out dZ))
   refine qZ ?_;refine wps he0 (fun w1 hW hG=>?_) fun x32=>?_
   ·have g31:=gS (hG 9 dZ);exact lS x31 _ g31 rfl (by simp [execOp,go_sem])
   refine qZ ?_;refine aq ?_;intro w5 hI;have hE:=he0.out.trans hI.ext;have G31:=gT (hI.facts 9);have G32:=gT (hI.facts 10);clear hI he0 hz0 hc0 hf0;refine mV3 hE ?_ HX HO RP;clear HX HO RP;intro HX HO RP;have hs_w5:=hE.size;simp only [pD];clear hc1 hc2 hc3
   go_upto_region 7 with (at_builtin;refine eC rfl (.tmp 21) (.tmp 31) 23 Tryz.underlying23 rfl (fun k=>w.heap.size≤k) _ _ x32.2 _ x32.1 rfl HO.out rfl G32.out.1 G32.out.2 (by rw [aM];omega) (fun k hk=>by show w.heap.size≤k;omega) ?_;intro s' y3 q1 q2 q3)
   have HX3:=Hi (Ext.mods HX.out q2 (fun k h=>h));have HO3:Hid (dX y3 (fun k=>w.heap.size≤k) s'.v (row (j+1+1) p2f)):=Hi (by rw [qJ,show p2f (j+1)=p2f j+p2f j from (Bv j).symm];exact q1);clear q1 q2 q3;go_wp2
   go_roundg (gk-1)
   case measure=>omega
   case rel=>exact ⟨j+1,s',rfl,zo,by go_num,HX3.out,HO3.out⟩
  subst h0;obtain rfl:j=n:=by omega
  have hin:¬ (j:Int)<j:=zo;have HF0:Hid (LIn wr ⟨sa,j+1,sc⟩ (row (j+1) p2f) w.heap.size wr.heap.size):=Hi (dX.new (B:=w.heap.size) HO.out (fun k _ h=>h));clear HO;subst hN
  go_wp2_with fail
  refine cM (sM ao (j+1) cap _ _ LB.out zo zo) fun x35 w35 hE G35=>?_
  refine mV3 hE ?_ LB HX HF0;clear LB HX HF0;intro LB HX HF0;have hs_w35:=hE.size;obtain ⟨Ls,cs',hLs,hc1,hc2,hx5,hR5⟩:=G35.out;subst hx5;have HR:=Hi hR5;have hLsr:wr.heap.size≤Ls:=hLs;have hLs5:Ls<w35.heap.size:=hR5.lt;clear hR5 G35;have HJ1:Hid ((j:Int)+1=((j+1:Nat):Int)):=Hi zo;have hwr:Hid (IntKind.i64.wrap ((j:Int)+1)=((j+1:Nat):Int)):=Hi (by rw [wrap_small _ zo zo];omega);obtain ⟨i0,hi0,hz0,hz1,hz2⟩:=info_parts ii
  go_upto_region 9 with fail
  go_cut [8,9] (fun p q wr=>∃ (Ll Lr:Nat),p=.slice (some ⟨Ll,0,none⟩) (j+1) (j+1)∧q=.slice (some ⟨Lr,0,none⟩) (j+1) (j+1)∧Ext w35 wr∧w35.heap.size≤Ll∧w35.heap.size≤Lr∧Ll≠Lr∧PaC wr Ll (j+1) (fun _=>False) (lff j c)∧PaC wr Lr (j+1) (fun _=>False) (rtf j c))
  case first =>
   go_region_with (refine tG Tryz.underlying23 (n:=j+1) (by first|exact hwr.out|rfl) zo ?_;intro wm hEm hsm hPm)
   all_goals go_wp2_with fail
   all_goals go_meet
   all_goals rename_i wm1 hE1 hs1 hP1
   all_goals have hE0:Ext w35 wm1:=(Ext.drew w35).trans hE1
   all_goals first|exact ⟨w35.heap.size,wm1.heap.size,rfl,rfl,hE0.trans hEm,nXe _,hE0.size,Nat.ne_of_lt hs1,(hP1 _).ext hEm,hPm _⟩|exact ⟨wm1.heap.size,w35.heap.size,rfl,rfl,hE0.trans hEm,hE0.size,nXe _,Nat.ne_of_gt hs1,hPm _,(hP1 _).ext hEm⟩
  case rest =>
   obtain ⟨Ll,Lr,rfl,rfl,g1,hl1,hl2,hlr,p1,p2⟩:=hcut;obtain ⟨H9,hH9⟩:∃ H,H=wr.heap.size:=⟨_,rfl⟩;have hH9':H9≤Ls:=zo;rw [←hH9] at HF0;replace HX:=Hi (HX.out.trans g1);have HF:=Hi (HF0.out.ext g1);replace HR:Hid (aH wc Ls (row (j+1) (suf j c 0))):=Hi (by
    rw [show row (j+1) (suf j c 0)=row (j+1) c from bh (fun i _=>qw _ _ _)];exact HR.out.ext g1)
   have HA:Hid (PaC wc Ll (j+1) (fun k=>k<0) (lff j c)):=Hi (p1.mono (fun i _ h=>(Nat.not_lt_zero _ h).elim));have HB:Hid (PaC wc Lr (j+1) (fun k=>j<k+0) (rtf j c)):=Hi (p2.mono (fun i hi h=>by omega));have hszc:Ls<wc.heap.size:=by have:=g1.size;omega
   have hll:Ls<Ll:=zo;have hlr2:Ls<Lr:=zo;have hwl:w.heap.size≤Ll:=zo;have hwr2:w.heap.size≤Lr:=zo;have hws:w.heap.size≤Ls:=zo;clear g1 p1 p2 HF0 hH9;simp only [SH.v];go_wp2
   go_loopg [44] (j+1) (fun g v wr=>∃ (i:Nat),i+g=j+1∧v=.int .i64 (i:Nat)∧Ext w wr∧LIn wr ⟨sa,j+1,sc⟩ (row (j+1) p2f) w.heap.size H9∧aH wr Ls (row (j+1) (suf j c i))∧PaC wr Ll (j+1) (fun k=>k<i) (lff j c)∧PaC wr Lr (j+1) (fun k=>j<k+i) (rtf j c)∧Ls<wr.heap.size)
   case atStart=>exact ⟨0,zo,rfl,HX.out,HF.out,HR.out,HA.out,HB.out,hszc⟩
   case round =>
    obtain ⟨i,hi,rfl,g1,g2,g3,g4,g5,g6⟩:=hrel;clear HX HF HR HA HB;have HX:=Hi g1;have HF:=Hi g2;have HR:=Hi g3;have HA:=Hi g4;have HB:=Hi g5;have hsz9:=g6;clear g1 g2 g3 g4 g5 g6;by_cases h0:gk=0
    case pos =>
     subst h0;obtain rfl:i=j+1:=by omega
     have hin:¬ ((j+1:Nat):Int)<((j+1:Nat):Int):=zo;have HA1:=Hi (HA.out.row (fun i hi=>hi));have HB1:=Hi (HB.out.row (fun i hi=>by omega));go_wp2;exact nXa (v:=HT (⟨some ⟨Ll,0,none⟩,j+1,j+1⟩,⟨some ⟨Lr,0,none⟩,j+1,j+1⟩)) (by simp [results,Tryz.results243,go_sem,HT]) rfl
      ⟨(⟨some ⟨Ll,0,none⟩,j+1,j+1⟩,⟨some ⟨Lr,0,none⟩,j+1,j+1⟩),rfl,HX.out,⟨Ll,hwl,by rw [aM],HA1.out⟩,⟨Lr,hwr2,by rw [aM],HB1.out⟩⟩
    obtain ⟨g0,rfl⟩:∃ g0,gk=g0+1:=⟨gk-1,zo⟩;obtain ⟨k2,hk2⟩:∃ k2:Nat,k2+i=j:=⟨j-i,zo⟩;have hsub:(j:Int)-(i:Int)=(k2:Nat):=zo;have hin:(i:Int)<((j+1:Nat):Int):=zo;have hin2:(k2:Int)<((j+1:Nat):Int):=zo;have hin3:(0:Int)<((j+1:Nat):Int):=zo;have ZP:Hid (Sz 1 (p2f k2)):=Hi ((qv zo).sz zo);have ZA:Hid (∀ k,k≤j→Sz (S+i) (suf j c i k)):=Hi (fun k hk=>(HZ.out i k hk).sz zo);have HVL:Hid (suf j c i 0*p2f k2=lff j c i):=Hi (by have:=qy (n:=j) (j:=i) (c:=c) zo;rw [show j-i=k2 by omega] at this;exact this);have HVR:Hid (suf j c i k2*p2f k2=rtf j c k2):=Hi (by have:=nP (n:=j) (j:=i) (c:=c) zo;rw [show j-i=k2 by omega] at this;exact this);obtain ⟨r,⟨f1,f2,f3⟩,hrc⟩:=aH.cells HR.out (k:=0) (by rw [aM];omega);rw [bZ _ zo] at hrc;have HP:=Hi hrc;clear hrc;obtain ⟨b,off,r',hao,hbl,⟨d1,d2,d3⟩,hP'⟩:=HF.out.celx (k:=k2) zo;subst hao;rw [bZ _ zo] at hP';have HP':=Hi hP';clear hP';obtain ⟨rn,ra,rl,rc,rb,rm,rd⟩:=r;obtain ⟨r2n,r2a,r2l,r2c,r2b,r2m,r2d⟩:=r';simp only [Nat.zero_mul] at f1 f2 f3 d1 d2 d3;have hfz:=aH.frozen HR.out;have hLl:=aH.lt HR.out
    go_upto_region 13 with fail
    refine wpG 12 (fun opIx=>match opIx with
     | 11=>sR (suf j c i 0*p2f k2)
     | _=>.quiet) (fun _=>[]) fun w0 he0 hz0 hc0 hf0=>?_
    refine wps he0 (fun w1 hW hG=>?_) fun x60=>?_
    ·exact spc [RH.v ⟨rn,ra,rl,rc,rb,rm,rd⟩,RH.v ⟨r2n,r2a,r2l,r2c,r2b,r2m,r2d⟩] Tryz.func108 (aK _ _ _ _ _ ((HP.out.ext hW).raw (ZA.out 0 zo) zo) ((HP'.out.ext hW).raw ZP.out dZ))
    refine qZ ?_;refine aq ?_;intro y1 hI;have hE:=he0.out.trans hI.ext;have G60:=gT (hI.facts 11);clear hI he0 hz0 hc0 hf0;refine mV5 hE ?_ HX HF HR HA HB;clear HX HF HR HA HB;intro HX HF HR HA HB;have hs_y1:=hE.size;simp only [pD];clear f1 f2 f3 d1 d2 d3 hfz hLl;rw [HVL.out] at G60;obtain ⟨r4,f1,f2,f3⟩:=HA.out.at (k:=i) zo;have hfz:=HA.out.frozen;have hLl:=HA.out.lt
    go_upto_region 14 with fail
    refine At (k:=i) HA.out zo G60.out ?_;rintro y2 ⟨cs2,T⟩ TN;clear f1 f2 f3 hfz hLl;clear HA;replace HX:=Hi (T.ext HX.out zo);replace HF:=Hi (HF.out.put T zo);replace HR:=Hi (HR.out.put T zo);replace HB:=Hi (HB.out.put T zo);replace G60:=Hi (G60.out.keep T.keep);have hs_y2:=nle T.size;have hr_y2:=nle T.size.symm;clear T;have HA:=Hi TN;clear TN;have HAi:Hid (PaC y2 Ll (j+1) (fun k=>k<i+1) (lff j c)):=Hi (HA.out.mono (fun k _ h=>by omega));clear HA;obtain ⟨r5,⟨f1,f2,f3⟩,hrc⟩:=aH.cells HR.out (k:=k2) (by rw [aM];omega);rw [bZ _ zo] at hrc;have HQ:=Hi hrc;clear hrc;obtain ⟨b',off',r',hao',hbl',⟨d1,d2,d3⟩,hP''⟩:=HF.out.celx (k:=k2) zo;obtain ⟨rfl,rfl⟩:b=b'∧off=off':=by simpa using hao'
    clear hao';rw [bZ _ zo] at hP'';have HQ':=Hi hP'';clear hP'';obtain ⟨r5n,r5a,r5l,r5c,r5b,r5m,r5d⟩:=r5;obtain ⟨r6n,r6a,r6l,r6c,r6b,r6m,r6d⟩:=r';simp only at f1 f2 f3 d1 d2 d3;have hfz:=aH.frozen HR.out;have hLl:=aH.lt HR.out;refine wpG 17 (fun opIx=>match opIx with
     | 16=>sR (suf j c i k2*p2f k2)
     | _=>.quiet) (fun _=>[]) fun w0 he0 hz0 hc0 hf0=>?_
    refine wps he0 (fun w1 hW hG=>?_) fun x61=>?_
    ·exact spc [RH.v ⟨r5n,r5a,r5l,r5c,r5b,r5m,r5d⟩,RH.v ⟨r6n,r6a,r6l,r6c,r6b,r6m,r6d⟩] Tryz.func108 (aK _ _ _ _ _ ((HQ.out.ext hW).raw (ZA.out k2 zo) zo) ((HQ'.out.ext hW).raw ZP.out dZ))
    refine qZ ?_;refine aq ?_;intro y3 hI;have hE:=he0.out.trans hI.ext;have G61:=gT (hI.facts 16);clear hI he0 hz0 hc0 hf0;refine mV6 hE ?_ HX HF HR HB G60 HAi;clear HX HF HR HB G60 HAi;intro HX HF HR HB G60 HAi;have hs_y3:=hE.size;simp only [pD];clear f1 f2 f3 d1 d2 d3 hfz hLl;rw [HVR.out] at G61;obtain ⟨r4,f1,f2,f3⟩:=HB.out.at (k:=k2) zo;have hfz:=HB.out.frozen;have hLl:=HB.out.lt
    go_upto_region 15 with fail
    refine At (k:=k2) HB.out zo G61.out ?_;rintro y4 ⟨cs2,T⟩ TN;clear f1 f2 f3 hfz hLl;clear HB;replace HX:=Hi (T.ext HX.out zo);replace HF:=Hi (HF.out.put T zo);replace HR:=Hi (HR.out.put T zo);replace G60:=Hi (G60.out.keep T.keep);replace HAi:=Hi (HAi.out.put T zo);replace G61:=Hi (G61.out.keep T.keep);have hs_y4:=nle T.size;have hr_y4:=nle T.size.symm;clear T;have HB:=Hi TN;clear TN;have HBi:Hid (PaC y4 Lr (j+1) (fun k=>j<k+(i+1)) (rtf j c)):=Hi (HB.out.mono (fun k hk h=>by omega));have HRi:Hid (aH y4 Ls (row (j+1) (su1 j c i 0))):=Hi (by rw [tQ];exact HR.out);have hsz4:Ls<y4.heap.size:=aH.lt HR.out;clear HB HR;go_wp2
    go_loopg [81] k2 (fun g v wr=>∃ (k:Nat),k+g=k2∧v=.int .i64 (k:Nat)∧Ext w wr∧LIn wr ⟨some ⟨b,off,none⟩,j+1,sc⟩ (row (j+1) p2f) w.heap.size H9∧aH wr Ls (row (j+1) (su1 j c i k))∧PaC wr Ll (j+1) (fun k=>k<i+1) (lff j c)∧PaC wr Lr (j+1) (fun k=>j<k+(i+1)) (rtf j c)∧Ls<wr.heap.size)
    case atStart=>exact ⟨0,zo,rfl,HX.out,HF.out,HRi.out,HAi.out,HBi.out,hsz4⟩
    case round =>
     obtain ⟨k,hk,rfl,g1,g2,g3,g4,g5,g6⟩:=hrel;clear HX HF HRi HAi HBi hsz4;have HX:=Hi g1;have HF:=Hi g2;have HR:=Hi g3;have HA:=Hi g4;have HB:=Hi g5;have hsz4:=g6;clear g1 g2 g3 g4 g5 g6;by_cases h0:gk=0
     case pos =>
      subst h0;obtain rfl:k=k2:=by omega
      have hin:¬ (k:Int)<(k:Int):=zo;have HRn:Hid (aH wr Ls (row (j+1) (suf j c (i+1)))):=Hi (by rw [←Ba,show j-i=k by omega];exact HR.out);go_wp2
      go_roundg g0
      case measure=>omega
      case rel=>exact ⟨i+1,zo,by go_num,HX.out,HF.out,HRn.out,HA.out,HB.out,hsz4⟩
     obtain ⟨k1,hk1⟩:∃ k1,k1=k+1:=⟨_,rfl⟩;have hadd:(k:Int)+1=(k1:Nat):=zo;have hin:(k:Int)<(k2:Nat):=zo;have hin2:(k1:Int)<((j+1:Nat):Int):=zo;have hin3:(k:Int)<((j+1:Nat):Int):=zo;obtain ⟨r,⟨f1,f2,f3⟩,hrc⟩:=aH.cells HR.out (k:=k) (by rw [aM];omega);obtain ⟨r',⟨d1,d2,d3⟩,hrc'⟩:=aH.cells HR.out (k:=k1) (by rw [aM];omega);rw [bZ _ zo,show su1 j c i k k=suf j c i k from if_neg (Nat.lt_irrefl _)] at hrc;rw [bZ _ zo,show su1 j c i k k1=suf j c i k1 from if_neg zo] at hrc';have HP:=Hi hrc;have HP':=Hi hrc';have HK1:=Hi hk1;have hk1j:k1≤j:=zo;clear hrc hrc' hk1;obtain ⟨rn,ra,rl,rc,rb,rm,rd⟩:=r;obtain ⟨r2n,r2a,r2l,r2c,r2b,r2m,r2d⟩:=r';simp only at f1 f2 f3 d1 d2 d3;have hfz:=aH.frozen HR.out;have hLl:=aH.lt HR.out
     go_upto_region 18 with fail
     refine wpG 12 (fun opIx=>match opIx with
      | 11=>sR (suf j c i k+suf j c i k1)
      | _=>.quiet) (fun _=>[]) fun w0 he0 hz0 hc0 hf0=>?_
     refine wps he0 (fun w1 hW hG=>?_) fun x70=>?_
     ·exact spc [RH.v ⟨rn,ra,rl,rc,rb,rm,rd⟩,RH.v ⟨r2n,r2a,r2l,r2c,r2b,r2m,r2d⟩] Tryz.func104 (dw _ _ _ _ _ ((HP.out.ext hW).raw (ZA.out k zo) zo) ((HP'.out.ext hW).raw (ZA.out k1 zo) zo))
     refine qZ ?_;refine aq ?_;intro y5 hI;have hE:=he0.out.trans hI.ext;have G70:=gT (hI.facts 11);clear hI he0 hz0 hc0 hf0;refine mV5 hE ?_ HX HF HR HA HB;clear HX HF HR HA HB;intro HX HF HR HA HB;have hs_y5:=hE.size;simp only [pD];clear f1 f2 f3 d1 d2 d3 hfz hLl;obtain ⟨r4,⟨f1,f2,f3⟩,-⟩:=aH.cells HR.out (k:=k) (by rw [aM];omega);have hfz:=aH.frozen HR.out;have hLl:=aH.lt HR.out
     go_upto_region 19 with fail
     refine eW (k:=k) HR.out (by rw [aM];omega) G70.out ?_;rintro y6 ⟨cs2,T⟩ TN;rw [HK1.out,xE zo] at TN;clear f1 f2 f3 hfz hLl;clear HR;replace HX:=Hi (T.ext HX.out zo);replace HF:=Hi (HF.out.put T zo);replace HA:=Hi (HA.out.put T zo);replace HB:=Hi (HB.out.put T zo);replace G70:=Hi (G70.out.keep T.keep);have hs_y6:=nle T.size;have hr_y6:=nle T.size.symm;clear T;have HR:=Hi TN;clear TN;have hsz6:Ls<y6.heap.size:=aH.lt HR.out;go_wp2
     go_roundg (gk-1)
     case measure=>omega
     case rel=>exact ⟨k+1,zo,congrArg _ (by have:=HK1.out;omega),HX.out,HF.out,HR.out,HA.out,HB.out,hsz6⟩
theorem Dr(a b:Rat):(if a<b then b else a)=hiV a b:=by
 unfold hiV;by_cases h:a<b
 ·rw [if_pos h,if_neg (by grind)]
 ·rw [if_neg h];by_cases h2:b<a
  ·rw [if_pos h2]
  ·rw [if_neg h2];grind
theorem ut(s t:RH)(a b:Rat)(w:World)(hs:aX w s a)(ht:aX w t b):ar 99 [s.v,t.v] w RH.v (fun x w'=>aA w' x (loV a b)):=by
 have HX:=Hi (Ext.refl w);have HS:=Hi hs;have HT:=Hi ht;clear hs ht;unfold ar;go_enter Tryz.func99,Tryz.ntmps99;obtain ⟨sn,sa,sl,sc,sb,sm,sd⟩:=s;obtain ⟨tn,ta,tl,tc,tb,tm,td⟩:=t
 go_upto_region 1 with fail
 refine sO ?_;intro w1 hE B2 B3 B4 hz_w1 hr_w1;refine mV3 hE ?_ HX HS HT;clear HX HS HT;intro HX HS HT;have hs_w1:=hE.size;replace b_B2:=bX3 B2;replace b_B3:=bX3 B3;replace b_B4:=bX3 B4
 go_wp2_with fail
 refine cM (lU ⟨tn,ta,tl,tc,tb,tm,td⟩ ⟨sn,sa,sl,sc,sb,sm,sd⟩ b a _ HT.out HS.out) fun x7 w7 hE _=>?_
 refine mV6 hE ?_ B2 B3 B4 HX HS HT;clear B2 B3 B4 HX HS HT;intro B2 B3 B4 HX HS HT;have hs_w7:=hE.size;replace b_B2:=bX3 B2;replace b_B3:=bX3 B3;replace b_B4:=bX3 B4;by_cases h:b<a
 case pos =>
  have HV:Hid (loV a b=b):=Hi (if_pos h);rw [decide_eq_true h];clear h
  go_wp2_with fail
  refine cM (ey ⟨tn,ta,tl,tc,tb,tm,td⟩ b _ HT.out) fun x9 w9 hE G9=>?_
  refine mV6 hE ?_ B2 B3 B4 HX HS HT;clear B2 B3 B4 HX HS HT;intro B2 B3 B4 HX HS HT;have hs_w9:=hE.size;replace b_B2:=bX3 B2;replace b_B3:=bX3 B3;replace b_B4:=bX3 B4;go_wp2;refine aN (F:=fun W=>bodyPost _ _ _ _ _ W) B4.out rfl ?_;intro w10 T;replace HX:=Hi (T.ext HX.out zo);replace HS:=Hi (HS.out.keep T.keep);replace HT:=Hi (HT.out.keep T.keep);replace B2:=Hi (T.rest _ _ zo B2.out);replace B3:=Hi (T.rest _ _ zo B3.out);replace B4:=Hi (T.bx);replace G9:=Hi (G9.out.keep T.keep);have hs_w10:=nle T.size;have hr_w10:=nle T.size.symm;clear T;replace b_B2:=bX3 B2;replace b_B3:=bX3 B3;replace b_B4:=bX3 B4;exact nXa (v:=RH.v x9) (by simp [results,Tryz.results99,go_sem,b_B4.1]) rfl ⟨x9,rfl,HX.out,by rw [HV.out];exact G9.out⟩
 have HV:Hid (loV a b=a):=Hi (if_neg h);rw [decide_eq_false h];clear h
 go_wp2_with fail
 refine cM (ey ⟨sn,sa,sl,sc,sb,sm,sd⟩ a _ HS.out) fun x11 w11 hE G11=>?_
 refine mV6 hE ?_ HX HS HT B2 B3 B4;clear HX HS HT B2 B3 B4;intro HX HS HT B2 B3 B4;have hs_w11:=hE.size;replace b_B2:=bX3 B2;replace b_B3:=bX3 B3;replace b_B4:=bX3 B4;go_wp2;refine aN (F:=fun W=>bodyPost _ _ _ _ _ W) B4.out rfl ?_;intro w12 T;replace HX:=Hi (T.ext HX.out zo);replace HS:=Hi (HS.out.keep T.keep);replace HT:=Hi (HT.out.keep T.keep);replace B2:=Hi (T.rest _ _ zo B2.out);replace B3:=Hi (T.rest _ _ zo B3.out);replace B4:=Hi (T.bx);replace G11:=Hi (G11.out.keep T.keep);have hs_w12:=nle T.size;have hr_w12:=nle T.size.symm;clear T;replace b_B2:=bX3 B2;replace b_B3:=bX3 B3;replace b_B4:=bX3 B4;exact nXa (v:=RH.v x11) (by simp [results,Tryz.results99,go_sem,b_B4.1]) rfl ⟨x11,rfl,HX.out,by rw [HV.out];exact G11.out⟩
theorem uu(s t:RH)(a b:Rat)(w:World)(hs:aX w s a)(ht:aX w t b):ar 100 [s.v,t.v] w RH.v (fun x w'=>aA w' x (hiV a b)):=by
 have HX:=Hi (Ext.refl w);have HS:=Hi hs;have HT:=Hi ht;clear hs ht;unfold ar;go_enter Tryz.func100,Tryz.ntmps100;obtain ⟨sn,sa,sl,sc,sb,sm,sd⟩:=s;obtain ⟨tn,ta,tl,tc,tb,tm,td⟩:=t
 go_upto_region 1 with fail
 refine sO ?_;intro w1 hE B2 B3 B4 hz_w1 hr_w1;refine mV3 hE ?_ HX HS HT;clear HX HS HT;intro HX HS HT;have hs_w1:=hE.size;replace b_B2:=bX3 B2;replace b_B3:=bX3 B3;replace b_B4:=bX3 B4
 go_wp2_with fail
 refine cM (lU ⟨sn,sa,sl,sc,sb,sm,sd⟩ ⟨tn,ta,tl,tc,tb,tm,td⟩ a b _ HS.out HT.out) fun x7 w7 hE _=>?_
 refine mV6 hE ?_ B2 B3 B4 HX HS HT;clear B2 B3 B4 HX HS HT;intro B2 B3 B4 HX HS HT;have hs_w7:=hE.size;replace b_B2:=bX3 B2;replace b_B3:=bX3 B3;replace b_B4:=bX3 B4;by_cases h:a<b
 case pos =>
  have HV:Hid (hiV a b=b):=Hi (by rw [←Dr,if_pos h]);rw [decide_eq_true h];clear h
  go_wp2_with fail
  refine cM (ey ⟨tn,ta,tl,tc,tb,tm,td⟩ b _ HT.out) fun x9 w9 hE G9=>?_
  refine mV6 hE ?_ B2 B3 B4 HX HS HT;clear B2 B3 B4 HX HS HT;intro B2 B3 B4 HX HS HT;have hs_w9:=hE.size;replace b_B2:=bX3 B2;replace b_B3:=bX3 B3;replace b_B4:=bX3 B4;go_wp2;refine aN (F:=fun W=>bodyPost _ _ _ _ _ W) B4.out rfl ?_;intro w10 T;replace HX:=Hi (T.ext HX.out zo);replace HS:=Hi (HS.out.keep T.keep);replace HT:=Hi (HT.out.keep T.keep);replace B2:=Hi (T.rest _ _ zo B2.out);replace B3:=Hi (T.rest _ _ zo B3.out);replace B4:=Hi (T.bx);replace G9:=Hi (G9.out.keep T.keep);have hs_w10:=nle T.size;have hr_w10:=nle T.size.symm;clear T;replace b_B2:=bX3 B2;replace b_B3:=bX3 B3;replace b_B4:=bX3 B4;exact nXa (v:=RH.v x9) (by simp [results,Tryz.results100,go_sem,b_B4.1]) rfl ⟨x9,rfl,HX.out,by rw [HV.out];exact G9.out⟩
 have HV:Hid (hiV a b=a):=Hi (by rw [←Dr,if_neg h]);rw [decide_eq_false h];clear h
 go_wp2_with fail
 refine cM (ey ⟨sn,sa,sl,sc,sb,sm,sd⟩ a _ HS.out) fun x11 w11 hE G11=>?_
 refine mV6 hE ?_ HX HS HT B2 B3 B4;clear HX HS HT B2 B3 B4;intro HX HS HT B2 B3 B4;have hs_w11:=hE.size;replace b_B2:=bX3 B2;replace b_B3:=bX3 B3;replace b_B4:=bX3 B4;go_wp2;refine aN (F:=fun W=>bodyPost _ _ _ _ _ W) B4.out rfl ?_;intro w12 T;replace HX:=Hi (T.ext HX.out zo);replace HS:=Hi (HS.out.keep T.keep);replace HT:=Hi (HT.out.keep T.keep);replace B2:=Hi (T.rest _ _ zo B2.out);replace B3:=Hi (T.rest _ _ zo B3.out);replace B4:=Hi (T.bx);replace G11:=Hi (G11.out.keep T.keep);have hs_w12:=nle T.size;have hr_w12:=nle T.size.symm;clear T;replace b_B2:=bX3 B2;replace b_B3:=bX3 B3;replace b_B4:=bX3 B4;exact nXa (v:=RH.v x11) (by simp [results,Tryz.results100,go_sem,b_B4.1]) rfl ⟨x11,rfl,HX.out,by rw [HV.out];exact G11.out⟩
theorem pK(s t:RH)(a b:Rat)(w:World)(hs:aX w s a)(ht:aX w t b):ar 47 [IvV (s,t)] w IvV (fun x w'=>aA w' x.1 (loV a b)∧aA w' x.2 (hiV a b)):=by
 have HX:=Hi (Ext.refl w);have HS:=Hi hs;have HT:=Hi ht;clear hs ht;unfold ar;go_enter Tryz.func47,Tryz.ntmps47;obtain ⟨sn,sa,sl,sc,sb,sm,sd⟩:=s;obtain ⟨tn,ta,tl,tc,tb,tm,td⟩:=t
 go_upto_region 1 with fail
 refine eX ?_;intro w1 hE B1 B2 hz_w1 hr_w1;refine mV3 hE ?_ HX HS HT;clear HX HS HT;intro HX HS HT;have hs_w1:=hE.size;replace b_B1:=bX3 B1;replace b_B2:=bX3 B2;refine wpG 11 (fun opIx=>match opIx with
  | 4=>sR (loV a b)
  | 9=>sR (hiV a b)
  | _=>.quiet) (fun _=>[]) fun w0 he0 hz0 hc0 hf0=>?_
 refine wps he0 (fun w1 hW hG=>?_) fun x20=>?_
 ·exact spc [RH.v ⟨sn,sa,sl,sc,sb,sm,sd⟩,RH.v ⟨tn,ta,tl,tc,tb,tm,td⟩] Tryz.func99 (ut _ _ _ _ _ (HS.out.ext hW) (HT.out.ext hW))
 refine qZ ?_;refine wps he0 (fun w1 hW hG=>?_) fun x21=>?_
 ·exact spc [RH.v ⟨sn,sa,sl,sc,sb,sm,sd⟩,RH.v ⟨tn,ta,tl,tc,tb,tm,td⟩] Tryz.func100 (uu _ _ _ _ _ (HS.out.ext hW) (HT.out.ext hW))
 refine qZ ?_;refine aq ?_;intro w2 hI;have hE:=he0.out.trans hI.ext;have G20:=gT (hI.facts 4);have G21:=gT (hI.facts 9);clear hI he0 hz0 hc0 hf0;refine mV5 hE ?_ B1 B2 HX HS HT;clear B1 B2 HX HS HT;intro B1 B2 HX HS HT;have hs_w2:=hE.size;replace b_B1:=bX3 B1;replace b_B2:=bX3 B2;simp only [pD];go_wp2;refine dC (F:=fun W=>bodyPost _ _ _ _ _ W) B2.out rfl ?_;intro w10 T;replace HX:=Hi (T.ext HX.out zo);replace HS:=Hi (HS.out.keep T.keep);replace HT:=Hi (HT.out.keep T.keep);replace B1:=Hi (T.rest _ _ zo B1.out);replace B2:=Hi (T.bx);replace G20:=Hi (G20.out.keep T.keep);replace G21:=Hi (G21.out.keep T.keep);have hs_w10:=nle T.size;have hr_w10:=nle T.size.symm;clear T;replace b_B1:=bX3 B1;replace b_B2:=bX3 B2;exact nXa (v:=IvV (x20,x21)) (by simp [results,Tryz.results47,go_sem,b_B2.1]) rfl ⟨(x20,x21),rfl,HX.out,G20.out,G21.out⟩
theorem kT(s t:RH)(a b:Rat)(w:World)(hs:aX w s a)(ht:aX w t b):ar 73 [s.v,t.v] w IvV (fun x w'=>aA w' x.1 (loV a b)∧aA w' x.2 (hiV a b)):=by
 have HX:=Hi (Ext.refl w);have HS:=Hi hs;have HT:=Hi ht;clear hs ht;unfold ar;go_enter Tryz.func73,Tryz.ntmps73;obtain ⟨sn,sa,sl,sc,sb,sm,sd⟩:=s;obtain ⟨tn,ta,tl,tc,tb,tm,td⟩:=t
 go_upto_region 1 with fail
 refine sO ?_;intro w1 hE B2 B3 B4 hz_w1 hr_w1;refine mV3 hE ?_ HX HS HT;clear HX HS HT;intro HX HS HT;have hs_w1:=hE.size;replace b_B2:=bX3 B2;replace b_B3:=bX3 B3;replace b_B4:=bX3 B4
 go_wp2_with fail
 refine cM (pK ⟨sn,sa,sl,sc,sb,sm,sd⟩ ⟨tn,ta,tl,tc,tb,tm,td⟩ a b _ HS.out HT.out) fun x8 w8 hE G8=>?_
 refine mV6 hE ?_ B2 B3 B4 HX HS HT;clear B2 B3 B4 HX HS HT;intro B2 B3 B4 HX HS HT;have hs_w8:=hE.size;replace b_B2:=bX3 B2;replace b_B3:=bX3 B3;replace b_B4:=bX3 B4;have HL:=Hi G8.out.1;have HH:=Hi G8.out.2;clear G8;go_wp2;refine dC (F:=fun W=>bodyPost _ _ _ _ _ W) B4.out rfl ?_;intro w10 T;replace HX:=Hi (T.ext HX.out zo);replace HS:=Hi (HS.out.keep T.keep);replace HT:=Hi (HT.out.keep T.keep);replace B2:=Hi (T.rest _ _ zo B2.out);replace B3:=Hi (T.rest _ _ zo B3.out);replace B4:=Hi (T.bx);replace HL:=Hi (HL.out.keep T.keep);replace HH:=Hi (HH.out.keep T.keep);have hs_w10:=nle T.size;have hr_w10:=nle T.size.symm;clear T;replace b_B2:=bX3 B2;replace b_B3:=bX3 B3;replace b_B4:=bX3 B4;exact nXa (v:=IvV x8) (by simp [results,Tryz.results73,go_sem,b_B4.1]) rfl ⟨x8,rfl,HX.out,HL.out,HH.out⟩
theorem sY(s t:RH)(a b:Rat)(T:Nat)(w:World)(hs:aX w s a)(ht:aX w t b)(za:Sz T a)(zb:Sz T b)(hT:T≤10000000):ar 20 [IvV (s,t)] w RH.v (fun x w'=>aA w' x ((a+b)*(((1:Int):Rat) / ((2:Int):Rat)))):=by
 have HX:=Hi (Ext.refl w);have HS:=Hi hs;have HT:=Hi ht;have ZA:=Hi (za.add zb);have ZH:Hid (Sz 2 (((1:Int):Rat) / ((2:Int):Rat))):=Hi ((Sz.int dZ).div (Sz.int dZ));clear hs ht za zb;unfold ar;go_enter Tryz.func20,Tryz.ntmps20;obtain ⟨sn,sa,sl,sc,sb,sm,sd⟩:=s;obtain ⟨tn,ta,tl,tc,tb,tm,td⟩:=t
 go_upto_region 1 with fail
 refine eX ?_;intro w1 hE B1 B2 hz_w1 hr_w1;refine mV3 hE ?_ HX HS HT;clear HX HS HT;intro HX HS HT;have hs_w1:=hE.size;replace b_B1:=bX3 B1;replace b_B2:=bX3 B2
 go_wp2_with fail
 refine cM (go ⟨sn,sa,sl,sc,sb,sm,sd⟩ ⟨tn,ta,tl,tc,tb,tm,td⟩ a b _ HS.out HT.out) fun x7 w7 hE G7=>?_
 refine mV5 hE ?_ B1 B2 HX HS HT;clear B1 B2 HX HS HT;intro B1 B2 HX HS HT;have hs_w7:=hE.size;replace b_B1:=bX3 B1;replace b_B2:=bX3 B2
 go_wp2_with fail
 refine cM (cZ 1 2 _ dZ dZ dZ dZ) fun x8 w8 hE G8=>?_
 refine mV6 hE ?_ G7 B1 B2 HX HS HT;clear G7 B1 B2 HX HS HT;intro G7 B1 B2 HX HS HT;have hs_w8:=hE.size;replace b_B1:=bX3 B1;replace b_B2:=bX3 B2
 go_wp2_with fail
 refine cM (kA x7 x8 _ _ _ (G7.out.raw ZA.out zo) (G8.out.raw ZH.out dZ)) fun x9 w9 hE G9=>?_
 refine mV7 hE ?_ G8 G7 B1 B2 HX HS HT;clear G8 G7 B1 B2 HX HS HT;intro G8 G7 B1 B2 HX HS HT;have hs_w9:=hE.size;replace b_B1:=bX3 B1;replace b_B2:=bX3 B2;go_wp2;refine aN (F:=fun W=>bodyPost _ _ _ _ _ W) B2.out rfl ?_;intro w10 T;replace HX:=Hi (T.ext HX.out zo);replace HS:=Hi (HS.out.keep T.keep);replace HT:=Hi (HT.out.keep T.keep);replace B1:=Hi (T.rest _ _ zo B1.out);replace B2:=Hi (T.bx);replace G7:=Hi (G7.out.keep T.keep);replace G8:=Hi (G8.out.keep T.keep);replace G9:=Hi (G9.out.keep T.keep);have hs_w10:=nle T.size;have hr_w10:=nle T.size.symm;clear T;replace b_B1:=bX3 B1;replace b_B2:=bX3 B2;exact nXa (v:=RH.v x9) (by simp [results,Tryz.results20,go_sem,b_B2.1]) rfl ⟨x9,rfl,HX.out,G9.out⟩
def gE(n:Int):Rat:=((n % 25-12:Int):Rat) / ((12:Int):Rat)
theorem wD(n:Int)(w:World)(h1:-9223372036854775808≤n)(h2:n≤9223372036854775807):ar 74 [.int .i64 n] w RH.v (fun x w'=>aA w' x (gE n)):=by
 have HX:=Hi (Ext.refl w);unfold ar;go_enter Tryz.func74,Tryz.ntmps74
 go_upto_region 1 with fail
 refine nmA ?_;intro w1 hE B2 hz_w1 hr_w1;replace HX:=hE.tr HX;have hs_w1:=hE.size;replace b_B2:=bX3 B2
 go_wp2_with fail
 refine cM (mZ n 25 _ h1 h2 dZ dZ) fun x4 w4 hE _=>?_
 refine mV2 hE ?_ B2 HX;clear B2 HX;intro B2 HX;have hs_w4:=hE.size;replace b_B2:=bX3 B2;have e1:=Int.emod_nonneg n (show (25:Int)≠0 by decide);have e2:=Int.emod_lt_of_pos n (show (0:Int)<25 by decide);obtain ⟨m,hm⟩:∃ m,m=n % 25:=⟨_,rfl⟩;have HC:Hid (gE n=((m-12:Int):Rat) / ((12:Int):Rat)):=Hi (by rw [hm];rfl);rw [←hm] at e1 e2 ⊢;clear hm
 go_wp2_with fail
 refine cM (cZ (m-12) 12 _ zo zo dZ dZ) fun x6 w6 hE G6=>?_
 refine mV2 hE ?_ B2 HX;clear B2 HX;intro B2 HX;have hs_w6:=hE.size;replace b_B2:=bX3 B2;go_wp2;refine aN (F:=fun W=>bodyPost _ _ _ _ _ W) B2.out rfl ?_;intro w10 T;replace HX:=Hi (T.ext HX.out zo);replace B2:=Hi (T.bx);replace G6:=Hi (G6.out.keep T.keep);have hs_w10:=nle T.size;have hr_w10:=nle T.size.symm;clear T;replace b_B2:=bX3 B2;exact nXa (v:=RH.v x6) (by simp [results,Tryz.results74,go_sem,b_B2.1]) rfl ⟨x6,rfl,HX.out,by rw [HC.out];exact G6.out⟩
theorem lj:∀ m:Nat,m<25→((((m:Int)-12:Int):Rat) / ((12:Int):Rat)).num.natAbs<W32∧((((m:Int)-12:Int):Rat) / ((12:Int):Rat)).den<W32∧-1≤(((m:Int)-12:Int):Rat) / ((12:Int):Rat)∧(((m:Int)-12:Int):Rat) / ((12:Int):Rat)≤1∧(((m:Int)-12:Int):Rat) / ((12:Int):Rat)*12=(((m:Int)-12:Int):Rat):=by decide +kernel
theorem rT(n:Int):∃ m:Nat,m<25∧gE n=(((m:Int)-12:Int):Rat) / ((12:Int):Rat):=by
 have e1:=Int.emod_nonneg n (show (25:Int)≠0 by decide);have e2:=Int.emod_lt_of_pos n (show (0:Int)<25 by decide);refine ⟨(n % 25).toNat,zo,?_⟩;unfold gE;rw [show (((n % 25).toNat:Nat):Int)=n % 25 by omega]
theorem nr(n:Int):Sz 1 (gE n):=by
 obtain ⟨m,hm,e⟩:=rT n;rw [e];have h:=lj m hm;exact ⟨by rw [Nat.pow_one];exact h.1,by rw [Nat.pow_one];exact h.2.1⟩
theorem Dl(m n:Int)(w:World)(h1:-9223372036854775808≤m)(h2:m≤9223372036854775807)(k1:-9223372036854775808≤n)(k2:n≤9223372036854775807):ar 35 [.int .i64 m,.int .i64 n] w IvV (fun x w'=>aA w' x.1 (loV (gE m) (gE n))∧aA w' x.2 (hiV (gE m) (gE n))):=by
 have HX:=Hi (Ext.refl w);have Z1:=Hi (nr m);have Z2:=Hi (nr n);unfold ar;go_enter Tryz.func35,Tryz.ntmps35
 go_upto_region 1 with fail
 refine nmA ?_;intro w1 hE B4 hz_w1 hr_w1;replace HX:=hE.tr HX;have hs_w1:=hE.size;replace b_B4:=bX3 B4
 go_wp2_with fail
 refine cM (wD m _ h1 h2) fun x6 w6 hE G6=>?_
 refine mV2 hE ?_ B4 HX;clear B4 HX;intro B4 HX;have hs_w6:=hE.size;replace b_B4:=bX3 B4
 go_wp2_with fail
 refine cM (wD n _ k1 k2) fun x8 w8 hE G8=>?_
 refine mV3 hE ?_ G6 B4 HX;clear G6 B4 HX;intro G6 B4 HX;have hs_w8:=hE.size;replace b_B4:=bX3 B4
 go_wp2_with fail
 refine cM (kT x6 x8 _ _ _ (G6.out.raw Z1.out dZ) (G8.out.raw Z2.out dZ)) fun x9 w9 hE G9=>?_
 refine mV4 hE ?_ G8 G6 B4 HX;clear G8 G6 B4 HX;intro G8 G6 B4 HX;have hs_w9:=hE.size;replace b_B4:=bX3 B4;have HL:=Hi G9.out.1;have HH:=Hi G9.out.2;clear G9;go_wp2;refine dC (F:=fun W=>bodyPost _ _ _ _ _ W) B4.out rfl ?_;intro w10 T;replace HX:=Hi (T.ext HX.out zo);replace B4:=Hi (T.bx);replace G6:=Hi (G6.out.keep T.keep);replace G8:=Hi (G8.out.keep T.keep);replace HL:=Hi (HL.out.keep T.keep);replace HH:=Hi (HH.out.keep T.keep);have hs_w10:=nle T.size;have hr_w10:=nle T.size.symm;clear T;replace b_B4:=bX3 B4;exact nXa (v:=IvV x9) (by simp [results,Tryz.results35,go_sem,b_B4.1]) rfl ⟨x9,rfl,HX.out,HL.out,HH.out⟩
end Go.Proofs.YtkcpmclnocmalaaGreat
