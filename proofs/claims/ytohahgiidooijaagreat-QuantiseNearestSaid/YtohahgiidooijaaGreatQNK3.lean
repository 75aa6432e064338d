/- Does-forms of the word formats' functions; ref21.power, Value. -/
import Derived.Test.YtohahgiidooijaaGreatQNK2
import Derived.Test.YtohahgiidooijaaGreatQNK1
import Derived.Test.YtohahgiidooijaaGreatQNM1
set_option linter.unusedVariables false
set_option maxHeartbeats 8000000
set_option maxRecDepth 8000
namespace Go.Proofs.YtohahgiidooijaaGreat
open Go.RowKit Go.Front Go.Num
attribute [local go_sem] XW.cell XW.frozen
theorem ff(x:Wd)(w:World):av 40 [x.v] w (fun _:Unit=>.bool x.valid) (fun _ _=>True) :=
 (bu x w).mono fun e w' ⟨h1,h2⟩=>⟨(),h1,h2,trivial⟩
theorem cZ(x:Wd)(w:World):av 42 [x.v] w (fun _:Unit=>.bool x.valid) (fun _ _=>True) :=
 (aT x w).mono fun e w' ⟨h1,h2⟩=>⟨(),h1,h2,trivial⟩
theorem bD(x:Wd)(v:Int)(w:World):av 105 [x.v,.int .i64 v] w (fun _:Unit=>.bool (x.fits v)) (fun _ _=>True) :=
 (fY x v w).mono fun e w' ⟨h1,h2⟩=>⟨(),h1,h2,trivial⟩
theorem c9(x:Wd)(v:Int)(w:World):av 109 [x.v,.int .i64 v] w (fun _:Unit=>.bool (x.fits v)) (fun _ _=>True) :=
 (gW x v w).mono fun e w' ⟨h1,h2⟩=>⟨(),h1,h2,trivial⟩
theorem gQ(n:Nat):((2:Rat)) ^ n=(((2 ^ n:Nat):Int):Rat):=by
 rw [Rat.intCast_natCast,Rat.natCast_pow];rfl
theorem jE{n:Nat}(h:n≤30):1≤2 ^ n∧2 ^ n≤1073741824 :=
 ⟨Nat.pos_of_ne_zero (by simp),nXn (n:=2) (by decide) h⟩
theorem f8{n:Nat}(h:n≤30):Sz 1 ((2:Rat) ^ n):=by
 rw [gQ];have:=jE h;exact Sz.int (by simp [W32];omega)
theorem jD(n:Nat):((2:Rat)) ^ n≠0:=by
 rw [gQ];intro h;have:=Rat.intCast_eq_zero_iff.1 h;have h2:0<2 ^ n:=nYb (by decide);omega
theorem eN(N:Nat)(w:World)(hN:N≤30):av 49 [.int .i64 (N:Nat)] w RH.v (fun x w'=>aQ w' x ((2:Rat) ^ N)):=by
 have HX:=Hi (Ext.refl w);unfold av;go_enter Tryz.func49,Tryz.ntmps49
 go_upto_region 1 with fail
 refine nmA ?_;intro w1 hE B2 hz_w1 hr_w1;replace HX:=hE.tr HX;have hs_w1:=hE.size;clear hE;replace b_B2:=bX3 B2
 go_wp2_with fail
 refine cM (ce 1 _ (by decide) (by decide)) fun x2 w2 hE G2=>?_
 refine mV2 hE ?_ B2 HX;clear B2 HX;intro B2 HX;have hs_w2:=hE.size;clear hE;replace b_B2:=bX3 B2
 go_upto_region 2 with fail
 refine nmA ?_;intro y3 hE B6 hz_y3 hr_y3;refine mV3 hE ?_ G2 B2 HX;clear G2 B2 HX;intro G2 B2 HX;have hs_y3:=hE.size;clear hE;replace b_B2:=bX3 B2;replace b_B6:=bX3 B6;obtain ⟨b6,hb6⟩:∃ b6,b6=w2.heap.size:=⟨_,rfl⟩;have hb6w:w.heap.size+1≤b6:=by omega
 rw [←hb6] at B6 ⊢;clear hb6 b_B6 b_B2;have G0:Hid (aQ y3 x2 ((2:Rat) ^ 0)):=Hi (by rw [Rat.pow_zero];exact G2.out);go_wp2
 go_loopg [4] N (fun g z wr=>∃ (i:Nat) (f:RH),i+g=N∧z=.int .i64 (i:Nat)∧Ext w wr∧wr.heap[w.heap.size]?=some (.cells #[.bool false,.slice none 0 0,.slice none 0 0] 30 (0,0))∧wr.heap[b6]?=some (.cells #[.bool f.neg,.slice f.a f.n f.c,.slice f.b f.m f.d] 30 (0,0))∧aQ wr f ((2:Rat) ^ i))
 case atStart=>exact ⟨0,x2,by omega,rfl,HX.out,B2.out,B6.out,G0.out⟩
 case round =>
  obtain ⟨i,f,hi,rfl,g1,g2,g4,g5⟩:=hrel;clear HX B2 B6 G2 G0;have HX:=Hi g1;have B2:=Hi g2;have B6:=Hi g4;have GF:=Hi g5;clear g1 g2 g4 g5;replace b_B2:=bX3 B2;replace b_B6:=bX3 B6;by_cases h0:gk=0
  case pos =>
   subst h0;obtain rfl:i=N:=by omega
   have hl:¬ (i:Int)<i:=by omega
   go_wp2;have hF:=((((Fin.start (L:=w.heap.size) HX.out (aj B2.out rfl)).set (by omega) (i:=0) (v:=.bool f.neg) rfl).set (by omega) (i:=1) (v:=.slice f.a f.n f.c) rfl).set (by omega) (i:=2) (v:=.slice f.b f.m f.d) rfl);exact bodyPost_ret (v:=f.v) (by simp [results,Tryz.results49,go_sem,ab B2.out]) rfl ⟨f,rfl,hF.ext,GF.out.keep hF.keep⟩
  obtain ⟨g0,rfl⟩:∃ g0,gk=g0+1:=⟨gk-1,by omega⟩;have hl:(i:Int)<N:=by omega
  have ZF:Hid (Sz 1 ((2:Rat) ^ i)):=Hi (f8 (by omega))
  go_wp2_with fail
  refine cM (gm f f _ _ _ (GF.out.raw ZF.out (by omega)) (GF.out.raw ZF.out (by omega))) fun x4 w4 hE G4=>?_
  refine mV4 hE ?_ HX B2 B6 GF;clear HX B2 B6 GF;intro HX B2 B6 GF;have hs_w4:=hE.size;clear hE;replace b_B2:=bX3 B2;replace b_B6:=bX3 B6
  go_upto_region 4 with fail
  refine eo B6.out rfl ?_;intro y5 T;replace HX:=Hi (T.ext HX.out (by omega));replace B2:=Hi (T.rest _ _ (by omega) B2.out);replace B6:=Hi (T.bx);replace GF:=Hi (GF.out.keep T.keep);replace G4:=Hi (G4.out.keep T.keep);have hs_y5:=nle T.size;have hr_y5:=nle T.size.symm;clear T;replace b_B2:=bX3 B2;replace b_B6:=bX3 B6;have GN:Hid (aQ y5 x4 ((2:Rat) ^ (i+1))):=Hi (by rw [Rat.pow_succ,show (2:Rat) ^ i*2=2 ^ i+2 ^ i by grind];exact G4.out);go_wp2
  go_roundg g0
  case measure=>omega
  case rel=>exact ⟨i+1,x4,by omega,by go_num,HX.out,B2.out,B6.out,GN.out⟩
def gL(f:Nat)(v:Int):Rat:=(v:Rat) / (2:Rat) ^ f
theorem gO(b r o:Int)(f:Nat)(v:Int)(w:World)(hv:(⟨b,f,r,o⟩:Wd).valid=true)(hf:f≤30)(h1:-2147483648≤v)(h2:v≤2147483647) :
  av 12 [(⟨b,f,r,o⟩:Wd).v,.int .i64 v] w RH.v (fun x w'=>aQ w' x (gL f v)):=by
 have HX:=Hi (Ext.refl w);have HV:=Hi hv;have ZF:Hid (Sz 1 ((2:Rat) ^ f)):=Hi (f8 hf);have ZV:Hid (Sz 1 (v:Rat)):=Hi (Sz.int (by simp [W32];omega));have HD:Hid (ng ((2:Rat) ^ f)=0):=Hi (kE (jD f));clear hv;unfold av;go_enter Tryz.func12,Tryz.ntmps12
 go_upto_region 1 with fail
 refine k9 ?_;intro w1 hE B1 B2 hz_w1 hr_w1;replace HX:=hE.tr HX;have hs_w1:=hE.size;clear hE;replace b_B1:=bX3 B1;replace b_B2:=bX3 B2
 go_wp2_with fail
 refine cM (cZ ⟨b,f,r,o⟩ _) fun x2 w2 hE _=>?_
 refine mV3 hE ?_ B1 B2 HX;clear B1 B2 HX;intro B1 B2 HX;have hs_w2:=hE.size;clear hE;replace b_B1:=bX3 B1;replace b_B2:=bX3 B2;rw [HV.out]
 go_upto_region 3 with fail
 refine ch [(10,8)] _ (by simp only [gI,iq,List.push_toArray,List.cons_append,List.nil_append];exact rfl) (by intro c a d v w h;cases d <;> exact h) 10 (fun opIx=>match opIx with
  | 1=>.spec RH default RH.v (fun s w'=>aQ w' s ((v:Rat)))
  | 4=>.spec RH default RH.v (fun s w'=>aQ w' s (((2:Rat) ^ f)))
  | 5=>.spec (RH) (default) (fun s=>DV s 0) (fun y w'=>aQ w' y (gL f v))
  | 9=>.alloc 30 #[.bool false,.slice none 0 0,.slice none 0 0]
  | _=>.quiet) (fun|5=>[1,4]|_=>[]) (by kernel_rfl) (by kernel_rfl) (by kernel_rfl) (fun w0 he0 hz0 hc0 hf0=>?_)
 replace he0:=Hi he0;simp only [pT];refine qQ ?_;refine wps he0.out rfl rfl (fun w1 hW hG=>?_) fun x41=>?_
 ·exact spc [.int .i64 v] Tryz.func18 (ce v _ (by omega) (by omega))
 refine qZ ?_;refine wps he0.out rfl rfl (fun w1 hW hG=>?_) fun x42=>?_
 ·exact spc [.int .i64 (f:Nat)] Tryz.func49 (eN f _ hf)
 refine qZ ?_;refine wps he0.out rfl rfl (fun w1 hW hG=>?_) fun x43=>?_
 ·have g41:=(hG 1 (by decide):aM _ _).get fun _ e g=>g.ext e
  have g42:=(hG 4 (by decide):aM _ _).get fun _ e g=>g.ext e
  exact spc [x41.v,x42.v] Tryz.func48 ((by have h:=jP x41 x42 _ _ _ (g41.raw ZV.out (by decide)) (g42.raw ZF.out (by decide));rw [HD.out] at h;exact h.mono fun e w' ⟨y,e1,e2,e3⟩=>⟨y,e1,e2,e3 (jD f)⟩))
 refine qZ ?_;refine bi rfl rfl (fun w=>by simp [execOp,go_sem,ptr]) (fun b44 hb44 hl44=>?_);refine qZ ?_;refine am ?_;intro w3 hI;have hE:=he0.out.trans hI.ext;have G41:=gT (hI.facts 1);have G42:=gT (hI.facts 4);have G43:=gT (hI.facts 5);have A44:Hid (w3.heap[b44]?=some (.cells #[.bool false,.slice none 0 0,.slice none 0 0] 30 (0,0))):=hI.facts 9;rw [hz0] at hl44;clear hI he0 hz0 hc0 hf0;refine mV3 hE ?_ B1 B2 HX;clear B1 B2 HX;intro B1 B2 HX;have hs_w3:=hE.size;clear hE;replace b_B1:=bX3 B1;replace b_B2:=bX3 B2;replace b_A44:=bX3 A44;simp only [pD,ptr]
 go_upto_region 4 with fail
 refine eo A44.out rfl ?_;intro w4 T;replace HX:=Hi (T.ext HX.out (by omega));replace B1:=Hi (T.rest _ _ (by omega) B1.out);replace B2:=Hi (T.rest _ _ (by omega) B2.out);replace G41:=Hi (G41.out.keep T.keep);replace G42:=Hi (G42.out.keep T.keep);replace A44:=Hi (T.bx);replace G43:=Hi (G43.out.keep T.keep);have hs_w4:=nle T.size;have hr_w4:=nle T.size.symm;clear T;replace b_B1:=bX3 B1;replace b_B2:=bX3 B2;replace b_A44:=bX3 A44;go_wp2;have hF:=((((Fin.start (L:=w.heap.size+1) HX.out (aj B2.out rfl)).set (by omega) (i:=0) (v:=.bool x43.neg) rfl).set (by omega) (i:=1) (v:=.slice x43.a x43.n x43.c) rfl).set (by omega) (i:=2) (v:=.slice x43.b x43.m x43.d) rfl);exact bodyPost_ret (v:=x43.v) (by simp [results,Tryz.results12,go_sem,ab B2.out]) rfl ⟨x43,rfl,hF.ext,G43.out.keep hF.keep⟩
theorem mA{a b:Rat}:0<fS a b↔b<a:=by
 unfold fS;split
 ·constructor <;> intro h
  ·omega
  ·grind
 ·split
  ·constructor <;> intro h
   ·omega
   ·grind
  ·exact ⟨fun _=>by grind,fun _=>by decide⟩
theorem jS{a b:Rat}:fS a b<0↔a<b:=by
 unfold fS;split
 ·rename_i h;exact ⟨fun _=>h,fun _=>by decide⟩
 ·split
  ·constructor <;> intro h
   ·omega
   ·grind
  ·constructor <;> intro h
   ·omega
   ·grind
theorem nK{a b:Rat}:fS a b≤0↔a≤b:=by
 rw [←Int.not_lt,mA,Rat.not_lt]
def cl(y:Rat):Bool:=decide (y≤((1099511627776:Int):Rat)∧((-1099511627776:Int):Rat)≤y)
def jl(y:Rat):Int:=if cl y then y.floor else 0
abbrev IB(v:Int)(b:Bool):Value:=.tuple #[.int .i64 v,.bool b]
theorem nt:Sz 2 (((1099511627776:Int)):Rat):=⟨by rw [Rat.num_intCast];decide,by rw [Rat.den_intCast];decide⟩
theorem m7:Sz 2 (((-1099511627776:Int)):Rat):=⟨by rw [Rat.num_intCast];decide,by rw [Rat.den_intCast];decide⟩
theorem l0{m:Int}(h1:-1099511627777≤m)(h2:m≤1099511627777):Sz 2 (m:Rat):=⟨by rw [Rat.num_intCast];simp [W32];omega,by rw [Rat.den_intCast];decide⟩
theorem dk(s:RH)(y:Rat)(w:World)(h:bX w s y):av 107 [s.v] w (fun _:Unit=>IB (jl y) (cl y)) (fun _ _=>True):=by
 obtain ⟨sn,sa,sl,sc,sb,sm,sd⟩:=s;have HX:=Hi (Ext.refl w);have HR:=Hi h;have ZB:=Hi nt;have ZN:=Hi m7;clear h;obtain ⟨c1,hc1⟩:∃ c,c=fS y ((1099511627776:Int):Rat):=⟨_,rfl⟩;obtain ⟨c2,hc2⟩:∃ c,c=fS y ((-1099511627776:Int):Rat):=⟨_,rfl⟩;have HC1:=Hi hc1;have HC2:=Hi hc2;clear hc1 hc2;unfold av;go_enter Tryz.func107,Tryz.ntmps107
 go_upto_region 1 with fail
 refine nmA ?_;intro w1 hE B1 hz_w1 hr_w1;refine mV2 hE ?_ HX HR;clear HX HR;intro HX HR;have hs_w1:=hE.size;clear hE;replace b_B1:=bX3 B1;by_cases h1:0<c1
 case pos =>
  have hO:cl y=false:=by unfold cl;exact decide_eq_false fun k=>by have h2:=h1;rw [HC1.out,mA] at h2;exact absurd k.1 (Rat.not_le.2 h2)
  have HO:Hid (IB (jl y) (cl y)=IB 0 false):=Hi (by unfold jl;rw [hO];rfl);have hd:decide (0<c1)=true:=decide_eq_true h1;clear hO;refine ag 10 (fun opIx=>match opIx with
   | 1=>.spec RH default RH.v (fun s w'=>aQ w' s (((1099511627776:Int):Rat)))
   | 2=>.spec Unit () (fun _=>.int .i64 c1) (fun _ _=>True)
   | _=>.quiet) (fun|2=>[1]|_=>[]) (by kernel_rfl) (by kernel_rfl) (fun w0 he0 hz0 hc0 hf0=>?_)
  replace he0:=Hi he0;simp only [pT]
  repeat (first|(refine wpq fun K h=>?_;go_big_quiet_op;refine h _ ?_;clear h K;(try simp only [hd]))|(refine bR rfl ?_;simp only [pS]))
  refine wps he0.out rfl rfl (fun w1 hW hG=>?_) fun x41=>?_
  ·exact spc [.int .i64 1099511627776] Tryz.func18 (ce 1099511627776 _ (by decide) (by decide))
  simp only [pS]
  repeat (first|(refine wpq fun K h=>?_;go_big_quiet_op;refine h _ ?_;clear h K;(try simp only [hd]))|(refine bR rfl ?_;simp only [pS]))
  refine wps he0.out rfl rfl (fun w1 hW hG=>?_) fun x42=>?_
  ·have g41:=(hG 1 (by decide):aM _ _).get fun _ e g=>g.ext e
   exact spc [RH.v ⟨sn,sa,sl,sc,sb,sm,sd⟩,x41.v] Tryz.func108 ((by rw [HC1.out];exact cj _ _ _ _ _ (HR.out.ext hW) (g41.raw ZB.out (by decide))))
  simp only [pS]
  repeat (first|(refine wpq fun K h=>?_;go_big_quiet_op;refine h _ ?_;clear h K;(try simp only [hd]))|(refine bR rfl ?_;simp only [pS]))
  refine am ?_;intro w2 hI;have hE:=he0.out.trans hI.ext;have G41:=gT (hI.facts 1);clear hI he0 hz0 hc0 hf0;refine mV3 hE ?_ B1 HX HR;clear B1 HX HR;intro B1 HX HR;have hs_w2:=hE.size;clear hE;replace b_B1:=bX3 B1;simp only [pD];go_wp2
  go_ret2
  exact ⟨(),by rw [HO.out];rfl,HX.out,trivial⟩
 have hd:decide (0<c1)=false:=decide_eq_false h1;refine ag 10 (fun opIx=>match opIx with
  | 1=>.spec RH default RH.v (fun s w'=>aQ w' s (((1099511627776:Int):Rat)))
  | 2=>.spec Unit () (fun _=>.int .i64 c1) (fun _ _=>True)
  | 6=>.spec RH default RH.v (fun s w'=>aQ w' s (((-1099511627776:Int):Rat)))
  | 7=>.spec Unit () (fun _=>.int .i64 c2) (fun _ _=>True)
  | _=>.quiet) (fun|2=>[1]|7=>[6]|_=>[]) (by kernel_rfl) (by kernel_rfl) (fun w0 he0 hz0 hc0 hf0=>?_)
 replace he0:=Hi he0;simp only [pT]
 repeat (refine wpq fun K h=>?_;go_big_quiet_op;refine h _ ?_;clear h K;(try simp only [hd]))
 refine wps he0.out rfl rfl (fun w1 hW hG=>?_) fun x41=>?_
 ·exact spc [.int .i64 1099511627776] Tryz.func18 (ce 1099511627776 _ (by decide) (by decide))
 simp only [pS]
 repeat (refine wpq fun K h=>?_;go_big_quiet_op;refine h _ ?_;clear h K;(try simp only [hd]))
 refine wps he0.out rfl rfl (fun w1 hW hG=>?_) fun x42=>?_
 ·have g41:=(hG 1 (by decide):aM _ _).get fun _ e g=>g.ext e
  exact spc [RH.v ⟨sn,sa,sl,sc,sb,sm,sd⟩,x41.v] Tryz.func108 ((by rw [HC1.out];exact cj _ _ _ _ _ (HR.out.ext hW) (g41.raw ZB.out (by decide))))
 simp only [pS]
 repeat (refine wpq fun K h=>?_;go_big_quiet_op;refine h _ ?_;clear h K;(try simp only [hd]))
 refine wps he0.out rfl rfl (fun w1 hW hG=>?_) fun x43=>?_
 ·exact spc [.int .i64 (-1099511627776)] Tryz.func18 (ce (-1099511627776) _ (by decide) (by decide))
 simp only [pS]
 repeat (refine wpq fun K h=>?_;go_big_quiet_op;refine h _ ?_;clear h K;(try simp only [hd]))
 refine wps he0.out rfl rfl (fun w1 hW hG=>?_) fun x44=>?_
 ·have g43:=(hG 6 (by decide):aM _ _).get fun _ e g=>g.ext e
  exact spc [RH.v ⟨sn,sa,sl,sc,sb,sm,sd⟩,x43.v] Tryz.func108 ((by rw [HC2.out];exact cj _ _ _ _ _ (HR.out.ext hW) (g43.raw ZN.out (by decide))))
 simp only [pS]
 repeat (refine wpq fun K h=>?_;go_big_quiet_op;refine h _ ?_;clear h K;(try simp only [hd]))
 refine am ?_;intro w2 hI;have hE:=he0.out.trans hI.ext;have G41:=gT (hI.facts 1);have G43:=gT (hI.facts 6);clear hI he0 hz0 hc0 hf0;refine mV3 hE ?_ B1 HX HR;clear B1 HX HR;intro B1 HX HR;have hs_w2:=hE.size;clear hE;replace b_B1:=bX3 B1;simp only [pD];clear G41;clear G43;by_cases h2:c2<0
 case pos =>
  have hO:cl y=false:=by unfold cl;exact decide_eq_false fun k=>by have h3:=h2;rw [HC2.out,jS] at h3;exact absurd k.2 (Rat.not_le.2 h3)
  have HO:Hid (IB (jl y) (cl y)=IB 0 false):=Hi (by unfold jl;rw [hO];rfl);clear hO;go_wp2
  go_ret2
  exact ⟨(),by rw [HO.out];rfl,HX.out,trivial⟩
 have hle:y≤((1099511627776:Int):Rat):=Rat.not_lt.1 fun k=>h1 (by rw [HC1.out,mA];exact k)
 have hge:((-1099511627776:Int):Rat)≤y:=Rat.not_lt.1 fun k=>h2 (by rw [HC2.out,jS];exact k)
 have hO:cl y=true:=by unfold cl;exact decide_eq_true ⟨hle,hge⟩
 have HO:Hid (IB (jl y) (cl y)=IB y.floor true):=Hi (by unfold jl;rw [hO];rfl);have hF1:-1099511627776≤y.floor:=Rat.le_floor_iff.2 hge;have hF2:y.floor≤1099511627776:=by
  have h3:=Rat.le_trans (Rat.floor_le y) hle;exact Rat.intCast_le_intCast.1 h3
 have HF1:=Hi hF1;have HF2:=Hi hF2;clear hle hge hO hF1 hF2;go_wp2;clear b_B1
 go_loopg [4,5] 2199023255552 (fun g lo hi wr=>∃ (l k:Int),k-l=(g:Int)∧lo=.int .i64 l∧hi=.int .i64 k∧-1099511627776≤l∧k≤1099511627776∧l≤y.floor∧y.floor≤k∧Ext w wr∧bX wr ⟨sn,sa,sl,sc,sb,sm,sd⟩ y∧wr.heap[w.heap.size]?=some (.cells #[.bool sn,.slice sa sl sc,.slice sb sm sd] 30 (0,0)))
 case atStart=>exact ⟨-1099511627776,1099511627776,by decide,rfl,rfl,by decide,by decide,HF1.out,HF2.out,HX.out,HR.out,B1.out⟩
 case round =>
  obtain ⟨l,k,hg,rfl,rfl,hl,hk,f1,f2,g1,g2,g3⟩:=hrel;clear HX HR B1 HF1 HF2;have HX:=Hi g1;have HR:Hid (bX wr ⟨sn,sa,sl,sc,sb,sm,sd⟩ y):=Hi g2;have B1:=Hi g3;have F1:=Hi f1;have F2:=Hi f2;clear g1 g2 g3 f1 f2;replace b_B1:=bX3 B1;by_cases hlt:l<k
  case neg =>
   have he:y.floor=l:=by have:=F1.out;have:=F2.out;omega
   have HE:=Hi he;clear he;go_wp2
   go_ret2
   exact ⟨(),by rw [HO.out,HE.out];rfl,HX.out,trivial⟩
  obtain ⟨m,hm⟩:∃ m,m=l+((gk:Int)+1) / 2:=⟨_,rfl⟩;have m1:l<m:=by omega
  have m2:m≤k:=by omega
  have Hg:=Hi hg;obtain ⟨c,hc⟩:∃ c,c=fS (m:Rat) y:=⟨_,rfl⟩;have HC:=Hi hc;have hcm:c≤0↔m≤y.floor:=by rw [hc,nK,Rat.le_floor_iff]
  have HM:=Hi hcm;have ZM:Hid (Sz 2 (m:Rat)):=Hi (l0 (by omega) (by omega));clear hc hcm
  go_upto_region 6 with fail
  rw [←hm];have Hm:=Hi hm;clear hm;have hcd:=Hi (Decidable.em (c≤0));refine wpG 5 (fun opIx=>match opIx with
   | 1=>.spec RH default RH.v (fun s w'=>aQ w' s ((m:Rat)))
   | 3=>.spec Unit () (fun _=>.int .i64 c) (fun _ _=>True)
   | _=>.quiet) (fun|3=>[1]|_=>[]) fun w0 he0 hz0 hc0 hf0=>?_
  refine wps he0.out rfl rfl (fun w1 hW hG=>?_) fun x41=>?_
  ·exact spc [.int .i64 m] Tryz.func18 (ce m _ (by omega) (by omega))
  refine qZ ?_;refine wps he0.out rfl rfl (fun w1 hW hG=>?_) fun x42=>?_
  ·have g41:=(hG 1 (by decide):aM _ _).get fun _ e g=>g.ext e
   exact spc [x41.v,RH.v ⟨sn,sa,sl,sc,sb,sm,sd⟩] Tryz.func108 ((by rw [HC.out];exact cj _ _ _ _ _ (g41.raw ZM.out (by decide)) (HR.out.ext hW)))
  refine qZ ?_;refine am ?_;intro y2 hI;have hE:=he0.out.trans hI.ext;have G41:=gT (hI.facts 1);clear hI he0 hz0 hc0 hf0;refine mV3 hE ?_ HX B1 HR;clear HX B1 HR;intro HX B1 HR;have hs_y2:=hE.size;clear hE;replace b_B1:=bX3 B1;simp only [pD];clear G41;by_cases hc0:c≤0
  case pos =>
   have hf:=HM.out.1 hc0;go_wp2
   go_roundg (k-m).toNat
   case measure=>have:=Hg.out;omega
   case rel=>exact ⟨m,k,by omega,rfl,rfl,by omega,hk,hf,F2.out,HX.out,HR.out,B1.out⟩
  case neg =>
   have hf:y.floor≤m-1:=Int.le_sub_one_of_lt (Int.not_le.1 fun k=>hc0 (HM.out.2 k));go_wp2
   go_roundg (m-1-l).toNat
   case measure=>have:=Hg.out;omega
   case rel=>exact ⟨l,m-1,by omega,rfl,by go_num,hl,by omega,F1.out,hf,HX.out,HR.out,B1.out⟩
theorem nF{a b c:Rat}(h:a≤b)(k:b<c):a<c:=by grind
def bU(r:Int)(y:Rat):Int:=if r=2 then (y+((1:Int):Rat) / ((2:Int):Rat)).floor else if r=3∧y<0 then -((-y).floor) else y.floor
def bM(b:Int)(f:Nat)(r o:Int)(q:Rat):Int×Bool :=
 if (⟨b,f,r,o⟩:Wd).valid=true∧(⟨b,f,r,o⟩:Wd).fits (bU r (q*(2:Rat) ^ f))=true then (bU r (q*(2:Rat) ^ f),true) else (0,false)
theorem kv{x:Wd}{v:Int}(h:x.fits v=true):-8388608≤v∧v≤8388607:=by
 unfold Wd.fits at h;have h1:=(Bool.and_eq_true_iff.1 h).1;have h2:=np.1 (Bool.and_eq_true_iff.1 h).2;have h3:=ka h1;omega
theorem ep{b:Int}{f:Nat}{r o:Int}{q:Rat}(h:¬ ((⟨b,f,r,o⟩:Wd).valid=true∧(⟨b,f,r,o⟩:Wd).fits (bU r (q*(2:Rat) ^ f))=true)):bM b f r o q=(0,false):=if_neg h
theorem iG{b:Int}{f:Nat}{r o:Int}{q:Rat}(h1:(⟨b,f,r,o⟩:Wd).valid=true)(h2:(⟨b,f,r,o⟩:Wd).fits (bU r (q*(2:Rat) ^ f))=true):bM b f r o q=(bU r (q*(2:Rat) ^ f),true):=if_pos ⟨h1,h2⟩
def gp(r:Int)(y:Rat):Rat:=if r=2 then y+((1:Int):Rat) / ((2:Int):Rat) else y
theorem ms{r:Int}{y:Rat}(h:cl (gp r y)=false):bU r y < -1000000000000∨1000000000000<bU r y:=by
 have h1:¬ (gp r y≤((1099511627776:Int):Rat)∧((-1099511627776:Int):Rat)≤gp r y):=of_decide_eq_false h;have hfl:gp r y<((-1099511627776:Int):Rat)∨((1099511627776:Int):Rat)<gp r y:=by
  rcases Decidable.em (gp r y≤((1099511627776:Int):Rat)) with h2|h2
  ·exact Or.inl (Rat.not_le.1 fun k=>h1 ⟨h2,k⟩)
  ·exact Or.inr (Rat.not_le.1 h2)
 by_cases h2:r=2
 ·subst h2;have e:bU 2 y=(gp 2 y).floor:=by simp [bU,gp]
  rw [e];rcases hfl with k|k
  ·left
   have:(gp 2 y).floor≤-1099511627776:=by
    have:=nF (Rat.floor_le (gp 2 y)) k;exact Int.le_of_lt (Rat.intCast_lt_intCast.1 this)
   omega
  ·right
   have:1099511627776≤(gp 2 y).floor:=Rat.le_floor_iff.2 (Rat.le_of_lt k);omega
 ·have e0:gp r y=y:=by simp [gp,h2]
  rw [e0] at hfl;by_cases h3:r=3∧y<0
  ·have e:bU r y=-((-y).floor):=by simp [bU,h3]
   rw [e]
   left
   have hy:y<((-1099511627776:Int):Rat):=by
    rcases hfl with k|k
    ·exact k
    ·exfalso;have h0:((0:Int):Rat)<((1099511627776:Int):Rat):=Rat.intCast_lt_intCast.2 (by decide);have:=h3.2;grind
   have:1099511627776≤(-y).floor:=Rat.le_floor_iff.2 (by
    have h5:((1099511627776:Int):Rat)=-((-1099511627776:Int):Rat):=by rw [←Rat.intCast_neg];rfl
    rw [h5];grind)
   omega
  ·have e:bU r y=y.floor:=by simp only [bU,if_neg h2,if_neg h3]
   rw [e];rcases hfl with k|k
   ·left
    have:y.floor≤-1099511627776:=by
     have:=nF (Rat.floor_le y) k;exact Int.le_of_lt (Rat.intCast_lt_intCast.1 this)
    omega
   ·right
    have:1099511627776≤y.floor:=Rat.le_floor_iff.2 (Rat.le_of_lt k);omega
theorem ft{b:Int}{f:Nat}{r o:Int}{q:Rat}(h:cl (gp r (q*(2:Rat) ^ f))=false):bM b f r o q=(0,false) :=
 ep fun k=>by have:=kv k.2;have:=ms h;omega
theorem gi{r:Int}{y:Rat}(h:r≠3):bU r y=(gp r y).floor:=by
 unfold bU gp;by_cases h2:r=2
 ·rw [if_pos h2,if_pos h2]
 ·rw [if_neg h2,if_neg h2,if_neg (fun k=>h k.1)]
theorem nj{y:Rat}(h:¬ y.floor<0):bU 3 y=y.floor:=by
 unfold bU;rw [if_neg (by decide),if_neg];rintro ⟨-,k⟩;have:((y.floor:Int):Rat)<((0:Int):Rat):=nF (Rat.floor_le y) k;exact h (Rat.intCast_lt_intCast.1 this)
theorem eZ{y:Rat}(h:y.floor<0):y<0:=by
 apply Rat.not_le.1;intro k;have:0≤y.floor:=Rat.le_floor_iff.2 k;omega
theorem nk{y:Rat}(h:y.floor<0)(he:((y.floor:Int):Rat)=y):bU 3 y=y.floor:=by
 unfold bU;rw [if_neg (by decide),if_pos ⟨rfl,eZ h⟩]
 conv=>lhs;rw [←he,←Rat.intCast_neg,Rat.floor_intCast]
 omega
theorem mt{y:Rat}(h:y.floor<0)(he:((y.floor:Int):Rat)<y):bU 3 y=y.floor+1:=by
 unfold bU;rw [if_neg (by decide),if_pos ⟨rfl,eZ h⟩];have h1:-(y.floor+1)≤(-y).floor:=Rat.le_floor_iff.2 (by
  rw [Rat.intCast_neg];have:=Rat.lt_floor_add_one y;grind)
 have h2:(-y).floor < -y.floor:=by
  rw [←Rat.intCast_lt_intCast,Rat.intCast_neg];have:=Rat.floor_le (-y);grind
 omega
theorem aU{b:Int}{f:Nat}{r o:Int}{q:Rat}{v:Int}{c:Bool}(h1:(⟨b,f,r,o⟩:Wd).valid=true)(h2:bU r (q*(2:Rat) ^ f)=v)(h3:(⟨b,f,r,o⟩:Wd).fits v=c) :
  bM b f r o q=if c=true then (v,true) else (0,false):=by
 subst h2;cases c
 ·exact ep fun k=>by rw [k.2] at h3;cases h3
 ·exact iG h1 h3
theorem jM(b r o:Int)(f S:Nat)(s:RH)(q:Rat)(w:World)(h:bX w s q)(hz:Sz S q)(hS:S≤1000)(hf:(⟨b,f,r,o⟩:Wd).valid=true→f≤30) :
  av 43 [(⟨b,f,r,o⟩:Wd).v,s.v] w (fun _:Unit=>IB (bM b f r o q).1 (bM b f r o q).2) (fun _ _=>True):=by
 obtain ⟨sn,sa,sl,sc,sb,sm,sd⟩:=s;have HX:=Hi (Ext.refl w);have HR:=Hi h;have HZ:=Hi hz;clear h hz;obtain ⟨p,hp⟩:∃ p,p=bM b f r o q:=⟨_,rfl⟩;have HP:=Hi hp;rw [←hp];clear hp;obtain ⟨ok,hok⟩:∃ v,v=(⟨b,f,r,o⟩:Wd).valid:=⟨_,rfl⟩;have HK:=Hi hok;clear hok;unfold av;go_enter Tryz.func43,Tryz.ntmps43
 go_upto_region 1 with fail
 refine k9 ?_;intro w1 hE B1 B2 hz_w1 hr_w1;refine mV2 hE ?_ HX HR;clear HX HR;intro HX HR;have hs_w1:=hE.size;clear hE;replace b_B1:=bX3 B1;replace b_B2:=bX3 B2
 go_wp2_with fail
 refine cM (cZ ⟨b,f,r,o⟩ _) fun x2 w2 hE _=>?_
 refine mV4 hE ?_ B1 B2 HX HR;clear B1 B2 HX HR;intro B1 B2 HX HR;have hs_w2:=hE.size;clear hE;replace b_B1:=bX3 B1;replace b_B2:=bX3 B2;rw [←HK.out];cases ok
 case false =>
  have HE:Hid (p=(0,false)):=Hi (by rw [HP.out];exact ep fun k=>by have:=HK.out;rw [k.1] at this;cases this);go_wp2
  go_ret2
  exact ⟨(),by rw [HE.out];rfl,HX.out,trivial⟩
 have Hf:Hid (f≤30):=Hi (hf HK.out.symm);clear hf;have ZF:Hid (Sz 1 ((2:Rat) ^ f)):=Hi (f8 Hf.out);have ZY:Hid (Sz 1001 (q*(2:Rat) ^ f)):=Hi ((HZ.out.mul ZF.out).mono (by omega));have Z1:Hid (Sz 1 ((1:Int):Rat)):=Hi (Sz.int (by decide));have Z2:Hid (Sz 1 ((2:Int):Rat)):=Hi (Sz.int (by decide));have ZH:Hid (Sz 2 (((1:Int):Rat) / ((2:Int):Rat))):=Hi (Z1.out.div Z2.out)
 go_upto_region 3 with fail
 refine wpG 6 (fun opIx=>match opIx with
  | 3=>.spec RH default RH.v (fun s w'=>aQ w' s (((2:Rat) ^ f)))
  | 4=>.spec RH default RH.v (fun s w'=>aQ w' s ((q*(2:Rat) ^ f)))
  | 5=>.alloc 30 #[.bool false,.slice none 0 0,.slice none 0 0]
  | _=>.quiet) (fun|4=>[3]|_=>[]) fun w0 he0 hz0 hc0 hf0=>?_
 refine wps he0.out rfl rfl (fun w1 hW hG=>?_) fun x41=>?_
 ·exact spc [.int .i64 (f:Nat)] Tryz.func49 (eN f _ Hf.out)
 refine qZ ?_;refine wps he0.out rfl rfl (fun w1 hW hG=>?_) fun x42=>?_
 ·have g41:=(hG 3 (by decide):aM _ _).get fun _ e g=>g.ext e
  exact spc [RH.v ⟨sn,sa,sl,sc,sb,sm,sd⟩,x41.v] Tryz.func56 (jN _ _ _ _ _ (HR.out.ext hW) (g41.raw ZF.out (by decide)))
 refine qZ ?_;refine bi rfl rfl (fun w=>by simp [execOp,go_sem,ptr]) (fun b43 hb43 hl43=>?_);refine qZ ?_;refine am ?_;intro w3 hI;have hE:=he0.out.trans hI.ext;have G41:=gT (hI.facts 3);have G42:=gT (hI.facts 4);have A43:Hid (w3.heap[b43]?=some (.cells #[.bool false,.slice none 0 0,.slice none 0 0] 30 (0,0))):=hI.facts 5;rw [hz0] at hl43;clear hI he0 hz0 hc0 hf0;refine mV4 hE ?_ B1 B2 HX HR;clear B1 B2 HX HR;intro B1 B2 HX HR;have hs_w3:=hE.size;clear hE;replace b_B1:=bX3 B1;replace b_B2:=bX3 B2;replace b_A43:=bX3 A43;simp only [pD,ptr];clear G41;clear HR
 go_upto_region 4 with fail
 refine eo A43.out rfl ?_;intro w4 T;replace HX:=Hi (T.ext HX.out (by omega));replace B1:=Hi (T.rest _ _ (by omega) B1.out);replace B2:=Hi (T.rest _ _ (by omega) B2.out);replace G42:=Hi (G42.out.keep T.keep);replace A43:=Hi (T.bx);have hs_w4:=nle T.size;have hr_w4:=nle T.size.symm;clear T;replace b_B1:=bX3 B1;replace b_B2:=bX3 B2;replace b_A43:=bX3 A43;obtain ⟨y,hy⟩:∃ y,y=q*(2:Rat) ^ f:=⟨_,rfl⟩;have HY:=Hi hy;rw [←hy] at G42 ZY;clear hy;obtain ⟨z,hz⟩:∃ z,z=gp r y:=⟨_,rfl⟩;have HPz:=Hi hz;clear hz;by_cases h2:r=2
 case pos =>
  subst h2;have HZq:Hid (z=y+((1:Int):Rat) / ((2:Int):Rat)):=Hi (by rw [HPz.out];exact if_pos rfl)
  go_upto_region 5 with fail
  refine wpG 3 (fun opIx=>match opIx with
   | 1=>.spec RH default RH.v (fun s w'=>aQ w' s (((1:Int):Rat) / ((2:Int):Rat)))
   | 2=>.spec RH default RH.v (fun s w'=>aQ w' s (y+((1:Int):Rat) / ((2:Int):Rat)))
   | _=>.quiet) (fun|2=>[1]|_=>[]) fun w0 he0 hz0 hc0 hf0=>?_
  refine wps he0.out rfl rfl (fun w1 hW hG=>?_) fun x44=>?_
  ·exact spc [.int .i64 1,.int .i64 2] Tryz.func32 (jc 1 2 _ (by decide) (by decide) (by decide) (by decide))
  refine qZ ?_;refine wps he0.out rfl rfl (fun w1 hW hG=>?_) fun x45=>?_
  ·have g44:=(hG 1 (by decide):aM _ _).get fun _ e g=>g.ext e
   exact spc [x42.v,x44.v] Tryz.func81 (gm x42 x44 _ _ _ ((G42.out.ext hW).raw ZY.out (by decide)) (g44.raw ZH.out (by decide)))
  refine qZ ?_;refine am ?_;intro w5 hI;have hE:=he0.out.trans hI.ext;have G44:=gT (hI.facts 1);have G45:=gT (hI.facts 2);clear hI he0 hz0 hc0 hf0;refine mV5 hE ?_ HX B1 B2 A43 G42;clear HX B1 B2 A43 G42;intro HX B1 B2 A43 G42;have hs_w5:=hE.size;clear hE;replace b_B1:=bX3 B1;replace b_B2:=bX3 B2;replace b_A43:=bX3 A43;simp only [pD]
  go_upto_region 6 with fail
  refine eo A43.out rfl ?_;intro w6 T;replace HX:=Hi (T.ext HX.out (by omega));replace B1:=Hi (T.rest _ _ (by omega) B1.out);replace B2:=Hi (T.rest _ _ (by omega) B2.out);replace G42:=Hi (G42.out.keep T.keep);replace A43:=Hi (T.bx);replace G44:=Hi (G44.out.keep T.keep);replace G45:=Hi (G45.out.keep T.keep);have hs_w6:=nle T.size;have hr_w6:=nle T.size.symm;clear T;replace b_B1:=bX3 B1;replace b_B2:=bX3 B2;replace b_A43:=bX3 A43
  go_wp2_with fail
  refine cM (dk x45 z _ (by rw [HZq.out];exact G45.out.raw (ZY.out.add ZH.out) (by decide))) fun x7 w7 hE _=>?_
  refine mV7 hE ?_ HX B1 B2 G42 A43 G44 G45;clear HX B1 B2 G42 A43 G44 G45;intro HX B1 B2 G42 A43 G44 G45;have hs_w7:=hE.size;clear hE;replace b_B1:=bX3 B1;replace b_B2:=bX3 B2;replace b_A43:=bX3 A43;obtain ⟨v,hv⟩:∃ v,v=jl z:=⟨_,rfl⟩;obtain ⟨k7,hk7⟩:∃ k,k=cl z:=⟨_,rfl⟩;have HK7:=Hi hk7;have HV7:Hid (k7=true→v=z.floor):=Hi (fun k=>by rw [hv];unfold jl;rw [←hk7,k];rfl);have HV0:Hid (k7=false→v=0):=Hi (fun k=>by rw [hv];unfold jl;rw [←hk7,k];rfl);rw [←hv,←hk7];clear hv hk7
  go_upto_region 7 with fail
  refine ag 14 (fun opIx=>match opIx with
   | _=>.quiet) (fun _=>[]) (by kernel_rfl) (by kernel_rfl) (fun w0 he0 hz0 hc0 hf0=>?_)
  replace he0:=Hi he0;simp only [pT]
  repeat (first|(refine wpq fun K h=>?_;go_big_quiet_op;refine h _ ?_;clear h K)|(refine bR rfl ?_;simp only [pS]))
  refine am ?_;intro w8 hI;have hE:=he0.out.trans hI.ext;clear hI he0 hz0 hc0 hf0;refine mV7 hE ?_ HX B1 B2 G42 A43 G44 G45;clear HX B1 B2 G42 A43 G44 G45;intro HX B1 B2 G42 A43 G44 G45;have hs_w8:=hE.size;clear hE;replace b_B1:=bX3 B1;replace b_B2:=bX3 B2;replace b_A43:=bX3 A43;simp only [pD];cases k7
  case false =>
   have HE:Hid (p=(0,false)):=Hi (by rw [HP.out];exact ft (by rw [←HY.out,←HPz.out];exact HK7.out.symm));go_wp2
   go_ret2
   exact ⟨(),by rw [HE.out];rfl,HX.out,trivial⟩
  case true =>
   have HVF:Hid (v=z.floor):=Hi (HV7.out rfl)
   go_wp2_with fail
   refine cM (c9 ⟨b,f,2,o⟩ v _) fun x9 w9 hE _=>?_
   refine mV7 hE ?_ HX B1 B2 G42 A43 G44 G45;clear HX B1 B2 G42 A43 G44 G45;intro HX B1 B2 G42 A43 G44 G45;have hs_w9:=hE.size;clear hE;replace b_B1:=bX3 B1;replace b_B2:=bX3 B2;replace b_A43:=bX3 A43;obtain ⟨c,hc⟩:∃ c,c=(⟨b,f,2,o⟩:Wd).fits (v):=⟨_,rfl⟩;have HE:Hid (p=if c=true then (v,true) else (0,false)):=Hi (by rw [HP.out];exact aU HK.out.symm (by rw [gi (by decide),←HY.out,←HPz.out];exact HVF.out.symm) hc.symm);rw [←hc];clear hc;cases c
   case false =>
    go_wp2
    go_ret2
    exact ⟨(),by rw [HE.out];rfl,HX.out,trivial⟩
   case true =>
    go_wp2
    go_ret2
    exact ⟨(),by rw [HE.out];rfl,HX.out,trivial⟩
 have HZq:Hid (z=y):=Hi (by rw [HPz.out];exact if_neg h2);have h2b:(r == 2)=false:=by rw [nXp];exact h2
 go_wp2_with fail
 refine cM (dk x42 z _ (by rw [HZq.out];exact G42.out.raw ZY.out (by decide))) fun x7 w7 hE _=>?_
 refine mV5 hE ?_ HX B1 B2 G42 A43;clear HX B1 B2 G42 A43;intro HX B1 B2 G42 A43;have hs_w7:=hE.size;clear hE;replace b_B1:=bX3 B1;replace b_B2:=bX3 B2;replace b_A43:=bX3 A43;obtain ⟨v,hv⟩:∃ v,v=jl z:=⟨_,rfl⟩;obtain ⟨k7,hk7⟩:∃ k,k=cl z:=⟨_,rfl⟩;have HK7:=Hi hk7;have HV7:Hid (k7=true→v=z.floor):=Hi (fun k=>by rw [hv];unfold jl;rw [←hk7,k];rfl);have HV0:Hid (k7=false→v=0):=Hi (fun k=>by rw [hv];unfold jl;rw [←hk7,k];rfl);rw [←hv,←hk7];clear hv hk7;by_cases h3:r=3
 case neg =>
  have h3b:(r == 3)=false:=by rw [nXp];exact h3
  go_upto_region 7 with fail
  refine ag 14 (fun opIx=>match opIx with
   | _=>.quiet) (fun _=>[]) (by kernel_rfl) (by kernel_rfl) (fun w0 he0 hz0 hc0 hf0=>?_)
  replace he0:=Hi he0;simp only [pT]
  repeat (first|(refine wpq fun K h=>?_;go_big_quiet_op;refine h _ ?_;clear h K;(try simp only [h3b]))|(refine bR rfl ?_;simp only [pS]))
  refine am ?_;intro w8 hI;have hE:=he0.out.trans hI.ext;clear hI he0 hz0 hc0 hf0;refine mV5 hE ?_ HX B1 B2 G42 A43;clear HX B1 B2 G42 A43;intro HX B1 B2 G42 A43;have hs_w8:=hE.size;clear hE;replace b_B1:=bX3 B1;replace b_B2:=bX3 B2;replace b_A43:=bX3 A43;simp only [pD];cases k7
  case false =>
   have HE:Hid (p=(0,false)):=Hi (by rw [HP.out];exact ft (by rw [←HY.out,←HPz.out];exact HK7.out.symm));go_wp2
   go_ret2
   exact ⟨(),by rw [HE.out];rfl,HX.out,trivial⟩
  case true =>
   have HVF:Hid (v=z.floor):=Hi (HV7.out rfl)
   go_wp2_with fail
   refine cM (c9 ⟨b,f,r,o⟩ v _) fun x9 w9 hE _=>?_
   refine mV5 hE ?_ HX B1 B2 G42 A43;clear HX B1 B2 G42 A43;intro HX B1 B2 G42 A43;have hs_w9:=hE.size;clear hE;replace b_B1:=bX3 B1;replace b_B2:=bX3 B2;replace b_A43:=bX3 A43;obtain ⟨c,hc⟩:∃ c,c=(⟨b,f,r,o⟩:Wd).fits (v):=⟨_,rfl⟩;have HE:Hid (p=if c=true then (v,true) else (0,false)):=Hi (by rw [HP.out];exact aU HK.out.symm (by rw [gi h3,←HY.out,←HPz.out];exact HVF.out.symm) hc.symm);rw [←hc];clear hc;cases c
   case false =>
    go_wp2
    go_ret2
    exact ⟨(),by rw [HE.out];rfl,HX.out,trivial⟩
   case true =>
    go_wp2
    go_ret2
    exact ⟨(),by rw [HE.out];rfl,HX.out,trivial⟩
 subst h3;cases k7
 case false =>
  have hv0:=HV0.out rfl;subst hv0
  go_upto_region 7 with fail
  refine ag 14 (fun opIx=>match opIx with
   | _=>.quiet) (fun _=>[]) (by kernel_rfl) (by kernel_rfl) (fun w0 he0 hz0 hc0 hf0=>?_)
  replace he0:=Hi he0;simp only [pT]
  repeat (first|(refine wpq fun K h=>?_;go_big_quiet_op;refine h _ ?_;clear h K)|(refine bR rfl ?_;simp only [pS]))
  refine am ?_;intro w8 hI;have hE:=he0.out.trans hI.ext;clear hI he0 hz0 hc0 hf0;refine mV5 hE ?_ HX B1 B2 G42 A43;clear HX B1 B2 G42 A43;intro HX B1 B2 G42 A43;have hs_w8:=hE.size;clear hE;replace b_B1:=bX3 B1;replace b_B2:=bX3 B2;replace b_A43:=bX3 A43;simp only [pD];have HE:Hid (p=(0,false)):=Hi (by rw [HP.out];exact ft (by rw [←HY.out,←HPz.out];exact HK7.out.symm));go_wp2
  go_ret2
  exact ⟨(),by rw [HE.out];rfl,HX.out,trivial⟩
 have HVF:Hid (v=z.floor):=Hi (HV7.out rfl);by_cases hv:v<0
 case neg =>
  have hd:decide (v<0)=false:=decide_eq_false hv
  go_upto_region 7 with fail
  refine ag 14 (fun opIx=>match opIx with
   | _=>.quiet) (fun _=>[]) (by kernel_rfl) (by kernel_rfl) (fun w0 he0 hz0 hc0 hf0=>?_)
  replace he0:=Hi he0;simp only [pT]
  repeat (first|(refine wpq fun K h=>?_;go_big_quiet_op;refine h _ ?_;clear h K;(try simp only [hd]))|(refine bR rfl ?_;simp only [pS]))
  refine am ?_;intro w8 hI;have hE:=he0.out.trans hI.ext;clear hI he0 hz0 hc0 hf0;refine mV5 hE ?_ HX B1 B2 G42 A43;clear HX B1 B2 G42 A43;intro HX B1 B2 G42 A43;have hs_w8:=hE.size;clear hE;replace b_B1:=bX3 B1;replace b_B2:=bX3 B2;replace b_A43:=bX3 A43;simp only [pD]
  go_wp2_with fail
  refine cM (c9 ⟨b,f,3,o⟩ v _) fun x9 w9 hE _=>?_
  refine mV5 hE ?_ HX B1 B2 G42 A43;clear HX B1 B2 G42 A43;intro HX B1 B2 G42 A43;have hs_w9:=hE.size;clear hE;replace b_B1:=bX3 B1;replace b_B2:=bX3 B2;replace b_A43:=bX3 A43;obtain ⟨c,hc⟩:∃ c,c=(⟨b,f,3,o⟩:Wd).fits (v):=⟨_,rfl⟩;have HE:Hid (p=if c=true then (v,true) else (0,false)):=Hi (by rw [HP.out];exact aU HK.out.symm (by rw [←HY.out,nj (by rw [←HZq.out,←HVF.out];omega),←HZq.out];exact HVF.out.symm) hc.symm);rw [←hc];clear hc;cases c
  case false =>
   go_wp2
   go_ret2
   exact ⟨(),by rw [HE.out];rfl,HX.out,trivial⟩
  case true =>
   go_wp2
   go_ret2
   exact ⟨(),by rw [HE.out];rfl,HX.out,trivial⟩
 have hd:decide (v<0)=true:=decide_eq_true hv;have hvb:-1099511627776≤v:=by
  rw [HVF.out];have h1:cl z=true:=HK7.out.symm;unfold cl at h1;exact Rat.le_floor_iff.2 (of_decide_eq_true h1).2
 have ZV:Hid (Sz 2 (v:Rat)):=Hi (l0 (by omega) (by omega));obtain ⟨e,he⟩:∃ e,e=fS (v:Rat) y:=⟨_,rfl⟩;have HCE:=Hi he;clear he;have HVY:Hid (v=y.floor):=Hi (by rw [←HZq.out];exact HVF.out)
 go_upto_region 7 with fail
 refine ag 14 (fun opIx=>match opIx with
  | 9=>.spec RH default RH.v (fun s w'=>aQ w' s ((v:Rat)))
  | 11=>.spec Unit () (fun _=>.int .i64 e) (fun _ _=>True)
  | _=>.quiet) (fun|11=>[9]|_=>[]) (by kernel_rfl) (by kernel_rfl) (fun w0 he0 hz0 hc0 hf0=>?_)
 replace he0:=Hi he0;simp only [pT]
 repeat (refine wpq fun K h=>?_;go_big_quiet_op;refine h _ ?_;clear h K;(try simp only [hd]))
 refine wps he0.out rfl rfl (fun w1 hW hG=>?_) fun x46=>?_
 ·exact spc [.int .i64 v] Tryz.func18 (ce v _ (by omega) (by omega))
 simp only [pS]
 repeat (refine wpq fun K h=>?_;go_big_quiet_op;refine h _ ?_;clear h K;(try simp only [hd]))
 refine wps he0.out rfl rfl (fun w1 hW hG=>?_) fun x47=>?_
 ·have g46:=(hG 9 (by decide):aM _ _).get fun _ e g=>g.ext e
  exact spc [x46.v,x42.v] Tryz.func108 ((by rw [HCE.out];exact cj x46 x42 _ _ _ (g46.raw ZV.out (by decide)) ((G42.out.ext hW).raw ZY.out (by decide))))
 simp only [pS]
 repeat (refine wpq fun K h=>?_;go_big_quiet_op;refine h _ ?_;clear h K;(try simp only [hd]))
 refine am ?_;intro w8 hI;have hE:=he0.out.trans hI.ext;have G46:=gT (hI.facts 9);clear hI he0 hz0 hc0 hf0;refine mV5 hE ?_ HX B1 B2 A43 G42;clear HX B1 B2 A43 G42;intro HX B1 B2 A43 G42;have hs_w8:=hE.size;clear hE;replace b_B1:=bX3 B1;replace b_B2:=bX3 B2;replace b_A43:=bX3 A43;simp only [pD];clear G46;by_cases he:e<0
 case pos =>
  have HR3:Hid (bU 3 y=v+1):=Hi (by rw [mt (by rw [←HVY.out];exact hv) (by rw [←HVY.out,←jS,←HCE.out];exact he),←HVY.out])
  go_wp2_with fail
  refine cM (c9 ⟨b,f,3,o⟩ (v+1) _) fun x9 w9 hE _=>?_
  refine mV5 hE ?_ HX B1 B2 A43 G42;clear HX B1 B2 A43 G42;intro HX B1 B2 A43 G42;have hs_w9:=hE.size;clear hE;replace b_B1:=bX3 B1;replace b_B2:=bX3 B2;replace b_A43:=bX3 A43;obtain ⟨c,hc⟩:∃ c,c=(⟨b,f,3,o⟩:Wd).fits (v+1):=⟨_,rfl⟩;have HE:Hid (p=if c=true then (v+1,true) else (0,false)):=Hi (by rw [HP.out];exact aU HK.out.symm (by rw [←HY.out];exact HR3.out) hc.symm);rw [←hc];clear hc;cases c
  case false =>
   go_wp2
   go_ret2
   exact ⟨(),by rw [HE.out];rfl,HX.out,trivial⟩
  case true =>
   go_wp2
   go_ret2
   exact ⟨(),by rw [HE.out];rfl,HX.out,trivial⟩
 have HR3:Hid (bU 3 y=v):=Hi (by
  have h1:¬ ((v:Int):Rat)<y:=by rw [←jS,←HCE.out];exact he
  have h2:((v:Int):Rat)≤y:=by rw [HVY.out];exact Rat.floor_le y
  rw [nk (by rw [←HVY.out];exact hv) (by rw [←HVY.out];grind),←HVY.out])
 go_wp2_with fail
 refine cM (c9 ⟨b,f,3,o⟩ (v) _) fun x9 w9 hE _=>?_
 refine mV5 hE ?_ HX B1 B2 A43 G42;clear HX B1 B2 A43 G42;intro HX B1 B2 A43 G42;have hs_w9:=hE.size;clear hE;replace b_B1:=bX3 B1;replace b_B2:=bX3 B2;replace b_A43:=bX3 A43;obtain ⟨c,hc⟩:∃ c,c=(⟨b,f,3,o⟩:Wd).fits (v):=⟨_,rfl⟩;have HE:Hid (p=if c=true then (v,true) else (0,false)):=Hi (by rw [HP.out];exact aU HK.out.symm (by rw [←HY.out];exact HR3.out) hc.symm);rw [←hc];clear hc;cases c
 case false =>
  go_wp2
  go_ret2
  exact ⟨(),by rw [HE.out];rfl,HX.out,trivial⟩
 case true =>
  go_wp2
  go_ret2
  exact ⟨(),by rw [HE.out];rfl,HX.out,trivial⟩
end Go.Proofs.YtohahgiidooijaaGreat
