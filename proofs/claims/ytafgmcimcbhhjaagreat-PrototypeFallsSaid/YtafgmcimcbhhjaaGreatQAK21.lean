import Derived.Test.YtafgmcimcbhhjaaGreatQAK20
import Derived.Deep.DeepCutAuto
set_option linter.unusedVariables false
set_option maxHeartbeats 16000000
set_option maxRecDepth 8000
namespace Go.Proofs.YtafgmcimcbhhjaaGreat
open Go.RowKit Go.Front Go.Num Stab
attribute [local go_sem] XW.cell XW.frozen
structure IvS (w:World) (s:SH) (rs:List RH):Prop where
 len:rs.length=s.n*2
 le:s.n≤s.c
 max:s.c≤9223372036854775807
 at':s.n=0∨∃ b off,s.a=some ⟨b,off,none⟩∧∀ k,k<s.n*2→RAt w b (off+k*3) (rs.getD k default)
theorem IvS.ext{w w':World}{s:SH}{rs:List RH}(h:IvS w s rs)(he:Ext w w'):IvS w' s rs :=
 ⟨h.len,h.le,h.max,h.at'.imp id fun ⟨b,off,h1,h2⟩=>⟨b,off,h1,fun k hk=>(h2 k hk).ext he⟩⟩
instance {w w':World} {s:SH} {rs:List RH}:Go.Front.Mv w w' (IvS w s rs) (IvS w' s rs):=⟨fun e h=>IvS.ext h e⟩

theorem IvS.nil(w:World):IvS w ⟨none,0,0⟩ []:=⟨rfl,nXe _,dZ,Or.inl rfl⟩
def Ad(w:World)(s:SH)(qs:List Rat):Prop:=∃ rs,IvS w s rs∧eU aP w rs qs
def ku(w:World)(s:SH)(qs:List Rat):Prop:=∃ rs,IvS w s rs∧eU aB w rs qs
theorem ku.ext{w w':World}{s:SH}{qs:List Rat}(h:ku w s qs)(he:Ext w w'):ku w' s qs:=let ⟨rs,h1,h2⟩:=h;⟨rs,h1.ext he,h2.can_ext he⟩
instance {w w':World} {s:SH} {qs:List Rat}:Go.Front.Mv w w' (ku w s qs) (ku w' s qs):=⟨fun e h=>ku.ext h e⟩

theorem Ad.len{w:World}{s:SH}{qs:List Rat}(h:Ad w s qs):qs.length=s.n*2:=let ⟨_,h1,h2⟩:=h;h2.1.symm.trans h1.len
theorem ku.len{w:World}{s:SH}{qs:List Rat}(h:ku w s qs):qs.length=s.n*2:=let ⟨_,h1,h2⟩:=h;h2.1.symm.trans h1.len
theorem gy.can{w:World}{D:Nat→Prop}{s:SH}{n:Nat}{qs:List Rat}(h:gy w D s.v n qs):s.n=n∧ku w s qs:=by
 obtain ⟨rs,h1,h2⟩:=h;rcases h1 with ⟨e,rfl,rfl⟩|⟨L,cap,re,e,h3,h4,h5,h6,h7,h8⟩
 ·obtain ⟨a,m,c⟩:=s;simp only [SH.v,Value.slice.injEq] at e;obtain ⟨rfl,rfl,rfl⟩:=e;exact ⟨rfl,[],IvS.nil _,h2⟩
 ·obtain ⟨a,m,c⟩:=s;simp only [SH.v,Value.slice.injEq] at e;obtain ⟨rfl,rfl,rfl⟩:=e;exact ⟨rfl,rs,⟨h5,h6,h7,Or.inr ⟨L,0,rfl,fun k hk=>by rw [Nat.zero_add];exact h4.at (by rw [h5];exact hk)⟩⟩,h2⟩
def IAt(w:World)(b o:Nat)(r t:RH):Prop:=w.cell? ⟨b,o,none⟩=some (.bool r.neg)∧w.cell? ⟨b,o+1,none⟩=some (.slice r.a r.n r.c)∧w.cell? ⟨b,o+2,none⟩=some (.slice r.b r.m r.d) ∧
 w.cell? ⟨b,o+3,none⟩=some (.bool t.neg)∧w.cell? ⟨b,o+4,none⟩=some (.slice t.a t.n t.c)∧w.cell? ⟨b,o+5,none⟩=some (.slice t.b t.m t.d)
theorem Ad.at{w:World}{ao:Option Addr}{n c:Nat}{qs:List Rat}(h:Ad w ⟨ao,n,c⟩ qs){k:Nat}(hk:k<n) :
  ∃ b off r t,ao=some ⟨b,off,none⟩∧b<w.heap.size∧IAt w b (off+k*6) r t∧aP w r (qs.getD (2*k) 0)∧aP w t (qs.getD (2*k+1) 0):=by
 have hl:=h.len;obtain ⟨rs,h1,h2⟩:=h;rcases h1.at' with h0|⟨b,off,h3,h4⟩
 ·simp only at h0;omega
 ·simp only at h3 h4 hl;have g1:=h4 (2*k) zo;have g2:=h4 (2*k+1) zo;rw [show off+2*k*3=off+k*6 by omega] at g1;rw [show off+(2*k+1)*3=off+k*6+3 by omega] at g2;exact ⟨b,off,_,_,h3,nXq _ _ g1.1,⟨g1.1,g1.2.1,g1.2.2,g2.1,g2.2.1,g2.2.2⟩,h2.2 (2*k) zo,h2.2 (2*k+1) zo⟩
theorem ku.at{w:World}{ao:Option Addr}{n c:Nat}{qs:List Rat}(h:ku w ⟨ao,n,c⟩ qs){k:Nat}(hk:k<n) :
  ∃ b off r t,ao=some ⟨b,off,none⟩∧b<w.heap.size∧IAt w b (off+k*6) r t∧aB w r (qs.getD (2*k) 0)∧aB w t (qs.getD (2*k+1) 0):=by
 have hl:=h.len;obtain ⟨rs,h1,h2⟩:=h;rcases h1.at' with h0|⟨b,off,h3,h4⟩
 ·simp only at h0;omega
 ·simp only at h3 h4 hl;have g1:=h4 (2*k) zo;have g2:=h4 (2*k+1) zo;rw [show off+2*k*3=off+k*6 by omega] at g1;rw [show off+(2*k+1)*3=off+k*6+3 by omega] at g2;exact ⟨b,off,_,_,h3,nXq _ _ g1.1,⟨g1.1,g1.2.1,g1.2.2,g2.1,g2.2.1,g2.2.2⟩,h2.2 (2*k) zo,h2.2 (2*k+1) zo⟩
theorem gy.block{w:World}{N:Nat}{x y:RH}{a b:Rat}{D:Nat→Prop}(h:w.heap[N]?=some (.cells #[.bool x.neg,.slice x.a x.n x.c,.slice x.b x.m x.d,.bool y.neg,.slice y.a y.n y.c,.slice y.b y.m y.d] 38 (0,0)))(hx:aB w x a)(hy:aB w y b)(hD:D N):gy w D (.slice (some ⟨N,0,none⟩) 1 1) 1 [a,b]:=by
 have hb:IBk w N [x,y] #[]:=by
  unfold IBk;rw [h];rfl
 refine ⟨[x,y],Or.inr ⟨N,1,#[],rfl,hD,hb,rfl,nXe _,dZ,rfl,rfl⟩,rfl,fun k hk=>?_⟩;have hk:k<2:=hk;have:k=0∨k=1:=by omega
 rcases this with rfl|rfl
 ·exact hx
 ·exact hy
theorem fE.shp{w:World}{D:Nat→Prop}{v:Value}{n:Nat}{rs:List RH}(h:fE w D v n rs):∃ a c,v=.slice a n c∧n≤c:=by
 rcases h with ⟨rfl,-,rfl⟩|⟨L,cap,re,rfl,-,-,-,h,-⟩
 ·exact ⟨none,0,rfl,nXe _⟩
 ·exact ⟨_,_,rfl,h⟩
theorem mo(T ty:TypeId)(hT:Tryz.prog.underlying T=some (.slice 38))(w:World)(D:Nat→Prop)(v:Value)(n:Nat)(rs:List RH)(x:SH)(ns:List RH)(hown:fE w D v n rs)(hx:IvS w x ns)(hl:n≤536870912)(hlm:x.n≤536870912)(hD:∀ k,w.heap.size≤k→D k) :
  ∃ s' w',(Builtin.append_ #[T,T] ty #[v,x.v]).run Tryz.prog w=.ok (SH.v s') w'∧fE w' D s'.v (n+x.n) (rs++ns)∧aY D w w'∧gB w w':=by
 obtain ⟨xa,m,c⟩:=x;have hm:=hx.len;simp only at hm hlm;rcases Nat.eq_zero_or_pos m with h0|h0
 ·subst h0;obtain ⟨i0,hi0,hz0,hz1,hz2⟩:=info_parts D9;obtain ⟨a,cc,rfl,hac⟩:=hown.shp;have hns:ns=[]:=nXj.1 zo;subst hns;refine ⟨⟨a,n,cc⟩,w,gL hT hi0 a xa n cc c hac,?_,aY.refl _ _,gB.refl _⟩;rw [List.append_nil];exact hown
 ·rcases hx.at' with h1|⟨b,off,h1,h2⟩
  ·simp only at h1;omega
  ·simp only at h1 h2;subst h1;obtain ⟨L,cap,w',hr,g1,g2,g3⟩:=js T ty hT w D v n rs b off m c ns hown hm h0 h2 hl hlm hD;exact ⟨⟨some ⟨L,0,none⟩,n+m,cap⟩,w',hr,g1,g2,g3⟩
theorem gi{w:World}{ops:Array Oper}{rest:List Oper}{o:Oper}{a:Act}{Q:Exit→Act→World→Prop}(hgd:o.guard=none)(s x:Operand)(T:TypeId)(hT:Tryz.prog.underlying T=some (.slice 38))
 (ho:o.op=.call { callee:=.builtin .append,args:=#[s,x],argTypes:=#[T,T] })(D:Nat→Prop)(v:Value)(n:Nat)(qs:List Rat)(y:SH)(ps:List Rat)(hs:a.eval s=v)(hown:gy w D v n qs)
 (hx:a.eval x=y.v)(hy:ku w y ps)(hl:n≤536870912)(hlm:y.n≤536870912)(hD:∀ k,w.heap.size≤k→D k)
 (h:∀ (s':SH) w',gy w' D s'.v (n+y.n) (qs++ps)→aY D w w'→gB w w'→wpList Tryz.prog ops Q rest (a.put o.dst s'.v) w'):wpList Tryz.prog ops Q (o :: rest) a w:=by
 obtain ⟨rs,h1,h2⟩:=hown;obtain ⟨ns,h3,h4⟩:=hy;refine wpList_plain hgd fun K hK=>?_
 obtain ⟨s',w',hrun,g1,g2,g3⟩:=mo T o.type hT w D v n rs y ns h1 h3 hl hlm hD;unfold Oper.wp;simp [execOp,ho,resolve,invoke,builtin,hs,hx,hrun,Result.andThen];exact hK _ _ (h s' w' ⟨_,g1,(h2.app h4).keep g3⟩ g2 g3)
open Sg
def SpP(q:List Rat)(wd:Rat)(D T m Y E d:Nat):Prop :=
 ∀ (e:Nat),d+e=E→∀ (v:SH) (s t u:RH) (lo hi:Rat) (z:Int) (w:World),ChR w v (i6 q)→aB w s lo→aB w t hi→aB w u wd→Dy D (W32 ^ T) e lo→Dy D (W32 ^ T) e hi→lo≤hi→(hi-lo)*((W32 ^ Y:Nat):Rat)≤((2 ^ d:Nat):Rat)→z=(v6 q lo:Int)-(v6 q hi:Int) →
  ak 129 [v.v,s.v,t.v,u.v,.int .i64 z] w SH.v (fun x w'=>gy w' (w.heap.size≤·) x.v x.n (spV q wd d lo hi))
structure SpZ (q:List Rat) (wd:Rat) (T m E:Nat):Prop where
 e:E≤32*m
 t:3*T+m+1≤1000000
 wz:Sz 1000 wd
 mz:∀ x:Rat,Sz (3*T+m+1) x→Mz (i6 q) x
def SpE(q:List Rat)(wd:Rat)(d:Nat)(lo hi:Rat)(l:List Rat):Prop:=Unit→spV q wd d lo hi=l
theorem xu{a b:Rat}:dF a b≤0↔a≤b:=by
 unfold dF;by_cases h:a<b
 ·rw [if_pos h];exact ⟨fun _=>Rat.le_of_lt h,fun _=>by decide⟩
 ·rw [if_neg h];by_cases h2:a=b
  ·rw [if_pos h2];exact ⟨fun _=>by rw [h2];exact Rat.le_refl,fun _=>by decide⟩
  ·rw [if_neg h2];exact ⟨fun k=>absurd k dZ,fun k=>by exfalso;grind⟩
theorem zz:Sz 1 (((1:Int):Rat) / ((2:Int):Rat)):=⟨by decide +kernel,by decide +kernel⟩
theorem xA{q:List Rat}(h:tz q≠[]):0<(i6 q).length∧(i6 q).getD 0 []=aZ q:=by
 obtain ⟨l,e⟩:=lz h;rw [ov,e];refine ⟨by simp,?_⟩;show aZ (av q)=aZ q;exact jg q
theorem ui(q:List Rat)(x:Rat):Sg.sg (evV (aZ q) x)=0↔evV q x=0:=by
 rw [←lg,gD,lg];exact lj
theorem mE{q:List Rat}{wd:Rat}{D T m Y E:Nat}(G:Sp6 q wd D T m Y)(Z:SpZ q wd T m E)(d:Nat)(ih:∀ d',d=d'+1→SpP q wd D T m Y E d'):SpP q wd D T m Y E d:=by
 intro e hde v s t u lo hi z w hc hs ht hu ha hb hlh hwd hz;have HX:=Hi (Ext.refl w);have HC:=Hi hc;have HS:=Hi hs;have HT:=Hi ht;have HU:=Hi hu;have DA:=Hi ha;have DB:=Hi hb;have HLH:=Hi hlh;have HWD:=Hi hwd;have HZ:=Hi hz;have IH:=Hi ih;have HG:=Hi G;have HZZ:=Hi Z;have hE:=Z.e;have hT2:=Z.t;have ZA:=Hi (ha.sz G.dp G.dl (show e≤32*m by omega));have ZB:=Hi (hb.sz G.dp G.dl (show e≤32*m by omega));have ZW:=Hi Z.wz;have MA:=Hi (Z.mz lo ZA.out);have hvm:=jQ G.ne G.cp hlh;have hv1:=Be q lo;have hv2:=MA.out.ln;have hzr:0≤z∧z≤1000:=zo;obtain ⟨hl0,hu0⟩:=xA G.ne;have HL0:=Hi hl0;have HU0:=Hi hu0;have HM0:=Hi (by have h:=MA.out.mm 0 hl0;rw [hu0] at h;exact h);clear hc hs ht hu ha hb hlh hwd hz ih G Z hvm hv1 hv2 hl0 hu0;obtain ⟨va,vn,vc⟩:=v;obtain ⟨sn,sa,sl,sc,sb,sm,sd⟩:=s;obtain ⟨tn,ta,tl,tc,tb,tm,td⟩:=t;obtain ⟨un,ua,ul,uc,ub,um,ud⟩:=u;unfold ak;go_enter Tryz.func129,Tryz.ntmps129;simp only [SH.v]
 go_upto_region 1 with fail
 refine pN ?_;intro w1 hE B6 B7 B8 hz_w1 hr_w1;refine mV5 hE ?_ HX HC HS HT HU;clear HX HC HS HT HU;intro HX HC HS HT HU;replace b_B6:=bX3 B6;replace b_B7:=bX3 B7;replace b_B8:=bX3 B8;by_cases h0:z=0
 case pos =>
  have HV:Hid (SpE q wd d lo hi []):=Hi (fun _=>Do d (by have:=HZ.out;omega));subst h0;go_wp2
  go_ret
  exact ⟨⟨none,0,0⟩,rfl,HX.out,by rw [HV.out ()];exact gy.nil _ _⟩
 have h0b:(z == 0)=false:=by rw [nXs];exact h0
 have HNE:Hid (Fn (v6 q lo≠v6 q hi)):=Hi (fun _ h=>h0 (by have:=HZ.out;omega));obtain ⟨c,hc⟩:∃ c,c=dF (hi-lo) wd:=⟨_,rfl⟩;have HCC:=Hi hc;obtain ⟨y,hy⟩:∃ y,y=Sg.sg (evV (aZ q) lo):=⟨_,rfl⟩;have HY:=Hi hy;obtain ⟨sg,hsg⟩:∃ b:Bool,b=decide (v6 q lo=v6 q hi+1∧hi-lo≤wd∧evV q lo≠0):=⟨_,rfl⟩;have HSG:=Hi hsg;have ZD:Hid (Sz (2*(3*T+m+1)+1) (hi-lo)):=Hi ((ZB.out.sub ZA.out).mono zo);have hyi:y=-1∨y=0∨y=1:=by rw [hy];exact qj _
 clear h0 hc hy hsg
 go_upto_region 3 with fail
 have HW1:=Hi (Ext.refl w1)
 go_cut [33] (fun b wc=>b=.bool sg∧Ext w1 wc)
 case first =>
  obtain ⟨L,ca,cn,cc,e1,hLl,hc1,h4⟩:=HC.out.at HL0.out;subst e1;rw [HU0.out] at h4;have HCL:=Hi h4;have hcn:cn≤100:=by have h:=HCL.out.len;have h2:=HM0.out.1;simp only at h;omega
  have hvn:(0:Int)<(vn:Int):=by have h1:=HC.out.1;have h2:=HL0.out;simp only at h1;omega
  clear h4;by_cases hz1:z=1
  case neg =>
   have hz1b:(z == 1)=false:=by rw [nXs];exact hz1
   have HSF:Hid (sg=false):=Hi (by rw [HSG.out];exact decide_eq_false (fun h=>hz1 (by have:=HZ.out;have:=h.1;omega)));have hf:=HSF.out;subst hf;refine ag 19 (fun opIx=>match opIx with
    | _=>.quiet) (fun _=>[]) kZ kZ (fun w0 he0 hz0 hc0 hf0=>?_)
   replace he0:=Hi he0;simp only [pT]
   repeat (first|(refine wpq fun K h=>?_;go_big_quiet_op;refine h _ ?_;clear h K;(try simp only [hz1b]))|(refine cT rfl ?_;simp only [pS]))
   refine aj ?_;intro w2 hI;have hE:=he0.out.trans hI.ext;clear hI he0 hz0 hc0 hf0;replace HW1:=hE.tr HW1;simp only [pD]
   go_wp2_with fail
   go_meet
   case rel=>exact ⟨rfl,HW1.out⟩
  case pos =>
   have HZ1:Hid (Fn (v6 q lo=v6 q hi+1)):=Hi (fun _=>by have:=HZ.out;omega);subst hz1;by_cases hw:hi-lo≤wd
   case neg =>
    have hd:decide (c≤0)=false:=decide_eq_false (fun h=>hw (by rw [HCC.out] at h;exact xu.1 h));have HSF:Hid (sg=false):=Hi (by rw [HSG.out];exact decide_eq_false (fun h=>hw h.2.1));have hf:=HSF.out;subst hf;clear hw;refine ag 19 (fun opIx=>match opIx with
     | 5=>sR (hi-lo)
     | 7=>sU (.int .i64 c)
     | _=>.quiet) (fun|7=>[5]|_=>[]) kZ kZ (fun w0 he0 hz0 hc0 hf0=>?_)
    replace he0:=Hi he0;simp only [pT]
    repeat (first|(refine wpq fun K h=>?_;go_big_quiet_op;refine h _ ?_;clear h K;(try simp only [hd]))|(refine cT rfl ?_;simp only [pS]))
    refine wps he0 (fun w1 hW hG=>?_) fun x20=>?_
    ·exact spc [RH.v ⟨tn,ta,tl,tc,tb,tm,td⟩,RH.v ⟨sn,sa,sl,sc,sb,sm,sd⟩] Tryz.func94 (lx ⟨tn,ta,tl,tc,tb,tm,td⟩ ⟨sn,sa,sl,sc,sb,sm,sd⟩ hi lo _ ((HT.out.ext hW).raw ZB.out zo) ((HS.out.ext hW).raw ZA.out zo))
    simp only [pS]
    repeat (first|(refine wpq fun K h=>?_;go_big_quiet_op;refine h _ ?_;clear h K;(try simp only [hd]))|(refine cT rfl ?_;simp only [pS]))
    refine wps he0 (fun w1 hW hG=>?_) fun x21=>?_
    ·have g20:=gS (hG 5 dZ);exact spc [x20.v,RH.v ⟨un,ua,ul,uc,ub,um,ud⟩] Tryz.func49 ((by rw [HCC.out];exact ju x20 ⟨un,ua,ul,uc,ub,um,ud⟩ (hi-lo) wd _ (g20.raw ZD.out zo) ((HU.out.ext hW).raw ZW.out zo)))
    simp only [pS]
    repeat (first|(refine wpq fun K h=>?_;go_big_quiet_op;refine h _ ?_;clear h K;(try simp only [hd]))|(refine cT rfl ?_;simp only [pS]))
    refine aj ?_;intro w2 hI;have hE:=he0.out.trans hI.ext;clear hI he0 hz0 hc0 hf0;replace HW1:=hE.tr HW1;simp only [pD]
    go_wp2_with fail
    go_meet
    case rel=>exact ⟨rfl,HW1.out⟩
   case pos =>
    have hd:decide (c≤0)=true:=decide_eq_true (by rw [HCC.out];exact xu.2 hw);have HSW:Hid (sg=(y != 0)):=Hi (by
     rw [HSG.out];by_cases hy:y=0
     ·subst hy;exact decide_eq_false (fun h=>h.2.2 ((ui q lo).1 HY.out.symm))
     ·rw [show (y != 0)=true by rw [bne,nXs.2 hy];rfl];exact decide_eq_true ⟨HZ1.out (),hw,fun h=>hy (HY.out.trans ((ui q lo).2 h))⟩)
    clear hw;refine ag 19 (fun opIx=>match opIx with
     | 5=>sR (hi-lo)
     | 7=>sU (.int .i64 c)
     | 15=>sR (evV (aZ q) lo)
     | 16=>sU (.int .i64 y)
     | _=>.quiet) (fun|7=>[5]|16=>[15]|_=>[]) kZ kZ (fun w0 he0 hz0 hc0 hf0=>?_)
    replace he0:=Hi he0;simp only [pT]
    repeat (first|(refine wpq fun K h=>?_;go_big_quiet_op;refine h _ ?_;clear h K;(try simp only [hd]))|(refine cT rfl ?_;simp only [pS]))
    refine wps he0 (fun w1 hW hG=>?_) fun x20=>?_
    ·exact spc [RH.v ⟨tn,ta,tl,tc,tb,tm,td⟩,RH.v ⟨sn,sa,sl,sc,sb,sm,sd⟩] Tryz.func94 (lx ⟨tn,ta,tl,tc,tb,tm,td⟩ ⟨sn,sa,sl,sc,sb,sm,sd⟩ hi lo _ ((HT.out.ext hW).raw ZB.out zo) ((HS.out.ext hW).raw ZA.out zo))
    simp only [pS]
    repeat (first|(refine wpq fun K h=>?_;go_big_quiet_op;refine h _ ?_;clear h K;(try simp only [hd]))|(refine cT rfl ?_;simp only [pS]))
    refine wps he0 (fun w1 hW hG=>?_) fun x21=>?_
    ·have g20:=gS (hG 5 dZ);exact spc [x20.v,RH.v ⟨un,ua,ul,uc,ub,um,ud⟩] Tryz.func49 ((by rw [HCC.out];exact ju x20 ⟨un,ua,ul,uc,ub,um,ud⟩ (hi-lo) wd _ (g20.raw ZD.out zo) ((HU.out.ext hW).raw ZW.out zo)))
    simp only [pS]
    repeat (first|(refine wpq fun K h=>?_;go_big_quiet_op;refine h _ ?_;clear h K;(try simp only [hd]))|(refine cT rfl ?_;simp only [pS]))
    refine wps he0 (fun w1 hW hG=>?_) fun x22=>?_
    ·exact spc [.slice ca cn cc,RH.v ⟨sn,sa,sl,sc,sb,sm,sd⟩] Tryz.func50 (jF ca cn cc (aZ q) ⟨sn,sa,sl,sc,sb,sm,sd⟩ lo _ (HCL.out.ext hW) (HS.out.ext hW) hcn HM0.out.2.1 (ZA.out.mono zo) HM0.out.2.2)
    simp only [pS]
    repeat (first|(refine wpq fun K h=>?_;go_big_quiet_op;refine h _ ?_;clear h K;(try simp only [hd]))|(refine cT rfl ?_;simp only [pS]))
    refine wps he0 (fun w1 hW hG=>?_) fun x23=>?_
    ·have g22:=gS (hG 15 dZ);exact spc [x22.v] Tryz.func61 ((by rw [HY.out,←iN];exact ct x22 (evV (aZ q) lo) _ (g22.raw (HM0.out.2.2 0 (Nat.zero_le _)) dZ)))
    simp only [pS]
    repeat (first|(refine wpq fun K h=>?_;go_big_quiet_op;refine h _ ?_;clear h K;(try simp only [hd]))|(refine cT rfl ?_;simp only [pS]))
    refine aj ?_;intro w2 hI;have hE:=he0.out.trans hI.ext;clear hI he0 hz0 hc0 hf0;replace HW1:=hE.tr HW1;simp only [pD];have hb:=HSW.out;subst hb
    go_wp2_with fail
    go_meet
    case rel=>exact ⟨rfl,HW1.out⟩
 case rest =>
  obtain ⟨rfl,hE⟩:=hcut;refine mV8 hE ?_ B6 B7 B8 HX HC HT HU HS;clear B6 B7 B8 HX HC HT HU HS;intro B6 B7 B8 HX HC HT HU HS;have hs_wc:=hE.size;replace b_B6:=bX3 B6;replace b_B7:=bX3 B7;cases sg
  case true =>
   have HSI:=Hi (of_decide_eq_true HSG.out.symm);have HV:Hid (SpE q wd d lo hi [lo,hi]):=Hi (fun _=>Dn d HSI.out.1 HSI.out.2.1 HSI.out.2.2);go_wp2;exact nXa (v:=SH.v ⟨some ⟨wc.heap.size,0,none⟩,1,1⟩) (by simp [results,Tryz.results129,go_sem]) rfl
    ⟨⟨some ⟨wc.heap.size,0,none⟩,1,1⟩,rfl,HX.out.trans (Ext.alloc _ _),by
     rw [HV.out ()];exact gy.block (x:=⟨sn,sa,sl,sc,sb,sm,sd⟩) (y:=⟨tn,ta,tl,tc,tb,tm,td⟩) (heap_alloc_new _ _) (HS.out.ext (Ext.alloc _ _)) (HT.out.ext (Ext.alloc _ _)) (by show w.heap.size≤wc.heap.size;omega)⟩
  case false =>
  have HNS:=Hi (of_decide_eq_false HSG.out.symm);obtain ⟨d0,rfl⟩:∃ d0,d=d0+1:=by
   cases d with
   | zero =>
    exfalso;have h2:(hi-lo)*((W32 ^ Y:Nat):Rat)≤1:=by have h:=HWD.out;rw [Nat.pow_zero] at h;exact h
    rcases HG.out.base DA.out DB.out HLH.out h2 with h|h
    ·exact HNE.out () h
    ·exact HNS.out h
   | succ d0=>exact ⟨d0,rfl⟩
  obtain ⟨mid,hmid⟩:∃ mid,mid=md6 lo hi:=⟨_,rfl⟩;have HMID:Hid (mid=(lo+hi)*(((1:Int):Rat) / ((2:Int):Rat))):=Hi hmid;have HV:Hid (SpE q wd (d0+1) lo hi (spV q wd d0 lo mid++spV q wd d0 mid hi)):=Hi (fun _=>by
   rw [hmid];show (if v6 q lo=v6 q hi then [] else if v6 q lo=v6 q hi+1∧hi-lo≤wd∧evV q lo≠0 then [lo,hi] else spV q wd d0 lo (md6 lo hi)++spV q wd d0 (md6 lo hi) hi)=_;rw [if_neg (HNE.out ()),if_neg HNS.out])
  have DM:Hid (Dy D (W32 ^ T) (e+1) mid):=Hi (by rw [hmid];exact DA.out.mid DB.out);have ZM:Hid (Sz (3*T+m+1) mid):=Hi (DM.out.sz HG.out.dp HG.out.dl zo);have MM:=Hi (HZZ.out.mz mid ZM.out);have DA2:=Hi DA.out.up;have DB2:=Hi DB.out.up;obtain ⟨l1,l2,-,-⟩:=r9 HLH.out;obtain ⟨l3,l4⟩:=Sp6.half HLH.out HWD.out;rw [←hmid] at l1 l2 l3 l4;have HL1:=Hi l1;have HL2:=Hi l2;have HL3:=Hi l3;have HL4:=Hi l4;have hvm1:=jQ HG.out.ne HG.out.cp l1;have hvm2:=jQ HG.out.ne HG.out.cp l2;have hv1:=Be q lo;have hv2:=MA.out.ln;obtain ⟨k,hk⟩:∃ k:Int,k=(v6 q lo:Int)-(v6 q mid:Int):=⟨_,rfl⟩;have hk1:0≤k∧k≤1000:=zo;have HK:=Hi hk;have HK2:Hid (z-k=(v6 q mid:Int)-(v6 q hi:Int)):=Hi (by have:=HZ.out;omega);have hzk:0≤z-k∧z-k≤1000:=by have:=HK2.out;omega
  have HS1:=Hi (uD HG.out.ne HG.out.cp (wd:=wd) d0 l1);have HS2:=Hi (uD HG.out.ne HG.out.cp (wd:=wd) d0 l2);have hvl:v6 q lo≤1000:=zo;have hvl2:v6 q mid≤1000:=zo;have HVL:=Hi hvl;have HVL2:=Hi hvl2;clear hmid l1 l2 l3 l4 hvm1 hvm2 hv1 hv2 hk hvl hvl2
  go_wp2_with fail
  refine cM (eK ⟨sn,sa,sl,sc,sb,sm,sd⟩ ⟨tn,ta,tl,tc,tb,tm,td⟩ lo hi _ (HS.out.raw ZA.out zo) (HT.out.raw ZB.out zo)) fun x40 w40 hE G40=>?_
  refine mV8 hE ?_ B6 B7 B8 HX HC HT HU HS;clear B6 B7 B8 HX HC HT HU HS;intro B6 B7 B8 HX HC HT HU HS;have hs_w40:=hE.size
  go_wp2_with fail
  refine cM (iq 1 2 _ dZ dZ dZ dZ) fun x41 w41 hE G41=>?_
  refine mV8 hE ?_ G40 B6 B7 B8 HX HC HT HU;clear G40 B6 B7 B8 HX HC HT HU;intro G40 B6 B7 B8 HX HC HT HU;replace HS:=mV hE HS;have hs_w41:=hE.size
  go_wp2_with fail
  refine cM (eI x40 x41 (lo+hi) (((1:Int):Rat) / ((2:Int):Rat)) _ (G40.out.raw ((ZA.out.add ZB.out).mono (nXe _)) zo) (G41.out.raw zz dZ)) fun x42 w42 hE G42=>?_
  refine mV8 hE ?_ B6 B7 B8 HX HC HT HU HS;clear B6 B7 B8 HX HC HT HU HS;intro B6 B7 B8 HX HC HT HU HS;have hs_w42:=hE.size;rw [←HMID.out] at G42;clear G40;clear G41;obtain ⟨mn,ma,ml,mc,mb,mm,md⟩:=x42;have GM:=Hi G42.out;clear G42
  go_upto_region 6 with fail
  refine nmA ?_;intro w43 hE B11 hz_w43 hr_w43;refine mV8 hE ?_ B6 B7 B8 HX HC HT HU HS;clear B6 B7 B8 HX HC HT HU HS;intro B6 B7 B8 HX HC HT HU HS;replace GM:=mV hE GM;replace b_B6:=bX3 B6;replace b_B11:=bX3 B11
  go_wp2_with fail
  refine cM (mJ ⟨va,vn,vc⟩ (i6 q) ⟨sn,sa,sl,sc,sb,sm,sd⟩ ⟨mn,ma,ml,mc,mb,mm,md⟩ lo mid _ HC.out MA.out MM.out HS.out GM.out (ZA.out.mono zo) (ZM.out.mono zo)) fun x46 w46 hE _=>?_
  refine mV8 hE ?_ B11 B6 B7 B8 HX HC HT HU;clear B11 B6 B7 B8 HX HC HT HU;intro B11 B6 B7 B8 HX HC HT HU;refine mV2 hE ?_ HS GM;clear HS GM;intro HS GM;have hs_w46:=hE.size;replace b_B6:=bX3 B6;replace b_B7:=bX3 B7;replace b_B8:=bX3 B8;replace b_B11:=bX3 B11;rw [show ((dR (i6 q) lo:Int)-dR (i6 q) mid)=k from HK.out.symm]
  go_upto_region 7 with fail
  refine wpG 14 (fun opIx=>match opIx with
   | 5=>.spec (SH) (default) (SH.v) (fun x w'=>gy w' (w.heap.size≤·) x.v x.n (spV q wd d0 lo mid))
   | 13=>.spec (SH) (default) (SH.v) (fun x w'=>gy w' (w.heap.size≤·) x.v x.n (spV q wd d0 mid hi))
   | _=>.quiet) (fun _=>[]) fun w0 he0 hz0 hc0 hf0=>?_
  refine wps he0 (fun w1 hW hG=>?_) fun x50=>?_
  ·exact spc [.slice va vn vc,RH.v ⟨sn,sa,sl,sc,sb,sm,sd⟩,RH.v ⟨mn,ma,ml,mc,mb,mm,md⟩,RH.v ⟨un,ua,ul,uc,ub,um,ud⟩,.int .i64 k] Tryz.func129 ((IH.out d0 rfl (e+1) zo ⟨va,vn,vc⟩ ⟨sn,sa,sl,sc,sb,sm,sd⟩ ⟨mn,ma,ml,mc,mb,mm,md⟩ ⟨un,ua,ul,uc,ub,um,ud⟩ lo mid k _ (HC.out.ext hW) (HS.out.ext hW) (GM.out.ext hW) (HU.out.ext hW) DA2.out DM.out HL1.out HL3.out HK.out).weak (fun _ _ _ h=>h.mono (fun j _ hj=>by have h2:=hW.size;show w.heap.size≤j;have hj:_≤j:=hj;omega)))
  refine qZ ?_;refine wps he0 (fun w1 hW hG=>?_) fun x51=>?_
  ·exact spc [.slice va vn vc,RH.v ⟨mn,ma,ml,mc,mb,mm,md⟩,RH.v ⟨tn,ta,tl,tc,tb,tm,td⟩,RH.v ⟨un,ua,ul,uc,ub,um,ud⟩,.int .i64 (z-k)] Tryz.func129 ((IH.out d0 rfl (e+1) zo ⟨va,vn,vc⟩ ⟨mn,ma,ml,mc,mb,mm,md⟩ ⟨tn,ta,tl,tc,tb,tm,td⟩ ⟨un,ua,ul,uc,ub,um,ud⟩ mid hi (z-k) _ (HC.out.ext hW) (GM.out.ext hW) (HT.out.ext hW) (HU.out.ext hW) DM.out DB2.out HL2.out HL4.out HK2.out).weak (fun _ _ _ h=>h.mono (fun j _ hj=>by have h2:=hW.size;show w.heap.size≤j;have hj:_≤j:=hj;omega)))
  refine qZ ?_;refine aj ?_;intro w47 hI;have hE:=he0.out.trans hI.ext;have G50:=gT (hI.facts 5);have G51:=gT (hI.facts 13);clear hI he0 hz0 hc0 hf0;refine mV2 hE ?_ B11 HX;clear B11 HX;intro B11 HX;replace b_B11:=bX3 B11;simp only [pD];have hn1:=G50.out.len;have hn2:=G51.out.len;have hb1:x50.n≤100000:=by have:=HS1.out;have:=HVL.out;omega
  have hb2:x51.n≤100000:=by have:=HS2.out;have:=HVL2.out;omega
  clear hn1 hn2
  go_wp2_with (at_builtin;refine gi rfl (.tmp 52) (.tmp 60) 54 Tryz.underlying54 rfl (w.heap.size≤·) _ x50.n _ x51 _ rfl G50.out rfl (gy.can G51.out).2 zo zo (fun j hj=>by show w.heap.size≤j;omega) ?_;intro s' y3 q1 q2 q3)
  have HX3:=Hi (Ext.mods HX.out q2 (fun k h=>h));have HO3:=Hi q1;clear q1 q2 q3;go_wp2;have hn':s'.n=x50.n+x51.n:=(gy.can HO3.out).1;exact nXa (v:=SH.v s') (by simp [results,Tryz.results129,go_sem]) rfl ⟨s',rfl,HX3.out,by rw [HV.out ()];have h:=HO3.out;rw [←hn'] at h;exact h⟩
theorem uz{q:List Rat}{wd:Rat}{D T m Y E:Nat}(G:Sp6 q wd D T m Y)(Z:SpZ q wd T m E)(d:Nat):SpP q wd D T m Y E d:=by
 induction d with
 | zero=>exact mE G Z 0 (fun d' h=>by omega)
 | succ d ih =>
  refine mE G Z (d+1) (fun d' h=>?_);obtain rfl:d=d':=by omega
  exact ih
end Go.Proofs.YtafgmcimcbhhjaaGreat
/- Unit of package dspcompilerref03. -/
namespace Go.Proofs.YtafgmcimcbhhjaaGreat
open Go.RowKit Go.Front Go.Num Stab
attribute [local go_sem] XW.cell XW.frozen
theorem uH(a:SH)(ds:List Nat)(n:Nat)(w:World)(ha:a.U w ds)(hm:a.n≤1073741824)(hn:n≤65536):ak 93 [a.v,.int .i64 (n:Nat)] w SH.v (fun x w'=>U32 w' x.a x.n x.c (digs (val ds*2 ^ n))):=by
 have key:Calls Tryz.prog 93 #[.slice a.a a.n a.c,.int .i64 (n:Nat)] w (rt (digs (val ds*2 ^ n)) w):=jp a.a a.n a.c ds n w ha hm hn;refine key.mono ?_;intro e w' hp;obtain ⟨ao,m,c,rfl,h1,h2⟩:=hp.dpost (cz _);exact ⟨⟨ao,m,c⟩,rfl,h2,h1⟩
theorem tw(n:Nat)(w:World)(hn:n≤65536):ak 37 [.int .i64 (n:Nat)] w RH.v (fun r w'=>aB w' r ((2 ^ n:Nat):Rat)):=by
 have HX:=Hi (Ext.refl w);obtain ⟨Q,hQ⟩:∃ Q:Rat,Q=((2 ^ n:Nat):Rat):=⟨_,rfl⟩;have HQN:Hid (Q.num=((2 ^ n:Nat):Int)):=Hi (by rw [hQ];exact Rat.num_natCast _);have HQD:Hid (Q.den=1):=Hi (by rw [hQ];exact Rat.den_natCast _);rw [←hQ];clear hQ;unfold ak;go_enter Tryz.func37,Tryz.ntmps37
 go_upto_region 1 with fail
 refine nmA ?_;intro w1 hE B2 hz_w1 hr_w1;replace HX:=hE.tr HX
 go_wp2_with fail
 refine nmA (F:=fun W=>Calls _ _ _ W _) ?_;intro w2 hE B3 hz_w2 hr_w2;refine mV2 hE ?_ B2 HX;clear B2 HX;intro B2 HX
 change Calls _ _ _ _ _
 refine cM (uH ⟨some ⟨w1.heap.size,0,none⟩,1,1⟩ [1] n _ (pV B3.out) (show (1:Nat)≤1073741824 by decide) hn) fun x5 w5 hE G5=>?_
 refine mV2 hE ?_ B2 HX;clear B2 HX;intro B2 HX;replace b_B2:=bX3 B2;have hv:val [1]*2 ^ n=2 ^ n:=by show (1+W32*0)*2 ^ n=_;rw [Nat.mul_zero,Nat.add_zero,Nat.one_mul]
 have GU:Hid (U32 w5 x5.a x5.n x5.c (digs (2 ^ n))):=Hi (by have h:=G5.out;rw [hv] at h;exact h);clear G5 hv;obtain ⟨ua,un,uc⟩:=x5;simp only [SH.v];go_wp2;obtain ⟨w9,hw9,T9⟩:=j0 HX.out B2.out (nXe _) rfl ⟨false,ua,un,uc,some ⟨w5.heap.size,0,none⟩,1,1⟩;have hU1:=eb w9 1 dZ;rw [T9.size] at hU1
 change bodyPost _ _ _ _ _ ((stR w5 w.heap.size ⟨false,ua,un,uc,some ⟨w5.heap.size,0,none⟩,1,1⟩).alloc (.cells #[.int .u32 1] 116))
 rw [←hw9];exact nXa (v:=RH.v ⟨false,ua,un,uc,some ⟨w5.heap.size,0,none⟩,1,1⟩) (by simp [results,Tryz.results37,go_sem,ab (Ext.nw1.block T9.bx)]) rfl ⟨⟨false,ua,un,uc,some ⟨w5.heap.size,0,none⟩,1,1⟩,rfl,T9.ext.trans Ext.nw1,by rw [HQN.out];exact (decide_eq_false (Int.not_lt.2 (Int.natCast_nonneg _))).symm,by rw [HQN.out,nYi];exact (T9.keep _ _ _ _ GU.out).ext Ext.nw1,by rw [HQD.out,iF];exact hU1⟩
open Sg
def AC(q:List Rat)(wd:Rat)(E:Nat)(lo hi:Rat):List Rat:=(if evV q lo=0 then [lo,lo] else [])++spV q wd E lo hi
theorem D7{q:List Rat}{wd:Rat}{E:Nat}{lo hi:Rat}(h:lo≤hi):∀ y ∈ AC q wd E lo hi,lo≤y∧y≤hi:=fun y hy=>by
 unfold AC at hy;rcases List.mem_append.1 hy with k|k
 ·split at k
  ·simp only [List.mem_cons,List.not_mem_nil,or_false] at k;rcases k with rfl|rfl <;> exact ⟨Rat.le_refl,h⟩
  ·simp at k
 ·exact Sg.Fd E h y k
def wd6(k:Nat):Rat:=((1:Int):Rat) / ((2 ^ k:Nat):Rat)
theorem uh{k:Nat}(h:k≤256):Sz 9 ((2 ^ k:Nat):Rat):=by
 have h1:(2:Nat) ^ k≤2 ^ 256:=nXp dZ h;have h2:(2:Nat) ^ 256<W32 ^ 9:=by decide
 exact ⟨by rw [Rat.num_natCast,nYi];omega,by rw [Rat.den_natCast];decide⟩
theorem Dc{k:Nat}(h:k≤256):Sz 10 (wd6 k):=((Sz.int (z:=1) dZ:Sz 1 ((1:Int):Rat)).div (uh h)).mono dZ
def IsE(q:List Rat)(wd:Rat)(E:Nat)(lo hi:Rat)(l:List Rat):Prop:=Unit→AC q wd E lo hi=l
structure Is6 (l:List Rat) (K P:Nat) (a b:Rat) (bits T m Y E D:Nat):Prop where
 hP:P≤49
 ne:tz l≠[]
 fk:FrK K (tz l)
 k1:K≤3900000
 k2:(P+1)*(K / 3)≤25000000
 fs:FrK K (sqfV (tz l))
 za:Sz T a
 zb:Sz T b
 t3:T≤1000
 sp:Sp6 (sqfV (tz l)) (wd6 bits) D T m Y
 sz:SpZ (sqfV (tz l)) (wd6 bits) T m E
 bt:bits≤256
 dl:Dy D (W32 ^ T) 0 (loV a b)
 dh:Dy D (W32 ^ T) 0 (hiV a b)
 hd:(hiV a b-loV a b)*((W32 ^ Y:Nat):Rat)≤((2 ^ E:Nat):Rat)
theorem AA{w:World}{x y:RH}{a b:Rat}(hx:aB w x a)(hy:aB w y b) :
  (∀ k,k<1*2→RAt (w.alloc (.cells #[.bool x.neg,.slice x.a x.n x.c,.slice x.b x.m x.d,.bool y.neg,.slice y.a y.n y.c,.slice y.b y.m y.d] 38)) w.heap.size (0+k*3) ([x,y].getD k default))∧eU aB (w.alloc (.cells #[.bool x.neg,.slice x.a x.n x.c,.slice x.b x.m x.d,.bool y.neg,.slice y.a y.n y.c,.slice y.b y.m y.d] 38)) [x,y] [a,b]:=by
 obtain ⟨w',hw'⟩:∃ w',w'=w.alloc (.cells #[.bool x.neg,.slice x.a x.n x.c,.slice x.b x.m x.d,.bool y.neg,.slice y.a y.n y.c,.slice y.b y.m y.d] 38):=⟨_,rfl⟩;have he:Ext w w':=by rw [hw'];exact Ext.alloc _ _
 have hb:IBk w' w.heap.size [x,y] #[]:=by
  unfold IBk;rw [hw',heap_alloc_new];rfl
 rw [←hw'];refine ⟨fun k hk=>by rw [Nat.zero_add];exact hb.at hk,rfl,fun k hk=>?_⟩;have hk:k<2:=hk;have:k=0∨k=1:=by omega
 rcases this with rfl|rfl
 ·exact hx.ext he
 ·exact hy.ext he
theorem o6(pa:Option Addr)(P pc:Nat)(l:List Rat)(K:Nat)(s t:RH)(a b:Rat)(bits T m Y E D:Nat)(w:World)(h:ci w ⟨pa,P,pc⟩ l)(hs:aP w s a)(ht:aP w t b)(H:Is6 l K P a b bits T m Y E D) :
  ak 63 [.slice pa P pc,IvV (s,t),.int .i64 (bits:Nat)] w (fun x:SH=>.tuple #[x.v,.int .i64 0]) (fun x w'=>gy w' (w.heap.size≤·) x.v x.n (AC (sqfV (tz l)) (wd6 bits) E (loV a b) (hiV a b))∧x.n≤100000):=by
 obtain ⟨sn,sa,sl,sc,sb,sm,sd⟩:=s;obtain ⟨tn,ta,tl,tc,tb,tm,td⟩:=t;have HX:=Hi (Ext.refl w);have LP:=Hi h;have LPw:=Hi h;have hb1:¬ ((bits:Nat):Int)<0:=zo;have hb2:¬ (256:Int)<((bits:Nat):Int):=by have:=H.bt;omega
 have HS:=Hi hs;have HT:=Hi ht;have HH0:=Hi H;have hbt:=H.bt;have hT3:=H.t3;have hP:=H.hP;have h00:tz (tz l)≠[]:=by rw [aH];exact H.ne
 have ZA:Hid (Sz T (loV a b)):=Hi (by rcases zk a b with e|e <;> rw [e] <;> first|exact H.za|exact H.zb);have ZB:Hid (Sz T (hiV a b)):=Hi (by rcases zy a b with e|e <;> rw [e] <;> first|exact H.za|exact H.zb);have HLE:=Hi (zp a b);obtain ⟨q,hq⟩:∃ q,q=sqfV (tz l):=⟨_,rfl⟩;have hql:q.length≤49:=by rw [hq];have:=k8 h00;have:=ae l;have:=h.len;simp only at this;omega
 have HSP:Hid (Sp6 q (wd6 bits) D T m Y):=Hi (by rw [hq];exact H.sp);have HSZ:Hid (SpZ q (wd6 bits) T m E):=Hi (by rw [hq];exact H.sz);have hfs:=H.fs;rw [←hq] at hfs;obtain ⟨U,F,hU,hF,hF2,hfU,hUK⟩:=hfs;have hUs:=KZ.small hUK;have hk1:=H.k1;have HFU:=Hi hfU;have HUK:=Hi hUK;have HQ0:Hid (tz q≠[]):=Hi (HSP.out.ne);obtain ⟨lo,hlo⟩:∃ lo,lo=loV a b:=⟨_,rfl⟩;obtain ⟨hi,hhi⟩:∃ hi,hi=hiV a b:=⟨_,rfl⟩;have DL:Hid (Dy D (W32 ^ T) 0 lo):=Hi (by rw [hlo];exact H.dl);have DH:Hid (Dy D (W32 ^ T) 0 hi):=Hi (by rw [hhi];exact H.dh);have HD:Hid ((hi-lo)*((W32 ^ Y:Nat):Rat)≤((2 ^ E:Nat):Rat)):=Hi (by rw [hlo,hhi];exact H.hd);have HCT:=Hi (show qV (tz l) lo hi=(v6 q lo:Int)-(v6 q hi:Int)+(if Sg.sg (evV q lo)=0 then 1 else 0) by rw [hq];rfl);rw [←hlo] at ZA HLE;rw [←hhi] at ZB HLE;have MA:=Hi (HSZ.out.mz lo (ZA.out.mono zo));have hv1:=Be q lo;have hv2:=MA.out.ln;have hvm:=jQ HSP.out.ne HSP.out.cp HLE.out;obtain ⟨r,hr⟩:∃ r:Int,r=(v6 q lo:Int)-(v6 q hi:Int):=⟨_,rfl⟩;have hr1:0≤r∧r≤1000:=zo;have HR:=Hi hr;have HSQ:Hid (SzL 40000000 q):=Hi ((hfU.sz hU hF hF2).mono zo);have HEV:Hid (∀ k,k≤q.length→Sz 40000000 (evV (q.drop k) lo)):=Hi (fun k hk=>(mZ hfU ZA.out hU hF hF2 k).mono (by
  have:q.length*(T+1)≤49*1001:=nXy hql zo;omega))
 have HQE:=Hi hq;have HLO:=Hi hlo;have HHI:=Hi hhi;have HLn:=Hi (uD HSP.out.ne HSP.out.cp (wd:=wd6 bits) E HLE.out);have HVL:Hid (v6 q lo≤1000):=Hi zo;have ZU:=Hi (uh hbt);have Z1:Hid (Sz 1 ((1:Int):Rat)):=Hi (Sz.int dZ);clear h hs ht H h00 hq hlo hhi hv1 hv2 hvm hr hfU hUK;unfold ak;go_enter Tryz.func63,Tryz.ntmps63
 go_upto_region 1 with fail
 refine nmA ?_;intro w1 hE B4 hz_w1 hr_w1;refine mV4 hE ?_ HX LP HS HT;clear HX LP HS HT;intro HX LP HS HT;replace b_B4:=bX3 B4
 go_wp2_with fail
 refine cM (tS pa P pc l K ⟨sn,sa,sl,sc,sb,sm,sd⟩ ⟨tn,ta,tl,tc,tb,tm,td⟩ a b T _ LP.out HH0.out.hP HH0.out.ne HH0.out.fk HH0.out.k1 HH0.out.k2 HH0.out.fs HS.out HT.out HH0.out.za HH0.out.zb hT3) fun x22 w22 hE _=>?_
 refine mV4 hE ?_ B4 HX HS HT;clear B4 HX HS HT;intro B4 HX HS HT;replace b_B4:=bX3 B4;rw [←HLO.out,←HHI.out];obtain ⟨n,hn⟩:∃ n,n=qV (tz l) lo hi:=⟨_,rfl⟩;have HNN:Hid (n=r+(if Sg.sg (evV q lo)=0 then 1 else 0)):=Hi (by rw [hn,HCT.out,HR.out]);have hn1:0≤n∧n≤1001:=by have:=HNN.out;split at this <;> omega
 rw [←hn];clear hn HCT
 go_wp2_with fail
 refine cM (eP ⟨sn,sa,sl,sc,sb,sm,sd⟩ ⟨tn,ta,tl,tc,tb,tm,td⟩ a b _ HS.out HT.out) fun x29 w29 hE G29=>?_
 refine mV2 hE ?_ B4 HX;clear B4 HX;intro B4 HX;replace b_B4:=bX3 B4;obtain ⟨⟨ln,la,ll,lc,lb,lm,ld⟩,⟨hn',ha,hl,hc,hb,hm,hd⟩⟩:=x29;rw [←HLO.out,←HHI.out] at G29;have HL:=Hi G29.out.1;have HH:=Hi G29.out.2;clear G29;clear HS;clear HT;clear LP
 go_upto_region 7 with fail
 refine bL B4.out rfl ?_;intro w30 T;replace HX:=Hi (T.ext HX.out zo);replace B4:=Hi (T.bx);replace HL:=Hi (HL.out.keep T.keep);replace HH:=Hi (HH.out.keep T.keep);clear T
 go_wp2_with fail
 refine cM (oT pa P pc l K _ (LPw.out.ext HX.out) zo (by rw [aH];exact HH0.out.ne) HH0.out.fk HH0.out.k1 HH0.out.k2 HH0.out.fs) fun x31 w31 hE G31=>?_
 refine mV4 hE ?_ HX B4 HL HH;clear HX B4 HL HH;intro HX B4 HL HH;obtain ⟨qa,qn,qc⟩:=x31;rw [←HQE.out] at G31;have LQ:=Hi G31.out.lin;have hqn:qn≤49:=by have h1:=G31.out.len;simp only at h1;omega
 have HQl:Hid (q.length=qn):=Hi G31.out.len;clear G31;simp only [SH.v];have HUK2:Hid (KZ K U qn):=Hi (by rw [←HQl.out];exact HUK.out)
 go_wp2_with fail
 refine cM (m9 qa qn qc q U F K _ LQ.out.can zo HQ0.out hU hF hF2 HFU.out HUK2.out zo) fun x33 w33 hE G33=>?_
 refine mV5 hE ?_ HX B4 HL HH LQ;clear HX B4 HL HH LQ;intro HX B4 HL HH LQ;replace b_B4:=bX3 B4;obtain ⟨va,vn,vc⟩:=x33;have HC:=Hi G33.out;clear G33;simp only [SH.v]
 go_wp2_with fail
 refine cM (jF qa qn qc q ⟨ln,la,ll,lc,lb,lm,ld⟩ lo _ LQ.out.can HL.out zo HSQ.out (ZA.out.mono zo) HEV.out) fun x37 w37 hE G37=>?_
 refine mV5 hE ?_ HX B4 HL HH HC;clear HX B4 HL HH HC;intro HX B4 HL HH HC
 go_wp2_with fail
 refine cM (ct x37 (evV q lo) _ (G37.out.raw (HEV.out 0 (Nat.zero_le _)) dZ)) fun x38 w38 hE _=>?_
 refine mV5 hE ?_ HX B4 HL HH HC;clear HX B4 HL HH HC;intro HX B4 HL HH HC;replace b_B4:=bX3 B4;rw [iN];clear G37;obtain ⟨y,hy⟩:∃ y,y=Sg.sg (evV q lo):=⟨_,rfl⟩;have HY:=Hi hy;rw [←hy] at HNN ⊢;clear hy;have HW1:=Hi (Ext.refl w38)
 go_upto_if 39 with fail
 go_cut [12,8] (fun u z wc=>∃ x:SH,u=x.v∧z=.int .i64 r∧Ext w38 wc∧gy wc (w.heap.size≤·) x.v x.n (if y=0 then [lo,lo] else [])∧x.n≤1)
 case first =>
  by_cases hy0:y=0
  case pos =>
   have HRN:Hid (n-1=r):=Hi (by have h:=HNN.out;rw [if_pos hy0] at h;omega);subst hy0
   go_wp2_with (at_builtin;refine kP rfl (.tmp 40) (.tmp 46) 54 Tryz.underlying54 rfl (w38.heap.size≤·) (.slice none 0 0) 0 [] w38.heap.size 0 1 1 [⟨ln,la,ll,lc,lb,lm,ld⟩,⟨ln,la,ll,lc,lb,lm,ld⟩] [lo,lo] rfl (gy.nil _ _) rfl rfl dZ (AA HL.out HL.out).1 (AA HL.out HL.out).2 dZ dZ (fun k hk=>nXf (by simp) hk) ?_;intro s' y3 q1 q2 q3)
   go_wp2_with fail
   go_meet
   case rel=>exact ⟨s',rfl,by rw [HRN.out],Ext.mods (HW1.out.trans (Ext.alloc _ _)) q2 (fun k h=>h),by
    have h1:=(gy.can q1).1;rw [show (if True then [lo,lo] else ([]:List Rat))=[lo,lo] from if_pos trivial,h1];exact q1.mono (fun k _ h=>nXf zo h),by have h1:=(gy.can q1).1;omega⟩
  case neg =>
   have hyb:(y == 0)=false:=by rw [nXs];exact hy0
   have HRN:Hid (n=r):=Hi (by have h:=HNN.out;rw [if_neg hy0] at h;omega);go_wp2
   go_meet
   case rel=>exact ⟨⟨none,0,0⟩,rfl,by rw [HRN.out],HW1.out,by rw [if_neg hy0];exact gy.nil _ _,dZ⟩
 case rest =>
  obtain ⟨⟨oa,on,oc⟩,rfl,rfl,hE,go,hon⟩:=hcut;have HO:=Hi go;clear go;simp only at hon;refine mV5 hE ?_ HX B4 HL HH HC;clear HX B4 HL HH HC;intro HX B4 HL HH HC;replace b_B4:=bX3 B4
  go_upto_region 12 with fail
  refine wpG 12 (fun opIx=>match opIx with
   | 6=>sR (((1:Int):Rat))
   | 8=>sR (((2 ^ bits:Nat):Rat))
   | 9=>sR (wd6 bits)
   | 11=>.spec (SH) (default) (SH.v) (fun x w'=>gy w' (w.heap.size≤·) x.v x.n (spV q (wd6 bits) E lo hi))
   | _=>.quiet) (fun|9=>[6,8]|11=>[9]|_=>[]) fun w0 he0 hz0 hc0 hf0=>?_
  refine wps he0 (fun w1 hW hG=>?_) fun x50=>?_
  ·exact spc [.int .i64 1] Tryz.func36 (ce 1 _ dZ dZ)
  refine qZ ?_;refine wps he0 (fun w1 hW hG=>?_) fun x51=>?_
  ·exact spc [.int .i64 (bits:Nat)] Tryz.func37 (tw bits _ zo)
  refine qZ ?_;refine wps he0 (fun w1 hW hG=>?_) fun x52=>?_
  ·have g50:=gS (hG 6 dZ);have g51:=gS (hG 8 dZ);exact spc [x50.v,x51.v] Tryz.func35 (im x50 x51 ((1:Int):Rat) ((2 ^ bits:Nat):Rat) _ (g50.raw Z1.out dZ) (g51.raw ZU.out dZ))
  refine qZ ?_;refine wps he0 (fun w1 hW hG=>?_) fun x53=>?_
  ·have g52:=gS (hG 9 dZ);exact spc [.slice va vn vc,RH.v ⟨ln,la,ll,lc,lb,lm,ld⟩,RH.v ⟨hn',ha,hl,hc,hb,hm,hd⟩,x52.v,.int .i64 r] Tryz.func129 ((uz HSP.out HSZ.out E 0 zo ⟨va,vn,vc⟩ ⟨ln,la,ll,lc,lb,lm,ld⟩ ⟨hn',ha,hl,hc,hb,hm,hd⟩ x52 lo hi r _ (HC.out.ext hW) (HL.out.ext hW) (HH.out.ext hW) g52 DL.out DH.out HLE.out HD.out HR.out).weak (fun _ _ _ h=>h.mono (fun j _ hj=>by have h2:=hW.size;show w.heap.size≤j;have hj:_≤j:=hj;omega)))
  refine qZ ?_;refine aj ?_;intro w40 hI;have hE:=he0.out.trans hI.ext;have G53:=gT (hI.facts 11);clear hI he0 hz0 hc0 hf0;refine mV3 hE ?_ HO HX B4;clear HO HX B4;intro HO HX B4;replace b_B4:=bX3 B4;simp only [pD];have hn2:=G53.out.len;have hb2:x53.n≤1000:=by have:=HLn.out;have:=HVL.out;omega
  clear hn2;have HIV:Hid (IsE q (wd6 bits) E lo hi ((if y=0 then [lo,lo] else [])++spV q (wd6 bits) E lo hi)):=Hi (fun _=>by
   unfold AC;have h:=lj (q:=evV q lo);rw [←HY.out] at h;by_cases h0:y=0
   ·rw [if_pos h0,if_pos (h.1 h0)]
   ·rw [if_neg h0,if_neg (fun k=>h0 (h.2 k))])
  go_wp2_with (at_builtin;refine gi rfl (.tmp 50) (.tmp 61) 54 Tryz.underlying54 rfl (w.heap.size≤·) _ on _ x53 _ rfl HO.out rfl (gy.can G53.out).2 zo zo (fun j hj=>by show w.heap.size≤j;omega) ?_;intro s' y3 q1 q2 q3)
  have HX3:=Hi (Ext.mods HX.out q2 (fun k h=>h));have HO3:=Hi q1;clear q1 q2 q3;go_wp2;have hn':s'.n=on+x53.n:=(gy.can HO3.out).1;exact nXa (v:=.tuple #[SH.v s',.int .i64 0]) (by simp [results,Tryz.results63,go_sem]) rfl ⟨s',rfl,HX3.out,by rw [←HQE.out,←HLO.out,←HHI.out,HIV.out ()];have h:=HO3.out;rw [←hn'] at h;exact h,zo⟩
def AfZ(S D T n:Nat)(p:List Rat):Prop:=1≤S∧0<D∧D<W32 ^ S∧FrL S D p∧p.length≤n∧n≤100∧S+n+n*(T+1)≤8000000
theorem nf(pa:Option Addr)(P pc:Nat)(l:List Rat)(t:RH)(x:Rat)(S D T n:Nat)(w:World)(h:ci w ⟨pa,P,pc⟩ l)(hP:P≤1000)(hz:AfZ S D T n (tz l))(ht:aP w t x)(hx:Sz T x)(hT:T≤8000000) :
  ak 62 [.slice pa P pc,t.v] w (fun _:Unit=>.int .i64 (jU ((tz l).length+1) (tz l) x)) (fun _ _=>True):=by
 obtain ⟨tn,ta,tl,tc,tb,tm,td⟩:=t;have HX:=Hi (Ext.refl w);have LP:=Hi h;have HT:=Hi ht;have ZX:=Hi hx;obtain ⟨z1,z2,z3,z4,z5,z6,z7⟩:=hz;obtain ⟨N,hN⟩:∃ N,N=(tz l).length:=⟨_,rfl⟩;rw [←hN] at z5 ⊢;have HN:=Hi hN;have HF:=Hi z4;have HD:=Hi z2;have HD2:=Hi z3;clear h ht hx hN z2 z3 z4;unfold ak;go_enter Tryz.func62,Tryz.ntmps62
 go_upto_region 1 with fail
 refine nmA ?_;intro w1 hE B3 hz_w1 hr_w1;refine mV3 hE ?_ HX LP HT;clear HX LP HT;intro HX LP HT
 go_wp2_with fail
 refine cM (bD pa P pc l _ LP.out zo) fun x7 w7 hE G7=>?_
 refine mV3 hE ?_ B3 HX HT;clear B3 HX HT;intro B3 HX HT;obtain ⟨qa0,Q0,qc0⟩:=x7;have LQ:=Hi G7.out.can.lin;have HQ0:Hid (Q0=N):=Hi (by have h:=G7.out.can.len;simp only at h;rw [HN.out];exact h.symm);clear G7;clear LP;have h0q:=HQ0.out;subst h0q;obtain ⟨b3,hb3⟩:∃ b,b=w.heap.size:=⟨_,rfl⟩;rw [←hb3] at B3 ⊢;clear hb3;simp only [SH.v];go_wp2
 go_loopg [0] Q0 (fun g v wr=>∃ (qa:Option Addr) (qn qc i:Nat) (q:List Rat),v=.slice qa qn qc∧Ext w wr∧aI wr ⟨qa,qn,qc⟩ q∧aP wr ⟨tn,ta,tl,tc,tb,tm,td⟩ x∧wr.heap[b3]?=some (.cells #[.bool tn,.slice ta tl tc,.slice tb tm td] 34 (0,0))∧tz q=q∧i+g=Q0∧qn≤g∧FrL (S+i) D q∧jU (g+1) q x=jU (Q0+1) (tz l) x)
 case atStart=>exact ⟨qa0,Q0,qc0,0,tz l,rfl,HX.out,LQ.out.can,HT.out,B3.out,aH l,zo,nXe _,HF.out,rfl⟩
 case round =>
  obtain ⟨qa,qn,qc,i,q,rfl,g1,g2,g3,g4,g5,g6,g7,g8,g9⟩:=hrel;clear HX LQ HT B3;have HX:=Hi g1;have LQ:=Hi g2.lin;have HT:=Hi g3;have B3:=Hi g4;have HQZ:=Hi g5;have HQF:=Hi g8;have HV:=Hi g9;have HQl:=Hi g2.len;simp only at HQl;clear g1 g2 g3 g4 g5 g8 g9;replace b_B3:=bX3 B3;by_cases h0:qn=0
  case pos =>
   subst h0;have HE:Hid (jU (Q0+1) (tz l) x=0):=Hi (by rw [←HV.out,nXj.1 HQl.out,Bo]);go_wp2
   go_ret
   exact ⟨(),by rw [HE.out];rfl,HX.out,trivial⟩
  obtain ⟨m,rfl⟩:∃ m,qn=m+1:=⟨qn-1,zo⟩;have hpos:(0:Int)<(m:Int)+1:=zo;have Hne:Hid (q≠[]):=Hi (fun h=>by have:=HQl.out;rw [h] at this;simp at this);have hmul:(m+1)*(T+1)≤n*(T+1):=nXh _ zo;have hD3:Hid (D<W32 ^ (S+i)):=Hi (nXn HD2.out (nXp aw zo));have HSZ:Hid (SzL 8000000 q):=Hi ((HQF.out.sz zo HD.out hD3.out).mono zo);have HEV:Hid (∀ k,k≤q.length→Sz 40000000 (evV (q.drop k) x)):=Hi (fun k _=>(mZ HQF.out ZX.out zo HD.out hD3.out k).mono (by rw [HQl.out];omega))
  go_wp2_with fail
  refine cM (gZ qa (m+1) qc q ⟨tn,ta,tl,tc,tb,tm,td⟩ x _ (LQ.out.can.raw HSZ.out dZ) HT.out zo (HSZ.out.mono dZ) (ZX.out.mono zo) HEV.out) fun x13 w13 hE G13=>?_
  refine mV4 hE ?_ HX LQ HT B3;clear HX LQ HT B3;intro HX LQ HT B3
  go_wp2_with fail
  refine cM (ct x13 (evV q x) _ (G13.out.raw (HEV.out 0 (Nat.zero_le _)) dZ)) fun x14 w14 hE _=>?_
  refine mV4 hE ?_ HX LQ HT B3;clear HX LQ HT B3;intro HX LQ HT B3;rw [iN];clear G13;obtain ⟨s,hs⟩:∃ s,s=Sg.sg (evV q x):=⟨_,rfl⟩;have HS:=Hi hs;rw [←hs];clear hs hmul;obtain ⟨g0,rfl⟩:∃ g0,gk=g0+1:=⟨gk-1,zo⟩;have HST:Hid (jU (g0+1+1) q x=if s≠0 then s else jU (g0+1) (tz (derL q)) x):=Hi (by
   rw [show jU (g0+1+1) q x=if q=[] then 0 else if Sg.sg (evV q x)≠0 then Sg.sg (evV q x) else jU (g0+1) (tz (derL q)) x from rfl,if_neg Hne.out,←HS.out])
  by_cases hs0:s=0
  case neg =>
   have hsb:(s == 0)=false:=by rw [nXs];exact hs0
   have hsb2:(s != 0)=true:=by rw [bne,hsb];rfl
   have HE:Hid (jU (Q0+1) (tz l) x=s):=Hi (by rw [←HV.out,HST.out,if_pos hs0]);go_wp2
   go_ret
   exact ⟨(),by rw [HE.out];rfl,HX.out,trivial⟩
  have HE:Hid (jU (g0+1) (tz (derL q)) x=jU (Q0+1) (tz l) x):=Hi (by rw [←HV.out,HST.out,if_neg (fun h=>h hs0)]);subst hs0;have HQ2:Hid ((tz (derL q)).length+1≤m+1):=Hi (by have:=iG (p:=q) (by rw [HQZ.out];exact Hne.out);have:=HQl.out;omega)
  go_wp2_with fail
  refine cM (jI qa (m+1) qc q _ LQ.out.can zo (HSZ.out.mono dZ)) fun x19 w19 hE G19=>?_
  refine mV3 hE ?_ HX HT B3;clear HX HT B3;intro HX HT B3;obtain ⟨da,dn,dc⟩:=x19;have HDD:Hid (aI w19 ⟨da,dn,dc⟩ (tz (derL q))):=Hi G19.out.can;have hdn:=HDD.out.len;simp only at hdn;have hd2:=HQ2.out;simp only [SH.v];go_wp2
  go_roundg g0
  case measure=>omega
  case rel=>exact ⟨da,dn,dc,i+1,_,rfl,HX.out,HDD.out,HT.out,B3.out,aH _,zo,zo,ib HQF.out (by have:=HQl.out;omega),HE.out⟩
end Go.Proofs.YtafgmcimcbhhjaaGreat
