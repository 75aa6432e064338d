import Derived.Test.YtafgmcimcbhhjaaGreatQJK10
set_option linter.unusedVariables false
set_option maxHeartbeats 8000000
set_option maxRecDepth 8000
namespace Go.Proofs.YtafgmcimcbhhjaaGreat
open Go.RowKit Go.Front Go.Num Stab Sg
attribute [local go_sem] XW.cell XW.frozen
abbrev pH(l:List Rat)(i:Nat):Rat:=l.getD (i+1) 0*(((i+1:Nat):Int):Rat)
theorem qY(l:List Rat){m:Nat}(h:l.length=m+1):tz ((List.range m).map (pH l))=tz (derL l):=by
 apply sO;intro i;have h2:=seq_derL l i;unfold seq at h2;rw [h2];by_cases hi:i<m
 ·rw [nXd,nXv,List.getElem?_range hi];show l.getD (i+1) 0*(((i+1:Nat):Int):Rat)=_;rw [Rat.intCast_natCast,nYc]
 ·rw [nXd,List.getElem?_eq_none (by simp;omega)];rw [nXd,List.getElem?_eq_none zo];show (0:Rat)=_*(0:Rat);rw [nYb]
theorem ja(ao:Option Addr)(n cap:Nat)(l:List Rat)(w:World)(h:cD w ⟨ao,n,cap⟩ l)(hn:n≤1000000)(hz:SzL 16777216 l) :
  au 139 [.slice ao n cap] w SH.v (fun s w'=>eL w.heap.size w' s (tz (derL l))):=by
 obtain ⟨i0,hi0,hz0,hz1,hz2⟩:=info_parts k9;have H:=Hi h;have HX:=Hi (Ext.refl w);have hle:=h.le;have hmx:=h.max;have Hlen:=Hi h.len;simp only at hle hmx Hlen;have HZ:=Hi hz;clear h hz;unfold au;go_enter Tryz.func139,Tryz.ntmps139;by_cases h0:n=0
 ·subst h0;have HV:Hid (tz (derL l)=[]):=Hi (by rw [nXj.1 Hlen.out];rfl);go_wp2
  go_ret
  exact ⟨⟨none,0,0⟩,rfl,HX.out,by rw [HV.out];exact eL.nil _ _⟩
 obtain ⟨m,rfl⟩:∃ m,n=m+1:=⟨n-1,zo⟩;clear h0;have hz0':((m:Int)+1 == 0)=false:=by rw [nXs];omega
 go_upto_region 4 with (refine aF rfl (.tmp 10) (.tmp 10) 24 rfl 34 i0 (RH.v default) 3 Tryz.underlying24 hi0 hz0 hz1 _ _ m rfl rfl zo zo (by rw [hz2];omega) zo ?_;intro w2 hnew hE)
 have KB:=Hi (RBk.make rfl hnew);clear hnew;replace HX:=hE.tr HX;have hs_w2:=hE.size;obtain ⟨L,hL⟩:∃ L,L=w.heap.size:=⟨_,rfl⟩;have hLw:w.heap.size≤L:=zo;rw [←hL] at KB ⊢;clear hL;go_wp2
 go_loopg [14] m (fun g v wr=>∃ (i:Nat) (rs:List RH),i+g=m∧v=.int .i64 (i:Nat)∧Ext w wr∧RBk wr L rs #[]∧rs.length=m∧jV wr rs ((List.range i).map (pH l)))
 case atStart=>exact ⟨0,_,zo,rfl,HX.out,KB.out,by simp,fun j hj=>by simp at hj⟩
 case round =>
  obtain ⟨i,rs,hi,rfl,g1,g4,g5,g6⟩:=hrel;clear HX KB;have HX:=Hi g1;have KB:=Hi g4;have HRl:=Hi g5;have PC:=Hi g6;clear g1 g4 g5 g6;have HTl:Hid (((List.range i).map (pH l)).length=i):=Hi (by simp)
  try clear f_KB l_KB
  have f_KB:=af KB.out;have l_KB:=(nXb.1 KB.out).1;by_cases h0:gk=0
  ·subst h0;obtain rfl:i=m:=by omega
   have hin:¬ (i:Int)<i:=zo;obtain ⟨ts,hts⟩:∃ ts,ts=(List.range i).map (pH l):=⟨_,rfl⟩;have HV:Hid (tz ts=tz (derL l)):=Hi (by rw [hts];exact qY l Hlen.out);have HSz:Hid (SzL 33554432 ts):=Hi (by
    intro q hq;rw [hts] at hq;obtain ⟨k,hk,rfl⟩:=nYf.1 hq;have hk:=List.mem_range.1 hk;have h1:Sz 16777216 (l.getD (k+1) 0):=HZ.out.at (by rw [Hlen.out];omega);exact (h1.mul (Sz.int (z:=((k+1:Nat):Int)) (by rw [nYh];show _<4294967296;omega))).mono dZ)
   rw [←hts] at PC HTl;clear hts;have LL:Hid (eL w.heap.size wr ⟨some ⟨L,0,none⟩,i,i⟩ ts):=Hi (jV.list PC.out KB.out HRl.out HTl.out hLw zo);clear KB;clear PC
   go_wp2_with fail
   refine cM (fi (some ⟨L,0,none⟩) i i ts _ (LL.out.can.raw HSz.out dZ)) fun x1 w1 hE G1=>?_
   refine mV2 hE ?_ HX LL;clear HX LL;intro HX LL;have hs_w1:=hE.size;obtain ⟨q1,q2⟩:=G1.out;have HQ1:=Hi q1;have HQ2:=Hi q2;clear q1 q2 G1;go_wp2
   go_ret
   refine ⟨⟨some ⟨L,0,none⟩,(tz ts).length,i⟩,rfl,HX.out,?_⟩;have:=LIn.take LL.out HQ2.out;rw [←HQ1.out] at this;rw [←HV.out];exact this
  ·have hin:(i:Int)<m:=zo;have hin1:(i:Int)+1<(m:Int)+1:=zo;obtain ⟨b,off,r,hao,hbl,⟨hc1,hc2,hc3⟩,hP⟩:=(H.out.ext HX.out).cells' (k:=i+1) zo;obtain ⟨rneg,ra,rn,rc,rb,rm,rd⟩:=r;simp only at hc1 hc2 hc3;subst hao;have RP:=Hi hP;clear hP;have HMp:Hid ((List.range i).map (pH l)++[l.getD (i+1) 0*(((i+1:Nat):Int):Rat)]=(List.range (i+1)).map (pH l)):=Hi (kH (pH l) i).symm
   go_upto_region 7 with fail
   refine wpG 11 (fun opIx=>match opIx with
    | 9=>sR ((((i+1:Nat):Int):Rat))
    | 10=>sR (l.getD (i+1) 0*(((i+1:Nat):Int):Rat))
    | _=>.quiet) (fun|10=>[9]|_=>[]) fun w0 he0 hz0 hc0 hf0=>?_
   refine wps he0 (fun w1 hW hG=>?_) fun x9=>?_
   ·exact spc [.int .i64 ((i+1:Nat):Int)] Tryz.func84 (d9 ((i+1:Nat):Int) _ zo zo)
   refine qZ ?_;refine wps he0 (fun w1 hW hG=>?_) fun x10=>?_
   ·have g9:=gS (hG 9 dZ);exact spc [RH.v ⟨rneg,ra,rn,rc,rb,rm,rd⟩,x9.v] Tryz.func85 (bQ _ _ _ _ _ (RP.out.ext hW) (g9.raw (Sz.int (by rw [nYh];show _<4294967296;omega)) dZ))
   refine qZ ?_;refine aq ?_;intro w5 hI;have hE:=he0.out.trans hI.ext;have G9:=gT (hI.facts 9);have G10:=gT (hI.facts 10);clear hI he0 hz0 hc0 hf0;refine mV3 hE ?_ KB PC HX;clear KB PC HX;intro KB PC HX;have hs_w5:=hE.size
   try clear f_KB l_KB
   have f_KB:=af KB.out;have l_KB:=(nXb.1 KB.out).1;simp only [pD];obtain ⟨f1,f2,f3⟩:=RBk.at (re:=#[]) KB.out (k:=i) (by rw [HRl.out];omega)
   go_upto_region 8 with fail
   refine jc (k:=i) KB.out rfl (by rw [HRl.out];omega) ?_;intro y6 T;clear f1 f2 f3 hc1 hc2 hc3;replace HX:=Hi (T.ext HX.out zo);replace PC:=Hi (PC.out.keep T.keep);replace KB:=Hi (T.bx);replace G9:=Hi (G9.out.keep T.keep);replace G10:=Hi (G10.out.keep T.keep);have hs_y6:=nle T.size;have hr_y6:=nle T.size.symm;clear T
   try clear f_KB l_KB
   have f_KB:=af KB.out;have l_KB:=(nXb.1 KB.out).1;replace PC:=Hi (PC.out.snoc (x:=x10) (i:=i) HTl.out (by rw [HRl.out];omega) G10.out);rw [HMp.out] at PC;go_wp2
   go_roundg (gk-1)
   case measure=>omega
   case rel=>exact ⟨i+1,_,zo,by go_num,HX.out,KB.out,by rw [nXo];exact HRl.out,PC.out⟩
end Go.Proofs.YtafgmcimcbhhjaaGreat
/- A list of slices of one's own that grows. -/
namespace Go.Proofs.YtafgmcimcbhhjaaGreat
open Go.RowKit Go.Front Go.Num
theorem Dn:(Tryz.prog.info? 24).map (fun i=>(i.zero,i.size,i.bytes))=some (some (.slice none 0 0),1,24):=by kernel_rfl
def bO(xs:List SH):List Value:=xs.map SH.v
theorem dO(xs:List SH):(bO xs).length=xs.length:=nXl _
theorem iX(xs ys:List SH):bO (xs++ys)=bO xs++bO ys:=List.map_append
theorem o4(xs:List SH):(bO xs).all fj=true:=by
 rw [List.all_eq_true];intro x hx;obtain ⟨s,-,rfl⟩:=nYf.1 hx;rfl
theorem rO(xs:List SH):∀ u ∈ bO xs,u.oneCell'=true:=by
 intro x hx;obtain ⟨s,-,rfl⟩:=nYf.1 hx;rfl
def SBk(w:World)(L:Nat)(xs:List SH)(re:Array Value):Prop:=w.heap[L]?=some (.cells ((bO xs).toArray++re) 24 (0,0))
theorem SBk.ext{w w':World}{L:Nat}{xs:List SH}{re:Array Value}(h:SBk w L xs re)(he:Ext w w'):SBk w' L xs re:=he.block h
instance {w w':World} {L:Nat} {xs:List SH} {re:Array Value}:Go.Front.Mv w w' (SBk w L xs re) (SBk w' L xs re):=⟨fun e h=>SBk.ext h e⟩

theorem SBk.lt{w:World}{L:Nat}{xs:List SH}{re:Array Value}(h:SBk w L xs re):L<w.heap.size:=(nXb.1 h).1
theorem SBk.noU{w:World}{L:Nat}{xs:List SH}{re:Array Value}(h:SBk w L xs re)(hre:re.toList.all fj=true):NoU w L :=
 aj h (by rw [Array.toList_append,List.all_append,hre,o4];rfl)
theorem SBk.cell{w:World}{L:Nat}{xs:List SH}{re:Array Value}(h:SBk w L xs re){k:Nat}(hk:k<xs.length):w.cell? ⟨L,k,none⟩=some (xs.getD k ⟨none,0,0⟩).v:=by
 rw [ae h,Array.getElem?_append_left (by rw [List.size_toArray,dO];exact hk),List.getElem?_toArray];unfold bO;rw [nXv,nXd,List.getElem?_eq_getElem hk];rfl
theorem lI(n:Nat):(Builtin.zeroCells (Value.slice none 0 0).cells n).toList.all fj=true:=by
 rw [List.all_eq_true];intro x hx;have h0:(Value.slice none 0 0).cells=#[.slice none 0 0]:=by rfl
 rw [h0] at hx;simp [Builtin.zeroCells,Nat.mod_one] at hx;rw [←hx.2];rfl
def mp(w:World)(D:Nat→Prop)(v:Value)(xs:List SH):Prop:=(v=.slice none 0 0∧xs=[])∨∃ L cap re,v=.slice (some ⟨L,0,none⟩) xs.length cap∧D L∧SBk w L xs re∧xs.length≤cap∧cap≤9223372036854775807∧xs.length+re.size=cap∧re.toList.all fj=true
theorem mp.nil(w:World)(D:Nat→Prop):mp w D (.slice none 0 0) []:=Or.inl ⟨rfl,rfl⟩
theorem mp.ext{w w':World}{D:Nat→Prop}{v:Value}{xs:List SH}(h:mp w D v xs)(he:Ext w w'):mp w' D v xs :=
 h.imp id fun ⟨L,cap,re,h1,h2,h3,h4⟩=>⟨L,cap,re,h1,h2,h3.ext he,h4⟩
instance {w w':World} {D:Nat→Prop} {v:Value} {xs:List SH}:Go.Front.Mv w w' (mp w D v xs) (mp w' D v xs):=⟨fun e h=>mp.ext h e⟩

theorem mp.mono{w:World}{D D':Nat→Prop}{v:Value}{xs:List SH}(h:mp w D v xs)(hD:∀ k,k<w.heap.size→D k→D' k):mp w D' v xs :=
 h.imp id fun ⟨L,cap,re,h1,h2,h3,h4⟩=>⟨L,cap,re,h1,hD _ h3.lt h2,h3,h4⟩
theorem mp.put{w1 w2:World}{D:Nat→Prop}{v:Value}{xs:List SH}{b:Nat}{T:TypeId}{cs:Array Value}(h:mp w1 D v xs)(T2:dK w1 b T cs w2)(hb:¬ D b):mp w2 D v xs :=
 h.imp id fun ⟨L,cap,re,g1,g2,g3,g4⟩=>⟨L,cap,re,g1,g2,T2.rest L _ (fun e=>hb (e ▸ g2)) g3,g4⟩
theorem mG(T ty:TypeId)(hT:Tryz.prog.underlying T=some (.slice 24))(w:World)(D:Nat→Prop)(v:Value)(xs:List SH)(x:SH)(N:Nat)(hown:mp w D v xs)(hN:SBk w N [x] #[])(hl:xs.length≤1073741824)(hD:∀ k,w.heap.size≤k→D k) :
    ∃ L cap w',(Builtin.append_ #[T,T] ty #[v,.slice (some ⟨N,0,none⟩) 1 1]).run Tryz.prog w=.ok (.slice (some ⟨L,0,none⟩) (xs.length+1) cap) w'∧mp w' D (.slice (some ⟨L,0,none⟩) (xs.length+1) cap) (xs++[x])∧aV D w w'∧gP w w':=by
  obtain ⟨i0,hi0,hz0,hz1,hz2⟩:=info_parts Dn;have hnl:(bO [x]).length=1*i0.size:=by rw [hz1];rfl
  have hone:∀ j u,(bO [x])[j]?=some u→w.cell? ((⟨N,0,none⟩:Addr).add j)=some u:=by
    intro j u hj;rw [eW,ae hN,Array.append_empty,List.getElem?_toArray];exact hj
  have hgc:∀ need old,need≤9223372036854775807→need≤grownCap w need old 24∧grownCap w need old 24≤9223372036854775807:=fun need old h=>⟨grownCap_ge _ _ _ _,by have:=grownCap_le_maxLen w need old 24 (by simpa [maxLen] using h);simpa [maxLen] using this⟩
  have hzs:(Value.slice none 0 0).cells.size=1:=by rfl
  rcases hown with ⟨rfl,rfl⟩|⟨L,cap,re,rfl,h1,h2,h3,h4,h5,h6⟩
  · have hr:=run_append_nil (P:=Tryz.prog) w T ty _ i0 _ hT hi0 hz0 ⟨N,0,none⟩ 1 1 (bO [x]) hnl hone dZ dZ (by rw [hz2];decide)
    obtain ⟨g1,g2⟩:=hgc 1 0 dZ;have he:Ext w (w.drew.alloc (.cells ((bO [x]).toArray++Builtin.zeroCells (Value.slice none 0 0).cells (grownCap w 1 0 24-1)) 24)):=(Ext.drew w).trans (Ext.alloc _ _);refine ⟨_,_,_,hr,Or.inr ⟨_,_,_,rfl,hD _ (nXe _),heap_alloc_new w.drew _,g1,g2,?_,lI _⟩,aV.of_ext he,dR he⟩;rw [size_zeroCells,hzs];simp only [nXi,List.length_nil,List.length_cons];omega
  · by_cases hroom:xs.length+1≤cap
    · have hcs:((bO xs).toArray++re).size=cap:=by rw [Array.size_append,List.size_toArray,dO,h5]
      have hr:=run_append_room (P:=Tryz.prog) w T ty _ i0 hT hi0 L xs.length cap _ h2 ⟨N,0,none⟩ 1 1 (bO [x]) hnl hone (rO _) hroom (by rw [hcs,hz1,hnl,hz1];omega);have e:(((bO xs).toArray++re).toList.take (xs.length*i0.size)++bO [x]++((bO xs).toArray++re).toList.drop (xs.length*i0.size+(bO [x]).length)).toArray=(bO (xs++[x])).toArray++(re.toList.drop 1).toArray:=by
        rw [hz1,hnl,hz1,Nat.mul_one,Array.toList_append,iX,←dO xs,List.take_left,←List.drop_drop,List.drop_left];apply Array.ext';simp
      rw [e] at hr;refine ⟨_,_,_,hr,Or.inr ⟨L,cap,_,by simp,h1,setRow_heap w L _ _ _ _ h2,by simpa using hroom,h4,?_,?_⟩,⟨rfl,rfl,rfl,by simp,fun k hk hnd=>setRow_other w L k _ (fun e=>hnd (e ▸ h1))⟩,j9 (h2.noU h6) fun k _ hk=>setRow_other w L k _ hk⟩
      · simp
        omega
      · rw [List.all_eq_true] at h6 ⊢
        intro x hx;exact h6 x (List.mem_of_mem_drop hx)
    · have hr := run_append_grow (P := Tryz.prog) w T ty _ i0 _ hT hi0 hz0 ⟨L, 0, none⟩ xs.length cap (bO xs) (by rw [dO, hz1, Nat.mul_one]) (fun j u hj => by
          have hlt:j<(bO xs).length:=(List.getElem?_eq_some_iff.1 hj).1;rw [eW,ae h2,Array.getElem?_append_left (by rw [List.size_toArray];exact hlt),List.getElem?_toArray];exact hj) ⟨N,0,none⟩ 1 1 (bO [x]) hnl hone zo zo (growslice_fits zo (by rw [hz2];omega))
      obtain ⟨g1,g2⟩:=hgc (xs.length+1) cap zo;have he:Ext w (w.drew.alloc (.cells ((bO xs).toArray++(bO [x]).toArray++Builtin.zeroCells (Value.slice none 0 0).cells (grownCap w (xs.length+1) cap 24-(xs.length+1))) 24)):=(Ext.drew w).trans (Ext.alloc _ _);refine ⟨_,_,_,hr,Or.inr ⟨w.heap.size,_,Builtin.zeroCells (Value.slice none 0 0).cells (grownCap w (xs.length+1) cap 24-(xs.length+1)),by simp,hD _ (nXe _),?_,by simpa using g1,g2,?_,lI _⟩,aV.of_ext he,dR he⟩
      · unfold SBk
        rw [iX];have e2:(bO xs++bO [x]).toArray=(bO xs).toArray++(bO [x]).toArray:=by simp
        rw [e2];exact heap_alloc_new w.drew _
      · rw [size_zeroCells,hzs]
        simp only [nXi,List.length_nil,List.length_cons];omega
theorem jU{w:World}{ops:Array Oper}{rest:List Oper}{o:Oper}{a:Act}{Q:Exit→Act→World→Prop}(hgd:o.guard=none)(s x:Operand)(T:TypeId)(hT:Tryz.prog.underlying T=some (.slice 24))
 (ho:o.op=.call { callee:=.builtin .append,args:=#[s,x],argTypes:=#[T,T] })(D:Nat→Prop)(v:Value)(xs:List SH)(r:SH)(hs:a.eval s=v)(hown:mp w D v xs)
 (hx:a.eval x=.slice (some ⟨w.heap.size,0,none⟩) 1 1)(hl:xs.length≤1073741824)(hD:∀ k,w.heap.size≤k→D k)
 (h:∀ L cap w',mp w' D (.slice (some ⟨L,0,none⟩) (xs.length+1) cap) (xs++[r])→aV D w w'→gP w w'→wpList Tryz.prog ops Q rest (a.put o.dst (.slice (some ⟨L,0,none⟩) (xs.length+1:Nat) cap)) w'):wpList Tryz.prog ops Q (o :: rest) a (w.alloc (.cells #[.slice r.a r.n r.c] 24)):=by
 have hE:Ext w (w.alloc (.cells #[.slice r.a r.n r.c] 24)):=Ext.alloc _ _;refine wpList_plain hgd fun K hK=>?_
 obtain ⟨L,cap,w',hrun,g1,g2,g3⟩:=mG T o.type hT (w.alloc (.cells #[.slice r.a r.n r.c] 24)) D v xs r w.heap.size (hown.ext hE) (by unfold SBk;exact heap_alloc_new _ _) hl (fun k hk=>hD k (nXf hE.size hk));unfold Oper.wp;simp [execOp,ho,resolve,invoke,builtin,hs,hx,hrun,Result.andThen];exact hK _ _ (by simpa using h L cap w' g1 ((aV.of_ext hE).trans g2) (fun _ _ _ _ hU=>g3 _ _ _ _ (hU.ext hE)))
def ChM(w:World)(lo B:Nat)(v:Value)(ps:List (List Rat)):Prop:=∃ xs,mp w (·=B) v xs∧xs.length=ps.length∧∀ k,k<ps.length→∃ b,b≠B∧lo≤b∧LIn w (xs.getD k ⟨none,0,0⟩) (ps.getD k []) b (b+1)
theorem ChM.nil(w:World)(lo B:Nat):ChM w lo B (.slice none 0 0) []:=⟨[],mp.nil _ _,rfl,fun k hk=>by simp at hk⟩
theorem ChM.ext{w w':World}{lo B:Nat}{v:Value}{ps:List (List Rat)}(h:ChM w lo B v ps)(he:Ext w w'):ChM w' lo B v ps :=
 let ⟨xs,h1,h2,h3⟩:=h;⟨xs,h1.ext he,h2,fun k hk=>let ⟨b,h4,h6,h5⟩:=h3 k hk;⟨b,h4,h6,h5.ext he⟩⟩
instance {w w':World} {lo B:Nat} {v:Value} {ps:List (List Rat)}:Go.Front.Mv w w' (ChM w lo B v ps) (ChM w' lo B v ps):=⟨fun e h=>ChM.ext h e⟩

theorem ChM.put{w1 w2:World}{lo B b:Nat}{v:Value}{ps:List (List Rat)}{T:TypeId}{cs:Array Value}(h:ChM w1 lo B v ps)(T2:dK w1 b T cs w2)(hb:b≠B∧b<lo):ChM w2 lo B v ps:=by
 obtain ⟨xs,h1,h2,h3⟩:=h;obtain ⟨hb,hlo⟩:=hb;exact ⟨xs,h1.put T2 (fun e=>hb e),h2,fun k hk=>let ⟨c,h4,h6,h5⟩:=h3 k hk;⟨c,h4,h6,h5.put T2 zo⟩⟩
theorem ChM.mono{w:World}{lo lo' B:Nat}{v:Value}{ps:List (List Rat)}(h:ChM w lo B v ps)(hl:lo'≤lo):ChM w lo' B v ps :=
 let ⟨xs,h1,h2,h3⟩:=h;⟨xs,h1,h2,fun k hk=>let ⟨c,h4,h6,h5⟩:=h3 k hk;⟨c,h4,nXf hl h6,h5⟩⟩
theorem ou{α:Type}{l m:List α}{d:α}{k:Nat}(h:k<l.length):(l++m).getD k d=l.getD k d:=by
 rw [nXd,nXd,List.getElem?_append_left h]
theorem oq{α:Type}{l:List α}{x d:α}:(l++[x]).getD l.length d=x:=by simp
theorem fy{w:World}{ops:Array Oper}{rest:List Oper}{o:Oper}{a:Act}{Q:Exit→Act→World→Prop}(hgd:o.guard=none)(s x:Operand)(T:TypeId)(hT:Tryz.prog.underlying T=some (.slice 24))
 (ho:o.op=.call { callee:=.builtin .append,args:=#[s,x],argTypes:=#[T,T] })(lo B:Nat)(v:Value)(ps:List (List Rat))(r:SH)(p:List Rat)(b:Nat)(hs:a.eval s=v)(hown:ChM w lo B v ps)(hr:LIn w r p b (b+1))(hb:b≠B)(hbo:lo≤b)
 (hx:a.eval x=.slice (some ⟨w.heap.size,0,none⟩) 1 1)(hl:ps.length≤1073741824)
 (h:∀ L cap w',ChM w' lo L (.slice (some ⟨L,0,none⟩) (ps.length+1:Nat) cap) (ps++[p])→Mut B w w'→(L=B∨w.heap.size≤L)→L<w'.heap.size→wpList Tryz.prog ops Q rest (a.put o.dst (.slice (some ⟨L,0,none⟩) (ps.length+1:Nat) cap)) w'):wpList Tryz.prog ops Q (o :: rest) a (w.alloc (.cells #[.slice r.a r.n r.c] 24)):=by
 obtain ⟨xs,h1,h2,h3⟩:=hown;refine jU hgd s x T hT ho (fun k=>k=B∨w.heap.size≤k) v xs r hs (h1.mono fun k _ e=>Or.inl e) hx (by rw [h2];exact hl) (fun k hk=>Or.inr hk) ?_;intro L cap w' q1 q2 q3;rw [h2];have hm:Mut B w w':=⟨q3,⟨q2.os,q2.tape,q2.output,q2.size,fun k hk hn=>q2.block k hk (fun h=>h.elim hn (fun h4=>Nat.lt_irrefl _ (nXn hk h4)))⟩⟩;rw [h2] at q1;rcases q1 with ⟨e,-⟩|⟨L2,cap2,re,e,g1,g2,g3⟩
 ·cases e
 ·obtain ⟨rfl,rfl⟩:L=L2∧cap=cap2:=by
   simp only [Value.slice.injEq,Option.some.injEq,Addr.mk.injEq] at e;exact ⟨e.1.1,e.2.2⟩
  have hne:∀ c,c≠B→c<w.heap.size→c≠L:=fun c h4 h5 h6=>by
   rcases g1 with h7|h7
   ·exact h4 (h6.trans h7)
   ·omega
  have hlt:∀ s q c,LIn w s q c (c+1)→c≠B→lo≤c→∃ c',c'≠L∧lo≤c'∧LIn w' s q c' (c'+1):=by
   intro s q c h4 h5 h9;have h6:=h4.mut hm zo;by_cases h7:c<w.heap.size
   ·exact ⟨c,hne c h5 h7,h9,h6⟩
   ·obtain ⟨rs,k1,k2,k3⟩:=h6;refine ⟨L+1+lo,zo,zo,rs,k1,k2,Or.inl ?_⟩;rcases k3 with k3|⟨y,off,e3,k4,k5⟩
    ·exact k3
    ·obtain ⟨rs2,m1,m2,m3⟩:=h4;rcases m1.in with m4|⟨y2,o2,e4,-,m5⟩
     ·exact m4
     ·rw [e3] at e4;simp only [Option.some.injEq,Addr.mk.injEq] at e4;omega
  refine h L cap w' ⟨xs++[r],Or.inr ⟨L,cap,re,by simp [h2],rfl,g2,g3⟩,by simp [h2],fun k hk=>?_⟩ hm g1 g2.lt;rw [nXi,List.length_cons,List.length_nil] at hk;by_cases hk2:k<ps.length
  ·obtain ⟨c,h4,h8,h5⟩:=h3 k hk2;obtain ⟨c',h6,h9,h7⟩:=hlt _ _ c h5 h4 h8;refine ⟨c',h6,h9,?_⟩;rw [ou zo,ou hk2];exact h7
  ·obtain rfl:k=ps.length:=by omega
   obtain ⟨c',h6,h9,h7⟩:=hlt _ _ b hr hb hbo;refine ⟨c',h6,h9,?_⟩;rw [←h2,oq,h2,oq];exact h7
open Stab Sg
attribute [local go_sem] XW.cell XW.frozen
theorem bs.lin{w:World}{L n c:Nat}{os:List Rat}(h:bs w L os)(hn:n≤os.length)(hc:os.length≤c)(hm:c≤9223372036854775807):LIn w ⟨some ⟨L,0,none⟩,n,c⟩ (os.take n) L (L+1):=by
 have h1:LIn w ⟨some ⟨L,0,none⟩,os.length,c⟩ os L (L+1):=by
  obtain ⟨rs,h2,h3⟩:=h.can rfl hc hm;exact ⟨rs,h2,h3,Or.inr ⟨L,0,rfl,nXe _,Nat.lt_succ_self _⟩⟩
 exact h1.take hn
theorem dF.lin{B:Nat}{w:World}{x:SH}{os:List Rat}(h:dF B w x os)(hl:os.length≤9223372036854775807):∃ L,B≤L∧L<w.heap.size∧x=⟨some ⟨L,0,none⟩,os.length,os.length⟩∧LIn w x os L (L+1):=by
 obtain ⟨L,h1,rfl,h2⟩:=h;refine ⟨L,h1,h2.lt,rfl,?_⟩;have:=h2.lin (n:=os.length) (c:=os.length) (nXe _) (nXe _) hl
 rwa [nXm (nXe _)] at this
theorem fu{S D:Nat}{p:List Rat}(hf:∀ x ∈ p,Fr S D x)(hl:p.length≤100000):∀ x ∈ tz (derL p),Fr (S+1) D x:=by
 intro x hx;obtain ⟨i,hi,rfl⟩:=cT hx;rw [bp];have h1:=seq_derL p i;unfold seq at h1;rw [h1];by_cases h2:i+1<p.length
 ·obtain ⟨w1,w2⟩:=hf _ (bK h2);obtain ⟨z,hz⟩:=Wh.iff.1 w1;rw [hz,Rat.num_intCast] at w2;refine Fr.int (z:=((i+1:Nat):Int)*z) ?_ (by rw [nYd,hz];exact_mod_cast rfl);rw [Int.natAbs_mul,nYh,nXt,nYe];exact Nat.mul_lt_mul'' w2 (by show _<4294967296;omega)
 ·rw [bh zo];rw [nYb];exact Fr.zero _ _
theorem uo{K S D:Nat}{p:List Rat}(hD:0<D)(hf:∀ x ∈ p,Fr S D x)(hl:p.length≤1000)(h0:tz p≠[])(hK:KZ K S p.length):GZ K (S+1) p (tz (derL p)):=by
 obtain ⟨n,hn⟩:∃ n,(tz p).length=n+1:=⟨(tz p).length-1,by have:=nYg.2 h0;omega⟩;have hd:=eK p n hn;have hp:=ah p;rcases hK with hK|hK
 ·refine Ci (P:=p.length) (Q:=p.length-1) (nXe _) zo ?_;rw [show max p.length (p.length-1+1)=p.length by omega];exact hK
 ·refine Cg (P:=p.length) (Q:=p.length) hD hD (fun x hx=>(hf x hx).mono (Nat.le_succ S)) (fu hf zo) (nXe _) zo zo ?_;rw [show p.length+p.length=2*p.length by omega];exact hK
theorem jA{S D:Nat}{p:List Rat}(hS:1≤S)(hD:0<D)(hf:∀ x ∈ p,Fr S D x)(hl:p.length≤1000)(h0:tz p≠[]){K:Nat}(hK:KZ K S p.length):∃ X,S+1≤X∧RmI K (ar p) (ar (tz (derL p))) X:=by
 obtain ⟨n,hn⟩:∃ n,(tz p).length=n+1:=⟨(tz p).length-1,by have:=nYg.2 h0;omega⟩;have hd:=eK p n hn;have hp:=ah p;have hb:(ar (tz (derL p))).length=(tz (derL p)).length:=by rw [aC,aM]
 have ha:(ar p).length=n+1:=by rw [aC,hn]
 have hft:∀ x ∈ tz p,Fr S D x:=fun x hx=>by
  obtain ⟨i,hi,rfl⟩:=cT hx;rw [bp];exact hf _ (bK zo)
 obtain ⟨X,h1,h2⟩:=uo hD hf hl h0 hK;exact ⟨X,h1,aX _,aX _,fun x hx=>(cY hft hD x hx).mono zo,fun x hx=>(cY (fun y hy=>fu hf zo y (by rwa [aM] at hy)) hD x hx).mono h1,zo,h2,Or.inr zo,zo,zo⟩
theorem mA(p:List Rat):ar (tz p)=ar p:=by unfold ar aK;rw [aM]
theorem Bq(pa qa:Option Addr)(P pc Q qc:Nat)(p q:List Rat)(S U:Nat)(w:World)(hp:bw w ⟨pa,P,pc⟩ p)(hq:bw w ⟨qa,Q,qc⟩ q)(hpw:∀ x ∈ p,Wz S x)(hqw:∀ x ∈ q,Wz U x)(hS:1≤S)(hU:1≤U)(htp:tz p=p)(htq:tz q=q)(hP:P≤100000)(hQ:0<Q)(hQP:Q≤P)(hsz:S+(P+1-Q)*(U+1)≤30000000)(hUz:U≤30000000) :
  au 185 [.slice pa P pc,.slice qa Q qc] w SH.v (fun x w'=>SrP p q S U w.heap.size x w'):=by
 obtain ⟨m,rfl⟩:∃ m,Q=m+1:=⟨Q-1,zo⟩;exact vX pa qa P pc m qc p q S U w hp hq hpw hqw hS hU htp htq hP zo (by rw [show P+1-(m+1)=P-m by omega] at hsz;exact hsz) hUz
structure RmL (w wr:World) (p:List Rat) (K b2:Nat) (xl xa xb:SH) (a b:List Rat):Prop where
 hx:Ext w wr
 hB2:wr.heap[b2]?=some (.cells #[.slice none 0 0] 95 (0,0))
 ex:∃ (fuel X B ba bb:Nat) (ps:List (List Rat)),w.heap.size≤B∧b2≠B∧ba≠B∧bb≠B∧ba<wr.heap.size∧bb<wr.heap.size∧b2<ba∧b2<bb∧LIn wr xa a ba (ba+1)∧LIn wr xb b bb (bb+1)∧ChM wr (b2+1) B xl.v ps∧RmI K a b X∧a.length<fuel∧ps++chn fuel a b=remsV p∧(∀ m ∈ ps,∀ y ∈ m,Wz K y)∧ps.length+a.length≤2000
abbrev CV(x:SH):Value:=.agg #[x.v]
theorem nE(pa:Option Addr)(P pc:Nat)(p:List Rat)(S D K:Nat)(w:World)(h:cD w ⟨pa,P,pc⟩ p)(hP:P≤1000)(h0:tz p≠[])(hS:1≤S)(hD:0<D)(hD2:D<W32 ^ S)(hf:∀ x ∈ p,Fr S D x)(hK:KZ K S P)(hK2:K≤16777216) :
  au 132 [.slice pa P pc] w CV (fun x w'=>(∃ B,w.heap.size≤B∧ChM w' w.heap.size B x.v (remsV p))∧∀ m ∈ remsV p,∀ y ∈ m,Wz K y):=by
 have LP:=Hi (RIn.of h);have HX:=Hi (Ext.refl w);have HPl:Hid (p.length=P):=Hi h.len;have HF:=Hi hf;obtain ⟨X0,hSX,hI0⟩:=jA hS hD hf (by have:=h.len;simp only at this;omega) h0 (by have:=h.len;simp only at this;rw [this];exact hK);have HI0:=Hi hI0;clear hI0;have hSK:S+2≤K:=by have:=HI0.out.small;omega
 have HSz:Hid (SzL S p):=Hi (bV hS hD hD2 hf);have HDF:Hid (∀ x ∈ tz (derL p),Fr (S+1) D x):=Hi (fu hf (by have:=h.len;simp only at this;omega));have hD3:D<W32 ^ (S+1):=nXn hD2 (nXp ay zo);clear h hf;unfold au;go_enter Tryz.func132,Tryz.ntmps132
 go_upto_region 1 with fail
 refine nmA ?_;intro w1 hE B2 hz_w1 hr_w1;refine mV2 hE ?_ LP HX;clear LP HX;intro LP HX;have hs_w1:=hE.size;replace b_B2:=bX3 B2
 go_wp2_with fail
 refine cM (nF pa P pc p S D _ LP.out.raw zo hS zo hD hD2 HF.out) fun x2 w2 hE G2=>?_
 refine mV3 hE ?_ B2 LP HX;clear B2 LP HX;intro B2 LP HX;have hs_w2:=hE.size;replace b_B2:=bX3 B2;obtain ⟨La,hLa,hLa2,hxa,hra⟩:=dF.lin G2.out (by rw [aC];have:=ah p;have:=HPl.out;omega);subst hxa;have HA:=Hi hra;clear hra G2
 go_wp2_with fail
 refine cM (ja pa P pc p _ LP.out.raw zo (HSz.out.mono zo)) fun x3 w3 hE G3=>?_
 refine mV4 hE ?_ B2 LP HX HA;clear B2 LP HX HA;intro B2 LP HX HA;have hs_w3:=hE.size;replace b_B2:=bX3 B2;obtain ⟨da,dn,dc⟩:=x3;have HD3:Hid (LIn w3 ⟨da,dn,dc⟩ (tz (derL p)) w2.heap.size w3.heap.size):=Hi G3.out;clear G3
 go_wp2_with fail
 refine cM (iS da dn dc (tz (derL p)) (S+1) D _ HD3.out.can (by have h2:=HD3.out.can.len;have h3:=HI0.out.2.2.2.2.2.2.2.2;rw [aC,aM] at h3;simp only at h2;omega) zo zo hD hD3 HDF.out) fun x4 w4 hE G4=>?_
 refine mV5 hE ?_ B2 LP HX HA HD3;clear B2 LP HX HA HD3;intro B2 LP HX HA HD3;have hs_w4:=hE.size;replace b_B2:=bX3 B2;obtain ⟨Lb,hLb,hLb2,hxb,hrb⟩:=dF.lin G4.out (by have h3:=HI0.out.2.2.2.2.2.2.2.2;omega);subst hxb;have HB:=Hi hrb;clear hrb G4;rw [mA] at *
 obtain ⟨B0,hB0⟩:∃ B0,B0=w4.heap.size:=⟨_,rfl⟩;have hb2w:w.heap.size<w1.heap.size:=zo;obtain ⟨b2,hb2⟩:∃ b2,b2=w.heap.size:=⟨_,rfl⟩;rw [←hb2] at B2 ⊢;have hb2l:b2<w1.heap.size:=zo;have hb2g:w.heap.size≤b2:=zo;clear hb2 b_B2;have hlen0:(ar p).length≤1000:=by rw [aC];have:=ah p;have:=HPl.out;omega
 go_wp2
 go_loopg [3,4,5] (ar p).length (fun g vl va vb wr=>∃ (xl xa xb:SH) (a b:List Rat),vl=xl.v∧va=xa.v∧vb=xb.v∧a.length=g∧RmL w wr p K b2 xl xa xb a b)
 case atStart =>
  refine ⟨⟨none,0,0⟩,_,_,ar p,ar (derL p),rfl,rfl,rfl,rfl,HX.out,B2.out,p.length+1,X0,w4.heap.size,La,Lb,[],zo,zo,zo,zo,zo,zo,zo,zo,HA.out,HB.out,ChM.nil _ _ _,HI0.out,?_,rfl,fun m hm=>by simp at hm,by simp;omega⟩;rw [aC];have:=ah p;omega
 case round =>
  obtain ⟨xl,xa,xb,a,b,rfl,rfl,rfl,hag,g1,g2,fuel,X,B,ba,bb,ps,g3,g4,g5,g6,g7,g8,g9,g10,g11,g12,g13,g14,g15,g16,g17,g18⟩:=hrel;clear HX B2 HA HB LP HD3;have HX:=Hi g1;have B2:=Hi g2;have HA:=Hi g11;have HB:=Hi g12;have HC:=Hi g13;have HI:=Hi g14;have HE:=Hi g16;have HW:=Hi g17;have hxa:=g11.len;have hxb:=g12.len;obtain ⟨aa,an,ac⟩:=xa;obtain ⟨xba,bn,bc⟩:=xb;simp only at hxa hxb;subst hxa hxb hag;clear g1 g2 g11 g12 g13 g14 g16 g17;have hb2r:b2<wr.heap.size:=(nXb.1 B2.out).1;replace b_B2:=bX3 B2;by_cases h0:a.length=0
  case pos =>
   have ha0:a=[]:=nXj.1 h0;subst ha0;have HV:Hid (ps=remsV p):=Hi (by
    have h1:=HE.out;obtain ⟨f2,rfl⟩:∃ f2,fuel=f2+1:=⟨fuel-1,zo⟩;rw [show chn (f2+1) [] b=[] by simp [chn]] at h1;simpa using h1)
   go_wp2;refine kT (F:=fun W=>bodyPost _ _ _ _ _ W) B2.out rfl ?_;intro y9 T;replace HX:=Hi (T.ext HX.out zo);replace B2:=Hi (T.bx);replace HC:=Hi (HC.out.put T zo);have hs_y9:=nle T.size;have hr_y9:=nle T.size.symm;clear T;replace b_B2:=bX3 B2;exact nXa (v:=CV xl) (by simp [results,Tryz.results132,go_sem,CV,b_B2.1]) rfl
    ⟨xl,rfl,HX.out,⟨B,g3,by rw [←HV.out];exact HC.out.mono zo⟩,by rw [←HV.out];exact HW.out⟩
  have ha0:(0:Int)<a.length:=zo
  go_upto_region 5 with (at_builtin;refine fy rfl (.tmp 16) (.tmp 18) 93 Tryz.underlying93 rfl (b2+1) B _ ps ⟨aa,a.length,ac⟩ a ba rfl HC.out HA.out g5 zo rfl zo ?_;intro L cap y1 q1 q2 q3 q4)
  have HX2:=Hi (q2.ext HX.out g3);have B22:=Hi (q2.rest b2 _ g4 B2.out);have HA2:=Hi (HA.out.mut q2 zo);have HB2:=Hi (HB.out.mut q2 zo);have HC2:=Hi q1;have hyr:=q2.size;have hLg:w.heap.size≤L:=zo;have hLb2:b2≠L:=zo;have hLa:ba≠L:=zo;have hLb:bb≠L:=zo;clear q1 q2 q3 HX B2 HA HB HC b_B2;have HX:=HX2;have B2:=B22;have HA:=HA2;have HB:=HB2;have HC:=HC2;clear HX2 B22 HA2 HB2 HC2;have hb2r:b2<y1.heap.size:=zo;have HAK:Hid (∀ m ∈ ps++[a],∀ y ∈ m,Wz K y):=Hi (fun m hm y hy=>by
   rcases List.mem_append.1 hm with hm|hm
   ·exact HW.out m hm y hy
   ·obtain rfl:m=a:=by simpa using hm
    exact (HI.out.2.2.1 y hy).mono (by have:=HI.out.small;omega))
  obtain ⟨f2,rfl⟩:∃ f2,fuel=f2+1:=⟨fuel-1,zo⟩;have Ha:Hid (a≠[]):=Hi (fun h=>h0 (by rw [h];rfl));replace b_B2:=bX3 B2;by_cases hb0:b.length=0
  case pos =>
   have hb1:b=[]:=nXj.1 hb0;subst hb1;have HV:Hid (ps++[a]=remsV p):=Hi (by
    have h1:=HE.out;rw [cX Ha.out] at h1;exact h1)
   go_wp2;refine kT (F:=fun W=>bodyPost _ _ _ _ _ W) B2.out rfl ?_;intro y9 T;replace HX:=Hi (T.ext HX.out zo);replace B2:=Hi (T.bx);replace HA:=Hi (HA.out.put T zo);replace HB:=Hi (HB.out.put T zo);replace HC:=Hi (HC.out.put T zo);have hs_y9:=nle T.size;have hr_y9:=nle T.size.symm;clear T;replace b_B2:=bX3 B2;exact nXa (v:=CV ⟨some ⟨L,0,none⟩,ps.length+1,cap⟩) (by simp [results,Tryz.results132,go_sem,CV,b_B2.1]) rfl
    ⟨⟨some ⟨L,0,none⟩,ps.length+1,cap⟩,rfl,HX.out,⟨L,hLg,by rw [←HV.out];exact HC.out.mono zo⟩,by rw [←HV.out];exact HAK.out⟩
  have hb1:((b.length:Int) == 0)=false:=by rw [nXs];omega
  have Hb:Hid (b≠[]):=Hi (fun h=>hb0 (by rw [h];rfl));have hba:b.length<a.length:=by
   rcases HI.out.2.2.2.2.2.2.1 with h|h
   ·exact absurd h Ha.out
   ·exact h
  have hXK:X+(a.length+1-b.length)*(X+1)≤K:=HI.out.size Hb.out;have hX1:1≤X:=HI.out.2.2.2.2.1;have hal:a.length≤100000:=HI.out.2.2.2.2.2.2.2.1;have HX0:=HX;have HA0:=HA;have HB0:=HB;have HC0:=HC;have B20:=B2;have HX7:=Hi (Ext.refl y1);clear HX;clear HA;clear HB;clear HC
  (try clear b_B2);clear B2
  go_wp2_with fail
  refine cM (Bq aa xba a.length ac b.length bc a b X X _ HA0.out.can HB0.out.can HI.out.2.2.1 HI.out.2.2.2.1 hX1 hX1 HI.out.1 HI.out.2.1 hal zo zo zo zo) fun x6 w6 hE G6=>?_
  replace HX7:=hE.tr HX7;have hs_w6:=hE.size;obtain ⟨Lr,n,c,ros,sq,f,hLr,hx6,hros,hnr,hrc,hcm,hf0,hd⟩:=G6.out;subst hx6;have HR:=Hi hros;have HD:=Hi hd;have HF0:=Hi hf0;clear G6 hros hd hf0;have hLy:y1.heap.size≤Lr:=hLr;have HRW:Hid (∀ k,k<n→Wz (X+(a.length+1-b.length)*(X+1)) (ros.getD k 0)):=Hi (fun k hk=>by
   have h1:=HD.out.2.2.2.1 _ (bK (i:=k) (l:=ros.take n) (by rw [nXk];omega))
   rwa [bU hk] at h1)
  go_wp2
  go_loopg [28] n (fun g v wr=>∃ (i:Nat),i+g=n∧v=.int .i64 (i:Nat)∧Ext y1 wr∧bs wr Lr (cu ros i (-1)))
  case atStart=>exact ⟨0,zo,rfl,HX7.out,by simpa [cu] using HR.out⟩
  case round =>
   obtain ⟨i,hi,rfl,g1,g2⟩:=hrel;clear HX7 HR;have HX7:=Hi g1;have HR:=Hi g2;have hyw:=g1.size;clear g1 g2
   (try simp only [SH.v])
   by_cases h1:gk=0
   case neg =>
    have hin:(i:Int)<n:=zo;have HV:Hid ((cu ros i (-1)).getD i 0=ros.getD i 0):=Hi (by
     unfold cu;have h1:((ros.take i).map (·*(-1))).length=i:=by rw [nXl,nXk];omega
     rw [nXd,List.getElem?_append_right zo,h1,Nat.sub_self,List.getElem?_drop,Nat.add_zero,←nXd])
    obtain ⟨r,⟨f1,f2,f3⟩,hrc'⟩:=bs.cells HR.out (k:=i) (by rw [aE];omega);rw [HV.out] at hrc';have HRC:=Hi hrc';clear hrc';have hfz:=bs.frozen HR.out;have hLl:=bs.lt HR.out;obtain ⟨ren,rea,rel,rec',reb,rem,red⟩:=r;simp only at f1 f2 f3
    go_wp2_with fail
    refine cM (wC ⟨ren,rea,rel,rec',reb,rem,red⟩ (ros.getD i 0) _ (HRC.out.raw ((HRW.out i zo).sz zo) zo)) fun x8 w8 hE G8=>?_
    refine mV3 hE ?_ HX7 HR HRC;clear HX7 HR HRC;intro HX7 HR HRC;have hs_w8:=hE.size;clear f1 f2 f3 hfz hLl;clear HRC;obtain ⟨r2,⟨f1,f2,f3⟩,-⟩:=bs.cells HR.out (k:=i) (by rw [aE];omega);have hfz:=bs.frozen HR.out;have hLl:=bs.lt HR.out
    go_upto_region 11 with fail
    refine gZ (k:=i) HR.out (by rw [aE];omega) G8.out ?_;rintro y6 ⟨cs,T⟩ TN;rw [show -ros.getD i 0=ros.getD i 0*(-1) by grind,mT zo] at TN;clear f1 f2 f3 hfz hLl HV;clear G8;clear HR;replace HX7:=Hi (T.ext HX7.out zo);have hs_y6:=nle T.size;have hr_y6:=nle T.size.symm;clear T;have HR:=Hi TN;clear TN;go_wp2
    go_roundg (gk-1)
    case measure=>omega
    case rel=>exact ⟨i+1,zo,by go_num,HX7.out,HR.out⟩
   subst h1;obtain rfl:i=n:=by omega
   have hin:¬ (i:Int)<i:=zo;have hib:i<b.length:=by have:=HD.out.2.2.2.2.2.1;rw [nXk] at this;omega
   have hbl:b.length≤100000:=zo;have HRN:Hid (bw wr ⟨some ⟨Lr,0,none⟩,i,c⟩ ((ros.take i).map (·*(-1)))):=Hi (by
    rw [←nW (-1) hnr];exact (HR.out.can (M:=ros.length) (aE _ _ _) hrc hcm).take hnr)
   have HFR:Hid (∀ x ∈ (ros.take i).map (·*(-1)),Fr (X+(a.length+1-b.length)*(X+1)) 1 x):=Hi (fun x hx=>by
    obtain ⟨y,hy,rfl⟩:=nYf.1 hx;rw [show y*(-1)=-y by grind];exact Fr.one (HD.out.2.2.2.1 y hy).neg)
   obtain ⟨hN,X2,hI2⟩:=HI.out.next Hb.out HF0.out HD.out;have HN:=Hi hN;have HI2:=Hi hI2;clear hN hI2
   go_wp2_with fail
   refine cM (iS (some ⟨Lr,0,none⟩) i c ((ros.take i).map (·*(-1))) (X+(a.length+1-b.length)*(X+1)) 1 _ HRN.out zo zo zo dZ (Nat.one_lt_pow zo dZ) HFR.out) fun x9 w9 hE G9=>?_
   refine mV2 hE ?_ HX7 HR;clear HX7 HR;intro HX7 HR;have hs_w9:=hE.size;obtain ⟨Ln,hLn,hLn2,hxn,hrn⟩:=dF.lin G9.out (by have:=HI2.out.2.2.2.2.2.2.2.2;omega);subst hxn;have HNB:=Hi hrn;clear hrn G9;go_wp2
   go_roundg b.length
   case measure=>omega
   case rel =>
    refine ⟨⟨some ⟨L,0,none⟩,ps.length+1,cap⟩,⟨xba,b.length,bc⟩,_,b,_,rfl,rfl,rfl,rfl,HX0.out.trans HX7.out,HX7.out.block B20.out,f2,_,L,bb,Ln,ps++[a],hLg,hLb2,hLb,zo,zo,hLn2,zo,zo,HB0.out.ext HX7.out,(by have h:=HNB.out;simp only [List.map_take] at h ⊢;exact h),HC0.out.ext HX7.out,(by have h:=HI2.out;simp only [List.map_take] at h ⊢;exact h),zo,?_,HAK.out,by simp;omega⟩;have hN:=HN.out;simp only [List.map_take] at hN ⊢;rw [hN,List.append_assoc,List.singleton_append,←dS Ha.out Hb.out];exact HE.out
theorem sX(pa:Option Addr)(P pc:Nat)(p:List Rat)(S D K:Nat)(w:World)(h:bw w ⟨pa,P,pc⟩ p)(hP:P≤1000)(h0:tz p≠[])(hS:1≤S)(hD:0<D)(hD2:D<W32 ^ S)(hf:∀ x ∈ p,Fr S D x)(hK:KZ K S P)(hK2:K≤16777216) :
  au 132 [.slice pa P pc] w CV (fun x w'=>(∃ B,w.heap.size≤B∧ChM w' w.heap.size B x.v (remsV p))∧∀ m ∈ remsV p,∀ y ∈ m,Wz K y) :=
 nE pa P pc p S D K w (h.raw (bV hS hD hD2 hf) (by have:=hK.small;omega)) hP h0 hS hD hD2 hf hK hK2
theorem nD{p q:List Rat}{c:Rat}(hc:0<c)(h:∀ n,seq p n=seq q n*c):bC p=bC q:=by
 have hc0:c≠0:=fun h=>by rw [h] at hc;exact absurd hc Rat.lt_irrefl
 have h1:tz p=(tz q).map (·*c):=by
  rw [←eN hc0];exact jR fun n=>by rw [aQ];exact h n
 by_cases h0:tz q=[]
 ·unfold bC;rw [h1,h0];rfl
 ·have hl:((tz q).getLast?.getD 0).abs≠0:=fun k=>by
   have h2:=vT h0;rw [k] at h2;have e0:(1:Rat) / 0=0:=by rw [Rat.div_def,Rat.inv_zero,nYb]
   rw [e0] at h2;exact absurd h2 Rat.lt_irrefl
  have e:((tz p).getLast?.getD 0).abs=((tz q).getLast?.getD 0).abs*c:=by
   rw [h1,List.getLast?_map];cases k:(tz q).getLast? with
   | none=>exact absurd (List.getLast?_eq_none_iff.1 k) h0
   | some y=>exact nq hc y
  unfold bC;rw [e,h1,List.map_map];refine List.map_congr_left fun x hx=>?_
  show x*c*(1 / (((tz q).getLast?.getD 0).abs*c))=x*(1 / ((tz q).getLast?.getD 0).abs);have h3:=ke hc0 1 hl;rw [Rat.one_mul] at h3;rw [←h3];rw [Rat.div_def,Rat.div_def];have h4:=nYj c hc0;grind
theorem oO(p:List Rat):bC (bC p)=bC p:=by
 by_cases h:tz p=[]
 ·rw [fL.2 h];rfl
 ·exact nD (vT h) (fun n=>by unfold bC;rw [aQ,aT])
theorem jY(p:List Rat):bC (ar p)=bC p:=by
 by_cases h:tz p=[]
 ·rw [bH.2 h,fL.2 h];rfl
 ·exact (nD (aZ h) (fun n=>by rw [cS p n];grind)).symm
theorem zP:∀ (n:Nat) (a b:List Rat),bC a=a→bC b=b→∀ m ∈ rch n a b,bC m=m:=by
 intro n;induction n with
 | zero=>intro a b _ _ m hm;simp [rch] at hm
 | succ n ih =>
  intro a b ha hb m hm;unfold rch at hm;split at hm
  ·simp at hm
  ·split at hm
   ·obtain rfl:m=a:=by simpa using hm
    exact ha
   ·rcases List.mem_cons.1 hm with rfl|hm
    ·exact ha
    ·exact ih _ _ hb (oO _) m hm
theorem pL(q:List Rat):lz q=(remsV q).map bC:=by
 have h1:=o6 (q.length+1) (bC q) (bC (derL q)) (gX _) (gX _);rw [ik,ik] at h1;show _=(chn (q.length+1) (ar q) (ar (derL q))).map bC;rw [←h1,List.map_map];have h2:=zP (q.length+1) (bC q) (bC (derL q)) (oO _) (oO _);show rch (q.length+1) (bC q) (bC (derL q))=_;refine (List.map_id _).symm.trans (List.map_congr_left fun m hm=>?_);show m=bC (ar m);rw [jY,h2 m hm]
theorem wS{a b:List Rat}(ha:tz a≠[])(hb:tz b≠[]):bC (bS (bB (bC a) (bC b)) ((-1:Int):Rat))=bC (ar ((bB a b).map (·*-1))):=by
 have hua:tz (bC a)≠[]:=fun h=>by rw [gX] at h;exact ha (fL.1 h)
 have hub:tz (bC b)≠[]:=fun h=>by rw [gX] at h;exact hb (fL.1 h)
 have h1:=mR hua hub;have h2:=mR ha hb;rw [ik,ik] at h1;have h3:∀ l:List Rat,bC (bS l ((-1:Int):Rat))=bC (l.map (·*-1)):=fun l=>by
  unfold bS bC;rw [aM];rfl
 rw [h3,←jY,←h1,h2]
theorem uM{a b:List Rat}{S U:Nat}(h:∃ s r f,DvP a b S U s r f):∃ s r f,0<f∧DvP a b S U s r f:=by
 obtain ⟨s,r,f,h⟩:=h;rcases tri f 0 with h0|h0|h0
 ·obtain ⟨d0,d1,d2,d3,d4,d5,d6,d7⟩:=h;refine ⟨s.map (·*-1),r.map (·*-1),-f,by grind,by grind,d1.neg,fun x hx=>?_,fun x hx=>?_,by rw [eN dZ,d4],by simpa using d5,by simpa using d6,fun n=>?_⟩
  ·obtain ⟨y,hy,rfl⟩:=nYf.1 hx;rw [show y*-1=-y by grind];exact (d2 y hy).neg
  ·obtain ⟨y,hy,rfl⟩:=nYf.1 hx;rw [show y*-1=-y by grind];exact (d3 y hy).neg
  ·have e:seq (s.map (·*-1))=fun i=>-1*seq s i:=by funext i;rw [aQ];grind
   rw [e,fF,aQ];have:=d7 n;grind
 ·exact absurd h0 h.1
 ·exact ⟨s,r,f,h0,h⟩
theorem zy(p:List Rat):bC p=bq p∨bC p=(bq p).map (·*-1):=by
 by_cases h:tz p=[]
 ·left;rw [fL.2 h];unfold bq;rw [if_pos h]
 ·obtain ⟨n,hn,h0⟩:=dN h;have hl:aJ (tz p)=seq p n:=by unfold aJ;rw [hn,bp];rfl
  have hl2:(tz p).getLast?.getD 0=seq p n:=by
   rw [List.getLast?_eq_getElem?,hn,Nat.add_sub_cancel,←nXd,bp];rfl
  rw [jH h,hl];unfold bC;rw [hl2];unfold Rat.abs;split
  ·left;rfl
  ·right
   rw [List.map_map];refine List.map_congr_left fun x hx=>?_
   show x*(1 / -(seq p n))=x*(((1:Int):Rat) / seq p n)*-1;have e1:=aw (a:=1) (b:=seq p n) h0;have e2:=aw (a:=1) (b:=-(seq p n)) (by grind);have e3:1 / -(seq p n)=-(1 / seq p n):=by
    have h3:(1 / -(seq p n)+1 / seq p n)*seq p n=0:=by grind
    rcases nXr.1 h3 with h4|h4
    ·grind
    ·contradiction
   rw [e3,show ((1:Int):Rat)=1 from rfl];grind
theorem oP{a:List Rat}{X:Nat}(ha:∀ x ∈ a,Wz X x)(ht:tz a=a)(hX:1≤X):∃ D,0<D∧D<W32 ^ X∧FrL X D (bC a):=by
 obtain ⟨D,h1,h2,h3⟩:=mY ha ht hX;refine ⟨D,h1,h2,?_⟩;rcases zy a with e|e
 ·rw [e];exact h3
 ·rw [e];intro x hx;obtain ⟨y,hy,rfl⟩:=nYf.1 hx;rw [show y*-1=-y by grind];exact (h3 y hy).neg
theorem kq(p:List Rat):(bC p).length=(tz p).length:=by unfold bC;rw [nXl]
theorem Au{T:Nat}{x:Rat}(h:Sz T x):Fr T x.den x:=by
 refine Fr.int (z:=x.num) h.1 ?_;exact low x
theorem Co{S D T:Nat}{l:List Rat}{x:Rat}(hl:FrL S D l)(hx:Sz T x):∀ j k,k+j=l.length→Fr (S+j*(T+1)) (D*x.den ^ j) (evV (l.drop k) x):=by
 intro j;induction j with
 | zero =>
  intro k hk;rw [List.drop_eq_nil_of_le zo];exact Fr.zero _ _
 | succ j ih =>
  intro k hk;rw [oA l x zo];have h1:=(ih (k+1) zo).mul (Au hx);have hd:x.den ^ (j+1)≤W32 ^ (T*(j+1)):=by
   rw [Nat.pow_mul];exact Nat.pow_le_pow_left (nYl hx.2) _
  have h2:=(hl.at k).up (E:=x.den ^ (j+1)) hd (nYm x.den_pos);rw [Nat.mul_assoc,←nXt] at h1;have e1:j*(T+1)=j*T+j:=Nat.mul_succ _ _;have e2:(j+1)*(T+1)=j*T+j+(T+1):=by rw [nXy,e1]
  have e3:T*(j+1)=j*T+T:=by rw [Nat.mul_succ,nYe]
  refine ((h1.mono (S':=S+j*T+j+T) zo).add (h2.mono zo)).mono zo
theorem yT{S D T:Nat}{l:List Rat}{x:Rat}(hl:FrL S D l)(hx:Sz T x)(hS:1≤S)(hD:0<D)(hD2:D<W32 ^ S)(k:Nat):Sz (S+l.length*(T+1)) (evV (l.drop k) x):=by
 rcases Nat.lt_or_ge l.length k with h|h
 ·rw [List.drop_eq_nil_of_le zo];exact (Sz.int (z:=0) dZ).mono zo
 ·have h1:=Co hl hx (l.length-k) k zo;have hm:(l.length-k)*(T+1)≤l.length*(T+1):=nXh _ zo;refine (h1.sz zo (Nat.mul_pos hD (nYm x.den_pos)) ?_).mono zo;have hd:x.den ^ (l.length-k)≤W32 ^ ((l.length-k)*(T+1)):=by
   rw [nYe,Nat.pow_mul];refine Nat.pow_le_pow_left (nXf (nYl hx.2) (nXp ay zo)) _
  rw [Nat.pow_add];exact Nat.mul_lt_mul_of_lt_of_le hD2 hd (nYm ay)
end Go.Proofs.YtafgmcimcbhhjaaGreat
