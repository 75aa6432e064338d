import Derived.Test.YtkcpmclnocmalaaGreatQMM3
import Derived.Maps.AppendAt
set_option linter.unusedVariables false
set_option maxRecDepth 8000
set_option maxHeartbeats 1000000
namespace Go.Proofs.YtkcpmclnocmalaaGreat
open Go.RowKit Go.Front Go.Num
attribute [local go_sem] XW.cell XW.frozen
def eZ(w:World)(B:Nat)(v:Value)(ds:List Nat):Prop:=w.ownsRow B 124 1 v ds.length (ij ds)
theorem eZ.nil(w:World)(B:Nat):eZ w B (.slice none 0 0) []:=World.ownsRow_nil _ _ _ _
theorem eZ.form{w:World}{B:Nat}{v:Value}{ds:List Nat}(h:eZ w B v ds):(v=.slice none 0 0∧ds=[])∨∃ L cap re,v=.slice (some ⟨L,0,none⟩) ds.length cap∧B≤L∧DB w L ds re∧ds.length≤cap∧cap≤9223372036854775807∧ds.length+re.size=cap:=by
 rcases h.2 with ⟨h1,h2⟩|⟨g,cap,cur,h1,h2,h3,h4,h5,h6,h7⟩
 ·exact Or.inl ⟨h1,nXj.1 h2⟩
 ·refine Or.inr ⟨g,cap,cur.extract ds.length cur.size,h1,h2,?_,h4,by simpa [maxLen] using h5,by simp;omega⟩;unfold DB;rw [h3]
  congr 2
  apply Array.ext';simp only [Array.toList_append,Array.toList_extract];have e:cur.toList=cur.toList.take ds.length++cur.toList.drop ds.length:=(List.take_append_drop _ _).symm;rw [Nat.mul_one] at h7
  conv=>lhs;rw [e,h7]
  simp;rw [nXm (by simp)]
theorem eZ.slice{w:World}{B:Nat}{v:Value}{ds:List Nat}(h:eZ w B v ds)(hd:Dig ds):∃ ao cap,v=.slice ao ds.length cap∧U32 w ao ds.length cap ds∧ds.length≤cap:=by
 rcases h.form with ⟨rfl,rfl⟩|⟨L,cap,re,rfl,_,h1,h2,h3,_⟩
 ·exact ⟨none,0,rfl,bP _,nXe _⟩
 ·exact ⟨_,cap,rfl,h1.u32 rfl h2 h3 hd,h2⟩
theorem eZ.ext{w w':World}{B:Nat}{v:Value}{ds:List Nat}(h:eZ w B v ds)(he:Ext w w'):eZ w' B v ds :=
 ⟨h.1,h.2.imp id fun ⟨g,cap,cur,h1,h2,h3,h4⟩=>⟨g,cap,cur,h1,h2,he.block h3,h4⟩⟩
instance {w w':World} {B:Nat} {v:Value} {ds:List Nat}:Go.Front.Mv w w' (eZ w B v ds) (eZ w' B v ds):=⟨fun e h=>eZ.ext h e⟩

theorem eZ.mono{w:World}{B B':Nat}{v:Value}{ds:List Nat}(h:eZ w B v ds)(he:B'≤B):eZ w B' v ds :=
 ⟨h.1,h.2.imp id fun ⟨g,cap,cur,h1,h2,h3,h4⟩=>⟨g,cap,cur,h1,nXf he h2,h3,h4⟩⟩
theorem aJ{w:World}{ops:Array Oper}{rest:List Oper}{o:Oper}{a:Act}{Q:Exit→Act→World→Prop}(hgd:o.guard=none)(s x:Operand)
 (ho:o.op=.call { callee:=.builtin .append,args:=#[s,x],argTypes:=#[33,33] })(B:Nat)(v:Value)(ds es:List Nat)(hs:a.eval s=v)(hown:eZ w B v ds)(hd:Dig ds)
 (bo:Option Addr)(m c:Nat)(hx:a.eval x=.slice bo m c)(hU:U32 w bo m c es)(hl:ds.length+m≤8589934592)(hB:B≤w.heap.size)
 (h:∀ ao cap w',eZ w' B (.slice ao (ds.length+m) cap) (ds++es)→Below B w w'→wpList Tryz.prog ops Q rest (a.put o.dst (.slice ao (ds.length+m) cap)) w'):wpList Tryz.prog ops Q (o :: rest) a w:=by
 obtain ⟨i0,hi0,hz0,hz1,hz2⟩:=info_parts eO;have hml:=hU.len;by_cases h0:m=0
 ·obtain ⟨ao,cap,rfl,h1,h2⟩:=hown.slice hd;subst h0;have hes:es=[]:=nXj.1 hml;subst hes;refine eS hgd s x _ ho _ i0 Tryz.underlying33 hi0 ao bo _ cap c h2 hs hx ?_;exact h ao cap w (by rw [List.append_nil];exact hown) (Below.refl _ _)
 ·obtain ⟨b,off,rfl,hc⟩:=hU.at'.resolve_left h0;refine wpList_append_own w hgd s x _ ho B _ i0 (.int .u32 0) 1 4 Tryz.underlying33 hi0 hz0 hz1 hz2 rfl dZ v ds.length (ij ds) hs hown ⟨b,off,none⟩ m c (ij es) hx (by simp [ij,hml]) ?_ ?_ (by simp [maxLen];omega) zo hB ?_
  ·intro j u hj;rw [ie];have hj':j<es.length:=by
    rcases Nat.lt_or_ge j es.length with h|h
    ·exact h
    ·simp [ij,List.getElem?_eq_none h] at hj
   rw [hc j zo];simp [ij,hj'] at hj;simp [hj',hj]
  ·intro u hu;simp only [ij,nYg] at hu;obtain ⟨d,_,rfl⟩:=hu;rfl
  ·intro v' w' hown' hgrow _;have ho':eZ w' B v' (ds++es):=by
    unfold eZ;rw [nXi,hml];simpa [ij] using hown'
   obtain ⟨ao,cap,rfl,-,-⟩:=ho'.slice (hd.append hU.dig);rw [nXi,hml] at ho' ⊢;refine h ao cap w' ho' ((Below.refl _ _).grown hgrow hB ?_);intro k hk;exact (hown.lt k hk).1
def tv(ds:List Nat)(w:World)(e:Ending)(w':World):Prop:=∃ v,e=.returned v∧eZ w' w.heap.size v ds∧Ext w w'
theorem tv.dpost{ds:List Nat}{w:World}{e:Ending}{w':World}(hd:Dig ds)(h:tv ds w e w'):iM ds w e w':=by
 obtain ⟨v,rfl,h1,h2⟩:=h;obtain ⟨ao,cap,rfl,h3,-⟩:=h1.slice hd;exact ⟨ao,_,cap,rfl,h3,h2⟩
theorem gg(ao:Option Addr)(n cap:Nat)(ds:List Nat)(w:World)(h:U32 w ao n cap ds)(hn:n≤4294967297) :
  Calls Tryz.prog 89 #[.slice ao n cap] w (tv (digs (val ds)) w):=by
 rw [←et h.dig];have H:=Hi h;have hle:=h.le;have hmx:=h.max;have Hlen:=Hi h.len;clear h;go_enter Tryz.func89,Tryz.ntmps89;go_wp2
 go_loopg [3] n (fun g nv wr=>nv=.int .i64 (g:Nat)∧g≤n∧strip ds=strip (ds.take g)∧w=wr)
 case atStart=>exact ⟨rfl,nXe _,by rw [nXm (by rw [Hlen.out];exact nXe _)],rfl⟩
 case round =>
  obtain ⟨rfl,hg,hs,rfl⟩:=hrel;have Hs:=Hi hs;clear hs;have Hfin:gk=0∨(∃ k,gk=k+1∧ds.getD k 0≠0)→strip ds=ds.take gk:=by
   intro h;rcases h with h|⟨k,h,hk⟩
   ·rw [Hs.out,h,List.take_zero];rfl
   ·subst h;rw [Hs.out,lP (by rw [Hlen.out];omega) hk]
  by_cases h0:gk=0
  ·have HF:=Hi (Hfin (Or.inl h0));subst h0;clear Hfin
   go_wp2_with (at_builtin;refine aJ rfl (.const (.slice none 0 0)) (.tmp 20) rfl w.heap.size _ [] (ds.take 0) rfl (eZ.nil _ _) Dig.nil ao 0 cap rfl (H.out.take (Nat.zero_le _)) (by simp) (nXe _) ?_;intro ao' cap' w' g1 g2)
   go_ret
   exact ⟨_,rfl,by rw [HF.out];simpa using g1,g2⟩
  ·obtain ⟨k,rfl⟩:∃ k,gk=k+1:=⟨gk-1,zo⟩;obtain ⟨b,off,d,hao,hc,hd,hdl⟩:=H.out.at (k:=k) zo;subst hao;have Hd:=Hi hd;clear hd h0;by_cases hz:d=0
   ·subst hz;clear Hfin;go_wp2
    go_roundg k
    case measure=>omega
    case rel=>exact ⟨by go_num,zo,by rw [Hs.out,lO (by rw [Hlen.out];omega) Hd.out.symm],rfl⟩
   ·have hzb:((d:Int) == 0)=false:=by simp;omega
    have HF:=Hi (Hfin (Or.inr ⟨k,rfl,by rw [←Hd.out];exact hz⟩));have HT:=Hi (H.out.take (m:=k+1) hg);clear Hfin
    go_wp2_with (at_builtin;refine aJ rfl (.const (.slice none 0 0)) (.tmp 20) rfl w.heap.size _ [] (ds.take (k+1)) rfl (eZ.nil _ _) Dig.nil (some ⟨b,off,none⟩) (k+1) cap rfl HT.out (by simp;omega) (nXe _) ?_;intro ao' cap' w' g1 g2)
    go_ret
    exact ⟨_,rfl,by rw [HF.out];simpa using g1,g2⟩
theorem aU(a:SH)(ds:List Nat)(w:World)(h:a.U w ds)(hn:a.n≤1073741824):ar 89 [a.v] w SH.v (fun s w'=>s.U w' (digs (val ds))):=by
 refine (gg _ _ _ ds w h zo).mono ?_;intro e w' hp;obtain ⟨ao,m,c,rfl,h1,h2⟩:=hp.dpost (cF _);exact ⟨⟨ao,m,c⟩,rfl,h2,h1⟩
theorem j0(a b:SH)(ds es:List Nat)(w:World)(ha:a.U w ds)(hb:b.U w es)(hn:a.n≤1073741824)(hm:b.n≤1073741824):ar 96 [a.v,b.v] w (fun _:Unit=>.int .i64 (bU (val ds:Nat) (val es:Nat))) (fun _ _=>True):=by
 obtain ⟨ao,n,c⟩:=a;obtain ⟨bo,m,d⟩:=b;simp only [SH.U] at ha hb hn hm;have HA:=Hi ha;have HB:=Hi hb;clear ha hb;unfold ar;go_enter Tryz.func96,Tryz.ntmps96
 go_wp2_with fail
 refine cM (aU ⟨ao,n,c⟩ _ _ HA.out hn) fun x1 w1 hE G1=>?_
 obtain ⟨hcw,hfw⟩:=ak hE;have hsw:=hE.size
 (try simp only [nXc] at hsw)
 have E1:=Hi ((Ext.refl w).trans hE);have X1:=Hi hE
 go_wp2_with fail
 refine cM (aU ⟨bo,m,d⟩ _ _ (HB.out.ext E1.out) hm) fun x2 w2 hE G2=>?_
 obtain ⟨hcw,hfw⟩:=ak hE;have hsw:=hE.size
 (try simp only [nXc] at hsw)
 have E2:=Hi ((E1.out).trans hE);have X2:=Hi hE;have h1:=G1.out.ext X2.out;have h2:=G2.out;obtain ⟨ao1,n1,c1⟩:=x1;obtain ⟨ao2,n2,c2⟩:=x2;simp only [SH.v]
 change U32 w2 ao1 n1 c1 _ at h1
 change U32 w2 ao2 n2 c2 _ at h2
 have hvx:val ds=val (digs (val ds)):=by rw [ag]
 have hvy:val es=val (digs (val es)):=by rw [ag]
 obtain ⟨x,hx⟩:∃ x,x=digs (val ds):=⟨_,rfl⟩;obtain ⟨y,hy⟩:∃ y,y=digs (val es):=⟨_,rfl⟩;have NX:lD x:=by rw [hx];exact ce _
 have NY:lD y:=by rw [hy];exact ce _
 rw [←hx] at h1 hvx;rw [←hy] at h2 hvy;have HVX:=Hi hvx;have HVY:=Hi hvy;have HNX:=Hi NX;have HNY:=Hi NY;have hl1:=h1.len;have hl2:=h2.len;have hxm:x.length≤9223372036854775807:=by rw [hl1];exact nXf h1.le h1.max
 subst hl1 hl2;have HX:=Hi h1;have HY:=Hi h2;clear h1 h2 hx hy hvx hvy NX NY G1 G2 hcw hfw;by_cases hl:x.length=y.length
 ·have hl':((x.length:Int) != y.length)=false:=by simp;omega
  have hl1:x.length≤y.length:=zo;have hl2:y.length≤x.length:=zo;have HL:=Hi hl;clear hl;go_wp2
  go_loopg [5] x.length (fun g i wr=>i=.int .i64 ((g:Int)-1)∧g≤x.length∧x.drop g=y.drop g∧Ext w2 wr)
  case atStart=>exact ⟨by go_num,nXe _,by rw [List.drop_of_length_le (nXe _),List.drop_of_length_le zo],Ext.refl _⟩
  case round =>
   obtain ⟨rfl,hg,hs,hq⟩:=hrel;have Hq:=Hi hq;have Hs:=Hi hs;clear hq hs;by_cases h0:gk=0
   ·subst h0;go_wp2
    go_ret
    have:=Hs.out;simp only [List.drop_zero] at this;exact ⟨(),aZ (by rw [HVX.out,HVY.out,this,dH rfl]),E2.out.trans Hq.out,trivial⟩
   ·obtain ⟨k,rfl⟩:∃ k,gk=k+1:=⟨gk-1,zo⟩;obtain ⟨b,off,d,hao,hc,hd,hdl⟩:=HX.out.at (k:=k) zo;obtain ⟨b',off',d',hao',hc',hd',hdl'⟩:=HY.out.at (k:=k) zo;subst hao hao';replace hc:=Hq.out.cell hc;replace hc':=Hq.out.cell hc';have hbl:b<wr.heap.size:=nXq _ _ hc;have hbl':b' < wr.heap.size:=nXq _ _ hc';have Hd:=Hi hd;have Hd':=Hi hd';clear hd hd' h0;have h1:k<x.length:=zo;have h2:k<y.length:=zo;rcases (show d<d'∨d' < d∨d=d' by omega) with hlt|hlt|he
    ·have hb1:decide ((d:Int)<d')=true:=by simp;omega
     go_wp2
     go_quiet (fail)
     go_wp2
     go_ret
     refine ⟨(),aZ ?_,(E2.out.trans Hq.out).trans (Ext.drewN _ _),trivial⟩;have:=nw HX.out.dig HY.out.dig h1 h2 Hs.out (by rw [←Hd.out,←Hd'.out];omega);rw [HVX.out,HVY.out,←this,←Hd.out,←Hd'.out,dG zo]
    ·have hb1:decide ((d:Int)<d')=false:=by simp;omega
     have hb2:decide ((d':Int)<d)=true:=by simp;omega
     go_wp2
     go_quiet (fail)
     go_wp2
     go_quiet (fail)
     go_wp2
     go_ret
     refine ⟨(),aZ ?_,((E2.out.trans Hq.out).trans (Ext.drewN _ _)).trans (Ext.drewN _ _),trivial⟩;have:=nw HX.out.dig HY.out.dig h1 h2 Hs.out (by rw [←Hd.out,←Hd'.out];omega);rw [HVX.out,HVY.out,←this,←Hd.out,←Hd'.out,cX zo]
    ·subst he;go_wp2
     go_quiet (fail)
     go_wp2
     go_quiet (fail)
     go_wp2
     go_roundg k
     case measure=>omega
     case rel =>
      refine ⟨by go_num,zo,?_,Hq.out.trans (Ext.drewN _ _)⟩;have e:=Hd.out.symm.trans Hd'.out;simp only [nXd,List.getElem?_eq_getElem h1,List.getElem?_eq_getElem h2,Option.getD_some] at e;rw [List.drop_eq_getElem_cons h1,List.drop_eq_getElem_cons h2,Hs.out,e]
 ·have hl':((x.length:Int) != y.length)=true:=by simp;omega
  have hc:=rY HX.out.dig HY.out.dig HNX.out HNY.out hl;rw [←HVX.out,←HVY.out] at hc;have HC:=Hi hc;clear hc;by_cases hlt:x.length<y.length
  ·go_wp2
   go_ret
   exact ⟨(),aZ (by rw [←HC.out,dG zo]),E2.out,trivial⟩
  ·go_wp2
   go_ret
   exact ⟨(),aZ (by rw [←HC.out,cX zo]),E2.out,trivial⟩
theorem gA{y:List Nat}{i:Nat}(h:y.length≤i):y.getD i 0=0:=by simp [List.getElem?_eq_none h]
theorem iU(y:List Nat)(i:Nat):val (y.take (i+1))=val (y.take i)+W32 ^ i*y.getD i 0:=by
 by_cases h:i<y.length
 ·exact au h
 ·rw [iV zo,gA zo]
theorem AddR.step{x y os:List Nat}{i c d e:Nat}(h:val os+W32 ^ i*c=val (x.take i)+val (y.take i))(hl:os.length=i)(hd:d=x.getD i 0)(he:e=y.getD i 0) :
  val (os++[(c+d+e) % 4294967296])+W32 ^ (i+1)*((c+d+e) / 4294967296)=val (x.take (i+1))+val (y.take (i+1)):=by
 rw [bp,hl,iU,iU,nXu,←hd,←he];exact mD zo h
theorem dU(a:SH)(ds:List Nat)(w:World)(h:a.U w ds)(hn:a.n≤4294967297):ar 89 [a.v] w SH.v (fun s w'=>s.U w' (digs (val ds))):=by
 refine (gg _ _ _ ds w h hn).mono ?_;intro e w' hp;obtain ⟨ao,m,c,rfl,h1,h2⟩:=hp.dpost (cF _);exact ⟨⟨ao,m,c⟩,rfl,h2,h1⟩
theorem eZ.u32{w:World}{B:Nat}{ao:Option Addr}{n cap:Nat}{ds:List Nat}(h:eZ w B (.slice ao n cap) ds)(hd:Dig ds):U32 w ao n cap ds:=by
 obtain ⟨a,c,e,hU,-⟩:=h.slice hd;injection e with e1 e2 e3
 subst e1 e2 e3;exact hU
theorem eZ.db{w:World}{B L n cap:Nat}{ds:List Nat}(h:eZ w B (.slice (some ⟨L,0,none⟩) n cap) ds):ds=[]∨∃ re,DB w L ds re:=by
 rcases h.form with ⟨h1,h2⟩|⟨L',cap',re,h1,h2,h3,_⟩
 ·exact Or.inl h2
 ·injection h1 with e1
  injection e1 with e1
  injection e1 with e4
  subst e4;exact Or.inr ⟨re,h3⟩
theorem eT(w:World)(X:Int)(a:Nat)(hX:X=(a:Int))(ha:a<4294967296):U32 (w.alloc (.cells #[.int .u32 X] 124)) (some ⟨w.heap.size,0,none⟩) 1 1 [a]:=by
 subst hX;exact eE w a ha
theorem Ad(a b:SH)(x y:List Nat)(w:World)(ha:a.U w x)(hb:b.U w y)(hn:a.n≤1073741824)(hm:b.n≤1073741824):ar 95 [a.v,b.v] w SH.v (fun s w'=>s.U w' (digs (val x+val y))):=by
 obtain ⟨ao,n,c⟩:=a;obtain ⟨bo,m,d⟩:=b;simp only at hn hm;have hnl:=ha.len;have hml:=hb.len;simp only at hnl hml;subst hnl hml;have HX:=Hi ha;have HY:=Hi hb;clear ha hb;unfold ar
 change Calls Tryz.prog _ #[.slice ao x.length c,.slice bo y.length d] w _
 go_enter Tryz.func95,Tryz.ntmps95;go_wp2
 go_loopg [5,6,7] (x.length+y.length) (fun g v cc i wr=>∃ (k vc:Nat) (vo:Option Addr) (os:List Nat),i=.int .i64 (os.length:Nat)∧cc=.int .u64 (k:Nat)∧v=.slice vo os.length vc∧Ext w wr∧eZ wr w.heap.size v os∧Dig os∧val os+W32 ^ os.length*k=val (x.take os.length)+val (y.take os.length)∧k≤1∧(os.length≤x.length∨os.length≤y.length)∧os.length+g=x.length+y.length)
 case atStart=>exact ⟨0,0,none,[],rfl,rfl,rfl,Ext.refl _,eZ.nil _ _,Dig.nil,by simp [val],zo,by simp,by simp⟩
 case round =>
  obtain ⟨k,vc,vo,os,rfl,rfl,rfl,hE,ho,hod,hov,hk1,hor,hg⟩:=hrel;have HE:=Hi hE;have HO:=Hi ho;have HOD:=Hi hod;have HOV:=Hi hov;clear hE ho hod hov;have hEs:=HE.out.size;by_cases hx:os.length<x.length
  ·obtain ⟨gr,rfl⟩:∃ gr,gk=gr+1:=⟨gk-1,zo⟩;obtain ⟨b,off,dx,hao,hc,hd,hdl⟩:=HX.out.at hx;subst hao;replace hc:=HE.out.cell hc;have Hd:=Hi hd;clear hd;by_cases hy:os.length<y.length
   ·obtain ⟨b',off',e,hbo,hc',he,hel⟩:=HY.out.at hy;subst hbo;replace hc':=HE.out.cell hc';have He:=Hi he;clear he
    go_wp2_with (at_builtin;refine aJ rfl (.tmp 42) (.tmp 45) rfl w.heap.size _ os [(k+dx+e) % 4294967296] rfl (HO.out.ext (Ext.alloc _ _)) HOD.out _ 1 1 rfl (eT _ _ _ zo (Nat.mod_lt _ dZ)) zo (by simp;omega) ?_;intro ao' cap' w4 g1 g2)
    have H4:=Hi g1;have hE4:Ext w w4:=Ext.of_below (HE.out.trans (Ext.alloc _ _)) g2 (nXe _);have HE4:=Hi hE4;clear g1 g2 hE4;go_wp2
    go_roundg gr
    case measure=>omega
    case rel=>exact ⟨(k+dx+e) / 4294967296,cap',ao',os++[(k+dx+e) % 4294967296],by rw [nXi];go_num,congrArg _ zo,by rw [nXi];rfl,HE4.out,H4.out,HOD.out.append (Dig.cons (Nat.mod_lt _ dZ) Dig.nil),by rw [nXi];exact AddR.step HOV.out rfl Hd.out He.out,zo,by rw [nXi];simp only [List.length_singleton];omega,by rw [nXi];simp only [List.length_singleton];omega⟩
   ·have He:Hid (0=y.getD os.length 0):=Hi (gA zo).symm
    go_wp2_with (at_builtin;refine aJ rfl (.tmp 42) (.tmp 45) rfl w.heap.size _ os [(k+dx+0) % 4294967296] rfl (HO.out.ext (Ext.alloc _ _)) HOD.out _ 1 1 rfl (eT _ _ _ zo (Nat.mod_lt _ dZ)) zo (by simp;omega) ?_;intro ao' cap' w4 g1 g2)
    have H4:=Hi g1;have hE4:Ext w w4:=Ext.of_below (HE.out.trans (Ext.alloc _ _)) g2 (nXe _);have HE4:=Hi hE4;clear g1 g2 hE4;go_wp2
    go_roundg gr
    case measure=>omega
    case rel=>exact ⟨(k+dx+0) / 4294967296,cap',ao',os++[(k+dx+0) % 4294967296],by rw [nXi];go_num,congrArg _ zo,by rw [nXi];rfl,HE4.out,H4.out,HOD.out.append (Dig.cons (Nat.mod_lt _ dZ) Dig.nil),by rw [nXi];exact AddR.step HOV.out rfl Hd.out He.out,zo,by rw [nXi];simp only [List.length_singleton];omega,by rw [nXi];simp only [List.length_singleton];omega⟩
  ·have Hd:Hid (0=x.getD os.length 0):=Hi (gA zo).symm;by_cases hy:os.length<y.length
   ·obtain ⟨gr,rfl⟩:∃ gr,gk=gr+1:=⟨gk-1,zo⟩;obtain ⟨b',off',e,hbo,hc',he,hel⟩:=HY.out.at hy;subst hbo;replace hc':=HE.out.cell hc';have He:=Hi he;clear he
    go_wp2_with (at_builtin;refine aJ rfl (.tmp 42) (.tmp 45) rfl w.heap.size _ os [(k+0+e) % 4294967296] rfl (HO.out.ext (Ext.alloc _ _)) HOD.out _ 1 1 rfl (eT _ _ _ zo (Nat.mod_lt _ dZ)) zo (by simp;omega) ?_;intro ao' cap' w4 g1 g2)
    have H4:=Hi g1;have hE4:Ext w w4:=Ext.of_below (HE.out.trans (Ext.alloc _ _)) g2 (nXe _);have HE4:=Hi hE4;clear g1 g2 hE4;go_wp2
    go_roundg gr
    case measure=>omega
    case rel=>exact ⟨(k+0+e) / 4294967296,cap',ao',os++[(k+0+e) % 4294967296],by rw [nXi];go_num,congrArg _ zo,by rw [nXi];rfl,HE4.out,H4.out,HOD.out.append (Dig.cons (Nat.mod_lt _ dZ) Dig.nil),by rw [nXi];exact AddR.step HOV.out rfl Hd.out He.out,zo,by rw [nXi];simp only [List.length_singleton];omega,by rw [nXi];simp only [List.length_singleton];omega⟩
   ·go_wp2_with (at_builtin;refine aJ rfl (.tmp 49) (.tmp 52) rfl w.heap.size _ os [k] rfl (HO.out.ext (Ext.alloc _ _)) HOD.out _ 1 1 rfl (eT _ _ _ zo zo) zo (by simp;omega) ?_;intro ao' cap' w4 g1 g2)
    have hD:Dig (os++[k]):=HOD.out.append (Dig.cons (by unfold W32;omega) Dig.nil);have hU:=g1.u32 hD;have hE4:Ext w w4:=Ext.of_below (HE.out.trans (Ext.alloc _ _)) g2 (nXe _);have hv:val (os++[k])=val x+val y:=by
     rw [bp,HOV.out,aw zo,aw zo]
    have HU:=Hi hU;have HE4:=Hi hE4;have HV:=Hi hv;clear g1 g2 hD hU hE4 hv
    go_wp2_with fail
    refine Calls.mono (dU ⟨ao',os.length+1,cap'⟩ _ _ HU.out (by simp only;omega)) ?_;rintro e w5 ⟨x5,rfl,hE5,g5⟩;rw [HV.out] at g5;have G5:=Hi g5;have HE5:=Hi (HE4.out.trans hE5);clear g5 hE5;go_wp2
    go_ret
    exact ⟨x5,rfl,HE5.out,G5.out⟩
theorem SubR.step{os x y:List Nat}{i c t d e r c':Nat}(h:val os+val (y.take i)=val (x.take i)+W32 ^ i*c)(hl:os.length=i)(hd:d=x.getD i 0)(he:e=y.getD i 0)(hr:r+(c+e)=d+4294967296*c')(ht:t=r) :
  val (os++[t])+val (y.take (i+1))=val (x.take (i+1))+W32 ^ (i+1)*c':=by
 rw [bp,hl,iU,iU,nXu,←hd,←he,ht];exact qC (by unfold W32;omega) h
theorem Bw{w:World}{B L cap:Nat}{os:List Nat}{d e:Nat}{rest:List Nat}(h:eZ w B (.slice (some ⟨L,0,none⟩) (os++d :: rest).length cap) (os++d :: rest)):eZ (w.setCell ⟨L,os.length,none⟩ (.int .u32 (e:Int))) B (.slice (some ⟨L,0,none⟩) (os++[e]++rest).length cap) (os++[e]++rest):=by
 rcases h.2 with ⟨h1,-⟩|⟨g,cp,cur,h1,h2,h3,h4,h5,h6,h7⟩
 ·cases h1
 ·injection h1 with e1 e2 e3
  injection e1 with e1
  injection e1 with e4
  subst e4 e3;refine ⟨by simp [ij],Or.inr ⟨L,cap,cur.setIfInBounds os.length (.int .u32 (e:Int)),rfl,h2,ax h3 _ _,by simpa using h4,h5,by simpa using h6,?_⟩⟩;rw [Nat.mul_one] at *
  rw [Array.toList_setIfInBounds,List.take_set];have hlen:(os++[e]++rest).length=(os++d :: rest).length:=by simp
  rw [hlen,h7];simp [ij]
theorem qB(a b:SH)(x y:List Nat)(w:World)(ha:a.U w x)(hb:b.U w y)(hn:a.n≤1073741824)(hm:b.n≤1073741824)(hle:val y≤val x):ar 97 [a.v,b.v] w SH.v (fun s w'=>s.U w' (digs (val x-val y))):=by
 obtain ⟨ao,n,c⟩:=a;obtain ⟨bo,m,d⟩:=b;simp only at hn hm;have HA:=Hi ha;have HB:=Hi hb;have hxl:=aE ha.dig;have hyl:=aE hb.dig;rw [ha.len] at hxl;rw [hb.len] at hyl;simp only at hxl hyl;clear ha hb;have hcp:decide (bU (val x:Nat) (val y:Nat)<0)=false:=by
  unfold bU;rw [if_neg zo];split <;> rfl
 unfold ar
 change Calls Tryz.prog _ #[.slice ao n c,.slice bo m d] w _
 go_enter Tryz.func97,Tryz.ntmps97
 go_wp2_with fail
 refine cM (j0 ⟨ao,n,c⟩ ⟨bo,m,d⟩ _ _ _ HA.out HB.out hn hm) fun x1 w1 hE G1=>?_
 obtain ⟨hcw,hfw⟩:=ak hE;have hsw:=hE.size
 (try simp only [nXc] at hsw)
 have E1:=Hi ((Ext.refl w).trans hE);have X1:=Hi hE
 go_wp2_with fail
 refine cM (aU ⟨bo,m,d⟩ _ _ (HB.out.ext E1.out) hm) fun x2 w2 hE G2=>?_
 obtain ⟨hcw,hfw⟩:=ak hE;have hsw:=hE.size
 (try simp only [nXc] at hsw)
 have E2:=Hi ((E1.out).trans hE);have X2:=Hi hE
 go_wp2_with fail
 refine (gg ao n c x _ (HA.out.ext E2.out) zo).mono ?_;rintro e w3 ⟨v,rfl,g1,g2⟩;obtain ⟨bo2,m2,d2⟩:=x2;have hY:=G2.out
 change U32 w2 bo2 m2 d2 _ at hY
 obtain ⟨X,hX⟩:∃ X,X=digs (val x):=⟨_,rfl⟩;obtain ⟨Y,hYe⟩:∃ Y,Y=digs (val y):=⟨_,rfl⟩;have hvx:val x=val X:=by rw [hX,ag]
 have hvy:val y=val Y:=by rw [hYe,ag]
 have hXd:Dig X:=by rw [hX];exact cF _
 rw [←hX] at g1 hxl;rw [←hYe] at hY hyl;have hml:=hY.len;subst hml;have HVX:=Hi hvx;have HVY:=Hi hvy;have HXD:=Hi hXd;have HY:=Hi hY;have HE3:=Hi (E2.out.trans g2);have hYX:Y.length≤X.length:=by rw [hX,hYe];exact bT hle
 have hvl:val Y≤val X:=zo;have HVL:=Hi hvl;clear hvx hvy hX hYe hXd hY G2 hcw hfw hcp hvl;rcases g1.form with ⟨rfl,hnil⟩|⟨L,cap,re,rfl,hL,-,-,-,-⟩
 ·subst hnil;clear g1;have hg2:=Hi g2;clear g2;simp only [SH.v];go_wp2
  go_loopg [6,7] 0 (fun g cc i wr=>cc=.int .u64 0∧i=.int .i64 0∧w3=wr)
  case atStart=>exact ⟨rfl,rfl,rfl⟩
  case round =>
   obtain ⟨rfl,rfl,rfl⟩:=hrel
   go_wp2_with fail
   refine Calls.mono (dU ⟨none,0,0⟩ [] _ (bP _) (by simp)) ?_;rintro e w5 ⟨x5,rfl,hE5,g5⟩;have G5:=Hi g5;have HE5:=Hi (HE3.out.trans hE5);clear g5 hE5;go_wp2
   go_ret
   refine ⟨x5,rfl,HE5.out,?_⟩;rw [HVX.out,HVY.out];have h0:val ([]:List Nat)-val Y=0:=by simp [val]
   rw [h0];exact G5.out
 ·have HO:=Hi g1;have hw3:L<w3.heap.size:=(g1.lt L rfl).2;have hg2:=Hi g2;clear g1 g2;simp only [SH.v];go_wp2
  go_loopg [6,7] X.length (fun g cc i wr=>∃ (k:Nat) (os:List Nat),os.length+g=X.length∧i=.int .i64 (os.length:Nat)∧cc=.int .u64 (k:Nat)∧Ext w2 wr∧L<wr.heap.size∧eZ wr w2.heap.size (.slice (some ⟨L,0,none⟩) X.length cap) (os++X.drop os.length)∧Dig os∧val os+val (Y.take os.length)=val (X.take os.length)+W32 ^ os.length*k∧k≤1)
  case atStart=>exact ⟨0,[],by simp,rfl,rfl,hg2.out,hw3,by simpa using HO.out,Dig.nil,by simp [val],zo⟩
  case round =>
   obtain ⟨k,os,hg,rfl,rfl,hE,hLw,ho,hod,hov,hk1⟩:=hrel;have HE:=Hi hE;have HOr:=Hi ho;have HOD:=Hi hod;have HOV:=Hi hov;clear hE ho hod hov;by_cases hlt:os.length<X.length
   ·obtain ⟨gr,rfl⟩:∃ gr,gk=gr+1:=⟨gk-1,zo⟩;have hdX:X.drop os.length=X.getD os.length 0 :: X.drop (os.length+1):=by rw [List.drop_eq_getElem_cons hlt];simp [hlt]
    obtain ⟨dx,hdx⟩:∃ dx,dx=X.getD os.length 0:=⟨_,rfl⟩;have hdl:dx<4294967296:=by rw [hdx];exact HXD.out.at _
    rw [←hdx] at hdX;have hcf:wr.cell? ⟨L,os.length,none⟩=some (.int .u32 (dx:Int))∧wr.frozen? ⟨L,os.length,none⟩=false:=by
     have ho:=HOr.out;rw [hdX] at ho;rcases ho.db with h|⟨re',h⟩
     ·simp at h
     ·refine ⟨?_,h.frozen _⟩;rw [h.cell (by simp)];simp
    obtain ⟨hcL,hfL⟩:=hcf;have Hdx:=Hi hdx;have HdX:=Hi hdX;clear hdx hdX;have hset:∀ e:Nat,eZ (wr.setCell ⟨L,os.length,none⟩ (.int .u32 (e:Int))) w2.heap.size (.slice (some ⟨L,0,none⟩) X.length cap) (os++[e]++X.drop (os.length+1)):=fun e=>by
     have ho:=HOr.out;rw [HdX.out] at ho;have hl:(os++dx :: X.drop (os.length+1)).length=X.length:=by simp;omega
     have hl2:(os++[e]++X.drop (os.length+1)).length=X.length:=by simp;omega
     rw [←hl] at ho;have:=Bw (e:=e) ho;rw [hl2] at this;exact this
    have Hset:=Hi hset;clear hset;by_cases hy:os.length<Y.length
    ·obtain ⟨b',off',e,hbo,hc',he,hel⟩:=HY.out.at hy;subst hbo;replace hc':=HE.out.cell hc';have He:=Hi he;clear he;by_cases hb:dx<k+e
     ·have hbd:decide ((dx:Int)<k+e)=true:=by simp;omega
      go_wp2
      go_roundg gr
      case measure=>omega
      case rel =>
       refine ⟨1,os++[dx+4294967296-(k+e)],by simp;omega,by rw [nXi];go_num,rfl,Ext.set HE.out hL _,by simpa using hLw,?_,HOD.out.append (Dig.cons (by unfold W32;omega) Dig.nil),by rw [nXi];exact SubR.step HOV.out rfl Hdx.out He.out zo rfl,zo⟩;have:=Hset.out (dx+4294967296-(k+e));rw [nXi,show (dx:Int)+4294967296-((k:Int)+e)=((dx+4294967296-(k+e):Nat):Int) by omega];exact this
     ·have hbd:decide ((dx:Int)<k+e)=false:=by simp;omega
      go_wp2
      go_roundg gr
      case measure=>omega
      case rel =>
       refine ⟨0,os++[dx-(k+e)],by simp;omega,by rw [nXi];go_num,rfl,Ext.set HE.out hL _,by simpa using hLw,?_,HOD.out.append (Dig.cons (by unfold W32;omega) Dig.nil),by rw [nXi];exact SubR.step HOV.out rfl Hdx.out He.out zo rfl,zo⟩;have:=Hset.out (dx-(k+e));rw [nXi,show (dx:Int)-((k:Int)+e)=((dx-(k+e):Nat):Int) by omega];exact this
    ·have He:Hid (0=Y.getD os.length 0):=Hi (gA zo).symm;by_cases hb:dx<k+0
     ·have hbd:decide ((dx:Int)<k)=true:=by simp;omega
      go_wp2
      go_roundg gr
      case measure=>omega
      case rel =>
       refine ⟨1,os++[dx+4294967296-(k+0)],by simp;omega,by rw [nXi];go_num,rfl,Ext.set HE.out hL _,by simpa using hLw,?_,HOD.out.append (Dig.cons (by unfold W32;omega) Dig.nil),by rw [nXi];exact SubR.step HOV.out rfl Hdx.out He.out zo rfl,zo⟩;have:=Hset.out (dx+4294967296-(k+0));rw [nXi,show (dx:Int)+4294967296-(k:Int)=((dx+4294967296-(k+0):Nat):Int) by omega];exact this
     ·have hbd:decide ((dx:Int)<k)=false:=by simp;omega
      go_wp2
      go_roundg gr
      case measure=>omega
      case rel =>
       refine ⟨0,os++[dx-(k+0)],by simp;omega,by rw [nXi];go_num,rfl,Ext.set HE.out hL _,by simpa using hLw,?_,HOD.out.append (Dig.cons (by unfold W32;omega) Dig.nil),by rw [nXi];exact SubR.step HOV.out rfl Hdx.out He.out zo rfl,zo⟩;have:=Hset.out (dx-(k+0));rw [nXi,show (dx:Int)-(k:Int)=((dx-(k+0):Nat):Int) by omega];exact this
   ·have hX':os.length=X.length:=by omega
    have ho:=HOr.out;rw [hX',List.drop_of_length_le (nXe _),List.append_nil] at ho;have hov:=HOV.out;rw [hX',aw (nXe _),aw hYX] at hov;have hk0:k=0:=by
     have h1:=bE HOD.out;rw [hX'] at h1;rcases Nat.eq_zero_or_pos k with h|h
     ·exact h
     ·have h2:=nXg (W32 ^ X.length) h;have:=HVL.out;omega
    rw [hk0,Nat.mul_zero,Nat.add_zero] at hov;have hv:val os=val x-val y:=by rw [HVX.out,HVY.out];omega
    have HV:=Hi hv;have HU:=Hi (ho.u32 HOD.out);have HL:=Hi hX';have hlx:X.length≤os.length:=zo;clear ho hov hk0 hv hX'
    go_wp2_with fail
    refine Calls.mono (dU ⟨some ⟨L,0,none⟩,X.length,cap⟩ _ _ HU.out (by simp only;omega)) ?_;rintro e w5 ⟨x5,rfl,hE5,g5⟩;rw [HV.out] at g5;have G5:=Hi g5;have HE5:=Hi ((E2.out.trans HE.out).trans hE5);clear g5 hE5;go_wp2
    go_ret
    exact ⟨x5,rfl,HE5.out,G5.out⟩
structure M1I (x y:List Nat) (w wr:World) (i:Nat):Prop where
 ext:Ext w wr
 db:∃ ps,DB wr w.heap.size ps #[]∧ps.length=x.length+y.length+1∧Dig ps∧val ps=val (x.take i)*val y
structure M1J (x y:List Nat) (w wr:World) (i d j c:Nat) (ps:List Nat):Prop where
 ext:Ext w wr
 db:DB wr w.heap.size ps #[]
 len:ps.length=x.length+y.length+1
 dig:Dig ps
 z:ps.getD (i+y.length) 0=0
 v:val ps+W32 ^ (i+j)*c=val (x.take i)*val y+W32 ^ i*d*val (y.take j)
 c1:c<4294967296
theorem M1I.start{x y:List Nat}{w wr:World}{i d:Nat}(h:M1I x y w wr i)(dx:Dig x)(dy:Dig y)(hi:i<x.length):∃ ps,M1J x y w wr i d 0 0 ps:=by
 obtain ⟨ps,h1,h2,h3,h4⟩:=h.db;refine ⟨ps,h.ext,h1,h2,h3,oE _ ?_,by rw [h4];simp [val],dZ⟩;rw [h4,Nat.pow_add];have a:=bE (dx.take i);have b:=bE dy;rw [nXk,Nat.min_eq_left (nYm hi)] at a;exact Nat.mul_lt_mul_of_lt_of_lt a b
theorem M1J.next{x y ps:List Nat}{w wr:World}{i d j c p e t:Nat}(h:M1J x y w wr i d j c ps)(hi:i<x.length)(hj:j<y.length)(hp:p=ps.getD (i+j) 0)(he:e=y.getD j 0)(ht:t=d*e+p+c)(hb:t<18446744073709551616) :
  M1J x y w (wr.setCell ⟨w.heap.size,i+j,none⟩ (.int .u32 ((t % 4294967296:Nat):Int))) i d (j+1) (t / 4294967296) (ps.set (i+j) (t % 4294967296)):=by
 have hl:=h.len;have hk:i+j<ps.length:=zo;refine ⟨Ext.set h.ext (nXe _) _,h.db.set hk _,by simp [h.len],h.dig.set _ _ (Nat.mod_lt _ dZ),?_,?_,zo⟩
 ·have:=h.z;rw [nXd,List.getElem?_set_ne zo]
  rwa [nXd] at this
 ·have h1:=my (r:=t % 4294967296) hk;have h2:=h.v;have h3:W32 ^ (i+j)*t=W32 ^ (i+j)*(t % 4294967296)+W32 ^ (i+(j+1))*(t / 4294967296):=by
   conv=>lhs;rw [←Nat.mod_add_div t 4294967296]
   rw [Nat.mul_add,←Nat.mul_assoc,←Nat.add_assoc,nXu];rfl
  have h4:W32 ^ (i+j)*t=W32 ^ i*d*(W32 ^ j*e)+W32 ^ (i+j)*p+W32 ^ (i+j)*c:=by
   rw [ht,Nat.mul_add,Nat.mul_add,Nat.pow_add]
   congr 2
   simp only [Nat.mul_assoc,Nat.mul_left_comm,nYf]
  rw [au hj,←he,Nat.mul_add];rw [←hp] at h1;omega
theorem M1J.over{x y ps:List Nat}{w wr:World}{i d c:Nat}(h:M1J x y w wr i d y.length c ps)(hi:i<x.length)(hd:d=x.getD i 0):M1I x y w (wr.setCell ⟨w.heap.size,i+y.length,none⟩ (.int .u32 (c:Int))) (i+1):=by
 have hl:=h.len;have hk:i+y.length<ps.length:=zo;refine ⟨Ext.set h.ext (nXe _) _,ps.set (i+y.length) c,h.db.set hk _,by simp [h.len],h.dig.set _ _ h.c1,?_⟩;have h1:=my (r:=c) hk;rw [h.z,Nat.mul_zero,Nat.add_zero,h.v,aw (nXe _)] at h1;rw [h1,au hi,←hd,Nat.add_mul]
theorem M1J.later{x y ps:List Nat}{w wr wr':World}{i d j c:Nat}(h:M1J x y w wr i d j c ps)(he:Ext wr wr'):M1J x y w wr' i d j c ps :=
 ⟨h.ext.trans he,h.db.ext he,h.len,h.dig,h.z,h.v,h.c1⟩
theorem yE(a b:SH)(x y:List Nat)(w:World)(ha:a.U w x)(hb:b.U w y)(hn:a.n≤1073741824)(hm:b.n≤1073741824):ar 98 [a.v,b.v] w SH.v (fun s w'=>s.U w' (digs (val x*val y))):=by
 obtain ⟨i0,hi0,hz0,hz1,hz2⟩:=info_parts eO;obtain ⟨ao,n,c⟩:=a;obtain ⟨bo,m,d⟩:=b;simp only at hn hm;have hnl:=ha.len;have hml:=hb.len;simp only at hnl hml;subst hnl hml;have HX:=Hi ha;have HY:=Hi hb;clear ha hb;unfold ar
 change Calls Tryz.prog _ #[.slice ao x.length c,.slice bo y.length d] w _
 go_enter Tryz.func98,Tryz.ntmps98
 go_wp2_with (refine aB rfl (.tmp 14) (.tmp 14) 33 rfl 124 i0 (.int .u32 0) 1 Tryz.underlying33 hi0 hz0 hz1 _ _ (x.length+y.length+1) rfl rfl (by simp) (by simp) (by rw [hz2];omega) zo ?_;intro w2 hnew hE)
 have I0:M1I x y w w2 0:=⟨hE,List.replicate (x.length+y.length+1) 0,DB.make rfl hnew,by simp,Dig.replicate _,by rw [fI];simp [val]⟩;have HI0:=Hi I0;clear I0 hnew hE;go_wp2
 go_loopg [6] x.length (fun g i wr=>∃ j:Nat,j+g=x.length∧i=.int .i64 j∧M1I x y w wr j)
 case atStart=>exact ⟨0,zo,rfl,HI0.out⟩
 case round =>
  obtain ⟨i,hi,rfl,hI⟩:=hrel;have HI:=Hi hI;clear hI HI0;by_cases hlt:i<x.length
  ·obtain ⟨gr,rfl⟩:∃ gr,gk=gr+1:=⟨gk-1,zo⟩;obtain ⟨b,off,d,hao,hc,hd,hdl⟩:=HX.out.at hlt;subst hao;have Hd:=Hi hd;clear hd;go_wp2
   go_loopg [7,8] y.length (fun g c k ww=>∃ j cc ps,j+g=y.length∧k=.int .i64 (j:Nat)∧c=.int .u64 (cc:Nat)∧M1J x y w ww i d j cc ps)
   case atStart =>
    obtain ⟨ps,hp⟩:=HI.out.start (d:=d) HX.out.dig HY.out.dig hlt;exact ⟨0,0,ps,zo,rfl,rfl,hp⟩
   case round =>
    obtain ⟨j,cc,ps,hj,rfl,rfl,hJ⟩:=hrel;have hcc:=hJ.c1;have hpl:=hJ.len;have HJ:=Hi hJ;have hLw:w.heap.size<wr.heap.size:=(nXb.1 hJ.db).1;by_cases hjl:j<y.length
    ·obtain ⟨g2,rfl⟩:∃ g2,gk=g2+1:=⟨gk-1,zo⟩;obtain ⟨b',off',e,hao',hc',he,hel⟩:=HY.out.at hjl;subst hao';replace hc:=hJ.ext.cell hc;replace hc':=hJ.ext.cell hc';have hbl:b<wr.heap.size:=nXq _ _ hc;have hbl':b' < wr.heap.size:=nXq _ _ hc';obtain ⟨p,hp⟩:∃ p,p=ps.getD (i+j) 0:=⟨_,rfl⟩;have hcL:=hJ.db.cell (i:=i+j) zo;have hfL:=hJ.db.frozen (i+j);have hpl2:p<4294967296:=by rw [hp];exact hJ.dig.at _
     rw [←hp] at hcL;have He:=Hi he;have Hp:=Hi hp;have hb:=fy hdl hel;have hde:(d:Int)*e≤18446744065119617025:=by rw [←Int.natCast_mul];exact Int.ofNat_le.2 hb
     have hde0:0≤(d:Int)*e:=Int.mul_nonneg zo zo;clear hJ he hp;have hij2:i+j<x.length+y.length+1:=zo;have w1:IntKind.i64.wrap ((i:Int)+j)=(i:Int)+j:=IntWalk.i64_in _ zo;have w2':(0:Int)≤(i:Int)+j:=zo;have w3:((i:Int)+j).toNat=i+j:=by omega
     have w4:IntKind.u64.wrap ((d:Int)*e)=(d:Int)*e:=by rw [bF];omega
     have w5:IntKind.u64.wrap ((d:Int)*e+p)=(d:Int)*e+p:=by rw [bF];omega
     have w6:IntKind.u64.wrap ((cc:Int)+((d:Int)*e+p))=(cc:Int)+((d:Int)*e+p):=by rw [bF];omega
     go_wp2
     go_quiet (fail)
     go_wp2
     go_roundg g2
     case measure=>omega
     case rel =>
      have e1:((cc:Int)+((d:Int)*e+p)) / 4294967296=(((d*e+p+cc) / 4294967296:Nat):Int):=by rw [show (cc:Int)+((d:Int)*e+p)=((d*e+p+cc:Nat):Int) by rw [Int.natCast_add,Int.natCast_add,Int.natCast_mul];omega];omega
      have e2:((cc:Int)+((d:Int)*e+p)) % 4294967296=(((d*e+p+cc) % 4294967296:Nat):Int):=by rw [show (cc:Int)+((d:Int)*e+p)=((d*e+p+cc:Nat):Int) by rw [Int.natCast_add,Int.natCast_add,Int.natCast_mul];omega];omega
      rw [e1,e2];exact ⟨j+1,_,_,zo,by go_num,rfl,(HJ.out.later (Ext.drewN _ _)).next hlt hjl Hp.out He.out rfl zo⟩
    ·have hj':j=y.length:=by omega
     subst hj';have hcL:=hJ.db.cell (i:=i+y.length) zo;have hfL:=hJ.db.frozen (i+y.length);have hij2:i+y.length<x.length+y.length+1:=zo;clear hJ;go_wp2
     go_roundg gr
     case measure=>omega
     case rel=>exact ⟨i+1,zo,by go_num,HJ.out.over hlt Hd.out⟩
  ·have hj':i=x.length:=by omega
   subst hj';clear hi;have hfin:∃ zs,val zs=val x*val y∧U32 wr (some ⟨w.heap.size,0,none⟩) (x.length+y.length+1) (x.length+y.length+1) zs:=by
    obtain ⟨os,h,h2,h6,h7⟩:=HI.out.db;rw [aw (nXe _)] at h7;exact ⟨os,h7,h.u32 h2 (nXe _) zo h6⟩
   obtain ⟨zs,hz,hU⟩:=hfin;have HZ:=Hi hz;have HU:=Hi hU;clear hz hU
   go_wp2_with fail
   refine Calls.mono (dU ⟨some ⟨w.heap.size,0,none⟩,x.length+y.length+1,x.length+y.length+1⟩ _ _ HU.out (by simp only;omega)) ?_;rintro e w5 ⟨x5,rfl,hE5,g5⟩;rw [HZ.out] at g5;have G5:=Hi g5;have HE5:=Hi (HI.out.ext.trans hE5);clear g5 hE5;go_wp2
   go_ret
   exact ⟨x5,rfl,HE5.out,G5.out⟩
theorem sA(a:SH)(x:List Nat)(Y:Nat)(w:World)(ha:a.U w x)(hn:a.n≤1073741824)(hY0:Y≠0)(hYl:Y<4294967296):ar 176 [a.v,.int .u32 (Y:Int)] w (fun s:SH=>.tuple #[s.v,.int .u32 ((val x % Y:Nat):Int)]) (fun s w'=>s.U w' (digs (val x / Y))):=by
 obtain ⟨i0,hi0,hz0,hz1,hz2⟩:=info_parts eO;obtain ⟨ao,n,c⟩:=a;simp only at hn;have hnl:=ha.len;simp only at hnl;subst hnl;have HA:=Hi ha;clear ha;have hy0b:((Y:Int) == 0)=false:=by simp;omega
 unfold ar
 change Calls Tryz.prog _ #[.slice ao x.length c,.int .u32 (Y:Int)] w _
 go_enter Tryz.func176,Tryz.ntmps176
 go_wp2_with (refine aB rfl (.tmp 10) (.tmp 10) 33 rfl 124 i0 (.int .u32 0) 1 Tryz.underlying33 hi0 hz0 hz1 _ _ x.length rfl rfl (by simp) (by simp) (by rw [hz2];omega) zo ?_;intro w2 hnew hE)
 have I0:D1 x Y w.heap.size w w2 x.length 0:=⟨hE,nXe _,⟨[],by have:=DB.make rfl hnew;simpa using this,by simp,Dig.nil,by rw [List.drop_of_length_le (nXe _)];simp [val]⟩,zo⟩;have HI0:=Hi I0;clear I0 hnew hE;go_wp2
 go_loopg [7,8] x.length (fun g r i wr=>∃ k:Nat,i=.int .i64 ((g:Int)-1)∧r=.int .u64 (k:Nat)∧g≤x.length∧D1 x Y w.heap.size w wr g k)
 case atStart=>exact ⟨0,by go_num,rfl,nXe _,HI0.out⟩
 case round =>
  obtain ⟨k,rfl,rfl,hg,hI⟩:=hrel;have hkr:=hI.r1;have HI:=Hi hI;clear hI HI0;by_cases h0:gk=0
  ·subst h0;obtain ⟨os,h1,h2,h3,h4⟩:=HI.out.db;rw [List.replicate_zero,List.nil_append] at h1;rw [List.drop_zero] at h4;have hU:U32 wr (some ⟨w.heap.size,0,none⟩) x.length x.length os:=h1.u32 (by rw [h2];omega) (nXe _) zo h3;have HU:=Hi hU;have hq:val os=val x / Y∧k=val x % Y:=dP (q:=val os) (O:=k) (U:=val x) zo (by rw [Nat.add_mul];omega) zo;have HQ:=Hi hq;clear h1 h2 h3 h4 hU hq
   go_wp2_with fail
   refine Calls.mono (aU ⟨some ⟨w.heap.size,0,none⟩,x.length,x.length⟩ _ _ HU.out hn) ?_;rintro e w5 ⟨x5,rfl,hE5,g5⟩;rw [HQ.out.1] at g5;have G5:=Hi g5;have HE5:=Hi (HI.out.ext.trans hE5);clear g5 hE5;have hk4:k<4294967296:=zo;go_wp2
   go_ret2
   rw [←HQ.out.2];exact ⟨x5,rfl,HE5.out,G5.out⟩
  ·obtain ⟨g1,rfl⟩:∃ g1,gk=g1+1:=⟨gk-1,zo⟩;clear h0;obtain ⟨b,off,d,hao,hc,hd,hdl⟩:=HA.out.at (k:=g1) (by simp only;omega);simp only at hao;subst hao;replace hc:=HI.out.ext.cell hc;have hcL:∃ z,wr.cell? ⟨w.heap.size,g1,none⟩=some (.int .u32 z):=by obtain ⟨os,h,h2,_⟩:=HI.out.db;exact ⟨_,h.cell (by simp;omega)⟩
   obtain ⟨z,hcL⟩:=hcL;have hfL:wr.frozen? ⟨w.heap.size,g1,none⟩=false:=by obtain ⟨os,h,h2,_⟩:=HI.out.db;exact h.frozen _
   have hLw:w.heap.size<wr.heap.size:=nXq _ _ hcL;have Hd:=Hi hd;clear hd;have hor:=kH (show k<4294967296 by omega) hdl;go_wp2
   go_roundg g1
   case measure=>omega
   case rel =>
    have hnx:=HI.out.next (nXe _) hYl Hd.out hdl;have e1:((k:Int)*4294967296+d) % Y=(((k*4294967296+d) % Y:Nat):Int):=by simp
    have e2:((k:Int)*4294967296+d) / Y % 4294967296=(((k*4294967296+d) / Y:Nat):Int):=by
     have h:=hnx.2;rw [show (k:Int)*4294967296+d=((k*4294967296+d:Nat):Int) by omega,←Int.natCast_ediv];generalize (k*4294967296+d) / Y=a at h ⊢;omega
    rw [e1,e2];exact ⟨_,by go_num,rfl,zo,hnx.1⟩
theorem wT{d k:Nat}(hd:d<4294967296)(h0:d≠0)(h1:d<2 ^ k)(h2:2 ^ k≤2*d):Lib.bitLen d=k:=by
 obtain ⟨b1,b2,b3,b4⟩:=er h0 hd;rcases Nat.lt_trichotomy (Lib.bitLen d) k with h|h|h
 ·have:=nXp (n:=2) dZ (show Lib.bitLen d+1≤k by omega);rw [nXu] at this;omega
 ·exact h
 ·have:=nXp (n:=2) dZ (show k≤Lib.bitLen d-1 by omega);omega
theorem pY(a:SH)(d:Nat)(w:World)(ha:a.U w [d])(h0:d≠0):ar 177 [a.v] w (fun _:Unit=>.int .i64 ((Lib.bitLen d:Nat):Int)) (fun _ _=>True):=by
 obtain ⟨ao,n,c⟩:=a;have hdl:d<4294967296:=ha.dig.head;have hnl:=ha.len;simp only at hnl;have HA:=Hi ha;clear ha;subst hnl;unfold ar
 change Calls Tryz.prog _ #[.slice ao _ c] w _
 go_enter Tryz.func177,Tryz.ntmps177
 go_wp2_with fail
 refine cM (aU ⟨ao,1,c⟩ [d] _ HA.out (by simp)) fun x1 w1 hE G1=>?_
 obtain ⟨hcw,hfw⟩:=ak hE;have hsw:=hE.size
 (try simp only [nXc] at hsw)
 have E1:=Hi ((Ext.refl w).trans hE);have X1:=Hi hE;have hdig:digs (val [d])=[d]:=rO (Dig.cons hdl Dig.nil) (Or.inr (by simpa using h0));have g1:=G1.out;rw [hdig] at g1;obtain ⟨ao1,n1,c1⟩:=x1
 change U32 w1 ao1 n1 c1 _ at g1
 have hl:=g1.len;simp only [List.length_singleton] at hl;subst hl;obtain ⟨b,off,d',hbo,hc,hd',-⟩:=g1.at (k:=0) dZ;rw [Nat.add_zero] at hc;subst hbo;obtain rfl:d'=d:=by simpa using hd'
 simp only [SH.v];clear hd' g1 G1 hdig;go_wp2
 go_loopg [3,4] d' (fun g n' x' wr=>∃ k:Nat,n'=.int .i64 (k:Nat)∧x'=.int .u32 (g:Nat)∧k≤32∧g<2 ^ (32-k)∧d' < (g+1)*2 ^ k∧g*2 ^ k≤d'∧(g=0→2 ^ k≤2*d')∧w1=wr)
 case atStart=>exact ⟨0,by simp,rfl,zo,by simpa using hdl,by simp,by simp,zo,rfl⟩
 case round =>
  obtain ⟨k,rfl,rfl,hk,hg2,hk1,hk2,hk3,rfl⟩:=hrel;by_cases hg:gk=0
  ·subst hg;have hb:=wT (k:=k) hdl h0 (by simpa using hk1) (hk3 rfl);have HBl:=Hi hb;clear hb hk1 hk2 hk3 hg2;go_wp2
   go_ret
   exact ⟨(),aZ (by rw [HBl.out]),E1.out,trivial⟩
  ·have hk32:k<32:=by
    rcases Nat.lt_or_ge k 32 with h|h
    ·exact h
    ·rw [show 32-k=0 by omega,Nat.pow_zero] at hg2;omega
   have hgl:gk<4294967296:=nXn hg2 (nXp (n:=2) dZ (show 32-k≤32 by omega));have Hk1:=Hi hk1;have Hk2:=Hi hk2;have Hg2:=Hi hg2;clear hk1 hk2 hk3 hg2;go_wp2
   go_roundg (gk / 2)
   case measure=>omega
   case rel =>
    have hk1:=Hk1.out;have hk2:=Hk2.out;have hg2:=Hg2.out;have e:32-k=(32-(k+1))+1:=by omega
    rw [e,nXu] at hg2;have e1:(gk / 2+1)*2 ^ (k+1)=(2*(gk / 2)+2)*2 ^ k:=by rw [nXu];grind
    have e2:(gk / 2)*2 ^ (k+1)=(2*(gk / 2))*2 ^ k:=by rw [nXu];grind
    refine ⟨k+1,by go_num,congrArg _ zo,zo,zo,?_,?_,?_,rfl⟩
    ·rw [e1];exact nXn hk1 (nXh _ zo)
    ·rw [e2];exact nXf (nXh _ zo) hk2
    ·intro h;obtain rfl:gk=1:=by omega
     rw [nXu];omega
theorem Da{d s k:Nat}(hd:d<4294967296)(hs:s<32)(hk:k<2 ^ s) :
  bits .or .u64 (k:Int) (IntKind.u64.wrap ((d:Int)*2 ^ s))=((d*2 ^ s+k:Nat):Int)∧d*2 ^ s+k<18446744073709551616∧(d*2 ^ s+k) / 4294967296<2 ^ s:=by
 have hp:0<2 ^ s:=Nat.two_pow_pos _;have h32:2 ^ s≤2147483648:=by have:=nXp (n:=2) dZ (show s≤31 by omega);omega
 have hm:d*2 ^ s+2 ^ s≤4294967296*2 ^ s:=by rw [←nXz];exact nXh _ hd
 have e0:((d:Int)*2 ^ s)=((d*2 ^ s:Nat):Int):=by rw [Int.natCast_mul _ (2 ^ s),Int.natCast_pow];rfl
 refine ⟨?_,zo,by rw [Nat.div_lt_iff_lt_mul dZ];rw [nYf (2 ^ s)];omega⟩;rw [e0,bF,show ((d*2 ^ s:Nat):Int) % 18446744073709551616=((d*2 ^ s:Nat):Int) by omega,u64_or_nat _ _ zo zo,Nat.or_comm,nYf d,l9 hk]
theorem yr{w w':World}{B n:Nat}{e:TypeId}(he:e=124)(hB:B≤w.heap.size)(hn:n≤9223372036854775807)(h:w'.heap[w.heap.size]?=some (.cells (madeCells (Value.int .u32 0).cells (n*1)) e (0,0))):eZ w' B (.slice (some ⟨w.heap.size,0,none⟩) n n) (List.replicate n 0):=by
 subst he;rw [ry _ rfl] at h;refine ⟨by simp [ij],Or.inr ⟨w.heap.size,n,_,by simp,hB,h,by simp,by simpa [maxLen] using hn,by simp,by simp [ij]⟩⟩
theorem sB{os X:List Nat}{i k s d T:Nat}(h:val os+W32 ^ i*k=val (X.take i)*2 ^ s)(hl:os.length=i)(hi:i<X.length)(hd:d=X.getD i 0)(hT:T=d*2 ^ s+k) :
  val (os++[T % 4294967296])+W32 ^ (i+1)*(T / 4294967296)=val (X.take (i+1))*2 ^ s:=by
 rw [bp,hl,au hi,nXu,←hd,Nat.add_mul,←h];have e:W32 ^ i*T=W32 ^ i*(T % 4294967296)+W32 ^ i*W32*(T / 4294967296):=by
  conv=>lhs;rw [←Nat.mod_add_div T 4294967296]
  rw [Nat.mul_add,Nat.mul_assoc];rfl
 rw [hT,Nat.mul_add,←Nat.mul_assoc] at e;rw [hT];omega
theorem ks(ao:Option Addr)(m c:Nat)(ds:List Nat)(n:Nat)(w:World)(ha:U32 w ao m c ds)(hm:m≤1073741824)(hn:n≤65536) :
  Calls Tryz.prog 178 #[.slice ao m c,.int .i64 (n:Nat)] w (tv (digs (val ds*2 ^ n)) w):=by
 obtain ⟨i0,hi0,hz0,hz1,hz2⟩:=info_parts eO;have hdl:=aE ha.dig;rw [ha.len] at hdl;have HA:=Hi ha;clear ha;obtain ⟨q,hq⟩:∃ q,q=n / 32:=⟨_,rfl⟩;obtain ⟨s,hs⟩:∃ s,s=n % 32:=⟨_,rfl⟩;have hqi:(n:Int) / 32=(q:Int):=zo;have hsi:(n:Int) % 32=(s:Int):=zo;have hs32:s<32:=zo;have hql:q≤2048:=zo;have Hn:Hid (n=32*q+s):=Hi zo;clear hq hs;go_enter Tryz.func178,Tryz.ntmps178
 go_wp2_with fail
 refine cM (aU ⟨ao,m,c⟩ ds _ HA.out hm) fun x1 w1 hE G1=>?_
 obtain ⟨hcw,hfw⟩:=ak hE;have hsw:=hE.size
 (try simp only [nXc] at hsw)
 have E1:=Hi ((Ext.refl w).trans hE);have X1:=Hi hE;have g1:=G1.out;obtain ⟨ao1,n1,c1⟩:=x1
 change U32 w1 ao1 n1 c1 _ at g1
 obtain ⟨X,hX⟩:∃ X,X=digs (val ds):=⟨_,rfl⟩;rw [←hX] at g1 hdl;have hvx:val X=val ds:=by rw [hX,ag]
 have hnil:X.length=0→val ds=0:=by rw [hX];exact fun h=>bD.1 (nXj.1 h)
 have hl:=g1.len;subst hl;have HX:=Hi g1;have HVX:=Hi hvx;have HNil:=Hi hnil;simp only [SH.v];clear g1 hX hvx G1 hnil hcw hfw;by_cases h0:X.length=0
 ·have hv:=HNil.out h0;have hd0:((X.length:Int) == 0)=true:=by simp [h0]
  have H0:=Hi h0;clear h0;go_wp2
  go_ret
  refine ⟨_,rfl,?_,E1.out⟩;rw [hv,Nat.zero_mul,aS];exact eZ.nil _ _
 ·have hd0:((X.length:Int) == 0)=false:=by rw [nXs];omega
  go_wp2_with (refine aB rfl (.tmp 68) (.tmp 68) 33 rfl 124 i0 (.int .u32 0) 1 Tryz.underlying33 hi0 hz0 hz1 _ _ q rfl rfl (by simp) (by simp) (by rw [hz2];omega) zo ?_;intro w2 hnew hE)
  have hO:=yr (B:=w1.heap.size) rfl (nXe _) zo hnew;have HO:=Hi hO;have X2:=Hi hE;clear hO hnew hE;go_wp2
  go_loopg [8,9,10] X.length (fun g v cc i wr=>∃ (k vc:Nat) (vo:Option Addr) (os:List Nat),os.length+g=X.length∧i=.int .i64 (os.length:Nat)∧cc=.int .u64 (k:Nat)∧v=.slice vo (q+os.length) vc∧Ext w1 wr∧eZ wr w1.heap.size v (List.replicate q 0++os)∧Dig os∧val os+W32 ^ os.length*k=val (X.take os.length)*2 ^ s∧k<2 ^ s)
  case atStart=>exact ⟨0,q,_,[],by simp,rfl,rfl,rfl,X2.out,by simpa using HO.out,Dig.nil,by simp [val],Nat.two_pow_pos _⟩
  case round =>
   obtain ⟨k,vc,vo,os,hg,rfl,rfl,rfl,hE,ho,hod,hov,hk⟩:=hrel;have hk32:k<4294967296:=nXn hk (nXp (n:=2) dZ (show s≤32 by omega));have HE:=Hi hE;have HU:=Hi (HX.out.ext hE);have HOr:=Hi ho;have HOD:=Hi hod;have HOV:=Hi hov;have HK:=Hi hk;have hEs:=hE.size;clear hE ho hod hov HO hk;have hRD:Dig (List.replicate q 0++os):=(Dig.replicate q).append HOD.out;have HRD:=Hi hRD;clear hRD;by_cases hlt:os.length<X.length
   ·obtain ⟨gr,rfl⟩:∃ gr,gk=gr+1:=⟨gk-1,zo⟩;obtain ⟨b,off,d,hao,hc,hd,hdl'⟩:=HU.out.at hlt;subst hao;have Hd:=Hi hd;clear hd;have hso:=Da hdl' hs32 HK.out;obtain ⟨T,hT⟩:∃ T,T=d*2 ^ s+k:=⟨_,rfl⟩;rw [←hT] at hso;obtain ⟨s1,s2,s3⟩:=hso;have HT:=Hi hT;clear hT;have hlen:(List.replicate q 0++os).length=q+os.length:=by simp
    have HLen:=Hi hlen;clear hlen;have hbl:b<wr.heap.size:=nXq _ _ hc
    go_wp2_with (at_builtin;refine aJ rfl (.tmp 87) (.tmp 90) rfl w1.heap.size _ (List.replicate q 0++os) [T % 4294967296] rfl (HOr.out.ext (Ext.alloc _ _)) HRD.out _ 1 1 rfl (eT _ _ _ zo (Nat.mod_lt _ dZ)) (by rw [HLen.out];omega) (by simp;omega) ?_;intro ao' cap' w4 g1 g2)
    rw [HLen.out] at g1;have H4:=Hi g1;have hE4:Ext w1 w4:=Ext.of_below (HE.out.trans (Ext.alloc _ _)) g2 (nXe _);have HE4:=Hi hE4;clear g1 g2 hE4
    go_roundg gr
    case measure=>omega
    case rel=>exact ⟨T / 4294967296,cap',ao',os++[T % 4294967296],by simp;omega,by rw [nXi];go_num,congrArg _ zo,by rw [nXi];rfl,HE4.out,by rw [←List.append_assoc];exact H4.out,HOD.out.append (Dig.cons (Nat.mod_lt _ dZ) Dig.nil),by rw [nXi];exact sB HOV.out rfl hlt Hd.out HT.out,s3⟩
   ·have hlen:(List.replicate q 0++os).length=q+os.length:=by simp
    have HLen:=Hi hlen;clear hlen
    go_wp2_with (at_builtin;refine aJ rfl (.tmp 94) (.tmp 97) rfl w1.heap.size _ (List.replicate q 0++os) [k] rfl (HOr.out.ext (Ext.alloc _ _)) HRD.out _ 1 1 rfl (eT _ _ _ zo hk32) (by rw [HLen.out];omega) (by simp;omega) ?_;intro ao' cap' w4 g1 g2)
    rw [HLen.out] at g1;have hD:Dig (List.replicate q 0++os++[k]):=HRD.out.append (Dig.cons hk32 Dig.nil);have HU4:=Hi (g1.u32 hD);have hE4:Ext w1 w4:=Ext.of_below (HE.out.trans (Ext.alloc _ _)) g2 (nXe _);have HE4:=Hi (E1.out.trans hE4);have hv:val (List.replicate q 0++os++[k])=val ds*2 ^ n:=by
     rw [List.append_assoc,cw,fI,nXx,Nat.zero_add,bp,HOV.out,aw zo,HVX.out,Hn.out,Nat.pow_add,Nat.pow_mul,show (2:Nat) ^ 32=W32 from rfl];exact Nat.mul_left_comm _ _ _
    have HV:=Hi hv;clear g1 g2 hE4 hD hv;refine (gg ao' (q+os.length+1) cap' _ _ HU4.out zo).mono ?_;rintro e w5 ⟨v,rfl,h5,hE5⟩;rw [HV.out] at h5;have H5:=Hi (h5.mono HE4.out.size);have HE5:=Hi (HE4.out.trans hE5);clear h5 hE5;go_wp2
    go_ret
    exact ⟨v,rfl,H5.out,HE5.out⟩
theorem vZ(d e s:Nat):((d:Int)+e*4294967296) / 2 ^ s % 4294967296=(((d+e*4294967296) / 2 ^ s % 4294967296:Nat):Int):=by
 rw [show (d:Int)+e*4294967296=((d+e*4294967296:Nat):Int) by omega,Int.natCast_emod,Int.natCast_ediv,Int.natCast_pow];rfl
theorem tg(d s:Nat):(d:Int) / 2 ^ s % 4294967296=(((d+0*4294967296) / 2 ^ s % 4294967296:Nat):Int):=by
 simp
theorem tf{V s i a b:Nat}{X:List Nat}(hV:V=val X)(hd:Dig X)(hs:s≤32)(ha:a=X.getD i 0)(hb:b=X.getD (i+1) 0):V / 2 ^ s / W32 ^ i % W32=(a+b*4294967296) / 2 ^ s % 4294967296:=by
 have hP:=gp hs;have hp:0<2 ^ s:=Nat.two_pow_pos _;rw [Nat.div_div_eq_div_mul,nYf,←Nat.div_div_eq_div_mul,hV,j7 hd,cu,cu,←ha,←hb];have e:a+W32*(b+W32*val (X.drop (i+1+1)))=(a+b*4294967296)+2 ^ s*(2 ^ (32-s)*(W32*val (X.drop (i+1+1)))):=by
  rw [←Nat.mul_assoc (2 ^ s),hP];unfold W32;omega
 rw [e,Nat.add_mul_div_left _ _ hp];have e2:2 ^ (32-s)*(W32*val (X.drop (i+1+1)))=W32*(2 ^ (32-s)*val (X.drop (i+1+1))):=by rw [Nat.mul_left_comm]
 rw [e2,Nat.add_mul_mod_self_left];rfl
theorem oM{os X:List Nat}{i s a b:Nat}(h:val os=val X / 2 ^ s % W32 ^ i)(hl:os.length=i)(hd:Dig X)(hs:s≤32)(ha:a=X.getD i 0)(hb:b=X.getD (i+1) 0) :
  val (os++[(a+b*4294967296) / 2 ^ s % 4294967296])=val X / 2 ^ s % W32 ^ (i+1):=by
 rw [bp,hl,h,nXu,Nat.mod_mul,tf rfl hd hs ha hb]
theorem pi(ao:Option Addr)(m c:Nat)(ds:List Nat)(s:Nat)(w:World)(ha:U32 w ao m c ds)(hm:m≤1073741824)(hs0:0<s)(hs:s<32) :
  Calls Tryz.prog 178 #[.slice ao m c,.int .i64 (-(s:Int))] w (tv (digs (val ds / 2 ^ s)) w):=by
 have hdl:=aE ha.dig;rw [ha.len] at hdl;have HA:=Hi ha;clear ha;go_enter Tryz.func178,Tryz.ntmps178
 go_wp2_with fail
 refine cM (aU ⟨ao,m,c⟩ ds _ HA.out hm) fun x1 w1 hE G1=>?_
 obtain ⟨hcw,hfw⟩:=ak hE;have hsw:=hE.size
 (try simp only [nXc] at hsw)
 have E1:=Hi ((Ext.refl w).trans hE);have X1:=Hi hE;have g1:=G1.out;obtain ⟨ao1,n1,c1⟩:=x1
 change U32 w1 ao1 n1 c1 _ at g1
 obtain ⟨X,hX⟩:∃ X,X=digs (val ds):=⟨_,rfl⟩;rw [←hX] at g1 hdl;have hvx:val X=val ds:=by rw [hX,ag]
 have hnil:X.length=0→val ds=0:=by rw [hX];exact fun h=>bD.1 (nXj.1 h)
 have hl:=g1.len;subst hl;have HX:=Hi g1;have HVX:=Hi hvx;have HNil:=Hi hnil;simp only [SH.v];clear g1 hX hvx G1 hnil hcw hfw;by_cases h0:X.length=0
 ·have hv:=HNil.out h0;have hd0:((X.length:Int) == 0)=true:=by simp [h0]
  have H0:=Hi h0;clear h0;go_wp2
  go_ret
  refine ⟨_,rfl,?_,E1.out⟩;rw [hv,Nat.zero_div,aS];exact eZ.nil _ _
 ·have hd0:((X.length:Int) == 0)=false:=by rw [nXs];omega
  have hlt32:decide (-(s:Int) < -32*(X.length:Int))=false:=by simp;omega
  have hdiv:(s:Int) / 32=0:=by omega
  have hmod:(s:Int) % 32=s:=by omega
  go_wp2
  go_loopg [5,6] X.length (fun g v i wr=>∃ (vc:Nat) (vo:Option Addr) (os:List Nat),os.length+g=X.length∧i=.int .i64 (os.length:Nat)∧v=.slice vo os.length vc∧Ext w1 wr∧eZ wr w1.heap.size v os∧Dig os∧val os=val X / 2 ^ s % W32 ^ os.length)
  case atStart=>exact ⟨0,none,[],by simp,rfl,rfl,Ext.refl _,eZ.nil _ _,Dig.nil,by simp [val,Nat.mod_one]⟩
  case round =>
   obtain ⟨vc,vo,os,hg,rfl,rfl,hE,ho,hod,hov⟩:=hrel;have HE:=Hi hE;have HU:=Hi (HX.out.ext hE);have HOr:=Hi ho;have HOD:=Hi hod;have HOV:=Hi hov;have hEs:=hE.size;clear hE ho hod hov;by_cases hlt:os.length<X.length
   ·obtain ⟨gr,rfl⟩:∃ gr,gk=gr+1:=⟨gk-1,zo⟩;obtain ⟨b,off,d,hao,hc,hd,hdl'⟩:=HU.out.at hlt;subst hao;have Hd:=Hi hd;clear hd;have hbl:b<wr.heap.size:=nXq _ _ hc;by_cases hl2:os.length+1<X.length
    ·obtain ⟨b2,off2,e,hao2,hc2,he,hel⟩:=HU.out.at hl2;obtain ⟨rfl,rfl⟩:b=b2∧off=off2:=by cases hao2;exact ⟨rfl,rfl⟩
     clear hao2;have He:=Hi he;clear he;have hor:=uH hdl' hel
     go_wp2_with (at_builtin;refine aJ rfl (.tmp 56) (.tmp 63) rfl w1.heap.size _ os [(d+e*4294967296) / 2 ^ s % 4294967296] rfl (HOr.out.ext (Ext.alloc _ _)) HOD.out _ 1 1 rfl (eT _ _ _ (vZ d e s) (Nat.mod_lt _ dZ)) zo (by simp;omega) ?_;intro ao' cap' w4 g1 g2)
     have H4:=Hi g1;have hE4:Ext w1 w4:=Ext.of_below (HE.out.trans (Ext.alloc _ _)) g2 (nXe _);have HE4:=Hi hE4;clear g1 g2 hE4
     go_roundg gr
     case measure=>omega
     case rel=>exact ⟨cap',ao',os++[(d+e*4294967296) / 2 ^ s % 4294967296],by simp;omega,by rw [nXi];go_num,by rw [nXi];rfl,HE4.out,H4.out,HOD.out.append (Dig.cons (Nat.mod_lt _ dZ) Dig.nil),by rw [nXi];exact oM HOV.out rfl HX.out.dig zo Hd.out He.out⟩
    ·have He:Hid (0=X.getD (os.length+1) 0):=Hi (gA zo).symm
     go_wp2_with (at_builtin;refine aJ rfl (.tmp 56) (.tmp 63) rfl w1.heap.size _ os [(d+0*4294967296) / 2 ^ s % 4294967296] rfl (HOr.out.ext (Ext.alloc _ _)) HOD.out _ 1 1 rfl (eT _ _ _ (tg d s) (Nat.mod_lt _ dZ)) zo (by simp;omega) ?_;intro ao' cap' w4 g1 g2)
     have H4:=Hi g1;have hE4:Ext w1 w4:=Ext.of_below (HE.out.trans (Ext.alloc _ _)) g2 (nXe _);have HE4:=Hi hE4;clear g1 g2 hE4
     go_roundg gr
     case measure=>omega
     case rel=>exact ⟨cap',ao',os++[(d+0*4294967296) / 2 ^ s % 4294967296],by simp;omega,by rw [nXi];go_num,by rw [nXi];rfl,HE4.out,H4.out,HOD.out.append (Dig.cons (Nat.mod_lt _ dZ) Dig.nil),by rw [nXi];exact oM HOV.out rfl HX.out.dig zo Hd.out He.out⟩
   ·have hlx:os.length=X.length:=by omega
    have hv:val os=val ds / 2 ^ s:=by
     have h1:=HOV.out;have h2:=bE HX.out.dig;rw [hlx] at h1;rw [h1,HVX.out] at *
     exact Nat.mod_eq_of_lt (nYl (Nat.div_le_self _ _) h2)
    have HV:=Hi hv;have HU4:=Hi (HOr.out.u32 HOD.out);clear hv hlx
    go_wp2_with fail
    refine (gg vo os.length vc _ _ HU4.out zo).mono ?_;rintro e w5 ⟨v,rfl,h5,hE5⟩;rw [HV.out] at h5;have H5:=Hi (h5.mono (nXf E1.out.size HE.out.size));have HE5:=Hi ((E1.out.trans HE.out).trans hE5);clear h5 hE5;go_wp2
    go_ret
    exact ⟨v,rfl,H5.out,HE5.out⟩
theorem d8{w:World}{ops:Array Oper}{rest:List Oper}{o:Oper}{a:Act}{Q:Exit→Act→World→Prop}(hgd:o.guard=none)(s x:Operand)
 (ho:o.op=.call { callee:=.builtin .append,args:=#[s,x],argTypes:=#[33,33] })(B L n cap:Nat)(ds:List Nat)(d N:Nat)(hs:a.eval s=.slice (some ⟨L,0,none⟩) n cap)(hown:eZ w B (.slice (some ⟨L,0,none⟩) n cap) ds)(hn:ds.length=n)
 (hx:a.eval x=.slice (some ⟨N,0,none⟩) 1 1)(hU:U32 w (some ⟨N,0,none⟩) 1 1 [d])(hl:n≤8589934592)(hB:B≤w.heap.size)
 (h:∀ L' cap' w',eZ w' B (.slice (some ⟨L',0,none⟩) (n+1) cap') (ds++[d])→w.grownBy w' (some L)→(L'=L∨L'=w.heap.size)→wpList Tryz.prog ops Q rest (a.put o.dst (.slice (some ⟨L',0,none⟩) (n+1) cap')) w'):wpList Tryz.prog ops Q (o :: rest) a w:=by
 obtain ⟨i0,hi0,hz0,hz1,hz2⟩:=info_parts eO;subst hn;refine wpList_append_own_at w hgd s x _ ho B _ i0 (.int .u32 0) 1 4 Tryz.underlying33 hi0 hz0 hz1 hz2 rfl dZ _ ds.length (ij ds) hs hown ⟨N,0,none⟩ 1 1 (ij [d]) hx (by simp [ij]) ?_ ?_ (by simp [maxLen];omega) zo hB ?_
 ·intro j u hj;have hj':j=0:=by
   rcases Nat.eq_zero_or_pos j with h|h
   ·exact h
   ·rw [List.getElem?_eq_none (by simp [ij];omega)] at hj;cases hj
  subst hj';obtain ⟨b,off,d',h1,h2,h3,_⟩:=hU.at (k:=0) dZ;cases h1;rw [ie,h2,h3];simpa [ij] using hj
 ·intro u hu;simp only [ij,nYg] at hu;obtain ⟨d,_,rfl⟩:=hu;rfl
 ·intro v' w' hown' hgrow _ hat;have ho':eZ w' B v' (ds++[d]):=by
   unfold eZ;rw [nXi];simpa [ij] using hown'
  rcases ho'.form with ⟨-,h1⟩|⟨L',cap',re,rfl,-,-,-,-,-⟩
  ·simp at h1
  ·rw [nXi] at ho' ⊢;refine h L' cap' w' ho' hgrow ?_;simpa [Value.ownBlock] using hat
structure DR (U V N m L Q:Nat) (re:Array Value) (w wr:World) (j:Nat):Prop where
 mods:aL (fun k=>k=L∨k=Q) w wr
 u:∃ us,DB wr L us re∧us.length=N+1∧Dig us∧val (us.drop j)<V∧∃ qs,DB wr Q (List.replicate j 0++qs) #[]∧qs.length=N-m+1-j∧Dig qs∧W32 ^ j*val qs*V+val us=U
theorem DR.next{U V N m L Q:Nat}{re:Array Value}{w wr:World}{j:Nat}(h:DR U V N m L Q re w wr (j+1))(hj:j+m≤N)(hV:V<W32 ^ m)(hLQ:L≠Q) :
  ∃ pre seg post,DB wr L (pre++(seg++post)) re∧pre.length=j∧seg.length=m+1∧Dig seg∧val seg<W32*V∧∀ w' rs,DB w' L (pre++(rs++post)) re→rs.length=seg.length→Dig rs→val rs=val seg % V→aL (·=L) wr w' →
   DR U V N m L Q re w (w'.setCell ⟨Q,j,none⟩ (.int .u32 ((val seg / V:Nat):Int))) j∧∃ z,w'.cell? ⟨Q,j,none⟩=some (.int .u32 z)∧w'.frozen? ⟨Q,j,none⟩=false:=by
 obtain ⟨us,h1,h2,h3,h4,qs,h5,h6,h7,h8⟩:=h.u;have hV0:0<V:=zo;have hju:j<us.length:=zo;have e0:=cu us j;have hd:=h3.at j;have hlt:val (us.drop j)<W32*V:=by
  have:=nXg W32 (show val (us.drop (j+1))+1≤V by omega);rw [Nat.mul_add] at this;omega
 have hsplit:=bY (us.drop j) (m+1) (by simp;omega);have hVW:W32*V<W32 ^ (m+1):=by rw [nXu,nYf];exact Nat.mul_lt_mul_of_pos_right hV aI
 have hp0:val ((us.drop j).drop (m+1))=0:=by
  rcases Nat.eq_zero_or_pos (val ((us.drop j).drop (m+1))) with h|h
  ·exact h
  ·have:=nXg (W32 ^ (m+1)) h;omega
 rw [hp0,Nat.mul_zero,Nat.add_zero] at hsplit;have hus:us=us.take j++((us.drop j).take (m+1)++(us.drop j).drop (m+1)):=by rw [List.take_append_drop,List.take_append_drop]
 have hpl:(us.take j).length=j:=by simp;omega
 have hsl:((us.drop j).take (m+1)).length=m+1:=by simp;omega
 refine ⟨us.take j,(us.drop j).take (m+1),(us.drop j).drop (m+1),by rw [←hus];exact h1,hpl,hsl,(h3.drop j).take _,zo,?_⟩;intro w' rs g1 g2 g3 g4 g5;have hQw:DB w' Q (List.replicate (j+1) 0++qs) #[]:=g5.blk (fun h=>hLQ h.symm) h5;have hq1:val ((us.drop j).take (m+1)) / V<W32:=by rw [Nat.div_lt_iff_lt_mul hV0];omega
 generalize hseg:(us.drop j).take (m+1)=seg at *
 generalize hpost:(us.drop j).drop (m+1)=post at *
 refine ⟨⟨h.mods.trans ((g5.mono (fun k hk=>Or.inl hk)).trans ((aL.setCell w' ⟨Q,j,none⟩ _).mono (fun k hk=>Or.inr hk))),us.take j++(rs++post),?_,?_,?_,?_,(val seg / V) :: qs,?_,?_,Dig.cons hq1 h7,?_⟩,_,hQw.cell (by simp;omega),hQw.frozen _⟩
 ·exact (aL.setCell w' ⟨Q,j,none⟩ _).blk hLQ g1
 ·rw [nXi,nXi,g2,←nXi,←nXi,←hus];exact h2
 ·exact (h3.take j).append (g3.append (by rw [←hpost];exact (h3.drop j).drop _))
 ·rw [List.drop_append_of_le_length zo,List.drop_of_length_le zo,List.nil_append,cw,hp0,Nat.mul_zero,Nat.add_zero,g4];exact Nat.mod_lt _ hV0
 ·have:=hQw.set (i:=j) (by simp;omega) (val seg / V);rw [jV] at this;exact this
 ·simp [h6];omega
 ·have e1:val us=val (us.take j)+W32 ^ j*val (us.drop j):=bY us j zo;have e2:val (us.take j++(rs++post))=val (us.take j)+W32 ^ j*val rs:=by rw [cw,cw,hp0,hpl,Nat.mul_zero,Nat.add_zero]
  have e3:val (us.drop j)=V*(val seg / V)+val rs:=by rw [g4,hsplit,Nat.div_add_mod]
  rw [e2,val];rw [e1,e3] at h8;rw [←h8,nXu];generalize W32 ^ j=P;generalize val seg / V=T;generalize W32=Z;generalize val qs=S;generalize val rs=R;grind
theorem vf{X Y n N m s:Nat}{us:List Nat}(hX:(digs X).length=n)(hY:(digs Y).length=m+1)(hnN:n≤N)(hmn:m+1≤N)(hl:us.length=N+1)(hv:val us=X*2 ^ s):val (us.drop (N-(m+1)+1))<Y*2 ^ s:=by
 have h1:=bY us (N-(m+1)+1) zo;have h2:=bE (cF X);rw [ag,hX] at h2;have h2':W32 ^ n≤W32 ^ N:=nXp aI hnN;have h3:=gU (ce Y) (by intro h;rw [h] at hY;simp at hY);rw [ag,hY,Nat.add_sub_cancel] at h3;have hs:0<2 ^ s:=Nat.two_pow_pos _;have h4:X*2 ^ s<W32 ^ (N-(m+1)+1)*(Y*2 ^ s):=by
  calc X*2 ^ s<W32 ^ N*2 ^ s:=Nat.mul_lt_mul_of_pos_right zo hs
   _=W32 ^ (N-(m+1)+1)*(W32 ^ m*2 ^ s):=by rw [←Nat.mul_assoc,←Nat.pow_add,show N-(m+1)+1+m=N by omega]
   _≤_:=nXg _ (nXh _ h3)
 exact Nat.lt_of_mul_lt_mul_left (a:=W32 ^ (N-(m+1)+1)) zo
theorem pU(a b:SH)(X Y:Nat)(ds es:List Nat)(w:World)(ha:a.U w ds)(hb:b.U w es)(hn:a.n≤1073741824)(hm:b.n≤1073741824)(hX:X=val ds)(hYe:Y=val es)(hY0:Y≠0)(h1:(digs Y).length=1) :
  ar 147 [a.v,b.v] w DM (fun p w'=>p.1.U w' (digs (X / Y))∧p.2.U w' (digs (X % Y))):=by
 obtain ⟨ao,n,c⟩:=a;obtain ⟨bo,m,d⟩:=b;simp only at hn hm;have HA:=Hi ha;have HB:=Hi hb;have HXe:=Hi hX;have HYe:=Hi hYe;have hdl:=aE ha.dig;rw [ha.len,←hX] at hdl;simp only at hdl;clear ha hb hX hYe;unfold ar
 change Calls Tryz.prog _ #[.slice ao n c,.slice bo m d] w _
 go_enter Tryz.func147,Tryz.ntmps147
 go_wp2_with fail
 refine cM (aU ⟨ao,n,c⟩ ds _ HA.out hn) fun x1 w1 hE G1=>?_
 obtain ⟨hcw,hfw⟩:=ak hE;have hsw:=hE.size
 (try simp only [nXc] at hsw)
 have E1:=Hi ((Ext.refl w).trans hE);have X1:=Hi hE
 go_wp2_with fail
 refine cM (aU ⟨bo,m,d⟩ es _ (HB.out.ext E1.out) hm) fun x2 w2 hE G2=>?_
 obtain ⟨hcw,hfw⟩:=ak hE;have hsw:=hE.size
 (try simp only [nXc] at hsw)
 have E2:=Hi ((E1.out).trans hE);have X2:=Hi hE;have g1:=G1.out.ext X2.out;have g2:=G2.out;rw [←HXe.out] at g1;rw [←HYe.out] at g2;obtain ⟨ao1,n1,c1⟩:=x1;obtain ⟨bo1,m1,d1⟩:=x2
 change U32 w2 ao1 n1 c1 _ at g1
 change U32 w2 bo1 m1 d1 _ at g2
 have hm1:m1=1:=by rw [←g2.len,h1]
 subst hm1;obtain ⟨yb,off,y0,hbo,hcy,hy0,hyl⟩:=g2.at (k:=0) dZ;rw [Nat.add_zero] at hcy;subst hbo;have hYy:Y=y0:=by
  have h2:=ag Y
  match hdy:digs Y,h1,h2,hy0 with
  | [d],_,h2,hy0=>simp [val] at h2 hy0;omega
 subst hYy;have hn1:n1≤1073741824:=by have:=g1.len;omega
 have H1:=Hi g1;simp only [SH.v];clear g1 g2 hy0 G1 G2 hcw hfw
 go_wp2_with fail
 refine cM (sA ⟨ao1,n1,c1⟩ _ Y _ H1.out hn1 hY0 hyl) fun x3 w3 hE G3=>?_
 obtain ⟨hcw,hfw⟩:=ak hE;have hsw:=hE.size
 (try simp only [nXc] at hsw)
 have E3:=Hi ((E2.out).trans hE);have X3:=Hi hE;rw [ag] at G3 ⊢;have hrl:X % Y<4294967296:=Nat.lt_trans (Nat.mod_lt _ zo) hyl;obtain ⟨r,hr⟩:∃ r,r=X % Y:=⟨_,rfl⟩;rw [←hr] at hrl ⊢;have Hr:=Hi hr;have HU:=Hi (eE w3 r hrl);clear hr
 go_wp2_with fail
 refine cM (aU ⟨some ⟨w3.heap.size,0,none⟩,1,1⟩ [r] _ HU.out (by simp)) fun x4 w4 hE G4=>?_
 obtain ⟨hcw,hfw⟩:=ak hE;have hsw:=hE.size
 (try simp only [nXc] at hsw)
 have hs0:w.heap.size<w4.heap.size:=zo;have E4:=Hi ((E3.out.trans Ext.al1).trans hE);have X4:=Hi hE;rw [show val [r]=r by simp [val]] at G4;go_wp2;obtain ⟨xa,xn,xc⟩:=x3;obtain ⟨ya,yn,yc⟩:=x4;refine nXa (v:=DM (⟨xa,xn,xc⟩,⟨ya,yn,yc⟩)) (by simp [results,Tryz.results147,go_sem]) rfl ⟨(⟨xa,xn,xc⟩,⟨ya,yn,yc⟩),rfl,E4.out,?_,?_⟩
 ·exact (G3.out.ext (Ext.alloc _ _)).ext X4.out
 ·rw [←Hr.out];exact G4.out
theorem vJ{w w':World}{L B:Nat}(h:w.grownBy w' (some L))(hB:B≤L)(hBw:B≤w.heap.size):Below B w w' :=
 ⟨h.os,h.tape,h.output,h.size,fun k hk=>h.block k zo (by simp;omega)⟩
theorem vI{w w':World}{L vb off n c:Nat}{ds:List Nat}(h:w.grownBy w' (some L))(hU:U32 w (some ⟨vb,off,none⟩) n c ds)(hne:vb≠L):U32 w' (some ⟨vb,off,none⟩) n c ds:=by
 refine ⟨hU.len,hU.le,hU.max,hU.dig,hU.at'.imp id fun ⟨b,o,h1,h2⟩=>⟨b,o,h1,fun k hk=>?_⟩⟩;cases h1;exact h.cell (h2 k hk) (by simpa using hne)
theorem nM(us:List Nat):val (us++[0])=val us:=by rw [bp];omega
structure oW (X Y s n m:Nat) (w0 w:World) (L:Nat) (us:List Nat) (vb vc:Nat) (vs:List Nat) (cap:Nat):Prop where
 own:eZ w w0.heap.size (.slice (some ⟨L,0,none⟩) us.length cap) us
 dig:Dig us
 v:val us=X*2 ^ s
 vu:U32 w (some ⟨vb,0,none⟩) m vc vs
 vv:val vs=Y*2 ^ s
 ne:vb≠L
 ext:Ext w0 w
 l:L<w.heap.size
 vl:vb<w.heap.size
theorem oW.grow{X Y s n m:Nat}{w0 w w':World}{L:Nat}{us:List Nat}{vb vc:Nat}{vs:List Nat}{cap L' cap':Nat}(h:oW X Y s n m w0 w L us vb vc vs cap)(hg:w.grownBy w' (some L))(hL:L'=L∨L'=w.heap.size)
 (ho:eZ w' w0.heap.size (.slice (some ⟨L',0,none⟩) (us.length+1) cap') (us++[0])):oW X Y s n m w0 w' L' (us++[0]) vb vc vs cap' where
 own:=by rw [nXi];exact ho
 dig:=h.dig.append (Dig.cons dZ Dig.nil)
 v:=by rw [nM,h.v]
 vu:=vI hg h.vu h.ne
 vv:=h.vv
 ne:=by
  have:=h.ne;have:=h.vl;omega
 ext:=Ext.of_below h.ext (vJ hg (h.own.lt L rfl).1 (by have:=h.ext.size;omega)) (nXe _)
 l:=(ho.lt L' rfl).2
 vl:=nXn h.vl hg.size
theorem oW.later{X Y s n m:Nat}{w0 w w':World}{L:Nat}{us:List Nat}{vb vc:Nat}{vs:List Nat}{cap:Nat}(h:oW X Y s n m w0 w L us vb vc vs cap)(he:Ext w w'):oW X Y s n m w0 w' L us vb vc vs cap :=
 ⟨h.own.ext he,h.dig,h.v,h.vu.ext he,h.vv,h.ne,h.ext.trans he,nXn h.l he.size,nXn h.vl he.size⟩
end Go.Proofs.YtkcpmclnocmalaaGreat
