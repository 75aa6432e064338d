/- SameInts, known (from seat r1). -/
import Derived.Test.YtohahgiidooijaaGreatQNK4
import Derived.Test.YtohahgiidooijaaGreatQNQn11
import Derived.Test.YtohahgiidooijaaGreatQNK1
import Derived.Test.YtohahgiidooijaaGreatQNM7
import Derived.Test.YtohahgiidooijaaGreatRows
import Derived.ProofKit
import Derived.OpenShut
import Derived.ShutString
import Derived.ChangeOld
import Derived.Lib.SmallJoins
set_option linter.unusedVariables false
set_option maxHeartbeats 8000000
set_option maxRecDepth 8000
namespace Go.Proofs.YtohahgiidooijaaGreat
open Go.RowKit Go.Front
attribute [local go_sem] XW.cell XW.frozen
def fQ(b:Bool)(w:World)(e:Ending)(w':World):Prop:=e=.returned (.bool b)∧Ext w w'
theorem gg(ao bo:Option Addr)(ac bc:Nat)(xs ys:List Int)(w:World)(h1:aA w ao xs)(h2:aA w bo ys)(hl1:xs.length≤20000000000000)(hl2:ys.length≤20000000000000) :
  Calls Tryz.prog 13 #[.slice ao xs.length ac,.slice bo ys.length bc] w (fQ (decide (xs=ys)) w):=by
 have H1:=Hi h1;have H2:=Hi h2;clear h1 h2;by_cases hle:xs.length=ys.length
 ·have hne:(((xs.length:Int)) != (ys.length:Int))=false:=by simp;omega
  have Hle:=Hi hle;clear hle;go_enter Tryz.func13,Tryz.ntmps13;go_wp2
  go_loopg [5] xs.length (fun g i wr=>∃ j:Nat,j+g=xs.length∧i=.int .i64 j∧Ext w wr∧∀ m,m<j→xs.getD m 0=ys.getD m 0)
  case atStart=>exact ⟨0,by omega,rfl,Ext.refl _,fun m hm=>by omega⟩
  case round =>
   obtain ⟨j,hj,rfl,hext,hsame⟩:=hrel;have Hs:=Hi hsame;have Hj:=Hi hj;clear hsame;by_cases hlt:j<xs.length
   ·obtain ⟨g1,rfl⟩:∃ g1,gk=g1+1:=⟨gk-1,by omega⟩;clear hj;have hlt2:j<ys.length:=by have:=Hle.out;omega
    obtain ⟨a,aoff,hao,hca⟩:=H1.out.at hlt;obtain ⟨b,boff,hbo,hcb⟩:=H2.out.at hlt2;subst hao hbo;have ca:=hext.cell hca;have cb:=hext.cell hcb;have hltI:(j:Int)<xs.length:=by omega
    have hltJ:(j:Int)<ys.length:=by omega
    clear hca hcb;by_cases he:xs[j]=ys[j]
    ·have he':(xs[j] != ys[j])=false:=by simp [he]
     have He:=Hi he;clear he;go_wp2
     go_quiet (fail)
     go_wp2
     go_roundg g1
     case measure=>omega
     case rel =>
      refine ⟨j+1,by have:=Hj.out;omega,by go_num,hext.trans (Ext.drewN _ _),fun m hm=>?_⟩;rcases Nat.lt_or_ge m j with h|h
      ·exact Hs.out m h
      ·obtain rfl:m=j:=by omega
       simpa [hlt,hlt2] using He.out
    ·have he':(xs[j] != ys[j])=true:=by simp [he]
     have He:=Hi he;clear he;go_wp2
     go_quiet (fail)
     go_wp2
     go_ret
     refine ⟨aZ ?_,hext.trans (Ext.drewN _ _)⟩;have:xs≠ys:=fun h=>He.out (by subst h;rfl)
     simp [this]
   ·have hfa:xs=ys:=by
     apply List.ext_getElem? ;intro m;by_cases hm:m<xs.length
     ·have:=Hs.out m (by omega);have hm2:m<ys.length:=by have:=Hle.out;omega
      simp [hm,hm2] at this;simp [hm,hm2,this]
     ·have hm2:¬ m<ys.length:=by have:=Hle.out;omega
      simp [Nat.le_of_not_lt hm,Nat.le_of_not_lt hm2]
    have Hfa:=Hi hfa;clear hfa;go_wp2
    go_ret
    exact ⟨aZ (by simp [Hfa.out]),hext⟩
 ·have hne:(((xs.length:Int)) != (ys.length:Int))=true:=by simp;omega
  have Hle:=Hi hle;clear hle;go_enter Tryz.func13,Tryz.ntmps13;go_wp2
  go_ret
  refine ⟨aZ ?_,Ext.refl _⟩;have:xs≠ys:=fun h=>Hle.out (by rw [h])
  simp [this]
theorem nR:bH ⟨8,4,1,1⟩ [0,0] 5=some [1,1]:=by decide +kernel
theorem nQ:bH ⟨8,4,1,1⟩ [0,0] 9=none:=by decide +kernel
theorem fF(w:World)(a b:Int)(N:Nat)(hN:N=w.heap.size):aA (w.alloc (.cells #[.int .i64 a,.int .i64 b] 3)) (some ⟨N,0,none⟩) [a,b]:=by
 subst hN;refine Or.inr ⟨w.heap.size,0,rfl,fun k hk=>?_⟩;rw [Nat.zero_add,gG];simp only [List.length_cons,List.length_nil] at hk
 match k,hk with
 | 0,_=>rfl
 | 1,_=>rfl
theorem l9(b f r o k:Int)(n bcap:Nat)(bo:Option Addr)(base:List Int)(w:World)(hn:base.length=n)(hl:aA w bo base)(hlen:base.length≤20000000000000) :
  Calls Tryz.prog 39 #[.slice bo n bcap,.agg #[.int .i64 b,.int .i64 f,.int .i64 r,.int .i64 o],.int .i64 k] w (dp ⟨b,f,r,o⟩ base k w):=by
 subst hn;exact lR ⟨b,f,r,o⟩ k bcap bo base w hl hlen
theorem eM(ao bo:Option Addr)(n m ac bc:Nat)(xs ys:List Int)(w:World)(hn:xs.length=n)(hm:ys.length=m)(h1:aA w ao xs)(h2:aA w bo ys)(hl1:xs.length≤20000000000000)(hl2:ys.length≤20000000000000) :
  Calls Tryz.prog 13 #[.slice ao n ac,.slice bo m bc] w (fQ (decide (xs=ys)) w):=by
 subst hn hm;exact gg ao bo ac bc xs ys w h1 h2 hl1 hl2
theorem kf(w:World):Calls Tryz.prog 6 #[] w (fQ true w):=by
 go_enter Tryz.func6,Tryz.ntmps6
 go_wp2_with fail
 refine (l9 8 4 1 1 5 _ _ _ [0,0] _ rfl (by exact fF _ 0 0 _ (by first|rfl|simp)) (by decide)).mono ?_;rintro e w1 ⟨hE1,hP⟩;rw [nR] at hP;obtain ⟨ao,cap,rfl,hI⟩:=hP;simp only [List.length_cons,List.length_nil,Nat.zero_add,Nat.reduceAdd];obtain ⟨hc1,hf1⟩:=ah hE1;have hz1:w.heap.size+1<w1.heap.size:=by have:=hE1.size;simp at this;omega
 have hz0:w.heap.size<w1.heap.size:=by omega
 have HE1:=Hi hE1;have HI:=Hi hI;clear hE1 hI
 go_wp2_with fail
 refine (l9 8 4 1 1 9 _ _ _ [0,0] _ rfl (fF w1 0 0 w1.heap.size rfl) (by decide)).mono ?_;rintro e w2 ⟨hE2,hP⟩;rw [nQ] at hP;subst hP;have HE2:=Hi hE2;clear hE2 hc1 hf1
 go_wp2_with fail
 refine (eM _ _ _ _ _ _ [1,1] [1,1] _ rfl rfl (((HI.out.ext (Ext.alloc _ _)).ext HE2.out).ext (Ext.alloc _ _)) (fF w2 1 1 w2.heap.size rfl) (by decide) (by decide)).mono ?_;rintro e w3 ⟨rfl,hE3⟩;have HE3:=Hi hE3;clear hE3;go_wp2
 go_ret
 refine ⟨aZ (by decide),?_⟩;exact Ext.trans (Ext.alloc _ _) (Ext.trans (Ext.alloc _ _) (HE1.out.trans (Ext.trans (Ext.alloc _ _) (HE2.out.trans (Ext.trans (Ext.alloc _ _) HE3.out)))))
end Go.Proofs.YtohahgiidooijaaGreat
/- quantise.Nearest, ref28.Nearest. -/
namespace Go.Proofs.YtohahgiidooijaaGreat
open Go.RowKit Go.Front Go.Num
attribute [local go_sem] XW.cell XW.frozen
def dh(b:Int)(f:Nat)(r o:Int)(q:Rat):Int:=(bM b f r o q).1
def okN(b:Int)(f:Nat)(r o:Int)(qs:List Rat):Bool:=qs.all fun q=>(bM b f r o q).2
def cJ(b:Int)(f:Nat)(r o:Int)(qs:List Rat):List Int×Int :=
 if (⟨b,f,r,o⟩:Wd).valid=true then if 49<qs.length then ([],4) else if okN b f r o qs=true then (qs.map (dh b f r o),0) else ([],17) else ([],2)
theorem gu{b:Int}{f:Nat}{r o:Int}{qs:List Rat}(h:(⟨b,f,r,o⟩:Wd).valid=false):cJ b f r o qs=([],2):=by
 unfold cJ;rw [if_neg (by rw [h];decide)]
theorem eV{b:Int}{f:Nat}{r o:Int}{qs:List Rat}(h:(⟨b,f,r,o⟩:Wd).valid=true)(hl:49<qs.length):cJ b f r o qs=([],4):=by
 unfold cJ;rw [if_pos h,if_pos hl]
theorem gv{b:Int}{f:Nat}{r o:Int}{qs:List Rat}(h:(⟨b,f,r,o⟩:Wd).valid=true)(hl:qs.length≤49){k:Nat}(hk:k<qs.length)(hb:(bM b f r o (qs.getD k 0)).2=false):cJ b f r o qs=([],17):=by
 unfold cJ;rw [if_pos h,if_neg (by omega),if_neg];intro h1;unfold okN at h1;have:=List.all_eq_true.1 h1 (qs.getD k 0) (by rw [nXc,List.getElem?_eq_getElem hk];exact List.getElem_mem hk);rw [hb] at this;cases this
theorem iH{b:Int}{f:Nat}{r o:Int}{qs:List Rat}(h:(⟨b,f,r,o⟩:Wd).valid=true)(hl:qs.length≤49)(hb:∀ k,k<qs.length→(bM b f r o (qs.getD k 0)).2=true):cJ b f r o qs=(qs.map (dh b f r o),0):=by
 unfold cJ;rw [if_pos h,if_neg (by omega),if_pos];unfold okN;rw [List.all_eq_true];intro q hq;obtain ⟨k,hk,rfl⟩:=List.getElem_of_mem hq;have:=hb k hk
 rwa [nXc,List.getElem?_eq_getElem hk] at this
abbrev EI(p:SH×Int):Value:=.tuple #[p.1.v,.int .i64 p.2]
def EIP(res:List Int×Int)(p:SH×Int)(w:World):Prop:=p.2=res.2∧p.1.n=res.1.length∧aA w p.1.a res.1
theorem kr{qs:List Rat}{S:Nat}(h:SzL S qs){k:Nat}(hk:k<qs.length):Sz S (qs.getD k 0) :=
 h _ (by rw [nXc,List.getElem?_eq_getElem hk];exact List.getElem_mem hk)
theorem mN{ls:List Int}{qs:List Rat}{g:Rat→Int}(hl:ls.length=qs.length)(h:∀ k,k<qs.length→ls.getD k 0=g (qs.getD k 0)):ls=qs.map g:=by
 apply List.ext_getElem?;intro k;by_cases hk:k<qs.length
 ·have:=h k hk;have hk2:k<ls.length:=by omega
  simp [hk,hk2] at this ⊢;exact this
 ·have hk2:¬ k<ls.length:=by omega
  simp [Nat.le_of_not_lt hk,Nat.le_of_not_lt hk2]
theorem jh(b r o:Int)(f S:Nat)(ao:Option Addr)(n cap:Nat)(qs:List Rat)(w:World)(h:eB w ⟨ao,n,cap⟩ qs)(hz:qs.length≤49→SzL S qs)(hS:S≤1000)(hf:(⟨b,f,r,o⟩:Wd).valid=true→f≤30) :
  av 7 [.slice ao n cap,(⟨b,f,r,o⟩:Wd).v] w EI (EIP (cJ b f r o qs)):=by
 obtain ⟨i0,hi0,hz0,hz1,hz2⟩:=info_parts Tryz.info3;have HX:=Hi (Ext.refl w);have H:=Hi h;have hle:=h.le;have hmx:=h.max;have Hlen:=Hi h.len;simp only at hle hmx Hlen;have HSz:=Hi hz;clear h hz;obtain ⟨p,hp⟩:∃ p,p=cJ b f r o qs:=⟨_,rfl⟩;have HP:=Hi hp;rw [←hp];clear hp;obtain ⟨ok,hok⟩:∃ v,v=(⟨b,f,r,o⟩:Wd).valid:=⟨_,rfl⟩;have HK:=Hi hok;clear hok;unfold av;go_enter Tryz.func7,Tryz.ntmps7
 go_upto_region 1 with fail
 refine nmA ?_;intro w1 hE B1 hz_w1 hr_w1;replace HX:=hE.tr HX;have hs_w1:=hE.size;clear hE;replace b_B1:=bX3 B1
 go_wp2_with fail
 refine cM (ff ⟨b,f,r,o⟩ _) fun x2 w2 hE _=>?_
 refine mV2 hE ?_ B1 HX;clear B1 HX;intro B1 HX;have hs_w2:=hE.size;clear hE;replace b_B1:=bX3 B1;rw [←HK.out];cases ok
 case false =>
  have HE:Hid (p=([],2)):=Hi (by rw [HP.out];exact gu HK.out.symm);go_wp2
  go_ret2
  exact ⟨(⟨none,0,0⟩,2),rfl,HX.out,by rw [HE.out];exact ⟨rfl,rfl,Or.inl rfl⟩⟩
 by_cases hl:49<n
 case pos =>
  have HE:Hid (p=([],4)):=Hi (by rw [HP.out];exact eV HK.out.symm (by rw [Hlen.out];exact hl));go_wp2
  go_ret2
  exact ⟨(⟨none,0,0⟩,4),rfl,HX.out,by rw [HE.out];exact ⟨rfl,rfl,Or.inl rfl⟩⟩
 have B1w:=B1;have hl49:Hid (qs.length≤49):=Hi (by rw [Hlen.out];omega)
 go_wp2_with (refine aB rfl (.tmp 18) (.tmp 18) 25 rfl 3 i0 (.int .i64 0) 1 Tryz.underlying25 hi0 hz0 hz1 _ _ n rfl rfl rfl rfl (by rw [hz2];omega) (by omega) ?_;intro w3 hnew hE)
 (try clear b_B1);clear B1
 obtain ⟨L,hL⟩:∃ L,L=w2.heap.size:=⟨_,rfl⟩;rw [←hL] at hnew ⊢;have hLw:w.heap.size+1≤L:=by omega
 rw [fy _ rfl] at hnew;have HL0:Hid (LB w3 L (List.replicate n 0) #[]):=Hi (by unfold LB;rw [hnew];simp);have HX3:=hE.tr HX;have hLs:L<w3.heap.size:=(nXa.1 hnew).1;have HB3:Hid (w3.heap[w.heap.size]?=some (.cells #[.int .i64 b,.int .i64 (f:Nat),.int .i64 r,.int .i64 o] 24 (0,0))):=hE.bl B1w;clear hnew hE hL
 go_loopg [22] n (fun g i wr=>∃ (j:Nat) (ls:List Int),j+g=n∧i=.int .i64 (j:Nat)∧Ext w wr∧wr.heap[w.heap.size]?=some (.cells #[.int .i64 b,.int .i64 (f:Nat),.int .i64 r,.int .i64 o] 24 (0,0))∧LB wr L ls #[]∧ls.length=n∧(∀ k,k<j→ls.getD k 0=dh b f r o (qs.getD k 0))∧(∀ k,k<j→(bM b f r o (qs.getD k 0)).2=true)∧L<wr.heap.size)
 case atStart=>exact ⟨0,List.replicate n 0,by omega,rfl,HX3.out,HB3.out,HL0.out,by simp,fun k hk=>by omega,fun k hk=>by omega,hLs⟩
 case round =>
  obtain ⟨j,ls,hj,rfl,g1,g2,g3,g4,g5,g6,g7⟩:=hrel;clear HX HX3 HB3 HL0 B1w;have HX:=Hi g1;have B1:=Hi g2;have BL:Hid (LB wr L ls #[]):=Hi g3;have HN5:=Hi g5;have HN6:=Hi g6;have Hll:=Hi g4;clear g1 g2 g3 g4 g5 g6;replace b_B1:=bX3 B1
  try clear f_BL l_BL
  have f_BL:=ae BL.out;have l_BL:=(nXa.1 BL.out).1;by_cases h0:gk=0
  case pos =>
   subst h0;obtain rfl:j=n:=by omega
   have HE:Hid (p=(qs.map (dh b f r o),0)):=Hi (by rw [HP.out];exact iH HK.out.symm hl49.out (fun k hk=>HN6.out k (by rw [←Hlen.out];exact hk)));have HQ:Hid (ls=qs.map (dh b f r o)):=Hi (mN (by rw [Hll.out,Hlen.out]) (fun k hk=>HN5.out k (by rw [←Hlen.out];exact hk)));go_wp2
   go_ret2
   exact ⟨(⟨some ⟨L,0,none⟩,j,j⟩,0),rfl,HX.out,by rw [HE.out];exact ⟨rfl,by rw [nXk];exact Hlen.out.symm,by rw [←HQ.out];exact BL.out.ints⟩⟩
  have hjn:(j:Int)<n:=by omega
  obtain ⟨bb,off,rr,hao,hbl,⟨hc1,hc2,hc3⟩,hP⟩:=(H.out.ext HX.out).cells' (k:=j) (by omega);obtain ⟨rneg,ra,rn,rc,rb,rm,rd⟩:=rr;simp only at hc1 hc2 hc3;subst hao;have RP:=Hi hP;clear hP;have ZQ:Hid (Sz S (qs.getD j 0)):=Hi (kr (HSz.out hl49.out) (by rw [Hlen.out];omega))
  go_upto_region 9 with fail
  replace BL:Hid (wr.heap[L]?=some (.cells ((ls.map (Value.int .i64)).toArray++#[]) 3 (0,0))):=BL
  refine nmA ?_;intro y1 hE B8 hz_y1 hr_y1;refine mV4 hE ?_ HX B1 BL RP;clear HX B1 BL RP;intro HX B1 BL RP;have hs_y1:=hE.size;clear hE;replace b_B1:=bX3 B1
  try clear f_BL l_BL
  have f_BL:=ae BL.out;have l_BL:=(nXa.1 BL.out).1;replace b_B8:=bX3 B8;have hLr:L<wr.heap.size:=g7
  go_wp2_with fail
  refine cM (jT b r o f S ⟨rneg,ra,rn,rc,rb,rm,rd⟩ (qs.getD j 0) _ RP.out ZQ.out hS hf) fun x11 w11 hE _=>?_
  refine mV5 hE ?_ B8 HX B1 BL RP;clear B8 HX B1 BL RP;intro B8 HX B1 BL RP;have hs_w11:=hE.size;clear hE;replace b_B1:=bX3 B1
  try clear f_BL l_BL
  have f_BL:=ae BL.out;have l_BL:=(nXa.1 BL.out).1;replace b_B8:=bX3 B8;obtain ⟨v,hv⟩:∃ v,v=(bM b f r o (qs.getD j 0)).1:=⟨_,rfl⟩;obtain ⟨k7,hk7⟩:∃ k,k=(bM b f r o (qs.getD j 0)).2:=⟨_,rfl⟩;rw [←hv,←hk7];have HV:=Hi hv;have HK7:=Hi hk7;clear hv hk7;cases k7
  case false =>
   have HE:Hid (p=([],17)):=Hi (by rw [HP.out];exact gv HK.out.symm hl49.out (k:=j) (by rw [Hlen.out];omega) HK7.out.symm);go_wp2
   go_ret2
   exact ⟨(⟨none,0,0⟩,17),rfl,HX.out,by rw [HE.out];exact ⟨rfl,rfl,Or.inl rfl⟩⟩
  case true =>
   have hlj:j<ls.length:=by rw [Hll.out];omega
   have BL2:Hid (LB w11 L ls #[]):=BL;have hcl:=BL2.out.cell hlj;have hL0:w.heap.size≤L:=by omega
   have hLf:L<w11.heap.size:=by omega
   have Hlj:=Hi hlj;clear hlj;go_wp2
   go_roundg (gk-1)
   case measure=>omega
   case rel =>
    refine ⟨j+1,ls.set j v,by omega,by go_num,kA HX.out hL0 (aD.setCell _ ⟨L,j,none⟩ _),(aD.setCell _ ⟨L,j,none⟩ _).blk (by show ¬ w.heap.size=L;omega) B1.out,BL2.out.set Hlj.out v,by rw [List.length_set];exact Hll.out,fun k hk=>?_,fun k hk=>?_,by simp [World.setCell];exact hLf⟩
    ·rcases Nat.lt_or_ge k j with h|h
     ·rw [nXc,List.getElem?_set_ne (by omega),←nXc];exact HN5.out k h
     ·obtain rfl:k=j:=by omega
      rw [nXc,List.getElem?_set_self Hlj.out];exact HV.out
    ·rcases Nat.lt_or_ge k j with h|h
     ·exact HN6.out k h
     ·obtain rfl:k=j:=by omega
      exact HK7.out.symm
theorem my{qs:List Rat}{g:Rat→Int}{j:Nat}(hj:j<qs.length):(qs.take (j+1)).map g=(qs.take j).map g++[g (qs.getD j 0)]:=by
 rw [List.take_add_one,List.map_append,nXc,List.getElem?_eq_getElem hj];rfl
theorem jb(b r o:Int)(f S:Nat)(ao:Option Addr)(n cap:Nat)(qs:List Rat)(w:World)(h:eB w ⟨ao,n,cap⟩ qs)(hz:qs.length≤49→SzL S qs)(hS:S≤1000)(hf:(⟨b,f,r,o⟩:Wd).valid=true→f≤30) :
  av 8 [.slice ao n cap,(⟨b,f,r,o⟩:Wd).v] w EI (EIP (cJ b f r o qs)):=by
 have HX:=Hi (Ext.refl w);have H:=Hi h;have hle:=h.le;have hmx:=h.max;have Hlen:=Hi h.len;simp only at hle hmx Hlen;have HSz:=Hi hz;clear h hz;obtain ⟨p,hp⟩:∃ p,p=cJ b f r o qs:=⟨_,rfl⟩;have HP:=Hi hp;rw [←hp];clear hp;obtain ⟨ok,hok⟩:∃ v,v=(⟨b,f,r,o⟩:Wd).valid:=⟨_,rfl⟩;have HK:=Hi hok;clear hok;unfold av;go_enter Tryz.func8,Tryz.ntmps8
 go_upto_region 1 with fail
 refine nmA ?_;intro w1 hE B1 hz_w1 hr_w1;replace HX:=hE.tr HX;have hs_w1:=hE.size;clear hE;replace b_B1:=bX3 B1
 go_wp2_with fail
 refine cM (cZ ⟨b,f,r,o⟩ _) fun x2 w2 hE _=>?_
 refine mV2 hE ?_ B1 HX;clear B1 HX;intro B1 HX;have hs_w2:=hE.size;clear hE;replace b_B1:=bX3 B1;rw [←HK.out];cases ok
 case false =>
  have HE:Hid (p=([],2)):=Hi (by rw [HP.out];exact gu HK.out.symm);go_wp2
  go_ret2
  exact ⟨(⟨none,0,0⟩,2),rfl,HX.out,by rw [HE.out];exact ⟨rfl,rfl,Or.inl rfl⟩⟩
 by_cases hl:49<n
 case pos =>
  have HE:Hid (p=([],4)):=Hi (by rw [HP.out];exact eV HK.out.symm (by rw [Hlen.out];exact hl));go_wp2
  go_ret2
  exact ⟨(⟨none,0,0⟩,4),rfl,HX.out,by rw [HE.out];exact ⟨rfl,rfl,Or.inl rfl⟩⟩
 have hl49:Hid (qs.length≤49):=Hi (by rw [Hlen.out];omega);go_wp2;have hz2:w.heap.size<w2.heap.size:=by omega
 go_loopg [6,7] n (fun g v i wr=>∃ (j:Nat) (vo:Option Addr) (vc:Nat),j+g=n∧i=.int .i64 (j:Nat)∧v=.slice vo j vc∧Ext w wr∧wr.heap[w.heap.size]?=some (.cells #[.int .i64 b,.int .i64 (f:Nat),.int .i64 r,.int .i64 o] 24 (0,0))∧wr.ownsRow (w.heap.size+1) 3 1 v j (((qs.take j).map (dh b f r o)).map (Value.int .i64))∧(∀ k,k<j→(bM b f r o (qs.getD k 0)).2=true)∧w.heap.size<wr.heap.size)
 case atStart=>exact ⟨0,none,0,by omega,rfl,rfl,HX.out,B1.out,World.ownsRow_nil _ _ _ _,fun k hk=>by omega,hz2⟩
 case round =>
  obtain ⟨j,vo,vc,hj,rfl,rfl,g1,g2,g3,g6,g7⟩:=hrel;clear HX B1;have HX:=Hi g1;have B1:=Hi g2;have HO:=Hi g3;have HN6:=Hi g6;clear g1 g2 g3 g6;have HXr:=Hi (Ext.refl wr);replace b_B1:=bX3 B1;have hlen:((qs.take j).map (dh b f r o)).length=j:=by rw [nXk,nXj,Hlen.out];omega
  have Hln:=Hi hlen;clear hlen;by_cases h0:gk=0
  case pos =>
   subst h0;obtain rfl:j=n:=by omega
   have hjj:¬ (j:Int)<j:=by omega
   have HE:Hid (p=(qs.map (dh b f r o),0)):=Hi (by rw [HP.out];exact iH HK.out.symm hl49.out (fun k hk=>HN6.out k (by rw [←Hlen.out];exact hk)));have HQ:Hid (qs.take j=qs):=Hi (nXl (by rw [Hlen.out];exact nXd _));rw [HQ.out] at HO Hln;go_wp2
   go_ret2
   have ho:=HO.out;rw [←Hln.out] at ho;obtain ⟨a1,c1,e1,e2⟩:=dN ho;rw [Hln.out] at e1;exact ⟨(⟨vo,j,vc⟩,0),rfl,HX.out,by rw [HE.out];cases e1;exact ⟨rfl,Hln.out.symm,e2⟩⟩
  have hjn:(j:Int)<n:=by omega
  obtain ⟨bb,off,rr,hao,hbl,⟨hc1,hc2,hc3⟩,hP⟩:=(H.out.ext HX.out).cells' (k:=j) (by omega);obtain ⟨rneg,ra,rn,rc,rb,rm,rd⟩:=rr;simp only at hc1 hc2 hc3;subst hao;have RP:=Hi hP;clear hP;have ZQ:Hid (Sz S (qs.getD j 0)):=Hi (kr (HSz.out hl49.out) (by rw [Hlen.out];omega));obtain ⟨v,hv⟩:∃ v,v=(bM b f r o (qs.getD j 0)).1:=⟨_,rfl⟩;obtain ⟨k7,hk7⟩:∃ k,k=(bM b f r o (qs.getD j 0)).2:=⟨_,rfl⟩;have HV:=Hi hv;have HK7:=Hi hk7;clear hv hk7
  go_upto_region 9 with fail
  refine wpG 11 (fun opIx=>match opIx with
   | 5=>.spec Unit () (fun _=>IB v k7) (fun _ _=>True)
   | _=>.quiet) (fun _=>[]) fun w0 he0 hz0 hc0 hf0=>?_
  refine wps he0.out rfl rfl (fun w1 hW hG=>?_) fun x41=>?_
  ·exact spc [(⟨b,f,r,o⟩:Wd).v,RH.v ⟨rneg,ra,rn,rc,rb,rm,rd⟩] Tryz.func43 ((by rw [HV.out,HK7.out];exact jM b r o f S ⟨rneg,ra,rn,rc,rb,rm,rd⟩ (qs.getD j 0) _ (RP.out.ext hW) ZQ.out hS hf))
  refine qZ ?_;refine am ?_;intro w9 hI;have hE:=he0.out.trans hI.ext;clear hI he0 hz0 hc0 hf0;refine mV3 hE ?_ HX B1 HXr;clear HX B1 HXr;intro HX B1 HXr;have hs_w9:=hE.size;clear hE;replace b_B1:=bX3 B1;simp only [pD];cases k7
  case false =>
   have HE:Hid (p=([],17)):=Hi (by rw [HP.out];exact gv HK.out.symm hl49.out (k:=j) (by rw [Hlen.out];omega) HK7.out.symm);go_wp2
   go_ret2
   exact ⟨(⟨none,0,0⟩,17),rfl,HX.out,by rw [HE.out];exact ⟨rfl,rfl,Or.inl rfl⟩⟩
  case true =>
   go_upto_region 12 with fail
   have hs9:w.heap.size+1≤w9.heap.size:=by omega
   have hj9:j≤1000000:=by omega
   have Hs9:=Hi hs9;have HO9:=Hi (HO.out.kept (gA (HXr.out.trans (Ext.alloc w9 (.cells #[.int .i64 v] 3))) none) (by cases (Value.slice vo j vc).ownBlock <;> simp))
   go_wp2_with (at_builtin;refine bY rfl (.tmp 33) (.tmp 35) rfl (w.heap.size+1) _ j _ rfl HO9.out w9.heap.size 1 v rfl (heap_alloc_new _ _) hj9 (by simp;omega) ?_;intro v' w4 hown4 hgrow4)
   have hmm:(qs.take (j+1)).map (dh b f r o)=(qs.take j).map (dh b f r o)++[v]:=by rw [my (by rw [Hlen.out];omega),HV.out];rfl
   have hl1:((qs.take (j+1)).map (dh b f r o)).length=j+1:=by rw [hmm,nXh,Hln.out];rfl
   have hown5:w4.ownsRow (w.heap.size+1) 3 1 v' (j+1) (((qs.take (j+1)).map (dh b f r o)).map (Value.int .i64)):=by rw [hmm,List.map_append];exact hown4
   obtain ⟨vo4,vc4,hv4,hI4⟩:=dN (xs:=(qs.take (j+1)).map (dh b f r o)) (by rw [hl1];exact hown5);rw [hl1] at hv4;subst hv4;have H4:=Hi hown5;have hx4:Below (w.heap.size+1) w4 w4:=Below.refl _ _;have HE4:Hid (Below (w.heap.size+1) w9 w4):=Hi (((Below.refl _ _).alloc (by omega) _).trans ((Below.refl _ _).grown (B:=w.heap.size+1) hgrow4 (by simp;omega) (fun k hk=>(HO9.out.lt k hk).1)));clear hown4 hown5 hgrow4 hI4 hmm hl1 hx4;have hs4:=HE4.out.size;go_wp2
   go_roundg (gk-1)
   case measure=>omega
   case rel =>
    refine ⟨j+1,vo4,vc4,by omega,by go_num,rfl,Ext.of_below HX.out (HE4.out.mono (by omega)) (by omega),(HE4.out.block w.heap.size (by omega)).trans B1.out,H4.out,fun k hk=>?_,by omega⟩;rcases Nat.lt_or_ge k j with h|h
    ·exact HN6.out k h
    ·obtain rfl:k=j:=by omega
     exact HK7.out.symm
theorem jg(x:Wd)(ao:Option Addr)(n cap:Nat)(w:World)(hx:x.valid=false):av 7 [.slice ao n cap,x.v] w EI (EIP ([],2)):=by
 have HX:=Hi (Ext.refl w);have HK:=Hi hx;clear hx;unfold av;go_enter Tryz.func7,Tryz.ntmps7
 go_upto_region 1 with fail
 refine nmA ?_;intro w1 hE B1 hz_w1 hr_w1;replace HX:=hE.tr HX;have hs_w1:=hE.size;clear hE;replace b_B1:=bX3 B1
 go_wp2_with fail
 refine cM (ff x _) fun x2 w2 hE _=>?_
 refine mV2 hE ?_ B1 HX;clear B1 HX;intro B1 HX;have hs_w2:=hE.size;clear hE;replace b_B1:=bX3 B1;rw [HK.out];go_wp2
 go_ret2
 exact ⟨(⟨none,0,0⟩,2),rfl,HX.out,rfl,rfl,Or.inl rfl⟩
theorem ja(x:Wd)(ao:Option Addr)(n cap:Nat)(w:World)(hx:x.valid=false):av 8 [.slice ao n cap,x.v] w EI (EIP ([],2)):=by
 have HX:=Hi (Ext.refl w);have HK:=Hi hx;clear hx;unfold av;go_enter Tryz.func8,Tryz.ntmps8
 go_upto_region 1 with fail
 refine nmA ?_;intro w1 hE B1 hz_w1 hr_w1;replace HX:=hE.tr HX;have hs_w1:=hE.size;clear hE;replace b_B1:=bX3 B1
 go_wp2_with fail
 refine cM (cZ x _) fun x2 w2 hE _=>?_
 refine mV2 hE ?_ B1 HX;clear B1 HX;intro B1 HX;have hs_w2:=hE.size;clear hE;replace b_B1:=bX3 B1;rw [HK.out];go_wp2
 go_ret2
 exact ⟨(⟨none,0,0⟩,2),rfl,HX.out,rfl,rfl,Or.inl rfl⟩
def eE(x:Wd)(qs:List Rat):List Int×Int:=if x.valid=true then cJ x.b x.f.toNat x.r x.o qs else ([],2)
theorem fZ{x:Wd}(h:x.valid=true):x=⟨x.b,(x.f.toNat:Nat),x.r,x.o⟩∧x.f.toNat≤30:=by
 have h1:=(Wd.valid_t.1 h).2.1;have h2:=(Wd.valid_t.1 h).1;obtain ⟨b,f,r,o⟩:=x;simp only at h1 h2 ⊢;exact ⟨by rw [Int.toNat_of_nonneg h1.1],by omega⟩
theorem eP(x:Wd)(S:Nat)(ao:Option Addr)(n cap:Nat)(qs:List Rat)(w:World)(h:eB w ⟨ao,n,cap⟩ qs)(hz:qs.length≤49→SzL S qs)(hS:S≤1000) :
  av 7 [.slice ao n cap,x.v] w EI (EIP (eE x qs)):=by
 unfold eE;by_cases hx:x.valid=true
 ·rw [if_pos hx];obtain ⟨e,hf⟩:=fZ hx;have:=jh x.b x.r x.o x.f.toNat S ao n cap qs w h hz hS (fun _=>hf);rw [←e] at this;exact this
 ·rw [if_neg hx];exact jg x ao n cap w (by simpa using hx)
theorem i9(x:Wd)(S:Nat)(ao:Option Addr)(n cap:Nat)(qs:List Rat)(w:World)(h:eB w ⟨ao,n,cap⟩ qs)(hz:qs.length≤49→SzL S qs)(hS:S≤1000) :
  av 8 [.slice ao n cap,x.v] w EI (EIP (eE x qs)):=by
 unfold eE;by_cases hx:x.valid=true
 ·rw [if_pos hx];obtain ⟨e,hf⟩:=fZ hx;have:=jb x.b x.r x.o x.f.toNat S ao n cap qs w h hz hS (fun _=>hf);rw [←e] at this;exact this
 ·rw [if_neg hx];exact ja x ao n cap w (by simpa using hx)
theorem mr(r v:Int):bU r (v:Rat)=v:=by
 unfold bU;split
 ·apply Int.le_antisymm
  ·have h1:((((v:Rat)+((1:Int):Rat) / ((2:Int):Rat)).floor:Int):Rat)<((v+1:Int):Rat):=by
    refine nF (Rat.floor_le _) ?_;rw [Rat.intCast_add];have:((1:Int):Rat) / ((2:Int):Rat)<((1:Int):Rat):=by decide +kernel
    grind
   have:=Rat.intCast_lt_intCast.1 h1;omega
  ·refine Rat.le_floor_iff.2 ?_;have:(0:Rat)≤((1:Int):Rat) / ((2:Int):Rat):=by decide +kernel
   grind
 ·split
  ·rw [←Rat.intCast_neg,Rat.floor_intCast];omega
  ·exact Rat.floor_intCast v
theorem jy(f:Nat)(v:Int):gL f v*(2:Rat) ^ f=(v:Rat):=by
 unfold gL;exact Rat.div_mul_cancel (jD f)
theorem j2{b r o v:Int}{f:Nat}(h1:(⟨b,f,r,o⟩:Wd).valid=true)(h2:(⟨b,f,r,o⟩:Wd).fits v=true):bM b f r o (gL f v)=(v,true):=by
 have e:bU r (gL f v*(2:Rat) ^ f)=v:=by rw [jy,mr]
 rw [iG h1 (by rw [e];exact h2),e]
theorem jr{x:Wd}{xs:List Int}(h1:x.valid=true)(hl:xs.length≤49)(h:∀ v ∈ xs,x.low≤v∧v≤x.high):eE x (xs.map (gL x.f.toNat))=(xs,0):=by
 unfold eE;rw [if_pos h1];obtain ⟨e,-⟩:=fZ h1;have hv:(⟨x.b,(x.f.toNat:Nat),x.r,x.o⟩:Wd).valid=true:=by rw [←e];exact h1
 have hn:∀ v ∈ xs,bM x.b x.f.toNat x.r x.o (gL x.f.toNat v)=(v,true):=fun v hv2=>j2 hv (by
  rw [←e];unfold Wd.fits;rw [h1,Bool.true_and,np];exact h v hv2)
 unfold cJ okN dh;rw [if_pos hv,if_neg (by rw [nXk];omega),if_pos]
 ·rw [List.map_map]
  congr 1
  conv=>rhs;rw [←List.map_id xs]
  apply List.map_congr_left;intro v hv2;simp [hn v hv2]
 ·rw [List.all_eq_true];intro q hq;obtain ⟨v,hv2,rfl⟩:=nXw.1 hq;rw [hn v hv2]
def SmD(k:Nat)(rs:List RH):Prop:=∀ r ∈ rs,r.n≤k∧r.m≤k
end Go.Proofs.YtohahgiidooijaaGreat
/- What all joins of this seat share. -/
namespace Go.Proofs.YtohahgiidooijaaGreat
open Go.ChangeShapes Go.WideShapes Go.ChangeAt Go.RowKit Go.Front Go.Joins
theorem own:ownKnob Tryz.prog.godebug=none:=by kernel_rfl
theorem fD:laidOutB Tryz.prog=true:=by kernel_rfl
theorem iw{n:Int}(h:(Lit.int .i64 n).wf=true):-9223372036854775808≤n∧n≤9223372036854775807:=by
 simp [Lit.wf] at h;exact ⟨h.1,h.2⟩
theorem lz{H:Type}{enc:TypeId×Value→H}{W:World}{a0:Option Addr}{len0 cap0:Nat}{d:DataW H}{p:List MemPlace}(h0:DataW.Trod enc Tryz.prog W 0 (fun _=>true) true 25 (.slice a0 len0 cap0) d p) :
  ∃ xs:List Int,aA W a0 xs∧InR xs∧xs.length=len0∧len0≤9223372036854775807∧len0≤cap0∧cap0≤9223372036854775807:=by
 obtain ⟨fuel,hf⟩:=h0;rcases open_ints Tryz.underlying25 Tryz.underlying3 (by kernel_rfl) hf with ⟨hcs,_⟩|⟨x,l,c,zs,hcs,_,hl,hm,hz,_,hcell,hwz⟩
 ·simp [Value.cells] at hcs;obtain ⟨rfl,rfl,rfl⟩:=hcs;exact ⟨[],Or.inl rfl,fun x hx=>by simp at hx,rfl,by decide,by decide,by decide⟩
 ·simp [Value.cells] at hcs;obtain ⟨rfl,rfl,rfl⟩:=hcs;simp only [maxLen] at hm;have hz':zs.length=cap0:=by simpa using hz
  refine ⟨zs.take len0,?_,fun x hx=>iw (hwz x (List.mem_of_mem_take hx)),by simp;omega,by omega,hl,by omega⟩;by_cases hp:0<zs.length
  ·obtain ⟨b,off,rfl,hc⟩:=ints_at hcell hp;refine Or.inr ⟨b,off,rfl,fun k hk=>?_⟩;simp only [nXj] at hk;rw [hc k (by omega)];simp [show k<len0 by omega]
  ·left
   have:zs=[]:=nXi.1 (by omega);rw [this];simp
end Go.Proofs.YtohahgiidooijaaGreat
