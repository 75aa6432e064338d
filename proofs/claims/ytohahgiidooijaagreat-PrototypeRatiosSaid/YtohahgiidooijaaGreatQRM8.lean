/- Make, Mk2, Poly1, Same, Rf5 -/
import Derived.Test.YtohahgiidooijaaGreatQRM7
set_option linter.unusedVariables false
set_option maxRecDepth 4000
set_option maxHeartbeats 2000000
namespace Go.Proofs.YtohahgiidooijaaGreat
open Go.RowKit Go.Front Go.Num
attribute [local go_sem] XW.cell XW.frozen
theorem sk(n m:Int)(hm:0<m):(if n.tmod m<0 then n.tmod m+m else n.tmod m)=n % m:=by
 rw [Int.tmod_eq_emod];have h1:=Int.emod_nonneg n (show m≠0 by omega);have h2:=Int.emod_lt_of_pos n hm;have h3:((m.natAbs:Nat):Int)=m:=by omega
 split
 ·split <;> omega
 ·rw [h3];split <;> omega
theorem sp(n m:Int)(hm:0<m):-m<n.tmod m∧n.tmod m<m:=by
 rw [Int.tmod_eq_emod];have h1:=Int.emod_nonneg n (show m≠0 by omega);have h2:=Int.emod_lt_of_pos n hm;have h3:((m.natAbs:Nat):Int)=m:=by omega
 split
 ·omega
 ·rw [h3];omega
theorem mr(n m:Int)(w:World)(hn:-9223372036854775808≤n)(hn2:n≤9223372036854775807)(hm:0<m)(hm2:m≤9223372036854775807) :
  am 33 [.int .i64 n,.int .i64 m] w (fun _:Unit=>.int .i64 (n % m)) (fun _ _=>True):=by
 have He:=Hi (sk n m hm);obtain ⟨hb1,hb2⟩:=sp n m hm;have hm0:m≠0:=by omega
 unfold am;go_enter Tryz.func33,Tryz.ntmps33;obtain ⟨r,hr⟩:∃ r,r=n.tmod m:=⟨_,rfl⟩;rw [←hr] at He hb1 hb2;by_cases h0:r<0
 ·rw [if_pos h0] at He;go_wp2
  go_ret
  exact ⟨(),bf (by rw [←hr];exact He.out),Ext.refl _,trivial⟩
 ·rw [if_neg h0] at He;go_wp2
  go_ret
  exact ⟨(),bf (by rw [←hr];exact He.out),Ext.refl _,trivial⟩
def vk(n:Int):Rat:=((n % 25-12:Int):Rat) / ((1+n.tdiv 25 % 8:Int):Rat)
theorem yI(n:Int)(w:World)(hn:-9223372036854775808≤n)(hn2:n≤9223372036854775807):am 114 [.int .i64 n] w RH.v (fun x w'=>au w' x (vk n)):=by
 have HX:=Hi (Ext.refl w);have h1:=Int.emod_nonneg n (show (25:Int)≠0 by decide);have h2:=Int.emod_lt_of_pos n (show (0:Int)<25 by decide);have h3:=Int.emod_nonneg (n.tdiv 25) (show (8:Int)≠0 by decide);have h4:=Int.emod_lt_of_pos (n.tdiv 25) (show (0:Int)<8 by decide);have h5:-9223372036854775808≤n.tdiv 25∧n.tdiv 25≤9223372036854775807:=by
  have:=Int.tmod_def n 25;have:=sp n 25 (by decide);omega
 obtain ⟨a,ha⟩:∃ a,a=n % 25:=⟨_,rfl⟩;obtain ⟨b,hb⟩:∃ b,b=n.tdiv 25 % 8:=⟨_,rfl⟩;rw [←ha] at h1 h2;rw [←hb] at h3 h4;have HA:=Hi ha;have HB:=Hi hb;have H5:=Hi h5;clear ha hb h5;unfold am;go_enter Tryz.func114,Tryz.ntmps114
 go_wp2_with fail
 refine nmA (F:=fun W=>Calls _ _ _ W _) ?_;intro w1 hE B2 hz_w1 hr_w1;replace HX:=hE.tr HX;have hs_w1:=hE.size;clear hE;replace b_B2:=bX3 B2
 change Calls _ _ _ _ _
 refine cM (mr n 25 _ hn hn2 (by decide) (by decide)) fun x2 w2 hE _=>?_
 refine mV2 hE ?_ B2 HX;clear B2 HX;intro B2 HX;have hs_w2:=hE.size;clear hE;replace b_B2:=bX3 B2;rw [←HA.out]
 go_wp2_with fail
 refine cM (mr (n.tdiv 25) 8 _ H5.out.1 H5.out.2 (by decide) (by decide)) fun x3 w3 hE _=>?_
 refine mV2 hE ?_ B2 HX;clear B2 HX;intro B2 HX;have hs_w3:=hE.size;clear hE;replace b_B2:=bX3 B2;rw [←HB.out]
 go_wp2_with fail
 refine cM (iW (a-12) (1+b) _ (by omega) (by omega) (by omega) (by omega)) fun x4 w4 hE G4=>?_
 refine mV2 hE ?_ B2 HX;clear B2 HX;intro B2 HX;have hs_w4:=hE.size;clear hE;replace b_B2:=bX3 B2;have G5:Hid (au w4 x4 (vk n)):=Hi (by unfold vk;rw [←HA.out,←HB.out];exact G4.out);clear G4;go_wp2;have hF:=((((Fin.start (L:=w.heap.size) HX.out (ai B2.out rfl)).set (by omega) (i:=0) (v:=.bool x4.neg) rfl).set (by omega) (i:=1) (v:=.slice x4.a x4.n x4.c) rfl).set (by omega) (i:=2) (v:=.slice x4.b x4.m x4.d) rfl);exact bodyPost_ret (v:=x4.v) (by simp [results,Tryz.results114,go_sem,ab B2.out]) rfl ⟨x4,rfl,hF.ext,G5.out.keep hF.keep⟩
theorem dQ.take{w:World}{ao:Option Addr}{xs:List Int}(h:dQ w ao xs)(m:Nat):dQ w ao (xs.take m):=by
 rcases h with h|⟨b,off,h1,h2⟩
 ·left;rw [h];simp
 ·right
  refine ⟨b,off,h1,fun k hk=>?_⟩;simp only [nXj] at hk;rw [h2 k (by omega)];simp [show k<m by omega]
def InR(xs:List Int):Prop:=∀ x ∈ xs,-9223372036854775808≤x∧x≤9223372036854775807
theorem InR.take{xs:List Int}(h:InR xs)(m:Nat):InR (xs.take m):=fun x hx=>h x (List.mem_of_mem_take hx)
theorem t7{xs:List Int}{k:Nat}(h:k<xs.length):xs.getD k 0 ∈ xs:=by
 rw [show xs.getD k 0=xs[k] by simp [h]];exact List.getElem_mem h
theorem wA{xs:List Int}{j:Nat}(f:Int→Rat)(h:j<xs.length):(xs.take j).map f++[f (xs.getD j 0)]=(xs.take (j+1)).map f:=by
 rw [List.take_succ_eq_append_getElem h,List.map_append];simp [h]
theorem pK(ao:Option Addr)(cap:Nat)(xs:List Int)(w:World)(h:dQ w ao xs)(hr:InR xs)(hl:xs.length≤1073741824)(hc:xs.length≤cap)(hcm:cap≤9223372036854775807) :
  am 52 [.slice ao xs.length cap] w SH.v (fun s w'=>cf w.heap.size w' s (xs.map vk)):=by
 have HX:=Hi (Ext.refl w);have H:=Hi h;have HR:=Hi hr;obtain ⟨n,hn⟩:∃ n,n=xs.length:=⟨_,rfl⟩;rw [←hn] at hl hc ⊢;have Hn:=Hi hn;clear h hr hn;unfold am;go_enter Tryz.func52,Tryz.ntmps52;go_wp2
 go_loopg [3,8] n (fun g v i wr=>∃ j:Nat,j+g=n∧i=.int .i64 (j:Nat)∧Ext w wr∧d8 wr (w.heap.size≤·) v ((xs.take j).map vk))
 case atStart=>exact ⟨0,by omega,rfl,HX.out,d8.nil _ _⟩
 case round =>
  obtain ⟨j,hj,rfl,g1,g2⟩:=hrel;obtain ⟨s,rfl⟩:=g2.sh;clear HX;have HX:=Hi g1;have HO:=Hi g2;have hsz:=g1.size;clear g1 g2;by_cases h0:gk=0
  ·subst h0;obtain rfl:j=n:=by omega
   go_wp2
   go_ret
   refine ⟨s,rfl,HX.out,?_⟩;have:=HO.out.lin
   rwa [nXl (by rw [Hn.out];exact nXd _)] at this
  ·obtain ⟨b,off,hao,hc1⟩:=(H.out.ext HX.out).at (k:=j) (by rw [←Hn.out];omega);subst hao;have hx:=HR.out _ (t7 (xs:=xs) (k:=j) (by rw [←Hn.out];omega));obtain ⟨x,hxe⟩:∃ x,x=xs.getD j 0:=⟨_,rfl⟩;rw [←hxe] at hc1 hx;have Hxe:=Hi hxe;have hbl:b<wr.heap.size:=nXp _ _ hc1;clear hxe;have hjn:(j:Int)<n:=by omega
   go_wp2_with fail
   refine cM (yI x _ hx.1 hx.2) fun x1 w1 hE G1=>?_
   refine mV2 hE ?_ HX HO;clear HX HO;intro HX HO;have hs_w1:=hE.size;clear hE
   go_wp2_with (at_builtin;refine de rfl (.tmp 12) (.tmp 15) 22 Tryz.underlying22 rfl (w.heap.size≤·) _ _ x1 _ rfl HO.out rfl G1.out (by simp;omega) (fun k hk=>by omega) ?_;intro s' y3 q1 q2 q3)
   have HX3:=Hi (Ext.mods HX.out q2 (fun k h=>h));have HO3:Hid (d8 y3 (w.heap.size≤·) s'.v ((xs.take (j+1)).map vk)):=Hi (by
    rw [←wA vk (by rw [←Hn.out];omega),←Hxe.out];exact q1)
   clear q1 q2 q3;go_wp2
   go_roundg (gk-1)
   case measure=>omega
   case rel=>exact ⟨j+1,by omega,by go_num,HX3.out,HO3.out⟩
theorem ek(q:Rat):dP q 0=0↔q=0:=by
 unfold dP;constructor
 ·intro h;split at h
  ·cases h
  ·split at h
   ·assumption
   ·cases h
 ·rintro rfl;rw [if_neg Rat.lt_irrefl,if_pos rfl]
theorem dI(ao:Option Addr)(n cap:Nat)(qs:List Rat)(w:World)(h:cx w ⟨ao,n,cap⟩ qs) :
  am 136 [.slice ao n cap] w (fun _:Unit=>.slice ao (tz qs).length cap) (fun _ _=>tz qs=qs.take (tz qs).length∧(tz qs).length≤n):=by
 have H:=Hi h;have hle:=h.le;have hmx:=h.max;have Hlen:=Hi h.len;simp only at hle hmx Hlen;clear h;unfold am
 change Calls Tryz.prog _ #[.slice ao n cap] w _
 go_enter Tryz.func136,Tryz.ntmps136;go_wp2
 go_loopg [3] n (fun g nv wr=>nv=.int .i64 (g:Nat)∧g≤n∧tz qs=tz (qs.take g)∧Ext w wr)
 case atStart=>exact ⟨rfl,nXd _,by rw [nXl (by rw [Hlen.out];exact nXd _)],Ext.refl _⟩
 case round =>
  obtain ⟨rfl,hg,hs,hE⟩:=hrel;have Hs:=Hi hs;have HE:=Hi hE;clear hs hE;by_cases h0:gk=0
  ·subst h0;go_wp2
   go_ret
   have e:tz qs=[]:=by rw [Hs.out];rfl
   refine ⟨(),?_,HE.out,?_,?_⟩
   ·rw [e];simp
   ·rw [e];simp
   ·rw [e];simp
  ·obtain ⟨k,rfl⟩:∃ m,gk=m+1:=⟨gk-1,by omega⟩;obtain ⟨b,off,r,hao,⟨hc1,hc2,hc3⟩,hP⟩:=(H.out.ext HE.out).at (k:=k) (by omega);subst hao;have hbl:b<wr.heap.size:=nXp _ _ hc1;obtain ⟨rneg,ra,rn,rc,rb,rm,rd⟩:=r;simp only at hc1 hc2 hc3;have HP:=Hi hP;clear hP h0
   go_wp2_with fail
   refine Calls.mono (dM ⟨rneg,ra,rn,rc,rb,rm,rd⟩ _ _ HP.out) ?_;rintro e w1 ⟨x1,rfl,hE1,-⟩;replace HE:=Hi (HE.out.trans hE1);have HZ:=Hi (ek (qs.getD k 0));obtain ⟨c,hc⟩:∃ c,c=dP (qs.getD k 0) 0:=⟨_,rfl⟩;rw [←hc] at HZ ⊢;clear hc hE1 HP hc1 hc2 hc3 hbl;by_cases hz:c=0
   ·subst hz;have Hz0:=Hi (HZ.out.1 rfl);clear HZ;go_wp2
    go_roundg k
    case measure=>omega
    case rel=>exact ⟨by go_num,by omega,by rw [Hs.out,fN (by rw [Hlen.out];omega) Hz0.out],HE.out⟩
   ·have hzb:(c == 0)=false:=by simpa using hz
    have HF:Hid (tz qs=qs.take (k+1)):=Hi (by rw [Hs.out,lK (by rw [Hlen.out];omega) (fun h=>hz (HZ.out.2 h))]);clear HZ hz;go_wp2
    go_ret
    have e:(tz qs).length=k+1:=by rw [HF.out,nXj,Hlen.out];omega
    refine ⟨(),?_,HE.out,?_,?_⟩
    ·rw [e];rfl
    ·rw [e];exact HF.out
    ·omega
theorem cT(ao:Option Addr)(n cap:Nat)(qs:List Rat)(w:World)(h:cx w ⟨ao,n,cap⟩ qs) :
  am 93 [.slice ao n cap] w (fun _:Unit=>.int .i64 (((tz qs).length:Int)-1)) (fun _ _=>True):=by
 have H:=Hi h;have hle:=h.le;have hmx:=h.max;simp only at hle hmx;clear h;unfold am
 change Calls Tryz.prog _ #[.slice ao n cap] w _
 go_enter Tryz.func93,Tryz.ntmps93
 go_wp2_with fail
 refine Calls.mono (dI _ _ _ _ _ H.out) ?_;rintro e w1 ⟨x1,rfl,hE1,-,h2⟩;have HE:=Hi hE1;clear hE1;go_wp2
 go_ret
 exact ⟨(),rfl,HE.out,trivial⟩
theorem fQ{l:List Rat}{j:Nat}(h:j<l.length):l.take j++[l.getD j 0]=l.take (j+1):=by
 rw [List.take_succ_eq_append_getElem h];simp [h]
theorem ag(qs:List Rat):(tz qs).length≤qs.length:=by
 unfold tz;rw [List.length_reverse];have:=(List.dropWhile_sublist (l:=qs.reverse) (· == 0)).length_le;rw [List.length_reverse] at this;exact this
theorem nq(ao:Option Addr)(n cap:Nat)(qs:List Rat)(w:World)(h:cx w ⟨ao,n,cap⟩ qs)(hn:n≤1073741824) :
  am 90 [.slice ao n cap] w SH.v (fun s w'=>cf w.heap.size w' s (tz qs)):=by
 obtain ⟨i0,hi0,hz0,hz1,hz2⟩:=info_parts gV;have H:=Hi h;have hle:=h.le;have hmx:=h.max;have Hlen:=Hi h.len;simp only at hle hmx Hlen;clear h;unfold am
 change Calls Tryz.prog _ #[.slice ao n cap] w _
 go_enter Tryz.func90,Tryz.ntmps90
 go_wp2_with fail
 refine Calls.mono (dI _ _ _ _ _ H.out) ?_;rintro e w1 ⟨x1,rfl,hE1,h1,h2⟩;have HE:=Hi hE1;have HT:=Hi h1;clear hE1 h1;obtain ⟨m,hm⟩:∃ m,m=(tz qs).length:=⟨_,rfl⟩;rw [←hm] at h2 HT ⊢;have Hm:=Hi hm;clear hm
 go_wp2_with (refine aA rfl (.tmp 7) (.tmp 7) 41 rfl 30 i0 (RH.v default) 3 Tryz.underlying41 hi0 hz0 hz1 _ _ m rfl rfl (by simp) (by simp) (by rw [hz2];omega) (by omega) ?_;intro w2 hnew hE2)
 have hL:w.heap.size≤w1.heap.size:=HE.out.size;have HF:=Hi (eT.start (RBk.make rfl hnew));replace HE:=Hi (HE.out.trans hE2);clear hnew hE2;obtain ⟨L,hLe⟩:∃ L,L=w1.heap.size:=⟨_,rfl⟩;rw [←hLe] at hL HF ⊢;clear hLe;go_wp2
 go_loopg [11] m (fun g i wr=>∃ j:Nat,j+g=m∧i=.int .i64 (j:Nat)∧Ext w wr∧eT wr L m ((tz qs).take j))
 case atStart=>exact ⟨0,by omega,rfl,HE.out,HF.out⟩
 case round =>
  obtain ⟨j,hj,rfl,g1,g2⟩:=hrel;clear HE HF;have HE:=Hi g1;have HF:=Hi g2;clear g1 g2;have hlf:((tz qs).take j).length=j:=by rw [nXj,←Hm.out];omega
  by_cases h0:gk=0
  ·subst h0;obtain rfl:j=m:=by omega
   go_wp2
   go_ret
   refine ⟨⟨some ⟨L,0,none⟩,j,j⟩,rfl,HE.out,?_⟩;have:=HF.out.new hL hlf (by omega)
   rwa [nXl (by rw [←Hm.out];exact nXd _)] at this
  ·obtain ⟨b,off,r,hao,⟨hc1,hc2,hc3⟩,hP⟩:=(H.out.ext HE.out).at (k:=j) (by omega);subst hao;obtain ⟨rneg,ra,rn,rc,rb,rm,rd⟩:=r;simp only at hc1 hc2 hc3;have HP:=Hi hP;clear hP
   go_wp2_with fail
   refine Calls.mono (df ⟨rneg,ra,rn,rc,rb,rm,rd⟩ _ _ HP.out) ?_;rintro e w3 ⟨x3,rfl,hE3,g3⟩;replace HE:=Hi (HE.out.trans hE3);replace HF:=Hi (HF.out.ext hE3);clear HP hc1 hc2 hc3 hE3;have G3:=Hi g3;clear g3;obtain ⟨r0,k1,k2,k3⟩:=HF.out.cells (by rw [hlf];omega);rw [hlf] at k1 k2 k3;have hfr:=HF.out.frozen;have hLl:=HF.out.lt;go_wp2;obtain ⟨_,rfl,T4⟩:=HF.out.put HE.out hL (by rw [hlf];omega) G3.out;rw [hlf] at T4;have e4:(tz qs).take j++[qs.getD j 0]=(tz qs).take (j+1):=by
    rw [←fQ (l:=tz qs) (by rw [←Hm.out];omega),HT.out];simp [show j<m by omega]
   rw [e4] at T4
   go_roundg (gk-1)
   case measure=>omega
   case rel=>exact ⟨j+1,by omega,by go_num,T4.ext,T4.fill⟩
theorem oq{a b:List Rat}(hl:a.length=b.length)(h:a.take a.length=b.take a.length):a=b:=by
 rw [nXl (nXd _),nXl (by omega)] at h;exact h
theorem st{a b:List Rat}{j:Nat}(h:a.take j=b.take j)(ha:j<a.length)(hb:j<b.length)(e:a.getD j 0=b.getD j 0):a.take (j+1)=b.take (j+1):=by
 rw [List.take_succ_eq_append_getElem ha,List.take_succ_eq_append_getElem hb,h];have e1:a[j]=b[j]:=by simpa [ha,hb] using e
 rw [e1]
theorem nc(s t:SH)(ps qs:List Rat)(w:World)(h:aF w s ps)(k:aF w t qs):am 61 [s.v,t.v] w (fun _:Unit=>.bool (decide (ps=qs))) (fun _ _=>True):=by
 obtain ⟨ao,n,c⟩:=s;obtain ⟨bo,m,d⟩:=t;have H:=Hi h;have K:=Hi k;have h1:=h.len;have h2:=h.le;have h3:=h.max;have k1:=k.len;have k2:=k.le;have k3:=k.max;simp only at h1 h2 h3 k1 k2 k3;clear h k;have Hn:=Hi h1;have Km:=Hi k1;clear h1 k1;unfold am
 change Calls Tryz.prog _ #[.slice ao n c,.slice bo m d] w _
 go_enter Tryz.func61,Tryz.ntmps61;by_cases hnm:n=m
 ·subst hnm;go_wp2
  go_loopg [5] n (fun g i wr=>∃ j:Nat,j+g=n∧i=.int .i64 (j:Nat)∧Ext w wr∧ps.take j=qs.take j)
  case atStart=>exact ⟨0,by omega,rfl,Ext.refl _,rfl⟩
  case round =>
   obtain ⟨j,hj,rfl,g1,g2⟩:=hrel;have HE:=Hi g1;have HT:=Hi g2;clear g1 g2;by_cases h0:gk=0
   ·subst h0;obtain rfl:j=n:=by omega
    go_wp2
    go_ret
    refine ⟨(),fu ?_,HE.out,trivial⟩;rw [decide_eq_true (oq (by rw [Hn.out,Km.out]) (by rw [Hn.out];exact HT.out))]
   ·obtain ⟨b,off,r,hao,⟨hc1,hc2,hc3⟩,hP⟩:=(H.out.ext HE.out).at (k:=j) (by omega);obtain ⟨b',off',r',hbo,⟨hd1,hd2,hd3⟩,hQ⟩:=(K.out.ext HE.out).at (k:=j) (by omega);subst hao hbo;obtain ⟨rneg,ra,rn,rc,rb,rm,rd⟩:=r;obtain ⟨sneg,sa,sn,sc,sb,sm,sd⟩:=r';simp only at hc1 hc2 hc3 hd1 hd2 hd3;have hbl:b<wr.heap.size:=nXp _ _ hc1;have hbl':b' < wr.heap.size:=nXp _ _ hd1;have HP:=Hi hP;have HQ:=Hi hQ;clear hP hQ;have hjn:(j:Int)<n:=by omega
    obtain ⟨u,hu⟩:∃ u,u=ps.getD j 0:=⟨_,rfl⟩;obtain ⟨v,hv⟩:∃ v,v=qs.getD j 0:=⟨_,rfl⟩;rw [←hu] at HP;rw [←hv] at HQ;have Hu:=Hi hu;have Hv:=Hi hv;clear hu hv;obtain ⟨B,hB⟩:∃ B,B=decide (u=v):=⟨_,rfl⟩;have HB:=Hi hB;clear hB
    go_upto_region 6 with fail
    refine wpG 10 (fun opIx=>match opIx with
     | 8=>.spec Unit () (fun _=>.bool B) (fun _ _=>True)
     | _=>.quiet) (fun _=>[]) fun w0 he0 hz0 hc0 hf0=>?_
    refine wps he0.out rfl rfl (fun w1 hW hG=>?_) fun x8=>?_
    ·exact spc [RH.v ⟨rneg,ra,rn,rc,rb,rm,rd⟩,RH.v ⟨sneg,sa,sn,sc,sb,sm,sd⟩] Tryz.func62 (HB.out ▸ k6 ⟨rneg,ra,rn,rc,rb,rm,rd⟩ ⟨sneg,sa,sn,sc,sb,sm,sd⟩ _ _ _ (HP.out.ext hW) (HQ.out.ext hW))
    refine qZ ?_;refine aj ?_;intro w2 hI;have hE:=he0.out.trans hI.ext;clear hI he0 hz0 hc0 hf0;replace HE:=hE.tr HE;have hs_w2:=hE.size;clear hE;simp only [pD];cases B
    ·have hne:¬ ps=qs:=fun e=>by
      have:=HB.out;rw [Hu.out,Hv.out,e] at this;simp at this
     go_wp2
     go_ret
     exact ⟨(),fu (decide_eq_false hne).symm,HE.out,trivial⟩
    ·have hpq:ps.getD j 0=qs.getD j 0:=by
      rw [←Hu.out,←Hv.out];exact of_decide_eq_true HB.out.symm
     have Hpq:=Hi hpq;clear hpq;go_wp2
     go_roundg (gk-1)
     case measure=>omega
     case rel=>exact ⟨j+1,by omega,by go_num,HE.out,st HT.out (by rw [Hn.out];omega) (by rw [Km.out];omega) Hpq.out⟩
 ·go_wp2
  go_ret
  refine ⟨(),fu ?_,Ext.refl _,trivial⟩;have:¬ ps=qs:=by rintro rfl;exact hnm (Hn.out.symm.trans Km.out)
  rw [decide_eq_false this]
theorem ez(s t:SH)(ps qs:List Rat)(w:World)(h:aF w s ps)(k:aF w t qs):am 82 [s.v,t.v] w (fun _:Unit=>.bool (decide (ps=qs))) (fun _ _=>True):=by
 obtain ⟨ao,n,c⟩:=s;obtain ⟨bo,m,d⟩:=t;have H:=Hi h;have K:=Hi k;clear h k;unfold am
 change Calls Tryz.prog _ #[.slice ao n c,.slice bo m d] w _
 go_enter Tryz.func82,Tryz.ntmps82
 go_wp2_with fail
 refine Calls.mono (nc ⟨ao,n,c⟩ ⟨bo,m,d⟩ ps qs _ H.out K.out) ?_;rintro e w1 ⟨x1,rfl,hE1,-⟩;have HE:=Hi hE1;clear hE1;go_wp2
 go_ret
 exact ⟨(),rfl,HE.out,trivial⟩
theorem cx.cells'{w:World}{ao:Option Addr}{n c:Nat}{qs:List Rat}(h:cx w ⟨ao,n,c⟩ qs){k:Nat}(hk:k<n):∃ b off r,ao=some ⟨b,off,none⟩∧b<w.heap.size∧RAt w b (off+k*3) r∧aR w r (qs.getD k 0) :=
 let ⟨b,off,r,h1,h2,h3⟩:=h.at hk;⟨b,off,r,h1,nXp _ _ h2.1,h2,h3⟩
theorem aZ(ao:Option Addr)(n cap:Nat)(qs:List Rat)(w:World)(h:cx w ⟨ao,n,cap⟩ qs)(hn:n≤1073741824) :
  am 17 [.slice ao n cap] w SH.v (fun s w'=>cf w.heap.size w' s (tz qs)):=by
 have H:=Hi h;have HX:=Hi (Ext.refl w);have hle:=h.le;have hmx:=h.max;have Hlen:=Hi h.len;simp only at hle hmx Hlen;clear h;unfold am;go_enter Tryz.func17,Tryz.ntmps17;go_wp2
 go_loopg [3] n (fun g nv wr=>nv=.int .i64 (g:Nat)∧g≤n∧tz qs=tz (qs.take g)∧Ext w wr)
 case atStart=>exact ⟨rfl,nXd _,by rw [nXl (by rw [Hlen.out];exact nXd _)],Ext.refl _⟩
 case round =>
  obtain ⟨rfl,hg,hs,hE⟩:=hrel;clear HX;have Hs:=Hi hs;have HX:=Hi hE;have hsz:=hE.size;clear hs hE;by_cases h0:gk=0
  ·subst h0;have HT:Hid (tz qs=qs.take 0):=Hi (by rw [Hs.out];rfl);have HTl:Hid ((tz qs).length=0):=Hi (by rw [HT.out];rfl);go_wp2
   go_loopg [4,26] 0 (fun g v i wr=>∃ j:Nat,j+g=0∧i=.int .i64 (j:Nat)∧Ext w wr∧d8 wr (w.heap.size≤·) v ((tz qs).take j))
   case atStart=>exact ⟨0,by omega,rfl,HX.out,d8.nil _ _⟩
   case round =>
    obtain ⟨j,hj,rfl,g1,g2⟩:=hrel;obtain ⟨s,rfl⟩:=g2.sh;clear HX;have HX:=Hi g1;have HO:=Hi g2;have hsz:=g1.size;clear g1 g2;by_cases h0:gk=0
    ·subst h0;obtain rfl:j=0:=by omega
     go_wp2
     go_ret
     refine ⟨s,rfl,HX.out,?_⟩;have:=HO.out.lin
     rwa [nXl (by rw [HTl.out];exact nXd _)] at this
    ·omega
  ·obtain ⟨k,rfl⟩:∃ m,gk=m+1:=⟨gk-1,by omega⟩;obtain ⟨b,off,r,hao,hbl,⟨hc1,hc2,hc3⟩,hP⟩:=(H.out.ext HX.out).cells' (k:=k) (by omega);obtain ⟨rneg,ra,rn,rc,rb,rm,rd⟩:=r;simp only at hc1 hc2 hc3;have HP:=Hi hP;clear hP h0;have Hao:=Hi hao;subst hao
   go_wp2_with fail
   refine cM (eW ⟨rneg,ra,rn,rc,rb,rm,rd⟩ _ _ HP.out) fun x1 w1 hE _=>?_
   replace HX:=hE.tr HX;have hs_w1:=hE.size;clear hE;have HZ:=Hi (ek (qs.getD k 0));obtain ⟨c,hc⟩:∃ c,c=dP (qs.getD k 0) 0:=⟨_,rfl⟩;rw [←hc] at HZ ⊢;clear hc HP hc1 hc2 hc3 hbl;by_cases hz:c=0
   ·subst hz;have Hz0:=Hi (HZ.out.1 rfl);clear HZ;go_wp2
    go_roundg k
    case measure=>omega
    case rel=>exact ⟨by go_num,by omega,by rw [Hs.out,fN (by rw [Hlen.out];omega) Hz0.out],HX.out⟩
   ·have hzb:(c == 0)=false:=by simpa using hz
    have HT:Hid (tz qs=qs.take (k+1)):=Hi (by rw [Hs.out,lK (by rw [Hlen.out];omega) (fun h=>hz (HZ.out.2 h))]);have HTl:Hid ((tz qs).length=k+1):=Hi (by rw [HT.out,nXj,Hlen.out];omega);clear HZ hz;go_wp2
    go_loopg [4,26] (k+1) (fun g v i wr=>∃ j:Nat,j+g=(k+1)∧i=.int .i64 (j:Nat)∧Ext w wr∧d8 wr (w.heap.size≤·) v ((tz qs).take j))
    case atStart=>exact ⟨0,by omega,rfl,HX.out,d8.nil _ _⟩
    case round =>
     obtain ⟨j,hj,rfl,g1,g2⟩:=hrel;obtain ⟨s,rfl⟩:=g2.sh;clear HX;have HX:=Hi g1;have HO:=Hi g2;have hsz:=g1.size;clear g1 g2;by_cases h0:gk=0
     ·subst h0;obtain rfl:j=(k+1):=by omega
      go_wp2
      go_ret
      refine ⟨s,rfl,HX.out,?_⟩;have:=HO.out.lin
      rwa [nXl (by rw [HTl.out];exact nXd _)] at this
     ·obtain ⟨b',off',r,hao,hbl,⟨hc1,hc2,hc3⟩,hP⟩:=(H.out.ext HX.out).cells' (k:=j) (by omega);obtain ⟨rfl,rfl⟩:b=b'∧off=off':=by simpa using hao
      obtain ⟨rneg,ra,rn,rc,rb,rm,rd⟩:=r;simp only at hc1 hc2 hc3;have HP:=Hi hP;clear hP;have hjn:(j:Int)<(k+1):=by omega
      go_upto_region 8 with fail
      refine nmA ?_;intro w1 hE B6 hz_w1 hr_w1;refine mV3 hE ?_ HX HO HP;clear HX HO HP;intro HX HO HP;have hs_w1:=hE.size;clear hE;replace b_B6:=bX3 B6
      go_wp2_with fail
      refine cM (cW ⟨rneg,ra,rn,rc,rb,rm,rd⟩ (qs.getD j 0) _ HP.out) fun x2 w2 hE G2=>?_
      refine mV4 hE ?_ B6 HX HO HP;clear B6 HX HO HP;intro B6 HX HO HP;have hs_w2:=hE.size;clear hE;replace b_B6:=bX3 B6
      go_wp2_with (at_builtin;refine de rfl (.tmp 30) (.tmp 33) 41 Tryz.underlying41 rfl (w.heap.size≤·) _ _ x2 _ rfl HO.out rfl G2.out (by simp;omega) (fun k hk=>by omega) ?_;intro s' y3 q1 q2 q3)
      have HX3:=Hi (Ext.mods HX.out q2 (fun k h=>h));have HO3:Hid (d8 y3 (w.heap.size≤·) s'.v ((tz qs).take (j+1))):=Hi (by
       rw [←fQ (l:=tz qs) (by rw [HTl.out];omega)];have e:(tz qs).getD j 0=qs.getD j 0:=by
        rw [HT.out];simp [show j<(k+1) by omega]
       rw [e];exact q1)
      clear q1 q2 q3;go_wp2
      go_roundg (gk-1)
      case measure=>omega
      case rel=>exact ⟨j+1,by omega,by go_num,HX3.out,HO3.out⟩
end Go.Proofs.YtohahgiidooijaaGreat
