/- Make, Mk2, Poly1, Same, Rf5 -/
import Derived.Test.YtofhkmcllihgmaaGreatQUM7
import Derived.Test.YtofhkmcllihgmaaGreatQUM1
set_option linter.unusedVariables false
set_option maxRecDepth 4000
set_option maxHeartbeats 2000000
namespace Go.Proofs.YtofhkmcllihgmaaGreat
open Go.RowKit Go.Front Go.Num
attribute [local go_sem] XW.cell XW.frozen
theorem sf(n m:Int)(hm:0<m):(if n.tmod m<0 then n.tmod m+m else n.tmod m)=n % m:=by
 rw [Int.tmod_eq_emod];have h1:=Int.emod_nonneg n (show m≠0 by omega);have h2:=Int.emod_lt_of_pos n hm;have h3:((m.natAbs:Nat):Int)=m:=by omega
 split
 ·split <;> omega
 ·rw [h3];split <;> omega
theorem si(n m:Int)(hm:0<m):-m<n.tmod m∧n.tmod m<m:=by
 rw [Int.tmod_eq_emod];have h1:=Int.emod_nonneg n (show m≠0 by omega);have h2:=Int.emod_lt_of_pos n hm;have h3:((m.natAbs:Nat):Int)=m:=by omega
 split
 ·omega
 ·rw [h3];omega
theorem fk(n m:Int)(w:World)(hn:-9223372036854775808≤n)(hn2:n≤9223372036854775807)(hm:0<m)(hm2:m≤9223372036854775807) :
  au 40 [.int .i64 n,.int .i64 m] w (fun _:Unit=>.int .i64 (n % m)) (fun _ _=>True):=by
 have He:=Hi (sf n m hm);obtain ⟨hb1,hb2⟩:=si n m hm;have hm0:m≠0:=by omega
 unfold au;go_enter Tryz.func40,Tryz.ntmps40;obtain ⟨r,hr⟩:∃ r,r=n.tmod m:=⟨_,rfl⟩;rw [←hr] at He hb1 hb2;by_cases h0:r<0
 ·rw [if_pos h0] at He;go_wp2
  go_ret
  exact ⟨(),aV (by rw [←hr];exact He.out),Ext.refl _,trivial⟩
 ·rw [if_neg h0] at He;go_wp2
  go_ret
  exact ⟨(),aV (by rw [←hr];exact He.out),Ext.refl _,trivial⟩
def vw(n:Int):Rat:=((n % 25-12:Int):Rat) / ((1+n.tdiv 25 % 8:Int):Rat)
theorem zH(n:Int)(w:World)(hn:-9223372036854775808≤n)(hn2:n≤9223372036854775807):au 57 [.int .i64 n] w RH.v (fun x w'=>aw w' x (vw n)):=by
 have HX:=Hi (Ext.refl w);have h1:=Int.emod_nonneg n (show (25:Int)≠0 by decide);have h2:=Int.emod_lt_of_pos n (show (0:Int)<25 by decide);have h3:=Int.emod_nonneg (n.tdiv 25) (show (8:Int)≠0 by decide);have h4:=Int.emod_lt_of_pos (n.tdiv 25) (show (0:Int)<8 by decide);have h5:-9223372036854775808≤n.tdiv 25∧n.tdiv 25≤9223372036854775807:=by
  have:=Int.tmod_def n 25;have:=si n 25 (by decide);omega
 obtain ⟨a,ha⟩:∃ a,a=n % 25:=⟨_,rfl⟩;obtain ⟨b,hb⟩:∃ b,b=n.tdiv 25 % 8:=⟨_,rfl⟩;rw [←ha] at h1 h2;rw [←hb] at h3 h4;have HA:=Hi ha;have HB:=Hi hb;have H5:=Hi h5;clear ha hb h5;unfold au;go_enter Tryz.func57,Tryz.ntmps57
 go_wp2_with fail
 refine nmA (F:=fun W=>Calls _ _ _ W _) ?_;intro w1 hE B2 hz_w1 hr_w1;replace HX:=hE.tr HX;have hs_w1:=hE.size;clear hE;replace b_B2:=b3 B2
 change Calls _ _ _ _ _
 refine cM (fk n 25 _ hn hn2 (by decide) (by decide)) fun x2 w2 hE _=>?_
 revert B2 HX;refine mV2 hE ?_;intro B2 HX
 have hs_w2:=hE.size;clear hE;replace b_B2:=b3 B2;rw [←HA.out]
 go_wp2_with fail
 refine cM (fk (n.tdiv 25) 8 _ H5.out.1 H5.out.2 (by decide) (by decide)) fun x3 w3 hE _=>?_
 revert B2 HX;refine mV2 hE ?_;intro B2 HX
 have hs_w3:=hE.size;clear hE;replace b_B2:=b3 B2;rw [←HB.out]
 go_wp2_with fail
 refine cM (cN (a-12) (1+b) _ (by omega) (by omega) (by omega) (by omega)) fun x4 w4 hE G4=>?_
 revert B2 HX;refine mV2 hE ?_;intro B2 HX
 have hs_w4:=hE.size;clear hE;replace b_B2:=b3 B2;have G5:Hid (aw w4 x4 (vw n)):=Hi (by unfold vw;rw [←HA.out,←HB.out];exact G4.out);clear G4;go_wp2;have hF:=((((Fin.start (L:=w.heap.size) HX.out (ai B2.out rfl)).set (by omega) (i:=0) (v:=.bool x4.neg) rfl).set (by omega) (i:=1) (v:=.slice x4.a x4.n x4.c) rfl).set (by omega) (i:=2) (v:=.slice x4.b x4.m x4.d) rfl);exact bodyPost_ret (v:=x4.v) (by simp [results,Tryz.results57,go_sem,ae B2.out]) rfl ⟨x4,rfl,hF.ext,G5.out.keep hF.keep⟩
theorem cZ.take{w:World}{ao:Option Addr}{xs:List Int}(h:cZ w ao xs)(m:Nat):cZ w ao (xs.take m):=by
 rcases h with h|⟨b,off,h1,h2⟩
 ·left;rw [h];simp
 ·right
  refine ⟨b,off,h1,fun k hk=>?_⟩;simp only [List.length_take] at hk;rw [h2 k (by omega)];simp [show k<m by omega]
def InR(xs:List Int):Prop:=∀ x ∈ xs,-9223372036854775808≤x∧x≤9223372036854775807
theorem InR.take{xs:List Int}(h:InR xs)(m:Nat):InR (xs.take m):=fun x hx=>h x (List.mem_of_mem_take hx)
theorem tV{xs:List Int}{k:Nat}(h:k<xs.length):xs.getD k 0 ∈ xs:=by
 rw [show xs.getD k 0=xs[k] by simp [h]];exact List.getElem_mem h
theorem wM{xs:List Int}{j:Nat}(f:Int→Rat)(h:j<xs.length):(xs.take j).map f++[f (xs.getD j 0)]=(xs.take (j+1)).map f:=by
 rw [List.take_succ_eq_append_getElem h,List.map_append];simp [h]
theorem pG(ao:Option Addr)(cap:Nat)(xs:List Int)(w:World)(h:cZ w ao xs)(hr:InR xs)(hl:xs.length≤1073741824)(hc:xs.length≤cap)(hcm:cap≤9223372036854775807) :
  au 93 [.slice ao xs.length cap] w SH.v (fun s w'=>dA w.heap.size w' s (xs.map vw)):=by
 have HX:=Hi (Ext.refl w);have H:=Hi h;have HR:=Hi hr;obtain ⟨n,hn⟩:∃ n,n=xs.length:=⟨_,rfl⟩;rw [←hn] at hl hc ⊢;have Hn:=Hi hn;clear h hr hn;unfold au;go_enter Tryz.func93,Tryz.ntmps93;go_wp2
 go_loopg [3,8] n (fun g v i wr=>∃ j:Nat,j+g=n∧i=.int .i64 (j:Nat)∧Ext w wr∧bZ wr (w.heap.size≤·) v ((xs.take j).map vw))
 case atStart=>exact ⟨0,by omega,rfl,HX.out,bZ.nil _ _⟩
 case round =>
  obtain ⟨j,hj,rfl,g1,g2⟩:=hrel;obtain ⟨s,rfl⟩:=g2.sh;clear HX;have HX:=Hi g1;have HO:=Hi g2;have hsz:=g1.size;clear g1 g2;by_cases h0:gk=0
  ·subst h0;obtain rfl:j=n:=by omega
   go_wp2
   go_ret
   refine ⟨s,rfl,HX.out,?_⟩;have:=HO.out.lin
   rwa [List.take_of_length_le (by rw [Hn.out];exact Nat.le_refl _)] at this
  ·obtain ⟨b,off,hao,hc1⟩:=(H.out.ext HX.out).at (k:=j) (by rw [←Hn.out];omega);subst hao;have hx:=HR.out _ (tV (xs:=xs) (k:=j) (by rw [←Hn.out];omega));obtain ⟨x,hxe⟩:∃ x,x=xs.getD j 0:=⟨_,rfl⟩;rw [←hxe] at hc1 hx;have Hxe:=Hi hxe;have hbl:b<wr.heap.size:=World.block_lt_of_cell? _ _ hc1;clear hxe;have hjn:(j:Int)<n:=by omega
   go_wp2_with fail
   refine cM (zH x _ hx.1 hx.2) fun x1 w1 hE G1=>?_
   refine mV2 hE ?_ HX HO;clear HX HO;intro HX HO;have hs_w1:=hE.size;clear hE
   go_wp2_with (at_builtin;refine bJ rfl (.tmp 12) (.tmp 15) 22 Tryz.underlying22 rfl (w.heap.size≤·) _ _ x1 _ rfl HO.out rfl G1.out (by simp;omega) (fun k hk=>by omega) ?_;intro s' y3 q1 q2 q3)
   have HX3:=Hi (Ext.mods HX.out q2 (fun k h=>h));have HO3:Hid (bZ y3 (w.heap.size≤·) s'.v ((xs.take (j+1)).map vw)):=Hi (by
    rw [←wM vw (by rw [←Hn.out];omega),←Hxe.out];exact q1)
   clear q1 q2 q3;go_wp2
   go_roundg (gk-1)
   case measure=>omega
   case rel=>exact ⟨j+1,by omega,by go_num,HX3.out,HO3.out⟩
theorem lg(q:Rat):dM q 0=0↔q=0:=by
 unfold dM;constructor
 ·intro h;split at h
  ·cases h
  ·split at h
   ·assumption
   ·cases h
 ·rintro rfl;rw [if_neg Rat.lt_irrefl,if_pos rfl]
theorem pK(ao:Option Addr)(n cap:Nat)(qs:List Rat)(w:World)(h:dU w ⟨ao,n,cap⟩ qs) :
  au 198 [.slice ao n cap] w (fun _:Unit=>.slice ao (tz qs).length cap) (fun _ _=>tz qs=qs.take (tz qs).length∧(tz qs).length≤n):=by
 have H:=Hi h;have hle:=h.le;have hmx:=h.max;have Hlen:=Hi h.len;simp only at hle hmx Hlen;clear h;unfold au
 change Calls Tryz.prog _ #[.slice ao n cap] w _
 go_enter Tryz.func198,Tryz.ntmps198;go_wp2
 go_loopg [3] n (fun g nv wr=>nv=.int .i64 (g:Nat)∧g≤n∧tz qs=tz (qs.take g)∧Ext w wr)
 case atStart=>exact ⟨rfl,Nat.le_refl _,by rw [List.take_of_length_le (by rw [Hlen.out];exact Nat.le_refl _)],Ext.refl _⟩
 case round =>
  obtain ⟨rfl,hg,hs,hE⟩:=hrel;have Hs:=Hi hs;have HE:=Hi hE;clear hs hE;by_cases h0:gk=0
  ·subst h0;go_wp2
   go_ret
   have e:tz qs=[]:=by rw [Hs.out];rfl
   refine ⟨(),?_,HE.out,?_,?_⟩
   ·rw [e];simp
   ·rw [e];simp
   ·rw [e];simp
  ·obtain ⟨k,rfl⟩:∃ m,gk=m+1:=⟨gk-1,by omega⟩;obtain ⟨b,off,r,hao,⟨hc1,hc2,hc3⟩,hP⟩:=(H.out.ext HE.out).at (k:=k) (by omega);subst hao;have hbl:b<wr.heap.size:=World.block_lt_of_cell? _ _ hc1;obtain ⟨rneg,ra,rn,rc,rb,rm,rd⟩:=r;simp only at hc1 hc2 hc3;have HP:=Hi hP;clear hP h0
   go_wp2_with fail
   refine Calls.mono (mJ ⟨rneg,ra,rn,rc,rb,rm,rd⟩ _ _ HP.out) ?_;rintro e w1 ⟨x1,rfl,hE1,-⟩;replace HE:=Hi (HE.out.trans hE1);have HZ:=Hi (lg (qs.getD k 0));obtain ⟨c,hc⟩:∃ c,c=dM (qs.getD k 0) 0:=⟨_,rfl⟩;rw [←hc] at HZ ⊢;clear hc hE1 HP hc1 hc2 hc3 hbl;by_cases hz:c=0
   ·subst hz;have Hz0:=Hi (HZ.out.1 rfl);clear HZ;go_wp2
    go_roundg k
    case measure=>omega
    case rel=>exact ⟨by go_num,by omega,by rw [Hs.out,jz (by rw [Hlen.out];omega) Hz0.out],HE.out⟩
   ·have hzb:(c == 0)=false:=by simpa using hz
    have HF:Hid (tz qs=qs.take (k+1)):=Hi (by rw [Hs.out,r9 (by rw [Hlen.out];omega) (fun h=>hz (HZ.out.2 h))]);clear HZ hz;go_wp2
    go_ret
    have e:(tz qs).length=k+1:=by rw [HF.out,List.length_take,Hlen.out];omega
    refine ⟨(),?_,HE.out,?_,?_⟩
    ·rw [e];rfl
    ·rw [e];exact HF.out
    ·omega
theorem jU(ao:Option Addr)(n cap:Nat)(qs:List Rat)(w:World)(h:dU w ⟨ao,n,cap⟩ qs) :
  au 106 [.slice ao n cap] w (fun _:Unit=>.int .i64 (((tz qs).length:Int)-1)) (fun _ _=>True):=by
 have H:=Hi h;have hle:=h.le;have hmx:=h.max;simp only at hle hmx;clear h;unfold au
 change Calls Tryz.prog _ #[.slice ao n cap] w _
 go_enter Tryz.func106,Tryz.ntmps106
 go_wp2_with fail
 refine Calls.mono (pK _ _ _ _ _ H.out) ?_;rintro e w1 ⟨x1,rfl,hE1,-,h2⟩;have HE:=Hi hE1;clear hE1;go_wp2
 go_ret
 exact ⟨(),rfl,HE.out,trivial⟩
theorem cT{l:List Rat}{j:Nat}(h:j<l.length):l.take j++[l.getD j 0]=l.take (j+1):=by
 rw [List.take_succ_eq_append_getElem h];simp [h]
theorem aj(qs:List Rat):(tz qs).length≤qs.length:=by
 unfold tz;rw [List.length_reverse];have:=(List.dropWhile_sublist (l:=qs.reverse) (· == 0)).length_le;rw [List.length_reverse] at this;exact this
theorem mN(ao:Option Addr)(n cap:Nat)(qs:List Rat)(w:World)(h:dU w ⟨ao,n,cap⟩ qs)(hn:n≤1073741824) :
  au 168 [.slice ao n cap] w SH.v (fun s w'=>dA w.heap.size w' s (tz qs)):=by
 obtain ⟨i0,hi0,hz0,hz1,hz2⟩:=info_parts lW;have H:=Hi h;have hle:=h.le;have hmx:=h.max;have Hlen:=Hi h.len;simp only at hle hmx Hlen;clear h;unfold au
 change Calls Tryz.prog _ #[.slice ao n cap] w _
 go_enter Tryz.func168,Tryz.ntmps168
 go_wp2_with fail
 refine Calls.mono (pK _ _ _ _ _ H.out) ?_;rintro e w1 ⟨x1,rfl,hE1,h1,h2⟩;have HE:=Hi hE1;have HT:=Hi h1;clear hE1 h1;obtain ⟨m,hm⟩:∃ m,m=(tz qs).length:=⟨_,rfl⟩;rw [←hm] at h2 HT ⊢;have Hm:=Hi hm;clear hm
 go_wp2_with (refine aM rfl (.tmp 7) (.tmp 7) 41 rfl 30 i0 (RH.v default) 3 Tryz.underlying41 hi0 hz0 hz1 _ _ m rfl rfl (by simp) (by simp) (by rw [hz2];omega) (by omega) ?_;intro w2 hnew hE2)
 have hL:w.heap.size≤w1.heap.size:=HE.out.size;have HF:=Hi (eM.start (RBk.make rfl hnew));replace HE:=Hi (HE.out.trans hE2);clear hnew hE2;obtain ⟨L,hLe⟩:∃ L,L=w1.heap.size:=⟨_,rfl⟩;rw [←hLe] at hL HF ⊢;clear hLe;go_wp2
 go_loopg [11] m (fun g i wr=>∃ j:Nat,j+g=m∧i=.int .i64 (j:Nat)∧Ext w wr∧eM wr L m ((tz qs).take j))
 case atStart=>exact ⟨0,by omega,rfl,HE.out,HF.out⟩
 case round =>
  obtain ⟨j,hj,rfl,g1,g2⟩:=hrel;clear HE HF;have HE:=Hi g1;have HF:=Hi g2;clear g1 g2;have hlf:((tz qs).take j).length=j:=by rw [List.length_take,←Hm.out];omega
  by_cases h0:gk=0
  ·subst h0;obtain rfl:j=m:=by omega
   go_wp2
   go_ret
   refine ⟨⟨some ⟨L,0,none⟩,j,j⟩,rfl,HE.out,?_⟩;have:=HF.out.new hL hlf (by omega)
   rwa [List.take_of_length_le (by rw [←Hm.out];exact Nat.le_refl _)] at this
  ·obtain ⟨b,off,r,hao,⟨hc1,hc2,hc3⟩,hP⟩:=(H.out.ext HE.out).at (k:=j) (by omega);subst hao;obtain ⟨rneg,ra,rn,rc,rb,rm,rd⟩:=r;simp only at hc1 hc2 hc3;have HP:=Hi hP;clear hP
   go_wp2_with fail
   refine Calls.mono (ik ⟨rneg,ra,rn,rc,rb,rm,rd⟩ _ _ HP.out) ?_;rintro e w3 ⟨x3,rfl,hE3,g3⟩;replace HE:=Hi (HE.out.trans hE3);replace HF:=Hi (HF.out.ext hE3);clear HP hc1 hc2 hc3 hE3;have G3:=Hi g3;clear g3;obtain ⟨r0,k1,k2,k3⟩:=HF.out.cells (by rw [hlf];omega);rw [hlf] at k1 k2 k3;have hfr:=HF.out.frozen;have hLl:=HF.out.lt;go_wp2;obtain ⟨_,rfl,T4⟩:=HF.out.put HE.out hL (by rw [hlf];omega) G3.out;rw [hlf] at T4;have e4:(tz qs).take j++[qs.getD j 0]=(tz qs).take (j+1):=by
    rw [←cT (l:=tz qs) (by rw [←Hm.out];omega),HT.out];simp [show j<m by omega]
   rw [e4] at T4
   go_roundg (gk-1)
   case measure=>omega
   case rel=>exact ⟨j+1,by omega,by go_num,T4.ext,T4.fill⟩
theorem nQ{a b:List Rat}(hl:a.length=b.length)(h:a.take a.length=b.take a.length):a=b:=by
 rw [List.take_of_length_le (Nat.le_refl _),List.take_of_length_le (by omega)] at h;exact h
theorem sp{a b:List Rat}{j:Nat}(h:a.take j=b.take j)(ha:j<a.length)(hb:j<b.length)(e:a.getD j 0=b.getD j 0):a.take (j+1)=b.take (j+1):=by
 rw [List.take_succ_eq_append_getElem ha,List.take_succ_eq_append_getElem hb,h];have e1:a[j]=b[j]:=by simpa [ha,hb] using e
 rw [e1]
theorem mG(s t:SH)(ps qs:List Rat)(w:World)(h:ce w s ps)(k:ce w t qs):au 60 [s.v,t.v] w (fun _:Unit=>.bool (decide (ps=qs))) (fun _ _=>True):=by
 obtain ⟨ao,n,c⟩:=s;obtain ⟨bo,m,d⟩:=t;have H:=Hi h;have K:=Hi k;have h1:=h.len;have h2:=h.le;have h3:=h.max;have k1:=k.len;have k2:=k.le;have k3:=k.max;simp only at h1 h2 h3 k1 k2 k3;clear h k;have Hn:=Hi h1;have Km:=Hi k1;clear h1 k1;unfold au
 change Calls Tryz.prog _ #[.slice ao n c,.slice bo m d] w _
 go_enter Tryz.func60,Tryz.ntmps60;by_cases hnm:n=m
 ·subst hnm;go_wp2
  go_loopg [5] n (fun g i wr=>∃ j:Nat,j+g=n∧i=.int .i64 (j:Nat)∧Ext w wr∧ps.take j=qs.take j)
  case atStart=>exact ⟨0,by omega,rfl,Ext.refl _,rfl⟩
  case round =>
   obtain ⟨j,hj,rfl,g1,g2⟩:=hrel;have HE:=Hi g1;have HT:=Hi g2;clear g1 g2;by_cases h0:gk=0
   ·subst h0;obtain rfl:j=n:=by omega
    go_wp2
    go_ret
    refine ⟨(),fg ?_,HE.out,trivial⟩;rw [decide_eq_true (nQ (by rw [Hn.out,Km.out]) (by rw [Hn.out];exact HT.out))]
   ·obtain ⟨b,off,r,hao,⟨hc1,hc2,hc3⟩,hP⟩:=(H.out.ext HE.out).at (k:=j) (by omega);obtain ⟨b',off',r',hbo,⟨hd1,hd2,hd3⟩,hQ⟩:=(K.out.ext HE.out).at (k:=j) (by omega);subst hao hbo;obtain ⟨rneg,ra,rn,rc,rb,rm,rd⟩:=r;obtain ⟨sneg,sa,sn,sc,sb,sm,sd⟩:=r';simp only at hc1 hc2 hc3 hd1 hd2 hd3;have hbl:b<wr.heap.size:=World.block_lt_of_cell? _ _ hc1;have hbl':b' < wr.heap.size:=World.block_lt_of_cell? _ _ hd1;have HP:=Hi hP;have HQ:=Hi hQ;clear hP hQ;have hjn:(j:Int)<n:=by omega
    obtain ⟨u,hu⟩:∃ u,u=ps.getD j 0:=⟨_,rfl⟩;obtain ⟨v,hv⟩:∃ v,v=qs.getD j 0:=⟨_,rfl⟩;rw [←hu] at HP;rw [←hv] at HQ;have Hu:=Hi hu;have Hv:=Hi hv;clear hu hv;obtain ⟨B,hB⟩:∃ B,B=decide (u=v):=⟨_,rfl⟩;have HB:=Hi hB;clear hB
    go_upto_region 6 with fail
    refine wpG 10 (fun opIx=>match opIx with
     | 8=>.spec Unit () (fun _=>.bool B) (fun _ _=>True)
     | _=>.quiet) (fun _=>[]) fun w0 he0 hz0 hc0 hf0=>?_
    refine wps he0.out rfl rfl (fun w1 hW hG=>?_) fun x8=>?_
    ·exact spc [RH.v ⟨rneg,ra,rn,rc,rb,rm,rd⟩,RH.v ⟨sneg,sa,sn,sc,sb,sm,sd⟩] Tryz.func132 (HB.out ▸ rt ⟨rneg,ra,rn,rc,rb,rm,rd⟩ ⟨sneg,sa,sn,sc,sb,sm,sd⟩ _ _ _ (HP.out.ext hW) (HQ.out.ext hW))
    refine qZ ?_;refine wpF_nil ?_;intro w2 hI;have hE:=he0.out.trans hI.ext;clear hI he0 hz0 hc0 hf0;replace HE:=hE.tr HE;have hs_w2:=hE.size;clear hE;simp only [pD];cases B
    ·have hne:¬ ps=qs:=fun e=>by
      have:=HB.out;rw [Hu.out,Hv.out,e] at this;simp at this
     go_wp2
     go_ret
     exact ⟨(),fg (decide_eq_false hne).symm,HE.out,trivial⟩
    ·have hpq:ps.getD j 0=qs.getD j 0:=by
      rw [←Hu.out,←Hv.out];exact of_decide_eq_true HB.out.symm
     have Hpq:=Hi hpq;clear hpq;go_wp2
     go_roundg (gk-1)
     case measure=>omega
     case rel=>exact ⟨j+1,by omega,by go_num,HE.out,sp HT.out (by rw [Hn.out];omega) (by rw [Km.out];omega) Hpq.out⟩
 ·go_wp2
  go_ret
  refine ⟨(),fg ?_,Ext.refl _,trivial⟩;have:¬ ps=qs:=by rintro rfl;exact hnm (Hn.out.symm.trans Km.out)
  rw [decide_eq_false this]
theorem dU.cells'{w:World}{ao:Option Addr}{n c:Nat}{qs:List Rat}(h:dU w ⟨ao,n,c⟩ qs){k:Nat}(hk:k<n):∃ b off r,ao=some ⟨b,off,none⟩∧b<w.heap.size∧RAt w b (off+k*3) r∧aO w r (qs.getD k 0) :=
 let ⟨b,off,r,h1,h2,h3⟩:=h.at hk;⟨b,off,r,h1,World.block_lt_of_cell? _ _ h2.1,h2,h3⟩
theorem aQ(ao:Option Addr)(n cap:Nat)(qs:List Rat)(w:World)(h:dU w ⟨ao,n,cap⟩ qs)(hn:n≤1073741824) :
  au 62 [.slice ao n cap] w SH.v (fun s w'=>dA w.heap.size w' s (tz qs)):=by
 have H:=Hi h;have HX:=Hi (Ext.refl w);have hle:=h.le;have hmx:=h.max;have Hlen:=Hi h.len;simp only at hle hmx Hlen;clear h;unfold au;go_enter Tryz.func62,Tryz.ntmps62;go_wp2
 go_loopg [3] n (fun g nv wr=>nv=.int .i64 (g:Nat)∧g≤n∧tz qs=tz (qs.take g)∧Ext w wr)
 case atStart=>exact ⟨rfl,Nat.le_refl _,by rw [List.take_of_length_le (by rw [Hlen.out];exact Nat.le_refl _)],Ext.refl _⟩
 case round =>
  obtain ⟨rfl,hg,hs,hE⟩:=hrel;clear HX;have Hs:=Hi hs;have HX:=Hi hE;have hsz:=hE.size;clear hs hE;by_cases h0:gk=0
  ·subst h0;have HT:Hid (tz qs=qs.take 0):=Hi (by rw [Hs.out];rfl);have HTl:Hid ((tz qs).length=0):=Hi (by rw [HT.out];rfl);go_wp2
   go_loopg [4,26] 0 (fun g v i wr=>∃ j:Nat,j+g=0∧i=.int .i64 (j:Nat)∧Ext w wr∧bZ wr (w.heap.size≤·) v ((tz qs).take j))
   case atStart=>exact ⟨0,by omega,rfl,HX.out,bZ.nil _ _⟩
   case round =>
    obtain ⟨j,hj,rfl,g1,g2⟩:=hrel;obtain ⟨s,rfl⟩:=g2.sh;clear HX;have HX:=Hi g1;have HO:=Hi g2;have hsz:=g1.size;clear g1 g2;by_cases h0:gk=0
    ·subst h0;obtain rfl:j=0:=by omega
     go_wp2
     go_ret
     refine ⟨s,rfl,HX.out,?_⟩;have:=HO.out.lin
     rwa [List.take_of_length_le (by rw [HTl.out];exact Nat.le_refl _)] at this
    ·omega
  ·obtain ⟨k,rfl⟩:∃ m,gk=m+1:=⟨gk-1,by omega⟩;obtain ⟨b,off,r,hao,hbl,⟨hc1,hc2,hc3⟩,hP⟩:=(H.out.ext HX.out).cells' (k:=k) (by omega);obtain ⟨rneg,ra,rn,rc,rb,rm,rd⟩:=r;simp only at hc1 hc2 hc3;have HP:=Hi hP;clear hP h0;have Hao:=Hi hao;subst hao
   go_wp2_with fail
   refine cM (cL ⟨rneg,ra,rn,rc,rb,rm,rd⟩ _ _ HP.out) fun x1 w1 hE _=>?_
   replace HX:=hE.tr HX;have hs_w1:=hE.size;clear hE;have HZ:=Hi (lg (qs.getD k 0));obtain ⟨c,hc⟩:∃ c,c=dM (qs.getD k 0) 0:=⟨_,rfl⟩;rw [←hc] at HZ ⊢;clear hc HP hc1 hc2 hc3 hbl;by_cases hz:c=0
   ·subst hz;have Hz0:=Hi (HZ.out.1 rfl);clear HZ;go_wp2
    go_roundg k
    case measure=>omega
    case rel=>exact ⟨by go_num,by omega,by rw [Hs.out,jz (by rw [Hlen.out];omega) Hz0.out],HX.out⟩
   ·have hzb:(c == 0)=false:=by simpa using hz
    have HT:Hid (tz qs=qs.take (k+1)):=Hi (by rw [Hs.out,r9 (by rw [Hlen.out];omega) (fun h=>hz (HZ.out.2 h))]);have HTl:Hid ((tz qs).length=k+1):=Hi (by rw [HT.out,List.length_take,Hlen.out];omega);clear HZ hz;go_wp2
    go_loopg [4,26] (k+1) (fun g v i wr=>∃ j:Nat,j+g=(k+1)∧i=.int .i64 (j:Nat)∧Ext w wr∧bZ wr (w.heap.size≤·) v ((tz qs).take j))
    case atStart=>exact ⟨0,by omega,rfl,HX.out,bZ.nil _ _⟩
    case round =>
     obtain ⟨j,hj,rfl,g1,g2⟩:=hrel;obtain ⟨s,rfl⟩:=g2.sh;clear HX;have HX:=Hi g1;have HO:=Hi g2;have hsz:=g1.size;clear g1 g2;by_cases h0:gk=0
     ·subst h0;obtain rfl:j=(k+1):=by omega
      go_wp2
      go_ret
      refine ⟨s,rfl,HX.out,?_⟩;have:=HO.out.lin
      rwa [List.take_of_length_le (by rw [HTl.out];exact Nat.le_refl _)] at this
     ·obtain ⟨b',off',r,hao,hbl,⟨hc1,hc2,hc3⟩,hP⟩:=(H.out.ext HX.out).cells' (k:=j) (by omega);obtain ⟨rfl,rfl⟩:b=b'∧off=off':=by simpa using hao
      obtain ⟨rneg,ra,rn,rc,rb,rm,rd⟩:=r;simp only at hc1 hc2 hc3;have HP:=Hi hP;clear hP;have hjn:(j:Int)<(k+1):=by omega
      go_upto_region 8 with fail
      refine nmA ?_;intro w1 hE B6 hz_w1 hr_w1;refine mV3 hE ?_ HX HO HP;clear HX HO HP;intro HX HO HP;have hs_w1:=hE.size;clear hE;replace b_B6:=b3 B6
      go_wp2_with fail
      refine cM (cK ⟨rneg,ra,rn,rc,rb,rm,rd⟩ (qs.getD j 0) _ HP.out) fun x2 w2 hE G2=>?_
      revert B6 HX HO HP;refine mV4 hE ?_;intro B6 HX HO HP
      have hs_w2:=hE.size;clear hE;replace b_B6:=b3 B6
      go_wp2_with (at_builtin;refine bJ rfl (.tmp 30) (.tmp 33) 41 Tryz.underlying41 rfl (w.heap.size≤·) _ _ x2 _ rfl HO.out rfl G2.out (by simp;omega) (fun k hk=>by omega) ?_;intro s' y3 q1 q2 q3)
      have HX3:=Hi (Ext.mods HX.out q2 (fun k h=>h));have HO3:Hid (bZ y3 (w.heap.size≤·) s'.v ((tz qs).take (j+1))):=Hi (by
       rw [←cT (l:=tz qs) (by rw [HTl.out];omega)];have e:(tz qs).getD j 0=qs.getD j 0:=by
        rw [HT.out];simp [show j<(k+1) by omega]
       rw [e];exact q1)
      clear q1 q2 q3;go_wp2
      go_roundg (gk-1)
      case measure=>omega
      case rel=>exact ⟨j+1,by omega,by go_num,HX3.out,HO3.out⟩
end Go.Proofs.YtofhkmcllihgmaaGreat
/- Stab, StbP, Stb1, Stb2, Stb3 -/
set_option linter.unusedVariables false
namespace Go.Stab
def sm:Nat→(Nat→Rat)→Rat
 | 0,_=>0
 | n+1,f=>sm n f+f n
theorem sm_congr{n:Nat}{f g:Nat→Rat}(h:∀ i,i<n→f i=g i):sm n f=sm n g:=by
 induction n with
 | zero=>rfl
 | succ n ih=>simp only [sm];rw [ih (fun i hi=>h i (by omega)),h n (by omega)]
theorem mC(n:Nat)(f g:Nat→Rat):sm n (fun i=>f i+g i)=sm n f+sm n g:=by
 induction n with
 | zero=>simp only [sm];grind
 | succ n ih=>simp only [sm];rw [ih];grind
theorem gx(n:Nat)(c:Rat)(f:Nat→Rat):sm n (fun i=>c*f i)=c*sm n f:=by
 induction n with
 | zero=>simp [sm]
 | succ n ih=>simp only [sm];rw [ih];grind
theorem sm_zero(n:Nat):sm n (fun _=>0)=0:=by
 induction n with
 | zero=>rfl
 | succ n ih=>simp only [sm];rw [ih];grind
theorem Bl{n:Nat}{f g:Nat→Rat}(h:∀ i,i<n→f i≤g i):sm n f≤sm n g:=by
 induction n with
 | zero=>exact Rat.le_refl
 | succ n ih =>
  simp only [sm];have h1:=ih (fun i hi=>h i (by omega));have h2:=h n (by omega);grind
theorem dO(n:Nat)(f:Nat→Rat):sm (n+1) f=f 0+sm n (fun i=>f (i+1)):=by
 induction n with
 | zero=>simp [sm];grind
 | succ n ih=>rw [sm,ih];simp only [sm];grind
theorem sm_split(n m:Nat)(f:Nat→Rat):sm (n+m) f=sm n f+sm m (fun i=>f (n+i)):=by
 induction m with
 | zero=>simp [sm];grind
 | succ m ih=>rw [←Nat.add_assoc];simp only [sm];rw [ih];grind
theorem Bk(n:Nat)(f:Nat→Rat):sm n f=sm n (fun i=>f (n-1-i)):=by
 induction n with
 | zero=>rfl
 | succ n ih =>
  rw [dO n (fun i=>f (n+1-1-i))];simp only [sm];rw [ih];have:sm n (fun i=>f (n+1-1-(i+1)))=sm n (fun i=>f (n-1-i)):=sm_congr (fun i hi=>by congr 1;omega);rw [this];simp only [Nat.add_sub_cancel,Nat.sub_zero];grind
def sh(u:Nat→Rat):Nat→Rat
 | 0=>0
 | n+1=>u n
def ap:List Rat→(Nat→Rat)→Nat→Rat
 | [],_=>fun _=>0
 | a :: l,u=>fun n=>a*u n+sh (ap l u) n
def E(n:Nat)(u:Nat→Rat):Rat:=sm n (fun i=>u i*u i)
theorem zB:sh (fun _=>0)=fun _=>0:=by
 funext n;cases n <;> rfl
def DQ(a b:List Rat):List Rat:=List.zipWith (·+·) a b
def DP(c:Rat)(a:List Rat):List Rat:=a.map (c*·)
def up(c:List Rat)(k:Rat):List Rat:=DQ (c++[0]) (DP k (0 :: c.reverse))
def Inv(c:List Rat):Prop:=∃ C:Rat,0≤C∧∀ u N,E N u≤C*E N (ap c u)
def shn(i:Nat)(u:Nat→Rat)(n:Nat):Rat:=if i≤n then u (n-i) else 0
theorem vO(i:Nat)(u:Nat→Rat)(n:Nat):shn (i+1) u (n+1)=shn i u n:=by
 unfold shn;by_cases h:i≤n
 ·rw [if_pos h,if_pos (by omega)];congr 1;omega
 ·rw [if_neg h,if_neg (by omega)]
theorem ap_sum(c:List Rat)(u:Nat→Rat)(n:Nat):ap c u n=sm c.length (fun i=>c.getD i 0*shn i u n):=by
 induction c generalizing n with
 | nil=>rfl
 | cons a l ih =>
  simp only [ap,List.length_cons];rw [dO];have e0:shn 0 u n=u n:=by unfold shn;simp
  have e1:sh (ap l u) n=sm l.length (fun i=>(a :: l).getD (i+1) 0*shn (i+1) u n):=by
   cases n with
   | zero =>
    simp only [sh];rw [sm_congr (g:=fun _=>0) (fun i _=>by simp [shn]),sm_zero]
   | succ n =>
    simp only [sh];rw [ih];exact sm_congr (fun i _=>by rw [vO];simp)
  rw [e1,e0];simp
def G(L:Nat)(u:Nat→Rat)(i j:Nat):Rat:=sm L (fun n=>shn i u n*shn j u n)
theorem wN(a b:Rat):a<b∨b≤a:=by
 rcases Rat.le_total (a:=b) (b:=a) with h|h
 ·exact Or.inr h
 ·by_cases h1:a=b
  ·right;rw [h1];exact Rat.le_refl
  ·left;exact Rat.lt_of_le_of_ne h h1
theorem vN(n:Nat)(c:Rat):sm n (fun _=>c)=(n:Rat)*c:=by
 induction n with
 | zero=>simp only [sm];grind
 | succ n ih=>simp only [sm];rw [ih,Rat.natCast_add];grind
theorem yt{J:Nat}{f:Nat→Rat}{S:Rat}(hJ:1≤J)(h:sm J f≤S):∃ j,j<J∧(J:Rat)*f j≤S:=by
 apply Classical.byContradiction;intro hn;have hall:∀ j,j<J→S<(J:Rat)*f j:=by
  intro j hj;rcases wN (S) ((J:Rat)*f j) with h1|h1
  ·exact h1
  ·exact absurd ⟨j,hj,h1⟩ hn
 have h1:sm J (fun _=>S)≤sm J (fun j=>(J:Rat)*f j):=Bl (fun j hj=>Rat.le_of_lt (hall j hj));have h2:sm J (fun _=>S)<sm J (fun j=>(J:Rat)*f j):=by
  obtain ⟨J',rfl⟩:∃ J',J=J'+1:=⟨J-1,by omega⟩;simp only [sm];have a1:=hall J' (by omega);have a2:sm J' (fun _=>S)≤sm J' (fun j=>((J'+1:Nat):Rat)*f j):=Bl (fun j hj=>Rat.le_of_lt (hall j (by omega)));grind
 rw [vN,gx] at h2;have h3:=Rat.mul_le_mul_of_nonneg_left h (c:=(J:Rat)) (by exact Rat.natCast_nonneg);grind
def seq(c:List Rat)(n:Nat):Rat:=c.getD n 0
def cv(s u:Nat→Rat)(n:Nat):Rat:=sm (n+1) (fun i=>s i*u (n-i))
theorem kq(s u:Nat→Rat):cv s u=cv u s:=by
 funext n
 unfold cv;rw [Bk];exact sm_congr (fun i hi=>by rw [show n-(n+1-1-i)=i by omega,show n+1-1-i=n-i by omega];grind)
theorem Cf(t u:Nat→Rat):cv (sh t) u=sh (cv t u):=by
 funext n
 cases n with
 | zero=>simp only [cv,sm,sh];grind
 | succ n =>
  simp only [sh];unfold cv;rw [dO];simp only [sh];rw [sm_congr (f:=fun i=>t i*u (n+1-(i+1))) (g:=fun i=>t i*u (n-i)) (fun i hi=>by rw [show n+1-(i+1)=n-i by omega])];grind
theorem nu(s t u:Nat→Rat):cv (fun n=>s n+t n) u=fun n=>cv s u n+cv t u n:=by
 funext n
 unfold cv;rw [←mC];exact sm_congr (fun i _=>by grind)
theorem iw(c:Rat)(s u:Nat→Rat):cv (fun n=>c*s n) u=fun n=>c*cv s u n:=by
 funext n
 unfold cv;rw [←gx];exact sm_congr (fun i _=>by grind)
theorem D3(p:List Rat)(s u:Nat→Rat):cv (ap p s) u=ap p (cv s u):=by
 induction p with
 | nil=>funext n;unfold cv ap;rw [sm_congr (g:=fun _=>0) (fun i _=>by grind),sm_zero]
 | cons a l ih=>simp only [ap];rw [nu,iw,Cf,ih]
theorem vQ(a:Rat)(l:List Rat):seq (a :: l)=fun n=>a*(if n=0 then 1 else 0)+sh (seq l) n:=by
 funext n
 cases n with
 | zero=>simp only [seq,sh,List.getD_cons_zero,if_true];grind
 | succ n=>simp only [seq,sh,List.getD_cons_succ,if_neg (Nat.succ_ne_zero n)];grind
theorem Ci(u:Nat→Rat):cv (fun n=>if n=0 then 1 else 0) u=u:=by
 funext n
 unfold cv;rw [dO,sm_congr (f:=fun i=>(if i+1=0 then 1 else 0)*u (n-(i+1))) (g:=fun _=>0) (fun i _=>by rw [if_neg (Nat.succ_ne_zero i)];grind),sm_zero];simp only [if_true,Nat.sub_zero];grind
theorem fT(p:List Rat)(u:Nat→Rat):ap p u=cv (seq p) u:=by
 induction p with
 | nil=>funext n;unfold cv ap;rw [sm_congr (g:=fun _=>0) (fun i _=>by simp only [seq,List.getD_nil];grind),sm_zero]
 | cons a l ih=>rw [vQ,nu,iw,Cf,Ci,←ih];rfl
theorem AT(p q:List Rat):ap p (seq q)=ap q (seq p):=by rw [fT,fT,kq]
theorem pI{r:Rat}(h:0<r)(n:Nat):0<r ^ n:=by
 induction n with
 | zero=>rw [Rat.pow_zero];decide
 | succ n ih=>rw [Rat.pow_succ];exact Rat.mul_pos ih h
theorem wW{a b:List Rat}{i:Nat}(h:i<a.length):(a++b).getD i 0=a.getD i 0:=by
 rw [List.getD_eq_getElem?_getD,List.getD_eq_getElem?_getD,List.getElem?_append_left h]
theorem tW{a b:List Rat}{i:Nat}(h:a.length≤i):(a++b).getD i 0=b.getD (i-a.length) 0:=by
 rw [List.getD_eq_getElem?_getD,List.getD_eq_getElem?_getD,List.getElem?_append_right h]
theorem getD_ext{a b:List Rat}(hl:a.length=b.length)(h:∀ i,i<a.length→a.getD i 0=b.getD i 0):a=b:=by
 apply List.ext_getElem hl;intro i h1 h2;have:=h i h1;simpa [List.getD_eq_getElem?_getD,List.getElem?_eq_getElem h1,List.getElem?_eq_getElem h2] using this
theorem snoc0_getD(c:List Rat)(i:Nat):(c++[0]).getD i 0=c.getD i 0:=by
 rcases Nat.lt_or_ge i c.length with h|h
 ·exact wW h
 ·rw [tW h,List.getD_eq_getElem?_getD,List.getD_eq_getElem?_getD,List.getElem?_eq_none (l:=c) h];cases h':i-c.length <;> simp
theorem snoc_ind{P:List Rat→Prop}(h0:P [])(h1:∀ l r,P l→P (l++[r]))(l:List Rat):P l:=by
 have:∀ l:List Rat,P l.reverse:=by
  intro l;induction l with
  | nil=>exact h0
  | cons a l ih=>rw [List.reverse_cons];exact h1 _ _ ih
 have:=this l.reverse
 rwa [List.reverse_reverse] at this
end Go.Stab
namespace Go.Proofs.YtofhkmcllihgmaaGreat
open Go.RowKit Go.Front Go.Num
attribute [local go_sem] XW.cell XW.frozen
theorem Sz.abs{k:Nat}{q:Rat}(h:Sz k q):Sz k q.abs:=by
 unfold Rat.abs;split
 ·exact h
 ·exact h.neg
theorem RAt.lt{w:World}{b o:Nat}{r:RH}(h:RAt w b o r):b<w.heap.size:=World.block_lt_of_cell? _ _ h.1
end Go.Proofs.YtofhkmcllihgmaaGreat
/- Stb4, Stb5, Stb6, StbQ, Awk, Mk3 -/
set_option linter.unusedVariables false
namespace Go.Proofs.YtofhkmcllihgmaaGreat
open Go.RowKit Go.Front Go.Num
attribute [local go_sem] XW.cell XW.frozen
theorem eB(l:List Rat):tz (l++[0])=tz l:=by simp [tz]
theorem fF(l:List Rat){r:Rat}(h:r≠0):tz (l++[r])=l++[r]:=by simp [tz,h]
theorem jA(l:List Rat):tz l=l.take (tz l).length:=by
 induction l using Stab.snoc_ind with
 | h0=>rfl
 | h1 l r ih =>
  by_cases h:r=0
  ·subst h;rw [eB,List.take_append_of_le_length (aj l)];exact ih
  ·rw [fF l h,List.take_length]
theorem nN{l:List Rat}{i:Nat}(h:i<(tz l).length):(tz l).getD i 0=l.getD i 0:=by
 rw [jA l];simp [h]
theorem se{l:List Rat}{i:Nat}(h:(tz l).length≤i):l.getD i 0=0:=by
 induction l using Stab.snoc_ind with
 | h0=>rfl
 | h1 l r ih =>
  by_cases hr:r=0
  ·subst hr;rw [eB] at h;rw [Stab.snoc0_getD];exact ih h
  ·rw [fF l hr] at h;rw [List.getD_eq_getElem?_getD,List.getElem?_eq_none h];rfl
theorem aW(l:List Rat)(i:Nat):(tz l).getD i 0=l.getD i 0:=by
 rcases Nat.lt_or_ge i (tz l).length with h|h
 ·exact nN h
 ·rw [se h,List.getD_eq_getElem?_getD,List.getElem?_eq_none h];rfl
theorem SzL.tz{k:Nat}{qs:List Rat}(h:SzL k qs):SzL k (tz qs):=by
 rw [jA];exact fun q hq=>h q (List.mem_of_mem_take hq)
def fs(w:World)(p:Nat×RH)(q:Rat):Prop:=RBk w p.1 [p.2] #[]∧aw w p.2 q
theorem fs.ext{w w':World}{p:Nat×RH}{q:Rat}(h:fs w p q)(he:Ext w w'):fs w' p q:=⟨h.1.ext he,h.2.ext he⟩
instance {w w':World} {p:Nat×RH} {q:Rat}:Go.Front.Mv w w' (fs w p q) (fs w' p q):=⟨fun e h=>fs.ext h e⟩

theorem fX{P:Program}{o:Oper}{a:Act}{w:World}{T:TypeId}(x:RH)(q:Rat)(hx:aw w x q)(hT:T=30)
 (hrun:(execOp a.eval o).run P w=.ok (.value (.slice (some ⟨w.heap.size,0,none⟩) 1 1)) (w.alloc (.cells #[.bool x.neg,.slice x.a x.n x.c,.slice x.b x.m x.d] T))) :
  cJ P o a w (fun p:Nat×RH=>.slice (some ⟨p.1,0,none⟩) 1 1) (fun p w'=>fs w' p q):=by
 subst hT;unfold cJ;rw [hrun];exact ⟨Ext.alloc _ _,(w.heap.size,x),rfl,lJ (heap_alloc_new _ _) rfl,hx.ext (Ext.alloc _ _)⟩
def BF(x:Bool×Int):Value:=.tuple #[.bool x.1,.int .i64 x.2]
theorem Sz.one:Sz 1 1:=Sz.int (z:=1) (by decide)
end Go.Proofs.YtofhkmcllihgmaaGreat
namespace Go.Proofs.YtofhkmcllihgmaaGreat
open Go.RowKit Go.Front Go.Num
theorem Sz.zero{k:Nat}(hk:1≤k):Sz k 0:=(Sz.int (z:=0) (by decide)).mono hk
theorem SzL.getD{s:Nat}{c:List Rat}(h:SzL s c)(hs:1≤s)(i:Nat):Sz s (c.getD i 0):=by
 rcases Nat.lt_or_ge i c.length with hi|hi
 ·exact h.at hi
 ·rw [List.getD_eq_getElem?_getD,List.getElem?_eq_none hi];exact Sz.zero hs
def grow:Nat→Nat→Nat
 | 0,s=>s
 | m+1,s=>grow m (5*s+3)
theorem bi(l:List Rat):tz (tz l)=tz l:=by
 induction l using Stab.snoc_ind with
 | h0=>rfl
 | h1 l r ih =>
  by_cases h:r=0
  ·subst h;rw [eB];exact ih
  ·rw [fF l h,fF l h]
end Go.Proofs.YtofhkmcllihgmaaGreat
namespace Go.Proofs.YtofhkmcllihgmaaGreat
open Go.RowKit Go.Front Go.Num
attribute [local go_sem] XW.cell XW.frozen
theorem Cu{w:World}{N:Nat}{x:RH}{p:Rat}(h:w.heap[N]?=some (.cells #[.bool x.neg,.slice x.a x.n x.c,.slice x.b x.m x.d] 30 (0,0)))(hx:aw w x p):ce w ⟨some ⟨N,0,none⟩,1,1⟩ [p] :=
 ⟨[x],RBk.rs (rs:=[x]) (re:=#[]) h rfl (Nat.le_refl _) (by decide),(dT.nil _ _).snoc hx⟩
theorem qE{w:World}{N:Nat}{x y z:RH}{p q r:Rat}(h:w.heap[N]?=some (.cells #[.bool x.neg,.slice x.a x.n x.c,.slice x.b x.m x.d,.bool y.neg,.slice y.a y.n y.c,.slice y.b y.m y.d,.bool z.neg,.slice z.a z.n z.c,.slice z.b z.m z.d] 30 (0,0)))(hx:aw w x p)(hy:aw w y q)(hz:aw w z r):ce w ⟨some ⟨N,0,none⟩,3,3⟩ [p,q,r] :=
 ⟨[x,y,z],RBk.rs (rs:=[x,y,z]) (re:=#[]) h rfl (Nat.le_refl _) (by decide),(((dT.nil _ _).snoc hx).snoc hy).snoc hz⟩
end Go.Proofs.YtofhkmcllihgmaaGreat
