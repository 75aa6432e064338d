/- Make, Mk2, Poly1, Same, Rf5 -/
import Derived.Test.YtpieblkklbilgaaGreatQKM7
set_option linter.unusedVariables false
set_option maxRecDepth 4000
set_option maxHeartbeats 2000000
namespace Go.Proofs.YtpieblkklbilgaaGreat
open Go.RowKit Go.Front Go.Num
attribute [local go_sem] XW.cell XW.frozen
theorem tmod_emod (n m:Int) (hm:0 < m):(if n.tmod m < 0 then n.tmod m+m else n.tmod m)=n % m:=by
 rw [Int.tmod_eq_emod]
 have h1:=Int.emod_nonneg n (show m ≠ 0 by omega)
 have h2:=Int.emod_lt_of_pos n hm
 have h3:((m.natAbs:Nat):Int)=m:=by omega
 split
 ·split <;> omega
 ·rw [h3]
  split <;> omega
theorem tmod_bd (n m:Int) (hm:0 < m):-m < n.tmod m∧n.tmod m < m:=by
 rw [Int.tmod_eq_emod]
 have h1:=Int.emod_nonneg n (show m ≠ 0 by omega)
 have h2:=Int.emod_lt_of_pos n hm
 have h3:((m.natAbs:Nat):Int)=m:=by omega
 split
 ·omega
 ·rw [h3];omega
theorem mod_any (n m:Int) (w:World) (hn:-9223372036854775808≤n) (hn2:n≤9223372036854775807) (hm:0 < m) (hm2:m≤9223372036854775807) :
  Does 29 [.int .i64 n,.int .i64 m] w (fun _:Unit=>.int .i64 (n % m)) (fun _ _=>True):=by
 have He:=Hi (tmod_emod n m hm)
 obtain ⟨hb1,hb2⟩:=tmod_bd n m hm
 have hm0:m ≠ 0:=by omega
 unfold Does
 go_enter Tryz.func29,Tryz.ntmps29
 obtain ⟨r,hr⟩:∃ r,r=n.tmod m:=⟨_,rfl⟩
 rw [← hr] at He hb1 hb2
 by_cases h0:r < 0
 ·rw [if_pos h0] at He
  go_wp2
  go_ret
  exact ⟨(),ret_int (by rw [← hr];exact He.out),Ext.refl _,trivial⟩
 ·rw [if_neg h0] at He
  go_wp2
  go_ret
  exact ⟨(),ret_int (by rw [← hr];exact He.out),Ext.refl _,trivial⟩
def ratQ (n:Int):Rat:=((n % 25 - 12:Int):Rat) / ((1+n.tdiv 25 % 8:Int):Rat)
theorem rat_any (n:Int) (w:World) (hn:-9223372036854775808≤n) (hn2:n≤9223372036854775807):Does 56 [.int .i64 n] w RH.v (fun x w'=>CanR w' x (ratQ n)):=by
 have HX:=Hi (Ext.refl w)
 have h1:=Int.emod_nonneg n (show (25:Int) ≠ 0 by decide)
 have h2:=Int.emod_lt_of_pos n (show (0:Int) < 25 by decide)
 have h3:=Int.emod_nonneg (n.tdiv 25) (show (8:Int) ≠ 0 by decide)
 have h4:=Int.emod_lt_of_pos (n.tdiv 25) (show (0:Int) < 8 by decide)
 have h5:-9223372036854775808≤n.tdiv 25∧n.tdiv 25≤9223372036854775807:=by
  have:=Int.tmod_def n 25
  have:=tmod_bd n 25 (by decide)
  omega
 obtain ⟨a,ha⟩:∃ a,a=n % 25:=⟨_,rfl⟩
 obtain ⟨b,hb⟩:∃ b,b=n.tdiv 25 % 8:=⟨_,rfl⟩
 rw [← ha] at h1 h2
 rw [← hb] at h3 h4
 have HA:=Hi ha
 have HB:=Hi hb
 have H5:=Hi h5
 clear ha hb h5
 unfold Does
 go_enter Tryz.func56,Tryz.ntmps56
 go_wp2_with fail
 refine nm_alloc (F:=fun W=>Calls _ _ _ W _) ?_
 intro w1 hE hB0 hz
 have hz_w1:=nle hz
 have hr_w1:=nle hz.symm
 clear hz
 replace HX:=hE.tr HX
 have hs_w1:=hE.size
 clear hE
 have B2:=Hi hB0
 clear hB0
 obtain ⟨c_B2,f_B2,l_B2⟩:=blk3 B2.out
 change Calls _ _ _ _ _
 refine Calls.mono (mod_any n 25 _ hn hn2 (by decide) (by decide)) ?_
 rintro e w2 ⟨x2,rfl,hE,-⟩
 replace HX:=hE.tr HX
 replace B2:=hE.bl B2
 have hs_w2:=hE.size
 clear hE
 try clear c_B2 f_B2 l_B2
 obtain ⟨c_B2,f_B2,l_B2⟩:=blk3 B2.out
 rw [← HA.out]
 go_wp2_with fail
 refine Calls.mono (mod_any (n.tdiv 25) 8 _ H5.out.1 H5.out.2 (by decide) (by decide)) ?_
 rintro e w3 ⟨x3,rfl,hE,-⟩
 replace HX:=hE.tr HX
 replace B2:=hE.bl B2
 have hs_w3:=hE.size
 clear hE
 try clear c_B2 f_B2 l_B2
 obtain ⟨c_B2,f_B2,l_B2⟩:=blk3 B2.out
 rw [← HB.out]
 go_wp2_with fail
 refine Calls.mono (rfrac3_any (a - 12) (1+b) _ (by omega) (by omega) (by omega) (by omega)) ?_
 rintro e w4 ⟨x4,rfl,hE,g4⟩
 have G4:=Hi g4
 clear g4
 replace HX:=hE.tr HX
 replace B2:=hE.bl B2
 have hs_w4:=hE.size
 clear hE
 try clear c_B2 f_B2 l_B2
 obtain ⟨c_B2,f_B2,l_B2⟩:=blk3 B2.out
 have G5:Hid (CanR w4 x4 (ratQ n)):=Hi (by unfold ratQ;rw [← HA.out,← HB.out];exact G4.out)
 clear G4
 go_wp2
 have hF:=((((Fin.start (L:=w.heap.size) HX.out (noU_block B2.out rfl)).set (by omega) (i:=0) (v:=.bool x4.neg) rfl).set (by omega) (i:=1) (v:=.slice x4.a x4.n x4.c) rfl).set (by omega) (i:=2) (v:=.slice x4.b x4.m x4.d) rfl)
 exact bodyPost_ret (v:=x4.v) (by simp [results,Tryz.results56,go_sem,blk_cell B2.out]) rfl ⟨x4,rfl,hF.ext,G5.out.keep hF.keep⟩
theorem IntsAt.take {w:World} {ao:Option Addr} {xs:List Int} (h:IntsAt w ao xs) (m:Nat):IntsAt w ao (xs.take m):=by
 rcases h with h | ⟨b,off,h1,h2⟩
 ·left;rw [h];simp
 ·right
  refine ⟨b,off,h1,fun k hk=>?_⟩
  simp only [List.length_take] at hk
  rw [h2 k (by omega)]
  simp [show k < m by omega]
def InR (xs:List Int):Prop:=∀ x ∈ xs,-9223372036854775808≤x∧x≤9223372036854775807
theorem InR.take {xs:List Int} (h:InR xs) (m:Nat):InR (xs.take m):=fun x hx=>h x (List.mem_of_mem_take hx)
theorem getD_memI {xs:List Int} {k:Nat} (h:k < xs.length):xs.getD k 0 ∈ xs:=by
 rw [show xs.getD k 0=xs[k] by simp [h]];exact List.getElem_mem h
theorem map_snoc {xs:List Int} {j:Nat} (f:Int→Rat) (h:j < xs.length):(xs.take j).map f ++ [f (xs.getD j 0)]=(xs.take (j+1)).map f:=by
 rw [List.take_succ_eq_append_getElem h,List.map_append]
 simp [h]
theorem rats_any (ao:Option Addr) (cap:Nat) (xs:List Int) (w:World) (h:IntsAt w ao xs) (hr:InR xs) (hl:xs.length≤1073741824) (hc:xs.length≤cap) (hcm:cap≤9223372036854775807) :
  Does 121 [.slice ao xs.length cap] w SH.v (fun s w'=>NewL w.heap.size w' s (xs.map ratQ)):=by
 have HX:=Hi (Ext.refl w)
 have H:=Hi h
 have HR:=Hi hr
 obtain ⟨n,hn⟩:∃ n,n=xs.length:=⟨_,rfl⟩
 rw [← hn] at hl hc ⊢
 have Hn:=Hi hn
 clear h hr hn
 unfold Does
 go_enter Tryz.func121,Tryz.ntmps121
 go_wp2
 go_loopg [3,8] n (fun g v i wr=>∃ j:Nat,j+g=n∧i=.int .i64 (j:Nat)∧Ext w wr∧OwnQ wr (w.heap.size≤·) v ((xs.take j).map ratQ))
 case atStart=>exact ⟨0,by omega,rfl,HX.out,OwnQ.nil _ _⟩
 case round =>
  obtain ⟨j,hj,rfl,g1,g2⟩:=hrel
  obtain ⟨s,rfl⟩:=g2.sh
  clear HX
  have HX:=Hi g1
  have HO:=Hi g2
  have hsz:=g1.size
  clear g1 g2
  by_cases h0:gk=0
  ·subst h0
   obtain rfl:j=n:=by omega
   go_wp2
   go_ret
   refine ⟨s,rfl,HX.out,?_⟩
   have:=HO.out.lin
   rwa [List.take_of_length_le (by rw [Hn.out];exact Nat.le_refl _)] at this
  ·obtain ⟨b,off,hao,hc1⟩:=(H.out.ext HX.out).at (k:=j) (by rw [← Hn.out];omega)
   subst hao
   have hx:=HR.out _ (getD_memI (xs:=xs) (k:=j) (by rw [← Hn.out];omega))
   obtain ⟨x,hxe⟩:∃ x,x=xs.getD j 0:=⟨_,rfl⟩
   rw [← hxe] at hc1 hx
   have Hxe:=Hi hxe
   have hbl:b < wr.heap.size:=World.block_lt_of_cell? _ _ hc1
   clear hxe
   have hjn:(j:Int) < n:=by omega
   go_wp2_with fail
   refine Calls.mono (rat_any x _ hx.1 hx.2) ?_
   rintro e w1 ⟨x1,rfl,hE,g1⟩
   have G1:=Hi g1
   clear g1
   replace HX:=hE.tr HX
   replace HO:=Hi (HO.out.ext hE)
   have hs_w1:=hE.size
   clear hE
   go_wp2_with (at_builtin;refine wpList_append_n rfl (.tmp 12) (.tmp 15) 22 Tryz.underlying22 rfl (w.heap.size≤·) _ _ x1 _ rfl HO.out rfl G1.out (by simp;omega) (fun k hk=>by omega) ?_;intro s' y3 q1 q2 q3)
   have HX3:=Hi (Ext.mods HX.out q2 (fun k h=>h))
   have HO3:Hid (OwnQ y3 (w.heap.size≤·) s'.v ((xs.take (j+1)).map ratQ)):=Hi (by
    rw [← map_snoc ratQ (by rw [← Hn.out];omega),← Hxe.out]
    exact q1)
   clear q1 q2 q3
   go_wp2
   go_roundg (gk - 1)
   case measure=>omega
   case rel=>exact ⟨j+1,by omega,by go_num,HX3.out,HO3.out⟩
theorem cmpR_self0 (q:Rat):cmpR q 0=0↔q=0:=by
 unfold cmpR
 constructor
 ·intro h
  split at h
  ·cases h
  ·split at h
   ·assumption
   ·cases h
 ·rintro rfl
  rw [if_neg Rat.lt_irrefl,if_pos rfl]
theorem pcut_any (ao:Option Addr) (n cap:Nat) (qs:List Rat) (w:World) (h:RawL w ⟨ao,n,cap⟩ qs) :
  Does 158 [.slice ao n cap] w (fun _:Unit=>.slice ao (tz qs).length cap) (fun _ _=>tz qs=qs.take (tz qs).length∧(tz qs).length≤n):=by
 have H:=Hi h
 have hle:=h.le
 have hmx:=h.max
 have Hlen:=Hi h.len
 simp only at hle hmx Hlen
 clear h
 unfold Does
 change Calls Tryz.prog _ #[.slice ao n cap] w _
 go_enter Tryz.func158,Tryz.ntmps158
 go_wp2
 go_loopg [3] n (fun g nv wr=>nv=.int .i64 (g:Nat)∧g≤n∧tz qs=tz (qs.take g)∧Ext w wr)
 case atStart=>exact ⟨rfl,Nat.le_refl _,by rw [List.take_of_length_le (by rw [Hlen.out];exact Nat.le_refl _)],Ext.refl _⟩
 case round =>
  obtain ⟨rfl,hg,hs,hE⟩:=hrel
  have Hs:=Hi hs
  have HE:=Hi hE
  clear hs hE
  by_cases h0:gk=0
  ·subst h0
   go_wp2
   go_ret
   have e:tz qs=[]:=by rw [Hs.out];rfl
   refine ⟨(),?_,HE.out,?_,?_⟩
   ·rw [e];simp
   ·rw [e];simp
   ·rw [e];simp
  ·obtain ⟨k,rfl⟩:∃ m,gk=m+1:=⟨gk - 1,by omega⟩
   obtain ⟨b,off,r,hao,⟨hc1,hc2,hc3⟩,hP⟩:=(H.out.ext HE.out).at (k:=k) (by omega)
   subst hao
   have hbl:b < wr.heap.size:=World.block_lt_of_cell? _ _ hc1
   obtain ⟨rneg,ra,rn,rc,rb,rm,rd⟩:=r
   simp only at hc1 hc2 hc3
   have HP:=Hi hP
   clear hP h0
   go_wp2_with fail
   refine Calls.mono (rsign_any ⟨rneg,ra,rn,rc,rb,rm,rd⟩ _ _ HP.out) ?_
   rintro e w1 ⟨x1,rfl,hE1,-⟩
   replace HE:=Hi (HE.out.trans hE1)
   have HZ:=Hi (cmpR_self0 (qs.getD k 0))
   obtain ⟨c,hc⟩:∃ c,c=cmpR (qs.getD k 0) 0:=⟨_,rfl⟩
   rw [← hc] at HZ ⊢
   clear hc hE1 HP hc1 hc2 hc3 hbl
   by_cases hz:c=0
   ·subst hz
    have Hz0:=Hi (HZ.out.1 rfl)
    clear HZ
    go_wp2
    go_roundg k
    case measure=>omega
    case rel=>exact ⟨by go_num,by omega,by rw [Hs.out,tz_zero (by rw [Hlen.out];omega) Hz0.out],HE.out⟩
   ·have hzb:(c == 0)=false:=by simpa using hz
    have HF:Hid (tz qs=qs.take (k+1)):=Hi (by rw [Hs.out,tz_stop (by rw [Hlen.out];omega) (fun h=>hz (HZ.out.2 h))])
    clear HZ hz
    go_wp2
    go_ret
    have e:(tz qs).length=k+1:=by rw [HF.out,List.length_take,Hlen.out];omega
    refine ⟨(),?_,HE.out,?_,?_⟩
    ·rw [e];rfl
    ·rw [e];exact HF.out
    ·omega
theorem pdegree_any (ao:Option Addr) (n cap:Nat) (qs:List Rat) (w:World) (h:RawL w ⟨ao,n,cap⟩ qs) :
  Does 86 [.slice ao n cap] w (fun _:Unit=>.int .i64 (((tz qs).length:Int) - 1)) (fun _ _=>True):=by
 have H:=Hi h
 have hle:=h.le
 have hmx:=h.max
 simp only at hle hmx
 clear h
 unfold Does
 change Calls Tryz.prog _ #[.slice ao n cap] w _
 go_enter Tryz.func86,Tryz.ntmps86
 go_wp2_with fail
 refine Calls.mono (pcut_any _ _ _ _ _ H.out) ?_
 rintro e w1 ⟨x1,rfl,hE1,-,h2⟩
 have HE:=Hi hE1
 clear hE1
 go_wp2
 go_ret
 exact ⟨(),rfl,HE.out,trivial⟩
theorem take_snoc {l:List Rat} {j:Nat} (h:j < l.length):l.take j ++ [l.getD j 0]=l.take (j+1):=by
 rw [List.take_succ_eq_append_getElem h]
 simp [h]
theorem tz_len_le (qs:List Rat):(tz qs).length≤qs.length:=by
 unfold tz
 rw [List.length_reverse]
 have:=(List.dropWhile_sublist (l:=qs.reverse) (· == 0)).length_le
 rw [List.length_reverse] at this
 exact this
theorem ptrim_any (ao:Option Addr) (n cap:Nat) (qs:List Rat) (w:World) (h:RawL w ⟨ao,n,cap⟩ qs) (hn:n≤1073741824) :
  Does 162 [.slice ao n cap] w SH.v (fun s w'=>NewL w.heap.size w' s (tz qs)):=by
 obtain ⟨i0,hi0,hz0,hz1,hz2⟩:=info_parts infoR
 have H:=Hi h
 have hle:=h.le
 have hmx:=h.max
 have Hlen:=Hi h.len
 simp only at hle hmx Hlen
 clear h
 unfold Does
 change Calls Tryz.prog _ #[.slice ao n cap] w _
 go_enter Tryz.func162,Tryz.ntmps162
 go_wp2_with fail
 refine Calls.mono (pcut_any _ _ _ _ _ H.out) ?_
 rintro e w1 ⟨x1,rfl,hE1,h1,h2⟩
 have HE:=Hi hE1
 have HT:=Hi h1
 clear hE1 h1
 obtain ⟨m,hm⟩:∃ m,m=(tz qs).length:=⟨_,rfl⟩
 rw [← hm] at h2 HT ⊢
 have Hm:=Hi hm
 clear hm
 go_wp2_with (refine wpList_make rfl (.tmp 7) (.tmp 7) 41 rfl 30 i0 (RH.v default) 3 Tryz.underlying41 hi0 hz0 hz1 _ _ m rfl rfl (by simp) (by simp) (by rw [hz2];omega) (by omega) ?_;intro w2 hnew hE2)
 have hL:w.heap.size≤w1.heap.size:=HE.out.size
 have HF:=Hi (FillB.start (RBk.make rfl hnew))
 replace HE:=Hi (HE.out.trans hE2)
 clear hnew hE2
 obtain ⟨L,hLe⟩:∃ L,L=w1.heap.size:=⟨_,rfl⟩
 rw [← hLe] at hL HF ⊢
 clear hLe
 go_wp2
 go_loopg [11] m (fun g i wr=>∃ j:Nat,j+g=m∧i=.int .i64 (j:Nat)∧Ext w wr∧FillB wr L m ((tz qs).take j))
 case atStart=>exact ⟨0,by omega,rfl,HE.out,HF.out⟩
 case round =>
  obtain ⟨j,hj,rfl,g1,g2⟩:=hrel
  clear HE HF
  have HE:=Hi g1
  have HF:=Hi g2
  clear g1 g2
  have hlf:((tz qs).take j).length=j:=by rw [List.length_take,← Hm.out];omega
  by_cases h0:gk=0
  ·subst h0
   obtain rfl:j=m:=by omega
   go_wp2
   go_ret
   refine ⟨⟨some ⟨L,0,none⟩,j,j⟩,rfl,HE.out,?_⟩
   have:=HF.out.new hL hlf (by omega)
   rwa [List.take_of_length_le (by rw [← Hm.out];exact Nat.le_refl _)] at this
  ·obtain ⟨b,off,r,hao,⟨hc1,hc2,hc3⟩,hP⟩:=(H.out.ext HE.out).at (k:=j) (by omega)
   subst hao
   obtain ⟨rneg,ra,rn,rc,rb,rm,rd⟩:=r
   simp only at hc1 hc2 hc3
   have HP:=Hi hP
   clear hP
   go_wp2_with fail
   refine Calls.mono (rtrim_any ⟨rneg,ra,rn,rc,rb,rm,rd⟩ _ _ HP.out) ?_
   rintro e w3 ⟨x3,rfl,hE3,g3⟩
   replace HE:=Hi (HE.out.trans hE3)
   replace HF:=Hi (HF.out.ext hE3)
   clear HP hc1 hc2 hc3 hE3
   have G3:=Hi g3
   clear g3
   obtain ⟨r0,k1,k2,k3⟩:=HF.out.cells (by rw [hlf];omega)
   rw [hlf] at k1 k2 k3
   have hfr:=HF.out.frozen
   have hLl:=HF.out.lt
   go_wp2
   obtain ⟨_,rfl,T4⟩:=HF.out.put HE.out hL (by rw [hlf];omega) G3.out
   rw [hlf] at T4
   have e4:(tz qs).take j ++ [qs.getD j 0]=(tz qs).take (j+1):=by
    rw [← take_snoc (l:=tz qs) (by rw [← Hm.out];omega),HT.out]
    simp [show j < m by omega]
   rw [e4] at T4
   go_roundg (gk - 1)
   case measure=>omega
   case rel=>exact ⟨j+1,by omega,by go_num,T4.ext,T4.fill⟩
theorem take_all_eq {a b:List Rat} (hl:a.length=b.length) (h:a.take a.length=b.take a.length):a=b:=by
 rw [List.take_of_length_le (Nat.le_refl _),List.take_of_length_le (by omega)] at h
 exact h
theorem take_next {a b:List Rat} {j:Nat} (h:a.take j=b.take j) (ha:j < a.length) (hb:j < b.length) (e:a.getD j 0=b.getD j 0):a.take (j+1)=b.take (j+1):=by
 rw [List.take_succ_eq_append_getElem ha,List.take_succ_eq_append_getElem hb,h]
 have e1:a[j]=b[j]:=by simpa [ha,hb] using e
 rw [e1]
theorem samelist_any (s t:SH) (ps qs:List Rat) (w:World) (h:CanL w s ps) (k:CanL w t qs):Does 45 [s.v,t.v] w (fun _:Unit=>.bool (decide (ps=qs))) (fun _ _=>True):=by
 obtain ⟨ao,n,c⟩:=s
 obtain ⟨bo,m,d⟩:=t
 have H:=Hi h
 have K:=Hi k
 have h1:=h.len
 have h2:=h.le
 have h3:=h.max
 have k1:=k.len
 have k2:=k.le
 have k3:=k.max
 simp only at h1 h2 h3 k1 k2 k3
 clear h k
 have Hn:=Hi h1
 have Km:=Hi k1
 clear h1 k1
 unfold Does
 change Calls Tryz.prog _ #[.slice ao n c,.slice bo m d] w _
 go_enter Tryz.func45,Tryz.ntmps45
 by_cases hnm:n=m
 ·subst hnm
  go_wp2
  go_loopg [5] n (fun g i wr=>∃ j:Nat,j+g=n∧i=.int .i64 (j:Nat)∧Ext w wr∧ps.take j=qs.take j)
  case atStart=>exact ⟨0,by omega,rfl,Ext.refl _,rfl⟩
  case round =>
   obtain ⟨j,hj,rfl,g1,g2⟩:=hrel
   have HE:=Hi g1
   have HT:=Hi g2
   clear g1 g2
   by_cases h0:gk=0
   ·subst h0
    obtain rfl:j=n:=by omega
    go_wp2
    go_ret
    refine ⟨(),ret_bool ?_,HE.out,trivial⟩
    rw [decide_eq_true (take_all_eq (by rw [Hn.out,Km.out]) (by rw [Hn.out];exact HT.out))]
   ·obtain ⟨b,off,r,hao,⟨hc1,hc2,hc3⟩,hP⟩:=(H.out.ext HE.out).at (k:=j) (by omega)
    obtain ⟨b',off',r',hbo,⟨hd1,hd2,hd3⟩,hQ⟩:=(K.out.ext HE.out).at (k:=j) (by omega)
    subst hao hbo
    obtain ⟨rneg,ra,rn,rc,rb,rm,rd⟩:=r
    obtain ⟨sneg,sa,sn,sc,sb,sm,sd⟩:=r'
    simp only at hc1 hc2 hc3 hd1 hd2 hd3
    have hbl:b < wr.heap.size:=World.block_lt_of_cell? _ _ hc1
    have hbl':b' < wr.heap.size:=World.block_lt_of_cell? _ _ hd1
    have HP:=Hi hP
    have HQ:=Hi hQ
    clear hP hQ
    have hjn:(j:Int) < n:=by omega
    obtain ⟨u,hu⟩:∃ u,u=ps.getD j 0:=⟨_,rfl⟩
    obtain ⟨v,hv⟩:∃ v,v=qs.getD j 0:=⟨_,rfl⟩
    rw [← hu] at HP
    rw [← hv] at HQ
    have Hu:=Hi hu
    have Hv:=Hi hv
    clear hu hv
    obtain ⟨B,hB⟩:∃ B,B=decide (u=v):=⟨_,rfl⟩
    have HB:=Hi hB
    clear hB
    go_upto_region 6 with fail
    refine wp_region_front 10 (fun opIx=>match opIx with
     | 8=>.spec Unit () (fun _=>.bool B) (fun _ _=>True)
     | _=>.quiet) (fun _=>[]) (by kernel_rfl) (by kernel_rfl) (fun w0 he0 hz0 hc0 hf0=>?_)
    replace he0:=Hi he0
    simp only [pT]
    repeat (refine wpq fun K h=>?_;go_big_quiet_op;refine h _ ?_;clear h K)
    refine wps he0.out rfl rfl (fun w1 hW hG=>?_) fun x8=>?_
    ·exact spc [RH.v ⟨rneg,ra,rn,rc,rb,rm,rd⟩,RH.v ⟨sneg,sa,sn,sc,sb,sm,sd⟩] Tryz.func116 (HB.out ▸ rsame3_any ⟨rneg,ra,rn,rc,rb,rm,rd⟩ ⟨sneg,sa,sn,sc,sb,sm,sd⟩ _ _ _ (HP.out.ext hW) (HQ.out.ext hW))
    simp only [pS]
    repeat (refine wpq fun K h=>?_;go_big_quiet_op;refine h _ ?_;clear h K)
    refine wpF_nil ?_
    intro w2 hI
    have hE:=he0.out.trans hI.ext
    clear hI he0 hz0 hc0 hf0
    replace HE:=hE.tr HE
    have hs_w2:=hE.size
    clear hE
    simp only [pD]
    cases B
    ·have hne:¬ ps=qs:=fun e=>by
      have:=HB.out
      rw [Hu.out,Hv.out,e] at this
      simp at this
     go_wp2
     go_ret
     exact ⟨(),ret_bool (decide_eq_false hne).symm,HE.out,trivial⟩
    ·have hpq:ps.getD j 0=qs.getD j 0:=by
      rw [← Hu.out,← Hv.out]
      exact of_decide_eq_true HB.out.symm
     have Hpq:=Hi hpq
     clear hpq
     go_wp2
     go_roundg (gk - 1)
     case measure=>omega
     case rel=>exact ⟨j+1,by omega,by go_num,HE.out,take_next HT.out (by rw [Hn.out];omega) (by rw [Km.out];omega) Hpq.out⟩
 ·go_wp2
  go_ret
  refine ⟨(),ret_bool ?_,Ext.refl _,trivial⟩
  have:¬ ps=qs:=by rintro rfl;exact hnm (Hn.out.symm.trans Km.out)
  rw [decide_eq_false this]
theorem RawL.cells' {w:World} {ao:Option Addr} {n c:Nat} {qs:List Rat} (h:RawL w ⟨ao,n,c⟩ qs) {k:Nat} (hk:k < n):∃ b off r,ao=some ⟨b,off,none⟩∧b < w.heap.size∧RAt w b (off+k * 3) r∧RawR w r (qs.getD k 0) :=
 let ⟨b,off,r,h1,h2,h3⟩:=h.at hk;⟨b,off,r,h1,World.block_lt_of_cell? _ _ h2.1,h2,h3⟩
theorem trim5_any (ao:Option Addr) (n cap:Nat) (qs:List Rat) (w:World) (h:RawL w ⟨ao,n,cap⟩ qs) (hn:n≤1073741824) :
  Does 65 [.slice ao n cap] w SH.v (fun s w'=>NewL w.heap.size w' s (tz qs)):=by
 have H:=Hi h
 have HX:=Hi (Ext.refl w)
 have hle:=h.le
 have hmx:=h.max
 have Hlen:=Hi h.len
 simp only at hle hmx Hlen
 clear h
 unfold Does
 go_enter Tryz.func65,Tryz.ntmps65
 go_wp2
 go_loopg [3] n (fun g nv wr=>nv=.int .i64 (g:Nat)∧g≤n∧tz qs=tz (qs.take g)∧Ext w wr)
 case atStart=>exact ⟨rfl,Nat.le_refl _,by rw [List.take_of_length_le (by rw [Hlen.out];exact Nat.le_refl _)],Ext.refl _⟩
 case round =>
  obtain ⟨rfl,hg,hs,hE⟩:=hrel
  clear HX
  have Hs:=Hi hs
  have HX:=Hi hE
  have hsz:=hE.size
  clear hs hE
  by_cases h0:gk=0
  ·subst h0
   have HT:Hid (tz qs=qs.take 0):=Hi (by rw [Hs.out];rfl)
   have HTl:Hid ((tz qs).length=0):=Hi (by rw [HT.out];rfl)
   go_wp2
   go_loopg [4,26] 0 (fun g v i wr=>∃ j:Nat,j+g=0∧i=.int .i64 (j:Nat)∧Ext w wr∧OwnQ wr (w.heap.size≤·) v ((tz qs).take j))
   case atStart=>exact ⟨0,by omega,rfl,HX.out,OwnQ.nil _ _⟩
   case round =>
    obtain ⟨j,hj,rfl,g1,g2⟩:=hrel
    obtain ⟨s,rfl⟩:=g2.sh
    clear HX
    have HX:=Hi g1
    have HO:=Hi g2
    have hsz:=g1.size
    clear g1 g2
    by_cases h0:gk=0
    ·subst h0
     obtain rfl:j=0:=by omega
     go_wp2
     go_ret
     refine ⟨s,rfl,HX.out,?_⟩
     have:=HO.out.lin
     rwa [List.take_of_length_le (by rw [HTl.out];exact Nat.le_refl _)] at this
    ·omega
  ·obtain ⟨k,rfl⟩:∃ m,gk=m+1:=⟨gk - 1,by omega⟩
   obtain ⟨b,off,r,hao,hbl,⟨hc1,hc2,hc3⟩,hP⟩:=(H.out.ext HX.out).cells' (k:=k) (by omega)
   obtain ⟨rneg,ra,rn,rc,rb,rm,rd⟩:=r
   simp only at hc1 hc2 hc3
   have HP:=Hi hP
   clear hP h0
   have Hao:=Hi hao
   subst hao
   go_wp2_with fail
   refine Calls.mono (rsign3_any ⟨rneg,ra,rn,rc,rb,rm,rd⟩ _ _ HP.out) ?_
   rintro e w1 ⟨x1,rfl,hE,-⟩
   replace HX:=hE.tr HX
   have hs_w1:=hE.size
   clear hE
   have HZ:=Hi (cmpR_self0 (qs.getD k 0))
   obtain ⟨c,hc⟩:∃ c,c=cmpR (qs.getD k 0) 0:=⟨_,rfl⟩
   rw [← hc] at HZ ⊢
   clear hc HP hc1 hc2 hc3 hbl
   by_cases hz:c=0
   ·subst hz
    have Hz0:=Hi (HZ.out.1 rfl)
    clear HZ
    go_wp2
    go_roundg k
    case measure=>omega
    case rel=>exact ⟨by go_num,by omega,by rw [Hs.out,tz_zero (by rw [Hlen.out];omega) Hz0.out],HX.out⟩
   ·have hzb:(c == 0)=false:=by simpa using hz
    have HT:Hid (tz qs=qs.take (k+1)):=Hi (by rw [Hs.out,tz_stop (by rw [Hlen.out];omega) (fun h=>hz (HZ.out.2 h))])
    have HTl:Hid ((tz qs).length=k+1):=Hi (by rw [HT.out,List.length_take,Hlen.out];omega)
    clear HZ hz
    go_wp2
    go_loopg [4,26] (k+1) (fun g v i wr=>∃ j:Nat,j+g=(k+1)∧i=.int .i64 (j:Nat)∧Ext w wr∧OwnQ wr (w.heap.size≤·) v ((tz qs).take j))
    case atStart=>exact ⟨0,by omega,rfl,HX.out,OwnQ.nil _ _⟩
    case round =>
     obtain ⟨j,hj,rfl,g1,g2⟩:=hrel
     obtain ⟨s,rfl⟩:=g2.sh
     clear HX
     have HX:=Hi g1
     have HO:=Hi g2
     have hsz:=g1.size
     clear g1 g2
     by_cases h0:gk=0
     ·subst h0
      obtain rfl:j=(k+1):=by omega
      go_wp2
      go_ret
      refine ⟨s,rfl,HX.out,?_⟩
      have:=HO.out.lin
      rwa [List.take_of_length_le (by rw [HTl.out];exact Nat.le_refl _)] at this
     ·obtain ⟨b',off',r,hao,hbl,⟨hc1,hc2,hc3⟩,hP⟩:=(H.out.ext HX.out).cells' (k:=j) (by omega)
      obtain ⟨rfl,rfl⟩:b=b'∧off=off':=by simpa using hao
      obtain ⟨rneg,ra,rn,rc,rb,rm,rd⟩:=r
      simp only at hc1 hc2 hc3
      have HP:=Hi hP
      clear hP
      have hjn:(j:Int) < (k+1):=by omega
      go_upto_region 8 with fail
      refine nm_alloc ?_
      intro w1 hE hB0 hz
      have hz_w1:=nle hz
      have hr_w1:=nle hz.symm
      clear hz
      replace HX:=hE.tr HX
      replace HO:=Hi (HO.out.ext hE)
      replace HP:=Hi (HP.out.ext hE)
      have hs_w1:=hE.size
      clear hE
      have B6:=Hi hB0
      clear hB0
      obtain ⟨c_B6,f_B6,l_B6⟩:=blk3 B6.out
      go_wp2_with fail
      refine Calls.mono (rtrim3_any ⟨rneg,ra,rn,rc,rb,rm,rd⟩ (qs.getD j 0) _ HP.out) ?_
      rintro e w2 ⟨x2,rfl,hE,g2⟩
      have G2:=Hi g2
      clear g2
      replace HX:=hE.tr HX
      replace HO:=Hi (HO.out.ext hE)
      replace HP:=Hi (HP.out.ext hE)
      replace B6:=hE.bl B6
      have hs_w2:=hE.size
      clear hE
      try clear c_B6 f_B6 l_B6
      obtain ⟨c_B6,f_B6,l_B6⟩:=blk3 B6.out
      go_wp2_with (at_builtin;refine wpList_append_n rfl (.tmp 30) (.tmp 33) 41 Tryz.underlying41 rfl (w.heap.size≤·) _ _ x2 _ rfl HO.out rfl G2.out (by simp;omega) (fun k hk=>by omega) ?_;intro s' y3 q1 q2 q3)
      have HX3:=Hi (Ext.mods HX.out q2 (fun k h=>h))
      have HO3:Hid (OwnQ y3 (w.heap.size≤·) s'.v ((tz qs).take (j+1))):=Hi (by
       rw [← take_snoc (l:=tz qs) (by rw [HTl.out];omega)]
       have e:(tz qs).getD j 0=qs.getD j 0:=by
        rw [HT.out]
        simp [show j < (k+1) by omega]
       rw [e]
       exact q1)
      clear q1 q2 q3
      go_wp2
      go_roundg (gk - 1)
      case measure=>omega
      case rel=>exact ⟨j+1,by omega,by go_num,HX3.out,HO3.out⟩
end Go.Proofs.YtpieblkklbilgaaGreat
