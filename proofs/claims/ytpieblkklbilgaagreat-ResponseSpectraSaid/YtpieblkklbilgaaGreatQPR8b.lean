/- Cross, Magnitude of the reference 08. -/
import Derived.Test.YtpieblkklbilgaaGreatQPR8a
import Derived.Test.YtpieblkklbilgaaGreatQPM13
import Derived.Test.YtpieblkklbilgaaGreatQPM11
set_option linter.unusedVariables false
set_option maxRecDepth 8000
set_option maxHeartbeats 4000000
namespace Go.Proofs.YtpieblkklbilgaaGreat
open Go.RowKit Go.Front Go.Num
attribute [local go_sem] XW.cell XW.frozen
theorem sm_ext2 {n m:Nat} {f:Nat→Rat} (h:n≤m) (h0:∀ i,n≤i→i < m→f i=0):Stab.sm n f=Stab.sm m f:=by
 obtain ⟨d,rfl⟩:∃ d,m=n+d:=⟨m - n,by omega⟩
 rw [Stab.sm_split,Stab.sm_congr (n:=d) (g:=fun _=>0) (fun i hi=>h0 (n+i) (by omega) (by omega)),Stab.sm_zero]
 grind
def c8E (p q:List Rat) (k i:Nat):Rat:=p.getD i 0 * q.getD (i+k) 0+if k=0 then 0 else p.getD (i+k) 0 * q.getD i 0
theorem c8_full (p q:List Rat) (k M:Nat) (hp:p.length≤M) (hq:q.length≤M):Stab.sm M (c8E p q k)=crE p q k:=by
 have e:∀ (b c:List Rat),b.length≤M→corV b c k=Stab.sm M (fun i=>b.getD i 0 * c.getD (i+k) 0):=fun b c hb=>by
  unfold corV
  refine sm_ext2 (by omega) fun i h1 h2=>?_
  rcases Nat.lt_or_ge i b.length with h3 | h3
  ·rw [getD_over' (qs:=c) (by omega)];grind
  ·rw [getD_over' h3];grind
 unfold crE c8E
 by_cases h:k=0
 ·rw [if_pos h,e p q hp]
  exact Stab.sm_congr fun i _=>by rw [if_pos h];grind
 ·rw [if_neg h,e p q hp,e q p hq,← Stab.sm_add]
  exact Stab.sm_congr fun i _=>by rw [if_neg h];grind
theorem c8_sz {p q:List Rat} {s k i:Nat} (hp:SzL s p) (hq:SzL s q) (hs:1≤s):Sz (4 * s+1) (c8E p q k i):=by
 unfold c8E
 refine (((hp.getD hs i).mul (hq.getD hs (i+k))).add (k:=s+s) (l:=s+s) (b:=if k=0 then 0 else p.getD (i+k) 0 * q.getD i 0) ?_).mono (by omega)
 split
 ·exact Sz.zero (by omega)
 ·exact (hp.getD hs (i+k)).mul (hq.getD hs i)
theorem c8_ssz {p q:List Rat} {s k n:Nat} (hp:SzL s p) (hq:SzL s q) (hs:1≤s) (hs2:s≤400) (hn:n≤12):Sz 100000 (Stab.sm n (c8E p q k)):=by
 refine (sm_sz (t:=4 * s+1) (fun i _=>c8_sz hp hq hs)).mono ?_
 have:=Nat.mul_le_mul hn (show 4 * s+1+1≤1602 by omega)
 omega
theorem cross8_any (ao bo:Option Addr) (n c m d s:Nat) (ps qs:List Rat) (w:World) (h:RawL w ⟨ao,n,c⟩ ps) (k:RawL w ⟨bo,m,d⟩ qs) (hn:n≤12) (hm:m≤12) (hz:SzL s ps) (kz:SzL s qs) (hs1:1≤s) (hs:s≤400) :
  Does 143 [.slice ao n c,.slice bo m d] w RF (fun x w'=>x.2=0∧CanL w' x.1 (crossV ps qs)):=by
 have H:=Hi h
 have K:=Hi k
 have HX:=Hi (Ext.refl w)
 have Hn:=Hi h.len
 have Hm:=Hi k.len
 simp only at Hn Hm
 have HZ:=Hi hz.tz
 have KZ:=Hi kz.tz
 clear h k hz kz
 unfold Does
 go_enter Tryz.func143,Tryz.ntmps143
 go_wp2_with fail
 refine Calls.mono (trim5_any ao n c ps _ H.out (by omega)) ?_
 rintro e w1 ⟨x1,rfl,hE,g1⟩
 have G1:=Hi g1
 clear g1
 replace HX:=hE.tr HX
 have hs_w1:=hE.size
 clear hE
 go_wp2_with fail
 refine Calls.mono (trim5_any bo m d qs _ (K.out.ext HX.out) (by omega)) ?_
 rintro e w2 ⟨x2,rfl,hE,g2⟩
 have G2:=Hi g2
 clear g2
 replace HX:=hE.tr HX
 replace G1:=Hi (G1.out.ext hE)
 have hs_w2:=hE.size
 clear hE
 obtain ⟨pa,P,pc⟩:=x1
 obtain ⟨qa,Q,qc⟩:=x2
 simp only [SH.v]
 have hP:=G1.out.len
 have hQ:=G2.out.len
 have hPn:=tz_len_le ps
 have hQn:=tz_len_le qs
 rw [Hn.out] at hPn
 rw [Hm.out] at hQn
 simp only at hP hQ
 rw [hP] at hPn
 rw [hQ] at hQn
 have HPl:=Hi hP
 have HQl:=Hi hQ
 have HV:Hid (crossV ps qs=fbV ((List.range (max P Q)).map (crE (tz ps) (tz qs)))):=Hi (by unfold crossV;rw [hP,hQ])
 clear hP hQ
 obtain ⟨p,hp⟩:∃ p,p=tz ps:=⟨_,rfl⟩
 obtain ⟨q,hq⟩:∃ q,q=tz qs:=⟨_,rfl⟩
 rw [← hp] at G1 HZ HPl HV
 rw [← hq] at G2 KZ HQl HV
 clear hp hq
 have LP:=Hi (G1.out.can.raw HZ.out (by omega))
 have LQ:=Hi (G2.out.can.raw KZ.out (by omega))
 have hp1:=LP.out.le
 have hp2:=LP.out.max
 have hq1:=LQ.out.le
 have hq2:=LQ.out.max
 simp only at hp1 hp2 hq1 hq2
 clear G1 G2
 obtain ⟨M,hM⟩:∃ M,M=max P Q:=⟨_,rfl⟩
 have hMP:P≤M:=by omega
 have hMQ:Q≤M:=by omega
 have hM4:M=P ∨ M=Q:=by omega
 have hM3:M≤12:=by omega
 rw [← hM] at HV
 have HF:Hid (∀ k,Stab.sm M (c8E p q k)=crE p q k):=Hi (fun k=>c8_full p q k M (by rw [HPl.out];exact hMP) (by rw [HQl.out];exact hMQ))
 have HSz:Hid (∀ k j,j≤12→Sz 100000 (Stab.sm j (c8E p q k))):=Hi (fun k j hj=>c8_ssz HZ.out KZ.out hs1 hs hj)
 clear hM
 have hsz2:=HX.out.size
 go_wp2
 go_loopg [6,7] M (fun g u z wr=>∃ (k:Nat) (x:SH),u=x.v∧k+g=M∧z=.int .i64 (k:Nat)∧Ext w2 wr∧OwnQ wr (w2.heap.size≤·) x.v ((List.range k).map (crE p q)))
 case atStart=>exact ⟨0,⟨none,0,0⟩,rfl,by omega,rfl,Ext.refl _,OwnQ.nil _ _⟩
 case round =>
  obtain ⟨k,⟨xa,xn,xc⟩,rfl,hk,rfl,g1,g2⟩:=hrel
  have HE:=Hi g1
  have HO:=Hi g2
  clear g1 g2
  simp only [SH.v]
  have hszr:=HE.out.size
  by_cases h0:gk=0
  case pos =>
   subst h0
   obtain rfl:k=M:=by omega
   have hk1:¬ (k:Int) < P:=by omega
   have hk2:¬ (k:Int) < Q:=by omega
   have hxn:=OwnQ.len (s:=⟨xa,xn,xc⟩) HO.out
   rw [List.length_map,List.length_range] at hxn
   simp only at hxn
   subst hxn
   have HSr:Hid (SzL 20000 ((List.range k).map (crE p q))):=Hi (by
    intro x hx
    obtain ⟨j,-,rfl⟩:=List.mem_map.1 hx
    exact (cr_sz HZ.out KZ.out hs1 (by rw [HPl.out];omega) (by rw [HQl.out];omega)).mono (by omega))
   have hE2:=HX.out
   go_wp2_with fail
   refine Calls.mono (sum8_any xa k xc 20000 ((List.range k).map (crE p q)) _ ((OwnQ.can (s:=⟨xa,k,xc⟩) HO.out).raw HSr.out (by decide)) (by omega) HSr.out (by decide) (by decide)) ?_
   rintro e w20 ⟨x20,rfl,hE,g20⟩
   have G20:=Hi g20
   clear g20
   replace HE:=hE.tr HE
   replace HO:=Hi (HO.out.ext hE)
   have hs_w20:=hE.size
   clear hE
   go_wp2
   exact bodyPost_ret (v:=RF (x20,0)) (by simp [results,Tryz.results143,go_sem,RF]) rfl ⟨(x20,0),rfl,hE2.trans HE.out,rfl,by rw [HV.out];exact G20.out⟩
  obtain ⟨g0,rfl⟩:∃ g0,gk=g0+1:=⟨gk - 1,by omega⟩
  have hcase:(k:Int) < P ∨ (¬ (k:Int) < P∧(k:Int) < Q):=by omega
  obtain ⟨B0,hB0⟩:∃ B0,B0=wr.heap.size:=⟨_,rfl⟩
  have HO1:Hid (OwnQ wr (fun i=>w2.heap.size≤i∧i < B0) (.slice xa xn xc) ((List.range k).map (crE p q))):=Hi (HO.out.mono (fun i hi h=>⟨h,by omega⟩))
  have HNx:Hid ((List.range (k+1)).map (crE p q)=(List.range k).map (crE p q) ++ [crE p q k]):=Hi (range_snoc' _ _)
  have HLn:Hid (((List.range k).map (crE p q)).length≤1073741824):=Hi (by rw [List.length_map,List.length_range];omega)
  clear HO
  rcases hcase with hA | ⟨hA,hB⟩
  all_goals
   go_wp2_with fail
   refine Calls.mono (rof3_any 0 _ (by decide) (by decide)) ?_
   rintro e w3 ⟨x3,rfl,hE,g3⟩
   have G3:=Hi g3
   clear g3
   replace HE:=hE.tr HE
   replace HO1:=Hi (HO1.out.ext hE)
   have hs_w3:=hE.size
   clear hE
   go_upto_region 9 with fail
   refine nm_alloc ?_
   intro y4 hE hB0 hz
   have hz_y4:=nle hz
   have hr_y4:=nle hz.symm
   clear hz
   replace HE:=hE.tr HE
   replace HO1:=Hi (HO1.out.ext hE)
   replace G3:=Hi (G3.out.ext hE)
   have hs_y4:=hE.size
   clear hE
   have B8:=Hi hB0
   clear hB0
   obtain ⟨c_B8,f_B8,l_B8⟩:=blk3 B8.out
   obtain ⟨b8,hb8⟩:∃ b8,b8=w3.heap.size:=⟨_,rfl⟩
   have hb8w:w2.heap.size≤b8:=by omega
   have hb8r:B0≤b8:=by omega
   rw [← hb8] at B8 ⊢
   clear hb8 hB0 c_B8 f_B8 l_B8
   go_wp2
   go_loopg [9] M (fun g z wr=>∃ (j:Nat) (x:RH),j+g=M∧z=.int .i64 (j:Nat)∧Ext w2 wr∧OwnQ wr (fun i=>w2.heap.size≤i∧i < B0) (.slice xa xn xc) ((List.range k).map (crE p q))∧wr.heap[b8]?=some (.cells #[.bool x.neg,.slice x.a x.n x.c,.slice x.b x.m x.d] 30 (0,0))∧CanR wr x (Stab.sm j (c8E p q k)))
   case atStart=>exact ⟨0,x3,by omega,rfl,HE.out,HO1.out,B8.out,G3.out⟩
   case round =>
    obtain ⟨j,x,hj,rfl,g1,g2,g3,g4⟩:=hrel
    clear HE HO1 B8 G3
    have HE:=Hi g1
    have HO1:=Hi g2
    have B8:=Hi g3
    have GX:=Hi g4
    clear g1 g2 g3 g4
    have hszr:=HE.out.size
    try clear c_B8 f_B8 l_B8
    obtain ⟨c_B8,f_B8,l_B8⟩:=blk3 B8.out
    have hb8l:=l_B8
    by_cases h1:gk=0
    case pos =>
     subst h1
     obtain rfl:j=M:=by omega
     have hk1:¬ (j:Int) < P:=by omega
     have hk2:¬ (j:Int) < Q:=by omega
     have HOb:Hid (OwnQ wr (w2.heap.size≤·) (.slice xa xn xc) ((List.range k).map (crE p q))):=Hi (HO1.out.mono (fun i hi h=>h.1))
     rw [HF.out k] at GX
     go_wp2_with (at_builtin;refine wpList_append_n rfl (.tmp 71) (.tmp 73) 22 Tryz.underlying22 rfl (w2.heap.size≤·) _ _ x _ rfl HOb.out rfl GX.out HLn.out (fun i hi=>by omega) ?_;intro s' y3 q1 q2 q3)
     have HE3:=Hi (Ext.mods HE.out q2 (fun i h=>h))
     have HO3:Hid (OwnQ y3 (w2.heap.size≤·) s'.v ((List.range (k+1)).map (crE p q))):=Hi (by rw [HNx.out];exact q1)
     clear q1 q2 q3
     go_wp2
     go_roundg g0
     case measure=>omega
     case rel=>exact ⟨k+1,s',rfl,by omega,by go_num,HE3.out,HO3.out⟩
    have ZA:=Hi (HSz.out k j (by omega))
    have ZP:=Hi (HZ.out.getD hs1 j)
    have ZQ:=Hi (KZ.out.getD hs1 j)
    have ZPk:=Hi (HZ.out.getD hs1 (j+k))
    have ZQk:=Hi (KZ.out.getD hs1 (j+k))
    obtain ⟨S,hS⟩:∃ S,S=Stab.sm j (c8E p q k):=⟨_,rfl⟩
    have HSn:Hid (Stab.sm (j+1) (c8E p q k)=S+c8E p q k j):=Hi (by rw [hS];rfl)
    rw [← hS] at GX ZA
    obtain ⟨i2,hi2⟩:∃ i2,i2=j+k:=⟨_,rfl⟩
    have hI2:(j:Int)+(k:Int)=(i2:Nat):=by omega
    have Hi2:=Hi hi2
    rw [← hi2] at ZPk ZQk
    have hi2b:i2≤100:=by omega
    clear hS hi2
    have hcase2:(j:Int) < P ∨ (¬ (j:Int) < P∧(j:Int) < Q):=by omega
    rcases hcase2 with hC | ⟨hC,hD⟩
    all_goals
     go_upto_region 12 with fail
     refine wp_region_front 11 (fun opIx=>match opIx with
      | 3=>.spec RH default RH.v (fun s w'=>CanR w' s (p.getD j 0))
      | 8=>.spec RH default RH.v (fun s w'=>CanR w' s (q.getD i2 0))
      | 9=>.spec RH default RH.v (fun s w'=>CanR w' s (p.getD j 0 * q.getD i2 0))
      | 10=>.spec RH default RH.v (fun s w'=>CanR w' s (S+p.getD j 0 * q.getD i2 0))
      | _=>.quiet) (fun | 9=>[3,8] | 10=>[9] | _=>[]) (by kernel_rfl) (by kernel_rfl) (fun w0 he0 hz0 hc0 hf0=>?_)
     replace he0:=Hi he0
     simp only [pT]
     repeat (refine wpq fun K h=>?_;go_big_quiet_op;refine h _ ?_;clear h K)
     refine wps he0.out rfl rfl (fun w1 hW hG=>?_) fun x3=>?_
     ·exact spc [.slice pa P pc,.int .i64 (j:Nat)] Tryz.func117 (at5_any pa P pc p j _ (LP.out.ext (HE.out.trans hW)) (by omega))
     simp only [pS]
     repeat (refine wpq fun K h=>?_;go_big_quiet_op;refine h _ ?_;clear h K)
     refine wps he0.out rfl rfl (fun w1 hW hG=>?_) fun x8=>?_
     ·exact spc [.slice qa Q qc,.int .i64 (i2:Nat)] Tryz.func117 (at5_any qa Q qc q i2 _ (LQ.out.ext (HE.out.trans hW)) (by omega))
     simp only [pS]
     repeat (refine wpq fun K h=>?_;go_big_quiet_op;refine h _ ?_;clear h K)
     refine wps he0.out rfl rfl (fun w1 hW hG=>?_) fun x9=>?_
     ·have g3:=(hG 3 (by decide):Since _ _).get fun _ e g=>g.ext e
      have g8:=(hG 8 (by decide):Since _ _).get fun _ e g=>g.ext e
      exact spc [x3.v,x8.v] Tryz.func38 (rmul3_any x3 x8 _ _ _ (g3.raw ZP.out (by omega)) (g8.raw ZQk.out (by omega)))
     simp only [pS]
     repeat (refine wpq fun K h=>?_;go_big_quiet_op;refine h _ ?_;clear h K)
     refine wps he0.out rfl rfl (fun w1 hW hG=>?_) fun x30=>?_
     ·have g9:=(hG 9 (by decide):Since _ _).get fun _ e g=>g.ext e
      exact spc [x.v,x9.v] Tryz.func30 (radd3_any x x9 _ _ _ ((GX.out.ext hW).raw ZA.out (by decide)) (g9.raw (ZP.out.mul ZQk.out) (by omega)))
     simp only [pS]
     repeat (refine wpq fun K h=>?_;go_big_quiet_op;refine h _ ?_;clear h K)
     refine wpF_nil ?_
     intro w5 hI
     have hE:=he0.out.trans hI.ext
     have G3:=Hi ((hI.facts 3:Since _ _).get fun _ e g=>g.ext e)
     have G8:=Hi ((hI.facts 8:Since _ _).get fun _ e g=>g.ext e)
     have G9:=Hi ((hI.facts 9:Since _ _).get fun _ e g=>g.ext e)
     have G30:=Hi ((hI.facts 10:Since _ _).get fun _ e g=>g.ext e)
     clear hI he0 hz0 hc0 hf0
     replace HE:=hE.tr HE
     replace HO1:=Hi (HO1.out.ext hE)
     replace B8:=hE.bl B8
     replace GX:=Hi (GX.out.ext hE)
     have hs_w5:=hE.size
     clear hE
     try clear c_B8 f_B8 l_B8
     obtain ⟨c_B8,f_B8,l_B8⟩:=blk3 B8.out
     simp only [pD]
     go_upto_region 13 with fail
     refine nm_set3 B8.out rfl ?_
     intro w6 T
     replace HE:=Hi (T.ext HE.out (by omega))
     replace HO1:=Hi (HO1.out.put T (by intro h;(try dsimp only at h);omega))
     replace B8:=Hi (T.bx)
     replace GX:=Hi (GX.out.keep T.keep)
     replace G3:=Hi (G3.out.keep T.keep)
     replace G8:=Hi (G8.out.keep T.keep)
     replace G9:=Hi (G9.out.keep T.keep)
     replace G30:=Hi (G30.out.keep T.keep)
     have hs_w6:=nle T.size
     have hr_w6:=nle T.size.symm
     clear T
     try clear c_B8 f_B8 l_B8
     obtain ⟨c_B8,f_B8,l_B8⟩:=blk3 B8.out
     clear GX
     clear G3
     clear G8
     clear G9
     by_cases hk0:k=0
     case pos =>
      have HSf:Hid (S+p.getD j 0 * q.getD i2 0=Stab.sm (j+1) (c8E p q k)):=Hi (by
       rw [HSn.out]
       unfold c8E
       rw [if_pos hk0,Hi2.out]
       grind)
      rw [HSf.out] at G30
      have hk0i:¬ (0:Int) < k:=by omega
      clear hk0
      go_wp2
      all_goals
       go_roundg (gk - 1)
       case measure=>omega
       case rel=>exact ⟨j+1,x30,by omega,by go_num,HE.out,HO1.out,B8.out,G30.out⟩
     have hk0i:(0:Int) < k:=by omega
     have HSf:Hid (S+p.getD j 0 * q.getD i2 0+p.getD i2 0 * q.getD j 0=Stab.sm (j+1) (c8E p q k)):=Hi (by
      rw [HSn.out]
      unfold c8E
      rw [if_neg hk0,Hi2.out]
      grind)
     have ZB:=Hi (ZA.out.add (ZP.out.mul ZQk.out))
     clear hk0
     go_upto_region 14 with fail
     refine wp_region_front 11 (fun opIx=>match opIx with
      | 5=>.spec RH default RH.v (fun s w'=>CanR w' s (p.getD i2 0))
      | 8=>.spec RH default RH.v (fun s w'=>CanR w' s (q.getD j 0))
      | 9=>.spec RH default RH.v (fun s w'=>CanR w' s (p.getD i2 0 * q.getD j 0))
      | 10=>.spec RH default RH.v (fun s w'=>CanR w' s (S+p.getD j 0 * q.getD i2 0+p.getD i2 0 * q.getD j 0))
      | _=>.quiet) (fun | 9=>[5,8] | 10=>[9] | _=>[]) (by kernel_rfl) (by kernel_rfl) (fun w0 he0 hz0 hc0 hf0=>?_)
     replace he0:=Hi he0
     simp only [pT]
     repeat (refine wpq fun K h=>?_;go_big_quiet_op;refine h _ ?_;clear h K)
     refine wps he0.out rfl rfl (fun w1 hW hG=>?_) fun x5=>?_
     ·exact spc [.slice pa P pc,.int .i64 (i2:Nat)] Tryz.func117 (at5_any pa P pc p i2 _ (LP.out.ext (HE.out.trans hW)) (by omega))
     simp only [pS]
     repeat (refine wpq fun K h=>?_;go_big_quiet_op;refine h _ ?_;clear h K)
     refine wps he0.out rfl rfl (fun w1 hW hG=>?_) fun x8=>?_
     ·exact spc [.slice qa Q qc,.int .i64 (j:Nat)] Tryz.func117 (at5_any qa Q qc q j _ (LQ.out.ext (HE.out.trans hW)) (by omega))
     simp only [pS]
     repeat (refine wpq fun K h=>?_;go_big_quiet_op;refine h _ ?_;clear h K)
     refine wps he0.out rfl rfl (fun w1 hW hG=>?_) fun x9=>?_
     ·have g5:=(hG 5 (by decide):Since _ _).get fun _ e g=>g.ext e
      have g8:=(hG 8 (by decide):Since _ _).get fun _ e g=>g.ext e
      exact spc [x5.v,x8.v] Tryz.func38 (rmul3_any x5 x8 _ _ _ (g5.raw ZPk.out (by omega)) (g8.raw ZQ.out (by omega)))
     simp only [pS]
     repeat (refine wpq fun K h=>?_;go_big_quiet_op;refine h _ ?_;clear h K)
     refine wps he0.out rfl rfl (fun w1 hW hG=>?_) fun x10=>?_
     ·have g9:=(hG 9 (by decide):Since _ _).get fun _ e g=>g.ext e
      exact spc [x30.v,x9.v] Tryz.func30 (radd3_any x30 x9 _ _ _ ((G30.out.ext hW).raw ZB.out (by omega)) (g9.raw (ZPk.out.mul ZQ.out) (by omega)))
     simp only [pS]
     repeat (refine wpq fun K h=>?_;go_big_quiet_op;refine h _ ?_;clear h K)
     refine wpF_nil ?_
     intro w7 hI
     have hE:=he0.out.trans hI.ext
     have G5:=Hi ((hI.facts 5:Since _ _).get fun _ e g=>g.ext e)
     have G8:=Hi ((hI.facts 8:Since _ _).get fun _ e g=>g.ext e)
     have G9:=Hi ((hI.facts 9:Since _ _).get fun _ e g=>g.ext e)
     have G10:=Hi ((hI.facts 10:Since _ _).get fun _ e g=>g.ext e)
     clear hI he0 hz0 hc0 hf0
     replace HE:=hE.tr HE
     replace HO1:=Hi (HO1.out.ext hE)
     replace B8:=hE.bl B8
     replace G30:=Hi (G30.out.ext hE)
     have hs_w7:=hE.size
     clear hE
     try clear c_B8 f_B8 l_B8
     obtain ⟨c_B8,f_B8,l_B8⟩:=blk3 B8.out
     simp only [pD]
     go_upto_region 11 with fail
     refine nm_set3 B8.out rfl ?_
     intro w8 T
     replace HE:=Hi (T.ext HE.out (by omega))
     replace HO1:=Hi (HO1.out.put T (by intro h;(try dsimp only at h);omega))
     replace B8:=Hi (T.bx)
     replace G30:=Hi (G30.out.keep T.keep)
     replace G5:=Hi (G5.out.keep T.keep)
     replace G8:=Hi (G8.out.keep T.keep)
     replace G9:=Hi (G9.out.keep T.keep)
     replace G10:=Hi (G10.out.keep T.keep)
     have hs_w8:=nle T.size
     have hr_w8:=nle T.size.symm
     clear T
     try clear c_B8 f_B8 l_B8
     obtain ⟨c_B8,f_B8,l_B8⟩:=blk3 B8.out
     rw [HSf.out] at G10
     go_wp2
     go_roundg (gk - 1)
     case measure=>omega
     case rel=>exact ⟨j+1,x10,by omega,by go_num,HE.out,HO1.out,B8.out,G10.out⟩
theorem magnitude8_any (ao:Option Addr) (n c s:Nat) (ps:List Rat) (w:World) (h:RawL w ⟨ao,n,c⟩ ps) (hn:n≤12) (hz:SzL s ps) (hs1:1≤s) (hs:s≤400) :
  Does 133 [.slice ao n c] w RF (fun x w'=>x.2=0∧CanL w' x.1 (crossV ps ps)):=by
 have H:=Hi h
 have HX:=Hi (Ext.refl w)
 have hle:=h.le
 have hmx:=h.max
 simp only at hle hmx
 clear h
 unfold Does
 go_enter Tryz.func133,Tryz.ntmps133
 go_wp2_with fail
 refine Calls.mono (cross8_any ao ao n c n c s ps ps _ H.out H.out hn hn hz hz hs1 hs) ?_
 rintro e w1 ⟨x1,rfl,hE,g1⟩
 have G1:=Hi g1
 clear g1
 replace HX:=hE.tr HX
 have hs_w1:=hE.size
 clear hE
 obtain ⟨x1,e1⟩:=x1
 obtain ⟨he,hl⟩:=G1.out
 simp only at he hl
 subst he
 simp only [RF]
 go_wp2
 exact bodyPost_ret (v:=RF (x1,0)) (by simp [results,Tryz.results133,go_sem,RF]) rfl ⟨(x1,0),rfl,HX.out,rfl,hl⟩
end Go.Proofs.YtpieblkklbilgaaGreat
