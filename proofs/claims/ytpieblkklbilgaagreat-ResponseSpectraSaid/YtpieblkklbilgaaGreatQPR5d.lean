/- DivMod of the reference's polynomials. -/
import Derived.Test.YtpieblkklbilgaaGreatQPR5m
import Derived.Test.YtpieblkklbilgaaGreatQPM26
set_option linter.unusedVariables false
namespace Go.Proofs.YtpieblkklbilgaaGreat
open Go.RowKit Go.Front Go.Num Stab
attribute [local go_sem] XW.cell XW.frozen
def RowW (w:World) (L:Nat) (os:List Rat):Prop:=∃ rs,RBk w L rs #[]∧Vals RawR w rs os
theorem RowW.ext {w w':World} {L:Nat} {os:List Rat} (h:RowW w L os) (he:Ext w w'):RowW w' L os:=let ⟨rs,h1,h2⟩:=h;⟨rs,h1.ext he,h2.raw_ext he⟩
theorem RowW.put {w1 w2:World} {L b:Nat} {os:List Rat} {T:TypeId} {cs:Array Value} (h:RowW w1 L os) (T2:PutB w1 b T cs w2) (hb:b ≠ L):RowW w2 L os:=by
 obtain ⟨rs,h1,h2⟩:=h
 exact ⟨rs,T2.rest L _ (Ne.symm hb) h1,h2.rawkeep T2.keep⟩
theorem RowW.lt {w:World} {L:Nat} {os:List Rat} (h:RowW w L os):L < w.heap.size:=let ⟨_,h1,_⟩:=h;h1.lt
theorem RowW.cells {w:World} {L:Nat} {os:List Rat} (h:RowW w L os) {k:Nat} (hk:k < os.length):∃ r,RAt w L (k * 3) r:=by
 obtain ⟨rs,h1,h2⟩:=h
 exact ⟨_,h1.at (by rw [h2.1];exact hk)⟩
theorem RowW.frozen {w:World} {L:Nat} {os:List Rat} (h:RowW w L os) (i:Nat):w.frozen? ⟨L,i,none⟩=false:=let ⟨_,h1,_⟩:=h;h1.frozen i
theorem RowW.raw {w:World} {L M:Nat} {os:List Rat} (h:RowW w L os) (hl:os.length=M) (hM:M≤9223372036854775807):RawL w ⟨some ⟨L,0,none⟩,M,M⟩ os:=by
 obtain ⟨rs,h1,h2⟩:=h
 exact ⟨rs,h1.rs (by rw [h2.1,hl]) (Nat.le_refl _) hM,h2⟩
theorem raw_zero (w:World):RawR w default 0:=⟨[],[],U32.nil _ _ _ (by decide),U32.nil _ _ _ (by decide),by decide +kernel,by decide,by decide⟩
theorem RowW.make {w:World} {L M:Nat} (h:RBk w L (List.replicate M default) #[]):RowW w L (List.replicate M 0):=by
 refine ⟨_,h,by simp,fun k hk=>?_⟩
 rw [List.length_replicate] at hk
 have e1:(List.replicate M (default:RH)).getD k default=default:=by simp [hk]
 have e2:(List.replicate M (0:Rat)).getD k 0=0:=by simp [hk]
 rw [e1,e2]
 exact raw_zero w
theorem nm_rowW {w1:World} {L k:Nat} {os:List Rat} {q:Rat} {F:World→Prop} {x:RH} (h:RowW w1 L os) (hk:k < os.length) (hx:RawR w1 x q)
  (H:∀ w2,(∃ cs,PutB w1 L 30 cs w2)→RowW w2 L (os.set k q)→F w2) :
  F (((w1.setCell ⟨L,k * 3,none⟩ (.bool x.neg)).setCell ⟨L,k * 3+1,none⟩ (.slice x.a x.n x.c)).setCell ⟨L,k * 3+2,none⟩ (.slice x.b x.m x.d)):=by
 obtain ⟨rs,h1,h2⟩:=h
 refine nm_rat h1 rfl (by rw [h2.1];exact hk) fun w2 T=>H w2 ⟨_,T⟩ ⟨rs.set k x,T.bx,(h2.rawkeep T.keep).set (hx.keep T.keep) k⟩
theorem wpList_append_rown {w:World} {ops:Array Oper} {rest:List Oper} {o:Oper} {a:Act} {Q:Exit→Act→World→Prop} (hgd:o.guard=none) (s x:Operand) (T:TypeId) (hT:Tryz.prog.underlying T=some (.slice 30))
  (ho:o.op=.call { callee:=.builtin .append,args:=#[s,x],argTypes:=#[T,T] }) (hs:a.eval s=.slice none 0 0) (b off n c:Nat) (rs:List RH) (hx:a.eval x=.slice (some ⟨b,off,none⟩) n c)
  (hl:rs.length=n) (hn0:0 < n) (hn:n≤1073741824) (hc:∀ k,k < n→RAt w b (off+k * 3) (rs.getD k default))
  (h:∀ w' cap re,n≤cap→cap≤9223372036854775807→Ext w w'→RBk w' w.heap.size rs re→re.toList.all nonU=true→wpList Tryz.prog ops Q rest (a.put o.dst (.slice (some ⟨w.heap.size,0,none⟩) n cap)) w'):wpList Tryz.prog ops Q (o :: rest) a w:=by
 obtain ⟨i0,hi0,hz0,hz1,hz2⟩:=info_parts infoR
 have hgc:∀ need old,need≤9223372036854775807→need≤grownCap w need old 30∧grownCap w need old 30≤9223372036854775807:=fun need old h=>⟨grownCap_ge _ _ _ _,by have:=grownCap_le_maxLen w need old 30 (by simpa [maxLen] using h);simpa [maxLen] using this⟩
 have hr:=run_append_nil (P:=Tryz.prog) w T o.type _ i0 _ hT hi0 hz0 ⟨b,off,none⟩ n c (rcells rs) (by rw [rcells_length,hl,hz1]) (row_cells hl hc) hn0 (by omega) (by rw [hz2];omega)
 obtain ⟨g1,g2⟩:=hgc n 0 (by omega)
 have he:Ext w (w.drew.alloc (.cells ((rcells rs).toArray ++ Builtin.zeroCells (RH.v default).cells (grownCap w n 0 30 - n)) 30)):=(Ext.drew w).trans (Ext.alloc _ _)
 have hb:RBk (w.drew.alloc (.cells ((rcells rs).toArray ++ Builtin.zeroCells (RH.v default).cells (grownCap w n 0 30 - n)) 30)) w.heap.size rs (Builtin.zeroCells (RH.v default).cells (grownCap w n 0 30 - n)):=by
  unfold RBk
  exact heap_alloc_new w.drew _
 have hh:=h _ _ _ g1 g2 he hb (zeroCells_nonU _)
 refine wpList_plain hgd fun K hK=>?_
 unfold Oper.wp
 simp [execOp,ho,resolve,invoke,builtin,hs,hx,hr,Result.andThen]
 exact hK _ _ hh
theorem divV_fuel {q:List Rat}:∀ (f g:Nat) (u p:List Rat),p.length≤f→p.length≤g→0 < q.length→divV q f u p=divV q g u p:=by
 intro f
 induction f with
 | zero =>
  intro g u p h _ hq
  cases g with
  | zero=>rfl
  | succ g=>show (u,p)=if q.length≤p.length then _ else (u,p);rw [if_neg (by omega)]
 | succ f ih =>
  intro g u p h hg hq
  cases g with
  | zero=>show (if q.length≤p.length then _ else (u,p))=(u,p);rw [if_neg (by omega)]
  | succ g =>
   show (if q.length≤p.length then divV q f _ _ else (u,p))=if q.length≤p.length then divV q g _ _ else (u,p)
   by_cases hl:q.length≤p.length
   ·rw [if_pos hl,if_pos hl]
    have:=rstep_len p q
    exact ih g _ _ (by omega) (by omega) hq
   ·rw [if_neg hl,if_neg hl]
theorem divV_stop {q u p:List Rat} {f:Nat} (h:p.length < q.length):divV q f u p=(u,p):=by
 cases f with
 | zero=>rfl
 | succ f=>show (if q.length≤p.length then _ else (u,p))=(u,p);rw [if_neg (by omega)]
theorem divV_go {q u p:List Rat} {k m:Nat} (hq:q.length=m+1) (hp:p.length=k+m+1) {r:List Rat} (hr:r=rstep p q):divV q p.length u p=divV q r.length (u.set k (lead p / lead q)) r:=by
 have h1:=rstep_len p q
 rw [hp,show k+m+1=(k+m)+1 from rfl]
 show (if q.length≤p.length then divV q (k+m) (u.set (p.length - q.length) (lead p / lead q)) (rstep p q) else (u,p))=_
 rw [if_pos (by omega),show p.length - q.length=k by omega,← hr]
 exact divV_fuel _ _ _ _ (by rw [hr];omega) (Nat.le_refl _) (by omega)
theorem sub_rstep {p q:List Rat} {k m:Nat} (hq:q.length=m+1) (hp:p.length=k+m+1):tz (subR (p.take (k+m)) k q (lead p / lead q) m)=rstep p q:=by
 unfold rstep
 refine tz_ext fun i=>?_
 have hl:(p.take (k+m)).length=k+m:=by rw [List.length_take];omega
 rw [subR_at _ _ _ _ _ (by rw [hl];exact Nat.le_refl _),pd_range,hp,hq,show k+m+1 - 1=k+m by omega,show k+m+1 - (m+1)=k by omega]
 by_cases hi:i < k+m
 ·rw [if_pos hi,getD_take hi]
  by_cases h2:k≤i
  ·rw [if_pos ⟨h2,hi⟩,if_pos h2]
  ·rw [if_neg (fun h=>h2 h.1),if_neg h2]
 ·rw [if_neg hi,pd_over (by rw [hl];omega),if_neg (fun h=>hi h.2)];grind
structure DmL (w wr:World) (Lu N m:Nat) (a0 b0:List Rat) (S U D E:Nat) (xp:SH) (pp:List Rat):Prop where
 hx:Ext w wr
 ex:∃ (us:List Rat) (j lo hi:Nat),(hi≤Lu ∨ Lu < lo)∧hi≤wr.heap.size∧LIn wr xp pp lo hi∧RowW wr Lu us∧us.length=N∧divV b0 pp.length us pp=divV b0 a0.length (List.replicate N 0) a0∧FrL (S+j * (U+1)) (D * ldD b0 E ^ j) pp∧j+(pp.length - m)≤N∧tz pp=pp
set_option maxRecDepth 8000 in
set_option maxHeartbeats 30000000 in
theorem dm5_any (pa qa:Option Addr) (P pc Q qc:Nat) (p q:List Rat) (S U D E:Nat) (w:World) (hp:CanL w ⟨pa,P,pc⟩ p) (hq:CanL w ⟨qa,Q,qc⟩ q) (hP:P≤100000) (hQ:Q≤100000)
  (hS:1≤S) (hU:1≤U) (hD:0 < D) (hD2:D < W32 ^ S) (hE:0 < E) (hE2:E < W32 ^ U) (hpf:FrL S D p) (hqf:FrL U E q) (hq0:tz q ≠ []) (hsz:S+(P+1) * (U+1)≤30000000) :
  Does 146 [.slice pa P pc,.slice qa Q qc] w QT (fun x w'=>CanL w' x.1 (quoV p q)∧CanL w' x.2 (remV p q)):=by
 have HX:=Hi (Ext.refl w)
 have LP:=Hi hp.lin
 have LQ:=Hi hq.lin
 have HPF:=Hi hpf.tz
 have HQF:=Hi hqf.tz
 have HZP:=Hi (hpf.sz hS hD hD2)
 have HZQ:=Hi (hqf.sz hU hE hE2)
 have HQ0:=Hi hq0
 have hPl:p.length=P:=hp.len
 have hQl:q.length=Q:=hq.len
 have HV:Hid (quoV p q=tz (divV (tz q) (tz p).length (List.replicate ((tz p).length+1 - (tz q).length) 0) (tz p)).1∧remV p q=(divV (tz q) (tz p).length (List.replicate ((tz p).length+1 - (tz q).length) 0) (tz p)).2):=Hi ⟨rfl,rfl⟩
 have hUb:U+1≤(P+1) * (U+1):=Nat.le_mul_of_pos_left _ (Nat.succ_pos _)
 have htp:=tz_len_le p
 have htq:=tz_len_le q
 clear hp hq hpf hqf
 unfold Does
 go_enter Tryz.func146,Tryz.ntmps146
 go_wp2_with fail
 refine Calls.mono (trim5_any pa P pc p _ (LP.out.can.raw HZP.out (by omega)) (by omega)) ?_
 rintro e w13 ⟨x13,rfl,hE,g13⟩
 have G13:=Hi g13
 clear g13
 replace HX:=hE.tr HX
 replace LP:=Hi (LP.out.ext hE)
 replace LQ:=Hi (LQ.out.ext hE)
 have hs_w13:=hE.size
 clear hE
 go_wp2_with fail
 refine Calls.mono (trim5_any qa Q qc q _ (LQ.out.can.raw HZQ.out (by omega)) (by omega)) ?_
 rintro e w15 ⟨x15,rfl,hE,g15⟩
 have G15:=Hi g15
 clear g15
 replace HX:=hE.tr HX
 replace LP:=Hi (LP.out.ext hE)
 replace LQ:=Hi (LQ.out.ext hE)
 replace G13:=Hi (G13.out.ext hE)
 have hs_w15:=hE.size
 clear hE
 obtain ⟨xa,M,xc⟩:=x13
 obtain ⟨ya,m1,yc⟩:=x15
 have HA:Hid (LIn w15 ⟨xa,M,xc⟩ (tz p) 0 w15.heap.size):=Hi (G13.out.can.lin)
 have HB:Hid (LIn w15 ⟨ya,m1,yc⟩ (tz q) 0 w15.heap.size):=Hi (G15.out.can.lin)
 have hxl:(tz p).length=M:=HA.out.len
 have hyl:(tz q).length=m1:=HB.out.len
 obtain ⟨m,rfl⟩:∃ m,m1=m+1:=⟨m1 - 1,by have:=List.length_pos_iff.2 HQ0.out;omega⟩
 clear LP
 clear LQ
 clear G13
 clear G15
 have HLQ:Hid (lead (tz q) ≠ 0):=Hi (lead_tz HQ0.out)
 have HTP:Hid (tz (tz p)=tz p):=Hi (tz_idem p)
 have HAl:=Hi hxl
 have HBl:=Hi hyl
 rw [hxl,hyl] at HV
 obtain ⟨a0,ha0⟩:∃ a0,a0=tz p:=⟨_,rfl⟩
 obtain ⟨b0,hb0⟩:∃ b0,b0=tz q:=⟨_,rfl⟩
 rw [← ha0] at HA HPF HTP HV HAl
 rw [← hb0] at HB HQF HLQ HV HBl
 have hMP:M≤P:=by omega
 have hmQ:m+1≤Q:=by omega
 clear ha0 hb0 hxl hyl htp htq hPl hQl hq0
 simp only [SH.v]
 have hz0:((m:Int)+1 == 0)=false:=by rw [beq_eq_false_iff_ne];omega
 obtain ⟨i0,hi0,hzz0,hz1,hz2⟩:=info_parts infoR
 go_upto_region 5 with (refine wpList_make rfl (.tmp 25) (.tmp 25) 41 rfl 30 i0 (RH.v default) 3 Tryz.underlying41 hi0 hzz0 hz1 _ _ (M - m) rfl rfl (by omega) (by omega) (by rw [hz2];omega) (by omega) ?_;intro w26 hnew hE)
 have KB:=Hi (RBk.make rfl hnew)
 clear hnew
 replace HX:=hE.tr HX
 replace HA:=Hi (HA.out.ext hE)
 replace HB:=Hi (HB.out.ext hE)
 have hs_w26:=hE.size
 clear hE
 obtain ⟨N,hN⟩:∃ N,N=M - m:=⟨_,rfl⟩
 rw [show M+1 - (m+1)=N by omega] at HV
 rw [← hN] at KB ⊢
 have hNa:N+m≤M+m:=by omega
 have hNb:M≤N+m:=by omega
 have hNc:N≤100001:=by omega
 have hNd:N+m≤M ∨ N=0:=by omega
 clear hN
 obtain ⟨Lu,hLu⟩:∃ L,L=w15.heap.size:=⟨_,rfl⟩
 have hLw:w.heap.size≤Lu:=by omega
 rw [← hLu] at KB HA HB ⊢
 have HU0:=Hi (RowW.make KB.out)
 have hLul:=HU0.out.lt
 clear hLu
 have HB0:=HB
 have HX0:=HX
 go_wp2
 go_loopg [0] M (fun g v wr=>∃ (xp:SH) (pp:List Rat),v=xp.v∧pp.length≤g∧DmL w wr Lu N m a0 b0 S U D E xp pp∧Mut Lu w26 wr)
 case atStart=>exact ⟨⟨xa,M,xc⟩,a0,rfl,by rw [HAl.out];exact Nat.le_refl _,⟨HX.out,List.replicate N 0,0,0,Lu,Or.inl (Nat.le_refl _),by omega,HA.out,HU0.out,by simp,rfl,by rw [Nat.zero_mul,Nat.pow_zero,Nat.mul_one];exact HPF.out,by rw [HAl.out];omega,HTP.out⟩,Mut.refl _ _⟩
 case round =>
  obtain ⟨⟨ea,n,ec⟩,pp,rfl,hpg,⟨g1,us,j,lo,hi,h1,h2,g2,g3,h4,g5,g6,h7,g8⟩,gM⟩:=hrel
  obtain ⟨g0,hg0⟩:∃ g0,g0=gk:=⟨_,rfl⟩
  clear HX HA HB HU0 KB
  have HX:=Hi g1
  have LE:=Hi g2
  have HU:=Hi g3
  have HD5:=Hi g5
  have HF6:=Hi g6
  have HTE:=Hi g8
  have HM:=Hi gM
  have HB:=Hi (HB0.out.mut gM (Or.inr (Nat.le_refl _)))
  have hel:pp.length=n:=g2.len
  have HEl:=Hi hel
  have hszr:=gM.size
  clear g1 g2 g3 g5 g6 g8 gM
  have hjU:(S+j * (U+1))≤30000000:=by
   have:j * (U+1)≤(P+1) * (U+1):=Nat.mul_le_mul_right _ (by omega)
   omega
  simp only [SH.v]
  by_cases hlt:n < m+1
  case pos =>
   have hlt':¬ (m:Int)+1≤(n:Int):=by omega
   have HQR:Hid (tz us=quoV p q∧pp=remV p q):=Hi (by
    have e:=HD5.out
    rw [divV_stop (by rw [HEl.out,HBl.out];exact hlt)] at e
    rw [HV.out.1,HV.out.2]
    have hA:a0.length=M:=HAl.out
    rw [hA] at e
    rw [← e]
    exact ⟨rfl,rfl⟩)
   go_wp2_with fail
   refine Calls.mono (trim5_any (some ⟨Lu,0,none⟩) N N us _ (HU.out.raw h4 (by omega)) (by omega)) ?_
   rintro e w88 ⟨x88,rfl,hE,g88⟩
   have G88:=Hi g88
   clear g88
   replace HX:=hE.tr HX
   replace HM:=Hi (Mut.trans HM.out (Mut.of_ext hE))
   replace LE:=Hi (LE.out.ext hE)
   replace HU:=Hi (HU.out.ext hE)
   replace HB:=Hi (HB.out.ext hE)
   have hs_w88:=hE.size
   clear hE
   go_wp2
   exact bodyPost_ret (v:=QT (x88,⟨ea,n,ec⟩)) (by simp [results,Tryz.results146,go_sem,QT]) rfl ⟨(x88,⟨ea,n,ec⟩),rfl,HX.out,by rw [← HQR.out.1];exact G88.out.can,by rw [← HQR.out.2];exact LE.out.can⟩
  obtain ⟨k,rfl⟩:∃ k,n=k+m+1:=⟨n - (m+1),by omega⟩
  have hge:(m:Int)+1≤(k:Int)+m+1:=by omega
  have hkN:k < N:=by omega
  have hkI:(k:Int) < N:=by omega
  have HLp:Hid (lead pp=pp.getD (k+m) 0):=Hi (by unfold lead;rw [HEl.out];rfl)
  have HLb:Hid (lead b0=b0.getD m 0):=Hi (by unfold lead;rw [HBl.out];rfl)
  have ZP:Hid (SzL 30000000 pp):=Hi ((HF6.out.sz (by omega) (Nat.mul_pos hD (Nat.pow_pos (ldD_pos HQF.out HLQ.out hE))) (by
   have h3:ldD b0 E ^ j≤W32 ^ (U * j):=by rw [Nat.pow_mul];exact Nat.pow_le_pow_left (Nat.le_of_lt (ldD_lt HQF.out)) j
   have h4:D * ldD b0 E ^ j < W32 ^ (S+U * j):=by
    rw [Nat.pow_add]
    exact Nat.mul_lt_mul_of_lt_of_le hD2 h3 (Nat.pow_pos W32_pos)
   exact Nat.lt_of_lt_of_le h4 (W32_le (by rw [Nat.mul_add,Nat.mul_comm U j];omega)))).mono (by omega))
  have ZB:Hid (SzL 30000000 b0):=Hi ((HQF.out.sz hU hE hE2).mono (by omega))
  have Zp:Hid (Sz 30000000 (lead pp)):=Hi (by rw [HLp.out];exact ZP.out.at (by rw [HEl.out];omega))
  have Zb:Hid (Sz 30000000 (lead b0)):=Hi (by rw [HLb.out];exact ZB.out.at (by rw [HBl.out];omega))
  have Zc:Hid (Sz 60000000 (lead pp / lead b0)):=Hi ((Zp.out.div Zb.out).mono (by omega))
  obtain ⟨ba,oa,r,hao,hbl,⟨hc1,hc2,hc3⟩,hPc⟩:=LE.out.celx (k:=k+m) (by omega)
  obtain ⟨rneg,ra,rn,rc,rb,rm,rd⟩:=r
  obtain ⟨bb,ob,r2,hbo,hbl2,⟨hd1,hd2,hd3⟩,hPd⟩:=HB.out.celx (k:=m) (by omega)
  obtain ⟨sneg,sa,sn,sc,sb,sm,sd⟩:=r2
  simp only at hc1 hc2 hc3 hd1 hd2 hd3
  have HC:=Hi hPc
  have HE:=Hi hPd
  rw [← HLp.out] at HC
  rw [← HLb.out] at HE
  clear hPc hPd
  subst hao hbo
  have hk0:((k:Int)+m+1) - ((m:Int)+1)=k:=by omega
  have hk1:((k:Int)+m+1) - 1=((k+m:Nat):Int):=by omega
  have hk2:((m:Int)+1) - 1=m:=by omega
  go_upto_region 7 with fail
  refine wp_region_front 14 (fun opIx=>match opIx with
   | 12=>.spec RH default RH.v (fun s w'=>CanR w' s (lead pp / lead b0))
   | 13=>.alloc 30 #[.bool false,.slice none 0 0,.slice none 0 0]
   | _=>.quiet) (fun _=>[]) (by kernel_rfl) (by kernel_rfl) (fun w0 he0 hz0 hc0 hf0=>?_)
  replace he0:=Hi he0
  simp only [pT]
  repeat (refine wpq fun K h=>?_;go_big_quiet_op;refine h _ ?_;clear h K)
  refine wps he0.out rfl rfl (fun w1 hW hG=>?_) fun x30=>?_
  ·exact spc [RH.v ⟨rneg,ra,rn,rc,rb,rm,rd⟩,RH.v ⟨sneg,sa,sn,sc,sb,sm,sd⟩] Tryz.func118 (rover3_any _ _ _ _ _ ((HC.out.ext hW).raw Zp.out (by decide)) ((HE.out.ext hW).raw Zb.out (by decide)))
  simp only [pS]
  repeat (refine wpq fun K h=>?_;go_big_quiet_op;refine h _ ?_;clear h K)
  refine wpF_alloc rfl rfl (fun w=>by simp [execOp,go_sem,ptr]) (fun b31 hb31 hl31=>?_)
  simp only [pS]
  repeat (refine wpq fun K h=>?_;go_big_quiet_op;refine h _ ?_;clear h K)
  refine wpF_nil ?_
  intro w7 hI
  have hE:=he0.out.trans hI.ext
  have G30:=Hi ((hI.facts 12:Since _ _).get fun _ e g=>g.ext e)
  have A31:Hid (w7.heap[b31]?=some (.cells #[.bool false,.slice none 0 0,.slice none 0 0] 30 (0,0))):=hI.facts 13
  rw [hz0] at hl31
  clear hI he0 hz0 hc0 hf0
  replace HX:=hE.tr HX
  replace HM:=Hi (Mut.trans HM.out (Mut.of_ext hE))
  replace LE:=Hi (LE.out.ext hE)
  replace HU:=Hi (HU.out.ext hE)
  replace HB:=Hi (HB.out.ext hE)
  replace HC:=Hi (HC.out.ext hE)
  replace HE:=Hi (HE.out.ext hE)
  have hs_w7:=hE.size
  clear hE
  obtain ⟨c_A31,f_A31,l_A31⟩:=blk3 A31.out
  simp only [pD,ptr]
  clear hc1 hc2 hc3 hd1 hd2 hd3
  clear HC
  clear HE
  go_upto_region 8 with fail
  refine nm_set3 A31.out rfl ?_
  intro w8 T
  replace HX:=Hi (T.ext HX.out (by omega))
  replace HM:=Hi (Mut.put HM.out T (by first | exact Or.inl rfl | exact Or.inr (by omega)))
  replace LE:=Hi (LE.out.put T (by omega))
  replace HU:=Hi (HU.out.put T (by omega))
  replace HB:=Hi (HB.out.put T (by omega))
  replace G30:=Hi (G30.out.keep T.keep)
  replace A31:=Hi (T.bx)
  have hs_w8:=nle T.size
  have hr_w8:=nle T.size.symm
  clear T
  try clear c_A31 f_A31 l_A31
  obtain ⟨c_A31,f_A31,l_A31⟩:=blk3 A31.out
  obtain ⟨r3,⟨f1,f2,f3⟩⟩:=RowW.cells HU.out (k:=k) (by omega)
  have hfz:=RowW.frozen HU.out
  have hLl:=RowW.lt HU.out
  go_upto_region 9 with fail
  have hraw:=G30.out.raw Zc.out (by decide)
  refine nm_rowW (x:=x30) (k:=k) HU.out (by omega) hraw ?_
  clear hraw
  rintro y9 ⟨cs,T⟩ TN
  clear f1 f2 f3 hfz hLl
  clear HU
  replace HX:=Hi (T.ext HX.out (by omega))
  replace HM:=Hi (Mut.put HM.out T (by first | exact Or.inl rfl | exact Or.inr (by omega)))
  replace LE:=Hi (LE.out.put T (by omega))
  replace HB:=Hi (HB.out.put T (by omega))
  replace G30:=Hi (G30.out.keep T.keep)
  replace A31:=Hi (T.rest _ _ (by omega) A31.out)
  have hs_y9:=nle T.size
  have hr_y9:=nle T.size.symm
  clear T
  try clear c_A31 f_A31 l_A31
  obtain ⟨c_A31,f_A31,l_A31⟩:=blk3 A31.out
  have HU:=Hi TN
  clear TN
  obtain ⟨i1,rfl⟩:∃ i1,i1=i0:=⟨_,rfl⟩
  obtain ⟨rs0,hRS,hVs,-⟩:=LE.out
  have hrl:rs0.length=k+m+1:=by rw [hVs.1,HEl.out]
  obtain ⟨b',off',e',hcs⟩:=hRS.at'.resolve_left (by show ¬ (k+m+1=0);omega)
  obtain ⟨rfl,rfl⟩:ba=b'∧oa=off':=by simpa using e'
  have hcs2:∀ t,t < k+m→RAt y9 ba (oa+t * 3) ((rs0.take (k+m)).getD t default):=fun t ht=>by
   have e:(rs0.take (k+m)).getD t default=rs0.getD t default:=by rw [List.getD_eq_getElem?_getD,List.getElem?_take,if_pos ht,← List.getD_eq_getElem?_getD]
   rw [e]
   exact hcs t (by show t < k+m+1;omega)
  have HVT:=Hi (hVs.take (k+m))
  have hec:(k:Int)+m≤ec:=by have:=hRS.le;simp only at this;omega
  clear hcs hVs hRS e'
  obtain ⟨us',hus⟩:∃ us',us'=us.set k (lead pp / lead b0):=⟨_,rfl⟩
  have hul:us'.length=N:=by rw [hus,List.length_set,h4]
  rw [← hus] at HU
  have HGo:Hid (divV b0 (rstep pp b0).length us' (rstep pp b0)=divV b0 a0.length (List.replicate N 0) a0):=Hi (by rw [hus,← HD5.out];exact (divV_go HBl.out HEl.out rfl).symm)
  have HFr:Hid (FrL (S+(j+1) * (U+1)) (D * ldD b0 E ^ (j+1)) (rstep pp b0)):=Hi (by
   have h:=rstep_fr HF6.out HQF.out HLQ.out
   rw [Nat.mul_assoc,← Nat.pow_succ] at h
   rw [show S+(j+1) * (U+1)=S+j * (U+1)+U+1 by rw [Nat.succ_mul];omega]
   exact h)
  have hrst:(rstep pp b0).length≤k+m:=by have:=rstep_len pp b0;rw [HEl.out] at this;omega
  have HSR:Hid (tz (subR (pp.take (k+m)) k b0 (lead pp / lead b0) m)=rstep pp b0):=Hi (sub_rstep HBl.out HEl.out)
  clear hus h1 h2
  by_cases hkm:k+m=0
  case pos =>
   have HKM:=Hi hkm
   clear hkm
   go_upto_region 10 with (at_builtin;refine wpList_append_zero rfl (.const (.slice none 0 0)) (.tmp 58) 41 rfl 30 i1 Tryz.underlying41 hi0 none (some ⟨ba,oa,none⟩) 0 0 ec (by decide) rfl (Eq.trans rfl (congrArg (fun t=>Value.slice (some ⟨ba,oa,none⟩) t ec) HKM.out)) ?_)
   go_wp2
   go_loopg [11] 0 (fun g v wr=>∃ (i:Nat),m≤i∧v=.int .i64 (i:Nat)∧wr=y9)
   case atStart=>exact ⟨0,by have:=HKM.out;omega,rfl,rfl⟩
   case round =>
    obtain ⟨i,hi,rfl,rfl⟩:=hrel
    have hin:¬ ((i:Int) < m):=by omega
    go_wp2_with fail
    refine Calls.mono (trim5_any none 0 0 [] _ (CanL.raw (k:=1) (NewL.nil 0 _).can (fun x hx=>by simp at hx) (by decide)) (by omega)) ?_
    rintro e w86 ⟨x86,rfl,hE,g86⟩
    have G86:=Hi g86
    clear g86
    replace HX:=hE.tr HX
    replace HM:=Hi (Mut.trans HM.out (Mut.of_ext hE))
    replace LE:=Hi (LE.out.ext hE)
    replace HB:=Hi (HB.out.ext hE)
    replace G30:=Hi (G30.out.ext hE)
    replace A31:=hE.bl A31
    replace HU:=Hi (HU.out.ext hE)
    have hs_w86:=hE.size
    clear hE
    try clear c_A31 f_A31 l_A31
    obtain ⟨c_A31,f_A31,l_A31⟩:=blk3 A31.out
    have HR0:Hid (rstep pp b0=[]):=Hi (List.length_eq_zero_iff.1 (by have:=HKM.out;omega))
    go_wp2
    go_roundg (g0 - 1)
    case measure=>omega
    case rel=>exact ⟨x86,rstep pp b0,rfl,by omega,⟨HX.out,us',j+1,wr.heap.size,w86.heap.size,Or.inr (by omega),Nat.le_refl _,by rw [HR0.out];exact G86.out,HU.out,hul,HGo.out,HFr.out,by omega,rstep_tz _ _⟩,HM.out⟩
  go_upto_region 10 with (at_builtin;refine wpList_append_rown rfl (.const (.slice none 0 0)) (.tmp 58) 41 Tryz.underlying41 rfl rfl ba oa (k+m) ec (rs0.take (k+m)) rfl (by rw [List.length_take];omega) (by omega) (by omega) hcs2 ?_;intro y10 cap re hcp hcm hE hRB hre)
  have HL:Hid (RowC y10 y9.heap.size (pp.take (k+m))):=Hi ⟨_,re,hRB,hre,HVT.out.can_ext hE⟩
  clear hRB hre hcs2
  obtain ⟨Ln,hLn⟩:∃ L,L=y9.heap.size:=⟨_,rfl⟩
  have hb31L:b31 < Ln:=by have:=l_A31;omega
  rw [← hLn] at HL ⊢
  clear LE
  replace HX:=hE.tr HX
  replace HM:=Hi (Mut.trans HM.out (Mut.of_ext hE))
  replace HB:=Hi (HB.out.ext hE)
  replace G30:=Hi (G30.out.ext hE)
  replace A31:=hE.bl A31
  replace HU:=Hi (HU.out.ext hE)
  have hs_y10:=hE.size
  clear hE
  try clear c_A31 f_A31 l_A31
  obtain ⟨c_A31,f_A31,l_A31⟩:=blk3 A31.out
  have hLn2:w26.heap.size≤Ln:=by omega
  have hLn3:=HL.out.lt
  clear hLn
  go_wp2
  go_loopg [11] m (fun g v wr=>∃ (i:Nat),i+g=m∧v=.int .i64 (i:Nat)∧Ext w wr∧Mut Lu w26 wr∧LIn wr ⟨some ⟨bb,ob,none⟩,m+1,yc⟩ b0 0 Lu∧RowW wr Lu us'∧wr.heap[b31]?=some (.cells #[.bool x30.neg,.slice x30.a x30.n x30.c,.slice x30.b x30.m x30.d] 30 (0,0))∧CanR wr x30 (lead pp / lead b0)∧RowC wr Ln (subR (pp.take (k+m)) k b0 (lead pp / lead b0) i))
  case atStart=>exact ⟨0,by omega,rfl,HX.out,HM.out,HB.out,HU.out,A31.out,G30.out,HL.out⟩
  case round =>
   obtain ⟨i,hi,rfl,g1,g2,g3,g4,g5,g6,g7⟩:=hrel
   clear HX HM HB HU A31 G30 HL
   have HX:=Hi g1
   have HM:=Hi g2
   have HB:=Hi g3
   have HU:=Hi g4
   have A31:=Hi g5
   have G30:=Hi g6
   have HL:=Hi g7
   have hszw:=g2.size
   clear g1 g2 g3 g4 g5 g6 g7
   try clear c_A31 f_A31 l_A31
   obtain ⟨c_A31,f_A31,l_A31⟩:=blk3 A31.out
   by_cases h0:gk=0
   case neg =>
    have hin:(i:Int) < m:=by omega
    obtain ⟨r18,⟨f1,f2,f3⟩,hr18⟩:=RowC.cells HL.out (k:=k+i) (by rw [subR_len,List.length_take,HEl.out];omega)
    obtain ⟨tn,ta,tl,tc,tb,tm,td⟩:=r18
    simp only at f1 f2 f3
    have HR18:=Hi hr18
    obtain ⟨b'',off'',r17,hao,hbl3,⟨hc1',hc2',hc3'⟩,hPc⟩:=HB.out.celx (k:=i) (by omega)
    obtain ⟨rfl,rfl⟩:bb=b''∧ob=off'':=by simpa using hao
    obtain ⟨qn,qa',ql,qc',qb,qm,qd⟩:=r17
    simp only at hc1' hc2' hc3'
    have HQi:=Hi hPc
    clear hPc hr18 hao
    have hki:(k:Int)+i < (k:Int)+m:=by omega
    have ZBi:Hid (Sz 30000000 (b0.getD i 0)):=Hi (ZB.out.at (by rw [HBl.out];omega))
    have ZR:Hid (Sz 30000000 ((subR (pp.take (k+m)) k b0 (lead pp / lead b0) i).getD (k+i) 0)):=Hi (by
     rw [subR_at _ _ _ _ _ (by rw [List.length_take,HEl.out];omega),if_neg (by omega),psub0,getD_take (by omega)]
     exact ZP.out.at (by rw [HEl.out];omega))
    have hLl0:=HL.out.lt
    go_upto_region 13 with fail
    refine wp_region_front 17 (fun opIx=>match opIx with
     | 15=>.spec RH default RH.v (fun s w'=>CanR w' s (lead pp / lead b0 * b0.getD i 0))
     | 16=>.spec RH default RH.v (fun s w'=>CanR w' s ((subR (pp.take (k+m)) k b0 (lead pp / lead b0) i).getD (k+i) 0 - lead pp / lead b0 * b0.getD i 0))
     | _=>.quiet) (fun | 16=>[15] | _=>[]) (by kernel_rfl) (by kernel_rfl) (fun w0 he0 hz0 hc0 hf0=>?_)
    replace he0:=Hi he0
    simp only [pT]
    repeat (refine wpq fun K h=>?_;go_big_quiet_op;refine h _ ?_;clear h K)
    refine wps he0.out rfl rfl (fun w1 hW hG=>?_) fun x32=>?_
    ·exact spc [x30.v,RH.v ⟨qn,qa',ql,qc',qb,qm,qd⟩] Tryz.func38 (rmul3_any x30 _ _ _ _ ((G30.out.ext hW).raw Zc.out (by decide)) ((HQi.out.ext hW).raw ZBi.out (by decide)))
    simp only [pS]
    repeat (refine wpq fun K h=>?_;go_big_quiet_op;refine h _ ?_;clear h K)
    refine wps he0.out rfl rfl (fun w1 hW hG=>?_) fun x33=>?_
    ·have g32:=(hG 15 (by decide):Since _ _).get fun _ e g=>g.ext e
     exact spc [RH.v ⟨tn,ta,tl,tc,tb,tm,td⟩,x32.v] Tryz.func108 (rsub3_any _ x32 _ _ _ ((HR18.out.ext hW).raw ZR.out (by decide)) (g32.raw (Zc.out.mul ZBi.out) (by decide)))
    simp only [pS]
    repeat (refine wpq fun K h=>?_;go_big_quiet_op;refine h _ ?_;clear h K)
    refine wpF_nil ?_
    intro y13 hI
    have hE:=he0.out.trans hI.ext
    have G32:=Hi ((hI.facts 15:Since _ _).get fun _ e g=>g.ext e)
    have G33:=Hi ((hI.facts 16:Since _ _).get fun _ e g=>g.ext e)
    clear hI he0 hz0 hc0 hf0
    replace HX:=hE.tr HX
    replace HM:=Hi (Mut.trans HM.out (Mut.of_ext hE))
    replace HB:=Hi (HB.out.ext hE)
    replace HU:=Hi (HU.out.ext hE)
    replace A31:=hE.bl A31
    replace G30:=Hi (G30.out.ext hE)
    replace HL:=Hi (HL.out.ext hE)
    replace HR18:=Hi (HR18.out.ext hE)
    replace HQi:=Hi (HQi.out.ext hE)
    have hs_y13:=hE.size
    clear hE
    try clear c_A31 f_A31 l_A31
    obtain ⟨c_A31,f_A31,l_A31⟩:=blk3 A31.out
    simp only [pD]
    clear f1 f2 f3 hc1' hc2' hc3'
    clear HR18
    clear HQi
    clear G32
    obtain ⟨r19,⟨f1,f2,f3⟩,-⟩:=RowC.cells HL.out (k:=k+i) (by rw [subR_len,List.length_take,HEl.out];omega)
    have hfz:=RowC.frozen HL.out
    have hLl:=RowC.lt HL.out
    go_upto_region 12 with fail
    refine nm_row (x:=x33) (k:=k+i) HL.out (by rw [subR_len,List.length_take,HEl.out];omega) G33.out ?_
    rintro y14 ⟨cs,T⟩ TN
    clear f1 f2 f3 hfz hLl
    clear G33
    clear HL
    replace HX:=Hi (T.ext HX.out (by omega))
    replace HM:=Hi (Mut.put HM.out T (by first | exact Or.inl rfl | exact Or.inr (by omega)))
    replace HB:=Hi (HB.out.put T (by omega))
    replace HU:=Hi (HU.out.put T (by omega))
    replace A31:=Hi (T.rest _ _ (by omega) A31.out)
    replace G30:=Hi (G30.out.keep T.keep)
    have hs_y14:=nle T.size
    have hr_y14:=nle T.size.symm
    clear T
    try clear c_A31 f_A31 l_A31
    obtain ⟨c_A31,f_A31,l_A31⟩:=blk3 A31.out
    have HL:=Hi TN
    clear TN
    go_wp2
    go_roundg (gk - 1)
    case measure=>omega
    case rel=>exact ⟨i+1,by omega,by go_num,HX.out,HM.out,HB.out,HU.out,A31.out,G30.out,HL.out⟩
   subst h0
   obtain rfl:i=m:=by omega
   have hin:¬ ((i:Int) < i):=by omega
   have HSL:Hid (SzL 130000000 (subR (pp.take (k+i)) k b0 (lead pp / lead b0) i)):=Hi (fun x hx=>by
    obtain ⟨t,ht,rfl⟩:=mem_getD hx
    rw [subR_len,List.length_take,HEl.out] at ht
    rw [subR_at _ _ _ _ _ (by rw [List.length_take,HEl.out];omega),getD_take (by omega)]
    have h1:Sz 30000000 (pp.getD t 0):=ZP.out.at (by rw [HEl.out];omega)
    split
    ·rename_i hc
     have h2:Sz 30000000 (b0.getD (t - k) 0):=ZB.out.at (by rw [HBl.out];omega)
     exact (h1.sub (Zc.out.mul h2)).mono (by decide)
    ·rw [psub0];exact h1.mono (by decide))
   go_wp2_with fail
   refine Calls.mono (trim5_any (some ⟨Ln,0,none⟩) (k+i) cap _ _ ((HL.out.can (by rw [subR_len,List.length_take,HEl.out];omega) hcp hcm).raw HSL.out (by decide)) (by omega)) ?_
   rintro e w86 ⟨x86,rfl,hE,g86⟩
   have G86:=Hi g86
   clear g86
   replace HX:=hE.tr HX
   replace HM:=Hi (Mut.trans HM.out (Mut.of_ext hE))
   replace HB:=Hi (HB.out.ext hE)
   replace HU:=Hi (HU.out.ext hE)
   replace A31:=hE.bl A31
   replace G30:=Hi (G30.out.ext hE)
   replace HL:=Hi (HL.out.ext hE)
   have hs_w86:=hE.size
   clear hE
   try clear c_A31 f_A31 l_A31
   obtain ⟨c_A31,f_A31,l_A31⟩:=blk3 A31.out
   rw [HSR.out] at G86
   go_wp2
   go_roundg (g0 - 1)
   case measure=>omega
   case rel=>exact ⟨x86,rstep pp b0,rfl,by omega,⟨HX.out,us',j+1,wr.heap.size,w86.heap.size,Or.inr (by omega),Nat.le_refl _,G86.out,HU.out,hul,HGo.out,HFr.out,by omega,rstep_tz _ _⟩,HM.out⟩
end Go.Proofs.YtpieblkklbilgaaGreat
