/- Chb1, Chb2, Chb3, Chb4, ChbP -/
import Derived.Test.YtcbgamclcgcodaaGreatQYM11
import Derived.Test.YtcbgamclcgcodaaGreatQYM10
set_option linter.unusedVariables false
set_option maxRecDepth 8000
set_option maxHeartbeats 4000000
namespace Go.Proofs.YtcbgamclcgcodaaGreat
open Go.RowKit Go.Front Go.Num
attribute [local go_sem] XW.cell XW.frozen
theorem Does.weak {f:FuncId} {args:List Value} {w:World} {α:Type} {mk:α→Value} {φ ψ:α→World→Prop} (h:Does f args w mk φ) (hi:∀ x w',Ext w w'→φ x w'→ψ x w'):Does f args w mk ψ:=by
 refine Calls.mono h ?_
 rintro e w' ⟨x,rfl,h1,h2⟩
 exact ⟨x,rfl,h1,hi x w' h1 h2⟩
def PreC (w:World) (rs:List RH) (ts:List Rat):Prop:=∀ j,j < ts.length→CanR w (rs.getD j default) (ts.getD j 0)
theorem PreC.ext {w w':World} {rs:List RH} {ts:List Rat} (h:PreC w rs ts) (he:Ext w w'):PreC w' rs ts:=fun j hj=>(h j hj).ext he
theorem PreC.keep {w w':World} {rs:List RH} {ts:List Rat} (h:PreC w rs ts) (he:Keep w w'):PreC w' rs ts:=fun j hj=>(h j hj).keep he
theorem getD_set_self {rs:List RH} {i:Nat} {x:RH} (h:i < rs.length):(rs.set i x).getD i default = x:=by simp [h]
theorem getD_set_other {rs:List RH} {i j:Nat} {x:RH} (h:i ≠ j):(rs.set i x).getD j default = rs.getD j default:=by
 rw [List.getD_eq_getElem?_getD,List.getD_eq_getElem?_getD,List.getElem?_set_ne h]
theorem PreC.snoc {w:World} {rs:List RH} {ts:List Rat} (h:PreC w rs ts) {x:RH} {q:Rat} {i:Nat} (hl:ts.length = i) (hi:i < rs.length) (hx:CanR w x q):PreC w (rs.set i x) (ts ++ [q]):=by
 intro j hj
 by_cases hji:j < ts.length
 ·rw [getD_set_other (by omega),show (ts ++ [q]).getD j 0 = ts.getD j 0 by rw [List.getD_eq_getElem?_getD,List.getElem?_append_left hji,← List.getD_eq_getElem?_getD]]
  exact h j hji
 ·obtain rfl:j = ts.length:=by simp at hj; omega
  subst hl
  rw [getD_set_self hi,show (ts ++ [q]).getD ts.length 0 = q by simp]
  exact hx
theorem PreC.list {w:World} {L M:Nat} {rs:List RH} {ts:List Rat} {B:Nat} (h:PreC w rs ts) (hb:RBk w L rs #[]) (hl:rs.length = M) (ht:ts.length = M) (hB:B≤L) (hM:M≤9223372036854775807):NewL B w ⟨some ⟨L,0,none⟩,M,M⟩ ts :=
 ⟨rs,hb.rs hl (Nat.le_refl _) hM,⟨by omega,h⟩,Or.inr ⟨L,0,rfl,hB,hb.lt⟩⟩
def nbE (ps qs:List Rat) (i:Nat):Rat:=(if 0 < i∧i≤ps.length then ps.getD (i - 1) 0 + ps.getD (i - 1) 0 else 0) - (if i < qs.length then qs.getD i 0 else 0)
def nbV (ps qs:List Rat):List Rat:=tz ((List.range (max (ps.length + 1) qs.length)).map (nbE ps qs))
def chP:Nat→List Rat × List Rat
 | 0=>([((1:Int):Rat)],[((0:Int):Rat),((1:Int):Rat)])
 | n + 1=>(nbV (chP n).1 (chP n).2,(chP n).1)
theorem CanL.new {w:World} {N n c B:Nat} {qs:List Rat} (h:CanL w ⟨some ⟨N,0,none⟩,n,c⟩ qs) (hB:B≤N) (hN:N < w.heap.size):NewL B w ⟨some ⟨N,0,none⟩,n,c⟩ qs:=let ⟨rs,h1,h2⟩:=h; ⟨rs,h1,h2,Or.inr ⟨N,0,rfl,hB,hN⟩⟩
def IntL (b:Nat) (l:List Rat):Prop:=∀ q ∈ l,q.den = 1∧q.num.natAbs≤b
theorem IntL.getD {b:Nat} {l:List Rat} (h:IntL b l) (i:Nat):(l.getD i 0).den = 1∧(l.getD i 0).num.natAbs≤b:=by
 rcases Nat.lt_or_ge i l.length with hi | hi
 ·exact h _ (getD_mem' hi)
 ·rw [getD_over' hi]; exact ⟨rfl,Nat.zero_le _⟩
theorem whole_eq {q:Rat} (h:q.den = 1):q = (q.num:Rat):=by
 apply Rat.ext
 ·rw [Rat.num_intCast]
 ·rw [h,Rat.den_intCast]
theorem IntL.nb {b:Nat} {ps qs:List Rat} (h1:IntL b ps) (h2:IntL b qs):IntL (3 * b) (nbV ps qs):=by
 unfold nbV
 rw [tz_prefix]
 intro q hq
 obtain ⟨i,-,rfl⟩:=List.mem_map.1 (List.mem_of_mem_take hq)
 unfold nbE
 have hp:=h1.getD (i - 1)
 have hq:=h2.getD i
 have e1:=whole_eq hp.1
 have e2:=whole_eq hq.1
 rw [e1,e2]
 generalize (ps.getD (i - 1) 0).num = x at *
 generalize (qs.getD i 0).num = y at *
 split <;> split
 ·rw [← Rat.intCast_add,← Rat.intCast_sub]
  exact ⟨Rat.den_intCast _,by rw [Rat.num_intCast]; omega⟩
 ·rw [← Rat.intCast_add,show ((x + x:Int):Rat) - 0 = ((x + x:Int):Rat) by grind]
  exact ⟨Rat.den_intCast _,by rw [Rat.num_intCast]; omega⟩
 ·rw [show (0:Rat) - (y:Rat) = ((-y:Int):Rat) by rw [Rat.intCast_neg]; grind]
  exact ⟨Rat.den_intCast _,by rw [Rat.num_intCast]; omega⟩
 ·rw [show (0:Rat) - 0 = 0 by grind]; exact ⟨rfl,Nat.zero_le _⟩
theorem IntL.mono {b c:Nat} {l:List Rat} (h:IntL b l) (hb:b≤c):IntL c l:=fun q hq=>⟨(h q hq).1,Nat.le_trans (h q hq).2 hb⟩
theorem chP_int (n:Nat):IntL (3 ^ n) (chP n).1∧IntL (3 ^ n) (chP n).2:=by
 induction n with
 | zero =>
  constructor
  ·intro q hq
   obtain rfl:q = ((1:Int):Rat):=by simpa [chP] using hq
   exact ⟨rfl,by decide⟩
  ·intro q hq
   have:q = ((0:Int):Rat) ∨ q = ((1:Int):Rat):=by simpa [chP] using hq
   rcases this with rfl | rfl
   ·exact ⟨rfl,by decide⟩
   ·exact ⟨rfl,by decide⟩
 | succ n ih =>
  rw [Nat.pow_succ,Nat.mul_comm]
  exact ⟨ih.1.nb ih.2,ih.1.mono (by omega)⟩
theorem IntL.sz {b k:Nat} {l:List Rat} (h:IntL b l) (hb:b < W32 ^ k) (hk:1≤k):SzL k l:=fun q hq =>
 ⟨Nat.lt_of_le_of_lt (h q hq).2 hb,by rw [(h q hq).1]; have:=W32_pow_ge hk; omega⟩
theorem Sz.den {k:Nat} {q:Rat} (h:Sz k q):Sz k (((q.den:Int)):Rat) :=
 ⟨by rw [Rat.num_intCast,Int.natAbs_natCast]; exact h.2,by rw [Rat.den_intCast]; have:=W32_pow_ge h.one_le; omega⟩
theorem CanR.den {w:World} {s:RH} {q:Rat} {k:Nat} {b:Option Addr} {m d:Nat} (h:CanR w s q) (hz:Sz k q) (hk:k≤134217728) (h1:U32 w b m d [1]) (hm:m = 1):RawR w ⟨false,s.b,s.m,s.d,b,m,d⟩ (((q.den:Int)):Rat):=by
 refine ⟨_,_,h.2.2,h1,?_,?_,by simp only; omega⟩
 ·rw [val_digs]
  show _ = mkRat (q.den:Int) (val [1])
  rw [show val [1] = 1 from rfl,Rat.mkRat_one]
 ·simp only
  rw [← h.2.2.len]
  exact Nat.le_trans (digs_len hz.2) hk
theorem divided_any (ao:Option Addr) (n cap:Nat) (l:List Rat) (t:RH) (c:Rat) (w:World) (h:RawL w ⟨ao,n,cap⟩ l) (ht:RawR w t c) (hcz:c ≠ 0) (hn:n≤1073741824) :
  Does 164 [.slice ao n cap,t.v] w SH.v (fun s w'=>NewL w.heap.size w' s (l.map (· / c))):=by
 obtain ⟨i0,hi0,hz0,hz1,hz2⟩:=info_parts infoR
 obtain ⟨tn,ta,tl,tc,tb,tm,td⟩:=t
 have H:=Hi h
 have HR:=Hi ht
 have HX:=Hi (Ext.refl w)
 have hle:=h.le
 have hmx:=h.max
 have Hlen:=Hi h.len
 simp only at hle hmx Hlen
 clear h ht
 unfold Does
 go_enter Tryz.func164,Tryz.ntmps164
 go_upto_region 1 with fail
 refine nm_alloc ?_
 intro w1 hE hB0 hz
 have hz_w1:=nle hz
 have hr_w1:=nle hz.symm
 clear hz
 replace HX:=hE.tr HX
 replace HR:=Hi (HR.out.ext hE)
 have hs_w1:=hE.size
 clear hE
 have B3:=Hi hB0
 clear hB0
 obtain ⟨c_B3,f_B3,l_B3⟩:=blk3 B3.out
 go_upto_region 2 with (refine wpList_make rfl (.tmp 8) (.tmp 8) 23 rfl 34 i0 (RH.v default) 3 Tryz.underlying23 hi0 hz0 hz1 _ _ n rfl rfl (by omega) (by omega) (by rw [hz2]; omega) (by omega) ?_; intro w2 hnew hE)
 have KB:=Hi (RBk.make rfl hnew)
 clear hnew
 replace HX:=hE.tr HX
 replace HR:=Hi (HR.out.ext hE)
 replace B3:=hE.bl B3
 have hs_w2:=hE.size
 clear hE
 try clear c_B3 f_B3 l_B3
 obtain ⟨c_B3,f_B3,l_B3⟩:=blk3 B3.out
 obtain ⟨b3,hb3⟩:∃ b3,b3 = w.heap.size:=⟨_,rfl⟩
 obtain ⟨L,hL⟩:∃ L,L = w1.heap.size:=⟨_,rfl⟩
 have hLw:w.heap.size≤L:=by omega
 have hbw:w.heap.size≤b3:=by omega
 have hne:b3 ≠ L:=by omega
 rw [← hb3] at B3 ⊢
 rw [← hL] at KB ⊢
 clear hb3 hL c_B3 f_B3 l_B3
 go_wp2
 go_loopg [12] n (fun g v wr=>∃ (i:Nat) (rs:List RH),i + g = n∧v = .int .i64 (i:Nat)∧Ext w wr∧RawR wr ⟨tn,ta,tl,tc,tb,tm,td⟩ c∧wr.heap[b3]? = some (.cells #[.bool tn,.slice ta tl tc,.slice tb tm td] 34 (0,0))∧RBk wr L rs #[]∧rs.length = n∧PreC wr rs ((l.take i).map (· / c)))
 case atStart=>exact ⟨0,_,by omega,rfl,HX.out,HR.out,B3.out,KB.out,by simp,fun j hj=>by simp at hj⟩
 case round =>
  obtain ⟨i,rs,hi,rfl,g1,g2,g3,g4,g5,g6⟩:=hrel
  clear HX HR B3 KB
  have HX:=Hi g1
  have HR:=Hi g2
  have B3:=Hi g3
  have KB:=Hi g4
  have HRl:=Hi g5
  have PC:=Hi g6
  clear g1 g2 g3 g4 g5 g6
  have HTl:Hid (((l.take i).map (· / c)).length = i):=Hi (by rw [List.length_map,List.length_take,Hlen.out]; omega)
  try clear c_B3 f_B3 l_B3
  obtain ⟨c_B3,f_B3,l_B3⟩:=blk3 B3.out
  try clear f_KB l_KB
  have f_KB:=blk_frozen KB.out
  have l_KB:=(Array.getElem?_eq_some_iff.1 KB.out).1
  by_cases h0:gk = 0
  ·subst h0
   obtain rfl:i = n:=by omega
   have HE:Hid (l.take i = l):=Hi (List.take_of_length_le (by rw [Hlen.out]; exact Nat.le_refl _))
   rw [HE.out] at PC HTl
   go_wp2
   go_ret
   exact ⟨⟨some ⟨L,0,none⟩,i,i⟩,rfl,HX.out,PreC.list PC.out KB.out HRl.out HTl.out hLw (by omega)⟩
  ·obtain ⟨b,off,r,hao,hbl,⟨hc1,hc2,hc3⟩,hP⟩:=(H.out.ext HX.out).cells' (k:=i) (by omega)
   obtain ⟨rneg,ra,rn,rc,rb,rm,rd⟩:=r
   simp only at hc1 hc2 hc3
   subst hao
   have RP:=Hi hP
   clear hP
   have hin:(i:Int) < n:=by omega
   go_upto_region 5 with fail
   refine wp_region_edges [(12,10)] _ (by simp only [addEs,addE,List.push_toArray,List.cons_append,List.nil_append]; exact rfl) (by intro c a d v w h; cases d <;> exact h) 12 (fun opIx=>match opIx with
    | 7=>.spec (RH) (default) (fun s=>.tuple #[s.v,.int .i64 0]) (fun x w'=>CanR w' x (l.getD i 0 / c))
    | _=>.quiet) (fun _=>[]) (by kernel_rfl) (by kernel_rfl) (by kernel_rfl) (fun w0 he0 hz0 hc0 hf0=>?_)
   replace he0:=Hi he0
   simp only [pT]
   repeat (refine wpq fun K h=>?_; go_big_quiet_op; refine h _ ?_; clear h K)
   refine wps he0.out rfl rfl (fun w1 hW hG=>?_) fun x7=>?_
   ·exact spc [RH.v ⟨rneg,ra,rn,rc,rb,rm,rd⟩,RH.v ⟨tn,ta,tl,tc,tb,tm,td⟩] Tryz.func174 (rdiv_any _ _ _ _ _ (RP.out.ext hW) (HR.out.ext hW) hcz)
   simp only [pS]
   repeat (refine wpq fun K h=>?_; go_big_quiet_op; refine h _ ?_; clear h K)
   refine wpF_nil ?_
   intro w5 hI
   have hE:=he0.out.trans hI.ext
   have G7:=Hi ((hI.facts 7:Since _ _).get fun _ e g=>g.ext e)
   clear hI he0 hz0 hc0 hf0
   replace HX:=hE.tr HX
   replace HR:=Hi (HR.out.ext hE)
   replace PC:=Hi (PC.out.ext hE)
   replace B3:=hE.bl B3
   replace KB:=hE.bl KB
   have hs_w5:=hE.size
   clear hE
   try clear c_B3 f_B3 l_B3
   obtain ⟨c_B3,f_B3,l_B3⟩:=blk3 B3.out
   try clear f_KB l_KB
   have f_KB:=blk_frozen KB.out
   have l_KB:=(Array.getElem?_eq_some_iff.1 KB.out).1
   simp only [pD]
   obtain ⟨f1,f2,f3⟩:=RBk.at (re:=#[]) KB.out (k:=i) (by rw [HRl.out]; omega)
   go_upto_region 6 with fail
   refine nm_rat (k:=i) KB.out rfl (by rw [HRl.out]; omega) ?_
   intro y6 T
   clear f1 f2 f3 hc1 hc2 hc3
   replace HX:=Hi (T.ext HX.out (by omega))
   replace HR:=Hi (HR.out.keep T.keep)
   replace PC:=Hi (PC.out.keep T.keep)
   replace B3:=Hi (T.rest _ _ (by omega) B3.out)
   replace KB:=Hi (T.bx)
   replace G7:=Hi (G7.out.keep T.keep)
   have hs_y6:=nle T.size
   have hr_y6:=nle T.size.symm
   clear T
   try clear c_B3 f_B3 l_B3
   obtain ⟨c_B3,f_B3,l_B3⟩:=blk3 B3.out
   try clear f_KB l_KB
   have f_KB:=blk_frozen KB.out
   have l_KB:=(Array.getElem?_eq_some_iff.1 KB.out).1
   replace PC:=Hi (PC.out.snoc (x:=x7) (i:=i) HTl.out (by rw [HRl.out]; omega) G7.out)
   have HMp:Hid ((l.take i).map (· / c) ++ [l.getD i 0 / c] = (l.take (i + 1)).map (· / c)):=Hi (by rw [← take_snoc (by rw [Hlen.out]; omega),List.map_append]; rfl)
   rw [HMp.out] at PC
   go_wp2
   go_roundg (gk - 1)
   case measure=>omega
   case rel=>exact ⟨i + 1,_,by omega,by go_num,HX.out,HR.out,B3.out,KB.out,by rw [List.length_set]; exact HRl.out,PC.out⟩
theorem pscale_blk (ao:Option Addr) (n cap:Nat) (l:List Rat) (t:RH) (c:Rat) (w:World) (h:RawL w ⟨ao,n,cap⟩ l) (ht:RawR w t c) (hn:n≤1073741824) (hz:SzL 33554432 l) (hzc:Sz 33554432 c) :
  Does 144 [.slice ao n cap,t.v] w SH.v (fun s w'=>NewL w.heap.size w' s (tz (l.map (· * c)))∧s.c = n∧∃ L,s.a = some ⟨L,0,none⟩∧w.heap.size≤L∧OutB w' L (l.map (· * c)) 67108864):=by
 obtain ⟨i0,hi0,hz0,hz1,hz2⟩:=info_parts infoR
 obtain ⟨tn,ta,tl,tc,tb,tm,td⟩:=t
 have H:=Hi h
 have HR:=Hi ht
 have HX:=Hi (Ext.refl w)
 have hle:=h.le
 have hmx:=h.max
 have Hlen:=Hi h.len
 simp only at hle hmx Hlen
 have HZ:=Hi hz
 have HZc:=Hi hzc
 clear h ht hz hzc
 unfold Does
 go_enter Tryz.func144,Tryz.ntmps144
 go_upto_region 1 with fail
 refine nm_alloc ?_
 intro w1 hE hB0 hz
 have hz_w1:=nle hz
 have hr_w1:=nle hz.symm
 clear hz
 replace HX:=hE.tr HX
 replace HR:=Hi (HR.out.ext hE)
 have hs_w1:=hE.size
 clear hE
 have B3:=Hi hB0
 clear hB0
 obtain ⟨c_B3,f_B3,l_B3⟩:=blk3 B3.out
 go_upto_region 2 with (refine wpList_make rfl (.tmp 8) (.tmp 8) 24 rfl 34 i0 (RH.v default) 3 Tryz.underlying24 hi0 hz0 hz1 _ _ n rfl rfl (by omega) (by omega) (by rw [hz2]; omega) (by omega) ?_; intro w2 hnew hE)
 have KB:=Hi (RBk.make rfl hnew)
 clear hnew
 replace HX:=hE.tr HX
 replace HR:=Hi (HR.out.ext hE)
 replace B3:=hE.bl B3
 have hs_w2:=hE.size
 clear hE
 try clear c_B3 f_B3 l_B3
 obtain ⟨c_B3,f_B3,l_B3⟩:=blk3 B3.out
 obtain ⟨b3,hb3⟩:∃ b3,b3 = w.heap.size:=⟨_,rfl⟩
 obtain ⟨L,hL⟩:∃ L,L = w1.heap.size:=⟨_,rfl⟩
 have hLw:w.heap.size≤L:=by omega
 have hbw:w.heap.size≤b3:=by omega
 have hne:b3 ≠ L:=by omega
 rw [← hb3] at B3 ⊢
 rw [← hL] at KB ⊢
 clear hb3 hL c_B3 f_B3 l_B3
 go_wp2
 go_loopg [12] n (fun g v wr=>∃ (i:Nat) (rs:List RH),i + g = n∧v = .int .i64 (i:Nat)∧Ext w wr∧RawR wr ⟨tn,ta,tl,tc,tb,tm,td⟩ c∧wr.heap[b3]? = some (.cells #[.bool tn,.slice ta tl tc,.slice tb tm td] 34 (0,0))∧RBk wr L rs #[]∧rs.length = n∧PreC wr rs ((l.take i).map (· * c)))
 case atStart=>exact ⟨0,_,by omega,rfl,HX.out,HR.out,B3.out,KB.out,by simp,fun j hj=>by simp at hj⟩
 case round =>
  obtain ⟨i,rs,hi,rfl,g1,g2,g3,g4,g5,g6⟩:=hrel
  clear HX HR B3 KB
  have HX:=Hi g1
  have HR:=Hi g2
  have B3:=Hi g3
  have KB:=Hi g4
  have HRl:=Hi g5
  have PC:=Hi g6
  clear g1 g2 g3 g4 g5 g6
  have HTl:Hid (((l.take i).map (· * c)).length = i):=Hi (by rw [List.length_map,List.length_take,Hlen.out]; omega)
  try clear c_B3 f_B3 l_B3
  obtain ⟨c_B3,f_B3,l_B3⟩:=blk3 B3.out
  try clear f_KB l_KB
  have f_KB:=blk_frozen KB.out
  have l_KB:=(Array.getElem?_eq_some_iff.1 KB.out).1
  by_cases h0:gk = 0
  ·subst h0
   obtain rfl:i = n:=by omega
   have HE:Hid (l.take i = l):=Hi (List.take_of_length_le (by rw [Hlen.out]; exact Nat.le_refl _))
   rw [HE.out] at PC HTl
   have LL:Hid (NewL w.heap.size wr ⟨some ⟨L,0,none⟩,i,i⟩ (l.map (· * c))):=Hi (PreC.list PC.out KB.out HRl.out HTl.out hLw (by omega))
   have HSz:Hid (SzL 67108864 (l.map (· * c))):=Hi (by
    intro q hq
    obtain ⟨y,hy,rfl⟩:=List.mem_map.1 hq
    exact ((HZ.out y hy).mul HZc.out).mono (by decide))
   have OB:Hid (OutB wr L (l.map (· * c)) 67108864):=Hi ⟨rs,KB.out,⟨by rw [HRl.out,HTl.out],fun k hk=>(PC.out k hk).raw (HSz.out.at hk) (by decide)⟩,HSz.out⟩
   (try clear c_B3 f_B3 l_B3); clear B3
   clear KB
   clear PC
   clear HR
   go_wp2_with fail
   refine Calls.mono (pcut_any (some ⟨L,0,none⟩) i i (l.map (· * c)) _ (LL.out.can.raw HSz.out (by decide))) ?_
   rintro e w1 ⟨x1,rfl,hE,g1⟩
   have G1:=Hi g1
   clear g1
   replace HX:=hE.tr HX
   replace LL:=Hi (LL.out.ext hE)
   replace OB:=Hi (OB.out.ext hE)
   have hs_w1:=hE.size
   clear hE
   obtain ⟨q1,q2⟩:=G1.out
   have HQ1:=Hi q1
   have HQ2:=Hi q2
   clear q1 q2 G1
   go_wp2
   go_ret
   refine ⟨⟨some ⟨L,0,none⟩,(tz (l.map (· * c))).length,i⟩,rfl,HX.out,?_⟩
   have:=LIn.take LL.out HQ2.out
   rw [← HQ1.out] at this
   exact ⟨this,rfl,L,rfl,hLw,OB.out⟩
  ·obtain ⟨b,off,r,hao,hbl,⟨hc1,hc2,hc3⟩,hP⟩:=(H.out.ext HX.out).cells' (k:=i) (by omega)
   obtain ⟨rneg,ra,rn,rc,rb,rm,rd⟩:=r
   simp only at hc1 hc2 hc3
   subst hao
   have RP:=Hi hP
   clear hP
   have hin:(i:Int) < n:=by omega
   go_upto_region 5 with fail
   refine wp_region_front 9 (fun opIx=>match opIx with
    | 7=>.spec RH default RH.v (fun s w'=>CanR w' s (l.getD i 0 * c))
    | _=>.quiet) (fun _=>[]) (by kernel_rfl) (by kernel_rfl) (fun w0 he0 hz0 hc0 hf0=>?_)
   replace he0:=Hi he0
   simp only [pT]
   repeat (refine wpq fun K h=>?_; go_big_quiet_op; refine h _ ?_; clear h K)
   refine wps he0.out rfl rfl (fun w1 hW hG=>?_) fun x7=>?_
   ·exact spc [RH.v ⟨rneg,ra,rn,rc,rb,rm,rd⟩,RH.v ⟨tn,ta,tl,tc,tb,tm,td⟩] Tryz.func130 (rmul_any _ _ _ _ _ (RP.out.ext hW) (HR.out.ext hW))
   simp only [pS]
   repeat (refine wpq fun K h=>?_; go_big_quiet_op; refine h _ ?_; clear h K)
   refine wpF_nil ?_
   intro w5 hI
   have hE:=he0.out.trans hI.ext
   have G7:=Hi ((hI.facts 7:Since _ _).get fun _ e g=>g.ext e)
   clear hI he0 hz0 hc0 hf0
   replace HX:=hE.tr HX
   replace HR:=Hi (HR.out.ext hE)
   replace PC:=Hi (PC.out.ext hE)
   replace B3:=hE.bl B3
   replace KB:=hE.bl KB
   have hs_w5:=hE.size
   clear hE
   try clear c_B3 f_B3 l_B3
   obtain ⟨c_B3,f_B3,l_B3⟩:=blk3 B3.out
   try clear f_KB l_KB
   have f_KB:=blk_frozen KB.out
   have l_KB:=(Array.getElem?_eq_some_iff.1 KB.out).1
   simp only [pD]
   obtain ⟨f1,f2,f3⟩:=RBk.at (re:=#[]) KB.out (k:=i) (by rw [HRl.out]; omega)
   go_upto_region 6 with fail
   refine nm_rat (k:=i) KB.out rfl (by rw [HRl.out]; omega) ?_
   intro y6 T
   clear f1 f2 f3 hc1 hc2 hc3
   replace HX:=Hi (T.ext HX.out (by omega))
   replace HR:=Hi (HR.out.keep T.keep)
   replace PC:=Hi (PC.out.keep T.keep)
   replace B3:=Hi (T.rest _ _ (by omega) B3.out)
   replace KB:=Hi (T.bx)
   replace G7:=Hi (G7.out.keep T.keep)
   have hs_y6:=nle T.size
   have hr_y6:=nle T.size.symm
   clear T
   try clear c_B3 f_B3 l_B3
   obtain ⟨c_B3,f_B3,l_B3⟩:=blk3 B3.out
   try clear f_KB l_KB
   have f_KB:=blk_frozen KB.out
   have l_KB:=(Array.getElem?_eq_some_iff.1 KB.out).1
   replace PC:=Hi (PC.out.snoc (x:=x7) (i:=i) HTl.out (by rw [HRl.out]; omega) G7.out)
   have HMp:Hid ((l.take i).map (· * c) ++ [l.getD i 0 * c] = (l.take (i + 1)).map (· * c)):=Hi (by rw [← take_snoc (by rw [Hlen.out]; omega),List.map_append]; rfl)
   rw [HMp.out] at PC
   go_wp2
   go_roundg (gk - 1)
   case measure=>omega
   case rel=>exact ⟨i + 1,_,by omega,by go_num,HX.out,HR.out,B3.out,KB.out,by rw [List.length_set]; exact HRl.out,PC.out⟩
theorem pscale_any (ao:Option Addr) (n cap:Nat) (l:List Rat) (t:RH) (c:Rat) (w:World) (h:RawL w ⟨ao,n,cap⟩ l) (ht:RawR w t c) (hn:n≤1073741824) (hz:SzL 33554432 l) (hzc:Sz 33554432 c) :
  Does 144 [.slice ao n cap,t.v] w SH.v (fun s w'=>NewL w.heap.size w' s (tz (l.map (· * c)))):=(pscale_blk ao n cap l t c w h ht hn hz hzc).weak (fun _ _ _ h=>h.1)
def corV (b c:List Rat) (k:Nat):Rat:=Stab.sm (min b.length (c.length - k)) (fun i=>b.getD i 0 * c.getD (i + k) 0)
end Go.Proofs.YtcbgamclcgcodaaGreat
namespace Go.Proofs.YtcbgamclcgcodaaGreat
open Go.RowKit Go.Front Go.Num
theorem tz_ext {a b:List Rat} (h:∀ i,a.getD i 0 = b.getD i 0):tz a = tz b:=by
 have hl:∀ a b:List Rat,(∀ i,a.getD i 0 = b.getD i 0)→(tz a).length≤(tz b).length:=by
  intro a b h
  rcases Nat.lt_or_ge (tz b).length (tz a).length with h1 | h1
  ·exfalso
   obtain ⟨n,hn⟩:∃ n,(tz a).length = n + 1:=⟨(tz a).length - 1,by omega⟩
   have h2:(tz a).getD n 0 = 0:=by
    rw [tz_getD (by omega),h n,tz_out (by omega)]
   have h3:=tz_idem a
   have h4:tz ((tz a).take (n + 1)) = tz ((tz a).take n):=tz_zero (by omega) h2
   rw [← hn,List.take_length,h3] at h4
   have h5:=tz_len_le ((tz a).take n)
   rw [← h4,List.length_take] at h5
   omega
  ·exact h1
 apply Stab.getD_ext
 ·exact Nat.le_antisymm (hl a b h) (hl b a (fun i=>(h i).symm))
 ·intro i _
  rw [tz_getD',tz_getD',h]
def Tf (k i:Nat):Rat:=(chP k).1.getD i 0
def fbS (c:List Rat) (i:Nat):Rat:=Stab.sm c.length (fun k=>c.getD k 0 * Tf k i)
def fbV (c:List Rat):List Rat:=tz ((List.range c.length).map (fbS c))
end Go.Proofs.YtcbgamclcgcodaaGreat
