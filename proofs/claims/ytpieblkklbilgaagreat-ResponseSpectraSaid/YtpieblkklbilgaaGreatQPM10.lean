/- Stb4, Stb5, Stb6, StbQ, Awk, Mk3 -/
import Derived.Test.YtpieblkklbilgaaGreatQPM9
import Derived.Test.YtpieblkklbilgaaGreatQPM8
set_option linter.unusedVariables false
namespace Go.Proofs.YtpieblkklbilgaaGreat
open Go.RowKit Go.Front Go.Num
attribute [local go_sem] XW.cell XW.frozen
def RefOk:Nat→List Rat→Prop
 | 0,_=>True
 | m+1,c=>SzL 8388608 c∧RefOk m (Stab.down c (c.getD (m+1) 0) (m+1))
def TCan (w:World) (ks:List RH) (g:Nat) (tl:List Rat):Prop:=∀ j,j < tl.length→CanR w (ks.getD (g+j) default) (tl.getD j 0)
theorem TCan.ext {w w':World} {ks:List RH} {g:Nat} {tl:List Rat} (h:TCan w ks g tl) (he:Ext w w'):TCan w' ks g tl:=fun j hj=>(h j hj).ext he
theorem TCan.keep {w w':World} {ks:List RH} {g:Nat} {tl:List Rat} (h:TCan w ks g tl) (he:Keep w w'):TCan w' ks g tl:=fun j hj=>(h j hj).keep he
theorem TCan.cons {w:World} {ks:List RH} {g:Nat} {tl:List Rat} (h:TCan w ks (g+1) tl) {x:RH} {v:Rat} (hx:CanR w x v) (hg:g < ks.length):TCan w (ks.set g x) g (v :: tl):=by
 intro j hj
 cases j with
 | zero=>simpa [hg] using hx
 | succ j =>
  have:=h j (by simpa using hj)
  rw [show (ks.set g x).getD (g+(j+1)) default=ks.getD (g+1+j) default by
   rw [List.getD_eq_getElem?_getD,List.getD_eq_getElem?_getD,List.getElem?_set_ne (by omega),show g+(j+1)=g+1+j by omega]]
  simpa using this
theorem LIn.cells {w:World} {ao:Option Addr} {n c:Nat} {qs:List Rat} {lo hi:Nat} (h:LIn w ⟨ao,n,c⟩ qs lo hi) {k:Nat} (hk:k < n):∃ b off r,ao=some ⟨b,off,none⟩∧b < w.heap.size∧RAt w b (off+k * 3) r∧CanR w r (qs.getD k 0):=by
 obtain ⟨b,off,r,h1,h2,h3⟩:=h.can.at hk
 exact ⟨b,off,r,h1,h2.lt,h2,h3⟩
theorem LIn.le {w:World} {s:SH} {qs:List Rat} {lo hi:Nat} (h:LIn w s qs lo hi):s.n≤s.c:=h.can.le
theorem LIn.max {w:World} {s:SH} {qs:List Rat} {lo hi:Nat} (h:LIn w s qs lo hi):s.c≤9223372036854775807:=h.can.max
def RF (x:SH × Int):Value:=.tuple #[x.1.v,.int .i64 x.2]
theorem tz_snoc0 (l:List Rat):tz (l ++ [0])=tz l:=by simp [tz]
theorem tz_snoc (l:List Rat) {r:Rat} (h:r ≠ 0):tz (l ++ [r])=l ++ [r]:=by simp [tz,h]
theorem tz_prefix (l:List Rat):tz l=l.take (tz l).length:=by
 induction l using Stab.snoc_ind with
 | h0=>rfl
 | h1 l r ih =>
  by_cases h:r=0
  ·subst h
   rw [tz_snoc0,List.take_append_of_le_length (tz_len_le l)]
   exact ih
  ·rw [tz_snoc l h,List.take_length]
theorem tz_getD {l:List Rat} {i:Nat} (h:i < (tz l).length):(tz l).getD i 0=l.getD i 0:=by
 rw [tz_prefix l]
 simp [h]
theorem tz_out {l:List Rat} {i:Nat} (h:(tz l).length≤i):l.getD i 0=0:=by
 induction l using Stab.snoc_ind with
 | h0=>rfl
 | h1 l r ih =>
  by_cases hr:r=0
  ·subst hr
   rw [tz_snoc0] at h
   rw [Stab.snoc0_getD]
   exact ih h
  ·rw [tz_snoc l hr] at h
   rw [List.getD_eq_getElem?_getD,List.getElem?_eq_none h]
   rfl
theorem tz_getD' (l:List Rat) (i:Nat):(tz l).getD i 0=l.getD i 0:=by
 rcases Nat.lt_or_ge i (tz l).length with h | h
 ·exact tz_getD h
 ·rw [tz_out h,List.getD_eq_getElem?_getD,List.getElem?_eq_none h]
  rfl
theorem SzL.tz {k:Nat} {qs:List Rat} (h:SzL k qs):SzL k (tz qs):=by
 rw [tz_prefix]
 exact fun q hq=>h q (List.mem_of_mem_take hq)
def upV (k:List Rat):Int × List Rat:=if 48 < k.length then (12,[]) else if ∀ r ∈ k,-1 < r∧r < 1 then (0,tz (Stab.ups k)) else (14,[])
def UpOk (k:List Rat):Prop:=SzL 8388608 k∧∀ j,j≤k.length→SzL 8388608 (Stab.ups (k.take j))
def BuiltR (w:World) (p:Nat × RH) (q:Rat):Prop:=RBk w p.1 [p.2] #[]∧CanR w p.2 q
theorem BuiltR.ext {w w':World} {p:Nat × RH} {q:Rat} (h:BuiltR w p q) (he:Ext w w'):BuiltR w' p q:=⟨h.1.ext he,h.2.ext he⟩
theorem spec_build {P:Program} {o:Oper} {a:Act} {w:World} {T:TypeId} (x:RH) (q:Rat) (hx:CanR w x q) (hT:T=30)
  (hrun:(execOp a.eval o).run P w=.ok (.value (.slice (some ⟨w.heap.size,0,none⟩) 1 1)) (w.alloc (.cells #[.bool x.neg,.slice x.a x.n x.c,.slice x.b x.m x.d] T))) :
  specAt P o a w (fun p:Nat × RH=>.slice (some ⟨p.1,0,none⟩) 1 1) (fun p w'=>BuiltR w' p q):=by
 subst hT
 unfold specAt
 rw [hrun]
 exact ⟨Ext.alloc _ _,(w.heap.size,x),rfl,rbk_one (heap_alloc_new _ _) rfl,hx.ext (Ext.alloc _ _)⟩
theorem up_range {c:List Rat} {j:Nat} (r:Rat) (hc:c.length=j+1):(List.range (j+2)).map (fun i=>(c ++ [0]).getD i 0+r * (c ++ [0]).getD (j+1 - i) 0)=Stab.up c r:=by
 apply Stab.getD_ext
 ·rw [Stab.up_length];simp [hc]
 ·intro i hi
  simp only [List.length_map,List.length_range] at hi
  rw [Stab.up_at hc (by omega),List.getD_eq_getElem?_getD,List.getElem?_map,List.getElem?_range hi]
  simp only [Option.map_some,Option.getD_some]
  rw [Stab.snoc0_getD,Stab.snoc0_getD]
theorem ups_take {k:List Rat} {j:Nat} (hj:j < k.length):Stab.ups (k.take (j+1))=Stab.up (Stab.ups (k.take j)) (k.getD j 0):=by
 rw [← take_snoc hj,Stab.ups_snoc]
theorem Sz.one:Sz 1 1:=Sz.int (z:=1) (by decide)
theorem RS.mods {w w':World} {s:SH} {rs:List RH} {b lo hi:Nat} (h:RS w s rs) (hp:s.n=0 ∨ ∃ b off,s.a=some ⟨b,off,none⟩∧lo≤b∧b < hi) (m:Mods (·=b) w w') (hb:b < lo ∨ hi≤b):RS w' s rs:=by
 refine ⟨h.len,h.le,h.max,?_⟩
 rcases hp with h0 | ⟨x,o,e,h1,h2⟩
 ·exact Or.inl h0
 ·rcases h.at' with h0 | ⟨x',o',e',h3⟩
  ·exact Or.inl h0
  ·rw [e] at e'
   obtain ⟨rfl,rfl⟩:x=x'∧o=o':=by simpa using e'
   refine Or.inr ⟨x,o,e,fun k hk=>?_⟩
   have hc:=h3 k hk
   exact ⟨m.cell (p:=⟨x,_,none⟩) (by show ¬ x=b;omega) hc.1,m.cell (p:=⟨x,_,none⟩) (by show ¬ x=b;omega) hc.2.1,m.cell (p:=⟨x,_,none⟩) (by show ¬ x=b;omega) hc.2.2⟩
end Go.Proofs.YtpieblkklbilgaaGreat
namespace Go.Proofs.YtpieblkklbilgaaGreat
open Go.RowKit Go.Front Go.Num
theorem Sz.zero {k:Nat} (hk:1≤k):Sz k 0:=(Sz.int (z:=0) (by decide)).mono hk
theorem SzL.getD {s:Nat} {c:List Rat} (h:SzL s c) (hs:1≤s) (i:Nat):Sz s (c.getD i 0):=by
 rcases Nat.lt_or_ge i c.length with hi | hi
 ·exact h.at hi
 ·rw [List.getD_eq_getElem?_getD,List.getElem?_eq_none hi];exact Sz.zero hs
def grow:Nat→Nat→Nat
 | 0,s=>s
 | m+1,s=>grow m (5 * s+3)
theorem grow_ge (m s:Nat):s≤grow m s:=by
 induction m generalizing s with
 | zero=>exact Nat.le_refl _
 | succ m ih=>exact Nat.le_trans (by omega) (ih (5 * s+3))
theorem grow_mono {m n s:Nat} (h:m≤n):grow m s≤grow n s:=by
  induction n generalizing m s with
  | zero => obtain rfl : m = 0 := by omega
            exact Nat.le_refl _
  | succ n ih =>
    cases m with
    | zero=>exact grow_ge (n+1) s
    | succ m=>exact ih (m:=m) (s:=5 * s+3) (by omega)
def upg:Nat→Nat
 | 0=>1
 | j+1=>2 * upg j+2
theorem upg_pos (j:Nat):1≤upg j:=by cases j <;> simp [upg]
theorem upg_mono {i j:Nat} (h:i≤j):upg i≤upg j:=by
  induction j with
  | zero => obtain rfl : i = 0 := by omega
            exact Nat.le_refl _
  | succ j ih =>
    rcases Nat.lt_or_ge i (j+1) with h1 | h1
    · exact Nat.le_trans (ih (by omega)) (by simp [upg];omega)
    · obtain rfl:i=j+1:=by omega
      exact Nat.le_refl _
theorem ups_sz (k:List Rat) (h:SzL 1 k):SzL (upg k.length) (Stab.ups k):=by
 induction k using Stab.snoc_ind with
 | h0 =>
  intro q hq
  obtain rfl:q=1:=by simpa [Stab.ups] using hq
  exact Sz.one
 | h1 l r ih =>
  have ih':=ih (fun x hx=>h x (by simp [hx]))
  rw [Stab.ups_snoc,List.length_append,List.length_singleton]
  intro q hq
  obtain ⟨i,hi,rfl⟩:=List.mem_iff_getElem.1 hq
  rw [Stab.up_length,Stab.ups_length] at hi
  have e:=Stab.up_at (c:=Stab.ups l) (k:=r) (i:=i) (Stab.ups_length l) (by omega)
  rw [List.getD_eq_getElem?_getD,List.getElem?_eq_getElem (by rw [Stab.up_length,Stab.ups_length];omega)] at e
  simp only [Option.getD_some] at e
  rw [e]
  exact ((ih'.getD (upg_pos _) i).add ((h r (by simp)).mul (ih'.getD (upg_pos _) _))).mono (by simp [upg];omega)
theorem upOk {k:List Rat} (h:SzL 1 k) (hl:k.length≤5):UpOk k:=by
 refine ⟨h.mono (by decide),fun j hj=>?_⟩
 have h1:=ups_sz (k.take j) (fun q hq=>h q (List.mem_of_mem_take hq))
 refine h1.mono (Nat.le_trans (upg_mono (j:=5) ?_) (by decide))
 rw [List.length_take]
 omega
theorem tz_idem (l:List Rat):tz (tz l)=tz l:=by
 induction l using Stab.snoc_ind with
 | h0=>rfl
 | h1 l r ih =>
  by_cases h:r=0
  ·subst h;rw [tz_snoc0];exact ih
  ·rw [tz_snoc l h,tz_snoc l h]
theorem upV_ok {k:List Rat} (h:∀ r ∈ k,-1 < r∧r < 1) (hl:k.length≤48):upV k=(0,tz (Stab.ups k)):=by
 unfold upV
 rw [if_neg (by omega),if_pos h]
end Go.Proofs.YtpieblkklbilgaaGreat
namespace Go.Proofs.YtpieblkklbilgaaGreat
open Go.RowKit Go.Front Go.Num
attribute [local go_sem] XW.cell XW.frozen
theorem canL_1 {w:World} {N:Nat} {x:RH} {p:Rat} (h:w.heap[N]?=some (.cells #[.bool x.neg,.slice x.a x.n x.c,.slice x.b x.m x.d] 30 (0,0))) (hx:CanR w x p):CanL w ⟨some ⟨N,0,none⟩,1,1⟩ [p] :=
 ⟨[x],RBk.rs (rs:=[x]) (re:=#[]) h rfl (Nat.le_refl _) (by decide),(Vals.nil _ _).snoc hx⟩
theorem canL_2 {w:World} {N:Nat} {x y:RH} {p q:Rat} (h:w.heap[N]?=some (.cells #[.bool x.neg,.slice x.a x.n x.c,.slice x.b x.m x.d,.bool y.neg,.slice y.a y.n y.c,.slice y.b y.m y.d] 30 (0,0))) (hx:CanR w x p) (hy:CanR w y q):CanL w ⟨some ⟨N,0,none⟩,2,2⟩ [p,q] :=
 ⟨[x,y],RBk.rs (rs:=[x,y]) (re:=#[]) h rfl (Nat.le_refl _) (by decide),((Vals.nil _ _).snoc hx).snoc hy⟩
theorem canL_3 {w:World} {N:Nat} {x y z:RH} {p q r:Rat} (h:w.heap[N]?=some (.cells #[.bool x.neg,.slice x.a x.n x.c,.slice x.b x.m x.d,.bool y.neg,.slice y.a y.n y.c,.slice y.b y.m y.d,.bool z.neg,.slice z.a z.n z.c,.slice z.b z.m z.d] 30 (0,0))) (hx:CanR w x p) (hy:CanR w y q) (hz:CanR w z r):CanL w ⟨some ⟨N,0,none⟩,3,3⟩ [p,q,r] :=
 ⟨[x,y,z],RBk.rs (rs:=[x,y,z]) (re:=#[]) h rfl (Nat.le_refl _) (by decide),(((Vals.nil _ _).snoc hx).snoc hy).snoc hz⟩
def fr (a b:Int):Rat:=(a:Rat) / (b:Rat)
theorem szB {qs:List Rat} (h:qs.all (fun q=>decide (q.num.natAbs < W32) && decide (q.den < W32))=true):SzL 1 qs:=by
 intro q hq
 have:=List.all_eq_true.1 h q hq
 simp only [Bool.and_eq_true,decide_eq_true_eq] at this
 exact ⟨by rw [Nat.pow_one];exact this.1,by rw [Nat.pow_one];exact this.2⟩
def keptQ (n:Int):Rat:=((n % 15 - 7:Int):Rat) / ((8:Int):Rat)
set_option maxRecDepth 4000 in
set_option maxHeartbeats 1000000 in
theorem kept_any (ao:Option Addr) (cap most:Nat) (xs:List Int) (w:World) (h:IntsAt w ao xs) (hr:InR xs) (hl:xs.length≤9223372036854775807) (hmo:most≤1073741824) (hc:xs.length≤cap) (hcm:cap≤9223372036854775807) :
  Does 126 [.slice ao xs.length cap,.int .i64 (most:Nat)] w SH.v (fun s w'=>NewL w.heap.size w' s ((xs.take most).map keptQ)):=by
 have HX:=Hi (Ext.refl w)
 by_cases hgt:most < xs.length
 ·obtain ⟨ys,hys⟩:∃ ys,ys=xs.take most:=⟨_,rfl⟩
  have HY:=Hi hys
  have H:Hid (IntsAt w ao ys):=Hi (by rw [hys];exact IntsAt.take h _)
  have HR:Hid (InR ys):=Hi (by rw [hys];exact hr.take _)
  have Hn:Hid (ys.length=most):=Hi (by rw [hys,List.length_take];omega)
  obtain ⟨n,hn⟩:∃ n,n=xs.length:=⟨_,rfl⟩
  rw [← hn] at hl hc hgt ⊢
  clear h hr hn hys
  unfold Does
  go_enter Tryz.func126,Tryz.ntmps126
  go_wp2
  go_loopg [5,17] most (fun g v i wr=>∃ j:Nat,j+g=most∧i=.int .i64 (j:Nat)∧Ext w wr∧OwnQ wr (w.heap.size≤·) v ((ys.take j).map keptQ))
  case atStart=>exact ⟨0,by omega,rfl,HX.out,OwnQ.nil _ _⟩
  case round =>
   obtain ⟨j,hj,rfl,g1,g2⟩:=hrel
   obtain ⟨s,rfl⟩:=g2.sh
   clear HX
   have HX:=Hi g1
   have HO:=Hi g2
   have hsz:=g1.size
   clear g1 g2
   by_cases h0:gk=0
   ·subst h0
    obtain rfl:j=most:=by omega
    go_wp2
    go_ret
    refine ⟨s,rfl,HX.out,?_⟩
    have:=HO.out.lin
    rw [List.take_of_length_le (by rw [Hn.out];exact Nat.le_refl _),HY.out] at this
    exact this
   ·obtain ⟨b,off,hao,hc1⟩:=(H.out.ext HX.out).at (k:=j) (by rw [Hn.out];omega)
    subst hao
    have hx:=HR.out _ (getD_memI (xs:=ys) (k:=j) (by rw [Hn.out];omega))
    obtain ⟨x,hxe⟩:∃ x,x=ys.getD j 0:=⟨_,rfl⟩
    rw [← hxe] at hc1 hx
    have Hxe:=Hi hxe
    have hbl:b < wr.heap.size:=World.block_lt_of_cell? _ _ hc1
    clear hxe
    have h1:=Int.emod_nonneg x (show (15:Int) ≠ 0 by decide)
    have h2:=Int.emod_lt_of_pos x (show (0:Int) < 15 by decide)
    obtain ⟨a,ha⟩:∃ a,a=x % 15:=⟨_,rfl⟩
    rw [← ha] at h1 h2
    have HA:=Hi ha
    clear ha
    have hjn:(j:Int) < most:=by omega
    go_wp2_with fail
    refine Calls.mono (mod_any x 15 _ hx.1 hx.2 (by decide) (by decide)) ?_
    rintro e w1 ⟨x1,rfl,hE,-⟩
    replace HX:=hE.tr HX
    replace HO:=Hi (HO.out.ext hE)
    have hs_w1:=hE.size
    clear hE
    rw [← HA.out]
    go_wp2_with fail
    refine Calls.mono (rfrac3_any (a - 7) 8 _ (by omega) (by omega) (by decide) (by decide)) ?_
    rintro e w2 ⟨x2,rfl,hE,g2⟩
    have G2:=Hi g2
    clear g2
    replace HX:=hE.tr HX
    replace HO:=Hi (HO.out.ext hE)
    have hs_w2:=hE.size
    clear hE
    have G3:Hid (CanR w2 x2 (keptQ x)):=Hi (by unfold keptQ;rw [← HA.out];exact G2.out)
    go_wp2_with (at_builtin;refine wpList_append_n rfl (.tmp 21) (.tmp 26) 22 Tryz.underlying22 rfl (w.heap.size≤·) _ _ x2 _ rfl HO.out rfl G3.out (by simp;omega) (fun k hk=>by omega) ?_;intro s' y3 q1 q2 q3)
    have HX3:=Hi (Ext.mods HX.out q2 (fun k h=>h))
    have HO3:Hid (OwnQ y3 (w.heap.size≤·) s'.v ((ys.take (j+1)).map keptQ)):=Hi (by
     rw [← map_snoc keptQ (by rw [Hn.out];omega),← Hxe.out]
     exact q1)
    clear q1 q2 q3
    go_wp2
    go_roundg (gk - 1)
    case measure=>omega
    case rel=>exact ⟨j+1,by omega,by go_num,HX3.out,HO3.out⟩
 ·obtain ⟨ys,hys⟩:∃ ys,ys=xs:=⟨_,rfl⟩
  have HY:Hid (ys=xs.take most):=Hi (by rw [hys,List.take_of_length_le (by omega)])
  have H:Hid (IntsAt w ao ys):=Hi (by rw [hys];exact h)
  have HR:Hid (InR ys):=Hi (by rw [hys];exact hr)
  obtain ⟨n,hn⟩:∃ n,n=xs.length:=⟨_,rfl⟩
  have Hn:Hid (ys.length=n):=Hi (by rw [hys,hn])
  rw [← hn] at hl hc hgt ⊢
  clear h hr hn hys
  unfold Does
  go_enter Tryz.func126,Tryz.ntmps126
  go_wp2
  go_loopg [5,17] n (fun g v i wr=>∃ j:Nat,j+g=n∧i=.int .i64 (j:Nat)∧Ext w wr∧OwnQ wr (w.heap.size≤·) v ((ys.take j).map keptQ))
  case atStart=>exact ⟨0,by omega,rfl,HX.out,OwnQ.nil _ _⟩
  case round =>
   obtain ⟨j,hj,rfl,g1,g2⟩:=hrel
   obtain ⟨s,rfl⟩:=g2.sh
   clear HX
   have HX:=Hi g1
   have HO:=Hi g2
   have hsz:=g1.size
   clear g1 g2
   by_cases h0:gk=0
   ·subst h0
    obtain rfl:j=n:=by omega
    go_wp2
    go_ret
    refine ⟨s,rfl,HX.out,?_⟩
    have:=HO.out.lin
    rw [List.take_of_length_le (by rw [Hn.out];exact Nat.le_refl _),HY.out] at this
    exact this
   ·obtain ⟨b,off,hao,hc1⟩:=(H.out.ext HX.out).at (k:=j) (by rw [Hn.out];omega)
    subst hao
    have hx:=HR.out _ (getD_memI (xs:=ys) (k:=j) (by rw [Hn.out];omega))
    obtain ⟨x,hxe⟩:∃ x,x=ys.getD j 0:=⟨_,rfl⟩
    rw [← hxe] at hc1 hx
    have Hxe:=Hi hxe
    have hbl:b < wr.heap.size:=World.block_lt_of_cell? _ _ hc1
    clear hxe
    have h1:=Int.emod_nonneg x (show (15:Int) ≠ 0 by decide)
    have h2:=Int.emod_lt_of_pos x (show (0:Int) < 15 by decide)
    obtain ⟨a,ha⟩:∃ a,a=x % 15:=⟨_,rfl⟩
    rw [← ha] at h1 h2
    have HA:=Hi ha
    clear ha
    have hjn:(j:Int) < n:=by omega
    go_wp2_with fail
    refine Calls.mono (mod_any x 15 _ hx.1 hx.2 (by decide) (by decide)) ?_
    rintro e w1 ⟨x1,rfl,hE,-⟩
    replace HX:=hE.tr HX
    replace HO:=Hi (HO.out.ext hE)
    have hs_w1:=hE.size
    clear hE
    rw [← HA.out]
    go_wp2_with fail
    refine Calls.mono (rfrac3_any (a - 7) 8 _ (by omega) (by omega) (by decide) (by decide)) ?_
    rintro e w2 ⟨x2,rfl,hE,g2⟩
    have G2:=Hi g2
    clear g2
    replace HX:=hE.tr HX
    replace HO:=Hi (HO.out.ext hE)
    have hs_w2:=hE.size
    clear hE
    have G3:Hid (CanR w2 x2 (keptQ x)):=Hi (by unfold keptQ;rw [← HA.out];exact G2.out)
    go_wp2_with (at_builtin;refine wpList_append_n rfl (.tmp 21) (.tmp 26) 22 Tryz.underlying22 rfl (w.heap.size≤·) _ _ x2 _ rfl HO.out rfl G3.out (by simp;omega) (fun k hk=>by omega) ?_;intro s' y3 q1 q2 q3)
    have HX3:=Hi (Ext.mods HX.out q2 (fun k h=>h))
    have HO3:Hid (OwnQ y3 (w.heap.size≤·) s'.v ((ys.take (j+1)).map keptQ)):=Hi (by
     rw [← map_snoc keptQ (by rw [Hn.out];omega),← Hxe.out]
     exact q1)
    clear q1 q2 q3
    go_wp2
    go_roundg (gk - 1)
    case measure=>omega
    case rel=>exact ⟨j+1,by omega,by go_num,HX3.out,HO3.out⟩
end Go.Proofs.YtpieblkklbilgaaGreat
