/- What package bernstein and its reference compute. Plain facts. -/
import Derived.Test.YtpieblkklbilgaaGreatQKBn1
import Derived.Test.YtpieblkklbilgaaGreatQKM12
import Derived.Test.YtpieblkklbilgaaGreatQKM22
import Derived.Test.YtpieblkklbilgaaGreatQKSI
set_option linter.unusedVariables false
namespace Go.Proofs.YtpieblkklbilgaaGreat
open Go.RowKit Go.Front Go.Num Stab
def hq (p:List Rat) (a w:Rat):Nat→Nat→Rat
 | 0,_=>0
 | j+1,0=>hq p a w j 0 * a+p.getD (p.length - 1 - j) 0
 | j+1,k+1=>hq p a w j (k+1) * a+hq p a w j k * w
theorem hq_over {p:List Rat} {a w:Rat} {j k:Nat} (h:j≤k):hq p a w j k=0:=by
 induction j generalizing k with
 | zero=>rfl
 | succ j ih =>
  obtain ⟨k,rfl⟩:∃ i,k=i+1:=⟨k - 1,by omega⟩
  show hq p a w j (k+1) * a+hq p a w j k * w=0
  rw [ih (by omega),ih (by omega)]
  grind
theorem hq_ev {p:List Rat} {a w:Rat} {j:Nat} (h:j≤p.length) (t:Rat):evV (row j (hq p a w j)) t=evV (p.drop (p.length - j)) (a+t * w):=by
 induction j with
 | zero=>rw [Nat.sub_zero,List.drop_eq_nil_of_le (Nat.le_refl _)];rfl
 | succ j ih =>
  have ih:=ih (by omega)
  have e1:=ev_drop (p:=p) (i:=p.length - 1 - j) (by omega) (a+t * w)
  rw [show p.length - 1 - j+1=p.length - j by omega,← ih,show p.length - 1 - j=p.length - (j+1) by omega] at e1
  rw [e1,ev_sm,ev_sm,row_len,row_len,sm_succ']
  rw [row_at _ (by omega)]
  show (hq p a w j 0 * a+p.getD (p.length - 1 - j) 0) * t ^ 0+_=_
  have e2:sm j (fun i=>(row (j+1) (hq p a w (j+1))).getD (i+1) 0 * t ^ (i+1))=a * sm j (fun i=>hq p a w j (i+1) * t ^ (i+1))+(t * w) * sm j (fun i=>hq p a w j i * t ^ i):=by
   rw [← sm_mul,← sm_mul,← sm_add]
   refine sm_congr (fun i hi=>?_)
   rw [row_at _ (by omega)]
   show (hq p a w j (i+1) * a+hq p a w j i * w) * t ^ (i+1)=_
   rw [Rat.pow_succ]
   grind
  have e3:sm j (fun i=>(row j (hq p a w j)).getD i 0 * t ^ i)=sm j (fun i=>hq p a w j i * t ^ i):=sm_congr (fun i hi=>by rw [row_at _ hi])
  have e4:sm j (fun i=>hq p a w j i * t ^ i)=hq p a w j 0 * t ^ 0+sm j (fun i=>hq p a w j (i+1) * t ^ (i+1)):=by
   rw [← sm_succ' j (fun i=>hq p a w j i * t ^ i)]
   show _=sm j _+hq p a w j j * t ^ j
   rw [hq_over (Nat.le_refl _)]
   grind
  rw [e2,e3,e4,Rat.pow_zero]
  rw [show p.length - 1 - j=p.length - (j+1) by omega]
  grind
def fc:Nat→Nat
 | 0=>1
 | n+1=>fc n * (n+1)
theorem fc_pos (n:Nat):0 < fc n:=by
 induction n with
 | zero=>decide
 | succ n ih=>exact Nat.mul_pos ih (Nat.succ_pos _)
theorem ch_fc {n k:Nat} (h:k≤n):ch n k * (fc k * fc (n - k))=fc n:=by
 induction n generalizing k with
 | zero =>
  obtain rfl:k=0:=by omega
  rfl
 | succ n ih =>
  rcases Nat.eq_zero_or_pos k with rfl | h0
  ·rw [ch_zero,Nat.sub_zero]
   show 1 * (1 * fc (n+1))=_
   omega
  ·obtain ⟨k,rfl⟩:∃ j,k=j+1:=⟨k - 1,by omega⟩
   show (ch n k+ch n (k+1)) * (fc k * (k+1) * fc (n+1 - (k+1)))=fc n * (n+1)
   rw [show n+1 - (k+1)=n - k by omega,Nat.add_mul]
   have e1:=ih (k:=k) (by omega)
   have e3:ch n k * (fc k * (k+1) * fc (n - k))=fc n * (k+1):=by
    rw [← e1]
    ac_rfl
   rw [e3]
   by_cases hk:k+1≤n
   ·have e2:=ih (k:=k+1) hk
    obtain ⟨m,hm⟩:∃ m,n - k=m+1:=⟨n - k - 1,by omega⟩
    have hm2:n - (k+1)=m:=by omega
    rw [hm2] at e2
    have e4:ch n (k+1) * (fc k * (k+1) * fc (n - k))=fc n * (n - k):=by
     rw [hm,← e2]
     show ch n (k+1) * (fc k * (k+1) * (fc m * (m+1)))=ch n (k+1) * (fc k * (k+1) * fc m) * (m+1)
     ac_rfl
    rw [e4,← Nat.mul_add]
    congr 1
    omega
   ·rw [ch_over (n:=n) (k:=k+1) (by omega),Nat.zero_mul,Nat.add_zero]
    congr 1
    omega
def bcV (p:List Rat) (a w:Rat) (i:Nat):Rat:=bt (fun k=>hq p a w p.length k * ((ch (p.length - 1) k:Rat))⁻¹) i
theorem bc_vl {p:List Rat} (h:p ≠ []) (a w t:Rat):vl (p.length - 1) (bcV p a w) t=evV p (a+t * w):=by
 have hl:0 < p.length:=List.length_pos_iff.2 h
 show vl (p.length - 1) (bt _) t=_
 rw [vl_sm,show p.length - 1+1=p.length by omega]
 have e:=hq_ev (p:=p) (a:=a) (w:=w) (j:=p.length) (Nat.le_refl _) t
 rw [Nat.sub_self,List.drop_zero] at e
 rw [← e]
 refine congrArg (fun l=>evV l t) (row_congr (fun k hk=>?_))
 have h1:=Rat.mul_inv_cancel _ (natne (ch_pos (n:=p.length - 1) (k:=k) (by omega)))
 rw [Rat.mul_comm (hq p a w p.length k),← Rat.mul_assoc,h1,Rat.one_mul]
theorem bc_uniq {p:List Rat} (h:p ≠ []) {a w:Rat} {b:Nat→Rat} (hb:∀ t,vl (p.length - 1) b t=evV p (a+t * w)):∀ i,i < p.length→b i=bcV p a w i:=by
 intro i hi
 exact vl_inj (n:=p.length - 1) (fun t=>by rw [hb,bc_vl h]) i (by omega)
theorem bc_left {p:List Rat} (h:p ≠ []) (a w:Rat):∀ i,i < p.length→lfb (bcV p a w) i=bcV p a (w * hf) i :=
 bc_uniq h (fun t=>by rw [vl_lfb,bc_vl h];congr 1;grind)
theorem bc_right {p:List Rat} (h:p ≠ []) (a w:Rat):∀ i,i < p.length→rtb (p.length - 1) (bcV p a w) i=bcV p (a+w * hf) (w * hf) i :=
 bc_uniq h (fun t=>by rw [vl_rtb,bc_vl h];congr 1;grind)
def bsf (m:Nat) (v:Nat→Rat) (i:Nat):Rat:=upn (min m i) 1 v (i - min m i)
theorem upn_up (n:Nat) (c:Rat) (u:Nat→Rat):upn (n+1) c u=up c (upn n c u):=by
 induction n generalizing u with
 | zero=>rfl
 | succ n ih=>exact ih (up c u)
theorem bsf_zero (v:Nat→Rat) (i:Nat):bsf 0 v i=v i:=by unfold bsf;rw [Nat.zero_min];rfl
theorem bsf_low {m:Nat} {v:Nat→Rat} {i:Nat} (h:i≤m):bsf m v i=bt v i:=by unfold bsf;rw [Nat.min_eq_right h,Nat.sub_self];rfl
theorem bsf_keep {m:Nat} {v:Nat→Rat} {i:Nat} (h:i≤m):bsf (m+1) v i=bsf m v i:=by rw [bsf_low h,bsf_low (by omega)]
theorem bsf_step {m:Nat} {v:Nat→Rat} {i:Nat} (h:m < i):bsf (m+1) v i=bsf m v i+bsf m v (i - 1):=by
 unfold bsf
 rw [Nat.min_eq_left (show m+1≤i by omega),Nat.min_eq_left (show m≤i by omega),Nat.min_eq_left (show m≤i - 1 by omega),upn_up]
 unfold up
 rw [show i - (m+1)=i - 1 - m by omega,show i - m=i - 1 - m+1 by omega]
 grind
def bsv (n:Nat) (c:Nat→Rat) (k:Nat):Rat:=c k * (((fc k:Nat):Rat) * ((fc (n - k):Nat):Rat))
theorem bt_bsv {n:Nat} {c q:Nat→Rat} {K:Rat} (h:∀ k,k≤n→c k=K * q k) {i:Nat} (hi:i≤n):bt (bsv n c) i=K * (fc n:Rat) * bt (fun k=>q k * ((ch n k:Rat))⁻¹) i:=by
 rw [bt_sm,bt_sm,← sm_mul]
 refine sm_congr (fun k hk=>?_)
 unfold bsv
 rw [h k (by omega),← ch_fc (n:=n) (k:=k) (by omega),Rat.natCast_mul,Rat.natCast_mul]
 have h1:=Rat.mul_inv_cancel _ (natne (ch_pos (n:=n) (k:=k) (by omega)))
 have e:((ch n k:Nat):Rat) * (((fc k:Nat):Rat) * ((fc (n - k):Nat):Rat)) * (q k * ((ch n k:Nat):Rat)⁻¹)=(((ch n k:Nat):Rat) * ((ch n k:Nat):Rat)⁻¹) * (q k * (((fc k:Nat):Rat) * ((fc (n - k):Nat):Rat))):=by grind
 rw [show K * (((ch n k:Nat):Rat) * (((fc k:Nat):Rat) * ((fc (n - k):Nat):Rat))) * (((ch i k:Nat):Rat) * (q k * ((ch n k:Nat):Rat)⁻¹))=K * ((ch i k:Nat):Rat) * (((ch n k:Nat):Rat) * (((fc k:Nat):Rat) * ((fc (n - k):Nat):Rat)) * (q k * ((ch n k:Nat):Rat)⁻¹)) by grind,e,h1]
 grind
def hc (p:List Rat) (a w F G:Rat) (j k:Nat):Rat:=F * G ^ (j - 1) * hq p a w j k
theorem hc_zero (p:List Rat) (a w F G:Rat) (k:Nat):hc p a w F G 0 k=0:=by unfold hc;show _ * (0:Rat)=0;grind
theorem hc_over {p:List Rat} {a w F G:Rat} {j k:Nat} (h:j≤k):hc p a w F G j k=0:=by unfold hc;rw [hq_over h];grind
theorem hc_first (p:List Rat) (a w F G:Rat) (j:Nat):hc p a w F G (j+1) 0=hc p a w F G j 0 * (a * G)+p.getD (p.length - 1 - j) 0 * F * G ^ j:=by
 unfold hc
 rw [Nat.add_sub_cancel]
 show F * G ^ j * (hq p a w j 0 * a+p.getD (p.length - 1 - j) 0)=_
 rcases Nat.eq_zero_or_pos j with rfl | h0
 ·show F * G ^ 0 * ((0:Rat) * a+_)=_ * (0:Rat) * _+_
  grind
 ·obtain ⟨j,rfl⟩:∃ i,j=i+1:=⟨j - 1,by omega⟩
  rw [Nat.add_sub_cancel,Rat.pow_succ]
  grind
theorem hc_next (p:List Rat) (a w F G:Rat) (j k:Nat):hc p a w F G (j+1) (k+1)=hc p a w F G j (k+1) * (a * G)+hc p a w F G j k * (w * G):=by
 unfold hc
 rw [Nat.add_sub_cancel]
 show F * G ^ j * (hq p a w j (k+1) * a+hq p a w j k * w)=_
 rcases Nat.eq_zero_or_pos j with rfl | h0
 ·show F * G ^ 0 * ((0:Rat) * a+(0:Rat) * w)=_ * (0:Rat) * _+_ * (0:Rat) * _
  grind
 ·obtain ⟨j,rfl⟩:∃ i,j=i+1:=⟨j - 1,by omega⟩
  rw [Nat.add_sub_cancel,Rat.pow_succ]
  grind
def grV (a b:Rat):Rat:=comV [a,(b - a).abs]
def lcK (p:List Rat) (a b:Rat):Rat:=comV p * grV a b ^ (p.length - 1) * (fc (p.length - 1):Rat)
def lcW (p:List Rat) (a b:Rat):List Rat:=row p.length (bt (bsv (p.length - 1) (hc p a (b - a) (comV p) (grV a b) p.length)))
theorem lc_bc {p:List Rat} {a b:Rat}:lcW p a b=row p.length (fun i=>lcK p a b * bcV p a (b - a) i):=by
 unfold lcW
 refine row_congr (fun i hi=>?_)
 rw [bt_bsv (n:=p.length - 1) (c:=hc p a (b - a) (comV p) (grV a b) p.length) (K:=comV p * grV a b ^ (p.length - 1)) (q:=hq p a (b - a) p.length) (fun k _=>rfl) (by omega)]
 rfl
theorem com_wh (l:List Rat):Wh (comV l)∧∀ x ∈ l,Wh (comV l * x):=by
 induction l using snoc_ind with
 | h0=>exact ⟨rfl,fun x hx=>by simp at hx⟩
 | h1 l r ih =>
  rw [comV_snoc]
  unfold comS
  refine ⟨ih.1.mul (Wh.int _),fun x hx=>?_⟩
  rcases List.mem_append.1 hx with h | h
  ·rw [show comV l * (((comV l * r).den:Int):Rat) * x=(comV l * x) * (((comV l * r).den:Int):Rat) by grind]
   exact (ih.2 x h).mul (Wh.int _)
  ·rw [List.mem_singleton.1 h,show comV l * (((comV l * r).den:Int):Rat) * r=(comV l * r) * (((comV l * r).den:Nat):Rat) by
    rw [show (((comV l * r).den:Int):Rat)=(((comV l * r).den:Nat):Rat) from rfl];grind,low]
   exact Wh.int _
theorem com_pos' (l:List Rat):0 < comV l:=by
 induction l using snoc_ind with
 | h0=>decide
 | h1 l r ih =>
  rw [comV_snoc]
  unfold comS
  refine Rat.mul_pos ih ?_
  have:=(comV l * r).den_pos
  exact_mod_cast this
theorem pow_pos' {G:Rat} (h:0 < G) (n:Nat):0 < G ^ n:=by
 induction n with
 | zero=>rw [Rat.pow_zero];decide
 | succ n ih=>rw [Rat.pow_succ];exact Rat.mul_pos ih h
theorem nat_pos' {n:Nat} (h:0 < n):0 < (n:Rat):=by exact_mod_cast h
theorem lcK_pos (p:List Rat) (a b:Rat):0 < lcK p a b:=Rat.mul_pos (Rat.mul_pos (com_pos' _) (pow_pos' (com_pos' _) _)) (nat_pos' (fc_pos _))
theorem Wh.pow {G:Rat} (h:Wh G) (n:Nat):Wh (G ^ n):=by
 induction n with
 | zero=>rw [Rat.pow_zero];rfl
 | succ n ih=>rw [Rat.pow_succ];exact ih.mul h
theorem Wz.of {S:Nat} {q:Rat} (h:Wh q) (k:Sz S q):Wz S q:=⟨h,k.1⟩
theorem Wz.pow {S:Nat} {G:Rat} (h:Wz S G) (n:Nat):Wz (1+n * S) (G ^ n):=by
 induction n with
 | zero=>rw [Rat.pow_zero];exact Wz.one.mono (by omega)
 | succ n ih=>rw [Rat.pow_succ,Nat.succ_mul];exact (ih.mul h).mono (by omega)
theorem hc_wz {p:List Rat} {a w F G:Rat} {U V:Nat} (ha:Wz V (a * G)) (hw:Wz V (w * G)) (hp:∀ j k,j < p.length→Wz U (p.getD k 0 * F * G ^ j)) (j:Nat) (hj:j≤p.length):∀ k,Wz (U+j * (V+1)) (hc p a w F G j k):=by
 induction j with
 | zero=>intro k;rw [hc_zero];exact Wz.zero _
 | succ j ih =>
  have ih:=ih (by omega)
  have hU:U≤U+j * (V+1):=by omega
  intro k
  rcases Nat.eq_zero_or_pos k with rfl | h0
  ·rw [hc_first,Nat.succ_mul]
   exact (((ih 0).mul ha).add ((hp j _ (by omega)).mono (by omega))).mono (by omega)
  ·obtain ⟨k,rfl⟩:∃ i,k=i+1:=⟨k - 1,by omega⟩
   rw [hc_next,Nat.succ_mul]
   exact (((ih (k+1)).mul ha).add ((ih k).mul hw)).mono (by omega)
theorem fc_lt:∀ n:Nat,n≤8→fc n < W32:=by decide
theorem fc_wz {n:Nat} (h:n≤8):Wz 1 ((fc n:Nat):Rat):=Wz.int (z:=(fc n:Int)) (by rw [Int.natAbs_natCast,Nat.pow_one];exact fc_lt n h)
theorem bsf_wz {n S:Nat} {c:Nat→Rat} (hn:n≤8) (h:∀ k,Wz S (c k)) (m:Nat):∀ i,i≤n→Wz (S+2+m) (bsf m (bsv n c) i):=by
 induction m with
 | zero =>
  intro i hi
  rw [bsf_zero]
  unfold bsv
  exact ((h i).mul ((fc_wz (by omega)).mul (fc_wz (by omega)))).mono (by omega)
 | succ m ih =>
  intro i hi
  by_cases hm:i≤m
  ·rw [bsf_keep hm];exact (ih i hi).mono (by omega)
  ·rw [bsf_step (by omega)];exact ((ih i hi).add (ih (i - 1) (by omega))).mono (by omega)
def suf (n:Nat) (c:Nat→Rat) (j i:Nat):Rat:=(2:Rat) ^ (min j (n - i)) * csn (min j (n - i)) hf c i
theorem suf_zero (n:Nat) (c:Nat→Rat) (i:Nat):suf n c 0 i=c i:=by
 unfold suf
 rw [Nat.zero_min,Rat.pow_zero]
 show 1 * c i=c i
 grind
theorem suf_keep {n j i:Nat} {c:Nat→Rat} (h:n - j≤i):suf n c (j+1) i=suf n c j i:=by
 unfold suf
 rw [Nat.min_eq_right (show n - i≤j+1 by omega),Nat.min_eq_right (show n - i≤j by omega)]
theorem suf_step {n j i:Nat} {c:Nat→Rat} (h:i < n - j):suf n c (j+1) i=suf n c j i+suf n c j (i+1):=by
 unfold suf
 rw [Nat.min_eq_left (show j+1≤n - i by omega),Nat.min_eq_left (show j≤n - i by omega),Nat.min_eq_left (show j≤n - (i+1) by omega),csn_succ,Rat.pow_succ]
 unfold cs
 have:=hf2
 grind
theorem pow_addR (a b:Nat):(2:Rat) ^ a * (2:Rat) ^ b=(2:Rat) ^ (a+b):=by
 induction b with
 | zero=>rw [Rat.pow_zero,Nat.add_zero];grind
 | succ b ih=>rw [← Nat.add_assoc,Rat.pow_succ,Rat.pow_succ,← ih];grind
theorem suf_left {n j:Nat} {c:Nat→Rat} (h:j≤n):suf n c j 0 * (2:Rat) ^ (n - j)=(2:Rat) ^ n * lfb c j:=by
 unfold suf lfb
 rw [Nat.min_eq_left (show j≤n - 0 by omega),show (2:Rat) ^ n=(2:Rat) ^ (j+(n - j)) by rw [show j+(n - j)=n by omega],← pow_addR]
 grind
theorem suf_right {n j:Nat} {c:Nat→Rat} (h:j≤n):suf n c j (n - j) * (2:Rat) ^ (n - j)=(2:Rat) ^ n * rtb n c (n - j):=by
 unfold suf rtb
 rw [show n - (n - j)=j by omega,Nat.min_self,show (2:Rat) ^ n=(2:Rat) ^ (j+(n - j)) by rw [show j+(n - j)=n by omega],← pow_addR]
 grind
theorem two_wz {k:Nat} (h:k≤8):Wz 1 ((2:Rat) ^ k):=by
 have:∀ k:Nat,k≤8→((2:Rat) ^ k).den=1∧((2:Rat) ^ k).num.natAbs < W32:=by decide +kernel
 exact ⟨(this k h).1,by rw [Nat.pow_one];exact (this k h).2⟩
theorem suf_wz {n S:Nat} {c:Nat→Rat} (h:∀ k,k≤n→Wz S (c k)) (j:Nat):∀ i,i≤n→Wz (S+j) (suf n c j i):=by
 induction j with
 | zero=>intro i hi;rw [suf_zero];exact h i hi
 | succ j ih =>
  intro i hi
  by_cases hj:n - j≤i
  ·rw [suf_keep hj];exact (ih i hi).mono (by omega)
  ·rw [suf_step (by omega)];exact ((ih i hi).add (ih (i+1) (by omega))).mono (by omega)
def hlL (l:List Rat):List Rat:=row l.length (fun j=>(2:Rat) ^ (l.length - 1) * lfb (fun i=>l.getD i 0) j)
def hlR (l:List Rat):List Rat:=row l.length (fun j=>(2:Rat) ^ (l.length - 1) * rtb (l.length - 1) (fun i=>l.getD i 0) j)
theorem hl_wz {l:List Rat} {S:Nat} (hl:l.length≤9) (h:∀ x ∈ l,Wz S x):(∀ x ∈ hlL l,Wz (S+9) x)∧(∀ x ∈ hlR l,Wz (S+9) x):=by
 have hc:∀ k,k≤l.length - 1→Wz S (l.getD k 0):=fun k hk=>by
  by_cases h2:k < l.length
  ·rw [List.getD_eq_getElem?_getD,List.getElem?_eq_getElem h2];exact h _ (List.getElem_mem h2)
  ·rw [pd_over (by omega)];exact Wz.zero _
 have h1:=suf_wz (c:=fun i=>l.getD i 0) hc
 constructor
 ·intro x hx
  obtain ⟨j,hj,rfl⟩:=List.mem_map.1 hx
  have hj:=List.mem_range.1 hj
  rw [← suf_left (by omega)]
  exact ((h1 j 0 (by omega)).mul (two_wz (k:=l.length - 1 - j) (by omega))).mono (by omega)
 ·intro x hx
  obtain ⟨i,hi,rfl⟩:=List.mem_map.1 hx
  have hi:=List.mem_range.1 hi
  have e:=suf_right (n:=l.length - 1) (j:=l.length - 1 - i) (c:=fun i=>l.getD i 0) (by omega)
  rw [show l.length - 1 - (l.length - 1 - i)=i by omega] at e
  rw [← e]
  exact ((h1 (l.length - 1 - i) i (by omega)).mul (two_wz (k:=i) (by omega))).mono (by omega)
def posL (l:List Rat):Bool:=l.all (fun x=>decide (0 < x))
def mdV (a b:Rat):Rat:=(a+b) * (((1:Int):Rat) / ((2:Int):Rat))
def cvV:Nat→Rat→Rat→List Rat→Option (List Rat)
 | 0,lo,hi,l=>if posL l then some [loV lo hi,hiV lo hi] else none
 | d+1,lo,hi,l=>if posL l then some [loV lo hi,hiV lo hi] else
  if posL [l.getD 0 0,l.getD (l.length - 1) 0] then
   match cvV d lo (mdV lo hi) (hlL l) with
   | none=>none
   | some x=>match cvV d (mdV lo hi) hi (hlR l) with
    | none=>none
    | some y=>some (x ++ y)
  else none
end Go.Proofs.YtpieblkklbilgaaGreat
