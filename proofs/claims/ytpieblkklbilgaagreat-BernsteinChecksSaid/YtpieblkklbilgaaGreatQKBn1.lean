/- Bernstein coefficients and the algorithm of de Casteljau. Plain facts. -/
import Derived.Test.YtpieblkklbilgaaGreatQKSg
set_option linter.unusedVariables false
namespace Go.Proofs.YtpieblkklbilgaaGreat
open Go.RowKit Go.Front Go.Num Stab
def row (n:Nat) (f:Nat→Rat):List Rat:=(List.range n).map f
theorem row_len (n:Nat) (f:Nat→Rat):(row n f).length=n:=by simp [row]
theorem row_at {n i:Nat} (f:Nat→Rat) (h:i < n):(row n f).getD i 0=f i:=by unfold row;rw [pd_range,if_pos h]
theorem row_congr {n:Nat} {f g:Nat→Rat} (h:∀ i,i < n→f i=g i):row n f=row n g:=List.map_congr_left (fun i hi=>h i (List.mem_range.1 hi))
theorem row_set (n k:Nat) (f:Nat→Rat) (v:Rat):(row n f).set k v=row n (fun i=>if i=k then v else f i):=by
 apply List.ext_getElem
 ·rw [List.length_set,row_len,row_len]
 ·intro i h1 h2
  simp only [row,List.getElem_set,List.getElem_map,List.getElem_range]
  by_cases h:k=i
  ·rw [if_pos h,if_pos h.symm]
  ·rw [if_neg h,if_neg (fun e=>h e.symm)]
theorem row_zero (n:Nat):row n (fun _=>0)=List.replicate n 0:=by
 apply List.ext_getElem
 ·simp [row]
 ·intro i h1 h2
  simp [row]
theorem row_eta {n:Nat} {l:List Rat} (h:l.length=n):row n (fun i=>l.getD i 0)=l:=by
 apply List.ext_getElem
 ·rw [row_len,h]
 ·intro i h1 h2
  simp only [row,List.getElem_map,List.getElem_range]
  rw [List.getD_eq_getElem?_getD,List.getElem?_eq_getElem h2]
  rfl
def cs (t:Rat) (b:Nat→Rat) (i:Nat):Rat:=(1 - t) * b i+t * b (i+1)
def csn:Nat→Rat→(Nat→Rat)→Nat→Rat
 | 0,_,b=>b
 | n+1,t,b=>csn n t (cs t b)
theorem csn_lin (n:Nat) (s x y:Rat) (a b:Nat→Rat):csn n s (fun i=>x * a i+y * b i)=fun i=>x * csn n s a i+y * csn n s b i:=by
 induction n generalizing a b with
 | zero=>rfl
 | succ n ih =>
  show csn n s (cs s _)=_
  rw [show cs s (fun i=>x * a i+y * b i)=fun i=>x * cs s a i+y * cs s b i from funext fun i=>by unfold cs;grind,ih]
  rfl
theorem csn_cs (n:Nat) (s t:Rat) (b:Nat→Rat):csn n s (cs t b)=cs t (csn n s b):=by
 rw [show cs t b=fun i=>(1 - t) * b i+t * (fun i=>b (i+1)) i from rfl,csn_lin]
 funext i
 unfold cs
 congr 2
 induction n generalizing b with
 | zero=>rfl
 | succ n ih =>
  show csn n s (cs s (fun i=>b (i+1))) i=csn n s (cs s b) (i+1)
  exact ih (cs s b)
theorem csn_succ (n:Nat) (s:Rat) (b:Nat→Rat):csn (n+1) s b=cs s (csn n s b):=csn_cs n s s b
theorem csn_sh (n:Nat) (s:Rat) (b:Nat→Rat) (i:Nat):csn n s (fun i=>b (i+1)) i=csn n s b (i+1):=by
 induction n generalizing b with
 | zero=>rfl
 | succ n ih=>exact ih (cs s b)
theorem csn_congr (n:Nat) (s:Rat) {a b:Nat→Rat} {i:Nat} (h:∀ j,i≤j→j≤i+n→a j=b j):csn n s a i=csn n s b i:=by
 induction n generalizing a b with
 | zero=>exact h i (Nat.le_refl _) (Nat.le_refl _)
 | succ n ih =>
  refine ih (fun j h1 h2=>?_)
  unfold cs
  rw [h j h1 (by omega),h (j+1) (by omega) (by omega)]
def vl (n:Nat) (b:Nat→Rat) (t:Rat):Rat:=csn n t b 0
theorem vl_congr {n:Nat} {a b:Nat→Rat} (h:∀ j,j≤n→a j=b j) (t:Rat):vl n a t=vl n b t:=csn_congr n t (fun j _ h2=>h j (by omega))
def hf:Rat:=((1:Int):Rat) / ((2:Int):Rat)
theorem hf2:hf+hf=1:=by decide +kernel
def lfb (b:Nat→Rat) (j:Nat):Rat:=csn j hf b 0
def rtb (n:Nat) (b:Nat→Rat) (i:Nat):Rat:=csn (n - i) hf b i
theorem cs_lfb (t:Rat) (b:Nat→Rat):cs t (lfb b)=lfb (cs (t * hf) b):=by
 funext j
 unfold lfb
 rw [show cs (t * hf) b=fun i=>(1 - t) * b i+t * cs hf b i from funext fun i=>by unfold cs;grind,csn_lin]
 show (1 - t) * csn j hf b 0+t * csn (j+1) hf b 0=_
 rfl
theorem csn_lfb (n:Nat) (t:Rat) (b:Nat→Rat):csn n t (lfb b)=lfb (csn n (t * hf) b):=by
 induction n generalizing b with
 | zero=>rfl
 | succ n ih =>
  show csn n t (cs t (lfb b))=lfb (csn n (t * hf) (cs (t * hf) b))
  rw [cs_lfb,ih]
theorem vl_lfb (n:Nat) (b:Nat→Rat) (t:Rat):vl n (lfb b) t=vl n b (t * hf):=by
 unfold vl
 rw [csn_lfb]
 rfl
theorem vl_rtb (n:Nat) (b:Nat→Rat) (t:Rat):vl n (rtb n b) t=vl n b (hf+t * hf):=by
 induction n generalizing b with
 | zero=>rfl
 | succ n ih =>
  show vl n (cs t (rtb (n+1) b)) t=vl n (cs (hf+t * hf) b) (hf+t * hf)
  rw [← ih]
  refine vl_congr (fun i hi=>?_) t
  unfold cs rtb
  rw [show n+1 - (i+1)=n - i by omega,show n+1 - i=(n - i)+1 by omega]
  show (1 - t) * csn (n - i) hf (cs hf b) i+t * csn (n - i) hf b (i+1)=_
  rw [← csn_sh]
  have e:(fun i=>(1 - (hf+t * hf)) * b i+(hf+t * hf) * b (i+1))=fun i=>(1 - t) * cs hf b i+t * (fun i=>b (i+1)) i:=by
   funext i
   have:=hf2
   unfold cs
   grind
  rw [e,csn_lin]
theorem csn_le {n:Nat} {t M:Rat} {b:Nat→Rat} (h0:0≤t) (h1:t≤1) {i:Nat} (h:∀ j,i≤j→j≤i+n→b j≤M):csn n t b i≤M:=by
 induction n generalizing b with
 | zero=>exact h i (Nat.le_refl _) (Nat.le_refl _)
 | succ n ih =>
  refine ih (fun j h2 h3=>?_)
  have e1:=h j h2 (by omega)
  have e2:=h (j+1) (by omega) (by omega)
  have e3:=Rat.mul_le_mul_of_nonneg_left e1 (show (0:Rat)≤1 - t by grind)
  have e4:=Rat.mul_le_mul_of_nonneg_left e2 h0
  unfold cs
  grind
theorem csn_ge {n:Nat} {t M:Rat} {b:Nat→Rat} (h0:0≤t) (h1:t≤1) {i:Nat} (h:∀ j,i≤j→j≤i+n→M≤b j):M≤csn n t b i:=by
 induction n generalizing b with
 | zero=>exact h i (Nat.le_refl _) (Nat.le_refl _)
 | succ n ih =>
  refine ih (fun j h2 h3=>?_)
  have e1:=h j h2 (by omega)
  have e2:=h (j+1) (by omega) (by omega)
  have e3:=Rat.mul_le_mul_of_nonneg_left e1 (show (0:Rat)≤1 - t by grind)
  have e4:=Rat.mul_le_mul_of_nonneg_left e2 h0
  unfold cs
  grind
theorem vl_le {n:Nat} {t M:Rat} {b:Nat→Rat} (h0:0≤t) (h1:t≤1) (h:∀ j,j≤n→b j≤M):vl n b t≤M:=csn_le h0 h1 (fun j _ h2=>h j (by omega))
theorem vl_ge {n:Nat} {t M:Rat} {b:Nat→Rat} (h0:0≤t) (h1:t≤1) (h:∀ j,j≤n→M≤b j):M≤vl n b t:=csn_ge h0 h1 (fun j _ h2=>h j (by omega))
def up (c:Rat) (u:Nat→Rat) (k:Nat):Rat:=u k+c * u (k+1)
def upn:Nat→Rat→(Nat→Rat)→Nat→Rat
 | 0,_,u=>u
 | n+1,c,u=>upn n c (up c u)
def bt (u:Nat→Rat) (i:Nat):Rat:=upn i 1 u 0
theorem upn_lin (n:Nat) (s x y:Rat) (a b:Nat→Rat):upn n s (fun i=>x * a i+y * b i)=fun i=>x * upn n s a i+y * upn n s b i:=by
 induction n generalizing a b with
 | zero=>rfl
 | succ n ih =>
  show upn n s (up s _)=_
  rw [show up s (fun i=>x * a i+y * b i)=fun i=>x * up s a i+y * up s b i from funext fun i=>by unfold up;grind,ih]
  rfl
theorem cs_bt (t:Rat) (u:Nat→Rat):cs t (bt u)=bt (up t u):=by
 funext i
 unfold bt
 rw [show up t u=fun i=>(1 - t) * u i+t * up 1 u i from funext fun i=>by unfold up;grind,upn_lin]
 rfl
theorem vl_bt (n:Nat) (u:Nat→Rat) (t:Rat):vl n (bt u) t=upn n t u 0:=by
 unfold vl
 have:∀ u,csn n t (bt u)=bt (upn n t u):=by
  induction n with
  | zero=>intro u;rfl
  | succ n ih =>
   intro u
   show csn n t (cs t (bt u))=bt (upn n t (up t u))
   rw [cs_bt,ih]
 rw [this]
 rfl
def ch:Nat→Nat→Nat
 | _,0=>1
 | 0,_+1=>0
 | n+1,k+1=>ch n k+ch n (k+1)
theorem ch_zero (n:Nat):ch n 0=1:=by cases n <;> rfl
theorem ch_over {n k:Nat} (h:n < k):ch n k=0:=by
 induction n generalizing k with
 | zero =>
  obtain ⟨k,rfl⟩:∃ j,k=j+1:=⟨k - 1,by omega⟩
  rfl
 | succ n ih =>
  obtain ⟨k,rfl⟩:∃ j,k=j+1:=⟨k - 1,by omega⟩
  show ch n k+ch n (k+1)=0
  rw [ih (by omega),ih (by omega)]
theorem ch_pos {n k:Nat} (h:k≤n):0 < ch n k:=by
 induction n generalizing k with
 | zero =>
  obtain rfl:k=0:=by omega
  decide
 | succ n ih =>
  rcases Nat.eq_zero_or_pos k with rfl | h0
  ·rw [ch_zero];decide
  ·obtain ⟨k,rfl⟩:∃ j,k=j+1:=⟨k - 1,by omega⟩
   show 0 < ch n k+ch n (k+1)
   have:=ih (k:=k) (by omega)
   omega
theorem upn_sm (n:Nat) (t:Rat) (u:Nat→Rat) (j:Nat):upn n t u j=sm (n+1) (fun k=>(ch n k:Rat) * t ^ k * u (j+k)):=by
 induction n generalizing u with
 | zero =>
  show u j=sm 0 _+((ch 0 0:Nat):Rat) * t ^ 0 * u (j+0)
  rw [show ch 0 0=1 from rfl,Rat.pow_zero]
  show u j=0+((1:Nat):Rat) * 1 * u (j+0)
  rw [Nat.add_zero]
  grind
 | succ n ih =>
  show upn n t (up t u) j=_
  rw [ih]
  have e1:sm (n+1) (fun k=>(ch n k:Rat) * t ^ k * up t u (j+k))=sm (n+1) (fun k=>(ch n k:Rat) * t ^ k * u (j+k))+sm (n+1) (fun k=>(ch n k:Rat) * t ^ (k+1) * u (j+(k+1))):=by
   rw [← sm_add]
   refine sm_congr (fun k _=>?_)
   unfold up
   rw [Rat.pow_succ,Nat.add_assoc]
   grind
  have e2:sm (n+1) (fun k=>(ch n k:Rat) * t ^ k * u (j+k))=sm (n+2) (fun k=>(ch n k:Rat) * t ^ k * u (j+k)):=by
   show _=sm (n+1) _+(ch n (n+1):Rat) * t ^ (n+1) * u (j+(n+1))
   rw [ch_over (Nat.lt_succ_self n)]
   have:((0:Nat):Rat)=0:=rfl
   rw [this]
   grind
  rw [e1,e2,sm_succ' (n+1),sm_succ' (n+1),ch_zero,ch_zero]
  have e3:sm (n+1) (fun i=>(ch (n+1) (i+1):Rat) * t ^ (i+1) * u (j+(i+1)))=sm (n+1) (fun i=>(ch n (i+1):Rat) * t ^ (i+1) * u (j+(i+1)))+sm (n+1) (fun k=>(ch n k:Rat) * t ^ (k+1) * u (j+(k+1))):=by
   rw [← sm_add]
   refine sm_congr (fun k _=>?_)
   show ((ch n k+ch n (k+1):Nat):Rat) * _ * _=_
   rw [Rat.natCast_add]
   grind
  rw [e3]
  grind
theorem vl_sm (n:Nat) (u:Nat→Rat) (t:Rat):vl n (bt u) t=evV (row (n+1) (fun k=>(ch n k:Rat) * u k)) t:=by
 rw [vl_bt,upn_sm,ev_sm,row_len]
 refine sm_congr (fun k hk=>?_)
 rw [row_at _ hk,Nat.zero_add]
 grind
theorem bt_sm (u:Nat→Rat) (i:Nat):bt u i=sm (i+1) (fun k=>(ch i k:Rat) * u k):=by
 unfold bt
 rw [upn_sm]
 refine sm_congr (fun k _=>?_)
 rw [show (1:Rat) ^ k=1 by induction k with
  | zero=>rfl
  | succ k ih=>rw [Rat.pow_succ,ih (by omega),Rat.one_mul],Nat.zero_add]
 grind
def df (b:Nat→Rat) (i:Nat):Rat:=b (i+1) - b i
def dfn:Nat→(Nat→Rat)→Nat→Rat
 | 0,b=>b
 | n+1,b=>df (dfn n b)
theorem bt_df (b:Nat→Rat) (i:Nat):bt (fun k=>dfn k b 0) i=b i:=by
 have key:∀ (n j:Nat),upn n 1 (fun k=>dfn k b j)=fun k=>dfn k b (j+n):=by
  intro n
  induction n with
  | zero=>intro j;rfl
  | succ n ih =>
   intro j
   show upn n 1 (up 1 (fun k=>dfn k b j))=_
   rw [show up 1 (fun k=>dfn k b j)=fun k=>dfn k b (j+1) from funext fun k=>by
    unfold up
    show dfn k b j+1 * (dfn k b (j+1) - dfn k b j)=_
    grind,ih]
   funext k
   rw [show j+1+n=j+(n+1) by omega]
 unfold bt
 rw [key i 0,Nat.zero_add]
 rfl
theorem bt_congr {u v:Nat→Rat} {i:Nat} (h:∀ k,k≤i→u k=v k):bt u i=bt v i:=by
 rw [bt_sm,bt_sm]
 exact sm_congr (fun k hk=>by rw [h k (by omega)])
theorem natne {n:Nat} (h:0 < n):(n:Rat) ≠ 0:=fun e=>by
 have:n=0:=by exact_mod_cast e
 omega
theorem vl_inj {n:Nat} {a b:Nat→Rat} (h:∀ t,vl n a t=vl n b t):∀ i,i≤n→a i=b i:=by
 intro i hi
 have e:∀ k,k≤n→dfn k a 0=dfn k b 0:=by
  have h2:∀ t,evV (row (n+1) (fun k=>(ch n k:Rat) * dfn k a 0)) t=evV (row (n+1) (fun k=>(ch n k:Rat) * dfn k b 0)) t:=fun t=>by
   rw [← vl_sm,← vl_sm,show bt (fun k=>dfn k a 0)=a from funext (bt_df a),show bt (fun k=>dfn k b 0)=b from funext (bt_df b)]
   exact h t
  intro k hk
  have h3:=Sg.ev_inj h2 k
  unfold seq at h3
  rw [row_at _ (by omega),row_at _ (by omega)] at h3
  have h4:=natne (ch_pos hk)
  have h5:=Rat.mul_inv_cancel _ h4
  have h6:=congrArg (fun x=>((ch n k:Nat):Rat)⁻¹ * x) h3
  rw [← Rat.mul_assoc,← Rat.mul_assoc,Rat.mul_comm _ (ch n k:Rat),h5,Rat.one_mul,Rat.one_mul] at h6
  exact h6
 rw [← bt_df a i,← bt_df b i]
 exact bt_congr (fun k hk=>e k (by omega))
end Go.Proofs.YtpieblkklbilgaaGreat
