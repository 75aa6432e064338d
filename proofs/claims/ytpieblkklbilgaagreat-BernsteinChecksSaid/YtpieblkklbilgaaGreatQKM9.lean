/- Stab, StbP, Stb1, Stb2, Stb3 -/
import Derived.Test.YtpieblkklbilgaaGreatQKM8
import Derived.Test.YtpieblkklbilgaaGreatQKM7
import Derived.Test.YtpieblkklbilgaaGreatQKM1
set_option linter.unusedVariables false
namespace Go.Stab
def sm:Nat→(Nat→Rat)→Rat
 | 0,_=>0
 | n+1,f=>sm n f+f n
theorem sm_congr {n:Nat} {f g:Nat→Rat} (h:∀ i,i < n→f i=g i):sm n f=sm n g:=by
 induction n with
 | zero=>rfl
 | succ n ih=>simp only [sm];rw [ih (fun i hi=>h i (by omega)),h n (by omega)]
theorem sm_add (n:Nat) (f g:Nat→Rat):sm n (fun i=>f i+g i)=sm n f+sm n g:=by
 induction n with
 | zero=>simp only [sm];grind
 | succ n ih=>simp only [sm];rw [ih];grind
theorem sm_mul (n:Nat) (c:Rat) (f:Nat→Rat):sm n (fun i=>c * f i)=c * sm n f:=by
 induction n with
 | zero=>simp [sm]
 | succ n ih=>simp only [sm];rw [ih];grind
theorem sm_zero (n:Nat):sm n (fun _=>0)=0:=by
 induction n with
 | zero=>rfl
 | succ n ih=>simp only [sm];rw [ih];grind
theorem sm_le {n:Nat} {f g:Nat→Rat} (h:∀ i,i < n→f i≤g i):sm n f≤sm n g:=by
 induction n with
 | zero=>exact Rat.le_refl
 | succ n ih =>
  simp only [sm]
  have h1:=ih (fun i hi=>h i (by omega))
  have h2:=h n (by omega)
  grind
theorem sm_nonneg {n:Nat} {f:Nat→Rat} (h:∀ i,i < n→0≤f i):0≤sm n f:=by
 have:=sm_le (f:=fun _=>0) (g:=f) h
 rwa [sm_zero] at this
theorem sm_succ' (n:Nat) (f:Nat→Rat):sm (n+1) f=f 0+sm n (fun i=>f (i+1)):=by
 induction n with
 | zero=>simp [sm];grind
 | succ n ih=>rw [sm,ih];simp only [sm];grind
theorem sm_split (n m:Nat) (f:Nat→Rat):sm (n+m) f=sm n f+sm m (fun i=>f (n+i)):=by
 induction m with
 | zero=>simp [sm];grind
 | succ m ih=>rw [← Nat.add_assoc];simp only [sm];rw [ih];grind
theorem sm_rev (n:Nat) (f:Nat→Rat):sm n f=sm n (fun i=>f (n - 1 - i)):=by
 induction n with
 | zero=>rfl
 | succ n ih =>
  rw [sm_succ' n (fun i=>f (n+1 - 1 - i))]
  simp only [sm]
  rw [ih]
  have:sm n (fun i=>f (n+1 - 1 - (i+1)))=sm n (fun i=>f (n - 1 - i)):=sm_congr (fun i hi=>by congr 1;omega)
  rw [this]
  simp only [Nat.add_sub_cancel,Nat.sub_zero]
  grind
theorem sm_comm (n m:Nat) (f:Nat→Nat→Rat):sm n (fun i=>sm m (fun j=>f i j))=sm m (fun j=>sm n (fun i=>f i j)):=by
 induction n with
 | zero=>simp only [sm];rw [sm_zero]
 | succ n ih=>simp only [sm];rw [ih,← sm_add]
def sh (u:Nat→Rat):Nat→Rat
 | 0=>0
 | n+1=>u n
def ap:List Rat→(Nat→Rat)→Nat→Rat
 | [],_=>fun _=>0
 | a :: l,u=>fun n=>a * u n+sh (ap l u) n
def E (n:Nat) (u:Nat→Rat):Rat:=sm n (fun i=>u i * u i)
theorem sq_nonneg (x:Rat):0≤x * x:=by
 rcases Rat.le_total (a:=0) (b:=x) with h | h
 ·exact Rat.mul_nonneg h h
 ·have:=Rat.mul_nonneg (a:=-x) (b:=-x) (by grind) (by grind)
  grind
theorem E_nonneg (n:Nat) (u:Nat→Rat):0≤E n u:=sm_nonneg (fun _ _=>sq_nonneg _)
theorem E_sh (n:Nat) (u:Nat→Rat):E n (sh u)≤E n u:=by
 unfold E
 cases n with
 | zero=>exact Rat.le_refl
 | succ n =>
  rw [sm_succ']
  simp only [sh,sm]
  have:=sq_nonneg (u n)
  grind
theorem sh_add (u v:Nat→Rat):sh (fun n=>u n+v n)=fun n=>sh u n+sh v n:=by
 funext n
 cases n
 ·simp only [sh];grind
 ·rfl
theorem sh_mul (c:Rat) (u:Nat→Rat):sh (fun n=>c * u n)=fun n=>c * sh u n:=by
 funext n;cases n <;> simp [sh]
theorem sh_zero:sh (fun _=>0)=fun _=>0:=by
 funext n;cases n <;> rfl
def ladd (a b:List Rat):List Rat:=List.zipWith (·+·) a b
def lmul (c:Rat) (a:List Rat):List Rat:=a.map (c * ·)
theorem ap_ladd {a b:List Rat} (h:a.length=b.length) (u:Nat→Rat):ap (ladd a b) u=fun n=>ap a u n+ap b u n:=by
 induction a generalizing b with
 | nil =>
  cases b with
  | nil=>funext n;simp only [ladd,ap,List.zipWith_nil_left];grind
  | cons x b=>simp at h
 | cons x a ih =>
  cases b with
  | nil=>simp at h
  | cons y b =>
   have h':=ih (b:=b) (by simpa using h)
   funext n
   simp only [ladd,List.zipWith_cons_cons,ap] at *
   rw [h',sh_add]
   grind
theorem ap_lmul (c:Rat) (a:List Rat) (u:Nat→Rat):ap (lmul c a) u=fun n=>c * ap a u n:=by
 induction a with
 | nil=>funext n;simp [lmul,ap]
 | cons x a ih =>
  funext n
  simp only [lmul,List.map_cons,ap] at *
  rw [ih,sh_mul]
  grind
theorem ap_snoc (a:List Rat) (u:Nat→Rat):ap (a ++ [0]) u=ap a u:=by
 induction a with
 | nil=>funext n;simp only [List.nil_append,ap,sh_zero];grind
 | cons x a ih=>funext n;simp only [List.cons_append,ap];rw [ih]
theorem ap_cons0 (a:List Rat) (u:Nat→Rat):ap (0 :: a) u=sh (ap a u):=by
 funext n;simp only [ap];grind
def up (c:List Rat) (k:Rat):List Rat:=ladd (c ++ [0]) (lmul k (0 :: c.reverse))
theorem lmul_reverse (k:Rat) (a:List Rat):(lmul k a).reverse=lmul k a.reverse:=by simp [lmul]
theorem ladd_reverse {a b:List Rat} (h:a.length=b.length):(ladd a b).reverse=ladd a.reverse b.reverse:=by
 unfold ladd;exact List.reverse_zipWith h
theorem up_ap (c:List Rat) (k:Rat) (u:Nat→Rat):ap (up c k) u=fun n=>ap c u n+k * sh (ap c.reverse u) n:=by
 unfold up
 rw [ap_ladd (by simp [lmul]),ap_lmul,ap_snoc,ap_cons0]
theorem up_rev (c:List Rat) (k:Rat) (u:Nat→Rat):ap (up c k).reverse u=fun n=>sh (ap c.reverse u) n+k * ap c u n:=by
 unfold up
 rw [ladd_reverse (by simp [lmul]),lmul_reverse,ap_ladd (by simp [lmul]),ap_lmul,List.reverse_append,@List.reverse_cons _ 0 c.reverse,List.reverse_reverse,ap_snoc]
 simp only [List.reverse_cons,List.reverse_nil,List.nil_append,List.singleton_append]
 rw [ap_cons0]
def Inv (c:List Rat):Prop:=∃ C:Rat,0≤C∧∀ u N,E N u≤C * E N (ap c u)
def Con (c:List Rat):Prop:=∀ u N,E N (ap c.reverse u)≤E N (ap c u)
theorem E_lin (N:Nat) (f g:Nat→Rat) (a b:Rat):E N (fun n=>a * f n+b * g n)=a * a * E N f+2 * a * b * sm N (fun n=>f n * g n)+b * b * E N g:=by
 unfold E
 rw [← sm_mul,← sm_mul,← sm_mul,← sm_add,← sm_add]
 exact sm_congr (fun i _=>by grind)
theorem up_E (c:List Rat) (k:Rat) (u:Nat→Rat) (N:Nat):E N (ap (up c k) u) - E N (ap (up c k).reverse u)=(1 - k * k) * (E N (ap c u) - E N (sh (ap c.reverse u))):=by
 have h1:=E_lin N (ap c u) (sh (ap c.reverse u)) 1 k
 have h2:=E_lin N (ap c u) (sh (ap c.reverse u)) k 1
 have e1:(fun n=>1 * ap c u n+k * sh (ap c.reverse u) n)=ap (up c k) u:=by rw [up_ap];funext n;grind
 have e2:(fun n=>k * ap c u n+1 * sh (ap c.reverse u) n)=ap (up c k).reverse u:=by rw [up_rev];funext n;grind
 rw [e1] at h1
 rw [e2] at h2
 rw [h1,h2]
 grind
theorem weigh {P Q R:Nat→Rat} {k K:Rat} {N:Nat} (h:∀ n,P n=Q n+k * R n) (hE:E N R≤E N P) (h0:0≤K) (h1:K < 1) (hk:k=K ∨ k=-K):(1 - K) * (1 - K) * E N P≤E N Q:=by
 have hp:∀ n,(1 - K) * (P n * P n)≤Q n * Q n+K * (1 - K) * (R n * R n):=by
  intro n
  rw [h n]
  rcases hk with hk | hk <;> subst hk
  ·have:=Rat.mul_nonneg h0 (sq_nonneg (Q n - (1 - k) * R n))
   grind
  ·have:=Rat.mul_nonneg h0 (sq_nonneg (Q n+(1 - K) * R n))
   grind
 have hs:(1 - K) * E N P≤E N Q+K * (1 - K) * E N R:=by
  unfold E
  rw [← sm_mul,← sm_mul,← sm_add]
  exact sm_le (fun i _=>hp i)
 have h2:K * (1 - K) * E N R≤K * (1 - K) * E N P:=Rat.mul_le_mul_of_nonneg_left hE (Rat.mul_nonneg h0 (by grind))
 grind
theorem abs_cases (k:Rat) (h1:-1 < k) (h2:k < 1):∃ K:Rat,0≤K∧K < 1∧(k=K ∨ k=-K):=by
 rcases Rat.le_total (a:=0) (b:=k) with h | h
 ·exact ⟨k,h,h2,Or.inl rfl⟩
 ·exact ⟨-k,by grind,by grind,Or.inr (by grind)⟩
theorem div_le_of {C e x y:Rat} (he:0 < e) (hC:0≤C) (h:e * x≤y):C * x≤C / e * y:=by
 have h1:0≤C / e:=by rw [Rat.div_def];exact Rat.mul_nonneg hC (Rat.le_of_lt (Rat.inv_pos.2 he))
 have h2:=Rat.mul_le_mul_of_nonneg_left h h1
 have h3:C / e * e=C:=Rat.div_mul_cancel (by grind)
 rw [← Rat.mul_assoc,h3] at h2
 exact h2
theorem div_nonneg {C e:Rat} (hC:0≤C) (he:0 < e):0≤C / e:=by
 rw [Rat.div_def];exact Rat.mul_nonneg hC (Rat.le_of_lt (Rat.inv_pos.2 he))
theorem sq_pos {K:Rat} (h:K < 1):0 < (1 - K) * (1 - K):=Rat.mul_pos (by grind) (by grind)
theorem Con.up {c:List Rat} (h:Con c) {k:Rat} (h1:-1 < k) (h2:k < 1):Con (up c k):=by
 intro u N
 have e:=up_E c k u N
 have e1:=Rat.le_trans (E_sh N (ap c.reverse u)) (h u N)
 have e2:0≤1 - k * k:=by
  have:=Rat.mul_nonneg (a:=1 - k) (b:=1+k) (by grind) (by grind)
  grind
 have e3:=Rat.mul_nonneg e2 (b:=E N (ap c u) - E N (sh (ap c.reverse u))) (by grind)
 grind
theorem Inv.up {c:List Rat} (hi:Inv c) (h:Con c) {k:Rat} (h1:-1 < k) (h2:k < 1):Inv (up c k):=by
 obtain ⟨C,hC,hI⟩:=hi
 obtain ⟨K,hK0,hK1,hk⟩:=abs_cases k h1 h2
 refine ⟨C / ((1 - K) * (1 - K)),div_nonneg hC (sq_pos hK1),fun u N=>?_⟩
 have hw:=weigh (P:=ap c u) (Q:=ap (Stab.up c k) u) (R:=fun n=>-1 * sh (ap c.reverse u) n) (k:=k) (K:=K) (N:=N)
  (fun n=>by rw [up_ap];grind) (by
   have e:=E_lin N (sh (ap c.reverse u)) (fun _=>0) (-1) 0
   have e':(fun n=>-1 * sh (ap c.reverse u) n+0 * (fun _=>(0:Rat)) n)=fun n=>-1 * sh (ap c.reverse u) n:=by funext n;grind
   rw [e'] at e
   have:=Rat.le_trans (E_sh N (ap c.reverse u)) (h u N)
   grind) hK0 hK1 hk
 exact Rat.le_trans (hI u N) (div_le_of (sq_pos hK1) hC hw)
theorem ap_bound (c:List Rat):∃ K:Rat,0≤K∧∀ u N,E N (ap c u)≤K * E N u:=by
 induction c with
 | nil=>exact ⟨0,Rat.le_refl,fun u N=>by unfold E ap;rw [sm_congr (g:=fun _=>0) (fun i _=>by grind),sm_zero];grind⟩
 | cons a l ih =>
  obtain ⟨K,hK,h⟩:=ih
  refine ⟨2 * (a * a)+2 * K,by have:=sq_nonneg a;grind,fun u N=>?_⟩
  have h1:E N (ap (a :: l) u)≤2 * (a * a) * E N u+2 * E N (sh (ap l u)):=by
   unfold E
   rw [← sm_mul,← sm_mul,← sm_add]
   refine sm_le (fun i _=>?_)
   have:=sq_nonneg (a * u i - sh (ap l u) i)
   simp only [ap]
   grind
  have h2:=Rat.le_trans (E_sh N (ap l u)) (h u N)
  grind
theorem ap_congr (c:List Rat) {u v:Nat→Rat} {n:Nat} (h:∀ i,i≤n→u i=v i):ap c u n=ap c v n:=by
 induction c generalizing n with
 | nil=>rfl
 | cons a l ih =>
  simp only [ap]
  rw [h n (Nat.le_refl _)]
  cases n with
  | zero=>rfl
  | succ n=>simp only [sh];rw [ih (fun i hi=>h i (by omega))]
theorem sh_congr (c:List Rat) {u v:Nat→Rat} {n:Nat} (h:∀ i,i < n→u i=v i):sh (ap c u) n=sh (ap c v) n:=by
 cases n with
 | zero=>rfl
 | succ n=>simp only [sh];exact ap_congr c (fun i hi=>h i (by omega))
theorem E_congr {u v:Nat→Rat} {N:Nat} (h:∀ i,i < N→u i=v i):E N u=E N v:=sm_congr (fun i hi=>by rw [h i hi])
theorem E_mono {u:Nat→Rat} {N M:Nat} (h:N≤M):E N u≤E M u:=by
 obtain ⟨d,rfl⟩:=Nat.exists_eq_add_of_le h
 unfold E
 rw [sm_split]
 have:=sm_nonneg (n:=d) (f:=fun i=>u (N+i) * u (N+i)) (fun _ _=>sq_nonneg _)
 grind
theorem go_on (a:Rat) (l:List Rat) (ha:a ≠ 0) (u:Nat→Rat) (N L:Nat):∃ v:Nat→Rat,(∀ n,n < N→v n=u n)∧∀ n,N≤n→n < N+L→ap (a :: l) v n=0:=by
 induction L with
 | zero=>exact ⟨u,fun _ _=>rfl,fun n h1 h2=>by omega⟩
 | succ L ih =>
  obtain ⟨v,h1,h2⟩:=ih
  obtain ⟨v',hv1,hv2⟩:∃ v':Nat→Rat,(∀ i,i ≠ N+L→v' i=v i)∧v' (N+L)=-(sh (ap l v) (N+L)) / a :=
   ⟨fun i=>if i=N+L then -(sh (ap l v) (N+L)) / a else v i,fun i hi=>if_neg hi,if_pos rfl⟩
  refine ⟨v',fun n hn=>by rw [hv1 n (by omega)];exact h1 n hn,fun n hn hl=>?_⟩
  by_cases he:n=N+L
  ·subst he
   simp only [ap]
   rw [sh_congr l (v:=v) (fun i hi=>hv1 i (by omega)),hv2]
   have e:a * (-(sh (ap l v) (N+L)) / a)=-(sh (ap l v) (N+L)):=by rw [Rat.mul_comm];exact Rat.div_mul_cancel ha
   rw [e]
   exact Rat.neg_add_cancel _
  ·rw [ap_congr (a :: l) (v:=v) (fun i hi=>hv1 i (by omega))]
   exact h2 n hn (by omega)
def shn (i:Nat) (u:Nat→Rat) (n:Nat):Rat:=if i≤n then u (n - i) else 0
theorem shn_succ (i:Nat) (u:Nat→Rat) (n:Nat):shn (i+1) u (n+1)=shn i u n:=by
 unfold shn
 by_cases h:i≤n
 ·rw [if_pos h,if_pos (by omega)];congr 1;omega
 ·rw [if_neg h,if_neg (by omega)]
theorem ap_sum (c:List Rat) (u:Nat→Rat) (n:Nat):ap c u n=sm c.length (fun i=>c.getD i 0 * shn i u n):=by
 induction c generalizing n with
 | nil=>rfl
 | cons a l ih =>
  simp only [ap,List.length_cons]
  rw [sm_succ']
  have e0:shn 0 u n=u n:=by unfold shn;simp
  have e1:sh (ap l u) n=sm l.length (fun i=>(a :: l).getD (i+1) 0 * shn (i+1) u n):=by
   cases n with
   | zero =>
    simp only [sh]
    rw [sm_congr (g:=fun _=>0) (fun i _=>by simp [shn]),sm_zero]
   | succ n =>
    simp only [sh]
    rw [ih]
    exact sm_congr (fun i _=>by rw [shn_succ];simp)
  rw [e1,e0]
  simp
theorem sm_prod (n m:Nat) (f g:Nat→Rat):sm n f * sm m g=sm n (fun i=>sm m (fun j=>f i * g j)):=by
 rw [show (fun i=>sm m (fun j=>f i * g j))=fun i=>sm m g * f i from funext fun i=>by rw [sm_mul];grind,sm_mul]
 grind
def G (L:Nat) (u:Nat→Rat) (i j:Nat):Rat:=sm L (fun n=>shn i u n * shn j u n)
theorem G_symm (L:Nat) (u:Nat→Rat) (i j:Nat):G L u i j=G L u j i:=sm_congr (fun n _=>by grind)
theorem E_sum (c:List Rat) (u:Nat→Rat) (L:Nat):E L (ap c u)=sm c.length (fun i=>sm c.length (fun j=>c.getD i 0 * c.getD j 0 * G L u i j)):=by
 unfold E G
 have e:∀ n,ap c u n * ap c u n=sm c.length (fun i=>sm c.length (fun j=>c.getD i 0 * c.getD j 0 * (shn i u n * shn j u n))):=by
  intro n
  rw [ap_sum,sm_prod]
  exact sm_congr (fun i _=>sm_congr (fun j _=>by grind))
 rw [sm_congr (fun n _=>e n),sm_comm]
 refine sm_congr (fun i _=>?_)
 rw [sm_comm]
 exact sm_congr (fun j _=>by rw [sm_mul])
theorem G_step {L M m:Nat} {u:Nat→Rat} (hu:∀ n,M≤n→u n=0) (hL:M+m≤L) {i j:Nat} (hi:i < m):G L u (i+1) (j+1)=G L u i j:=by
 obtain ⟨L',rfl⟩:∃ L',L=L'+1:=⟨L - 1,by omega⟩
 unfold G
 rw [sm_succ']
 simp only [sm]
 have e0:shn (i+1) u 0=0:=by simp [shn]
 have e1:shn i u L'=0:=by
  unfold shn
  rw [if_pos (by omega)]
  exact hu _ (by omega)
 rw [e0,e1,sm_congr (fun n _=>by rw [shn_succ,shn_succ])]
 grind
theorem G_shift {L M m:Nat} {u:Nat→Rat} (hu:∀ n,M≤n→u n=0) (hL:M+m≤L) {i j d:Nat} (hi:i+d≤m):G L u (i+d) (j+d)=G L u i j:=by
 induction d with
 | zero=>rfl
 | succ d ih=>rw [← Nat.add_assoc,← Nat.add_assoc,G_step hu hL (by omega)];exact ih (by omega)
theorem full {c:List Rat} {M m L:Nat} {u:Nat→Rat} (hc:c.length=m+1) (hu:∀ n,M≤n→u n=0) (hL:M+m≤L):E L (ap c u)=E L (ap c.reverse u):=by
 rw [E_sum,E_sum,List.length_reverse,hc]
 rw [sm_rev (m+1) (fun i=>sm (m+1) (fun j=>c.reverse.getD i 0 * c.reverse.getD j 0 * G L u i j))]
 refine sm_congr (fun i hi=>?_)
 rw [sm_rev (m+1) (fun j=>c.reverse.getD (m+1 - 1 - i) 0 * c.reverse.getD j 0 * G L u (m+1 - 1 - i) j)]
 refine sm_congr (fun j hj=>?_)
 have er:∀ k,k < m+1→c.reverse.getD (m+1 - 1 - k) 0=c.getD k 0:=by
  intro k hk
  rw [List.getD_eq_getElem?_getD,List.getD_eq_getElem?_getD,List.getElem?_reverse (by omega)]
  congr 2
  omega
 rw [er i hi,er j hj]
 congr 1
 rcases Nat.le_total i j with h | h
 ·have e1:=G_shift hu hL (i:=j - i) (j:=0) (d:=m - j) (by omega)
  have e2:=G_shift hu hL (i:=j - i) (j:=0) (d:=i) (by omega)
  rw [show j - i+(m - j)=m+1 - 1 - i by omega,show 0+(m - j)=m+1 - 1 - j by omega] at e1
  rw [show j - i+i=j by omega,Nat.zero_add] at e2
  rw [e1,← e2,G_symm]
 ·have e1:=G_shift hu hL (i:=0) (j:=i - j) (d:=m - i) (by omega)
  have e2:=G_shift hu hL (i:=0) (j:=i - j) (d:=j) (by omega)
  rw [show i - j+(m - i)=m+1 - 1 - j by omega,show 0+(m - i)=m+1 - 1 - i by omega] at e1
  rw [show i - j+j=i by omega,Nat.zero_add] at e2
  rw [e1,← e2,G_symm]
theorem lt_or_le (a b:Rat):a < b ∨ b≤a:=by
 rcases Rat.le_total (a:=b) (b:=a) with h | h
 ·exact Or.inr h
 ·by_cases h1:a=b
  ·right;rw [h1];exact Rat.le_refl
  ·left;exact Rat.lt_of_le_of_ne h h1
theorem lin1 {x y z X W:Rat} (h1:x≤X) (h2:0≤y) (h3:y+z≤W):x+z≤X+W:=by grind
theorem arch (q:Rat):∃ J:Nat,1≤J∧q < (J:Rat):=by
 refine ⟨q.ceil.toNat+1,by omega,?_⟩
 have h1:q≤(q.ceil:Rat):=Rat.le_ceil
 have h2:((q.ceil:Int):Rat)≤((q.ceil.toNat:Int):Rat):=Rat.intCast_le_intCast.2 (Int.self_le_toNat _)
 have h3:((q.ceil.toNat+1:Nat):Rat)=((q.ceil.toNat:Int):Rat)+1:=by rw [Rat.natCast_add];rfl
 rw [h3]
 grind
theorem sm_const (n:Nat) (c:Rat):sm n (fun _=>c)=(n:Rat) * c:=by
 induction n with
 | zero=>simp only [sm];grind
 | succ n ih=>simp only [sm];rw [ih,Rat.natCast_add];grind
theorem pigeon {J:Nat} {f:Nat→Rat} {S:Rat} (hJ:1≤J) (h:sm J f≤S):∃ j,j < J∧(J:Rat) * f j≤S:=by
 apply Classical.byContradiction
 intro hn
 have hall:∀ j,j < J→S < (J:Rat) * f j:=by
  intro j hj
  rcases lt_or_le (S) ((J:Rat) * f j) with h1 | h1
  ·exact h1
  ·exact absurd ⟨j,hj,h1⟩ hn
 have h1:sm J (fun _=>S)≤sm J (fun j=>(J:Rat) * f j):=sm_le (fun j hj=>Rat.le_of_lt (hall j hj))
 have h2:sm J (fun _=>S) < sm J (fun j=>(J:Rat) * f j):=by
  obtain ⟨J',rfl⟩:∃ J',J=J'+1:=⟨J - 1,by omega⟩
  simp only [sm]
  have a1:=hall J' (by omega)
  have a2:sm J' (fun _=>S)≤sm J' (fun j=>((J'+1:Nat):Rat) * f j):=sm_le (fun j hj=>Rat.le_of_lt (hall j (by omega)))
  grind
 rw [sm_const,sm_mul] at h2
 have h3:=Rat.mul_le_mul_of_nonneg_left h (c:=(J:Rat)) (by exact Rat.natCast_nonneg)
 grind
theorem sm_blocks (J m:Nat) (f:Nat→Rat):sm (J * m) f=sm J (fun j=>sm m (fun i=>f (j * m+i))):=by
 induction J with
 | zero=>rw [Nat.zero_mul];rfl
 | succ J ih=>rw [Nat.succ_mul,sm_split,ih];rfl
theorem Inv.con {a:Rat} {l:List Rat} (ha:a ≠ 0) (hi:Inv (a :: l)):Con (a :: l):=by
 intro u N
 obtain ⟨C,hC,hI⟩:=hi
 obtain ⟨K,hK,hB⟩:=ap_bound (a :: l)
 rcases lt_or_le (E N (ap (a :: l) u)) (E N (ap (a :: l).reverse u)) with hlt | hle
 ·exfalso
  obtain ⟨X,hX⟩:∃ X,X=E N (ap (a :: l) u):=⟨_,rfl⟩
  obtain ⟨Y,hY⟩:∃ Y,Y=E N (ap (a :: l).reverse u):=⟨_,rfl⟩
  rw [← hX,← hY] at hlt
  have hd:0 < Y - X:=by grind
  obtain ⟨J,hJ1,hJ⟩:=arch (K * (C * X) / (Y - X))
  obtain ⟨m,hm⟩:∃ m,m=l.length:=⟨_,rfl⟩
  obtain ⟨v,hv1,hv2⟩:=go_on a l ha u N (J * (m+1))
  have hEv:E (N+J * (m+1)) (ap (a :: l) v)=X:=by
   unfold E
   rw [sm_split,hX]
   have e1:sm N (fun i=>ap (a :: l) v i * ap (a :: l) v i)=E N (ap (a :: l) u):=E_congr (fun i hi=>ap_congr _ (fun k hk=>hv1 k (by omega)))
   have e2:sm (J * (m+1)) (fun i=>ap (a :: l) v (N+i) * ap (a :: l) v (N+i))=0:=by
    rw [sm_congr (g:=fun _=>0) (fun i hi=>by rw [hv2 (N+i) (by omega) (by omega)];grind),sm_zero]
   rw [e1,e2]
   grind
  have hsum:sm J (fun j=>sm (m+1) (fun i=>v (N+(j * (m+1)+i)) * v (N+(j * (m+1)+i))))≤C * X:=by
   rw [← sm_blocks J (m+1) (fun i=>v (N+i) * v (N+i))]
   have h1:=hI v (N+J * (m+1))
   rw [hEv] at h1
   unfold E at h1
   rw [sm_split] at h1
   have h2:0≤sm N (fun i=>v i * v i):=E_nonneg N v
   grind
  obtain ⟨j,hj,hjs⟩:=pigeon hJ1 hsum
  obtain ⟨M,hM⟩:∃ M,M=N+(j * (m+1))+(m+1):=⟨_,rfl⟩
  have hMle:M≤N+J * (m+1):=by
   have:(j+1) * (m+1)≤J * (m+1):=Nat.mul_le_mul_right _ hj
   rw [Nat.succ_mul] at this
   omega
  obtain ⟨t,ht1,ht2⟩:∃ t:Nat→Rat,(∀ i,i < M→t i=v i)∧∀ i,M≤i→t i=0:=⟨fun i=>if i < M then v i else 0,fun i hi=>if_pos hi,fun i hi=>if_neg (by omega)⟩
  obtain ⟨b,hb1,hb2⟩:∃ b:Nat→Rat,(∀ i,i < N+j * (m+1)→b i=0)∧∀ i,N+j * (m+1)≤i→b i=t i:=⟨fun i=>if i < N+j * (m+1) then 0 else t i,fun i hi=>if_pos hi,fun i hi=>if_neg (by omega)⟩
  have hfull:=full (c:=a :: l) (M:=M) (m:=m) (L:=M+m) (u:=t) (by simp [hm]) ht2 (Nat.le_refl _)
  have hEt:E (M+m) (ap (a :: l) t)≤X+K * E (M+m) b:=by
   unfold E
   rw [sm_split]
   have e1:sm M (fun i=>ap (a :: l) t i * ap (a :: l) t i)≤X:=by
    have h1:E M (ap (a :: l) t)=E M (ap (a :: l) v):=E_congr (fun i hi=>ap_congr _ (fun k hk=>ht1 k (by omega)))
    have h2:=E_mono (u:=ap (a :: l) v) hMle
    rw [hEv,← h1] at h2
    exact h2
   have e2:∀ i,i < m→ap (a :: l) t (M+i)=ap (a :: l) b (M+i):=by
    intro i hi
    rw [ap_sum,ap_sum]
    refine sm_congr (fun k hk=>?_)
    have hk':k≤m:=by simp at hk;omega
    unfold shn
    rw [if_pos (by omega),if_pos (by omega),hb2 _ (by omega)]
   have e3:=hB b (M+m)
   unfold E at e3
   rw [sm_split] at e3
   have e4:0≤sm M (fun i=>ap (a :: l) b i * ap (a :: l) b i):=E_nonneg M _
   have e5:sm m (fun i=>ap (a :: l) t (M+i) * ap (a :: l) t (M+i))=sm m (fun i=>ap (a :: l) b (M+i) * ap (a :: l) b (M+i)):=sm_congr (fun i hi=>by rw [e2 i hi])
   rw [e5]
   exact lin1 e1 e4 e3
  have hEb:E (M+m) b=sm (m+1) (fun i=>v (N+(j * (m+1)+i)) * v (N+(j * (m+1)+i))):=by
   unfold E
   rw [sm_split,sm_congr (n:=m) (g:=fun _=>0) (fun i hi=>by rw [hb2 _ (by omega),ht2 _ (by omega)];grind),sm_zero,hM,sm_split,
    sm_congr (n:=N+j * (m+1)) (g:=fun _=>0) (fun i hi=>by rw [hb1 _ hi];grind),sm_zero,
    sm_congr (fun i hi=>by rw [hb2 _ (by omega),ht1 _ (by omega)])]
   simp only [Nat.add_assoc]
   grind
  have hYt:Y≤E (M+m) (ap (a :: l).reverse t):=by
   rw [hY,E_congr (u:=ap (a :: l).reverse u) (v:=ap (a :: l).reverse t) (fun i hi=>ap_congr _ (fun k hk=>by rw [ht1 k (by omega),hv1 k (by omega)]))]
   exact E_mono (by omega)
  rw [← hfull] at hYt
  rw [← hEb] at hjs
  have h1:Y - X≤K * E (M+m) b:=by grind
  have h2:(J:Rat) * (Y - X)≤K * (C * X):=by
   have a1:=Rat.mul_le_mul_of_nonneg_left h1 (c:=(J:Rat)) (by exact Rat.natCast_nonneg)
   have a2:=Rat.mul_le_mul_of_nonneg_left hjs hK
   grind
  have h3:=(Rat.div_lt_iff hd).1 hJ
  grind
 ·exact hle
theorem Inv.head {c:List Rat} (hi:Inv c):∃ a l,c=a :: l∧a ≠ 0:=by
 obtain ⟨C,hC,hI⟩:=hi
 have h:=hI (fun _=>1) 1
 cases c with
 | nil=>simp only [E,sm,ap] at h;grind
 | cons a l =>
  refine ⟨a,l,rfl,fun h0=>?_⟩
  subst h0
  simp only [E,sm,ap,sh] at h
  grind
theorem ap_last (x:List Rat) (u:Nat→Rat):∃ s:Nat→Rat,(∀ N,E N s≤E N u)∧∀ b,ap (x ++ [b]) u=fun n=>ap x u n+b * s n:=by
 induction x with
 | nil=>exact ⟨u,fun _=>Rat.le_refl,fun b=>by funext n;simp only [List.nil_append,ap,sh_zero];grind⟩
 | cons a x ih =>
  obtain ⟨s,h1,h2⟩:=ih
  refine ⟨sh s,fun N=>Rat.le_trans (E_sh N s) (h1 N),fun b=>?_⟩
  funext n
  simp only [List.cons_append,ap]
  rw [h2,sh_add,sh_mul]
  grind
theorem Inv.last {x:List Rat} {a b:Rat} (hi:Inv (a :: x ++ [b])):b * b < a * a:=by
 obtain ⟨C,hC,hI⟩:=hi
 have key:∀ e:Rat,4 * C * (e * e)≤1→(b+e) * (b+e)≤a * a:=by
  intro e he
  have hinv:Inv (a :: x ++ [b+e]):=by
   refine ⟨4 * C,by grind,fun u N=>?_⟩
   obtain ⟨s,hs1,hs2⟩:=ap_last (a :: x) u
   have h1:=hI u N
   have h2:E N (ap (a :: x ++ [b]) u)≤2 * E N (ap (a :: x ++ [b+e]) u)+2 * (e * e) * E N u:=by
    have h3:E N (ap (a :: x ++ [b]) u)≤2 * E N (ap (a :: x ++ [b+e]) u)+2 * (e * e) * E N s:=by
     unfold E
     rw [← sm_mul,← sm_mul,← sm_add]
     refine sm_le (fun i _=>?_)
     rw [hs2,hs2]
     have:=sq_nonneg (ap (a :: x) u i+b * s i+2 * e * s i)
     grind
    have h4:=Rat.mul_le_mul_of_nonneg_left (hs1 N) (c:=2 * (e * e)) (by have:=sq_nonneg e;grind)
    grind
   have h5:=Rat.mul_le_mul_of_nonneg_left h2 hC
   have h6:=Rat.mul_le_mul_of_nonneg_left he (E_nonneg N u)
   grind
  obtain ⟨a',l',hal,ha'⟩:=hinv.head
  have ha0:a=a':=by injection hal
  have hcon:E 1 (ap (a :: x ++ [b+e]).reverse (fun _=>1))≤E 1 (ap (a :: x ++ [b+e]) (fun _=>1)):=Inv.con (by rw [ha0];exact ha') hinv (fun _=>1) 1
  have e1:(a :: x ++ [b+e]).reverse=(b+e) :: (a :: x).reverse:=by simp
  rw [e1] at hcon
  simp only [E,sm,ap,sh,List.cons_append] at hcon
  grind
 have hk:=key 0 (by grind)
 rcases lt_or_le (b * b) (a * a) with h | h
 ·exact h
 ·exfalso
  have hCC:0 < 4 * C+1:=by grind
  obtain ⟨e,he⟩:∃ e:Rat,e=1 / (4 * C+1):=⟨_,rfl⟩
  have he0:0 < e:=by rw [he,Rat.div_def,Rat.one_mul];exact Rat.inv_pos.2 hCC
  have he1:e * (4 * C+1)=1:=by rw [he];exact Rat.div_mul_cancel (by grind)
  have he2:e≤1:=by
   have:=Rat.mul_nonneg (Rat.le_of_lt he0) (b:=4 * C) (by grind)
   grind
  have he3:4 * C * (e * e)≤1:=by
   have h1:=Rat.mul_le_mul_of_nonneg_left he2 (c:=4 * C * e) (Rat.mul_nonneg (by grind) (Rat.le_of_lt he0))
   grind
  rcases Rat.le_total (a:=0) (b:=b) with hb | hb
  ·have:=key e he3
   have h2:=Rat.mul_nonneg hb (Rat.le_of_lt he0)
   have h3:=Rat.mul_pos he0 he0
   grind
  ·have:=key (-e) (by grind)
   have h2:=Rat.mul_nonneg (a:=-b) (b:=e) (by grind) (Rat.le_of_lt he0)
   have h3:=Rat.mul_pos he0 he0
   grind
def seq (c:List Rat) (n:Nat):Rat:=c.getD n 0
def cv (s u:Nat→Rat) (n:Nat):Rat:=sm (n+1) (fun i=>s i * u (n - i))
theorem cv_comm (s u:Nat→Rat):cv s u=cv u s:=by
 funext n
 unfold cv
 rw [sm_rev]
 exact sm_congr (fun i hi=>by rw [show n - (n+1 - 1 - i)=i by omega,show n+1 - 1 - i=n - i by omega];grind)
theorem cv_sh (t u:Nat→Rat):cv (sh t) u=sh (cv t u):=by
 funext n
 cases n with
 | zero=>simp only [cv,sm,sh];grind
 | succ n =>
  simp only [sh]
  unfold cv
  rw [sm_succ']
  simp only [sh]
  rw [sm_congr (f:=fun i=>t i * u (n+1 - (i+1))) (g:=fun i=>t i * u (n - i)) (fun i hi=>by rw [show n+1 - (i+1)=n - i by omega])]
  grind
theorem cv_add (s t u:Nat→Rat):cv (fun n=>s n+t n) u=fun n=>cv s u n+cv t u n:=by
 funext n
 unfold cv
 rw [← sm_add]
 exact sm_congr (fun i _=>by grind)
theorem cv_mul (c:Rat) (s u:Nat→Rat):cv (fun n=>c * s n) u=fun n=>c * cv s u n:=by
 funext n
 unfold cv
 rw [← sm_mul]
 exact sm_congr (fun i _=>by grind)
theorem cv_ap (p:List Rat) (s u:Nat→Rat):cv (ap p s) u=ap p (cv s u):=by
 induction p with
 | nil=>funext n;unfold cv ap;rw [sm_congr (g:=fun _=>0) (fun i _=>by grind),sm_zero]
 | cons a l ih=>simp only [ap];rw [cv_add,cv_mul,cv_sh,ih]
theorem seq_cons (a:Rat) (l:List Rat):seq (a :: l)=fun n=>a * (if n=0 then 1 else 0)+sh (seq l) n:=by
 funext n
 cases n with
 | zero=>simp only [seq,sh,List.getD_cons_zero,if_true];grind
 | succ n=>simp only [seq,sh,List.getD_cons_succ,if_neg (Nat.succ_ne_zero n)];grind
theorem cv_one (u:Nat→Rat):cv (fun n=>if n=0 then 1 else 0) u=u:=by
 funext n
 unfold cv
 rw [sm_succ',sm_congr (f:=fun i=>(if i+1=0 then 1 else 0) * u (n - (i+1))) (g:=fun _=>0) (fun i _=>by rw [if_neg (Nat.succ_ne_zero i)];grind),sm_zero]
 simp only [if_true,Nat.sub_zero]
 grind
theorem ap_cv (p:List Rat) (u:Nat→Rat):ap p u=cv (seq p) u:=by
 induction p with
 | nil=>funext n;unfold cv ap;rw [sm_congr (g:=fun _=>0) (fun i _=>by simp only [seq,List.getD_nil];grind),sm_zero]
 | cons a l ih=>rw [seq_cons,cv_add,cv_mul,cv_sh,cv_one,← ih];rfl
theorem ap_swap (p q:List Rat):ap p (seq q)=ap q (seq p):=by rw [ap_cv,ap_cv,cv_comm]
theorem E_lmul (N:Nat) (a:Rat) (u:Nat→Rat):E N (fun n=>a * u n)=a * a * E N u:=by
 unfold E
 rw [← sm_mul]
 exact sm_congr (fun i _=>by grind)
theorem Inv.lmul {a:Rat} {c:List Rat} (ha:a ≠ 0) (h:Inv c):Inv (lmul a c):=by
 obtain ⟨C,hC,hI⟩:=h
 have hp:0 < a * a:=by
  have h1:=sq_nonneg a
  rcases lt_or_le 0 (a * a) with h | h
  ·exact h
  ·exfalso
   have h2:a * a=0:=Rat.le_antisymm h h1
   rcases Rat.mul_eq_zero.1 h2 with h3 | h3 <;> exact ha h3
 refine ⟨C / (a * a),div_nonneg hC hp,fun u N=>?_⟩
 rw [ap_lmul,E_lmul]
 have h1:C / (a * a) * (a * a * E N (ap c u))=C * E N (ap c u):=by
  rw [← Rat.mul_assoc,Rat.div_mul_cancel (by grind)]
 rw [h1]
 exact hI u N
theorem Inv.snoc {c:List Rat}:Inv (c ++ [0])↔Inv c:=by
 unfold Inv
 simp only [ap_snoc]
theorem pow_pos' {r:Rat} (h:0 < r) (n:Nat):0 < r ^ n:=by
 induction n with
 | zero=>rw [Rat.pow_zero];decide
 | succ n ih=>rw [Rat.pow_succ];exact Rat.mul_pos ih h
theorem getD_app {a b:List Rat} {i:Nat} (h:i < a.length):(a ++ b).getD i 0=a.getD i 0:=by
 rw [List.getD_eq_getElem?_getD,List.getD_eq_getElem?_getD,List.getElem?_append_left h]
theorem getD_appr {a b:List Rat} {i:Nat} (h:a.length≤i):(a ++ b).getD i 0=b.getD (i - a.length) 0:=by
 rw [List.getD_eq_getElem?_getD,List.getD_eq_getElem?_getD,List.getElem?_append_right h]
theorem getD_ext {a b:List Rat} (hl:a.length=b.length) (h:∀ i,i < a.length→a.getD i 0=b.getD i 0):a=b:=by
 apply List.ext_getElem hl
 intro i h1 h2
 have:=h i h1
 simpa [List.getD_eq_getElem?_getD,List.getElem?_eq_getElem h1,List.getElem?_eq_getElem h2] using this
theorem snoc0_getD (c:List Rat) (i:Nat):(c ++ [0]).getD i 0=c.getD i 0:=by
 rcases Nat.lt_or_ge i c.length with h | h
 ·exact getD_app h
 ·rw [getD_appr h,List.getD_eq_getElem?_getD,List.getD_eq_getElem?_getD,List.getElem?_eq_none (l:=c) h]
  cases h':i - c.length <;> simp
theorem snoc_ind {P:List Rat→Prop} (h0:P []) (h1:∀ l r,P l→P (l ++ [r])) (l:List Rat):P l:=by
 have:∀ l:List Rat,P l.reverse:=by
  intro l
  induction l with
  | nil=>exact h0
  | cons a l ih=>rw [List.reverse_cons];exact h1 _ _ ih
 have:=this l.reverse
 rwa [List.reverse_reverse] at this
end Go.Stab
namespace Go.Proofs.YtpieblkklbilgaaGreat
open Go.RowKit Go.Front Go.Num
attribute [local go_sem] XW.cell XW.frozen
theorem Sz.abs {k:Nat} {q:Rat} (h:Sz k q):Sz k q.abs:=by
 unfold Rat.abs
 split
 ·exact h
 ·exact h.neg
theorem RAt.lt {w:World} {b o:Nat} {r:RH} (h:RAt w b o r):b < w.heap.size:=World.block_lt_of_cell? _ _ h.1
theorem RawL.cells {w:World} {ao:Option Addr} {n c:Nat} {qs:List Rat} (h:RawL w ⟨ao,n,c⟩ qs) {k:Nat} (hk:k < n):∃ b off r,ao=some ⟨b,off,none⟩∧b < w.heap.size∧RAt w b (off+k * 3) r∧RawR w r (qs.getD k 0) :=
 let ⟨b,off,r,h1,h2,h3⟩:=h.at hk;⟨b,off,r,h1,h2.lt,h2,h3⟩
end Go.Proofs.YtpieblkklbilgaaGreat
