/- Ev, Pd7 -/
import Derived.Test.YtpieblkklbilgaaGreatQPM27
set_option linter.unusedVariables false
namespace Go.Proofs.YtpieblkklbilgaaGreat
open Go.RowKit Go.Front Go.Num Stab
def evV (p:List Rat) (x:Rat):Rat:=p.foldr (fun c y=>y * x+c) 0
theorem ev_cons (c:Rat) (p:List Rat) (x:Rat):evV (c :: p) x=evV p x * x+c:=rfl
theorem ev_sm (p:List Rat) (x:Rat):evV p x=sm p.length (fun i=>p.getD i 0 * x ^ i):=by
 induction p with
 | nil=>rfl
 | cons c p ih =>
  rw [ev_cons,ih,List.length_cons,sm_succ',Rat.mul_comm,← sm_mul]
  rw [sm_congr (f:=fun i=>(c :: p).getD (i+1) 0 * x ^ (i+1)) (g:=fun i=>x * (p.getD i 0 * x ^ i)) (fun i _=>by rw [List.getD_cons_succ,Rat.pow_succ];grind)]
  rw [List.getD_cons_zero,Rat.pow_zero]
  grind
theorem ev_smN {p:List Rat} {N:Nat} (h:p.length≤N) (x:Rat):evV p x=sm N (fun i=>seq p i * x ^ i):=by
 rw [ev_sm]
 exact sm_extend h (fun i h1 h2=>by rw [pd_over h1];grind)
theorem ev_seq {p q:List Rat} {c:Rat} (h:∀ i,seq p i=c * seq q i) (x:Rat):evV p x=c * evV q x:=by
 rw [ev_smN (Nat.le_max_left p.length q.length),ev_smN (Nat.le_max_right p.length q.length),← sm_mul]
 exact sm_congr (fun i _=>by rw [h];grind)
theorem ev_spl (p:List Rat) (x:Rat):splM p * evV (splL p) x=evV p x:=(ev_seq (spl_seq p) x).symm
theorem drop_cons {p:List Rat} {i:Nat} (h:i < p.length):p.drop i=p.getD i 0 :: p.drop (i+1):=by
 rw [List.drop_eq_getElem_cons h,List.getD_eq_getElem?_getD,List.getElem?_eq_getElem h]
 rfl
theorem ev_drop {p:List Rat} {i:Nat} (h:i < p.length) (x:Rat):evV (p.drop i) x=evV (p.drop (i+1)) x * x+p.getD i 0:=by rw [drop_cons h,ev_cons]
def ehS (a:List Rat) (x:Rat) (i:Nat):Rat:=if i=0 then 0 else ((x.den:Int):Rat) ^ (i - 1) * evV (a.drop (a.length - i)) x
def ehP (x:Rat) (i:Nat):Rat:=((x.den:Int):Rat) ^ (i - 1)
theorem den_ne (x:Rat):((x.den:Int):Rat) ≠ 0:=fun h=>by
 have h1:=congrArg Rat.num h
 rw [Rat.num_intCast] at h1
 have:=x.den_nz
 have h2:((0:Rat)).num=0:=rfl
 omega
theorem eh_step {a:List Rat} {i:Nat} (x:Rat) (h:i < a.length):ehS a x i * (x.num:Rat)+a.getD (a.length - 1 - i) 0 * ehP x (i+1)=ehS a x (i+1):=by
 have hx:x * ((x.den:Int):Rat)=(x.num:Rat):=low x
 have e1:=ev_drop (p:=a) (i:=a.length - 1 - i) (by omega) x
 rw [show a.length - 1 - i+1=a.length - i by omega] at e1
 unfold ehS ehP
 rw [if_neg (Nat.succ_ne_zero i),Nat.add_sub_cancel,show a.length - (i+1)=a.length - 1 - i by omega,e1]
 rcases Nat.eq_zero_or_pos i with h0 | h0
 ·subst h0
  rw [if_pos rfl]
  simp only [Nat.sub_zero,Rat.pow_zero]
  rw [List.drop_of_length_le (Nat.le_refl _)]
  show (0:Rat) * _+_=1 * (0 * x+_)
  grind
 ·rw [if_neg (by omega)]
  obtain ⟨j,rfl⟩:∃ j,i=j+1:=⟨i - 1,by omega⟩
  rw [Nat.add_sub_cancel,Rat.pow_succ,← hx]
  grind
theorem ehP_step (x:Rat) {i:Nat} (h:0 < i):ehP x i * ((x.den:Int):Rat)=ehP x (i+1):=by
 unfold ehP
 obtain ⟨j,rfl⟩:∃ j,i=j+1:=⟨i - 1,by omega⟩
 rw [Nat.add_sub_cancel,Nat.add_sub_cancel,Rat.pow_succ]
theorem pow_ne {x:Rat} (h:x ≠ 0) (n:Nat):x ^ n ≠ 0:=by
 induction n with
 | zero=>rw [Rat.pow_zero];decide
 | succ n ih =>
  rw [Rat.pow_succ]
  intro h1
  rcases Rat.mul_eq_zero.1 h1 with h2 | h2
  ·exact ih h2
  ·exact h h2
theorem eh_end (a:List Rat) (x:Rat):ehS a x a.length / ehP x a.length=evV a x:=by
 unfold ehS ehP
 split
 ·next h =>
  rw [List.length_eq_zero_iff.1 h,Rat.div_def,Rat.zero_mul];rfl
 ·rw [Nat.sub_self,List.drop_zero,Rat.mul_comm,Rat.div_def,Rat.mul_assoc,Rat.mul_inv_cancel _ (pow_ne (den_ne x) _),Rat.mul_one]
theorem num_sz {t:Nat} {x:Rat} (h:Sz t x) (ht:1≤t):Sz t (x.num:Rat):=⟨by rw [Rat.num_intCast];exact h.1,by rw [Rat.den_intCast];exact Nat.one_lt_pow (by omega) (by decide)⟩
theorem den_sz {t:Nat} {x:Rat} (h:Sz t x) (ht:1≤t):Sz t ((x.den:Int):Rat):=⟨by rw [Rat.num_intCast];exact h.2,by rw [Rat.den_intCast];exact Nat.one_lt_pow (by omega) (by decide)⟩
theorem Fr.up {S U D E:Nat} {a:Rat} (ha:Fr S D a) (hE:E≤W32 ^ U) (h0:0 < E):Fr (S+U) (D * E) a:=by
 have e:a * ((D * E:Nat):Rat)=a * (D:Rat) * (((E:Nat):Int):Rat):=by rw [Rat.natCast_mul];show _=a * (D:Rat) * (E:Rat);grind
 have h1:Wz S (a * (D:Rat)):=ha
 unfold Fr
 rw [e]
 refine ⟨h1.1.mul (Wh.int _),?_⟩
 rw [h1.1.eq,← Rat.intCast_mul,Rat.num_intCast,Int.natAbs_mul,Int.natAbs_natCast,Nat.pow_add]
 exact Nat.mul_lt_mul_of_lt_of_le h1.2 hE (Nat.pow_pos W32_pos)
theorem quo_fr {A U D E:Nat} {y:Rat} {q:List Rat} (hy:Fr A D y) (hq:FrL U E q) (h0:lead q ≠ 0) (hE2:E < W32 ^ U):Fr (A+U) (D * ldD q E) (y / lead q):=by
 refine fr_abs (wz_lead hq) ?_
 have h1:Wz (A+U) (y * (D:Rat) * (E:Rat)):=Wz.mul hy (Wz.nat hE2)
 have h3:=pd_div (a:=y) h0
 have e:y / lead q * (D:Rat) * (lead q * (E:Rat))=y * (D:Rat) * (E:Rat):=by
  generalize y / lead q=c at *
  rw [← h3];grind
 rw [e]
 exact h1
theorem divV_fr {S U D E n:Nat} {q:List Rat} (hq:FrL U E q) (h0:lead q ≠ 0) (hE:0 < E) (hE2:E < W32 ^ U) (hq1:0 < q.length):∀ (f:Nat) (u p:List Rat) (j:Nat),j+(p.length+1 - q.length)≤n→FrL (S+j * (U+1)) (D * ldD q E ^ j) p→FrL (S+n * (U+1)) (D * ldD q E ^ n) u→FrL (S+n * (U+1)) (D * ldD q E ^ n) (divV q f u p).1:=by
 have hl:=ldD_lt hq
 have hp0:=ldD_pos hq h0 hE
 intro f
 induction f with
 | zero=>intro u p j _ _ hu;exact hu
 | succ f ih =>
  intro u p j hj hp hu
  rw [show divV q (f+1) u p=if q.length≤p.length then divV q f (u.set (p.length - q.length) (lead p / lead q)) (rstep p q) else (u,p) from rfl]
  by_cases h:q.length≤p.length
  ·rw [if_pos h]
   have hr:=rstep_len p q
   refine ih _ _ (j+1) (by omega) ?_ ?_
   ·have h1:=rstep_fr hp hq h0
    have e:D * ldD q E ^ j * ldD q E=D * ldD q E ^ (j+1):=by rw [Nat.pow_succ,Nat.mul_assoc]
    rw [e] at h1
    exact h1.mono (by rw [Nat.succ_mul];omega)
   ·intro x hx
    rcases List.mem_or_eq_of_mem_set hx with h2 | h2
    ·exact hu x h2
    ·subst h2
     have h3:Fr (S+j * (U+1)) (D * ldD q E ^ j) (lead p):=hp.at _
     have h4:=quo_fr h3 hq h0 hE2
     obtain ⟨d,rfl⟩:∃ d,n=j+1+d:=⟨n - (j+1),by omega⟩
     have h5:=h4.up (U:=U * d) (E:=ldD q E ^ d) (by rw [Nat.pow_mul];exact Nat.pow_le_pow_left (Nat.le_of_lt hl) d) (Nat.pow_pos hp0)
     have e:D * ldD q E ^ j * ldD q E * ldD q E ^ d=D * ldD q E ^ (j+1+d):=by rw [Nat.pow_add,Nat.pow_succ];simp only [Nat.mul_assoc]
     rw [e] at h5
     refine h5.mono ?_
     rw [Nat.add_mul (j+1) d,Nat.succ_mul,Nat.mul_add d,Nat.mul_comm U d]
     omega
  ·rw [if_neg h];exact hu
theorem quoV_frb {S U:Nat} {p q:List Rat} {D E n:Nat} (hp:FrL S D p) (hq:FrL U E q) (h0:tz q ≠ []) (hS:1≤S) (hD:0 < D) (hD2:D < W32 ^ S) (hE:0 < E) (hE2:E < W32 ^ U) (hn:p.length≤n):FrB (S+n * (U+1)) (quoV p q):=by
 have hl:=List.length_pos_iff.2 h0
 have h1:=tz_len_le p
 have h2:=divV_fr (S:=S) (D:=D) (n:=n) hq.tz (lead_tz h0) hE hE2 hl (tz p).length (List.replicate ((tz p).length+1 - (tz q).length) 0) (tz p) 0 (by omega) (by rw [Nat.zero_mul,Nat.pow_zero,Nat.mul_one];exact hp.tz) (fun x hx=>by rw [List.eq_of_mem_replicate hx];exact Fr.zero _ _)
 refine ⟨by omega,_,Nat.mul_pos hD (Nat.pow_pos (ldD_pos hq.tz (lead_tz h0) hE)),?_,FrL.tz h2⟩
 have h3:ldD (tz q) E ^ n≤W32 ^ (U * n):=by rw [Nat.pow_mul];exact Nat.pow_le_pow_left (Nat.le_of_lt (ldD_lt hq.tz)) n
 have h4:D * ldD (tz q) E ^ n < W32 ^ (S+U * n):=by
  rw [Nat.pow_add]
  exact Nat.mul_lt_mul_of_lt_of_le hD2 h3 (Nat.pow_pos W32_pos)
 exact Nat.lt_of_lt_of_le h4 (W32_le (by rw [Nat.mul_add,Nat.mul_comm U n];omega))
theorem ehP_wz {t i:Nat} {x:Rat} (h:Sz t x):Wz (t * i+1) (ehP x i):=by
 unfold ehP
 have h1:∀ j,Wz (t * j+1) (((x.den:Int):Rat) ^ j):=by
  intro j
  induction j with
  | zero=>rw [Rat.pow_zero];exact Wz.one.mono (by omega)
  | succ j ih =>
   rw [Rat.pow_succ]
   refine (ih.mul (Wz.int (S:=t) (z:=(x.den:Int)) (by simpa using h.2))).mono (by rw [Nat.mul_succ];omega)
 exact (h1 (i - 1)).mono (by have:=Nat.mul_le_mul_left t (show i - 1≤i by omega);omega)
theorem ehS_wz {S t:Nat} {a:List Rat} {x:Rat} (ha:∀ y ∈ a,Wz S y) (h:Sz t x):∀ i,i≤a.length→Wz (S+t+(t+1) * i+1) (ehS a x i):=by
 intro i
 induction i with
 | zero=>intro _;unfold ehS;rw [if_pos rfl];exact Wz.zero _
 | succ i ih =>
  intro hi
  rw [← eh_step x (by omega)]
  have h1:=(ih (by omega)).mul (Wz.int (S:=t) (z:=x.num) h.1)
  have h2:Wz (S+(t * (i+1)+1)) (a.getD (a.length - 1 - i) 0 * ehP x (i+1)):=(ha _ (getD_mem' (by omega))).mul (ehP_wz h)
  have e:(t+1) * (i+1)=(t+1) * i+t+1:=by rw [Nat.mul_succ];omega
  have e2:t * (i+1)=t * i+t:=by rw [Nat.mul_succ]
  have e3:(t+1) * i=t * i+i:=Nat.succ_mul t i
  exact ((h1.mono (S':=S+t+(t+1) * i+1+t) (by omega)).add (h2.mono (by omega))).mono (by omega)
end Go.Proofs.YtpieblkklbilgaaGreat
