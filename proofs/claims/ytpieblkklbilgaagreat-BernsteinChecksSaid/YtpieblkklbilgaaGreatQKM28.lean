/- Ev, Pd7 -/
import Derived.Test.YtpieblkklbilgaaGreatQKM27
set_option linter.unusedVariables false
namespace Go.Proofs.YtpieblkklbilgaaGreat
open Go.RowKit Go.Front Go.Num Stab
def evV (p:List Rat) (x:Rat):Rat:=p.foldr (fun c y=>y * x+c) 0
theorem ev_cons (c:Rat) (p:List Rat) (x:Rat):evV (c :: p) x=evV p x * x+c:=rfl
theorem ev_sm (p:List Rat) (x:Rat):evV p x=sm p.length (fun i=>p.getD i 0 * x ^ i):=by
 induction p with
 | nil=>rfl
 | cons c p ih =>
  rw [ev_cons,ih,List.length_cons,sm_succ',Rat.mul_comm,← sm_mul]
  rw [sm_congr (f:=fun i=>(c :: p).getD (i+1) 0 * x ^ (i+1)) (g:=fun i=>x * (p.getD i 0 * x ^ i)) (fun i _=>by rw [List.getD_cons_succ,Rat.pow_succ];grind)]
  rw [List.getD_cons_zero,Rat.pow_zero]
  grind
theorem ev_smN {p:List Rat} {N:Nat} (h:p.length≤N) (x:Rat):evV p x=sm N (fun i=>seq p i * x ^ i):=by
 rw [ev_sm]
 exact sm_extend h (fun i h1 h2=>by rw [pd_over h1];grind)
theorem ev_seq {p q:List Rat} {c:Rat} (h:∀ i,seq p i=c * seq q i) (x:Rat):evV p x=c * evV q x:=by
 rw [ev_smN (Nat.le_max_left p.length q.length),ev_smN (Nat.le_max_right p.length q.length),← sm_mul]
 exact sm_congr (fun i _=>by rw [h];grind)
theorem drop_cons {p:List Rat} {i:Nat} (h:i < p.length):p.drop i=p.getD i 0 :: p.drop (i+1):=by
 rw [List.drop_eq_getElem_cons h,List.getD_eq_getElem?_getD,List.getElem?_eq_getElem h]
 rfl
theorem ev_drop {p:List Rat} {i:Nat} (h:i < p.length) (x:Rat):evV (p.drop i) x=evV (p.drop (i+1)) x * x+p.getD i 0:=by rw [drop_cons h,ev_cons]
theorem Fr.up {S U D E:Nat} {a:Rat} (ha:Fr S D a) (hE:E≤W32 ^ U) (h0:0 < E):Fr (S+U) (D * E) a:=by
 have e:a * ((D * E:Nat):Rat)=a * (D:Rat) * (((E:Nat):Int):Rat):=by rw [Rat.natCast_mul];show _=a * (D:Rat) * (E:Rat);grind
 have h1:Wz S (a * (D:Rat)):=ha
 unfold Fr
 rw [e]
 refine ⟨h1.1.mul (Wh.int _),?_⟩
 rw [h1.1.eq,← Rat.intCast_mul,Rat.num_intCast,Int.natAbs_mul,Int.natAbs_natCast,Nat.pow_add]
 exact Nat.mul_lt_mul_of_lt_of_le h1.2 hE (Nat.pow_pos W32_pos)
end Go.Proofs.YtpieblkklbilgaaGreat
