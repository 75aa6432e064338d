/- Package bernstein: the closure of Bound. -/
import Derived.Test.YtpieblkklbilgaaGreatQKBnR
import Derived.Test.YtpieblkklbilgaaGreatQKM17
import Derived.Test.YtpieblkklbilgaaGreatQKM10
import Derived.Laws.EntriesVeiled
set_option linter.unusedVariables false
namespace Go.Proofs.YtpieblkklbilgaaGreat
open Go.RowKit Go.Front Go.Num Stab
attribute [local go_sem] XW.cell XW.frozen
end Go.Proofs.YtpieblkklbilgaaGreat
/- Powers and binomial coefficients. -/
set_option linter.unusedVariables false
namespace Go.Proofs.YtpieblkklbilgaaGreat
open Go.RowKit Go.Front Go.Num
attribute [local go_sem] XW.cell XW.frozen
end Go.Proofs.YtpieblkklbilgaaGreat
/- Package bernstein: Bound. -/
set_option linter.unusedVariables false
namespace Go.Proofs.YtpieblkklbilgaaGreat
open Go.RowKit Go.Front Go.Num Stab
attribute [local go_sem] XW.cell XW.frozen
end Go.Proofs.YtpieblkklbilgaaGreat
/- Package bernstein: what Range and Bound find, in plain words. -/
set_option linter.unusedVariables false
namespace Go.Proofs.YtpieblkklbilgaaGreat
open Go.Num Stab
def bcL (p:List Rat) (a b:Rat):List Rat:=row p.length (bcV p a (b - a))
theorem bcL_len (p:List Rat) (a b:Rat):(bcL p a b).length=p.length:=row_len _ _
theorem row_map (n:Nat) (f:Nat→Rat) (c:Rat):(row n f).map (c * ·)=row n (fun i=>c * f i):=by unfold row;rw [List.map_map];rfl
theorem lc_bcL (p:List Rat) (a b:Rat):lcW p a b=(bcL p a b).map (lcK p a b * ·):=by rw [lc_bc];unfold bcL;rw [row_map]
theorem mnF_mul {c:Rat} (hc:0 < c) (m x:Rat):mnF (c * m) (c * x)=c * mnF m x∧mxF (c * m) (c * x)=c * mxF m x:=by
 have key:∀ u v:Rat,c * u < c * v↔u < v:=fun u v=>Rat.mul_lt_mul_left hc
 unfold mnF mxF
 constructor
 ·by_cases h:x < m
  ·rw [if_pos h,if_pos ((key _ _).2 h)]
  ·rw [if_neg h,if_neg (fun h2=>h ((key _ _).1 h2))]
 ·by_cases h:m < x
  ·rw [if_pos h,if_pos ((key _ _).2 h)]
  ·rw [if_neg h,if_neg (fun h2=>h ((key _ _).1 h2))]
theorem fold_mul {c:Rat} (hc:0 < c) (l:List Rat):∀ m,(l.map (c * ·)).foldl mnF (c * m)=c * l.foldl mnF m∧(l.map (c * ·)).foldl mxF (c * m)=c * l.foldl mxF m:=by
 induction l with
 | nil=>intro m;exact ⟨rfl,rfl⟩
 | cons x l ih =>
  intro m
  simp only [List.map_cons,List.foldl_cons]
  rw [(mnF_mul hc m x).1,(mnF_mul hc m x).2]
  exact ⟨(ih _).1,(ih _).2⟩
theorem getD_mul (c:Rat) (l:List Rat) (i:Nat):(l.map (c * ·)).getD i 0=c * l.getD i 0:=by
 by_cases h:i < l.length
 ·simp [h]
 ·rw [getD_over' (by rw [List.length_map];omega),getD_over' (by omega)];grind
theorem mL_mul {c:Rat} (hc:0 < c) (l:List Rat):mnL (l.map (c * ·))=c * mnL l∧mxL (l.map (c * ·))=c * mxL l:=by
 unfold mnL mxL
 rw [getD_mul]
 exact fold_mul hc l _
theorem md_l (a b:Rat):mdV a b - a=(b - a) * hf∧b - mdV a b=(b - a) * hf∧mdV a b=a+(b - a) * hf:=by
 have h:=hf2
 have e:mdV a b=(a+b) * hf:=rfl
 rw [e]
 refine ⟨?_,?_,?_⟩ <;> grind
theorem hl_bc {p:List Rat} (hp:p ≠ []) (a b:Rat):hlL (bcL p a b)=(bcL p a (mdV a b)).map ((2:Rat) ^ (p.length - 1) * ·)∧hlR (bcL p a b)=(bcL p (mdV a b) b).map ((2:Rat) ^ (p.length - 1) * ·):=by
 have hl:0 < p.length:=List.length_pos_iff.2 hp
 obtain ⟨e1,e2,e3⟩:=md_l a b
 unfold hlL hlR
 rw [bcL_len]
 unfold bcL
 rw [row_map,row_map]
 have g:∀ j,j < p.length→(row p.length (bcV p a (b - a))).getD j 0=bcV p a (b - a) j:=fun j hj=>row_at _ hj
 constructor
 ·refine row_congr (fun j hj=>?_)
  show _ * lfb _ j=_
  rw [e1,← bc_left hp a (b - a) j hj]
  unfold lfb
  rw [csn_congr j hf (fun k _ hk=>g k (by omega))]
 ·refine row_congr (fun j hj=>?_)
  show _ * rtb _ _ j=_
  rw [e2,e3,← bc_right hp a (b - a) j hj]
  unfold rtb
  rw [csn_congr (p.length - 1 - j) hf (fun k _ hk=>g k (by omega))]
def rbn:Nat→List Rat→Rat→Rat→Rat
 | 0,p,a,b=>mnL (bcL p a b)
 | d+1,p,a,b=>mnF (rbn d p a (mdV a b)) (rbn d p (mdV a b) b)
def rbx:Nat→List Rat→Rat→Rat→Rat
 | 0,p,a,b=>mxL (bcL p a b)
 | d+1,p,a,b=>mxF (rbx d p a (mdV a b)) (rbx d p (mdV a b) b)
theorem lcK_can (p:List Rat) (a b:Rat):lcK p a b * (((1:Int):Rat) / lcK p a b)=1:=by
 have h:lcK p a b ≠ 0:=Rat.ne_of_gt (lcK_pos p a b)
 rw [show ((1:Int):Rat)=1 from rfl,Rat.div_def,Rat.one_mul,Rat.mul_inv_cancel _ h]
theorem cf_eq (p:List Rat) (a b:Rat):cfV p a b=bcL p a b:=by
 unfold cfV
 rw [lc_bcL,List.map_map]
 have hK:=lcK_can p a b
 refine (List.map_congr_left (fun x _=>?_)).trans (List.map_id _)
 show lcK p a b * x * _=x
 grind
theorem bcL_mem {p:List Rat} {a b:Rat} {i:Nat} (h:i < p.length):mnL (bcL p a b)≤bcV p a (b - a) i∧bcV p a (b - a) i≤mxL (bcL p a b):=by
 have:=mnL_le (l:=bcL p a b) (k:=i) (by rw [bcL_len];exact h)
 unfold bcL at this ⊢
 rwa [row_at _ h] at this
theorem bc_in {p:List Rat} (hp:p ≠ []) {a b t:Rat} (h0:0≤t) (h1:t≤1):mnL (bcL p a b)≤evV p (a+t * (b - a))∧evV p (a+t * (b - a))≤mxL (bcL p a b):=by
 have hl:0 < p.length:=List.length_pos_iff.2 hp
 rw [← bc_vl hp]
 exact ⟨vl_ge h0 h1 (fun j hj=>(bcL_mem (by omega)).1),vl_le h0 h1 (fun j hj=>(bcL_mem (by omega)).2)⟩
theorem mL_le_of {l:List Rat} {m M:Rat} (h:l ≠ []) (hm:∀ x ∈ l,m≤x∧x≤M):m≤mnL l∧mxL l≤M:=⟨(hm _ (mnL_mem h).1).1,(hm _ (mnL_mem h).2).2⟩
theorem mem_row {n:Nat} {f:Nat→Rat} {x:Rat} (h:x ∈ row n f):∃ i,i < n∧x=f i:=by
 obtain ⟨i,hi,rfl⟩:=List.mem_map.1 h
 exact ⟨i,List.mem_range.1 hi,rfl⟩
theorem bc_half {p:List Rat} (hp:p ≠ []) (a b:Rat):(mnL (bcL p a b)≤mnL (bcL p a (mdV a b))∧mxL (bcL p a (mdV a b))≤mxL (bcL p a b))∧(mnL (bcL p a b)≤mnL (bcL p (mdV a b) b)∧mxL (bcL p (mdV a b) b)≤mxL (bcL p a b)):=by
 have hl:0 < p.length:=List.length_pos_iff.2 hp
 obtain ⟨e1,e2,e3⟩:=md_l a b
 have hne:∀ x y,bcL p x y ≠ []:=fun x y h=>by have:=bcL_len p x y;rw [h] at this;simp at this;omega
 have h0:(0:Rat)≤hf:=by decide +kernel
 have h1:hf≤(1:Rat):=by decide +kernel
 constructor
 ·refine mL_le_of (hne _ _) (fun x hx=>?_)
  obtain ⟨i,hi,rfl⟩:=mem_row hx
  rw [e1,← bc_left hp a (b - a) i hi]
  exact ⟨csn_ge h0 h1 (fun j _ hj=>(bcL_mem (by omega)).1),csn_le h0 h1 (fun j _ hj=>(bcL_mem (by omega)).2)⟩
 ·refine mL_le_of (hne _ _) (fun x hx=>?_)
  obtain ⟨i,hi,rfl⟩:=mem_row hx
  rw [e2,e3,← bc_right hp a (b - a) i hi]
  exact ⟨csn_ge h0 h1 (fun j _ hj=>(bcL_mem (by omega)).1),csn_le h0 h1 (fun j _ hj=>(bcL_mem (by omega)).2)⟩
theorem md_le {a b:Rat} (h:a≤b):a≤mdV a b∧mdV a b≤b:=by
 obtain ⟨e1,e2,e3⟩:=md_l a b
 have h0:(0:Rat)≤hf:=by decide +kernel
 have:=Rat.mul_nonneg (show (0:Rat)≤b - a by grind) h0
 constructor <;> grind
theorem rb_in {p:List Rat} (hp:p ≠ []) (d:Nat):∀ a b x,a≤x→x≤b→rbn d p a b≤evV p x∧evV p x≤rbx d p a b:=by
 induction d with
 | zero =>
  intro a b x h1 h2
  by_cases hab:a=b
  ·subst hab
   have:x=a:=by grind
   subst this
   have:=bc_in hp (a:=x) (b:=x) (t:=0) (Rat.le_refl) (by decide)
   rwa [show x+0 * (x - x)=x by grind] at this
  ·have hw:0 < b - a:=by grind
   have hw0:b - a ≠ 0:=Rat.ne_of_gt hw
   have e:(x - a) / (b - a) * (b - a)=x - a:=by rw [Rat.div_def,Rat.mul_assoc,Rat.inv_mul_cancel _ hw0];grind
   have hi:0 < (b - a)⁻¹:=Rat.inv_pos.2 hw
   have t0:0≤(x - a) / (b - a):=by rw [Rat.div_def];exact Rat.mul_nonneg (by grind) (by grind)
   have t1:(x - a) / (b - a)≤1:=by
    have h3:(b - x) * (b - a)⁻¹=(b - a) * (b - a)⁻¹ - (x - a) * (b - a)⁻¹:=by grind
    have h4:=Rat.mul_nonneg (show (0:Rat)≤b - x by grind) (show (0:Rat)≤(b - a)⁻¹ by grind)
    rw [Rat.mul_inv_cancel _ hw0] at h3
    rw [Rat.div_def]
    grind
   have:=bc_in hp (a:=a) (b:=b) t0 t1
   rwa [e,show a+(x - a)=x by grind] at this
 | succ d ih =>
  intro a b x h1 h2
  unfold rbn rbx
  by_cases hm:x≤mdV a b
  ·have:=ih a (mdV a b) x h1 hm
   unfold mnF mxF
   constructor <;> split <;> grind
  ·have:=ih (mdV a b) b x (by grind) h2
   unfold mnF mxF
   constructor <;> split <;> grind
end Go.Proofs.YtpieblkklbilgaaGreat
