/- The document's numbers as whole numbers. -/
import Derived.Laws.BytesArg
import Derived.Test.YtkgagdjogedoiaaGreatNMt0
import Derived.Test.YtkgagdjogedoiaaGreatNNum
set_option linter.unusedVariables false
set_option linter.unusedSimpArgs false
namespace Go.Proofs.YtkgagdjogedoiaaGreat
open Go

def val:List Int→Int
  | []=>0
  | d :: t=>d+65536 * val t
def Dig (ds:List Int):Prop:=∀ d∈ds,0≤d∧d≤65535
theorem Dig.nil:Dig []:=fun d h=>by cases h
theorem Dig.cons {d:Int} {t:List Int} (h:0≤d∧d≤65535) (ht:Dig t):Dig (d :: t):=fun x hx=>by
  rcases List.mem_cons.1 hx with rfl|hx
  · exact h
  · exact ht x hx
theorem Dig.head {d:Int} {t:List Int} (h:Dig (d :: t)):0≤d∧d≤65535:=h d (by simp)
theorem Dig.tail {d:Int} {t:List Int} (h:Dig (d :: t)):Dig t:=fun x hx=>h x (by simp [hx])
theorem Dig.append {a b:List Int} (ha:Dig a) (hb:Dig b):Dig (a++b):=fun x hx=>(List.mem_append.1 hx).elim (ha x) (hb x)
theorem Dig.take {a:List Int} (ha:Dig a) (n:Nat):Dig (a.take n):=fun x hx=>ha x (List.mem_of_mem_take hx)
theorem Dig.snoc {a:List Int} {d:Int} (ha:Dig a) (h:0≤d∧d≤65535):Dig (a++[d]):=ha.append (Dig.cons h Dig.nil)
theorem Dig.at_ {a:List Int} (ha:Dig a) (i:Nat):0≤a.getD i 0∧a.getD i 0≤65535:=by
  rw [List.getD_eq_getElem?_getD]
  rcases Nat.lt_or_ge i a.length with h|h
  · rw [List.getElem?_eq_getElem h]
    exact ha _ (List.getElem_mem h)
  · rw [List.getElem?_eq_none h]
    exact ⟨Int.le_refl _,by decide⟩
theorem Dig.set {a:List Int} (ha:Dig a) (i:Nat) {d:Int} (h:0≤d∧d≤65535):Dig (a.set i d):=fun x hx=>by
  rcases List.mem_or_eq_of_mem_set hx with hx|rfl
  · exact ha x hx
  · exact h

theorem val_nonneg {ds:List Int} (h:Dig ds):0≤val ds:=by
  induction ds with
  | nil=>exact Int.le_refl _
  | cons d t ih =>
    have:=ih h.tail
    have:=h.head
    simp only [val]
    omega
theorem val_append (a b:List Int):val (a++b)=val a+65536 ^ a.length * val b:=by
  induction a with
  | nil=>simp [val]
  | cons d t ih =>
    simp only [List.cons_append,val,ih,List.length_cons,Int.pow_succ]
    rw [Int.mul_add,← Int.mul_assoc,Int.mul_comm (65536 ^ t.length) 65536]
    omega
theorem val_snoc (a:List Int) (d:Int):val (a++[d])=val a+65536 ^ a.length * d:=by
  rw [val_append];simp [val]
theorem pow_pos (n:Nat):(0:Int) < 65536 ^ n:=Int.pow_pos (by decide)
theorem val_lt {ds:List Int} (h:Dig ds):val ds < 65536 ^ ds.length:=by
  induction ds with
  | nil=>simp [val]
  | cons d t ih =>
    have h1:=ih h.tail
    have h2:=h.head
    simp only [val,List.length_cons,Int.pow_succ]
    omega
def NoZero (ds:List Int):Prop:=∀ i,i+1=ds.length→ds.getD i 0≠0
theorem val_ge {ds:List Int} (h:Dig ds) (hz:NoZero ds) (h0:ds≠[]):(65536:Int) ^ (ds.length - 1)≤val ds:=by
  have hl:0 < ds.length:=List.length_pos_iff.2 h0
  have h1:ds=ds.take (ds.length - 1)++[ds.getD (ds.length - 1) 0]:=by
    conv=>lhs;rw [← List.take_append_drop (ds.length - 1) ds]
    congr 1
    rw [List.drop_eq_getElem_cons (by omega)]
    rw [List.drop_of_length_le (by omega)]
    simp [List.getD_eq_getElem?_getD,List.getElem?_eq_getElem (show ds.length - 1 < ds.length by omega)]
  have h2:=hz (ds.length - 1) (by omega)
  have h3:=(h.at_ (ds.length - 1)).1
  have h4:=val_nonneg (h.take (ds.length - 1))
  have hlt:(ds.take (ds.length - 1)).length=ds.length - 1:=by rw [List.length_take];omega
  have hv:val ds=val (ds.take (ds.length - 1))+65536 ^ (ds.length - 1) * ds.getD (ds.length - 1) 0:=by
    have h7:=congrArg val h1
    rw [val_snoc,hlt] at h7
    exact h7
  rw [hv]
  generalize ds.getD (ds.length - 1) 0=x at h2 h3 hv
  have h6:=Int.mul_le_mul_of_nonneg_left (show (1:Int)≤x by omega) (Int.le_of_lt (pow_pos (ds.length - 1)))
  rw [Int.mul_one] at h6
  omega
theorem pow_le {a b:Nat} (h:a≤b):(65536:Int) ^ a≤65536 ^ b:=by
  obtain ⟨c,rfl⟩:=Nat.exists_eq_add_of_le h
  rw [Int.pow_add]
  have h1:=Int.mul_le_mul_of_nonneg_left (show (1:Int)≤65536 ^ c from pow_pos c) (Int.le_of_lt (pow_pos a))
  rw [Int.mul_one] at h1
  exact h1
theorem pow_lt_of {a b:Nat} (h:(65536:Int) ^ a < 65536 ^ b):a < b:=by
  rcases Nat.lt_or_ge a b with h1|h1
  · exact h1
  · have:=pow_le h1
    omega
theorem len_le {ds:List Int} (h:Dig ds) (hz:NoZero ds) {k:Nat} (hk:val ds < 65536 ^ k):ds.length≤k:=by
  cases ds with
  | nil=>exact Nat.zero_le _
  | cons d t =>
    have h1:=val_ge h hz (by simp)
    have h2:=pow_lt_of (Int.lt_of_le_of_lt h1 hk)
    simp at h2 ⊢
    omega
theorem val_pos {ds:List Int} (h:Dig ds) (hz:NoZero ds) (h0:ds≠[]):0 < val ds:=by
  have h1:=val_ge h hz h0
  have h2:=pow_pos (ds.length - 1)
  omega
theorem val_take_zero (ds:List Int) (n:Nat) (h:∀ i,n≤i→ds.getD i 0=0):val (ds.take n)=val ds:=by
  induction ds generalizing n with
  | nil=>simp
  | cons d t ih =>
    cases n with
    | zero =>
      have h0:=h 0 (Nat.le_refl _)
      have h1:=ih 0 (fun i _=>by have:=h (i+1) (by omega);simpa using this)
      simp only [List.take_zero] at h1 ⊢
      simp at h0
      simp only [val] at h1 ⊢
      omega
    | succ n =>
      have h1:=ih n (fun i hi=>by have:=h (i+1) (by omega);simpa using this)
      simp only [List.take_succ_cons,val,h1]
def sgn (z:Int):Int:=if z < 0 then -1 else if z=0 then 0 else 1
end Go.Proofs.YtkgagdjogedoiaaGreat
set_option linter.unusedVariables false
set_option linter.unusedSimpArgs false
namespace Go.Proofs.YtkgagdjogedoiaaGreat
open Go Go.RowKit Go.Proofs.YtkgagdjogedoiaaGreat.MT Go.Proofs.YtkgagdjogedoiaaGreatW.PrintWords Go.Proofs.YtkgagdjogedoiaaGreatW.PrintLast

def NumP (L:Nat) (b:Bool) (l:List Int) (z:Int):Prop:=Dig l∧NoZero l∧(b=true→l≠[])∧z=(if b then -val l else val l)∧l.length≤L
theorem NumP.mono {L L':Nat} {b:Bool} {l:List Int} {z:Int} (h:NumP L b l z) (hl:L≤L'):NumP L' b l z:=⟨h.1,h.2.1,h.2.2.1,h.2.2.2.1,by have:=h.2.2.2.2;omega⟩
theorem NumP.short {L k:Nat} {b:Bool} {l:List Int} {z:Int} (h:NumP L b l z) (h1 : -(65536:Int) ^ k < z) (h2:z < 65536 ^ k):NumP k b l z:=by
 obtain ⟨hd,hz,hm,hv,hl0⟩:=h
 refine ⟨hd,hz,hm,hv,len_le hd hz ?_⟩
 cases b
 ·simp at hv;omega
 ·simp at hv;omega
theorem w64 {x:Int} (h1 : -9223372036854775808≤x) (h2:x≤9223372036854775807):wrap64 x=x:=by unfold wrap64;omega
theorem take_fact {ds:List Int} {n:Nat} (hn:n≤ds.length) (hD:Dig ds) (hz:∀ i,n≤i→ds.getD i 0=0) (h0:n=0∨ds.getD (n - 1) 0≠0) :
  (ds.take n).length=n∧Dig (ds.take n)∧NoZero (ds.take n)∧val (ds.take n)=val ds:=by
 have hl:(ds.take n).length=n:=by rw [List.length_take];omega
 refine ⟨hl,hD.take n,?_,val_take_zero ds n hz⟩
 intro i hi
 rw [hl] at hi
 rcases h0 with h0|h0
 ·omega
 ·rw [show n - 1=i by omega] at h0
  intro h1
  apply h0
  rw [List.getD_eq_getElem?_getD,List.getElem?_take_of_lt (by omega)] at h1
  rw [List.getD_eq_getElem?_getD,h1]
theorem numP_of {b:Bool} {ds:List Int} {n:Nat} (hn:n≤ds.length) (hD:Dig ds) (hz:∀ i,n≤i→ds.getD i 0=0) (h0:n=0∨ds.getD (n - 1) 0≠0) :
  NumP ds.length (b && decide (0 < n)) (ds.take n) (if b then -val ds else val ds):=by
 obtain ⟨h1,h2,h3,h4⟩:=take_fact hn hD hz h0
 refine ⟨h2,h3,?_,?_,by omega⟩
 ·intro h
  simp at h
  intro h5
  rw [h5] at h1
  simp at h1
  omega
 ·rw [h4]
  cases b
  ·rfl
  ·by_cases hp:0 < n
   ·simp [hp]
   ·have hn0:n=0:=by omega
    subst hn0
    simp [val] at h4 ⊢
    omega
theorem rd_getD (l:List Int) (n:Nat):rd l (n:Int)=l.getD n 0:=by simp [rd]

theorem trim_loop (b:Bool) (l:List Int) (hD:Dig l) (hl:l.length≤1000000000):∀ n:Nat,n≤l.length→(∀ i,n≤i→l.getD i 0=0) →
  ∃ r:Bool × List Int,Ev (fun k=>parquetref01_trim.l0 k b l (n:Int)) r∧NumP l.length r.1 r.2 (if b then -val l else val l):=by
 intro n
 induction n with
 | zero =>
  intro hn hz
  have h:=numP_of (b:=b) hn hD hz (Or.inl rfl)
  refine ⟨(false,[]),?_,by simpa using h⟩
  refine Ev.step (f:=fun _=>some (false,[])) (fun k=>?_) (Ev.now _)
  simp only [parquetref01_trim.l0]
  cases b<;>simp
 | succ n ih =>
  intro hn hz
  have hw:wrap64 (((n+1:Nat):Int) - 1)=(n:Int):=by rw [w64 (by omega) (by omega)];omega
  by_cases h0:l.getD n 0=0
  ·obtain ⟨r,hr,hN⟩:=ih (by omega) (fun i hi=>by
    rcases Nat.lt_or_ge n i with h|h
    ·exact hz i h
    ·rw [show i=n by omega];exact h0)
   refine ⟨r,Ev.step (f:=fun k=>parquetref01_trim.l0 k b l (n:Int)) (fun k=>?_) hr,hN⟩
   simp only [parquetref01_trim.l0,hw,rd_getD,h0]
   rw [if_pos (by omega),if_pos (by omega),if_pos (by omega),if_pos trivial]
  ·have h:=numP_of (b:=b) hn hD hz (Or.inr (by simpa using h0))
   refine ⟨(b,l.take (n+1)),?_,by simpa using h⟩
   refine Ev.step (f:=fun _=>some (b,l.take (n+1))) (fun k=>?_) (Ev.now _)
   simp only [parquetref01_trim.l0,hw,rd_getD]
   rw [if_pos (by omega),if_pos (by omega),if_pos (by omega),if_neg h0]
   cases b
   ·rw [if_neg (by simp),if_pos (by omega),if_pos (by omega)]
    simp
   ·rw [if_pos rfl,if_pos (by omega),if_pos (by omega)]
    simp
theorem trim_ev (b:Bool) (l:List Int) (hD:Dig l) (hl:l.length≤1000000000):∃ r:Bool × List Int,Ev (fun k=>parquetref01_trim.f k b l) r∧NumP l.length r.1 r.2 (if b then -val l else val l) :=
 trim_loop b l hD hl l.length (Nat.le_refl _) (fun i hi=>by rw [List.getD_eq_getElem?_getD,List.getElem?_eq_none hi];rfl)

theorem digit_step (o:List Int) (x:Int):val (o++[x % 65536])+65536 ^ (o++[x % 65536]).length * (x / 65536)=val o+65536 ^ o.length * x:=by
 rw [val_snoc,List.length_append,List.length_singleton,Int.pow_succ,Int.mul_assoc,Int.add_assoc,← Int.mul_add]
 congr 2
 exact Int.emod_add_mul_ediv x 65536
theorem small_loop (z:Int) (b:Bool) (hb:decide (z < 0)=b):∀ (m x:Nat),x≤m→∀ o:List Int,Dig o→o.length≤4→x≤9223372036854775808→(b=false→x≤9223372036854775807)→(0 < x→o.length < 4)→val o+65536 ^ o.length * (x:Int) < 65536 ^ 4 →
  ∃ r:Bool × List Int,Ev (fun k=>parquetref01_Small.l0 k z o (if b then -(x:Int) else x)) r∧NumP 4 r.1 r.2 (if b then -(val o+65536 ^ o.length * (x:Int)) else val o+65536 ^ o.length * (x:Int)):=by
 intro m
 induction m with
 | zero =>
  intro x hx o hD hl hx1 hx2 hx3 hlt
  obtain rfl:x=0:=by omega
  obtain ⟨r,hr,hN⟩:=trim_ev b o hD (by omega)
  refine ⟨r,?_,?_⟩
  ·refine Ev.step (f:=fun k=>(parquetref01_trim.f k b o).bind fun bt=>some (bt.1,bt.2)) (fun k=>?_) (Ev.bind hr (Ev.now r))
   simp only [parquetref01_Small.l0,hb]
   cases b<;>simp
  ·have h4:=hN.mono hl
   cases b<;>simpa using h4
 | succ m ih =>
  intro x hx o hD hl hx1 hx2 hx3 hlt
  by_cases h0:x=0
  ·exact ih x (by omega) o hD hl hx1 hx2 hx3 hlt
  ·have hr0:(0:Int)≤(x:Int) % 65536∧(x:Int) % 65536≤65535:=by omega
   have hds:=digit_step o (x:Int)
   have hol:=hx3 (by omega)
   have hx':((x / 65536:Nat):Int)=(x:Int) / 65536:=by omega
   obtain ⟨r,hr,hN⟩:=ih (x / 65536) (by omega) (o++[(x:Int) % 65536]) (hD.snoc hr0) (by simp;omega) (by omega) (by intro;omega) (by
     intro hp
     apply pow_lt_of
     rw [← hds] at hlt
     have h1:=val_nonneg (hD.snoc hr0)
     have h2:=Int.mul_le_mul_of_nonneg_left (show (1:Int)≤(x:Int) / 65536 by omega) (Int.le_of_lt (pow_pos (o++[(x:Int) % 65536]).length))
     rw [Int.mul_one] at h2
     omega) (by rw [hx',hds];exact hlt)
   rw [hx',hds] at hN
   refine ⟨r,Ev.step (f:=fun k=>parquetref01_Small.l0 k z (o++[(x:Int) % 65536]) (if b then -((x / 65536:Nat):Int) else ((x / 65536:Nat):Int))) (fun k=>?_) hr,hN⟩
   simp only [parquetref01_Small.l0]
   cases b
   ·have e1:Int.tmod (x:Int) 65536=(x:Int) % 65536:=Int.tmod_eq_emod_of_nonneg (by omega)
    have e2:Int.tdiv (x:Int) 65536=(x:Int) / 65536:=Int.tdiv_eq_ediv_of_nonneg (by omega)
    simp only [Bool.false_eq_true,if_false,e1,e2]
    rw [if_neg (by omega),if_neg (by omega),if_pos (by omega),w64 (by omega) (by omega),hx']
   ·have e1:Int.tmod (-(x:Int)) 65536 = -((x:Int) % 65536):=by rw [Int.neg_tmod,Int.tmod_eq_emod_of_nonneg (by omega)]
    have e2:Int.tdiv (-(x:Int)) 65536 = -((x:Int) / 65536):=by rw [Int.neg_tdiv,Int.tdiv_eq_ediv_of_nonneg (by omega)]
    simp only [if_true,e1,e2]
    rw [if_neg (by omega)]
    by_cases hz:(x:Int) % 65536=0
    ·rw [hz,if_neg (by decide),if_pos (by omega),w64 (by omega) (by omega),hx']
     simp
    ·rw [if_pos (by omega),if_pos (by omega),w64 (x := - -((x:Int) % 65536)) (by omega) (by omega),w64 (by omega) (by omega),hx',Int.neg_neg]
theorem small_ev (z:Int) (h0 : -9223372036854775808≤z) (h1:z≤9223372036854775807):∃ r:Bool × List Int,Ev (fun k=>parquetref01_Small.f k z) r∧NumP 4 r.1 r.2 z:=by
 have h4:(65536:Int) ^ 4=18446744073709551616:=by decide
 by_cases hz:z < 0
 ·obtain ⟨r,hr,hN⟩:=small_loop z true (decide_eq_true hz) z.natAbs z.natAbs (Nat.le_refl _) [] Dig.nil (by simp) (by omega) (by intro h;cases h) (by intro;simp) (by simp [val];omega)
  refine ⟨r,?_,?_⟩
  ·rw [show (if true=true then -(z.natAbs:Int) else (z.natAbs:Int))=z by rw [if_pos rfl];omega] at hr
   exact hr
  ·rw [show (if true=true then -(val []+65536 ^ ([]:List Int).length * (z.natAbs:Int)) else val []+65536 ^ ([]:List Int).length * (z.natAbs:Int))=z by rw [if_pos rfl];simp [val];omega] at hN
   exact hN
 ·obtain ⟨r,hr,hN⟩:=small_loop z false (decide_eq_false hz) z.natAbs z.natAbs (Nat.le_refl _) [] Dig.nil (by simp) (by omega) (by intro;omega) (by intro;simp) (by simp [val];omega)
  refine ⟨r,?_,?_⟩
  ·rw [show (if false=true then -(z.natAbs:Int) else (z.natAbs:Int))=z by rw [if_neg (by decide)];omega] at hr
   exact hr
  ·rw [show (if false=true then -(val []+65536 ^ ([]:List Int).length * (z.natAbs:Int)) else val []+65536 ^ ([]:List Int).length * (z.natAbs:Int))=z by rw [if_neg (by decide)];simp [val];omega] at hN
   exact hN
theorem digit_eq (l:List Int) (i:Nat):parquetref01_digit.f l (i:Int)=some (l.getD i 0):=by
 unfold parquetref01_digit.f
 by_cases h:i < l.length
 ·rw [if_pos (by omega),if_pos (by omega),rd_getD]
 ·rw [if_neg (by omega),List.getD_eq_getElem?_getD,List.getElem?_eq_none (by omega)];rfl
end Go.Proofs.YtkgagdjogedoiaaGreat
set_option linter.unusedVariables false
set_option linter.unusedSimpArgs false
namespace Go.Proofs.YtkgagdjogedoiaaGreat
open Go Go.RowKit Go.Proofs.YtkgagdjogedoiaaGreat.MT Go.Proofs.YtkgagdjogedoiaaGreatW.PrintWords Go.Proofs.YtkgagdjogedoiaaGreatW.PrintLast

theorem val_split (ds:List Int) (i:Nat):val ds=val (ds.take i)+65536 ^ (ds.take i).length * val (ds.drop i):=by
 conv=>lhs;rw [← List.take_append_drop i ds]
 rw [val_append]
theorem val_drop {ds:List Int} {i:Nat} (h:i < ds.length):val (ds.drop i)=ds.getD i 0+65536 * val (ds.drop (i+1)):=by
 rw [List.drop_eq_getElem_cons h,val,List.getD_eq_getElem?_getD,List.getElem?_eq_getElem h];rfl
theorem drop_same {a b:List Int} (hl:a.length=b.length) (i:Nat) (h:∀ j,i < j→a.getD j 0=b.getD j 0):a.drop (i+1)=b.drop (i+1):=by
 apply List.ext_getElem?
 intro n
 rw [List.getElem?_drop,List.getElem?_drop]
 have h1:=h (i+1+n) (by omega)
 rw [List.getD_eq_getElem?_getD,List.getD_eq_getElem?_getD] at h1
 rcases Nat.lt_or_ge (i+1+n) a.length with h2|h2
 ·rw [List.getElem?_eq_getElem h2,List.getElem?_eq_getElem (by omega)] at h1 ⊢
  simpa using h1
 ·rw [List.getElem?_eq_none h2,List.getElem?_eq_none (by omega)]
theorem cmp_at {a b:List Int} (ha:Dig a) (hb:Dig b) (hl:a.length=b.length) (i:Nat) (hi:i < a.length) (h:∀ j,i < j→a.getD j 0=b.getD j 0)
  (hd:a.getD i 0 < b.getD i 0):val a < val b:=by
 have h1:=val_split a i
 have h2:=val_split b i
 rw [val_drop hi,drop_same hl i h] at h1
 rw [val_drop (by omega)] at h2
 have h3:=val_lt (ha.take i)
 have h4:=val_nonneg (hb.take i)
 have hla:(a.take i).length=i:=by rw [List.length_take];omega
 have hlb:(b.take i).length=i:=by rw [List.length_take];omega
 rw [hla] at h1 h3
 rw [hlb] at h2
 have h5:=Int.mul_le_mul_of_nonneg_left (show a.getD i 0+65536 * val (b.drop (i+1))+1≤b.getD i 0+65536 * val (b.drop (i+1)) by omega) (Int.le_of_lt (pow_pos i))
 rw [Int.mul_add,Int.mul_one] at h5
 omega
theorem cmp_len {a b:List Int} (ha:Dig a) (hb:Dig b) (hz:NoZero b) (hl:a.length < b.length):val a < val b:=by
 have h1:=val_lt ha
 have h2:=val_ge hb hz (by intro h;subst h;simp at hl)
 have h3:=pow_le (show a.length≤b.length - 1 by omega)
 omega
theorem all_same {a b:List Int} (hl:a.length=b.length) (h:∀ j:Nat,a.getD j 0=b.getD j 0):a=b:=by
 have h1:=drop_same (a:=0 :: a) (b:=0 :: b) (by simp [hl]) 0 (fun j hj=>by
  obtain ⟨k,rfl⟩:∃ k,j=k+1:=⟨j - 1,by omega⟩
  have h2:=h k
  simpa using h2)
 simpa using h1
theorem val_take_succ (l:List Int):∀ i,val (l.take (i+1))=val (l.take i)+65536 ^ i * l.getD i 0:=by
 induction l with
 | nil=>intro i;simp [val]
 | cons d t ih =>
  intro i
  cases i with
  | zero=>simp [val]
  | succ i =>
   have:=ih i
   simp only [List.take_succ_cons,val,List.getD_cons_succ,Int.pow_succ]
   rw [this]
   grind
theorem take_all {l:List Int} {i:Nat} (h:l.length≤i):l.take i=l:=List.take_of_length_le h
theorem getD_none {l:List Int} {i:Nat} (h:l.length≤i):l.getD i 0=0:=by rw [List.getD_eq_getElem?_getD,List.getElem?_eq_none h];rfl

theorem plus_loop (b b':Bool) (xs ys:List Int) (dx:Dig xs) (dy:Dig ys) (hx:xs.length≤1000000) (hy:ys.length≤1000000) (M:Nat) (hM:M=max xs.length ys.length):∀ (m i:Nat) (o:List Int) (c:Int),o.length=i→Dig o→0≤c→c≤1→i≤M+1→(i=M+1→c=0)→M+1 - i≤m→val o+65536 ^ i * c=val (xs.take i)+val (ys.take i) →
  ∃ r:Bool × List Int,Ev (fun k=>parquetref01_Num_Plus.l0 k o c (i:Int) b xs b' ys) r∧NumP (M+1) r.1 r.2 (if b then -(val xs+val ys) else val xs+val ys):=by
 intro m
 induction m with
 | zero =>
  intro i o c hl hD h0 h1 hi hc hm hv
  obtain rfl:i=M+1:=by omega
  have hc0:=hc rfl
  subst hc0
  rw [take_all (by omega),take_all (by omega),Int.mul_zero,Int.add_zero] at hv
  obtain ⟨r,hr,hN⟩:=trim_ev b o hD (by omega)
  rw [hv,hl] at hN
  refine ⟨r,?_,hN⟩
  refine Ev.step (f:=fun k=>parquetref01_Num_Plus.j1 k o 0 ((M+1:Nat):Int) false b xs b' ys) (fun k=>?_) (Ev.step (f:=fun k=>(parquetref01_trim.f k b o).bind fun bt=>some (bt.1,bt.2)) (fun k=>?_) (Ev.bind hr (Ev.now r)))
  ·simp only [parquetref01_Num_Plus.l0]
   rw [if_neg (by omega),if_neg (by omega)]
   simp
  ·simp only [parquetref01_Num_Plus.j1]
   simp
 | succ m ih =>
  intro i o c hl hD h0 h1 hi hc hm hv
  by_cases hend:xs.length≤i∧ys.length≤i∧c=0
  ·obtain ⟨e1,e2,rfl⟩:=hend
   rw [take_all e1,take_all e2,Int.mul_zero,Int.add_zero] at hv
   obtain ⟨r,hr,hN⟩:=trim_ev b o hD (by omega)
   rw [hv,hl] at hN
   refine ⟨r,?_,hN.mono (by omega)⟩
   refine Ev.step (f:=fun k=>parquetref01_Num_Plus.j1 k o 0 (i:Int) false b xs b' ys) (fun k=>?_) (Ev.step (f:=fun k=>(parquetref01_trim.f k b o).bind fun bt=>some (bt.1,bt.2)) (fun k=>?_) (Ev.bind hr (Ev.now r)))
   ·simp only [parquetref01_Num_Plus.l0]
    rw [if_neg (by omega),if_neg (by omega)]
    simp
   ·simp only [parquetref01_Num_Plus.j1]
    simp
  ·have hiM:i≤M:=by
    rcases Nat.lt_or_ge M i with h|h
    ·exact absurd ⟨by omega,by omega,hc (by omega)⟩ hend
    ·exact h
   have gx:=dx.at_ i
   have gy:=dy.at_ i
   obtain ⟨x,hxd⟩:∃ x,x=xs.getD i 0+ys.getD i 0+c:=⟨_,rfl⟩
   have hstep:=digit_step o x
   have t1:=val_take_succ xs i
   have t2:=val_take_succ ys i
   obtain ⟨r,hr,hN⟩:=ih (i+1) (o++[x % 65536]) (x / 65536) (by simp [hl]) (hD.snoc (by omega)) (by omega) (by omega) (by omega) (by
     intro hi2
     have:xs.getD i 0=0:=getD_none (by omega)
     have:ys.getD i 0=0:=getD_none (by omega)
     omega) (by omega) (by
     have hl2:(o++[x % 65536]).length=i+1:=by simp [hl]
     rw [hl2,hl] at hstep
     rw [hstep,t1,t2,hxd]
     grind)
   refine ⟨r,?_,hN⟩
   refine Ev.step (f:=fun k=>parquetref01_Num_Plus.j1 k o c (i:Int) true b xs b' ys) (fun k=>?_) (Ev.step (f:=fun k=>parquetref01_Num_Plus.l0 k (o++[x % 65536]) (x / 65536) ((i+1:Nat):Int) b xs b' ys) (fun k=>?_) hr)
   ·simp only [parquetref01_Num_Plus.l0]
    by_cases e1:i < xs.length
    ·rw [if_pos (by omega)]
    ·rw [if_neg (by omega)]
     by_cases e2:i < ys.length
     ·rw [if_pos (by omega)]
     ·rw [if_neg (by omega),show decide (c > 0)=true from decide_eq_true (by
       have:c≠0:=fun h=>hend ⟨by omega,by omega,h⟩
       omega)]
   ·simp only [parquetref01_Num_Plus.j1,digit_eq,Option.bind_some,if_true]
    rw [if_pos (by omega),w64 (x:=xs.getD i 0+ys.getD i 0) (by omega) (by omega),w64 (x:=xs.getD i 0+ys.getD i 0+c) (by omega) (by omega),← hxd,Int.tmod_eq_emod_of_nonneg (by omega),Int.tdiv_eq_ediv_of_nonneg (by omega),w64 (x:=x / 65536) (by omega) (by omega),w64 (x:=(i:Int)+1) (by omega) (by omega)]
    rfl

theorem size_loop (xs ys:List Int) (dx:Dig xs) (dy:Dig ys) (hl:xs.length=ys.length) (hx:xs.length≤1000000):∀ n:Nat,n≤xs.length→(∀ j,n≤j→xs.getD j 0=ys.getD j 0) →
  ∃ r:Int,Ev (fun k=>parquetref01_size.l0 k xs ys ((n:Int) - 1)) r∧(r < 0↔val xs < val ys):=by
 intro n
 induction n with
 | zero =>
  intro hn h
  refine ⟨0,Ev.step (f:=fun _=>some 0) (fun k=>?_) (Ev.now _),?_⟩
  ·simp only [parquetref01_size.l0]
   rw [if_neg (by omega)]
  ·rw [all_same hl (fun j=>h j (by omega))]
   omega
 | succ n ih =>
  intro hn h
  have e:((n+1:Nat):Int) - 1=(n:Int):=by omega
  rw [e]
  by_cases hd:xs.getD n 0=ys.getD n 0
  ·obtain ⟨r,hr,hN⟩:=ih (by omega) (fun j hj=>by
    rcases Nat.lt_or_ge n j with h1|h1
    ·exact h j h1
    ·rw [show j=n by omega];exact hd)
   refine ⟨r,Ev.step (f:=fun k=>parquetref01_size.l0 k xs ys ((n:Int) - 1)) (fun k=>?_) hr,hN⟩
   simp only [parquetref01_size.l0,rd_getD]
   rw [if_pos (by omega),if_pos (by omega),if_pos (by omega),if_pos (by omega),if_pos hd,w64 (by omega) (by omega)]
  ·have gx:=dx.at_ n
   have gy:=dy.at_ n
   refine ⟨xs.getD n 0 - ys.getD n 0,Ev.step (f:=fun _=>some (xs.getD n 0 - ys.getD n 0)) (fun k=>?_) (Ev.now _),?_⟩
   ·simp only [parquetref01_size.l0,rd_getD]
    rw [if_pos (by omega),if_pos (by omega),if_pos (by omega),if_pos (by omega),if_neg hd,w64 (by omega) (by omega)]
   ·rcases Int.lt_or_le (xs.getD n 0) (ys.getD n 0) with h5|h5
    ·have:=cmp_at dx dy hl n (by omega) (fun j hj=>h j hj) h5
     omega
    ·have:=cmp_at dy dx hl.symm n (by omega) (fun j hj=>(h j hj).symm) (by omega)
     omega
theorem size_ev (xs ys:List Int) (dx:Dig xs) (dy:Dig ys) (zx:NoZero xs) (zy:NoZero ys) (hx:xs.length≤1000000) (hy:ys.length≤1000000):∃ r:Int,Ev (fun k=>parquetref01_size.f k xs ys) r∧(r < 0↔val xs < val ys):=by
 by_cases hl:xs.length=ys.length
 ·obtain ⟨r,hr,h⟩:=size_loop xs ys dx dy hl hx xs.length (Nat.le_refl _) (fun j hj=>by rw [getD_none hj,getD_none (by omega)])
  refine ⟨r,Ev.congr (fun k=>?_) hr,h⟩
  unfold parquetref01_size.f
  rw [if_pos (by omega),w64 (by omega) (by omega)]
 ·refine ⟨(xs.length:Int) - ys.length,Ev.congr (fun k=>?_) (Ev.now _),?_⟩
  ·unfold parquetref01_size.f
   rw [if_neg (by omega),w64 (by omega) (by omega)]
  ·rcases Nat.lt_or_ge xs.length ys.length with h|h
   ·have:=cmp_len dx dy zy h
    omega
   ·have:=cmp_len dy dx zx (by omega)
    omega

theorem minus_loop (b b':Bool) (xs ys:List Int) (dx:Dig xs) (dy:Dig ys) (zy:NoZero ys) (zx:NoZero xs) (hx:xs.length≤1000000) (hle:val ys≤val xs):∀ (m i:Nat) (o:List Int) (c:Int),o.length=i→Dig o→0≤c→c≤1→i≤xs.length→xs.length - i≤m→val o - 65536 ^ i * c=val (xs.take i) - val (ys.take i) →
  ∃ r:Bool × List Int,Ev (fun k=>parquetref01_Num_Plus.l1 k o c (i:Int) b xs b' ys) r∧NumP xs.length r.1 r.2 (if b then -(val xs - val ys) else val xs - val ys):=by
 have hlen:ys.length≤xs.length:=by
  rcases Nat.lt_or_ge xs.length ys.length with h|h
  ·have:=cmp_len dx dy zy h
   omega
  ·exact h
 intro m
 induction m with
 | zero =>
  intro i o c hl hD h0 h1 hi hm hv
  obtain rfl:i=xs.length:=by omega
  rw [take_all (Nat.le_refl _),take_all hlen] at hv
  have hlt:=val_lt hD
  have hp:=pow_pos xs.length
  rw [hl] at hlt
  have hc:c=0:=by
   rcases (show c=0∨c=1 by omega) with h|h
   ·exact h
   ·subst h
    rw [Int.mul_one] at hv
    omega
  subst hc
  rw [Int.mul_zero,Int.sub_zero] at hv
  obtain ⟨r,hr,hN⟩:=trim_ev b o hD (by omega)
  rw [hv,hl] at hN
  refine ⟨r,?_,hN⟩
  refine Ev.step (f:=fun k=>(parquetref01_trim.f k b o).bind fun bt=>some (bt.1,bt.2)) (fun k=>?_) (Ev.bind hr (Ev.now r))
  simp only [parquetref01_Num_Plus.l1]
  rw [if_neg (by omega)]
 | succ m ih =>
  intro i o c hl hD h0 h1 hi hm hv
  by_cases hend:i=xs.length
  ·exact ih i o c hl hD h0 h1 hi (by omega) hv
  ·have gx:=dx.at_ i
   have gy:=dy.at_ i
   have t1:=val_take_succ xs i
   have t2:=val_take_succ ys i
   obtain ⟨x,hxd⟩:∃ x,x=xs.getD i 0 - ys.getD i 0 - c:=⟨_,rfl⟩
   by_cases hneg:x < 0
   ·obtain ⟨r,hr,hN⟩:=ih (i+1) (o++[x+65536]) 1 (by simp [hl]) (hD.snoc (by omega)) (by omega) (by omega) (by omega) (by omega) (by
     rw [val_snoc,hl,t1,t2,Int.pow_succ]
     grind)
    refine ⟨r,Ev.step (f:=fun k=>parquetref01_Num_Plus.l1 k (o++[x+65536]) 1 ((i+1:Nat):Int) b xs b' ys) (fun k=>?_) hr,hN⟩
    simp only [parquetref01_Num_Plus.l1,digit_eq,Option.bind_some,rd_getD]
    rw [if_pos (by omega),if_pos (by omega),w64 (x:=xs.getD i 0 - ys.getD i 0) (by omega) (by omega),w64 (x:=xs.getD i 0 - ys.getD i 0 - c) (by omega) (by omega),← hxd,if_pos hneg,if_pos (by omega),w64 (x:=x+65536) (by omega) (by omega),w64 (x:=(i:Int)+1) (by omega) (by omega)]
    rfl
   ·obtain ⟨r,hr,hN⟩:=ih (i+1) (o++[x]) 0 (by simp [hl]) (hD.snoc (by omega)) (by omega) (by omega) (by omega) (by omega) (by
     rw [val_snoc,hl,t1,t2,Int.pow_succ]
     grind)
    refine ⟨r,Ev.step (f:=fun k=>parquetref01_Num_Plus.l1 k (o++[x]) 0 ((i+1:Nat):Int) b xs b' ys) (fun k=>?_) hr,hN⟩
    simp only [parquetref01_Num_Plus.l1,digit_eq,Option.bind_some,rd_getD]
    rw [if_pos (by omega),if_pos (by omega),w64 (x:=xs.getD i 0 - ys.getD i 0) (by omega) (by omega),w64 (x:=xs.getD i 0 - ys.getD i 0 - c) (by omega) (by omega),← hxd,if_neg hneg,if_pos (by omega),w64 (x:=(i:Int)+1) (by omega) (by omega)]
    rfl

theorem plus_ev {L1 L2:Nat} {b1 b2:Bool} {l1 l2:List Int} {z1 z2:Int} (h1:NumP L1 b1 l1 z1) (h2:NumP L2 b2 l2 z2) (hl1:L1≤1000000) (hl2:L2≤1000000) :
  ∃ r:Bool × List Int,Ev (fun k=>parquetref01_Num_Plus.f k b1 l1 b2 l2) r∧NumP (max L1 L2+1) r.1 r.2 (z1+z2):=by
 obtain ⟨d1,n1,m1,v1,e1⟩:=h1
 obtain ⟨d2,n2,m2,v2,e2⟩:=h2
 by_cases hs:b1=b2
 ·subst hs
  obtain ⟨r,hr,hN⟩:=plus_loop b1 b1 l1 l2 d1 d2 (by omega) (by omega) _ rfl (max l1.length l2.length+1) 0 [] 0 rfl Dig.nil (Int.le_refl _) (by omega) (by omega) (by omega) (by omega) (by simp [val])
  refine ⟨r,Ev.congr (fun k=>?_) hr,?_⟩
  ·unfold parquetref01_Num_Plus.f
   rw [if_pos (by simp)]
   rfl
  ·rw [show z1+z2=(if b1 then -(val l1+val l2) else val l1+val l2) by rw [v1,v2];cases b1<;>simp<;>omega]
   exact hN.mono (by omega)
 ·obtain ⟨q,hq,hqs⟩:=size_ev l1 l2 d1 d2 n1 n2 (by omega) (by omega)
  by_cases hq0:q < 0
  ·obtain ⟨r,hr,hN⟩:=minus_loop b2 b1 l2 l1 d2 d1 n1 n2 (by omega) (by have:=hqs.1 hq0;omega) l2.length 0 [] 0 rfl Dig.nil (Int.le_refl _) (by omega) (by omega) (by omega) (by simp [val])
   refine ⟨r,?_,?_⟩
   ·refine Ev.congr (f:=fun k=>(parquetref01_size.f k l1 l2).bind fun t=>(if t < 0 then (parquetref01_Num_Plus.j2 k ([]:List Int) 0 b2 l2 b1 l1) else (parquetref01_Num_Plus.j2 k ([]:List Int) 0 b1 l1 b2 l2))) (fun k=>?_) (Ev.bind hq (Ev.congr (f:=fun k=>parquetref01_Num_Plus.j2 k ([]:List Int) 0 b2 l2 b1 l1) (fun k=>by rw [if_pos hq0]) (Ev.step (fun k=>by simp only [parquetref01_Num_Plus.j2];rfl) hr)))
    unfold parquetref01_Num_Plus.f
    rw [if_neg (by simpa using hs)]
   ·rw [show z1+z2=(if b2 then -(val l2 - val l1) else val l2 - val l1) by rw [v1,v2];cases b1<;>cases b2<;>simp at hs ⊢<;>omega]
    exact hN.mono (by omega)
  ·obtain ⟨r,hr,hN⟩:=minus_loop b1 b2 l1 l2 d1 d2 n2 n1 (by omega) (by have:=mt hqs.2 hq0;omega) l1.length 0 [] 0 rfl Dig.nil (Int.le_refl _) (by omega) (by omega) (by omega) (by simp [val])
   refine ⟨r,?_,?_⟩
   ·refine Ev.congr (f:=fun k=>(parquetref01_size.f k l1 l2).bind fun t=>(if t < 0 then (parquetref01_Num_Plus.j2 k ([]:List Int) 0 b2 l2 b1 l1) else (parquetref01_Num_Plus.j2 k ([]:List Int) 0 b1 l1 b2 l2))) (fun k=>?_) (Ev.bind hq (Ev.congr (f:=fun k=>parquetref01_Num_Plus.j2 k ([]:List Int) 0 b1 l1 b2 l2) (fun k=>by rw [if_neg hq0]) (Ev.step (fun k=>by simp only [parquetref01_Num_Plus.j2];rfl) hr)))
    unfold parquetref01_Num_Plus.f
    rw [if_neg (by simpa using hs)]
   ·rw [show z1+z2=(if b1 then -(val l1 - val l2) else val l1 - val l2) by rw [v1,v2];cases b1<;>cases b2<;>simp at hs ⊢<;>omega]
    exact hN.mono (by omega)
theorem neg_eq {L:Nat} {b:Bool} {l:List Int} {z:Int} (h:NumP L b l z):∃ r:Bool × List Int,parquetref01_Num_Neg.f b l=some r∧NumP L r.1 r.2 (-z):=by
 obtain ⟨d,n,m,v,e⟩:=h
 unfold parquetref01_Num_Neg.f
 cases b
 ·rw [if_neg (by decide)]
  refine ⟨_,rfl,d,n,?_,?_,e⟩
  ·intro h1 h2
   subst h2
   simp at h1
  ·rw [v]
   cases l with
   | nil=>simp [val]
   | cons a t=>simp
 ·rw [if_pos rfl]
  exact ⟨_,rfl,d,n,(fun h=>by cases h),(by rw [v];simp),e⟩
theorem sign_eq {L:Nat} {b:Bool} {l:List Int} {z:Int} (h:NumP L b l z):parquetref01_Num_Sign.f b l=some (sgn z):=by
 obtain ⟨d,n,m,v,e⟩:=h
 unfold parquetref01_Num_Sign.f sgn
 cases l with
 | nil =>
  rw [if_pos (by simp),v]
  cases b<;>simp [val]
 | cons a t =>
  have hp:=val_pos d n (by simp)
  rw [if_neg (by simp;omega),v]
  cases b
  ·simp only [Bool.false_eq_true,if_false]
   rw [if_neg (by omega),if_neg (by omega)]
  ·simp only [if_true]
   rw [if_pos (by omega)]
end Go.Proofs.YtkgagdjogedoiaaGreat
set_option linter.unusedVariables false
set_option linter.unusedSimpArgs false
namespace Go.Proofs.YtkgagdjogedoiaaGreat
open Go Go.RowKit Go.Proofs.YtkgagdjogedoiaaGreat.MT Go.Proofs.YtkgagdjogedoiaaGreatW.PrintWords Go.Proofs.YtkgagdjogedoiaaGreatW.PrintLast

theorem val_set (l:List Int):∀ (j:Nat) (v:Int),j < l.length→val (l.set j v)=val l+65536 ^ j * (v - l.getD j 0):=by
  induction l with
  | nil=>intro j v h;simp at h
  | cons d t ih =>
    intro j v h
    cases j with
    | zero=>simp [val];omega
    | succ j =>
      have:=ih j v (by simpa using h)
      simp only [List.set_cons_succ,val,List.getD_cons_succ,Int.pow_succ]
      rw [this]
      grind
theorem getD_set (l:List Int) (j k:Nat) (v:Int) (h:k≠j):(l.set j v).getD k 0=l.getD k 0:=by
  rw [List.getD_eq_getElem?_getD,List.getElem?_set_ne (fun e=>h e.symm),← List.getD_eq_getElem?_getD]
theorem val_zeros (n:Nat):val (List.replicate n 0)=0:=by
  induction n with
  | zero=>rfl
  | succ n ih=>rw [List.replicate_succ,val,ih];rfl
theorem dig_zeros (n:Nat):Dig (List.replicate n 0):=fun d h=>by
  rw [List.mem_replicate] at h
  omega
theorem times_row (b b':Bool) (xs ys:List Int) (dx:Dig xs) (dy:Dig ys) (hx:xs.length≤1000000) (hy:ys.length≤1000000) (i:Nat) (hi:i < xs.length) (V0:Int):∀ (m k:Nat) (d:List Int) (c:Int),d.length=xs.length+ys.length+1→Dig d→0≤c→c≤65535→k≤ys.length+1→(k=ys.length+1→c=0)→ys.length+1 - k≤m→(∀ j,i+ys.length≤j→i+k≤j→d.getD j 0=0) →
    val d+65536 ^ i * (65536 ^ k * c)=V0+65536 ^ i * (xs.getD i 0 * val (ys.take k)) →
    ∃ d',d'.length=xs.length+ys.length+1∧Dig d'∧(∀ j,i+1+ys.length≤j→d'.getD j 0=0)∧val d'=V0+65536 ^ i * (xs.getD i 0 * val ys)∧∀ Q:Bool × List Int,Ev (fun k=>parquetref01_Num_Times.l0 k d' ((i+1:Nat):Int) b xs b' ys) Q →
    Ev (fun n=>parquetref01_Num_Times.l1 n d (i:Int) c (k:Int) b xs b' ys) Q:=by
  intro m
  induction m with
  | zero =>
    intro k d c hl hD h0 h1 hk hc hm hz hv
    obtain rfl:k=ys.length+1:=by omega
    have hc0:=hc rfl
    subst hc0
    rw [take_all (by omega),Int.mul_zero,Int.mul_zero,Int.add_zero] at hv
    refine ⟨d,hl,hD,fun j hj=>hz j (by omega) (by omega),hv,fun Q hQ=>Ev.step (f:=fun n=>parquetref01_Num_Times.l0 n d ((i+1:Nat):Int) b xs b' ys) (fun n=>?_) hQ⟩
    clear hv hz
    simp only [parquetref01_Num_Times.l1]
    rw [if_neg (by omega),if_neg (by omega),w64 (by omega) (by omega)]
    rfl
  | succ m ih =>
    intro k d c hl hD h0 h1 hk hc hm hz hv
    by_cases hend:ys.length≤k∧c=0
    · obtain ⟨e1,rfl⟩:=hend
      rw [take_all e1,Int.mul_zero,Int.mul_zero,Int.add_zero] at hv
      refine ⟨d,hl,hD,fun j hj=>?_,hv,fun Q hQ=>Ev.step (f:=fun n=>parquetref01_Num_Times.l0 n d ((i+1:Nat):Int) b xs b' ys) (fun n=>?_) hQ⟩
      · rcases Nat.lt_or_ge j (i+k) with h|h
        · exact hz j (by omega) (by omega)
        · exact hz j (by omega) h
      clear hv hz
      simp only [parquetref01_Num_Times.l1]
      rw [if_neg (by omega),if_neg (by omega),w64 (by omega) (by omega)]
      rfl
    · have hkm:k≤ys.length:=by
        rcases Nat.lt_or_ge ys.length k with h|h
        · exact absurd ⟨by omega,hc (by omega)⟩ hend
        · exact h
      have gd:=hD.at_ (i+k)
      have gx:=dx.at_ i
      have gy:=dy.at_ k
      have hp0:0≤xs.getD i 0 * ys.getD k 0:=Int.mul_nonneg gx.1 gy.1
      have hp1:xs.getD i 0 * ys.getD k 0≤65535 * 65535:=Int.mul_le_mul gx.2 gy.2 gy.1 (by decide)
      obtain ⟨p,hp⟩:∃ p,p=xs.getD i 0 * ys.getD k 0:=⟨_,rfl⟩
      obtain ⟨x,hxd⟩:∃ x,x=d.getD (i+k) 0+p+c:=⟨_,rfl⟩
      rw [← hp] at hp0 hp1
      have t1:=val_take_succ ys k
      have s1:=val_set d (i+k) (x % 65536) (by omega)
      have hnext:=ih (k+1) (d.set (i+k) (x % 65536)) (x / 65536) (by simpa using hl) (hD.set _ (by omega)) (by omega) (by omega) (by omega) (by
          intro hk2
          have hk3:k=ys.length:=by omega
          have e1:ys.getD k 0=0:=getD_none (by omega)
          have e2:d.getD (i+k) 0=0:=hz (i+k) (by omega) (by omega)
          rw [e1,Int.mul_zero] at hp
          omega) (by omega) (fun j hj1 hj2=>by rw [getD_set _ _ _ _ (by omega)];exact hz j hj1 (by omega)) (by
          rw [s1,t1,Int.pow_succ,Int.pow_add]
          have hdm:=Int.emod_add_mul_ediv x 65536
          generalize x % 65536=r at hdm ⊢
          generalize x / 65536=q at hdm ⊢
          rw [hxd] at hdm
          rw [hp] at hdm
          grind)
      obtain ⟨d',w1,w2,w3,w4,w5⟩:=hnext
      refine ⟨d',w1,w2,w3,w4,fun Q hQ=>?_⟩
      have hnext:=w5 Q hQ
      clear hv hz s1 t1 w1 w2 w3 w4 w5 hQ ih
      refine Ev.step (f:=fun n=>parquetref01_Num_Times.l1 n (d.set (i+k) (x % 65536)) (i:Int) (x / 65536) ((k+1:Nat):Int) b xs b' ys) (fun n=>?_) hnext
      have e1:wrap64 ((i:Int)+k)=((i+k:Nat):Int):=by rw [w64 (by omega) (by omega)];rfl
      have e2:wrap64 ((k:Int)+1)=((k+1:Nat):Int):=by rw [w64 (by omega) (by omega)];rfl
      simp only [parquetref01_Num_Times.l1,digit_eq,Option.bind_some,e1,e2,rd_getD,← hp,Int.toNat_natCast]
      clear e1 e2
      rw [w64 (x:=p) (by omega) (by omega),w64 (x:=d.getD (i+k) 0+p) (by omega) (by omega),w64 (x:=d.getD (i+k) 0+p+c) (by omega) (by omega),← hxd,Int.tmod_eq_emod_of_nonneg (by omega),Int.tdiv_eq_ediv_of_nonneg (by omega),w64 (x:=x / 65536) (by omega) (by omega)]
      have h2:(0:Int)≤((i+k:Nat):Int):=by omega
      have h3:((i+k:Nat):Int) < (d.length:Int):=by omega
      have h4:(0:Int)≤(i:Int):=by omega
      have h5:(i:Int) < (xs.length:Int):=by omega
      by_cases e3:k < ys.length
      · have h1':(k:Int) < (ys.length:Int):=by omega
        rw [if_pos h1',if_pos h2,if_pos h3,if_pos h4,if_pos h5]
      · have h1':¬ (k:Int) < (ys.length:Int):=by omega
        have hc1:c > 0:=by
          have:c≠0:=fun h=>hend ⟨by omega,h⟩
          omega
        rw [if_neg h1',if_pos hc1,if_pos h2,if_pos h3,if_pos h4,if_pos h5]
theorem times_loop (b b':Bool) (xs ys:List Int) (dx:Dig xs) (dy:Dig ys) (hx:xs.length≤1000000) (hy:ys.length≤1000000):∀ (m i:Nat) (d:List Int),d.length=xs.length+ys.length+1→Dig d→i≤xs.length→xs.length - i≤m→(∀ j,i+ys.length≤j→d.getD j 0=0)→val d=val (xs.take i) * val ys →
    ∃ r:Bool × List Int,Ev (fun k=>parquetref01_Num_Times.l0 k d (i:Int) b xs b' ys) r∧NumP (xs.length+ys.length+1) r.1 r.2 (if (!(b==b'))=true then -(val xs * val ys) else val xs * val ys):=by
  intro m
  induction m with
  | zero =>
    intro i d hl hD hi hm hz hv
    obtain rfl:i=xs.length:=by omega
    rw [take_all (Nat.le_refl _)] at hv
    obtain ⟨r,hr,hN⟩:=trim_ev (!(b==b')) d hD (by omega)
    rw [hv,hl] at hN
    refine ⟨r,Ev.step (f:=fun k=>(parquetref01_trim.f k (!(b==b')) d).bind fun bt=>some (bt.1,bt.2)) (fun k=>?_) (Ev.bind hr (Ev.now r)),hN⟩
    simp only [parquetref01_Num_Times.l0]
    rw [if_neg (by omega)]
  | succ m ih =>
    intro i d hl hD hi hm hz hv
    by_cases hend:i=xs.length
    · exact ih i d hl hD hi (by omega) hz hv
    · have t1:=val_take_succ xs i
      obtain ⟨d',w1,w2,w3,w4,w5⟩:=times_row b b' xs ys dx dy hx hy i (by omega) (val d) (ys.length+1) 0 d 0 hl hD (Int.le_refl _) (by omega) (by omega) (by omega) (by omega) (fun j hj _=>hz j hj) (by simp [val])
      obtain ⟨r,hr,hN⟩:=ih (i+1) d' w1 w2 (by omega) (by omega) w3 (by rw [w4,hv,t1];grind)
      refine ⟨r,Ev.step (f:=fun k=>parquetref01_Num_Times.l1 k d (i:Int) 0 0 b xs b' ys) (fun k=>?_) (w5 r hr),hN⟩
      simp only [parquetref01_Num_Times.l0]
      rw [if_pos (by omega)]
theorem times_ev {L1 L2:Nat} {b1 b2:Bool} {l1 l2:List Int} {z1 z2:Int} (h1:NumP L1 b1 l1 z1) (h2:NumP L2 b2 l2 z2) (hl1:L1≤1000000) (hl2:L2≤1000000) :
    ∃ r:Bool × List Int,Ev (fun k=>parquetref01_Num_Times.f k b1 l1 b2 l2) r∧NumP (L1+L2) r.1 r.2 (z1 * z2):=by
  obtain ⟨d1,n1,m1,v1,e1⟩:=h1
  obtain ⟨d2,n2,m2,v2,e2⟩:=h2
  have hlen:(wrap64 ((wrap64 ((l1.length:Int)+(l2.length:Int)))+1):Int)=((l1.length+l2.length+1:Nat):Int):=by
    rw [w64 (x:=(l1.length:Int)+(l2.length:Int)) (by omega) (by omega),w64 (by omega) (by omega)]
    rfl
  obtain ⟨r,hr,hN⟩:=times_loop b1 b2 l1 l2 d1 d2 (by omega) (by omega) l1.length 0 (List.replicate (l1.length+l2.length+1) 0) (by simp) (dig_zeros _) (by omega) (by omega) (fun j hj=>by
    rw [List.getD_eq_getElem?_getD]
    rcases Nat.lt_or_ge j (l1.length+l2.length+1) with h|h
    · rw [List.getElem?_eq_getElem (by simpa using h)];simp
    · rw [List.getElem?_eq_none (by simpa using h)];rfl) (by simp [val_zeros,val])
  refine ⟨r,Ev.congr (fun k=>?_) hr,?_⟩
  · unfold parquetref01_Num_Times.f
    rw [hlen,if_pos (by omega),if_pos (by rw [Int.toNat_natCast];omega),Int.toNat_natCast]
    rfl
  · have p1:=Int.lt_of_lt_of_le (val_lt d1) (pow_le e1)
    have p2:=Int.lt_of_lt_of_le (val_lt d2) (pow_le e2)
    have n1:=val_nonneg d1
    have n2:=val_nonneg d2
    have p3:val l1 * val l2 < 65536 ^ (L1+L2):=by
      rw [Int.pow_add]
      exact Int.lt_of_le_of_lt (Int.mul_le_mul_of_nonneg_left (Int.le_of_lt p2) n1) (Int.mul_lt_mul_of_pos_right p1 (pow_pos _))
    have p4:=Int.mul_nonneg n1 n2
    have e:(if (!(b1==b2))=true then -(val l1 * val l2) else val l1 * val l2)=z1 * z2:=by
      rw [v1,v2];cases b1<;>cases b2<;>simp [Int.neg_mul,Int.mul_neg]
    rw [e] at hN
    have p5:z1 * z2=val l1 * val l2∨z1 * z2 = -(val l1 * val l2):=by
      rw [v1,v2];cases b1<;>cases b2<;>simp [Int.neg_mul,Int.mul_neg]
    exact hN.short (by omega) (by omega)
end Go.Proofs.YtkgagdjogedoiaaGreat
