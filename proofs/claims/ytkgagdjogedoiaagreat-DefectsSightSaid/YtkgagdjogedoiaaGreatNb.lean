import Derived.IntWalk
import Derived.Test.YtkgagdjogedoiaaGreatProg
import Derived.Test.YtkgagdjogedoiaaGreatJx
set_option linter.unusedVariables false
set_option linter.unusedSimpArgs false
namespace Go.Proofs.YtkgagdjogedoiaaGreat
open Go
def val:List Int→Int
  | []=>0
  | d :: t=>d+65536 * val t
def Dig (ds:List Int):Prop:=∀ d∈ds,0≤d∧d≤65535
theorem Dig.nil:Dig []:=fun d h=>by cases h
theorem Dig.cons {d:Int} {t:List Int} (h:0≤d∧d≤65535) (ht:Dig t):Dig (d :: t):=fun x hx=>by
  rcases List.mem_cons.1 hx with rfl|hx
  · exact h
  · exact ht x hx
theorem Dig.head {d:Int} {t:List Int} (h:Dig (d :: t)):0≤d∧d≤65535:=h d (by simp)
theorem Dig.tail {d:Int} {t:List Int} (h:Dig (d :: t)):Dig t:=fun x hx=>h x (by simp [hx])
theorem Dig.append {a b:List Int} (ha:Dig a) (hb:Dig b):Dig (a++b):=fun x hx=>(List.mem_append.1 hx).elim (ha x) (hb x)
theorem Dig.take {a:List Int} (ha:Dig a) (n:Nat):Dig (a.take n):=fun x hx=>ha x (List.mem_of_mem_take hx)
theorem Dig.snoc {a:List Int} {d:Int} (ha:Dig a) (h:0≤d∧d≤65535):Dig (a++[d]):=ha.append (Dig.cons h Dig.nil)
theorem Dig.at_ {a:List Int} (ha:Dig a) (i:Nat):0≤a.getD i 0∧a.getD i 0≤65535:=by
  rw [List.getD_eq_getElem?_getD]
  rcases Nat.lt_or_ge i a.length with h|h
  · rw [List.getElem?_eq_getElem h]
    exact ha _ (List.getElem_mem h)
  · rw [List.getElem?_eq_none h]
    exact ⟨Int.le_refl _,by decide⟩
theorem Dig.set {a:List Int} (ha:Dig a) (i:Nat) {d:Int} (h:0≤d∧d≤65535):Dig (a.set i d):=fun x hx=>by
  rcases List.mem_or_eq_of_mem_set hx with hx|rfl
  · exact ha x hx
  · exact h
theorem val_nonneg {ds:List Int} (h:Dig ds):0≤val ds:=by
  induction ds with
  | nil=>exact Int.le_refl _
  | cons d t ih =>
    have:=ih h.tail
    have:=h.head
    simp only [val]
    omega
theorem val_append (a b:List Int):val (a++b)=val a+65536 ^ a.length * val b:=by
  induction a with
  | nil=>simp [val]
  | cons d t ih =>
    simp only [List.cons_append,val,ih,List.length_cons,Int.pow_succ]
    rw [Int.mul_add,← Int.mul_assoc,Int.mul_comm (65536 ^ t.length) 65536]
    omega
theorem val_snoc (a:List Int) (d:Int):val (a++[d])=val a+65536 ^ a.length * d:=by
  rw [val_append];simp [val]
theorem pow_pos (n:Nat):(0:Int) < 65536 ^ n:=Int.pow_pos (by decide)
theorem val_lt {ds:List Int} (h:Dig ds):val ds < 65536 ^ ds.length:=by
  induction ds with
  | nil=>simp [val]
  | cons d t ih =>
    have h1:=ih h.tail
    have h2:=h.head
    simp only [val,List.length_cons,Int.pow_succ]
    omega
def NoZero (ds:List Int):Prop:=∀ i,i+1=ds.length→ds.getD i 0≠0
theorem val_ge {ds:List Int} (h:Dig ds) (hz:NoZero ds) (h0:ds≠[]):(65536:Int) ^ (ds.length - 1)≤val ds:=by
  have hl:0 < ds.length:=List.length_pos_iff.2 h0
  have h1:ds=ds.take (ds.length - 1)++[ds.getD (ds.length - 1) 0]:=by
    conv=>lhs;rw [← List.take_append_drop (ds.length - 1) ds]
    congr 1
    rw [List.drop_eq_getElem_cons (by omega)]
    rw [List.drop_of_length_le (by omega)]
    simp [List.getD_eq_getElem?_getD,List.getElem?_eq_getElem (show ds.length - 1 < ds.length by omega)]
  have h2:=hz (ds.length - 1) (by omega)
  have h3:=(h.at_ (ds.length - 1)).1
  have h4:=val_nonneg (h.take (ds.length - 1))
  have hlt:(ds.take (ds.length - 1)).length=ds.length - 1:=by rw [List.length_take];omega
  have hv:val ds=val (ds.take (ds.length - 1))+65536 ^ (ds.length - 1) * ds.getD (ds.length - 1) 0:=by
    have h7:=congrArg val h1
    rw [val_snoc,hlt] at h7
    exact h7
  rw [hv]
  generalize ds.getD (ds.length - 1) 0=x at h2 h3 hv
  have h6:=Int.mul_le_mul_of_nonneg_left (show (1:Int)≤x by omega) (Int.le_of_lt (pow_pos (ds.length - 1)))
  rw [Int.mul_one] at h6
  omega
theorem pow_le {a b:Nat} (h:a≤b):(65536:Int) ^ a≤65536 ^ b:=by
  obtain ⟨c,rfl⟩:=Nat.exists_eq_add_of_le h
  rw [Int.pow_add]
  have h1:=Int.mul_le_mul_of_nonneg_left (show (1:Int)≤65536 ^ c from pow_pos c) (Int.le_of_lt (pow_pos a))
  rw [Int.mul_one] at h1
  exact h1
theorem pow_lt_of {a b:Nat} (h:(65536:Int) ^ a < 65536 ^ b):a < b:=by
  rcases Nat.lt_or_ge a b with h1|h1
  · exact h1
  · have:=pow_le h1
    omega
theorem len_le {ds:List Int} (h:Dig ds) (hz:NoZero ds) {k:Nat} (hk:val ds < 65536 ^ k):ds.length≤k:=by
  cases ds with
  | nil=>exact Nat.zero_le _
  | cons d t =>
    have h1:=val_ge h hz (by simp)
    have h2:=pow_lt_of (Int.lt_of_le_of_lt h1 hk)
    simp at h2 ⊢
    omega
theorem val_pos {ds:List Int} (h:Dig ds) (hz:NoZero ds) (h0:ds≠[]):0 < val ds:=by
  have h1:=val_ge h hz h0
  have h2:=pow_pos (ds.length - 1)
  omega
theorem val_take_zero (ds:List Int) (n:Nat) (h:∀ i,n≤i→ds.getD i 0=0):val (ds.take n)=val ds:=by
  induction ds generalizing n with
  | nil=>simp
  | cons d t ih =>
    cases n with
    | zero =>
      have h0:=h 0 (Nat.le_refl _)
      have h1:=ih 0 (fun i _=>by have:=h (i+1) (by omega);simpa using this)
      simp only [List.take_zero] at h1 ⊢
      simp at h0
      simp only [val] at h1 ⊢
      omega
    | succ n =>
      have h1:=ih n (fun i hi=>by have:=h (i+1) (by omega);simpa using this)
      simp only [List.take_succ_cons,val,h1]
def sgn (z:Int):Int:=if z < 0 then -1 else if z=0 then 0 else 1
def NumP (L:Nat) (b:Bool) (l:List Int) (z:Int):Prop:=Dig l∧NoZero l∧(b=true→l≠[])∧z=(if b then -val l else val l)∧l.length≤L
theorem NumP.mono {L L':Nat} {b:Bool} {l:List Int} {z:Int} (h:NumP L b l z) (hl:L≤L'):NumP L' b l z:=⟨h.1,h.2.1,h.2.2.1,h.2.2.2.1,by have:=h.2.2.2.2;omega⟩
theorem NumP.short {L k:Nat} {b:Bool} {l:List Int} {z:Int} (h:NumP L b l z) (h1 : -(65536:Int) ^ k < z) (h2:z < 65536 ^ k):NumP k b l z:=by
 obtain ⟨hd,hz,hm,hv,hl0⟩:=h
 refine ⟨hd,hz,hm,hv,len_le hd hz ?_⟩
 cases b
 ·simp at hv;omega
 ·simp at hv;omega
theorem take_fact {ds:List Int} {n:Nat} (hn:n≤ds.length) (hD:Dig ds) (hz:∀ i,n≤i→ds.getD i 0=0) (h0:n=0∨ds.getD (n - 1) 0≠0) :
  (ds.take n).length=n∧Dig (ds.take n)∧NoZero (ds.take n)∧val (ds.take n)=val ds:=by
 have hl:(ds.take n).length=n:=by rw [List.length_take];omega
 refine ⟨hl,hD.take n,?_,val_take_zero ds n hz⟩
 intro i hi
 rw [hl] at hi
 rcases h0 with h0|h0
 ·omega
 ·rw [show n - 1=i by omega] at h0
  intro h1
  apply h0
  rw [List.getD_eq_getElem?_getD,List.getElem?_take_of_lt (by omega)] at h1
  rw [List.getD_eq_getElem?_getD,h1]
theorem numP_of {b:Bool} {ds:List Int} {n:Nat} (hn:n≤ds.length) (hD:Dig ds) (hz:∀ i,n≤i→ds.getD i 0=0) (h0:n=0∨ds.getD (n - 1) 0≠0) :
  NumP ds.length (b && decide (0 < n)) (ds.take n) (if b then -val ds else val ds):=by
 obtain ⟨h1,h2,h3,h4⟩:=take_fact hn hD hz h0
 refine ⟨h2,h3,?_,?_,by omega⟩
 ·intro h
  simp at h
  intro h5
  rw [h5] at h1
  simp at h1
  omega
 ·rw [h4]
  cases b
  ·rfl
  ·by_cases hp:0 < n
   ·simp [hp]
   ·have hn0:n=0:=by omega
    subst hn0
    simp [val] at h4 ⊢
    omega
theorem digit_step (o:List Int) (x:Int):val (o++[x % 65536])+65536 ^ (o++[x % 65536]).length * (x / 65536)=val o+65536 ^ o.length * x:=by
 rw [val_snoc,List.length_append,List.length_singleton,Int.pow_succ,Int.mul_assoc,Int.add_assoc,← Int.mul_add]
 congr 2
 exact Int.emod_add_mul_ediv x 65536
theorem val_split (ds:List Int) (i:Nat):val ds=val (ds.take i)+65536 ^ (ds.take i).length * val (ds.drop i):=by
 conv=>lhs;rw [← List.take_append_drop i ds]
 rw [val_append]
theorem val_drop {ds:List Int} {i:Nat} (h:i < ds.length):val (ds.drop i)=ds.getD i 0+65536 * val (ds.drop (i+1)):=by
 rw [List.drop_eq_getElem_cons h,val,List.getD_eq_getElem?_getD,List.getElem?_eq_getElem h];rfl
theorem drop_same {a b:List Int} (hl:a.length=b.length) (i:Nat) (h:∀ j,i < j→a.getD j 0=b.getD j 0):a.drop (i+1)=b.drop (i+1):=by
 apply List.ext_getElem?
 intro n
 rw [List.getElem?_drop,List.getElem?_drop]
 have h1:=h (i+1+n) (by omega)
 rw [List.getD_eq_getElem?_getD,List.getD_eq_getElem?_getD] at h1
 rcases Nat.lt_or_ge (i+1+n) a.length with h2|h2
 ·rw [List.getElem?_eq_getElem h2,List.getElem?_eq_getElem (by omega)] at h1 ⊢
  simpa using h1
 ·rw [List.getElem?_eq_none h2,List.getElem?_eq_none (by omega)]
theorem cmp_at {a b:List Int} (ha:Dig a) (hb:Dig b) (hl:a.length=b.length) (i:Nat) (hi:i < a.length) (h:∀ j,i < j→a.getD j 0=b.getD j 0)
  (hd:a.getD i 0 < b.getD i 0):val a < val b:=by
 have h1:=val_split a i
 have h2:=val_split b i
 rw [val_drop hi,drop_same hl i h] at h1
 rw [val_drop (by omega)] at h2
 have h3:=val_lt (ha.take i)
 have h4:=val_nonneg (hb.take i)
 have hla:(a.take i).length=i:=by rw [List.length_take];omega
 have hlb:(b.take i).length=i:=by rw [List.length_take];omega
 rw [hla] at h1 h3
 rw [hlb] at h2
 have h5:=Int.mul_le_mul_of_nonneg_left (show a.getD i 0+65536 * val (b.drop (i+1))+1≤b.getD i 0+65536 * val (b.drop (i+1)) by omega) (Int.le_of_lt (pow_pos i))
 rw [Int.mul_add,Int.mul_one] at h5
 omega
theorem cmp_len {a b:List Int} (ha:Dig a) (hb:Dig b) (hz:NoZero b) (hl:a.length < b.length):val a < val b:=by
 have h1:=val_lt ha
 have h2:=val_ge hb hz (by intro h;subst h;simp at hl)
 have h3:=pow_le (show a.length≤b.length - 1 by omega)
 omega
theorem all_same {a b:List Int} (hl:a.length=b.length) (h:∀ j:Nat,a.getD j 0=b.getD j 0):a=b:=by
 have h1:=drop_same (a:=0 :: a) (b:=0 :: b) (by simp [hl]) 0 (fun j hj=>by
  obtain ⟨k,rfl⟩:∃ k,j=k+1:=⟨j - 1,by omega⟩
  have h2:=h k
  simpa using h2)
 simpa using h1
theorem val_take_succ (l:List Int):∀ i,val (l.take (i+1))=val (l.take i)+65536 ^ i * l.getD i 0:=by
 induction l with
 | nil=>intro i;simp [val]
 | cons d t ih =>
  intro i
  cases i with
  | zero=>simp [val]
  | succ i =>
   have:=ih i
   simp only [List.take_succ_cons,val,List.getD_cons_succ,Int.pow_succ]
   rw [this]
   grind
theorem take_all {l:List Int} {i:Nat} (h:l.length≤i):l.take i=l:=List.take_of_length_le h
theorem getD_none {l:List Int} {i:Nat} (h:l.length≤i):l.getD i 0=0:=by rw [List.getD_eq_getElem?_getD,List.getElem?_eq_none h];rfl
theorem val_set (l:List Int):∀ (j:Nat) (v:Int),j < l.length→val (l.set j v)=val l+65536 ^ j * (v - l.getD j 0):=by
  induction l with
  | nil=>intro j v h;simp at h
  | cons d t ih =>
    intro j v h
    cases j with
    | zero=>simp [val];omega
    | succ j =>
      have:=ih j v (by simpa using h)
      simp only [List.set_cons_succ,val,List.getD_cons_succ,Int.pow_succ]
      rw [this]
      grind
theorem getD_set (l:List Int) (j k:Nat) (v:Int) (h:k≠j):(l.set j v).getD k 0=l.getD k 0:=by
  rw [List.getD_eq_getElem?_getD,List.getElem?_set_ne (fun e=>h e.symm),← List.getD_eq_getElem?_getD]
theorem val_zeros (n:Nat):val (List.replicate n 0)=0:=by
  induction n with
  | zero=>rfl
  | succ n ih=>rw [List.replicate_succ,val,ih];rfl
theorem dig_zeros (n:Nat):Dig (List.replicate n 0):=fun d h=>by
  rw [List.mem_replicate] at h
  omega
structure Pls (xs ys:List Int) (i:Nat) (o:List Int) (c:Int):Prop where
  len:o.length=i
  dig:Dig o
  c0:0≤c
  c1:c≤1
  le:i≤max xs.length ys.length+1
  no:i=max xs.length ys.length+1→c=0
  all:val o+65536 ^ i * c=val (xs.take i)+val (ys.take i)
section
variable {xs ys:List Int} {i k:Nat} {o d:List Int} {c x:Int}
theorem Pls.zero:Pls xs ys 0 [] 0:=⟨rfl,Dig.nil,by decide,by decide,by omega,by omega,by simp [val]⟩
theorem Pls.bd (dx:Dig xs) (dy:Dig ys) (h:Pls xs ys i o c) (hx:xs.getD i 0+ys.getD i 0+c=x):0≤x∧x≤131071:=by
  have gx:=dx.at_ i
  have gy:=dy.at_ i
  have:=h.c0
  have:=h.c1
  omega
theorem Pls.succ (dx:Dig xs) (dy:Dig ys) (h:Pls xs ys i o c) (hg:i < xs.length∨i < ys.length∨c > 0) (hx:xs.getD i 0+ys.getD i 0+c=x):Pls xs ys (i+1) (o++[x % 65536]) (x / 65536):=by
  obtain ⟨hl,hD,h0,h1,hi,hc,hv⟩:=id h
  have hb:=h.bd dx dy hx
  have hi2:i≤max xs.length ys.length:=by
    rcases Nat.lt_or_ge (max xs.length ys.length) i with h'|h'
    · have:=hc (by omega);omega
    · exact h'
  have t1:=val_take_succ xs i
  have t2:=val_take_succ ys i
  have hstep:=digit_step o x
  have hl2:(o++[x % 65536]).length=i+1:=by simp [hl]
  refine ⟨hl2,hD.snoc (by omega),by omega,by omega,by omega,fun hi3=>?_,?_⟩
  · have e1:xs.getD i 0=0:=getD_none (by omega)
    have e2:ys.getD i 0=0:=getD_none (by omega)
    omega
  · rw [hl2,hl] at hstep
    rw [hstep,t1,t2,← hx]
    grind
theorem Pls.last (h:Pls xs ys i o c) (e1:¬ i < xs.length) (e2:¬ i < ys.length) (e3:¬ c > 0):val o=val xs+val ys:=by
  have hv:=h.all
  have hc:c=0:=by have:=h.c0;omega
  subst hc
  rw [take_all (by omega),take_all (by omega),Int.mul_zero,Int.add_zero] at hv
  exact hv
structure Mns (xs ys:List Int) (i:Nat) (o:List Int) (c:Int):Prop where
  len:o.length=i
  dig:Dig o
  c0:0≤c
  c1:c≤1
  le:i≤xs.length
  all:val o - 65536 ^ i * c=val (xs.take i) - val (ys.take i)
theorem Mns.zero:Mns xs ys 0 [] 0:=⟨rfl,Dig.nil,by decide,by decide,by omega,by simp [val]⟩
theorem Mns.bd (dx:Dig xs) (dy:Dig ys) (h:Mns xs ys i o c) (hx:xs.getD i 0 - ys.getD i 0 - c=x) : -65536≤x∧x≤65535:=by
  have gx:=dx.at_ i
  have gy:=dy.at_ i
  have:=h.c0
  have:=h.c1
  omega
theorem Mns.neg (dx:Dig xs) (dy:Dig ys) (h:Mns xs ys i o c) (hi:i < xs.length) (hx:xs.getD i 0 - ys.getD i 0 - c=x) (hn:x < 0):Mns xs ys (i+1) (o++[x+65536]) 1:=by
  obtain ⟨hl,hD,h0,h1,_,hv⟩:=id h
  have hb:=h.bd dx dy hx
  refine ⟨by simp [hl],hD.snoc (by omega),by decide,by decide,hi,?_⟩
  rw [val_snoc,hl,val_take_succ xs i,val_take_succ ys i,Int.pow_succ]
  grind
theorem Mns.pos (dx:Dig xs) (dy:Dig ys) (h:Mns xs ys i o c) (hi:i < xs.length) (hx:xs.getD i 0 - ys.getD i 0 - c=x) (hn:¬ x < 0):Mns xs ys (i+1) (o++[x]) 0:=by
  obtain ⟨hl,hD,h0,h1,_,hv⟩:=id h
  have hb:=h.bd dx dy hx
  refine ⟨by simp [hl],hD.snoc (by omega),by decide,by decide,hi,?_⟩
  rw [val_snoc,hl,val_take_succ xs i,val_take_succ ys i,Int.pow_succ]
  grind
theorem len_of_le (dx:Dig xs) (dy:Dig ys) (zy:NoZero ys) (hle:val ys≤val xs):ys.length≤xs.length:=by
  rcases Nat.lt_or_ge xs.length ys.length with h|h
  · have:=cmp_len dx dy zy h
    omega
  · exact h
theorem Mns.last (dx:Dig xs) (dy:Dig ys) (zy:NoZero ys) (hle:val ys≤val xs) (h:Mns xs ys i o c) (hi:¬ i < xs.length):val o=val xs - val ys∧o.length=xs.length:=by
  obtain ⟨hl,hD,h0,h1,hle2,hv⟩:=id h
  have hlen:=len_of_le dx dy zy hle
  obtain rfl:i=xs.length:=by omega
  rw [take_all (Nat.le_refl _),take_all hlen] at hv
  have hlt:=val_lt hD
  have hp:=pow_pos xs.length
  rw [hl] at hlt
  have hc:c=0:=by
    rcases (show c=0∨c=1 by omega) with h|h
    · exact h
    · subst h
      rw [Int.mul_one] at hv
      omega
  subst hc
  rw [Int.mul_zero,Int.sub_zero] at hv
  exact ⟨hv,hl⟩
def szD (xs ys:List Int):Nat→Int
  | 0=>0
  | k+1=>if xs.getD k 0≠ys.getD k 0 then xs.getD k 0 - ys.getD k 0 else szD xs ys k
def sizeN (xs ys:List Int):Int:=if xs.length≠ys.length then (xs.length:Int) - (ys.length:Int) else szD xs ys xs.length
theorem szD_lt (dx:Dig xs) (dy:Dig ys) (hl:xs.length=ys.length):∀ n,n≤xs.length→(∀ j,n≤j→xs.getD j 0=ys.getD j 0)→(szD xs ys n < 0↔val xs < val ys)
  | 0,hn,h=>by
    rw [all_same hl (fun j=>h j (by omega))]
    unfold szD
    omega
  | n+1,hn,h=>by
    unfold szD
    by_cases hd:xs.getD n 0=ys.getD n 0
    · rw [if_neg (fun hh=>hh hd)]
      refine szD_lt dx dy hl n (by omega) (fun j hj=>?_)
      rcases Nat.lt_or_ge n j with h1|h1
      · exact h j h1
      · rw [show j=n by omega];exact hd
    · rw [if_pos hd]
      rcases Int.lt_or_le (xs.getD n 0) (ys.getD n 0) with h5|h5
      · have:=cmp_at dx dy hl n (by omega) (fun j hj=>h j hj) h5
        omega
      · have:=cmp_at dy dx hl.symm n (by omega) (fun j hj=>(h j hj).symm) (by omega)
        omega
theorem sizeN_lt (dx:Dig xs) (dy:Dig ys) (zx:NoZero xs) (zy:NoZero ys):sizeN xs ys < 0↔val xs < val ys:=by
  unfold sizeN
  by_cases hl:xs.length=ys.length
  · rw [if_neg (fun h=>h hl)]
    exact szD_lt dx dy hl _ (Nat.le_refl _) (fun j hj=>by rw [getD_none hj,getD_none (by omega)])
  · rw [if_pos hl]
    rcases Nat.lt_or_ge xs.length ys.length with h|h
    · have:=cmp_len dx dy zy h
      omega
    · have:=cmp_len dy dx zx (by omega)
      omega
structure Tms (xs ys:List Int) (i:Nat) (d:List Int):Prop where
  len:d.length=xs.length+ys.length+1
  dig:Dig d
  le:i≤xs.length
  zero:∀ j,i+ys.length≤j→d.getD j 0=0
  all:val d=val (xs.take i) * val ys
theorem Tms.first:Tms xs ys 0 (List.replicate (xs.length+ys.length+1) 0):=⟨by simp,dig_zeros _,Nat.zero_le _,fun j _=>by rw [List.getD_eq_getElem?_getD,List.getElem?_replicate];split<;>rfl,by rw [val_zeros];simp [val]⟩
structure Tmk (xs ys:List Int) (i k:Nat) (d:List Int) (c:Int):Prop where
  len:d.length=xs.length+ys.length+1
  dig:Dig d
  c0:0≤c
  c1:c≤65535
  le:k≤ys.length+1
  no:k=ys.length+1→c=0
  zero:∀ j,i+ys.length≤j→i+k≤j→d.getD j 0=0
  all:val d+65536 ^ i * (65536 ^ k * c)=val (xs.take i) * val ys+65536 ^ i * (xs.getD i 0 * val (ys.take k))
theorem Tmk.first (h:Tms xs ys i d):Tmk xs ys i 0 d 0:=⟨h.len,h.dig,by decide,by decide,by omega,by omega,fun j hj _=>h.zero j hj,by rw [h.all];simp [val]⟩
theorem Tmk.bd (dx:Dig xs) (dy:Dig ys) (h:Tmk xs ys i k d c) {p:Int} (hp:xs.getD i 0 * ys.getD k 0=p):(0≤p∧p≤4294836225)∧0≤d.getD (i+k) 0∧d.getD (i+k) 0≤65535:=by
  have gx:=dx.at_ i
  have gy:=dy.at_ k
  have h0:0≤xs.getD i 0 * ys.getD k 0:=Int.mul_nonneg gx.1 gy.1
  have h1:xs.getD i 0 * ys.getD k 0≤65535 * 65535:=Int.mul_le_mul gx.2 gy.2 gy.1 (by decide)
  exact ⟨by omega,h.dig.at_ _⟩
theorem Tmk.k_le (h:Tmk xs ys i k d c) (hg:k < ys.length∨c > 0):k≤ys.length:=by
  rcases Nat.lt_or_ge ys.length k with h'|h'
  · have:=h.no (by have:=h.le;omega);omega
  · exact h'
theorem Tmk.succ (dx:Dig xs) (dy:Dig ys) (h:Tmk xs ys i k d c) (hi:i < xs.length) (hg:k < ys.length∨c > 0) {p:Int} (hp:xs.getD i 0 * ys.getD k 0=p) (hx:d.getD (i+k) 0+p+c=x):Tmk xs ys i (k+1) (d.set (i+k) (x % 65536)) (x / 65536):=by
  obtain ⟨hl,hD,h0,h1,hk,hc,hz,hv⟩:=id h
  have hb:=h.bd dx dy hp
  have hkm:=h.k_le hg
  have t1:=val_take_succ ys k
  have s1:=val_set d (i+k) (x % 65536) (by omega)
  refine ⟨by simpa using hl,hD.set _ (by omega),by omega,by omega,by omega,fun hk2=>?_,fun j hj1 hj2=>by rw [getD_set _ _ _ _ (by omega)];exact hz j hj1 (by omega),?_⟩
  · have e1:ys.getD k 0=0:=getD_none (by omega)
    have e2:d.getD (i+k) 0=0:=hz (i+k) (by omega) (by omega)
    rw [e1,Int.mul_zero] at hp
    omega
  · rw [s1,t1,Int.pow_succ,Int.pow_add]
    have hdm:=Int.emod_add_mul_ediv x 65536
    generalize x % 65536=r at hdm ⊢
    generalize x / 65536=q at hdm ⊢
    rw [← hx,← hp] at hdm
    grind
theorem Tmk.last (h:Tmk xs ys i k d c) (hi:i < xs.length) (e1:¬ k < ys.length) (e2:¬ c > 0):Tms xs ys (i+1) d:=by
  obtain ⟨hl,hD,h0,h1,hk,hc,hz,hv⟩:=id h
  obtain rfl:c=0:=by omega
  rw [take_all (l:=ys) (by omega),Int.mul_zero,Int.mul_zero,Int.add_zero] at hv
  refine ⟨hl,hD,hi,fun j hj=>?_,by rw [hv,val_take_succ xs i];grind⟩
  rcases Nat.lt_or_ge j (i+k) with h'|h'
  · exact hz j (by omega) (by omega)
  · exact hz j (by omega) h'
structure Sml (z:Int) (o:List Int) (y:Int):Prop where
  dig:Dig o
  len:o.length≤4
  pos:0≤z→0≤y
  neg:z < 0→y≤0
  lo : -9223372036854775808≤y
  hi:y≤9223372036854775807
  lt:y≠0→o.length < 4
  all:val o+65536 ^ o.length * (y.natAbs:Int)=z.natAbs
theorem Sml.zero {z:Int} (h0 : -9223372036854775808≤z) (h1:z≤9223372036854775807):Sml z [] z:=⟨Dig.nil,by simp,id,Int.le_of_lt,h0,h1,by simp,by simp [val]⟩
theorem Sml.succ {z y:Int} (hz0 : -9223372036854775808≤z) (hz1:z≤9223372036854775807) (h:Sml z o y) (hy:y≠0):Sml z (o++[(y.natAbs:Int) % 65536]) (y.tdiv 65536):=by
  obtain ⟨hD,hl,hp,hn,h0,h1,hlt,hv⟩:=id h
  have hol:=hlt hy
  have hds:=digit_step o (y.natAbs:Int)
  have hq:((y.tdiv 65536).natAbs:Int)=(y.natAbs:Int) / 65536:=by
    rw [Int.natAbs_tdiv];rfl
  have hs:(0≤y→y.tdiv 65536=y / 65536)∧(y < 0→y.tdiv 65536 = -(-y / 65536)):=by
    refine ⟨fun h=>Int.tdiv_eq_ediv_of_nonneg h,fun h=>?_⟩
    have e:y.tdiv 65536 = -((-y).tdiv 65536):=by rw [Int.neg_tdiv,Int.neg_neg]
    rw [e,Int.tdiv_eq_ediv_of_nonneg (by omega)]
  have hall:val (o++[(y.natAbs:Int) % 65536])+65536 ^ (o++[(y.natAbs:Int) % 65536]).length * ((y.tdiv 65536).natAbs:Int)=z.natAbs:=by rw [hq,hds];exact hv
  refine ⟨hD.snoc (by omega),by simp;omega,fun h=>?_,fun h=>?_,?_,?_,fun hne=>?_,hall⟩
  · have:=hp h;rw [hs.1 this];omega
  · have:=hn h
    by_cases hy0:y < 0
    · rw [hs.2 hy0];omega
    · exact absurd (show y=0 by omega) hy
  · omega
  · omega
  · apply pow_lt_of
    have h1:=val_nonneg (hD.snoc (d:=(y.natAbs:Int) % 65536) (by omega))
    have h2:=Int.mul_le_mul_of_nonneg_left (show (1:Int)≤((y.tdiv 65536).natAbs:Int) by omega) (Int.le_of_lt (pow_pos (o++[(y.natAbs:Int) % 65536]).length))
    rw [Int.mul_one] at h2
    have h4:(65536:Int) ^ 4=18446744073709551616:=by decide
    omega
theorem Sml.last {z:Int} (h:Sml z o 0):(if decide (z < 0) then -val o else val o)=z:=by
  have hv:=h.all
  simp only [Int.natAbs_zero] at hv
  by_cases hz:z < 0
  · rw [decide_eq_true hz,if_pos rfl];omega
  · rw [decide_eq_false hz,if_neg (by decide)];omega
end
end Go.Proofs.YtkgagdjogedoiaaGreat

set_option linter.unusedVariables false
set_option linter.unusedSimpArgs false
namespace Go.Proofs.YtkgagdjogedoiaaGreat
open Go Go.RowKit Go.Proofs.YtkgagdjogedoiaaGreat.Fx Go.Proofs.YtkgagdjogedoiaaGreatW.PrintWords
abbrev iv (n:Int):SP := .is (.int .i64 n)
abbrev bv (b:Bool):SP := .is (.bool b)
theorem tyN:AggTy Tryz.prog 71 2:=⟨⟨_,Tryz.underlying71,rfl⟩,by kernel_rfl⟩
theorem tyI:ScalTy Tryz.prog 3:=⟨⟨_,Tryz.underlying3,rfl⟩⟩
theorem hmx:Tryz.prog.follows .mixedOrders=true:=by kernel_rfl
theorem rwI:RowTy Tryz.prog 34 3 1:=⟨Tryz.underlying34,by kernel_rfl⟩
def nv0:Value := .agg #[.bool false,.slice none 0 0]
theorem zN (W:World):(zeroValue 71).run Tryz.prog W = .ok nv0 W:=by kernel_rfl
abbrev ic (n:Int):Value := .int .i64 n
abbrev ivec (l:List Int):SP := .vec 1 (l.map fun z=>[ic z])
theorem tyB:ScalTy Tryz.prog 4:=⟨⟨_,Tryz.underlying4,rfl⟩⟩
theorem szI:(Tryz.prog.info? 3).map (·.size)=some 1:=by kernel_rfl
theorem apTy {S E:TypeId} {sz bytes:Nat} (hu:Tryz.prog.underlying S=some (.slice E)) (hs:0 < sz) (h:(match Tryz.prog.info? E with|some i=>(match i.zero with|some z=>i.size==sz && (i.bytes==bytes && z.cells.size==sz)|none=>false)|none=>false)=true):AppTy Tryz.prog S E sz bytes:=⟨hu,by
 obtain ⟨p,hp⟩:∃ p,p=Tryz.prog.info? E:=⟨_,rfl⟩
 rw [← hp] at h ⊢
 cases p with
 | none=>cases h
 | some i =>
  simp only at h
  cases hz:i.zero with
  | none=>rw [hz] at h;cases h
  | some z =>
   rw [hz] at h
   simp only [Bool.and_eq_true,beq_iff_eq] at h
   exact ⟨i,z,rfl,hz,h.1,h.2.1,h.2.2⟩,hs⟩
theorem apI:AppTy Tryz.prog 34 3 1 8:=apTy Tryz.underlying34 (by decide) (by kernel_rfl)
theorem mkTy {S E:TypeId} {sz bytes:Nat} {c:Value} (hu:Tryz.prog.underlying S=some (.slice E)) (hs:0 < sz) {z:Value} (hz:(Tryz.prog.info? E).map (fun i=>(i.zero,i.size,i.bytes))=some (some z,sz,bytes)) (hc:z.cells=(List.replicate sz c).toArray):MkTy Tryz.prog S E sz bytes c:=⟨hu,by
 obtain ⟨p,hp⟩:∃ p,p=Tryz.prog.info? E:=⟨_,rfl⟩
 rw [← hp] at hz ⊢
 cases p with
 | none=>cases hz
 | some i =>
  simp only [Option.map_some,Option.some.injEq,Prod.mk.injEq] at hz
  exact ⟨i,z,rfl,hz.1,hz.2.1,hz.2.2,hc⟩,hs⟩
theorem mkI:MkTy Tryz.prog 34 3 1 8 (.int .i64 0):=mkTy (z := .int .i64 0) Tryz.underlying34 (by decide) (by kernel_rfl) rfl
section
variable {P:Program} {w0:World} {ok0:Nat→Prop} {N:Nat} {R:Rg} {ops:Array Oper} {Q:Exit→Act→World→Prop} {i:Nat} {o:Oper}
theorem oapp_ {d t:Tmp} {y:Operand} {S E:TypeId} {sz bytes:Nat} {rows rs rows':List (List Value)} (hh:Pl R ops i o (some d) (.call { callee := .builtin .append,args:=#[.tmp t,y],argTypes:=#[S,S] }) true) (hT:AppTy P S E sz bytes)
  (hx:R.Nd i (.o t sz E rows)) (hy:Vl R i y (.vec sz rs)) (hb:bytes≤24) (he:rows++rs=rows'∧((rs.all fun r=>r.length==sz && r.all (·.oneCell'))=true∧rs.length=1)∧rows.length≤5000000):Does P w0 ok0 N R ops Q i o (some (.o d sz E rows')):=by
 obtain ⟨rfl,⟨h1,h2⟩,h3⟩:=he
 refine oapp hh hT hx hy h1 (by omega) (by rw [h2];unfold maxLen;omega) ?_
 rw [h2]
 have:=Nat.mul_le_mul (show rows.length+1≤5000001 by omega) hb
 omega
theorem oapg {d t:Tmp} {y:Operand} {S E:TypeId} {sz bytes:Nat} {rows rs rows':List (List Value)} (hh:Pl R ops i o (some d) (.call { callee := .builtin .append,args:=#[.tmp t,y],argTypes:=#[S,S] }) true) (hT:AppTy P S E sz bytes)
  (hx:R.Nd i (.o t sz E rows)) (hy:Vl R i y (.vec sz rs)) (hb:bytes≤24) (he:rows++rs=rows'∧((rs.all fun r=>r.length==sz && r.all (·.oneCell'))=true∧0 < rs.length)∧rows.length+rs.length≤5000000):Does P w0 ok0 N R ops Q i o (some (.o d sz E rows')):=by
 obtain ⟨rfl,⟨h1,h2⟩,h3⟩:=he
 refine oapp hh hT hx hy h1 h2 (by unfold maxLen;omega) ?_
 have:=Nat.mul_le_mul h3 hb
 omega
theorem oapa {d t:Tmp} {y:Operand} {S E:TypeId} {sz bytes:Nat} {rows rs rows':List (List Value)} (hh:Pl R ops i o (some d) (.call { callee := .builtin .append,args:=#[.tmp t,y],argTypes:=#[S,S] }) true) (hT:AppTy P S E sz bytes)
  (hx:R.Nd i (.o t sz E rows)) (hy:Vl R i y (.vec sz rs)) (hb:bytes≤24) (he:rows++rs=rows'∧(rs.all fun r=>r.length==sz && r.all (·.oneCell'))=true∧rows.length+rs.length≤5000000):Does P w0 ok0 N R ops Q i o (some (.o d sz E rows')):=by
 obtain ⟨rfl,h1,h3⟩:=he
 cases rs with
 | nil=>rw [List.append_nil];exact oappE hh hT hx hy
 | cons r rs=>exact oapg hh hT hx hy hb ⟨rfl,⟨h1,by simp⟩,h3⟩
end
theorem run_bldp {P:Program} {W:World} {o:Oper} {T:TypeId} {parts:Array (Nat × Operand)} {a:Act} {cs:Array Value} (ho:o.op = .build T parts) (hb:P.built T (parts.map fun p:Nat × Operand=>(p.1,a.eval p.2)).toList=some cs):(execOp a.eval o).run P W = .ok (.value (.agg cs)) W:=by
 unfold execOp
 simp only [ho]
 show ((Instr.build T (parts.map (fun p:Nat × Operand=>(p.1,a.eval p.2)))) >>= fun v=>pure (Next.value v)).run P W=_
 rw [Sem.run_bind,run_build W T _ cs hb]
 rfl
theorem vec_nil {ok:Nat→Prop} {W:World} {sz:Nat}:(SP.vec sz []).H ok (.slice none 0 0) W:=by
 exact ⟨none,0,rfl,Nat.le_refl _,fun _ _ h=>absurd h (Nat.lt_irrefl _)⟩
instance : AggSP (.is nv0) 2:=⟨fun h=>⟨_,h,rfl,by simp [Value.oneCell']⟩⟩
def SP.nm (b:Bool) (l:List Int):SP :=
 ⟨fun ok v W=>∃ s,v = .agg #[.bool b,s]∧(ivec l).H ok s W,fun hk ⟨s,e,h⟩=>⟨s,e,(ivec l).mono hk h⟩,fun ⟨s,e,h⟩=>⟨s,e,(ivec l).bound h⟩,fun ⟨s,e,h⟩ hm=>⟨s,e,(ivec l).step h hm⟩⟩
instance (b:Bool) (l:List Int):AggSP (SP.nm b l) 2:=⟨fun ⟨s,e,h⟩=>by
 obtain ⟨A,n,e1⟩:=SP.vec_val h
 exact ⟨_,e,rfl,by simp [e1,Value.oneCell']⟩⟩
instance (b:Bool) (l:List Int):CellOf (SP.nm b l) 0 (bv b):=⟨fun ⟨s,e,h⟩=>⟨_,by cases e;rfl,rfl⟩⟩
instance (b:Bool) (l:List Int):CellOf (SP.nm b l) 1 (ivec l):=⟨fun ⟨s,e,h⟩=>⟨s,by cases e;rfl,h⟩⟩
def Fx.SP.num (L:Nat) (z:Int):SP :=
 ⟨fun ok v W=>∃ b l,NumP L b l z∧(SP.nm b l).H ok v W,fun hk ⟨b,l,h,h2⟩=>⟨b,l,h,(SP.nm b l).mono hk h2⟩,fun ⟨b,l,h,h2⟩=>⟨b,l,h,(SP.nm b l).bound h2⟩,fun ⟨b,l,h,h2⟩ hm=>⟨b,l,h,(SP.nm b l).step h2 hm⟩⟩
instance (L:Nat) (z:Int):AggSP (SP.num L z) 2:=⟨fun ⟨b,l,_,s,e,h⟩=>by
 obtain ⟨A,n,e1⟩:=SP.vec_val h
 exact ⟨_,e,rfl,by simp [e1,Value.oneCell']⟩⟩
theorem num_of1 {f:FuncId} {L:Nat} {z:Int} {q:SP} (h:∀ b l,NumP L b l z→FnC Tryz.prog f [SP.nm b l] q):FnC Tryz.prog f [.num L z] q:=fun ok vs W hA hk=>by
 match vs,hA with
 | [v],⟨⟨b,l,hN,hv⟩,_⟩=>exact h b l hN ok [v] W ⟨hv,trivial⟩ hk
theorem num_of2 {f:FuncId} {L1 L2:Nat} {z1 z2:Int} {q:SP} (h:∀ b1 l1 b2 l2,NumP L1 b1 l1 z1→NumP L2 b2 l2 z2→FnC Tryz.prog f [SP.nm b1 l1,SP.nm b2 l2] q):FnC Tryz.prog f [.num L1 z1,.num L2 z2] q:=fun ok vs W hA hk=>by
 match vs,hA with
 | [v1,v2],⟨⟨b1,l1,hN1,hv1⟩,⟨b2,l2,hN2,hv2⟩,_⟩=>exact h b1 l1 b2 l2 hN1 hN2 ok [v1,v2] W ⟨hv1,hv2,trivial⟩ hk
theorem built_num (b:Bool) (A:Option Addr) (n c:Nat):Tryz.prog.built 71 [(0,.bool b),(1,.slice A n c)]=some #[.bool b,.slice A n c]:=by cases b<;>kernel_rfl
section
variable {w0:World} {ok0:Nat→Prop} {N:Nat} {R:Rg} {ops:Array Oper} {Q:Exit→Act→World→Prop} {i:Nat} {o:Oper}
theorem bldN {d:Tmp} {x y:Operand} {b:Bool} {l:List Int} {L:Nat} {z:Int} (hh:Pl R ops i o (some d) (.build 71 #[(0,x),(1,y)]) true) (hx:Vl R i x (bv b)) (hy:Vl R i y (ivec l)) (hN:NumP L b l z):Does Tryz.prog w0 ok0 N R ops Q i o (some (.s d (.num L z))) :=
 does_s hh fun ok a W hf hk K hK=>by
  have h1:a.eval x = .bool b:=hx.H hf
  have h2:=hy.H hf
  obtain ⟨A,c,e2⟩:=SP.vec_val h2
  have er:∀ cs,Tryz.prog.built 71 [(0,a.eval x),(1,a.eval y)]=some cs→(execOp a.eval o).run Tryz.prog W = .ok (.value (.agg cs)) W:=fun cs hcs=>run_bldp hh.op (by rw [show ((#[(0,x),(1,y)]:Array (Nat × Operand)).map fun p:Nat × Operand=>(p.1,a.eval p.2)).toList=[(0,a.eval x),(1,a.eval y)] from by simp];exact hcs)
  have hb':Tryz.prog.built 71 [(0,a.eval x),(1,a.eval y)]=some #[a.eval x,a.eval y]:=by rw [h1,e2];exact built_num ..
  unfold Oper.wp
  rw [er _ hb']
  exact hK _ W (Below.refl _ _) ⟨b,l,hN,_,by rw [h1],h2⟩
end
theorem fNM:FieldTy Tryz.prog 71 0 0:=⟨⟨_,_,Tryz.underlying71,rfl,fun _ _=>by kernel_rfl⟩⟩
theorem fND:FieldTy Tryz.prog 71 1 1:=⟨⟨_,_,Tryz.underlying71,rfl,fun _ _=>by kernel_rfl⟩⟩
theorem tyvI:ScalTy Tryz.prog 34:=⟨⟨_,Tryz.underlying34,rfl⟩⟩
theorem numP_cut {b:Bool} {l:List Int} {n:Nat} (hn:n≤l.length) (hD:Dig l) (hz:∀ i,n≤i→l.getD i 0=0) (h0:n=0∨l.getD (n - 1) 0≠0):NumP l.length (b && decide (((n:Nat):Int) > 0)) (l.take n) (if b then -val l else val l):=by
 have e:decide (((n:Nat):Int) > 0)=decide (0 < n):=decide_eq_decide.2 (by omega)
 rw [e]
 exact numP_of hn hD hz h0
end Go.Proofs.YtkgagdjogedoiaaGreat
