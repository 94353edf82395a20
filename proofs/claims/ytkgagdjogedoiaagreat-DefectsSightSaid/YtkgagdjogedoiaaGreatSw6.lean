/- The edges and the mesh of an input: the document's, walked. -/
import Derived.Test.YtkgagdjogedoiaaGreatSw5
set_option linter.unusedVariables false
set_option linter.unusedSimpArgs false
set_option maxRecDepth 100000
set_option maxHeartbeats 8000000
namespace Go.Proofs.YtkgagdjogedoiaaGreat
open Go Go.RowKit Go.Proofs.YtkgagdjogedoiaaGreat.Fx Go.Proofs.YtkgagdjogedoiaaGreatW.PrintWords
theorem right_ok {P L I:List (Int × Int)} (h:rightB P L I=true):okQ P L I∧inS P (L++I)∧disS P (L++I):=by
  unfold rightB at h
  rw [Bool.and_eq_true,decide_eq_true_eq,decide_eq_true_eq] at h
  have hok:=chk5_yes h.1
  refine ⟨hok,inS_of hok,(dis_of hok ?_).2⟩
  by_cases c:(flwP P (L++I)).1=0
  · exact c
  · rw [first_p h.1 c] at h
    exact h.2
theorem edgA_succ {P L l m l0:List (Int × Int)} {a j:Nat} (h1:a+1+j≤P.length) (h2:¬ a+1+j < P.length) (hm:m=edgB P L a j l) (hl:l=edgA P L a l0):m=edgA P L (a+1) l0:=by
  obtain rfl:j=P.length - (a+1):=by omega
  rw [hm,hl]
  rfl
theorem edg_e {P L I:List (Int × Int)} (h:rightB P L I=true):edgR P L I=edgA P L P.length (segL (L++I))∧edgE P L I=0:=⟨if_pos h,if_pos h⟩
theorem edg_n {P L I:List (Int × Int)} (h:rightB P L I=false):edgR P L I=[]∧edgE P L I=2:=⟨if_neg (by rw [h];decide),if_neg (by rw [h];decide)⟩
theorem fn_Edges {P L I:List (Int × Int)} (hP:P.length≤14) (hL:L.length≤30) (hI:I.length≤30):FnC Tryz.prog 76 [SP.poly P L I] (.tup [svec (edgR P L I),iv (edgE P L I)]):=by
 refine FnC.of (N:=39) Tryz.func76 rfl rfl (Nat.le_of_ble_eq_true rfl) (fun w0 ok0=>?_)
 refine Tr.rs [] (.k (bxx .k (.b 0 rfl)) (.k (nilv (sz:=2) .k (.inl rfl)) (.k (asg .k .c) .n))) [] [0] rfl rfl ?_
 cases hr:rightB P L I
 ·
  rw [(edg_n hr).1,(edg_n hr).2]
  refine Tr.seq (Tr.rs [] (.k (ld .k (.b 0 rfl) tyQ) (.k (cal .k Tryz.func103 rfl (show FnC _ _ _ (bv false) from hr ▸ fn_Right10 hP hL hI) (.k (.g 0 rfl) .n)) (.k (not_ .k (.g 1 rfl)) .n))) [0] [2] rfl rfl ?_)
  refine Tr.cond 1 rfl (fun _=>?_) nofun
  refine Tr.rs [] (.k (nilv (sz:=2) .k (.inl rfl)) (.k (asg .k .c) .n)) [] [0,1] rfl rfl ?_
  refine Tr.ret (end_tmp2 0 1 rfl rfl rfl)
 ·
  rw [(edg_e hr).1,(edg_e hr).2]
  obtain ⟨hok,hin,hdi⟩:=right_ok hr
  refine Tr.seq (Tr.rs [] (.k (ld .k (.b 0 rfl) tyQ) (.k (cal .k Tryz.func103 rfl (show FnC _ _ _ (bv true) from hr ▸ fn_Right10 hP hL hI) (.k (.g 0 rfl) .n)) (.k (not_ .k (.g 1 rfl)) .n))) [0] [2] rfl rfl ?_)
  refine Tr.cond 1 rfl nofun (fun _=>?_)
  refine Tr.skip (Nx.go (Tr.rs [] (.k (ld .k (.b 0 rfl) tyQ) (.k (cal .k Tryz.func77 rfl (fn_segs hP hL hI) (.k (.g 0 rfl) .n)) (.k (asg .k (.g 1 rfl)) .n))) [0] [2] rfl rfl ?_))
  have hLI:(L++I).length=L.length+I.length:=List.length_append
  refine Tr.seq (Tr.rs [] (.k (asg .k .c) .n) [0,1] [0] rfl rfl ?_)
  refine Tr.block (?_)
  refine Tr.loop (fun n_ F_=>∃ a:Nat,∃ l:List (Int × Int),(a≤P.length∧l=edgA P L a (segL (L++I))∧inS P l∧l.length≤60+14 * a)∧n_=P.length - a∧F_=[.b 1 (SP.poly P L I) 47 3,.s 4 (svec l),.s 5 (iv ((a:Nat):Int))]) (P.length - 0) (F0:=[.b 1 (SP.poly P L I) 47 3,.s 4 (svec (segL (L++I))),.s 5 (iv ((0:Nat):Int))]) ⟨0,(segL (L++I)),⟨Nat.zero_le _,rfl,inS_segL hin,by have:=segL_len (L++I) (L++I).length (Nat.le_refl _);rw [List.take_length] at this;omega⟩,rfl,rfl⟩ (Sub.all (.cons 0 rfl (.cons 1 rfl (.cons 2 rfl .nil)))) (fun n_ F_ hI=>?_)
  obtain ⟨a,l,hinv,rfl,rfl⟩:=hI
  obtain ⟨ha,hl,hls,hll⟩:=hinv
  refine Tr.seq (Tr.rs [] (.k (mv .k (.b 2 rfl)) (.k (faddr .k (.b 0 rfl) rfl fQP) (.k (ldc .k (.g 1 rfl) (.b 0 rfl) tyvP) (.k (len_ .k rwP (.g 2 rfl) (by rw [List.length_map])) (.k (lt_ .k (.g 0 rfl) (.g 3 rfl) rfl) .n))))) [0,1,2] [4] rfl rfl ?_)
  refine Tr.cond 3 rfl (fun e16=>?_) (fun e16=>?_)
  ·
   have ha2:a < P.length:=by have:=of_decide_eq_true e16;omega
   refine Tr.skip (Nx.go (Tr.seq (Tr.block (Tr.rs [] (.k (mv .k (.b 2 rfl)) (.k (add_ .k (.g 0 rfl) .c (wr1 (by omega))) (.k (asg .k (.g 1 rfl)) .n))) [0,1,2] [2] rfl rfl ?_))))
   refine Tr.block (?_)
   refine Tr.loop (fun n_ F_=>∃ j:Nat,∃ m:List (Int × Int),(a+1+j≤P.length∧m=edgB P L a j l∧inS P m∧m.length≤60+14 * a+j)∧n_=P.length - (a+1+j)∧F_=[.b 1 (SP.poly P L I) 47 3,.s 4 (svec m),.s 5 (iv ((a:Nat):Int)),.s 6 (iv ((a+1+j:Nat):Int))]) (P.length - (a+1+0)) (F0:=[.b 1 (SP.poly P L I) 47 3,.s 4 (svec l),.s 5 (iv ((a:Nat):Int)),.s 6 (iv ((a+1+0:Nat):Int))]) ⟨0,l,⟨by omega,rfl,hls,by omega⟩,rfl,rfl⟩ (Sub.all (.cons 0 rfl (.cons 1 rfl (.cons 2 rfl (.cons 3 rfl .nil))))) (fun n_ F_ hI=>?_)
   obtain ⟨j,m,hjv,rfl,rfl⟩:=hI
   obtain ⟨hj1,hj2,hj3,hj4⟩:=hjv
   refine Tr.seq (Tr.rs [] (.k (mv .k (.b 3 rfl)) (.k (faddr .k (.b 0 rfl) rfl fQP) (.k (ldc .k (.g 1 rfl) (.b 0 rfl) tyvP) (.k (len_ .k rwP (.g 2 rfl) (by rw [List.length_map])) (.k (lt_ .k (.g 0 rfl) (.g 3 rfl) rfl) .n))))) [0,1,2,3] [4] rfl rfl ?_)
   refine Tr.cond 4 rfl (fun e25=>?_) (fun e25=>?_)
   ·
    have hj5:a+1+j < P.length:=by have:=of_decide_eq_true e25;omega
    refine Tr.skip (Nx.go (Tr.seq (Tr.block (?_))))
    cases hg:goesB P L m ((a:Nat):Int) ((a+1+j:Nat):Int)
    ·
     refine Tr.rs [] (.k (ld .k (.b 0 rfl) tyQ) (.k (mv .k (.b 1 rfl)) (.k (mv .k (.b 2 rfl)) (.k (mv .k (.b 3 rfl)) (.k (cal .k Tryz.func104 rfl (show FnC _ _ _ (bv false) from hg ▸ (fn_goes hP hL hI hok (fun s hs=>hin s (List.mem_append_left _ hs)) (fun s hs=>hdi s (List.mem_append_left _ hs)) (by omega) hj3 (inP (by omega)) (inP (by omega)))) (.k (.g 0 rfl) (.k (.g 1 rfl) (.k (.g 2 rfl) (.k (.g 3 rfl) .n))))) .n))))) [0,1,2,3] [4] rfl rfl ?_
     refine Tr.cond 4 rfl nofun (fun _=>?_)
     refine Tr.skip (Nx.bkN (Nx.go (Tr.reg [(3,2)] (.k (mv .k (.b 3 rfl)) (.k (add_ .k (.g 0 rfl) .c (show IntKind.i64.wrap (((a+1+j:Nat):Int)+1)=((a+1+(j+1):Nat):Int) by rw [IntWalk.i64_in _ (by omega)];omega)) (.k (asg .k (.g 1 rfl)) .n))) [0,1,2] [2] rfl rfl (Nx.again (P.length - (a+1+(j+1))) (by omega) [.b 1 (SP.poly P L I) 47 3,.s 4 (svec m),.s 5 (iv ((a:Nat):Int)),.s 6 (iv ((a+1+(j+1):Nat):Int))] ⟨(j+1),m,⟨by omega,by rw [edgB_no (hj2 ▸ hg)];exact hj2,hj3,by omega⟩,rfl,rfl⟩ (Sub.all (.cons 0 rfl (.cons 1 rfl (.cons 2 rfl (.cons 3 rfl .nil)))))))))
    ·
     have hll2:=lay_len m (((a:Nat):Int),((a+1+j:Nat):Int))
     refine Tr.rs [] (.k (ld .k (.b 0 rfl) tyQ) (.k (mv .k (.b 1 rfl)) (.k (mv .k (.b 2 rfl)) (.k (mv .k (.b 3 rfl)) (.k (cal .k Tryz.func104 rfl (show FnC _ _ _ (bv true) from hg ▸ (fn_goes hP hL hI hok (fun s hs=>hin s (List.mem_append_left _ hs)) (fun s hs=>hdi s (List.mem_append_left _ hs)) (by omega) hj3 (inP (by omega)) (inP (by omega)))) (.k (.g 0 rfl) (.k (.g 1 rfl) (.k (.g 2 rfl) (.k (.g 3 rfl) .n))))) .n))))) [0,1,2,3] [4] rfl rfl ?_
     refine Tr.cond 4 rfl (fun _=>?_) nofun
     refine Tr.reg [(1,5)] (.k (mv .k (.b 1 rfl)) (.k (mv .k (.b 2 rfl)) (.k (mv .k (.b 3 rfl)) (.k (bld .k (.k (.g 1 rfl) (.k (.g 2 rfl) .n)) (bS _ _) (aS _ _)) (.k (cal .k Tryz.func105 rfl (fn_Lay (by omega)) (.k (.g 0 rfl) (.k (.g 3 rfl) .n))) (.k (asg .k (.g 4 rfl)) .n)))))) [0,2,3] [5] rfl rfl (Nx.bkN (Nx.go (Tr.reg [(2,2)] (.k (mv .k (.b 2 rfl)) (.k (add_ .k (.g 0 rfl) .c (show IntKind.i64.wrap (((a+1+j:Nat):Int)+1)=((a+1+(j+1):Nat):Int) by rw [IntWalk.i64_in _ (by omega)];omega)) (.k (asg .k (.g 1 rfl)) .n))) [0,1,3] [2] rfl rfl (Nx.again (P.length - (a+1+(j+1))) (by omega) [.b 1 (SP.poly P L I) 47 3,.s 4 (svec (layS m (((a:Nat):Int),((a+1+j:Nat):Int)))),.s 5 (iv ((a:Nat):Int)),.s 6 (iv ((a+1+(j+1):Nat):Int))] ⟨(j+1),(layS m (((a:Nat):Int),((a+1+j:Nat):Int))),⟨by omega,by rw [edgB_yes (hj2 ▸ hg),← hj2],inS_lay hj3 ⟨inP (by omega),inP (by omega)⟩,by omega⟩,rfl,rfl⟩ (Sub.all (.cons 0 rfl (.cons 2 rfl (.cons 1 rfl (.cons 3 rfl .nil)))))))))
   ·
    have hj5:¬ a+1+j < P.length:=by have:=of_decide_eq_false e25;omega
    refine Tr.exit (Nx.thX (Nx.thX (Nx.bkX (Nx.bkN (Nx.go (Tr.reg [(2,2)] (.k (mv .k (.b 2 rfl)) (.k (add_ .k (.g 0 rfl) .c (wr1 (by omega))) (.k (asg .k (.g 1 rfl)) .n))) [0,1] [2] rfl rfl (Nx.again (P.length - (a+1)) (by omega) [.b 1 (SP.poly P L I) 47 3,.s 4 (svec m),.s 5 (iv (((a+1):Nat):Int))] ⟨(a+1),m,⟨by omega,edgA_succ hj1 hj5 hj2 hl,hj3,by omega⟩,rfl,rfl⟩ (Sub.all (.cons 0 rfl (.cons 1 rfl (.cons 2 rfl .nil)))))))))))
  ·
   obtain rfl:a=P.length:=by have:=of_decide_eq_false e16;omega
   refine Tr.exit (Nx.thX (Nx.thX (Nx.bkX (Nx.go (?_)))))
   rw [← hl]
   refine Tr.rs [] (.k (mv .k (.b 1 rfl)) (.k (asg .k (.g 0 rfl)) (.k (asg .k .c) .n))) [] [1,2] rfl rfl ?_
   refine Tr.ret (end_tmp2 0 1 rfl rfl rfl)
theorem Tr.share1 {P:Program} {w0:World} {ok0:Nat→Prop} {N:Nat} {F:List Fact} {Q:Exit→Act→World→Prop} {x z:Code} {p:Prop} (F':List Fact) (h:p→Tr P w0 ok0 N F' z Q) (t:(p→Tr P w0 ok0 N F' z Q)→Tr P w0 ok0 N F (.seq x z) Q):Tr P w0 ok0 N F (.seq x z) Q:=t h
theorem bMS (A:Option Addr) (n c:Nat):Tryz.prog.built 26 [(2,.slice A n c)]=some #[.slice none 0 0,.slice none 0 0,.slice A n c]:=by kernel_rfl
section
variable {w0:World} {ok0:Nat→Prop} {N:Nat} {ops:Array Oper} {Q:Exit→Act→World→Prop} {i:Nat} {F:List Fact} {K:Act→World→Prop} {r:List Oper}
theorem Go.unname {t:Tmp} {v:Value} {p:SP} (k j:Nat) (hk:F[k]?=some (.s t (.is v))) (hj:F[j]?=some (.v [v] [p])) (h:Go Tryz.prog w0 ok0 N ops Q i r (.s t p :: F)):Go Tryz.prog w0 ok0 N ops Q i r F :=
  Go.ghost (α:=Unit) (fun K hh=>Nx.more (f' := .s t p) rfl rfl (fun ok x W hh=>by
    have e:x.tmps.getD t undef=v:=hh _ (List.mem_of_getElem? hk)
    have a1:Args ok W [p] [v]:=hh _ (List.mem_of_getElem? hj)
    show p.H ok _ W
    rw [e]
    exact a1.1) (hh ())) fun _=>h
end
def hit0 (P L l:List (Int × Int)) (a b c:Int):Prop:=(triR P.length (oP P) a b c).2=true∧midR P L [a,b,c]=1∧hasP l a c∧hasP l b c
theorem mkB_step {P L l:List (Int × Int)} {a j i:Nat} {T:List (Int × Int × Int)} (h1:hasP l a ((a+1+j:Nat):Int)∨i=0) (h2:hasP l a ((a+1+j:Nat):Int)→i=P.length - (a+1+j+1)):mkC P L l a (a+1+j) i (mkB P L l a j T)=mkB P L l a (j+1) T:=by
  by_cases h:hasP l a ((a+1+j:Nat):Int)
  · rw [mkB_yes h,h2 h]
  · rw [mkB_no h]
    rcases h1 with h1|h1
    · exact absurd h1 h
    · subst h1;rfl
theorem mkA_succ {P L l:List (Int × Int)} {T T2 T0:List (Int × Int × Int)} {a j:Nat} (h1:a+1+j≤P.length) (h2:¬ a+1+j < P.length) (hm:T2=mkB P L l a j T) (hl:T=mkA P L l a T0):T2=mkA P L l (a+1) T0:=by
  obtain rfl:j=P.length - (a+1):=by omega
  rw [hm,hl]
  rfl
theorem all_up {q:Nat→Prop} {u:Nat} (h:∀ i,i < u→q i) (hu:q u):∀ i,i < u+1→q i:=fun i hi=>(Nat.lt_succ_iff_lt_or_eq.1 hi).elim (h i) (fun e=>e ▸ hu)
theorem tri_in3 {P:List (Int × Int)} {a b c:Int} (h:(triR P.length (oP P) a b c).2=true):InP P (triR P.length (oP P) a b c).1.1∧InP P (triR P.length (oP P) a b c).1.2.1∧InP P (triR P.length (oP P) a b c).1.2.2:=by
  unfold triR at h ⊢
  split at h
  · rename_i hc
    rw [if_pos hc]
    have ha:=inP hc.1
    have hb:=inP hc.2.1
    have hc':=inP hc.2.2.1
    simp only
    split
    · rcases rot_in a c b with e|e|e<;>rw [e]<;>exact ⟨by assumption,by assumption,by assumption⟩
    · rcases rot_in a b c with e|e|e<;>rw [e]<;>exact ⟨by assumption,by assumption,by assumption⟩
  · cases h
theorem mem3 {q:Int→Prop} {a b c:Int} (h1:q a) (h2:q b) (h3:q c):∀ z∈[a,b,c],q z:=by
  intro z hz
  simp only [List.mem_cons,List.not_mem_nil,or_false] at hz
  rcases hz with rfl|rfl|rfl
  · exact h1
  · exact h2
  · exact h3
theorem bool_of (p:Prop):∃ k:Bool,k=true↔p:=by
  by_cases h:p
  · exact ⟨true,by simp [h]⟩
  · exact ⟨false,by simp [h]⟩
theorem ok_end {q:Prop} {k k1:Bool} (h1:k1=true↔q) (h2:k=false→¬ q) (h3:k=true→q):k1=k:=by
  cases k with
  | true=>exact h1.2 (h3 rfl)
  | false=>exact Bool.eq_false_iff.2 fun h=>h2 rfl (h1.1 h)
theorem hit_all {P L l:List (Int × Int)} {a b c:Int} (h:hit0 P L l a b c) (h2:∀ i,i < P.length→emp3 P a b c i):hitM P L l a b c:=⟨h.1,h.2.1,h.2.2.1,h.2.2.2,h2⟩
theorem fn_MakeT {P L I:List (Int × Int)} (hP:P.length≤14) (hL:L.length≤30) (hI:I.length≤30) (hr:rightB P L I=true) {l:List (Int × Int)} (hl:l=edgR P L I) (hll:l.length≤1000000):FnC Tryz.prog 41 [SP.poly P L I] (.tup [SP.mesh P (mkT P L I) (segL (L++I)),iv 0]):=by
 refine FnC.of (N:=144) Tryz.func41 rfl rfl (Nat.le_of_ble_eq_true rfl) (fun w0 ok0=>?_)
 refine Tr.rs [] (.k (bxx .k (.b 0 rfl)) (.k (alc .k zM) (.k (asg .k .c) .n))) [] [0,1] rfl rfl ?_
 obtain ⟨hok,hin,hdi⟩:=right_ok hr
 refine Tr.rs [] (.k (ld .k (.b 0 rfl) tyQ) (.k (cal .k Tryz.func76 rfl (show FnC _ _ _ (.tup [svec l,iv 0]) from hl ▸ (edg_e hr).2 ▸ fn_Edges hP hL hI) (.k (.g 0 rfl) .n)) (.k (mv .k (.g 1 rfl)) (.k (exx .k (.g 2 rfl) rfl) (.k (exx .k (.g 2 rfl) rfl) (.k (asg .k (.g 3 rfl)) (.k (asg .k (.g 4 rfl)) .n))))))) [0,1] [5,6] rfl rfl ?_
 refine Tr.seq (Tr.rs [] (.k (mv .k (.b 3 rfl)) (.k (ne_ .k (.g 0 rfl) .c (bne_eq_false_iff_eq.2 rfl)) .n)) [0,1,2,3] [1] rfl rfl ?_)
 refine Tr.cond 4 rfl nofun (fun _=>?_)
 refine Tr.skip (Nx.go (Tr.gos (Go.k (ld .k (.b 0 rfl) tyQ) [0,1,2] rfl rfl (Go.k (cal .k Tryz.func77 rfl (fn_segs hP hL hI) (.k (.b 0 rfl) .n)) [1,2,3] rfl rfl (Go.name 0 rfl fun A4 c4=>(Go.k (bld .k (.k (.b 0 rfl) .n) (bMS _ _ _) rfl) [1,3,4,5] rfl rfl (Go.k (alc .k zM) [0,1,2,3,4] rfl rfl (Go.k (sto .k (.b 0 rfl) (.b 1 rfl) tyM) [2,3,4,5] rfl rfl (Go.end_ (Nx.go (?_)))))))))))
 refine Tr.boxh [.slice none 0 0,.slice none 0 0,.slice A4 ((segL (L++I)).map sgc).length c4] 1 0 [1,2,3,4] rfl rfl rfl (fun g1=>?_)
 refine Tr.gos (Go.k (fadh .k (.b 0 rfl) fMP) [0,1,2,3,4,5] rfl rfl (Go.k (ldn .k (.b 0 rfl) (.b 2 rfl) tyvP rfl) [1,2,3,4,5,6] rfl rfl (Go.k (faddr .k (.b 4 rfl) rfl fQP) [0,1,2,3,4,5,6] rfl rfl (Go.k (ldc .k (.b 0 rfl) (.b 5 rfl) tyvP) [1,2,3,4,5,6,7] rfl rfl (Go.k (apn .k apP (.b 1 rfl) (.b 0 rfl) (pt_all _) (by decide) (by rw [List.length_map];omega)) [2,3,4,5,6,7] rfl rfl (Go.frzo 0 [1,2,3,4,5,6] rfl rfl (Go.name 0 rfl fun A2 c2=>(Go.k (fadh .k (.b 3 rfl) fMP) [0,1,2,3,4,5,6,7,8] rfl rfl (Go.k (sth1 .k (.b 0 rfl) (.b 5 rfl) (.b 1 rfl) szvP rfl (show 0 < 3 by decide) rfl rfl) [2,4,6,7,8,9] rfl rfl (Go.end_ (Nx.go (?_))))))))))))
 refine Tr.more (f' := .v [.slice none 0 0] [tvec []]) rfl rfl (fun ok a W h3=>⟨vec_nil,trivial⟩) ?_
 refine Tr.seq (Tr.rs [] (.k (asg .k .c) .n) [0,1,2,3,4,5,6,7] [0] rfl rfl ?_)
 refine Tr.block (?_)
 refine Tr.loop (fun n_ F_=>∃ a:Nat,∃ T:List (Int × Int × Int),∃ v:Value,(a≤P.length∧T=mkA P L l a []∧T.length≤196 * a)∧n_=P.length - a∧F_=[.b 1 (SP.poly P L I) 47 3,.b 2 (.is (.agg #[.slice none 0 0,.slice none 0 0,.slice none 0 0])) 26 3,.s 4 (svec l),.s 6 (.is (ptr g1 0)),.h 1 g1 (HP.own 26 3 1 1 [.slice A2 (P.map pc).length c2,v,.slice A4 ((segL (L++I)).map sgc).length c4]),.v [.slice A2 (P.map pc).length c2] [pvec P],.v [.slice A4 ((segL (L++I)).map sgc).length c4] [svec (segL (L++I))],.v [v] [tvec T],.s 7 (iv ((a:Nat):Int))]) (P.length - 0) (F0:=[.b 1 (SP.poly P L I) 47 3,.b 2 (.is (.agg #[.slice none 0 0,.slice none 0 0,.slice none 0 0])) 26 3,.s 4 (svec l),.s 6 (.is (ptr g1 0)),.h 1 g1 (HP.own 26 3 1 1 [.slice A2 (P.map pc).length c2,(.slice none 0 0),.slice A4 ((segL (L++I)).map sgc).length c4]),.v [.slice A2 (P.map pc).length c2] [pvec P],.v [.slice A4 ((segL (L++I)).map sgc).length c4] [svec (segL (L++I))],.v [(.slice none 0 0)] [tvec []],.s 7 (iv ((0:Nat):Int))]) ⟨0,[],(.slice none 0 0),⟨Nat.zero_le _,rfl,Nat.le_refl _⟩,rfl,rfl⟩ (Sub.all (.cons 5 rfl (.cons 6 rfl (.cons 7 rfl (.cons 3 rfl (.cons 1 rfl (.cons 2 rfl (.cons 4 rfl (.cons 0 rfl (.cons 8 rfl .nil)))))))))) (fun n_ F_ hI=>?_)
 obtain ⟨a,T,v,hinv,rfl,rfl⟩:=hI
 obtain ⟨ha1,ha2,ha3⟩:=hinv
 refine Tr.seq (Tr.rs [] (.k (mv .k (.b 8 rfl)) (.k (faddr .k (.b 0 rfl) rfl fQP) (.k (ldc .k (.g 1 rfl) (.b 0 rfl) tyvP) (.k (len_ .k rwP (.g 2 rfl) (by rw [List.length_map])) (.k (lt_ .k (.g 0 rfl) (.g 3 rfl) rfl) .n))))) [0,1,2,3,4,5,6,7,8] [4] rfl rfl ?_)
 refine Tr.cond 9 rfl (fun e37=>?_) (fun e37=>?_)
 ·
  have ha4:a < P.length:=by have:=of_decide_eq_true e37;omega
  refine Tr.skip (Nx.go (Tr.seq (Tr.block (Tr.rs [] (.k (mv .k (.b 8 rfl)) (.k (add_ .k (.g 0 rfl) .c (wr1 (by omega))) (.k (asg .k (.g 1 rfl)) .n))) [0,1,2,3,4,5,6,7,8] [2] rfl rfl ?_))))
  refine Tr.block (?_)
  refine Tr.loop (fun n_ F_=>∃ j:Nat,∃ T2:List (Int × Int × Int),∃ v2:Value,(a+1+j≤P.length∧T2=mkB P L l a j T∧T2.length≤196 * a+14 * j)∧n_=P.length - (a+1+j)∧F_=[.b 1 (SP.poly P L I) 47 3,.b 2 (.is (.agg #[.slice none 0 0,.slice none 0 0,.slice none 0 0])) 26 3,.s 4 (svec l),.s 6 (.is (ptr g1 0)),.h 1 g1 (HP.own 26 3 1 1 [.slice A2 (P.map pc).length c2,v2,.slice A4 ((segL (L++I)).map sgc).length c4]),.v [.slice A2 (P.map pc).length c2] [pvec P],.v [.slice A4 ((segL (L++I)).map sgc).length c4] [svec (segL (L++I))],.v [v2] [tvec T2],.s 7 (iv ((a:Nat):Int)),.s 8 (iv ((a+1+j:Nat):Int))]) (P.length - (a+1+0)) (F0:=[.b 1 (SP.poly P L I) 47 3,.b 2 (.is (.agg #[.slice none 0 0,.slice none 0 0,.slice none 0 0])) 26 3,.s 4 (svec l),.s 6 (.is (ptr g1 0)),.h 1 g1 (HP.own 26 3 1 1 [.slice A2 (P.map pc).length c2,v,.slice A4 ((segL (L++I)).map sgc).length c4]),.v [.slice A2 (P.map pc).length c2] [pvec P],.v [.slice A4 ((segL (L++I)).map sgc).length c4] [svec (segL (L++I))],.v [v] [tvec T],.s 7 (iv ((a:Nat):Int)),.s 8 (iv ((a+1+0:Nat):Int))]) ⟨0,T,v,⟨by omega,rfl,by omega⟩,rfl,rfl⟩ (Sub.all (.cons 0 rfl (.cons 1 rfl (.cons 2 rfl (.cons 3 rfl (.cons 4 rfl (.cons 5 rfl (.cons 6 rfl (.cons 7 rfl (.cons 8 rfl (.cons 9 rfl .nil))))))))))) (fun n_ F_ hI=>?_)
  obtain ⟨j,T2,v2,hjv,rfl,rfl⟩:=hI
  obtain ⟨hj1,hj2,hj3⟩:=hjv
  refine Tr.seq (Tr.rs [] (.k (mv .k (.b 9 rfl)) (.k (faddr .k (.b 0 rfl) rfl fQP) (.k (ldc .k (.g 1 rfl) (.b 0 rfl) tyvP) (.k (len_ .k rwP (.g 2 rfl) (by rw [List.length_map])) (.k (lt_ .k (.g 0 rfl) (.g 3 rfl) rfl) .n))))) [0,1,2,3,4,5,6,7,8,9] [4] rfl rfl ?_)
  refine Tr.cond 10 rfl (fun e46=>?_) (fun e46=>?_)
  ·
   have hj4:a+1+j < P.length:=by have:=of_decide_eq_true e46;omega
   refine Tr.skip (Nx.go (Tr.seq (Tr.block (Tr.rs [] (.k (mv .k (.b 9 rfl)) (.k (add_ .k (.g 0 rfl) .c (show IntKind.i64.wrap ((a+1+j:Int)+1)=((a+1+j+1:Nat):Int) by rw [IntWalk.i64_in _ (by omega)];omega)) (.k (asg .k (.g 1 rfl)) .n))) [0,1,2,3,4,5,6,7,8,9] [2] rfl rfl ?_))))
   refine Tr.block (?_)
   refine Tr.loop (fun n_ F_=>∃ i:Nat,∃ T3:List (Int × Int × Int),∃ v3:Value,(a+1+j+1+i≤P.length∧T3=mkC P L l a (a+1+j) i T2∧(hasP l ((a:Nat):Int) ((a+1+j:Nat):Int)∨i=0)∧T3.length≤196 * a+14 * j+i)∧n_=P.length - (a+1+j+1+i)∧F_=[.b 1 (SP.poly P L I) 47 3,.b 2 (.is (.agg #[.slice none 0 0,.slice none 0 0,.slice none 0 0])) 26 3,.s 4 (svec l),.s 6 (.is (ptr g1 0)),.h 1 g1 (HP.own 26 3 1 1 [.slice A2 (P.map pc).length c2,v3,.slice A4 ((segL (L++I)).map sgc).length c4]),.v [.slice A2 (P.map pc).length c2] [pvec P],.v [.slice A4 ((segL (L++I)).map sgc).length c4] [svec (segL (L++I))],.v [v3] [tvec T3],.s 7 (iv ((a:Nat):Int)),.s 8 (iv ((a+1+j:Nat):Int)),.s 9 (iv ((a+1+j+1+i:Nat):Int))]) (P.length - (a+1+j+1+0)) (F0:=[.b 1 (SP.poly P L I) 47 3,.b 2 (.is (.agg #[.slice none 0 0,.slice none 0 0,.slice none 0 0])) 26 3,.s 4 (svec l),.s 6 (.is (ptr g1 0)),.h 1 g1 (HP.own 26 3 1 1 [.slice A2 (P.map pc).length c2,v2,.slice A4 ((segL (L++I)).map sgc).length c4]),.v [.slice A2 (P.map pc).length c2] [pvec P],.v [.slice A4 ((segL (L++I)).map sgc).length c4] [svec (segL (L++I))],.v [v2] [tvec T2],.s 7 (iv ((a:Nat):Int)),.s 8 (iv ((a+1+j:Nat):Int)),.s 9 (iv ((a+1+j+1+0:Nat):Int))]) ⟨0,T2,v2,⟨by omega,rfl,.inr rfl,by omega⟩,rfl,rfl⟩ (Sub.all (.cons 0 rfl (.cons 1 rfl (.cons 2 rfl (.cons 3 rfl (.cons 4 rfl (.cons 5 rfl (.cons 6 rfl (.cons 7 rfl (.cons 8 rfl (.cons 9 rfl (.cons 10 rfl .nil)))))))))))) (fun n_ F_ hI=>?_)
   obtain ⟨i,T3,v3,hiv,rfl,rfl⟩:=hI
   obtain ⟨hi1,hi2,hi3,hi4⟩:=hiv
   rcases and_ways2 (a+1+j+1+i < P.length) (hasP l ((a:Nat):Int) ((a+1+j:Nat):Int)) with b1|⟨b1,b2⟩|⟨b1,b2⟩
   ·
    have hie:hasP l ((a:Nat):Int) ((a+1+j:Nat):Int)→i=P.length - (a+1+j+1):=fun _=>by omega
    refine Tr.seq (Tr.rs [] (.k (mv .k (.b 10 rfl)) (.k (faddr .k (.b 0 rfl) rfl fQP) (.k (ldc .k (.g 1 rfl) (.b 0 rfl) tyvP) (.k (len_ .k rwP (.g 2 rfl) (by rw [List.length_map])) (.k (lt_ .k (.g 0 rfl) (.g 3 rfl) (dF (by omega))) (.k (mv .k (.g 4 rfl)) (.k (skp (.o 5 rfl rfl rfl)) (.k (skp (.o 5 rfl rfl rfl)) (.k (skp (.o 5 rfl rfl rfl)) (.k (skp (.o 5 rfl rfl rfl)) (.k (pickF .k (.g 5 rfl) .c) .n))))))))))) [0,1,2,3,4,5,6,7,8,9,10] [10] rfl rfl ?_)
    refine Tr.cond 11 rfl nofun (fun _=>?_)
    refine Tr.exit (Nx.thX (Nx.thX (Nx.bkX (Nx.bkN (Nx.go (Tr.reg [(9,2)] (.k (mv .k (.b 9 rfl)) (.k (add_ .k (.g 0 rfl) .c (show IntKind.i64.wrap (((a+1+j:Nat):Int)+1)=((a+1+(j+1):Nat):Int) by rw [IntWalk.i64_in _ (by omega)];omega)) (.k (asg .k (.g 1 rfl)) .n))) [0,1,2,3,4,5,6,7,8] [2] rfl rfl (Nx.again (P.length - (a+1+(j+1))) (by omega) [.b 1 (SP.poly P L I) 47 3,.b 2 (.is (.agg #[.slice none 0 0,.slice none 0 0,.slice none 0 0])) 26 3,.s 4 (svec l),.s 6 (.is (ptr g1 0)),.h 1 g1 (HP.own 26 3 1 1 [.slice A2 (P.map pc).length c2,v3,.slice A4 ((segL (L++I)).map sgc).length c4]),.v [.slice A2 (P.map pc).length c2] [pvec P],.v [.slice A4 ((segL (L++I)).map sgc).length c4] [svec (segL (L++I))],.v [v3] [tvec T3],.s 7 (iv ((a:Nat):Int)),.s 8 (iv ((a+1+(j+1):Nat):Int))] ⟨(j+1),T3,v3,⟨by omega,by rw [hi2,hj2];exact mkB_step hi3 hie,by omega⟩,rfl,rfl⟩ (Sub.all (.cons 0 rfl (.cons 1 rfl (.cons 2 rfl (.cons 3 rfl (.cons 4 rfl (.cons 5 rfl (.cons 6 rfl (.cons 7 rfl (.cons 8 rfl (.cons 9 rfl .nil))))))))))))))))))
   ·
    have hie:hasP l ((a:Nat):Int) ((a+1+j:Nat):Int)→i=P.length - (a+1+j+1):=fun h=>absurd h b2
    refine Tr.seq (Tr.rs [] (.k (mv .k (.b 10 rfl)) (.k (faddr .k (.b 0 rfl) rfl fQP) (.k (ldc .k (.g 1 rfl) (.b 0 rfl) tyvP) (.k (len_ .k rwP (.g 2 rfl) (by rw [List.length_map])) (.k (lt_ .k (.g 0 rfl) (.g 3 rfl) (dT (by omega))) (.k (mv .k (.g 4 rfl)) (.k (mv (.o 5 rfl rfl rfl) (.b 2 rfl)) (.k (mv (.o 5 rfl rfl rfl) (.b 8 rfl)) (.k (mv (.o 5 rfl rfl rfl) (.b 9 rfl)) (.k (cal (.o 5 rfl rfl rfl) Tryz.func53 rfl (fn_HasF (by omega) b2) (.k (.g 6 rfl) (.k (.g 7 rfl) (.k (.g 8 rfl) .n)))) (.k (pickT .k (.g 5 rfl) (.g 9 rfl)) .n))))))))))) [0,1,2,3,4,5,6,7,8,9,10] [10] rfl rfl ?_)
    refine Tr.cond 11 rfl nofun (fun _=>?_)
    refine Tr.exit (Nx.thX (Nx.thX (Nx.bkX (Nx.bkN (Nx.go (Tr.reg [(9,2)] (.k (mv .k (.b 9 rfl)) (.k (add_ .k (.g 0 rfl) .c (show IntKind.i64.wrap (((a+1+j:Nat):Int)+1)=((a+1+(j+1):Nat):Int) by rw [IntWalk.i64_in _ (by omega)];omega)) (.k (asg .k (.g 1 rfl)) .n))) [0,1,2,3,4,5,6,7,8] [2] rfl rfl (Nx.again (P.length - (a+1+(j+1))) (by omega) [.b 1 (SP.poly P L I) 47 3,.b 2 (.is (.agg #[.slice none 0 0,.slice none 0 0,.slice none 0 0])) 26 3,.s 4 (svec l),.s 6 (.is (ptr g1 0)),.h 1 g1 (HP.own 26 3 1 1 [.slice A2 (P.map pc).length c2,v3,.slice A4 ((segL (L++I)).map sgc).length c4]),.v [.slice A2 (P.map pc).length c2] [pvec P],.v [.slice A4 ((segL (L++I)).map sgc).length c4] [svec (segL (L++I))],.v [v3] [tvec T3],.s 7 (iv ((a:Nat):Int)),.s 8 (iv ((a+1+(j+1):Nat):Int))] ⟨(j+1),T3,v3,⟨by omega,by rw [hi2,hj2];exact mkB_step hi3 hie,by omega⟩,rfl,rfl⟩ (Sub.all (.cons 0 rfl (.cons 1 rfl (.cons 2 rfl (.cons 3 rfl (.cons 4 rfl (.cons 5 rfl (.cons 6 rfl (.cons 7 rfl (.cons 8 rfl (.cons 9 rfl .nil))))))))))))))))))
   ·
    have hab:=b2
    refine Tr.seq (Tr.rs [] (.k (mv .k (.b 10 rfl)) (.k (faddr .k (.b 0 rfl) rfl fQP) (.k (ldc .k (.g 1 rfl) (.b 0 rfl) tyvP) (.k (len_ .k rwP (.g 2 rfl) (by rw [List.length_map])) (.k (lt_ .k (.g 0 rfl) (.g 3 rfl) (dT (by omega))) (.k (mv .k (.g 4 rfl)) (.k (mv (.o 5 rfl rfl rfl) (.b 2 rfl)) (.k (mv (.o 5 rfl rfl rfl) (.b 8 rfl)) (.k (mv (.o 5 rfl rfl rfl) (.b 9 rfl)) (.k (cal (.o 5 rfl rfl rfl) Tryz.func53 rfl (fn_HasT (by omega) b2) (.k (.g 6 rfl) (.k (.g 7 rfl) (.k (.g 8 rfl) .n)))) (.k (pickT .k (.g 5 rfl) (.g 9 rfl)) .n))))))))))) [0,1,2,3,4,5,6,7,8,9,10] [10] rfl rfl ?_)
    refine Tr.cond 11 rfl (fun _=>?_) nofun
    refine Tr.skip (Nx.go (Tr.seq (Tr.block (Tr.rs [] (.k (faddr .k (.b 0 rfl) rfl fQP) (.k (ldc .k (.g 0 rfl) (.b 0 rfl) tyvP) (.k (mv .k (.b 8 rfl)) (.k (mv .k (.b 9 rfl)) (.k (mv .k (.b 10 rfl)) (.k (cal .k Tryz.func50 rfl (fn_rTri (by omega)) (.k (.g 1 rfl) (.k (.g 2 rfl) (.k (.g 3 rfl) (.k (.g 4 rfl) .n))))) (.k (mv .k (.g 5 rfl)) (.k (exx .k (.g 6 rfl) rfl) (.k (exx .k (.g 6 rfl) rfl) (.k (ala .k zT) (.k (sta .k (.g 9 rfl) (.g 7 rfl) tyT) (.k (asg .k (.g 8 rfl)) .n)))))))))))) [0,1,2,3,4,5,6,7,8,9,10] [10,11] rfl rfl ?_))))
    refine Tr.rs [] (.k (faddr .k (.b 0 rfl) rfl fQP) (.k (ldc .k (.g 0 rfl) (.b 0 rfl) tyvP) (.k (faddr .k (.b 0 rfl) rfl fQL) (.k (ldc .k (.g 2 rfl) (.b 0 rfl) tyvS) (.k (mv .k (.b 8 rfl)) (.k (mv .k (.b 9 rfl)) (.k (mv .k (.b 10 rfl)) (.k (mkrow .k rwI (.k (.g 4 rfl) (.k (.g 5 rfl) (.k (.g 6 rfl) .n))) rfl rfl (by kernel_rfl)) (.k (cal .k Tryz.func78 rfl (show FnC _ _ [_,_,.vec 1 [[ic ((a:Nat):Int)],[ic ((a+1+j:Nat):Int)],[ic ((a+1+j+1+i:Nat):Int)]]] _ from fn_Middle9 (l:=[((a:Nat):Int),((a+1+j:Nat):Int),((a+1+j+1+i:Nat):Int)]) hok.1 (by omega) (by omega) (fun s hs=>hin s (List.mem_append_left _ hs)) (fun s hs=>hdi s (List.mem_append_left _ hs)) (mem3 (inP (by omega)) (inP (by omega)) (inP (by omega))) (.inr (.inr rfl))) (.k (.g 1 rfl) (.k (.g 3 rfl) (.k (.g 7 rfl) .n)))) (.k (mv .k (.g 8 rfl)) (.k (exx .k (.g 9 rfl) rfl) (.k (exx .k (.g 9 rfl) rfl) (.k (asg .k (.g 10 rfl)) (.k (asg .k (.g 11 rfl)) .n)))))))))))))) [0,1,2,3,4,5,6,7,8,9,10,11,12] [12] rfl rfl ?_
    obtain ⟨k0,hk0⟩:∃ k0:Bool,k0=true↔hit0 P L l ((a:Nat):Int) ((a+1+j:Nat):Int) ((a+1+j+1+i:Nat):Int):=bool_of _
    obtain ⟨k1,hk1⟩:∃ k1:Bool,k1=true↔hitM P L l ((a:Nat):Int) ((a+1+j:Nat):Int) ((a+1+j+1+i:Nat):Int):=bool_of _
    refine Tr.share1 (p:=True) [.b 1 (SP.poly P L I) 47 3,.b 2 (.is (.agg #[.slice none 0 0,.slice none 0 0,.slice none 0 0])) 26 3,.s 4 (svec l),.s 6 (.is (ptr g1 0)),.h 1 g1 (HP.own 26 3 1 1 [.slice A2 (P.map pc).length c2,v3,.slice A4 ((segL (L++I)).map sgc).length c4]),.v [.slice A2 (P.map pc).length c2] [pvec P],.v [.slice A4 ((segL (L++I)).map sgc).length c4] [svec (segL (L++I))],.v [v3] [tvec T3],.s 7 (iv ((a:Nat):Int)),.s 8 (iv ((a+1+j:Nat):Int)),.s 9 (iv ((a+1+j+1+i:Nat):Int)),.b 10 (.is (trv (triR P.length (oP P) ((a:Nat):Int) ((a+1+j:Nat):Int) ((a+1+j+1+i:Nat):Int)).1)) 55 3,.s 11 (bv k0)] (fun _=>?_) (fun H_=>?_)
    ·
     refine Tr.seq (?_)
     refine Tr.share0 (p:=True) [.b 1 (SP.poly P L I) 47 3,.b 2 (.is (.agg #[.slice none 0 0,.slice none 0 0,.slice none 0 0])) 26 3,.s 4 (svec l),.s 6 (.is (ptr g1 0)),.h 1 g1 (HP.own 26 3 1 1 [.slice A2 (P.map pc).length c2,v3,.slice A4 ((segL (L++I)).map sgc).length c4]),.v [.slice A2 (P.map pc).length c2] [pvec P],.v [.slice A4 ((segL (L++I)).map sgc).length c4] [svec (segL (L++I))],.v [v3] [tvec T3],.s 7 (iv ((a:Nat):Int)),.s 8 (iv ((a+1+j:Nat):Int)),.s 9 (iv ((a+1+j+1+i:Nat):Int)),.b 10 (.is (trv (triR P.length (oP P) ((a:Nat):Int) ((a+1+j:Nat):Int) ((a+1+j+1+i:Nat):Int)).1)) 55 3,.s 11 (bv k1)] (fun _=>?_) (fun H_=>?_)
     ·
      cases k1
      ·
       have hnm:=fun h=>Bool.false_ne_true (hk1.2 h)
       refine Tr.rs [] (.k (mv .k (.b 12 rfl)) .n) [0,1,2,3,4,5,6,7,8,9,10,11] [0] rfl rfl ?_
       refine Tr.cond 12 rfl nofun (fun _=>?_)
       refine Tr.skip (Nx.bkN (Nx.go (Tr.reg [(10,2)] (.k (mv .k (.b 10 rfl)) (.k (add_ .k (.g 0 rfl) .c (show IntKind.i64.wrap (((a+1+j+1+i:Nat):Int)+1)=((a+1+j+1+(i+1):Nat):Int) by rw [IntWalk.i64_in _ (by omega)];omega)) (.k (asg .k (.g 1 rfl)) .n))) [0,1,2,3,4,5,6,7,8,9] [2] rfl rfl (Nx.again (P.length - (a+1+j+1+(i+1))) (by omega) [.b 1 (SP.poly P L I) 47 3,.b 2 (.is (.agg #[.slice none 0 0,.slice none 0 0,.slice none 0 0])) 26 3,.s 4 (svec l),.s 6 (.is (ptr g1 0)),.h 1 g1 (HP.own 26 3 1 1 [.slice A2 (P.map pc).length c2,v3,.slice A4 ((segL (L++I)).map sgc).length c4]),.v [.slice A2 (P.map pc).length c2] [pvec P],.v [.slice A4 ((segL (L++I)).map sgc).length c4] [svec (segL (L++I))],.v [v3] [tvec T3],.s 7 (iv ((a:Nat):Int)),.s 8 (iv ((a+1+j:Nat):Int)),.s 9 (iv ((a+1+j+1+(i+1):Nat):Int))] ⟨(i+1),T3,v3,⟨by omega,by rw [mkC_no hnm];exact hi2,.inl hab,by omega⟩,rfl,rfl⟩ (Sub.all (.cons 0 rfl (.cons 1 rfl (.cons 2 rfl (.cons 3 rfl (.cons 4 rfl (.cons 5 rfl (.cons 6 rfl (.cons 7 rfl (.cons 8 rfl (.cons 9 rfl (.cons 10 rfl .nil))))))))))))))))
      ·
       have hhm:=hk1.1 rfl
       refine Tr.rs [] (.k (mv .k (.b 12 rfl)) .n) [0,1,2,3,4,5,6,7,8,9,10,11] [0] rfl rfl ?_
       refine Tr.cond 12 rfl (fun _=>?_) nofun
       refine Tr.go (Go.k (fadh .k (.b 3 rfl) fMT) [0,1,2,3,4,5,6,7,8,9,10,11] rfl rfl (Go.k (ldn .k (.b 0 rfl) (.b 5 rfl) tyvT rfl) [1,2,3,4,5,6,7,8,9,10,11,12] rfl rfl (Go.k (ld .k (.b 12 rfl) tyT) [0,1,2,3,4,5,6,7,8,9,10,11] rfl rfl (Go.unname 1 9 rfl rfl (Go.k (cal .k Tryz.func80 rfl (fn_Put (by omega)) (.k (.b 0 rfl) (.k (.b 1 rfl) .n))) [3,4,5,6,7,8,9,10,11,12,13] rfl rfl (Go.k (fadh .k (.b 4 rfl) fMT) [0,1,2,3,4,5,6,7,8,9,10,11] rfl rfl (Go.name 1 rfl fun A5 c5=>(Go.k (sth1 .k (.b 2 rfl) (.b 8 rfl) (.b 0 rfl) szvT rfl (show 1 < 3 by decide) rfl rfl) [1,4,5,6,7,9,10,11,12,13,14] rfl rfl (Go.end_ (Nx.bkN (Nx.go (Tr.reg [(11,2)] (.k (mv .k (.b 11 rfl)) (.k (add_ .k (.g 0 rfl) .c (show IntKind.i64.wrap (((a+1+j+1+i:Nat):Int)+1)=((a+1+j+1+(i+1):Nat):Int) by rw [IntWalk.i64_in _ (by omega)];omega)) (.k (asg .k (.g 1 rfl)) .n))) [0,1,2,3,4,5,6,7,8,9,10] [2] rfl rfl (Nx.again (P.length - (a+1+j+1+(i+1))) (by omega) [.b 1 (SP.poly P L I) 47 3,.b 2 (.is (.agg #[.slice none 0 0,.slice none 0 0,.slice none 0 0])) 26 3,.s 4 (svec l),.s 6 (.is (ptr g1 0)),.h 1 g1 (HP.own 26 3 1 1 [.slice A2 (P.map pc).length c2,(.slice A5 ((putT T3 (triR P.length (oP P) ((a:Nat):Int) ((a+1+j:Nat):Int) ((a+1+j+1+i:Nat):Int)).1).map trc).length c5),.slice A4 ((segL (L++I)).map sgc).length c4]),.v [.slice A2 (P.map pc).length c2] [pvec P],.v [.slice A4 ((segL (L++I)).map sgc).length c4] [svec (segL (L++I))],.v [(.slice A5 ((putT T3 (triR P.length (oP P) ((a:Nat):Int) ((a+1+j:Nat):Int) ((a+1+j+1+i:Nat):Int)).1).map trc).length c5)] [tvec (putT T3 (triR P.length (oP P) ((a:Nat):Int) ((a+1+j:Nat):Int) ((a+1+j+1+i:Nat):Int)).1)],.s 7 (iv ((a:Nat):Int)),.s 8 (iv ((a+1+j:Nat):Int)),.s 9 (iv ((a+1+j+1+(i+1):Nat):Int))] ⟨(i+1),(putT T3 (triR P.length (oP P) ((a:Nat):Int) ((a+1+j:Nat):Int) ((a+1+j+1+i:Nat):Int)).1),(.slice A5 ((putT T3 (triR P.length (oP P) ((a:Nat):Int) ((a+1+j:Nat):Int) ((a+1+j+1+i:Nat):Int)).1).map trc).length c5),⟨by omega,by rw [mkC_yes hhm,← hi2],.inl hab,by rw [put_len];omega⟩,rfl,rfl⟩ (Sub.all (.cons 2 rfl (.cons 3 rfl (.cons 4 rfl (.cons 5 rfl (.cons 0 rfl (.cons 6 rfl (.cons 7 rfl (.cons 1 rfl (.cons 9 rfl (.cons 10 rfl (.cons 11 rfl .nil)))))))))))))))))))))))))
     ·
      refine Tr.rs [] (.k (asg .k .c) .n) [0,1,2,3,4,5,6,7,8,9,10,11,12] [0] rfl rfl ?_
      refine Tr.block (?_)
      refine Tr.loop (fun n_ F_=>∃ u:Nat,∃ k:Bool,(u≤P.length∧(k=true→hit0 P L l ((a:Nat):Int) ((a+1+j:Nat):Int) ((a+1+j+1+i:Nat):Int)∧∀ i_,i_ < u→emp3 P ((a:Nat):Int) ((a+1+j:Nat):Int) ((a+1+j+1+i:Nat):Int) i_)∧(k=false→¬ hitM P L l ((a:Nat):Int) ((a+1+j:Nat):Int) ((a+1+j+1+i:Nat):Int)))∧n_=P.length - u∧F_=[.b 1 (SP.poly P L I) 47 3,.b 2 (.is (.agg #[.slice none 0 0,.slice none 0 0,.slice none 0 0])) 26 3,.s 4 (svec l),.s 6 (.is (ptr g1 0)),.h 1 g1 (HP.own 26 3 1 1 [.slice A2 (P.map pc).length c2,v3,.slice A4 ((segL (L++I)).map sgc).length c4]),.v [.slice A2 (P.map pc).length c2] [pvec P],.v [.slice A4 ((segL (L++I)).map sgc).length c4] [svec (segL (L++I))],.v [v3] [tvec T3],.s 7 (iv ((a:Nat):Int)),.s 8 (iv ((a+1+j:Nat):Int)),.s 9 (iv ((a+1+j+1+i:Nat):Int)),.b 10 (.is (trv (triR P.length (oP P) ((a:Nat):Int) ((a+1+j:Nat):Int) ((a+1+j+1+i:Nat):Int)).1)) 55 3,.s 11 (bv k),.s 14 (iv ((u:Nat):Int))]) (P.length - 0) (F0:=[.b 1 (SP.poly P L I) 47 3,.b 2 (.is (.agg #[.slice none 0 0,.slice none 0 0,.slice none 0 0])) 26 3,.s 4 (svec l),.s 6 (.is (ptr g1 0)),.h 1 g1 (HP.own 26 3 1 1 [.slice A2 (P.map pc).length c2,v3,.slice A4 ((segL (L++I)).map sgc).length c4]),.v [.slice A2 (P.map pc).length c2] [pvec P],.v [.slice A4 ((segL (L++I)).map sgc).length c4] [svec (segL (L++I))],.v [v3] [tvec T3],.s 7 (iv ((a:Nat):Int)),.s 8 (iv ((a+1+j:Nat):Int)),.s 9 (iv ((a+1+j+1+i:Nat):Int)),.b 10 (.is (trv (triR P.length (oP P) ((a:Nat):Int) ((a+1+j:Nat):Int) ((a+1+j+1+i:Nat):Int)).1)) 55 3,.s 11 (bv k0),.s 14 (iv ((0:Nat):Int))]) ⟨0,k0,⟨Nat.zero_le _,fun h=>⟨hk0.1 h,fun i_ h_=>absurd h_ (Nat.not_lt_zero _)⟩,fun h hm=>by have:=hk0.2 ⟨hm.1,hm.2.1,hm.2.2.1,hm.2.2.2.1⟩;rw [h] at this;cases this⟩,rfl,rfl⟩ (Sub.all (.cons 0 rfl (.cons 1 rfl (.cons 2 rfl (.cons 3 rfl (.cons 4 rfl (.cons 5 rfl (.cons 6 rfl (.cons 7 rfl (.cons 8 rfl (.cons 9 rfl (.cons 10 rfl (.cons 11 rfl (.cons 12 rfl (.cons 13 rfl .nil))))))))))))))) (fun n_ F_ hI=>?_)
      obtain ⟨u,k,hu,rfl,rfl⟩:=hI
      obtain ⟨hu1,hu2,hu3⟩:=hu
      rcases and_ways2 (u < P.length) (k=true) with d1|⟨d1,d2⟩|⟨d1,d2⟩
      ·
       obtain rfl:k1=k:=ok_end hk1 hu3 (fun h=>hit_all (hu2 h).1 (fun i_ h_=>(hu2 h).2 i_ (by omega)))
       refine Tr.seq (Tr.rs [] (.k (mv .k (.b 13 rfl)) (.k (faddr .k (.b 0 rfl) rfl fQP) (.k (ldc .k (.g 1 rfl) (.b 0 rfl) tyvP) (.k (len_ .k rwP (.g 2 rfl) (by rw [List.length_map])) (.k (lt_ .k (.g 0 rfl) (.g 3 rfl) (dF (by omega))) (.k (mv .k (.g 4 rfl)) (.k (skp (.o 5 rfl rfl rfl)) (.k (pickF .k (.g 5 rfl) .c) .n)))))))) [0,1,2,3,4,5,6,7,8,9,10,11,12,13] [7] rfl rfl ?_)
       refine Tr.cond 14 rfl nofun (fun _=>?_)
       refine Tr.exit (Nx.thX (Nx.thX (Nx.bkX (Nx.go (Tr.sub (Sub.all (.cons 0 rfl (.cons 1 rfl (.cons 2 rfl (.cons 3 rfl (.cons 4 rfl (.cons 5 rfl (.cons 6 rfl (.cons 7 rfl (.cons 8 rfl (.cons 9 rfl (.cons 10 rfl (.cons 11 rfl (.cons 12 rfl .nil)))))))))))))) (H_ trivial))))))
      ·
       obtain rfl:k=false:=fls d2
       obtain rfl:k1=false:=Bool.eq_false_iff.2 fun h=>hu3 rfl (hk1.1 h)
       refine Tr.seq (Tr.rs [] (.k (mv .k (.b 13 rfl)) (.k (faddr .k (.b 0 rfl) rfl fQP) (.k (ldc .k (.g 1 rfl) (.b 0 rfl) tyvP) (.k (len_ .k rwP (.g 2 rfl) (by rw [List.length_map])) (.k (lt_ .k (.g 0 rfl) (.g 3 rfl) (dT (by omega))) (.k (mv .k (.g 4 rfl)) (.k (mv (.o 5 rfl rfl rfl) (.b 12 rfl)) (.k (pickT .k (.g 5 rfl) (.g 6 rfl)) .n)))))))) [0,1,2,3,4,5,6,7,8,9,10,11,12,13] [7] rfl rfl ?_)
       refine Tr.cond 14 rfl nofun (fun _=>?_)
       refine Tr.exit (Nx.thX (Nx.thX (Nx.bkX (Nx.go (Tr.sub (Sub.all (.cons 0 rfl (.cons 1 rfl (.cons 2 rfl (.cons 3 rfl (.cons 4 rfl (.cons 5 rfl (.cons 6 rfl (.cons 7 rfl (.cons 8 rfl (.cons 9 rfl (.cons 10 rfl (.cons 11 rfl (.cons 12 rfl .nil)))))))))))))) (H_ trivial))))))
      ·
       subst d2
       refine Tr.seq (Tr.rs [] (.k (mv .k (.b 13 rfl)) (.k (faddr .k (.b 0 rfl) rfl fQP) (.k (ldc .k (.g 1 rfl) (.b 0 rfl) tyvP) (.k (len_ .k rwP (.g 2 rfl) (by rw [List.length_map])) (.k (lt_ .k (.g 0 rfl) (.g 3 rfl) (dT (by omega))) (.k (mv .k (.g 4 rfl)) (.k (mv (.o 5 rfl rfl rfl) (.b 12 rfl)) (.k (pickT .k (.g 5 rfl) (.g 6 rfl)) .n)))))))) [0,1,2,3,4,5,6,7,8,9,10,11,12,13] [7] rfl rfl ?_)
       refine Tr.cond 14 rfl (fun _=>?_) nofun
       refine Tr.skip (Nx.go (Tr.seq (Tr.block (?_))))
       obtain ⟨p,p1⟩:∃ s,P[u]?=some s:=⟨_,List.getElem?_eq_getElem d1⟩;rcases or_ways3 (((u:Nat):Int)=((a:Nat):Int)) (((u:Nat):Int)=((a+1+j:Nat):Int)) (((u:Nat):Int)=((a+1+j+1+i:Nat):Int)) with f1|⟨f1,f2⟩|⟨f1,f2,f3⟩|⟨f1,f2,f3⟩
       ·
        refine Tr.draw hmx [(12,25)] (.k (mv .k (.b 13 rfl)) (.k (mv .k (.b 8 rfl)) (.k (eq_ .k (.g 0 rfl) (.g 1 rfl) (beq_iff_eq.2 f1)) (.k (mv .k (.g 2 rfl)) (.k (skp (.o 3 rfl rfl rfl)) (.k (skp (.o 3 rfl rfl rfl)) (.k (skp (.o 3 rfl rfl rfl)) (.k (pickT .k (.g 3 rfl) .c) (.k (mv .k (.g 7 rfl)) (.k (skp (.o 8 rfl rfl rfl)) (.k (skp (.o 8 rfl rfl rfl)) (.k (skp (.o 8 rfl rfl rfl)) (.k (pickT .k (.g 8 rfl) .c) (.k (mv .k (.g 12 rfl)) (.k (skp (.o 13 rfl rfl rfl)) (.k (skp (.o 13 rfl rfl rfl)) (.k (skp (.o 13 rfl rfl rfl)) (.k (skp (.o 13 rfl rfl rfl)) (.k (skp (.o 13 rfl rfl rfl)) (.k (skp (.o 13 rfl rfl rfl)) (.k (skp (.o 13 rfl rfl rfl)) (.k (skp (.o 13 rfl rfl rfl)) (.k (skp (.o 13 rfl rfl rfl)) (.k (skp (.o 13 rfl rfl rfl)) (.k (pickT .k (.g 13 rfl) .c) (.k (asg .k (.g 24 rfl)) .n)))))))))))))))))))))))))) [0,1,2,3,4,5,6,7,8,9,10,11,13] [25] rfl rfl (Nx.bkN (Nx.go (Tr.reg [(12,2)] (.k (mv .k (.b 12 rfl)) (.k (add_ .k (.g 0 rfl) .c (wr1 (by omega))) (.k (asg .k (.g 1 rfl)) .n))) [0,1,2,3,4,5,6,7,8,9,10,11,13] [2] rfl rfl (Nx.again (P.length - (u+1)) (by omega) [.b 1 (SP.poly P L I) 47 3,.b 2 (.is (.agg #[.slice none 0 0,.slice none 0 0,.slice none 0 0])) 26 3,.s 4 (svec l),.s 6 (.is (ptr g1 0)),.h 1 g1 (HP.own 26 3 1 1 [.slice A2 (P.map pc).length c2,v3,.slice A4 ((segL (L++I)).map sgc).length c4]),.v [.slice A2 (P.map pc).length c2] [pvec P],.v [.slice A4 ((segL (L++I)).map sgc).length c4] [svec (segL (L++I))],.v [v3] [tvec T3],.s 7 (iv ((a:Nat):Int)),.s 8 (iv ((a+1+j:Nat):Int)),.s 9 (iv ((a+1+j+1+i:Nat):Int)),.b 10 (.is (trv (triR P.length (oP P) ((a:Nat):Int) ((a+1+j:Nat):Int) ((a+1+j+1+i:Nat):Int)).1)) 55 3,.s 11 (bv true),.s 14 (iv (((u+1):Nat):Int))] ⟨(u+1),true,⟨by omega,fun _=>⟨(hu2 rfl).1,all_up (hu2 rfl).2 (.inl f1)⟩,fun h=>by cases h⟩,rfl,rfl⟩ (Sub.all (.cons 0 rfl (.cons 1 rfl (.cons 2 rfl (.cons 3 rfl (.cons 4 rfl (.cons 5 rfl (.cons 6 rfl (.cons 7 rfl (.cons 8 rfl (.cons 9 rfl (.cons 10 rfl (.cons 11 rfl (.cons 12 rfl (.cons 13 rfl .nil)))))))))))))))))))
       ·
        refine Tr.draw hmx [(12,25)] (.k (mv .k (.b 13 rfl)) (.k (mv .k (.b 8 rfl)) (.k (eq_ .k (.g 0 rfl) (.g 1 rfl) (beq_eq_false_iff_ne.2 f1)) (.k (mv .k (.g 2 rfl)) (.k (mv (.o 3 rfl rfl rfl) (.b 13 rfl)) (.k (mv (.o 3 rfl rfl rfl) (.b 9 rfl)) (.k (eq_ (.o 3 rfl rfl rfl) (.g 4 rfl) (.g 5 rfl) (beq_iff_eq.2 f2)) (.k (pickF .k (.g 3 rfl) (.g 6 rfl)) (.k (mv .k (.g 7 rfl)) (.k (skp (.o 8 rfl rfl rfl)) (.k (skp (.o 8 rfl rfl rfl)) (.k (skp (.o 8 rfl rfl rfl)) (.k (pickT .k (.g 8 rfl) .c) (.k (mv .k (.g 12 rfl)) (.k (skp (.o 13 rfl rfl rfl)) (.k (skp (.o 13 rfl rfl rfl)) (.k (skp (.o 13 rfl rfl rfl)) (.k (skp (.o 13 rfl rfl rfl)) (.k (skp (.o 13 rfl rfl rfl)) (.k (skp (.o 13 rfl rfl rfl)) (.k (skp (.o 13 rfl rfl rfl)) (.k (skp (.o 13 rfl rfl rfl)) (.k (skp (.o 13 rfl rfl rfl)) (.k (skp (.o 13 rfl rfl rfl)) (.k (pickT .k (.g 13 rfl) .c) (.k (asg .k (.g 24 rfl)) .n)))))))))))))))))))))))))) [0,1,2,3,4,5,6,7,8,9,10,11,13] [25] rfl rfl (Nx.bkN (Nx.go (Tr.reg [(12,2)] (.k (mv .k (.b 12 rfl)) (.k (add_ .k (.g 0 rfl) .c (wr1 (by omega))) (.k (asg .k (.g 1 rfl)) .n))) [0,1,2,3,4,5,6,7,8,9,10,11,13] [2] rfl rfl (Nx.again (P.length - (u+1)) (by omega) [.b 1 (SP.poly P L I) 47 3,.b 2 (.is (.agg #[.slice none 0 0,.slice none 0 0,.slice none 0 0])) 26 3,.s 4 (svec l),.s 6 (.is (ptr g1 0)),.h 1 g1 (HP.own 26 3 1 1 [.slice A2 (P.map pc).length c2,v3,.slice A4 ((segL (L++I)).map sgc).length c4]),.v [.slice A2 (P.map pc).length c2] [pvec P],.v [.slice A4 ((segL (L++I)).map sgc).length c4] [svec (segL (L++I))],.v [v3] [tvec T3],.s 7 (iv ((a:Nat):Int)),.s 8 (iv ((a+1+j:Nat):Int)),.s 9 (iv ((a+1+j+1+i:Nat):Int)),.b 10 (.is (trv (triR P.length (oP P) ((a:Nat):Int) ((a+1+j:Nat):Int) ((a+1+j+1+i:Nat):Int)).1)) 55 3,.s 11 (bv true),.s 14 (iv (((u+1):Nat):Int))] ⟨(u+1),true,⟨by omega,fun _=>⟨(hu2 rfl).1,all_up (hu2 rfl).2 (.inr (.inl f2))⟩,fun h=>by cases h⟩,rfl,rfl⟩ (Sub.all (.cons 0 rfl (.cons 1 rfl (.cons 2 rfl (.cons 3 rfl (.cons 4 rfl (.cons 5 rfl (.cons 6 rfl (.cons 7 rfl (.cons 8 rfl (.cons 9 rfl (.cons 10 rfl (.cons 11 rfl (.cons 12 rfl (.cons 13 rfl .nil)))))))))))))))))))
       ·
        refine Tr.draw hmx [(12,25)] (.k (mv .k (.b 13 rfl)) (.k (mv .k (.b 8 rfl)) (.k (eq_ .k (.g 0 rfl) (.g 1 rfl) (beq_eq_false_iff_ne.2 f1)) (.k (mv .k (.g 2 rfl)) (.k (mv (.o 3 rfl rfl rfl) (.b 13 rfl)) (.k (mv (.o 3 rfl rfl rfl) (.b 9 rfl)) (.k (eq_ (.o 3 rfl rfl rfl) (.g 4 rfl) (.g 5 rfl) (beq_eq_false_iff_ne.2 f2)) (.k (pickF .k (.g 3 rfl) (.g 6 rfl)) (.k (mv .k (.g 7 rfl)) (.k (mv (.o 8 rfl rfl rfl) (.b 13 rfl)) (.k (mv (.o 8 rfl rfl rfl) (.b 10 rfl)) (.k (eq_ (.o 8 rfl rfl rfl) (.g 9 rfl) (.g 10 rfl) (beq_iff_eq.2 f3)) (.k (pickF .k (.g 8 rfl) (.g 11 rfl)) (.k (mv .k (.g 12 rfl)) (.k (skp (.o 13 rfl rfl rfl)) (.k (skp (.o 13 rfl rfl rfl)) (.k (skp (.o 13 rfl rfl rfl)) (.k (skp (.o 13 rfl rfl rfl)) (.k (skp (.o 13 rfl rfl rfl)) (.k (skp (.o 13 rfl rfl rfl)) (.k (skp (.o 13 rfl rfl rfl)) (.k (skp (.o 13 rfl rfl rfl)) (.k (skp (.o 13 rfl rfl rfl)) (.k (skp (.o 13 rfl rfl rfl)) (.k (pickT .k (.g 13 rfl) .c) (.k (asg .k (.g 24 rfl)) .n)))))))))))))))))))))))))) [0,1,2,3,4,5,6,7,8,9,10,11,13] [25] rfl rfl (Nx.bkN (Nx.go (Tr.reg [(12,2)] (.k (mv .k (.b 12 rfl)) (.k (add_ .k (.g 0 rfl) .c (wr1 (by omega))) (.k (asg .k (.g 1 rfl)) .n))) [0,1,2,3,4,5,6,7,8,9,10,11,13] [2] rfl rfl (Nx.again (P.length - (u+1)) (by omega) [.b 1 (SP.poly P L I) 47 3,.b 2 (.is (.agg #[.slice none 0 0,.slice none 0 0,.slice none 0 0])) 26 3,.s 4 (svec l),.s 6 (.is (ptr g1 0)),.h 1 g1 (HP.own 26 3 1 1 [.slice A2 (P.map pc).length c2,v3,.slice A4 ((segL (L++I)).map sgc).length c4]),.v [.slice A2 (P.map pc).length c2] [pvec P],.v [.slice A4 ((segL (L++I)).map sgc).length c4] [svec (segL (L++I))],.v [v3] [tvec T3],.s 7 (iv ((a:Nat):Int)),.s 8 (iv ((a+1+j:Nat):Int)),.s 9 (iv ((a+1+j+1+i:Nat):Int)),.b 10 (.is (trv (triR P.length (oP P) ((a:Nat):Int) ((a+1+j:Nat):Int) ((a+1+j+1+i:Nat):Int)).1)) 55 3,.s 11 (bv true),.s 14 (iv (((u+1):Nat):Int))] ⟨(u+1),true,⟨by omega,fun _=>⟨(hu2 rfl).1,all_up (hu2 rfl).2 (.inr (.inr (.inl f3)))⟩,fun h=>by cases h⟩,rfl,rfl⟩ (Sub.all (.cons 0 rfl (.cons 1 rfl (.cons 2 rfl (.cons 3 rfl (.cons 4 rfl (.cons 5 rfl (.cons 6 rfl (.cons 7 rfl (.cons 8 rfl (.cons 9 rfl (.cons 10 rfl (.cons 11 rfl (.cons 12 rfl (.cons 13 rfl .nil)))))))))))))))))))
       ·
        have hT3:=tri_in3 (hu2 rfl).1.1
        refine Tr.draw hmx [(12,25)] (.k (mv .k (.b 13 rfl)) (.k (mv .k (.b 8 rfl)) (.k (eq_ .k (.g 0 rfl) (.g 1 rfl) (beq_eq_false_iff_ne.2 f1)) (.k (mv .k (.g 2 rfl)) (.k (mv (.o 3 rfl rfl rfl) (.b 13 rfl)) (.k (mv (.o 3 rfl rfl rfl) (.b 9 rfl)) (.k (eq_ (.o 3 rfl rfl rfl) (.g 4 rfl) (.g 5 rfl) (beq_eq_false_iff_ne.2 f2)) (.k (pickF .k (.g 3 rfl) (.g 6 rfl)) (.k (mv .k (.g 7 rfl)) (.k (mv (.o 8 rfl rfl rfl) (.b 13 rfl)) (.k (mv (.o 8 rfl rfl rfl) (.b 10 rfl)) (.k (eq_ (.o 8 rfl rfl rfl) (.g 9 rfl) (.g 10 rfl) (beq_eq_false_iff_ne.2 f3)) (.k (pickF .k (.g 8 rfl) (.g 11 rfl)) (.k (mv .k (.g 12 rfl)) (.k (faddr (.o 13 rfl rfl rfl) (.b 0 rfl) rfl fQP) (.k (ldc (.o 13 rfl rfl rfl) (.g 14 rfl) (.b 0 rfl) tyvP) (.k (ld (.o 13 rfl rfl rfl) (.b 11 rfl) tyT) (.k (faddr (.o 13 rfl rfl rfl) (.b 0 rfl) rfl fQP) (.k (ldc (.o 13 rfl rfl rfl) (.g 17 rfl) (.b 0 rfl) tyvP) (.k (mv (.o 13 rfl rfl rfl) (.b 13 rfl)) (.k (idx_ (.o 13 rfl rfl rfl) rwP (.g 18 rfl) (.g 19 rfl) rfl (gm p1)) (.k (ld_at (.o 13 rfl rfl rfl) (.g 20 rfl) tyP rfl (show _=ptv _ _ from rfl)) (.k (cal (.o 13 rfl rfl rfl) Tryz.func79 rfl (fn_In hT3.1 hT3.2.1 hT3.2.2 rfl p1) (.k (.g 15 rfl) (.k (.g 16 rfl) (.k (.g 21 rfl) .n)))) (.k (not_ (.o 13 rfl rfl rfl) (.g 22 rfl)) (.k (pickF .k (.g 13 rfl) (.g 23 rfl)) (.k (asg .k (.g 24 rfl)) .n)))))))))))))))))))))))))) [0,1,2,3,4,5,6,7,8,9,10,11,13] [25] rfl rfl (Nx.bkN (Nx.go (Tr.reg [(12,2)] (.k (mv .k (.b 12 rfl)) (.k (add_ .k (.g 0 rfl) .c (wr1 (by omega))) (.k (asg .k (.g 1 rfl)) .n))) [0,1,2,3,4,5,6,7,8,9,10,11,13] [2] rfl rfl (Nx.again (P.length - (u+1)) (by omega) [.b 1 (SP.poly P L I) 47 3,.b 2 (.is (.agg #[.slice none 0 0,.slice none 0 0,.slice none 0 0])) 26 3,.s 4 (svec l),.s 6 (.is (ptr g1 0)),.h 1 g1 (HP.own 26 3 1 1 [.slice A2 (P.map pc).length c2,v3,.slice A4 ((segL (L++I)).map sgc).length c4]),.v [.slice A2 (P.map pc).length c2] [pvec P],.v [.slice A4 ((segL (L++I)).map sgc).length c4] [svec (segL (L++I))],.v [v3] [tvec T3],.s 7 (iv ((a:Nat):Int)),.s 8 (iv ((a+1+j:Nat):Int)),.s 9 (iv ((a+1+j+1+i:Nat):Int)),.b 10 (.is (trv (triR P.length (oP P) ((a:Nat):Int) ((a+1+j:Nat):Int) ((a+1+j+1+i:Nat):Int)).1)) 55 3,.s 11 (bv (!decide (in3P P (triR P.length (oP P) ((a:Nat):Int) ((a+1+j:Nat):Int) ((a+1+j+1+i:Nat):Int)).1 ((u:Nat):Int)))),.s 14 (iv (((u+1):Nat):Int))] ⟨(u+1),(!decide (in3P P (triR P.length (oP P) ((a:Nat):Int) ((a+1+j:Nat):Int) ((a+1+j+1+i:Nat):Int)).1 ((u:Nat):Int))),⟨by omega,fun h=>⟨(hu2 rfl).1,all_up (hu2 rfl).2 (.inr (.inr (.inr (of_decide_eq_false (Bool.not_eq_true' _ ▸ h)))))⟩,fun h hm=>by rcases hm.2.2.2.2 u d1 with e|e|e|e;exact f1 e;exact f2 e;exact f3 e;rw [decide_eq_false e] at h;cases h⟩,rfl,rfl⟩ (Sub.all (.cons 0 rfl (.cons 1 rfl (.cons 2 rfl (.cons 3 rfl (.cons 4 rfl (.cons 5 rfl (.cons 6 rfl (.cons 7 rfl (.cons 8 rfl (.cons 9 rfl (.cons 10 rfl (.cons 11 rfl (.cons 12 rfl (.cons 13 rfl .nil)))))))))))))))))))
    ·
     rcases and_ways4 ((triR P.length (oP P) ((a:Nat):Int) ((a+1+j:Nat):Int) ((a+1+j+1+i:Nat):Int)).2=true) (midR P L [((a:Nat):Int),((a+1+j:Nat):Int),((a+1+j+1+i:Nat):Int)]=1) (hasP l ((a:Nat):Int) ((a+1+j+1+i:Nat):Int)) (hasP l ((a+1+j:Nat):Int) ((a+1+j+1+i:Nat):Int)) with c1|⟨c1,c2⟩|⟨c1,c2,c3⟩|⟨c1,c2,c3,c4⟩|⟨c1,c2,c3,c4⟩
     ·
      rw [fls c1]
      obtain rfl:k0=false:=Bool.eq_false_iff.2 fun h=>(fun hh=>c1 hh.1) (hk0.1 h)
      refine Tr.rs [(12,17)] (.k (mv .k (.b 12 rfl)) (.k (mv .k (.g 0 rfl)) (.k (skp (.o 1 rfl rfl rfl)) (.k (skp (.o 1 rfl rfl rfl)) (.k (pickF .k (.g 1 rfl) .c) (.k (mv .k (.g 4 rfl)) (.k (skp (.o 5 rfl rfl rfl)) (.k (skp (.o 5 rfl rfl rfl)) (.k (skp (.o 5 rfl rfl rfl)) (.k (skp (.o 5 rfl rfl rfl)) (.k (pickF .k (.g 5 rfl) .c) (.k (mv .k (.g 10 rfl)) (.k (skp (.o 11 rfl rfl rfl)) (.k (skp (.o 11 rfl rfl rfl)) (.k (skp (.o 11 rfl rfl rfl)) (.k (skp (.o 11 rfl rfl rfl)) (.k (pickF .k (.g 11 rfl) .c) (.k (asg .k (.g 16 rfl)) .n)))))))))))))))))) [0,1,2,3,4,5,6,7,8,9,10,11] [17] rfl rfl ?_
      refine Tr.sub (Sub.all (.cons 0 rfl (.cons 1 rfl (.cons 2 rfl (.cons 3 rfl (.cons 4 rfl (.cons 5 rfl (.cons 6 rfl (.cons 7 rfl (.cons 8 rfl (.cons 9 rfl (.cons 10 rfl (.cons 11 rfl (.cons 12 rfl .nil)))))))))))))) (H_ trivial)
     ·
      rw [c1]
      obtain rfl:k0=false:=Bool.eq_false_iff.2 fun h=>(fun hh=>c2 hh.2.1) (hk0.1 h)
      refine Tr.rs [(12,17)] (.k (mv .k (.b 12 rfl)) (.k (mv .k (.g 0 rfl)) (.k (mv (.o 1 rfl rfl rfl) (.b 13 rfl)) (.k (eq_ (.o 1 rfl rfl rfl) (.g 2 rfl) .c (beq_eq_false_iff_ne.2 c2)) (.k (pickT .k (.g 1 rfl) (.g 3 rfl)) (.k (mv .k (.g 4 rfl)) (.k (skp (.o 5 rfl rfl rfl)) (.k (skp (.o 5 rfl rfl rfl)) (.k (skp (.o 5 rfl rfl rfl)) (.k (skp (.o 5 rfl rfl rfl)) (.k (pickF .k (.g 5 rfl) .c) (.k (mv .k (.g 10 rfl)) (.k (skp (.o 11 rfl rfl rfl)) (.k (skp (.o 11 rfl rfl rfl)) (.k (skp (.o 11 rfl rfl rfl)) (.k (skp (.o 11 rfl rfl rfl)) (.k (pickF .k (.g 11 rfl) .c) (.k (asg .k (.g 16 rfl)) .n)))))))))))))))))) [0,1,2,3,4,5,6,7,8,9,10,11] [17] rfl rfl ?_
      refine Tr.sub (Sub.all (.cons 0 rfl (.cons 1 rfl (.cons 2 rfl (.cons 3 rfl (.cons 4 rfl (.cons 5 rfl (.cons 6 rfl (.cons 7 rfl (.cons 8 rfl (.cons 9 rfl (.cons 10 rfl (.cons 11 rfl (.cons 12 rfl .nil)))))))))))))) (H_ trivial)
     ·
      rw [c1]
      obtain rfl:k0=false:=Bool.eq_false_iff.2 fun h=>(fun hh=>c3 hh.2.2.1) (hk0.1 h)
      refine Tr.rs [(12,17)] (.k (mv .k (.b 12 rfl)) (.k (mv .k (.g 0 rfl)) (.k (mv (.o 1 rfl rfl rfl) (.b 13 rfl)) (.k (eq_ (.o 1 rfl rfl rfl) (.g 2 rfl) .c (beq_iff_eq.2 c2)) (.k (pickT .k (.g 1 rfl) (.g 3 rfl)) (.k (mv .k (.g 4 rfl)) (.k (mv (.o 5 rfl rfl rfl) (.b 2 rfl)) (.k (mv (.o 5 rfl rfl rfl) (.b 8 rfl)) (.k (mv (.o 5 rfl rfl rfl) (.b 10 rfl)) (.k (cal (.o 5 rfl rfl rfl) Tryz.func53 rfl (fn_HasF (by omega) c3) (.k (.g 6 rfl) (.k (.g 7 rfl) (.k (.g 8 rfl) .n)))) (.k (pickT .k (.g 5 rfl) (.g 9 rfl)) (.k (mv .k (.g 10 rfl)) (.k (skp (.o 11 rfl rfl rfl)) (.k (skp (.o 11 rfl rfl rfl)) (.k (skp (.o 11 rfl rfl rfl)) (.k (skp (.o 11 rfl rfl rfl)) (.k (pickF .k (.g 11 rfl) .c) (.k (asg .k (.g 16 rfl)) .n)))))))))))))))))) [0,1,2,3,4,5,6,7,8,9,10,11] [17] rfl rfl ?_
      refine Tr.sub (Sub.all (.cons 0 rfl (.cons 1 rfl (.cons 2 rfl (.cons 3 rfl (.cons 4 rfl (.cons 5 rfl (.cons 6 rfl (.cons 7 rfl (.cons 8 rfl (.cons 9 rfl (.cons 10 rfl (.cons 11 rfl (.cons 12 rfl .nil)))))))))))))) (H_ trivial)
     ·
      rw [c1]
      obtain rfl:k0=false:=Bool.eq_false_iff.2 fun h=>(fun hh=>c4 hh.2.2.2) (hk0.1 h)
      refine Tr.rs [(12,17)] (.k (mv .k (.b 12 rfl)) (.k (mv .k (.g 0 rfl)) (.k (mv (.o 1 rfl rfl rfl) (.b 13 rfl)) (.k (eq_ (.o 1 rfl rfl rfl) (.g 2 rfl) .c (beq_iff_eq.2 c2)) (.k (pickT .k (.g 1 rfl) (.g 3 rfl)) (.k (mv .k (.g 4 rfl)) (.k (mv (.o 5 rfl rfl rfl) (.b 2 rfl)) (.k (mv (.o 5 rfl rfl rfl) (.b 8 rfl)) (.k (mv (.o 5 rfl rfl rfl) (.b 10 rfl)) (.k (cal (.o 5 rfl rfl rfl) Tryz.func53 rfl (fn_HasT (by omega) c3) (.k (.g 6 rfl) (.k (.g 7 rfl) (.k (.g 8 rfl) .n)))) (.k (pickT .k (.g 5 rfl) (.g 9 rfl)) (.k (mv .k (.g 10 rfl)) (.k (mv (.o 11 rfl rfl rfl) (.b 2 rfl)) (.k (mv (.o 11 rfl rfl rfl) (.b 9 rfl)) (.k (mv (.o 11 rfl rfl rfl) (.b 10 rfl)) (.k (cal (.o 11 rfl rfl rfl) Tryz.func53 rfl (fn_HasF (by omega) c4) (.k (.g 12 rfl) (.k (.g 13 rfl) (.k (.g 14 rfl) .n)))) (.k (pickT .k (.g 11 rfl) (.g 15 rfl)) (.k (asg .k (.g 16 rfl)) .n)))))))))))))))))) [0,1,2,3,4,5,6,7,8,9,10,11] [17] rfl rfl ?_
      refine Tr.sub (Sub.all (.cons 0 rfl (.cons 1 rfl (.cons 2 rfl (.cons 3 rfl (.cons 4 rfl (.cons 5 rfl (.cons 6 rfl (.cons 7 rfl (.cons 8 rfl (.cons 9 rfl (.cons 10 rfl (.cons 11 rfl (.cons 12 rfl .nil)))))))))))))) (H_ trivial)
     ·
      rw [c1]
      obtain rfl:k0=true:=hk0.2 ⟨c1,c2,c3,c4⟩
      refine Tr.rs [(12,17)] (.k (mv .k (.b 12 rfl)) (.k (mv .k (.g 0 rfl)) (.k (mv (.o 1 rfl rfl rfl) (.b 13 rfl)) (.k (eq_ (.o 1 rfl rfl rfl) (.g 2 rfl) .c (beq_iff_eq.2 c2)) (.k (pickT .k (.g 1 rfl) (.g 3 rfl)) (.k (mv .k (.g 4 rfl)) (.k (mv (.o 5 rfl rfl rfl) (.b 2 rfl)) (.k (mv (.o 5 rfl rfl rfl) (.b 8 rfl)) (.k (mv (.o 5 rfl rfl rfl) (.b 10 rfl)) (.k (cal (.o 5 rfl rfl rfl) Tryz.func53 rfl (fn_HasT (by omega) c3) (.k (.g 6 rfl) (.k (.g 7 rfl) (.k (.g 8 rfl) .n)))) (.k (pickT .k (.g 5 rfl) (.g 9 rfl)) (.k (mv .k (.g 10 rfl)) (.k (mv (.o 11 rfl rfl rfl) (.b 2 rfl)) (.k (mv (.o 11 rfl rfl rfl) (.b 9 rfl)) (.k (mv (.o 11 rfl rfl rfl) (.b 10 rfl)) (.k (cal (.o 11 rfl rfl rfl) Tryz.func53 rfl (fn_HasT (by omega) c4) (.k (.g 12 rfl) (.k (.g 13 rfl) (.k (.g 14 rfl) .n)))) (.k (pickT .k (.g 11 rfl) (.g 15 rfl)) (.k (asg .k (.g 16 rfl)) .n)))))))))))))))))) [0,1,2,3,4,5,6,7,8,9,10,11] [17] rfl rfl ?_
      refine Tr.sub (Sub.all (.cons 0 rfl (.cons 1 rfl (.cons 2 rfl (.cons 3 rfl (.cons 4 rfl (.cons 5 rfl (.cons 6 rfl (.cons 7 rfl (.cons 8 rfl (.cons 9 rfl (.cons 10 rfl (.cons 11 rfl (.cons 12 rfl .nil)))))))))))))) (H_ trivial)
  ·
   have hj4:¬ a+1+j < P.length:=by have:=of_decide_eq_false e46;omega
   refine Tr.exit (Nx.thX (Nx.thX (Nx.bkX (Nx.bkN (Nx.go (Tr.reg [(8,2)] (.k (mv .k (.b 8 rfl)) (.k (add_ .k (.g 0 rfl) .c (wr1 (by omega))) (.k (asg .k (.g 1 rfl)) .n))) [0,1,2,3,4,5,6,7] [2] rfl rfl (Nx.again (P.length - (a+1)) (by omega) [.b 1 (SP.poly P L I) 47 3,.b 2 (.is (.agg #[.slice none 0 0,.slice none 0 0,.slice none 0 0])) 26 3,.s 4 (svec l),.s 6 (.is (ptr g1 0)),.h 1 g1 (HP.own 26 3 1 1 [.slice A2 (P.map pc).length c2,v2,.slice A4 ((segL (L++I)).map sgc).length c4]),.v [.slice A2 (P.map pc).length c2] [pvec P],.v [.slice A4 ((segL (L++I)).map sgc).length c4] [svec (segL (L++I))],.v [v2] [tvec T2],.s 7 (iv (((a+1):Nat):Int))] ⟨(a+1),T2,v2,⟨by omega,mkA_succ hj1 hj4 hj2 ha2,by omega⟩,rfl,rfl⟩ (Sub.all (.cons 0 rfl (.cons 1 rfl (.cons 2 rfl (.cons 3 rfl (.cons 4 rfl (.cons 5 rfl (.cons 6 rfl (.cons 7 rfl (.cons 8 rfl .nil)))))))))))))))))
 ·
  obtain rfl:a=P.length:=by have:=of_decide_eq_false e37;omega
  refine Tr.exit (Nx.thX (Nx.thX (Nx.bkX (Nx.go (?_)))))
  rw [show mkT P L I=T by rw [ha2,hl];rfl]
  refine Tr.gos (Go.k (ldna .k (.b 3 rfl) (.b 4 rfl) tyM [.slice A2 (P.map pc).length c2,v,.slice A4 ((segL (L++I)).map sgc).length c4] rfl (fun j u h=>by rw [Nat.zero_add];exact h) rfl) [1,4,5,6,7] rfl rfl (Go.mesh 0 3 5 4 rfl rfl rfl rfl (Go.k (sto .k (.b 2 rfl) (.b 0 rfl) tyM) [3,4,5,6] rfl rfl (Go.k (asg .k .c) [0,1,2,3,4] rfl rfl (Go.end_ (Nx.go (?_)))))))
  refine Tr.ret (end_cell_tmp 1 0 rfl rfl rfl tyM)
theorem fn_MakeF {P L I:List (Int × Int)} (hP:P.length≤14) (hL:L.length≤30) (hI:I.length≤30) (hr:rightB P L I=false):FnC Tryz.prog 41 [SP.poly P L I] (.tup [.is (.agg #[.slice none 0 0,.slice none 0 0,.slice none 0 0]),iv 2]):=by
 refine FnC.of (N:=144) Tryz.func41 rfl rfl (Nat.le_of_ble_eq_true rfl) (fun w0 ok0=>?_)
 refine Tr.rs [] (.k (bxx .k (.b 0 rfl)) (.k (alc .k zM) (.k (asg .k .c) .n))) [] [0,1] rfl rfl ?_
 refine Tr.rs [] (.k (ld .k (.b 0 rfl) tyQ) (.k (cal .k Tryz.func76 rfl (show FnC _ _ _ (.tup [svec [],iv 2]) from (edg_n hr).1 ▸ (edg_n hr).2 ▸ fn_Edges hP hL hI) (.k (.g 0 rfl) .n)) (.k (mv .k (.g 1 rfl)) (.k (exx .k (.g 2 rfl) rfl) (.k (exx .k (.g 2 rfl) rfl) (.k (asg .k (.g 3 rfl)) (.k (asg .k (.g 4 rfl)) .n))))))) [0,1] [5,6] rfl rfl ?_
 refine Tr.seq (Tr.rs [] (.k (mv .k (.b 3 rfl)) (.k (ne_ .k (.g 0 rfl) .c (bne_iff_ne.2 (by decide))) .n)) [0,1,2,3] [1] rfl rfl ?_)
 refine Tr.cond 4 rfl (fun _=>?_) nofun
 refine Tr.rs [(1,2)] (.k (bld .k .n bM0 rfl) (.k (mv .k (.b 3 rfl)) (.k (sto .k (.b 1 rfl) (.g 0 rfl) tyM) (.k (asg .k (.g 1 rfl)) .n)))) [] [2,3] rfl rfl ?_
 refine Tr.ret (end_cell_tmp 0 1 rfl rfl rfl tyM)
end Go.Proofs.YtkgagdjogedoiaaGreat
