/- The middle of places; an input's numbers; all its segments: the document's, walked. -/
import Derived.Test.YtkgagdjogedoiaaGreatSw2
set_option linter.unusedVariables false
set_option linter.unusedSimpArgs false
set_option maxRecDepth 100000
set_option maxHeartbeats 8000000
namespace Go.Proofs.YtkgagdjogedoiaaGreat
open Go Go.RowKit Go.Proofs.YtkgagdjogedoiaaGreat.Fx Go.Proofs.YtkgagdjogedoiaaGreatW.PrintWords
theorem sum_app (P:List (Int × Int)):∀ (l:List Int) (x:Int),sumP P (l++[x])=((sumP P l).1+(atP P x).1,(sumP P l).2+(atP P x).2)
  | [],x=>by simp [sumP]
  | y :: l,x=>by
    rw [List.cons_append]
    simp only [sumP,sum_app P l x]
    ext<;>simp only<;>omega
theorem at20 {P:List (Int × Int)} (hP:p20s P) {i:Int} (h:InP P i):p20 (atP P i):=by
  obtain ⟨u,p,rfl,hu⟩:=h
  rw [atP_of hu]
  exact hP.at hu
theorem sum_bd {P:List (Int × Int)} (hP:p20s P):∀ {l:List Int},(∀ i∈l,InP P i) → -1048576 * (l.length:Int)≤(sumP P l).1∧(sumP P l).1≤1048576 * (l.length:Int) ∧ -1048576 * (l.length:Int)≤(sumP P l).2∧(sumP P l).2≤1048576 * (l.length:Int)
  | [],_=>by simp [sumP]
  | i :: l,h=>by
    have ih:=sum_bd hP (l:=l) (fun j hj=>h j (List.mem_cons_of_mem _ hj))
    obtain ⟨h1,h2,h3,h4⟩:=at20 hP (h i (List.mem_cons_self ..))
    simp only [sumP,List.length_cons]
    omega
theorem by3.le {k:Int} (h:by3 k):k≤3:=by rcases h with rfl|rfl|rfl<;>decide
theorem sum_nea {P:List (Int × Int)} (hP:p20s P) {l:List Int} (h:∀ i∈l,InP P i) (h3:by3 (l.length:Int)):nea (sumP P l).1 (sumP P l).2:=by
  obtain ⟨b1,b2,b3,b4⟩:=sum_bd hP h
  have:=h3.le
  exact ⟨by omega,by omega,by omega,by omega⟩
theorem sum_up {P:List (Int × Int)} (hP:p20s P) {l:List Int} (h:∀ i∈l,InP P i) (h3:by3 (l.length:Int)) {k:Nat} {x:Int} {u:Nat} {p:Int × Int} (hx:l[k]?=some x) (eu:x=u) (hu:P[u]?=some p) :
    IntKind.i64.wrap ((sumP P (l.take k)).1+p.1)=(sumP P (l.take (k+1))).1∧IntKind.i64.wrap ((sumP P (l.take k)).2+p.2)=(sumP P (l.take (k+1))).2:=by
  have hb:=sum_bd hP (l:=l.take (k+1)) (fun i hi=>h i (List.mem_of_mem_take hi))
  have hl:(l.take (k+1)).length≤l.length:=by rw [List.length_take];omega
  have:=h3.le
  have e:sumP P (l.take (k+1))=((sumP P (l.take k)).1+p.1,(sumP P (l.take k)).2+p.2):=by rw [take_succ' hx,sum_app,eu,atP_of hu]
  rw [e] at hb ⊢
  simp only at hb ⊢
  exact ⟨IntWalk.i64_in _ (by omega),IntWalk.i64_in _ (by omega)⟩
theorem fn_Middle9 {P L:List (Int × Int)} {l:List Int} (hP:p20s P) (hPl:P.length≤1000000) (hLl:L.length≤1000000) (hL:inS P L) (hD:disS P L) (hl:∀ i∈l,InP P i) (h3:by3 (l.length:Int)):FnC Tryz.prog 78 [pvec P,svec L,ivec l] (.tup [iv (midR P L l),iv 0]):=by
 refine FnC.of (N:=83) Tryz.func78 rfl rfl (Nat.le_of_ble_eq_true rfl) (fun w0 ok0=>?_)
 refine Tr.rs [] (.k (asg .k .c) (.k (asg .k .c) .n)) [0,1,2] [] rfl rfl ?_
 refine Tr.rs [] (.k (bld .k .n bP0 (aP 0 0)) (.k (ala .k zP) (.k (sta .k (.g 1 rfl) (.g 0 rfl) tyP) .n))) [0,1,2] [2] rfl rfl ?_
 have hl3:=h3.le
 refine Tr.boxh [.int .i64 0,.int .i64 0] 1 3 [0,1,2] rfl rfl rfl (fun g1=>?_)
 refine Tr.seq (Tr.rs [] (.k (asg .k .c) .n) [0,1,2,3,4] [0] rfl rfl ?_)
 refine Tr.block (?_)
 refine Tr.loop (fun n_ F_=>∃ k:Nat,(k≤l.length)∧n_=l.length - k∧F_=[.s 0 (pvec P),.s 1 (svec L),.s 2 (ivec l),.s 9 (iv ((k:Nat):Int)),.s 8 (.is (ptr g1 0)),.h 1 g1 (HP.own 30 2 1 1 [ic (sumP P (l.take k)).1,ic (sumP P (l.take k)).2])]) (l.length - 0) (F0:=[.s 0 (pvec P),.s 1 (svec L),.s 2 (ivec l),.s 9 (iv ((0:Nat):Int)),.s 8 (.is (ptr g1 0)),.h 1 g1 (HP.own 30 2 1 1 [ic (sumP P (l.take 0)).1,ic (sumP P (l.take 0)).2])]) ⟨0,Nat.zero_le _,rfl,rfl⟩ (Sub.all (.cons 2 rfl (.cons 3 rfl (.cons 4 rfl (.cons 5 rfl (.cons 0 rfl (.cons 1 rfl .nil))))))) (fun n_ F_ hI=>?_)
 obtain ⟨k,hinv,rfl,rfl⟩:=hI
 refine Tr.seq (Tr.rs [] (.k (mv .k (.b 3 rfl)) (.k (mv .k (.b 2 rfl)) (.k (len_ .k rwI (.g 1 rfl) (by rw [List.length_map])) (.k (lt_ .k (.g 0 rfl) (.g 2 rfl) rfl) .n)))) [0,1,2,3,4,5] [3] rfl rfl ?_)
 refine Tr.cond 6 rfl (fun e14=>?_) (fun e14=>?_)
 ·
  have hk2:k < l.length:=by have:=of_decide_eq_true e14;omega
  refine Tr.skip (Nx.go (Tr.seq (Tr.block (?_))))
  obtain ⟨x,p1⟩:∃ x,l[k]?=some x:=⟨_,List.getElem?_eq_getElem hk2⟩;have lx:=inP_lt (hl x (List.mem_of_getElem? p1));obtain ⟨u,p,eu,hu⟩:=hl x (List.mem_of_getElem? p1);have hp:=hP.at hu
  refine Tr.seq (Tr.rs [] (.k (mv .k (.b 2 rfl)) (.k (mv .k (.b 3 rfl)) (.k (idx_ .k rwI (.g 0 rfl) (.g 1 rfl) rfl (gm p1)) (.k (ldc_at .k (.g 2 rfl) tyI) (.k (lt_ .k (.g 3 rfl) .c (dF (by omega))) (.k (mv .k (.g 4 rfl)) (.k (mv (.o 5 rfl rfl rfl) (.b 2 rfl)) (.k (mv (.o 5 rfl rfl rfl) (.b 3 rfl)) (.k (idx_ (.o 5 rfl rfl rfl) rwI (.g 6 rfl) (.g 7 rfl) rfl (gm p1)) (.k (ldc_at (.o 5 rfl rfl rfl) (.g 8 rfl) tyI) (.k (mv (.o 5 rfl rfl rfl) (.b 0 rfl)) (.k (len_ (.o 5 rfl rfl rfl) rwP (.g 10 rfl) (by rw [List.length_map])) (.k (ge_ (.o 5 rfl rfl rfl) (.g 9 rfl) (.g 11 rfl) (dF (by omega))) (.k (pickF .k (.g 5 rfl) (.g 12 rfl)) (.k (mv .k (.g 13 rfl)) (.k (mv (.o 14 rfl rfl rfl) (.b 0 rfl)) (.k (mv (.o 14 rfl rfl rfl) (.b 2 rfl)) (.k (mv (.o 14 rfl rfl rfl) (.b 3 rfl)) (.k (idx_ (.o 14 rfl rfl rfl) rwI (.g 16 rfl) (.g 17 rfl) rfl (gm p1)) (.k (ldc_at (.o 14 rfl rfl rfl) (.g 18 rfl) tyI) (.k (idx_ (.o 14 rfl rfl rfl) rwP (.g 15 rfl) (.g 19 rfl) eu (gm hu)) (.k (ld_at (.o 14 rfl rfl rfl) (.g 20 rfl) tyP rfl (show _=ptv _ _ from rfl)) (.k (cal (.o 14 rfl rfl rfl) Tryz.func43 rfl (fn_rFitsT hp.nea1.f) (.k (.g 21 rfl) .n)) (.k (not_ (.o 14 rfl rfl rfl) (.g 22 rfl)) (.k (pickF .k (.g 14 rfl) (.g 23 rfl)) .n))))))))))))))))))))))))) [0,1,2,3,4,5] [24] rfl rfl ?_)
  refine Tr.cond 6 rfl nofun (fun _=>?_)
  refine Tr.skip (Nx.go (Tr.ds hmx [(5,12)] (.k (fadh .k (.b 4 rfl) fPX) (.k (ldn .k (.g 0 rfl) (.b 5 rfl) tyI rfl) (.k (mv .k (.b 0 rfl)) (.k (mv .k (.b 2 rfl)) (.k (mv .k (.b 3 rfl)) (.k (idx_ .k rwI (.g 3 rfl) (.g 4 rfl) rfl (gm p1)) (.k (ldc_at .k (.g 5 rfl) tyI) (.k (idx_ .k rwP (.g 2 rfl) (.g 6 rfl) eu (gm hu)) (.k (fat .k (.g 7 rfl) aPX rfl) (.k (ldc_at .k (.g 8 rfl) tyI) (.k (add_ .k (.g 1 rfl) (.g 9 rfl) (sum_up hP hl h3 p1 eu hu).1) (.k (fadh .k (.b 4 rfl) fPX) (.k (sth1 .k (.g 11 rfl) (.b 5 rfl) (.g 10 rfl) szI rfl (show 0 < 2 by decide) rfl rfl) .n))))))))))))) [0,1,2,3,4] [12] rfl rfl ?_))
  refine Tr.draw hmx [(5,12)] (.k (fadh .k (.b 4 rfl) fPY) (.k (ldn .k (.g 0 rfl) (.b 5 rfl) tyI rfl) (.k (mv .k (.b 0 rfl)) (.k (mv .k (.b 2 rfl)) (.k (mv .k (.b 3 rfl)) (.k (idx_ .k rwI (.g 3 rfl) (.g 4 rfl) rfl (gm p1)) (.k (ldc_at .k (.g 5 rfl) tyI) (.k (idx_ .k rwP (.g 2 rfl) (.g 6 rfl) eu (gm hu)) (.k (fat .k (.g 7 rfl) aPY rfl) (.k (ldc_at .k (.g 8 rfl) tyI) (.k (add_ .k (.g 1 rfl) (.g 9 rfl) (sum_up hP hl h3 p1 eu hu).2) (.k (fadh .k (.b 4 rfl) fPY) (.k (sth1 .k (.g 11 rfl) (.b 5 rfl) (.g 10 rfl) szI rfl (show 1 < 2 by decide) rfl rfl) .n))))))))))))) [0,1,2,3,4] [12] rfl rfl (Nx.bkN (Nx.go (Tr.reg [(3,2)] (.k (mv .k (.b 3 rfl)) (.k (add_ .k (.g 0 rfl) .c (wr1 (by omega))) (.k (asg .k (.g 1 rfl)) .n))) [0,1,2,4,5] [2] rfl rfl (Nx.again (l.length - (k+1)) (by omega) [.s 0 (pvec P),.s 1 (svec L),.s 2 (ivec l),.s 9 (iv (((k+1):Nat):Int)),.s 8 (.is (ptr g1 0)),.h 1 g1 (HP.own 30 2 1 1 [ic (sumP P (l.take (k+1))).1,ic (sumP P (l.take (k+1))).2])] ⟨(k+1),(by omega),rfl,rfl⟩ (Sub.all (.cons 0 rfl (.cons 1 rfl (.cons 2 rfl (.cons 5 rfl (.cons 3 rfl (.cons 4 rfl .nil)))))))))))
 ·
  obtain rfl:k=l.length:=by have:=of_decide_eq_false e14;omega
  refine Tr.exit (Nx.thX (Nx.thX (Nx.bkX (Nx.go (?_)))))
  rw [List.take_length]
  refine Tr.seq (Tr.rs [] (.k (mv .k (.b 0 rfl)) (.k (mv .k (.b 1 rfl)) (.k (mv .k (.b 2 rfl)) (.k (len_ .k rwI (.g 2 rfl) (by rw [List.length_map])) (.k (cal .k Tryz.func107 rfl (fn_Check9 hP hPl hLl hL hD h3) (.k (.g 0 rfl) (.k (.g 1 rfl) (.k (.g 3 rfl) .n)))) (.k (not_ .k (.g 4 rfl)) (.k (mv .k (.g 5 rfl)) (.k (ldna (.o 6 rfl rfl rfl) (.b 4 rfl) (.b 5 rfl) tyP [.int .i64 (sumP P l).1,.int .i64 (sumP P l).2] rfl (fun j u h=>by rw [Nat.zero_add];exact h) (show _=ptv (sumP P l).1 (sumP P l).2 from rfl)) (.k (cal (.o 6 rfl rfl rfl) Tryz.func43 rfl (fn_rFitsT (sum_nea hP hl h3).f) (.k (.g 7 rfl) .n)) (.k (not_ (.o 6 rfl rfl rfl) (.g 8 rfl)) (.k (pickF .k (.g 6 rfl) (.g 9 rfl)) .n))))))))))) [0,1,2,4,5] [10] rfl rfl ?_)
  refine Tr.cond 5 rfl nofun (fun _=>?_)
  refine Tr.skip (Nx.go (Tr.rs [] (.k (mv .k (.b 0 rfl)) (.k (mv .k (.b 1 rfl)) (.k (mv .k (.b 2 rfl)) (.k (len_ .k rwI (.g 2 rfl) (by rw [List.length_map])) (.k (ldna .k (.b 3 rfl) (.b 4 rfl) tyP [.int .i64 (sumP P l).1,.int .i64 (sumP P l).2] rfl (fun j u h=>by rw [Nat.zero_add];exact h) (show _=ptv (sumP P l).1 (sumP P l).2 from rfl)) (.k (cal .k Tryz.func108 rfl (fn_Where hP hLl hL h3 (q:=sumP P l) (sum_nea hP hl h3)) (.k (.g 0 rfl) (.k (.g 1 rfl) (.k (.g 3 rfl) (.k (.g 4 rfl) .n))))) (.k (asg .k (.g 5 rfl)) (.k (asg .k .c) .n)))))))) [4] [6,7] rfl rfl ?_))
  refine Tr.ret (end_tmp2 1 2 rfl rfl rfl)
def inN (n:Nat) (s:Int × Int):Prop:=(0≤s.1∧s.1 < n)∧0≤s.2∧s.2 < n
def okQ (P L I:List (Int × Int)):Prop:=p20s P∧∀ s∈L++I,inN P.length s
open Classical in
noncomputable def chk5 (P L I:List (Int × Int)):Int:=if okQ P L I then 0 else 2
theorem chk5_p {P L I:List (Int × Int)} {k:Nat} {p:Int × Int} (h:P[k]?=some p) (hp:¬ (p.1≤1048576 ∧ -1048576≤p.1∧p.2≤1048576 ∧ -1048576≤p.2)):chk5 P L I=2:=if_neg fun hh=>by
  obtain ⟨h1,h2,h3,h4⟩:=hh.1 p (List.mem_of_getElem? h)
  omega
theorem chk5_s {P L I:List (Int × Int)} {k:Nat} {s:Int × Int} (h:(L++I)[k]?=some s) (hp:¬ inN P.length s):chk5 P L I=2:=if_neg fun hh=>hp (hh.2 s (List.mem_of_getElem? h))
theorem chk5_ok {P L I:List (Int × Int)} (h1:∀ p∈P.take P.length,p20 p) (h2:∀ s∈(L++I).take (L++I).length,inN P.length s):chk5 P L I=0:=by
  rw [List.take_length] at h1 h2
  exact if_pos ⟨h1,h2⟩
theorem bS0:Tryz.prog.built 28 []=some (sgv (0,0)).cells:=by kernel_rfl
theorem fn_Check5 {P L I:List (Int × Int)} (hP:P.length≤14) (hL:L.length≤30) (hI:I.length≤30):FnC Tryz.prog 149 [SP.poly P L I] (iv (chk5 P L I)):=by
 refine FnC.of (N:=114) Tryz.func149 rfl rfl (Nat.le_of_ble_eq_true rfl) (fun w0 ok0=>?_)
 refine Tr.rs [] (.k (bxx .k (.b 0 rfl)) (.k (asg .k .c) .n)) [] [0] rfl rfl ?_
 refine Tr.rs [] (.k (faddr .k (.b 0 rfl) rfl fQP) (.k (ldc .k (.g 0 rfl) (.b 0 rfl) tyvP) (.k (len_ .k rwP (.g 1 rfl) (by rw [List.length_map])) (.k (asg .k (.g 2 rfl)) .n)))) [0] [3] rfl rfl ?_
 refine Tr.seq (Tr.rs [] (.k (mv .k (.b 1 rfl)) (.k (gt_ .k (.g 0 rfl) .c (dF (by omega))) (.k (mv .k (.g 1 rfl)) (.k (faddr (.o 2 rfl rfl rfl) (.b 0 rfl) rfl fQL) (.k (ldc (.o 2 rfl rfl rfl) (.g 3 rfl) (.b 0 rfl) tyvS) (.k (len_ (.o 2 rfl rfl rfl) rwS (.g 4 rfl) (by rw [List.length_map])) (.k (gt_ (.o 2 rfl rfl rfl) (.g 5 rfl) .c (dF (by omega))) (.k (pickF .k (.g 2 rfl) (.g 6 rfl)) (.k (mv .k (.g 7 rfl)) (.k (faddr (.o 8 rfl rfl rfl) (.b 0 rfl) rfl fQI) (.k (ldc (.o 8 rfl rfl rfl) (.g 9 rfl) (.b 0 rfl) tyvS) (.k (len_ (.o 8 rfl rfl rfl) rwS (.g 10 rfl) (by rw [List.length_map])) (.k (gt_ (.o 8 rfl rfl rfl) (.g 11 rfl) .c (dF (by omega))) (.k (pickF .k (.g 8 rfl) (.g 12 rfl)) .n)))))))))))))) [0,1] [13] rfl rfl ?_)
 refine Tr.cond 2 rfl nofun (fun _=>?_)
 refine Tr.skip (Nx.go (?_))
 have hLI:(L++I).length=L.length+I.length:=List.length_append
 refine Tr.seq (Tr.rs [] (.k (asg .k .c) .n) [0,1] [0] rfl rfl ?_)
 refine Tr.block (?_)
 refine Tr.loop (fun n_ F_=>∃ k:Nat,(k≤P.length∧∀ p∈P.take k,p20 p)∧n_=P.length - k∧F_=[.b 1 (SP.poly P L I) 47 3,.s 3 (iv ((P.length:Nat):Int)),.s 4 (iv ((k:Nat):Int))]) (P.length - 0) (F0:=[.b 1 (SP.poly P L I) 47 3,.s 3 (iv ((P.length:Nat):Int)),.s 4 (iv ((0:Nat):Int))]) ⟨0,⟨Nat.zero_le _,by simp⟩,rfl,rfl⟩ (Sub.all (.cons 0 rfl (.cons 1 rfl (.cons 2 rfl .nil)))) (fun n_ F_ hI=>?_)
 obtain ⟨k,hinv,rfl,rfl⟩:=hI
 refine Tr.seq (Tr.rs [] (.k (mv .k (.b 2 rfl)) (.k (mv .k (.b 1 rfl)) (.k (lt_ .k (.g 0 rfl) (.g 1 rfl) rfl) .n))) [0,1,2] [2] rfl rfl ?_)
 refine Tr.cond 3 rfl (fun e26=>?_) (fun e26=>?_)
 ·
  have hk2:k < P.length:=by have:=of_decide_eq_true e26;omega
  refine Tr.skip (Nx.go (Tr.seq (Tr.block (?_))))
  obtain ⟨p,p1⟩:∃ p,P[k]?=some p:=⟨_,List.getElem?_eq_getElem hk2⟩;rcases or_ways4 (p.1 > 1048576) (p.1 < -1048576) (p.2 > 1048576) (p.2 < -1048576) with c1|⟨c1,c2⟩|⟨c1,c2,c3⟩|⟨c1,c2,c3,c4⟩|⟨c1,c2,c3,c4⟩
  ·
   rw [chk5_p p1 (by omega)]
   refine Tr.rs [] (.k (faddr .k (.b 0 rfl) rfl fQP) (.k (ldc .k (.g 0 rfl) (.b 0 rfl) tyvP) (.k (mv .k (.b 2 rfl)) (.k (idx_ .k rwP (.g 1 rfl) (.g 2 rfl) rfl (gm p1)) (.k (fat .k (.g 3 rfl) aPX rfl) (.k (ldc_at .k (.g 4 rfl) tyI) (.k (gt_ .k (.g 5 rfl) .c (decide_eq_true c1)) (.k (mv .k (.g 6 rfl)) (.k (skp (.o 7 rfl rfl rfl)) (.k (skp (.o 7 rfl rfl rfl)) (.k (skp (.o 7 rfl rfl rfl)) (.k (skp (.o 7 rfl rfl rfl)) (.k (skp (.o 7 rfl rfl rfl)) (.k (skp (.o 7 rfl rfl rfl)) (.k (skp (.o 7 rfl rfl rfl)) (.k (pickT .k (.g 7 rfl) .c) (.k (mv .k (.g 15 rfl)) (.k (skp (.o 16 rfl rfl rfl)) (.k (skp (.o 16 rfl rfl rfl)) (.k (skp (.o 16 rfl rfl rfl)) (.k (skp (.o 16 rfl rfl rfl)) (.k (skp (.o 16 rfl rfl rfl)) (.k (skp (.o 16 rfl rfl rfl)) (.k (skp (.o 16 rfl rfl rfl)) (.k (pickT .k (.g 16 rfl) .c) (.k (mv .k (.g 24 rfl)) (.k (skp (.o 25 rfl rfl rfl)) (.k (skp (.o 25 rfl rfl rfl)) (.k (skp (.o 25 rfl rfl rfl)) (.k (skp (.o 25 rfl rfl rfl)) (.k (skp (.o 25 rfl rfl rfl)) (.k (skp (.o 25 rfl rfl rfl)) (.k (skp (.o 25 rfl rfl rfl)) (.k (pickT .k (.g 25 rfl) .c) .n)))))))))))))))))))))))))))))))))) [0,1,2] [33] rfl rfl ?_
   refine Tr.cond 3 rfl (fun _=>?_) nofun
   refine Tr.rs [] (.k (asg .k .c) .n) [] [0] rfl rfl ?_
   refine Tr.ret (end_tmp 0 rfl rfl)
  ·
   rw [chk5_p p1 (by omega)]
   refine Tr.rs [] (.k (faddr .k (.b 0 rfl) rfl fQP) (.k (ldc .k (.g 0 rfl) (.b 0 rfl) tyvP) (.k (mv .k (.b 2 rfl)) (.k (idx_ .k rwP (.g 1 rfl) (.g 2 rfl) rfl (gm p1)) (.k (fat .k (.g 3 rfl) aPX rfl) (.k (ldc_at .k (.g 4 rfl) tyI) (.k (gt_ .k (.g 5 rfl) .c (decide_eq_false c1)) (.k (mv .k (.g 6 rfl)) (.k (faddr (.o 7 rfl rfl rfl) (.b 0 rfl) rfl fQP) (.k (ldc (.o 7 rfl rfl rfl) (.g 8 rfl) (.b 0 rfl) tyvP) (.k (mv (.o 7 rfl rfl rfl) (.b 2 rfl)) (.k (idx_ (.o 7 rfl rfl rfl) rwP (.g 9 rfl) (.g 10 rfl) rfl (gm p1)) (.k (fat (.o 7 rfl rfl rfl) (.g 11 rfl) aPX rfl) (.k (ldc_at (.o 7 rfl rfl rfl) (.g 12 rfl) tyI) (.k (lt_ (.o 7 rfl rfl rfl) (.g 13 rfl) .c (decide_eq_true c2)) (.k (pickF .k (.g 7 rfl) (.g 14 rfl)) (.k (mv .k (.g 15 rfl)) (.k (skp (.o 16 rfl rfl rfl)) (.k (skp (.o 16 rfl rfl rfl)) (.k (skp (.o 16 rfl rfl rfl)) (.k (skp (.o 16 rfl rfl rfl)) (.k (skp (.o 16 rfl rfl rfl)) (.k (skp (.o 16 rfl rfl rfl)) (.k (skp (.o 16 rfl rfl rfl)) (.k (pickT .k (.g 16 rfl) .c) (.k (mv .k (.g 24 rfl)) (.k (skp (.o 25 rfl rfl rfl)) (.k (skp (.o 25 rfl rfl rfl)) (.k (skp (.o 25 rfl rfl rfl)) (.k (skp (.o 25 rfl rfl rfl)) (.k (skp (.o 25 rfl rfl rfl)) (.k (skp (.o 25 rfl rfl rfl)) (.k (skp (.o 25 rfl rfl rfl)) (.k (pickT .k (.g 25 rfl) .c) .n)))))))))))))))))))))))))))))))))) [0,1,2] [33] rfl rfl ?_
   refine Tr.cond 3 rfl (fun _=>?_) nofun
   refine Tr.rs [] (.k (asg .k .c) .n) [] [0] rfl rfl ?_
   refine Tr.ret (end_tmp 0 rfl rfl)
  ·
   rw [chk5_p p1 (by omega)]
   refine Tr.rs [] (.k (faddr .k (.b 0 rfl) rfl fQP) (.k (ldc .k (.g 0 rfl) (.b 0 rfl) tyvP) (.k (mv .k (.b 2 rfl)) (.k (idx_ .k rwP (.g 1 rfl) (.g 2 rfl) rfl (gm p1)) (.k (fat .k (.g 3 rfl) aPX rfl) (.k (ldc_at .k (.g 4 rfl) tyI) (.k (gt_ .k (.g 5 rfl) .c (decide_eq_false c1)) (.k (mv .k (.g 6 rfl)) (.k (faddr (.o 7 rfl rfl rfl) (.b 0 rfl) rfl fQP) (.k (ldc (.o 7 rfl rfl rfl) (.g 8 rfl) (.b 0 rfl) tyvP) (.k (mv (.o 7 rfl rfl rfl) (.b 2 rfl)) (.k (idx_ (.o 7 rfl rfl rfl) rwP (.g 9 rfl) (.g 10 rfl) rfl (gm p1)) (.k (fat (.o 7 rfl rfl rfl) (.g 11 rfl) aPX rfl) (.k (ldc_at (.o 7 rfl rfl rfl) (.g 12 rfl) tyI) (.k (lt_ (.o 7 rfl rfl rfl) (.g 13 rfl) .c (decide_eq_false c2)) (.k (pickF .k (.g 7 rfl) (.g 14 rfl)) (.k (mv .k (.g 15 rfl)) (.k (faddr (.o 16 rfl rfl rfl) (.b 0 rfl) rfl fQP) (.k (ldc (.o 16 rfl rfl rfl) (.g 17 rfl) (.b 0 rfl) tyvP) (.k (mv (.o 16 rfl rfl rfl) (.b 2 rfl)) (.k (idx_ (.o 16 rfl rfl rfl) rwP (.g 18 rfl) (.g 19 rfl) rfl (gm p1)) (.k (fat (.o 16 rfl rfl rfl) (.g 20 rfl) aPY rfl) (.k (ldc_at (.o 16 rfl rfl rfl) (.g 21 rfl) tyI) (.k (gt_ (.o 16 rfl rfl rfl) (.g 22 rfl) .c (decide_eq_true c3)) (.k (pickF .k (.g 16 rfl) (.g 23 rfl)) (.k (mv .k (.g 24 rfl)) (.k (skp (.o 25 rfl rfl rfl)) (.k (skp (.o 25 rfl rfl rfl)) (.k (skp (.o 25 rfl rfl rfl)) (.k (skp (.o 25 rfl rfl rfl)) (.k (skp (.o 25 rfl rfl rfl)) (.k (skp (.o 25 rfl rfl rfl)) (.k (skp (.o 25 rfl rfl rfl)) (.k (pickT .k (.g 25 rfl) .c) .n)))))))))))))))))))))))))))))))))) [0,1,2] [33] rfl rfl ?_
   refine Tr.cond 3 rfl (fun _=>?_) nofun
   refine Tr.rs [] (.k (asg .k .c) .n) [] [0] rfl rfl ?_
   refine Tr.ret (end_tmp 0 rfl rfl)
  ·
   rw [chk5_p p1 (by omega)]
   refine Tr.rs [] (.k (faddr .k (.b 0 rfl) rfl fQP) (.k (ldc .k (.g 0 rfl) (.b 0 rfl) tyvP) (.k (mv .k (.b 2 rfl)) (.k (idx_ .k rwP (.g 1 rfl) (.g 2 rfl) rfl (gm p1)) (.k (fat .k (.g 3 rfl) aPX rfl) (.k (ldc_at .k (.g 4 rfl) tyI) (.k (gt_ .k (.g 5 rfl) .c (decide_eq_false c1)) (.k (mv .k (.g 6 rfl)) (.k (faddr (.o 7 rfl rfl rfl) (.b 0 rfl) rfl fQP) (.k (ldc (.o 7 rfl rfl rfl) (.g 8 rfl) (.b 0 rfl) tyvP) (.k (mv (.o 7 rfl rfl rfl) (.b 2 rfl)) (.k (idx_ (.o 7 rfl rfl rfl) rwP (.g 9 rfl) (.g 10 rfl) rfl (gm p1)) (.k (fat (.o 7 rfl rfl rfl) (.g 11 rfl) aPX rfl) (.k (ldc_at (.o 7 rfl rfl rfl) (.g 12 rfl) tyI) (.k (lt_ (.o 7 rfl rfl rfl) (.g 13 rfl) .c (decide_eq_false c2)) (.k (pickF .k (.g 7 rfl) (.g 14 rfl)) (.k (mv .k (.g 15 rfl)) (.k (faddr (.o 16 rfl rfl rfl) (.b 0 rfl) rfl fQP) (.k (ldc (.o 16 rfl rfl rfl) (.g 17 rfl) (.b 0 rfl) tyvP) (.k (mv (.o 16 rfl rfl rfl) (.b 2 rfl)) (.k (idx_ (.o 16 rfl rfl rfl) rwP (.g 18 rfl) (.g 19 rfl) rfl (gm p1)) (.k (fat (.o 16 rfl rfl rfl) (.g 20 rfl) aPY rfl) (.k (ldc_at (.o 16 rfl rfl rfl) (.g 21 rfl) tyI) (.k (gt_ (.o 16 rfl rfl rfl) (.g 22 rfl) .c (decide_eq_false c3)) (.k (pickF .k (.g 16 rfl) (.g 23 rfl)) (.k (mv .k (.g 24 rfl)) (.k (faddr (.o 25 rfl rfl rfl) (.b 0 rfl) rfl fQP) (.k (ldc (.o 25 rfl rfl rfl) (.g 26 rfl) (.b 0 rfl) tyvP) (.k (mv (.o 25 rfl rfl rfl) (.b 2 rfl)) (.k (idx_ (.o 25 rfl rfl rfl) rwP (.g 27 rfl) (.g 28 rfl) rfl (gm p1)) (.k (fat (.o 25 rfl rfl rfl) (.g 29 rfl) aPY rfl) (.k (ldc_at (.o 25 rfl rfl rfl) (.g 30 rfl) tyI) (.k (lt_ (.o 25 rfl rfl rfl) (.g 31 rfl) .c (decide_eq_true c4)) (.k (pickF .k (.g 25 rfl) (.g 32 rfl)) .n)))))))))))))))))))))))))))))))))) [0,1,2] [33] rfl rfl ?_
   refine Tr.cond 3 rfl (fun _=>?_) nofun
   refine Tr.rs [] (.k (asg .k .c) .n) [] [0] rfl rfl ?_
   refine Tr.ret (end_tmp 0 rfl rfl)
  ·
   have c1:p.1≤1048576:=Int.not_lt.1 c1;have c2 : -1048576≤p.1:=Int.not_lt.1 c2;have c3:p.2≤1048576:=Int.not_lt.1 c3;have c4 : -1048576≤p.2:=Int.not_lt.1 c4
   refine Tr.rs [] (.k (faddr .k (.b 0 rfl) rfl fQP) (.k (ldc .k (.g 0 rfl) (.b 0 rfl) tyvP) (.k (mv .k (.b 2 rfl)) (.k (idx_ .k rwP (.g 1 rfl) (.g 2 rfl) rfl (gm p1)) (.k (fat .k (.g 3 rfl) aPX rfl) (.k (ldc_at .k (.g 4 rfl) tyI) (.k (gt_ .k (.g 5 rfl) .c (dF (by omega))) (.k (mv .k (.g 6 rfl)) (.k (faddr (.o 7 rfl rfl rfl) (.b 0 rfl) rfl fQP) (.k (ldc (.o 7 rfl rfl rfl) (.g 8 rfl) (.b 0 rfl) tyvP) (.k (mv (.o 7 rfl rfl rfl) (.b 2 rfl)) (.k (idx_ (.o 7 rfl rfl rfl) rwP (.g 9 rfl) (.g 10 rfl) rfl (gm p1)) (.k (fat (.o 7 rfl rfl rfl) (.g 11 rfl) aPX rfl) (.k (ldc_at (.o 7 rfl rfl rfl) (.g 12 rfl) tyI) (.k (lt_ (.o 7 rfl rfl rfl) (.g 13 rfl) .c (dF (by omega))) (.k (pickF .k (.g 7 rfl) (.g 14 rfl)) (.k (mv .k (.g 15 rfl)) (.k (faddr (.o 16 rfl rfl rfl) (.b 0 rfl) rfl fQP) (.k (ldc (.o 16 rfl rfl rfl) (.g 17 rfl) (.b 0 rfl) tyvP) (.k (mv (.o 16 rfl rfl rfl) (.b 2 rfl)) (.k (idx_ (.o 16 rfl rfl rfl) rwP (.g 18 rfl) (.g 19 rfl) rfl (gm p1)) (.k (fat (.o 16 rfl rfl rfl) (.g 20 rfl) aPY rfl) (.k (ldc_at (.o 16 rfl rfl rfl) (.g 21 rfl) tyI) (.k (gt_ (.o 16 rfl rfl rfl) (.g 22 rfl) .c (dF (by omega))) (.k (pickF .k (.g 16 rfl) (.g 23 rfl)) (.k (mv .k (.g 24 rfl)) (.k (faddr (.o 25 rfl rfl rfl) (.b 0 rfl) rfl fQP) (.k (ldc (.o 25 rfl rfl rfl) (.g 26 rfl) (.b 0 rfl) tyvP) (.k (mv (.o 25 rfl rfl rfl) (.b 2 rfl)) (.k (idx_ (.o 25 rfl rfl rfl) rwP (.g 27 rfl) (.g 28 rfl) rfl (gm p1)) (.k (fat (.o 25 rfl rfl rfl) (.g 29 rfl) aPY rfl) (.k (ldc_at (.o 25 rfl rfl rfl) (.g 30 rfl) tyI) (.k (lt_ (.o 25 rfl rfl rfl) (.g 31 rfl) .c (dF (by omega))) (.k (pickF .k (.g 25 rfl) (.g 32 rfl)) .n)))))))))))))))))))))))))))))))))) [0,1,2] [33] rfl rfl ?_
   refine Tr.cond 3 rfl nofun (fun _=>?_)
   refine Tr.skip (Nx.bkN (Nx.go (Tr.reg [(2,2)] (.k (mv .k (.b 2 rfl)) (.k (add_ .k (.g 0 rfl) .c (wr1 (by omega))) (.k (asg .k (.g 1 rfl)) .n))) [0,1] [2] rfl rfl (Nx.again (P.length - (k+1)) (by omega) [.b 1 (SP.poly P L I) 47 3,.s 3 (iv ((P.length:Nat):Int)),.s 4 (iv (((k+1):Nat):Int))] ⟨(k+1),⟨by omega,all_succ p1 ⟨c2,c1,c4,c3⟩ hinv.2⟩,rfl,rfl⟩ (Sub.all (.cons 0 rfl (.cons 1 rfl (.cons 2 rfl .nil))))))))
 ·
  obtain rfl:k=P.length:=by have:=of_decide_eq_false e26;omega
  refine Tr.exit (Nx.thX (Nx.thX (Nx.bkX (Nx.go (Tr.seq (Tr.rs [] (.k (asg .k .c) .n) [0,1] [0] rfl rfl ?_))))))
  refine Tr.block (?_)
  refine Tr.loop (fun n_ F_=>∃ i:Nat,(i≤(L++I).length∧∀ s∈(L++I).take i,inN P.length s)∧n_=(L++I).length - i∧F_=[.b 1 (SP.poly P L I) 47 3,.s 3 (iv ((P.length:Nat):Int)),.s 5 (iv ((i:Nat):Int))]) ((L++I).length - 0) (F0:=[.b 1 (SP.poly P L I) 47 3,.s 3 (iv ((P.length:Nat):Int)),.s 5 (iv ((0:Nat):Int))]) ⟨0,⟨Nat.zero_le _,by simp⟩,rfl,rfl⟩ (Sub.all (.cons 0 rfl (.cons 1 rfl (.cons 2 rfl .nil)))) (fun n_ F_ hI=>?_)
  obtain ⟨i,hjv,rfl,rfl⟩:=hI
  refine Tr.seq (Tr.rs [] (.k (mv .k (.b 2 rfl)) (.k (faddr .k (.b 0 rfl) rfl fQL) (.k (ldc .k (.g 1 rfl) (.b 0 rfl) tyvS) (.k (len_ .k rwS (.g 2 rfl) (by rw [List.length_map])) (.k (faddr .k (.b 0 rfl) rfl fQI) (.k (ldc .k (.g 4 rfl) (.b 0 rfl) tyvS) (.k (len_ .k rwS (.g 5 rfl) (by rw [List.length_map])) (.k (add_ .k (.g 3 rfl) (.g 6 rfl) (show IntKind.i64.wrap ((L.length:Int)+(I.length:Int))=(((L++I).length:Nat):Int) by rw [List.length_append,IntWalk.i64_in _ (by omega)];omega)) (.k (lt_ .k (.g 0 rfl) (.g 7 rfl) rfl) .n))))))))) [0,1,2] [8] rfl rfl ?_)
  refine Tr.cond 3 rfl (fun e71=>?_) (fun e71=>?_)
  ·
   have hi2:i < (L++I).length:=by have:=of_decide_eq_true e71;omega
   refine Tr.skip (Nx.go (Tr.seq (Tr.block (?_))))
   obtain ⟨s,p1⟩:∃ s,(L++I)[i]?=some s:=⟨_,List.getElem?_eq_getElem hi2⟩
   refine Tr.rs [] (.k (bld .k .n bS0 (aS 0 0)) (.k (ala .k zS) (.k (sta .k (.g 1 rfl) (.g 0 rfl) tyS) .n))) [0,1,2] [2] rfl rfl ?_
   refine Tr.cut [.b 1 (SP.poly P L I) 47 3,.s 3 (iv ((P.length:Nat):Int)),.s 5 (iv ((i:Nat):Int)),.b 6 (.is (sgv s)) 28 2] ?_ ?_
   ·
    refine Tr.rs [] (.k (mv .k (.b 2 rfl)) (.k (faddr .k (.b 0 rfl) rfl fQL) (.k (ldc .k (.g 1 rfl) (.b 0 rfl) tyvS) (.k (len_ .k rwS (.g 2 rfl) (by rw [List.length_map])) (.k (lt_ .k (.g 0 rfl) (.g 3 rfl) rfl) .n))))) [0,1,2,3] [4] rfl rfl ?_
    refine Tr.cond 4 rfl (fun e79=>?_) (fun e79=>?_)
    ·
     have p2:L[i]?=some s:=(List.getElem?_append_left (by have:=of_decide_eq_true e79;omega)).symm.trans p1
     refine Tr.reg [(3,5)] (.k (faddr .k (.b 0 rfl) rfl fQL) (.k (ldc .k (.g 0 rfl) (.b 0 rfl) tyvS) (.k (mv .k (.b 2 rfl)) (.k (idx_ .k rwS (.g 1 rfl) (.g 2 rfl) rfl (gm p2)) (.k (ld_at .k (.g 3 rfl) tyS rfl (show _=sgv (_,_) from rfl)) (.k (sto .k (.b 3 rfl) (.g 4 rfl) tyS) .n)))))) [0,1,2] [5] rfl rfl (Nx.met _ (Sub.all (.cons 0 rfl (.cons 1 rfl (.cons 2 rfl (.cons 3 rfl .nil))))))
    ·
     have p2:I[i - L.length]?=some s:=(List.getElem?_append_right (by have:=of_decide_eq_false e79;omega)).symm.trans p1
     refine Tr.reg [(3,9)] (.k (faddr .k (.b 0 rfl) rfl fQI) (.k (ldc .k (.g 0 rfl) (.b 0 rfl) tyvS) (.k (mv .k (.b 2 rfl)) (.k (faddr .k (.b 0 rfl) rfl fQL) (.k (ldc .k (.g 3 rfl) (.b 0 rfl) tyvS) (.k (len_ .k rwS (.g 4 rfl) (by rw [List.length_map])) (.k (sub_ .k (.g 2 rfl) (.g 5 rfl) (show IntKind.i64.wrap ((i:Int) - (L.length:Int))=((i - L.length:Nat):Int) by have:=of_decide_eq_false e79;rw [IntWalk.i64_in _ (by omega)];omega)) (.k (idx_ .k rwS (.g 1 rfl) (.g 6 rfl) rfl (gm p2)) (.k (ld_at .k (.g 7 rfl) tyS rfl (show _=sgv (_,_) from rfl)) (.k (sto .k (.b 3 rfl) (.g 8 rfl) tyS) .n)))))))))) [0,1,2] [9] rfl rfl (Nx.met _ (Sub.all (.cons 0 rfl (.cons 1 rfl (.cons 2 rfl (.cons 3 rfl .nil))))))
   ·
    rcases or_ways4 (s.1 < 0) (s.1 ≥ P.length) (s.2 < 0) (s.2 ≥ P.length) with c1|⟨c1,c2⟩|⟨c1,c2,c3⟩|⟨c1,c2,c3,c4⟩|⟨c1,c2,c3,c4⟩
    ·
     rw [chk5_s p1 (show ¬ inN P.length s by unfold inN;omega)]
     refine Tr.rs [] (.k (faddr .k (.b 3 rfl) rfl fSA) (.k (ldc .k (.g 0 rfl) (.b 3 rfl) tyI) (.k (lt_ .k (.g 1 rfl) .c (decide_eq_true c1)) (.k (mv .k (.g 2 rfl)) (.k (skp (.o 3 rfl rfl rfl)) (.k (skp (.o 3 rfl rfl rfl)) (.k (skp (.o 3 rfl rfl rfl)) (.k (skp (.o 3 rfl rfl rfl)) (.k (pickT .k (.g 3 rfl) .c) (.k (mv .k (.g 8 rfl)) (.k (skp (.o 9 rfl rfl rfl)) (.k (skp (.o 9 rfl rfl rfl)) (.k (skp (.o 9 rfl rfl rfl)) (.k (pickT .k (.g 9 rfl) .c) (.k (mv .k (.g 13 rfl)) (.k (skp (.o 14 rfl rfl rfl)) (.k (skp (.o 14 rfl rfl rfl)) (.k (skp (.o 14 rfl rfl rfl)) (.k (skp (.o 14 rfl rfl rfl)) (.k (pickT .k (.g 14 rfl) .c) .n)))))))))))))))))))) [0,1,2] [19] rfl rfl ?_
     refine Tr.cond 3 rfl (fun _=>?_) nofun
     refine Tr.rs [] (.k (asg .k .c) .n) [] [0] rfl rfl ?_
     refine Tr.ret (end_tmp 0 rfl rfl)
    ·
     rw [chk5_s p1 (show ¬ inN P.length s by unfold inN;omega)]
     refine Tr.rs [] (.k (faddr .k (.b 3 rfl) rfl fSA) (.k (ldc .k (.g 0 rfl) (.b 3 rfl) tyI) (.k (lt_ .k (.g 1 rfl) .c (decide_eq_false c1)) (.k (mv .k (.g 2 rfl)) (.k (faddr (.o 3 rfl rfl rfl) (.b 3 rfl) rfl fSA) (.k (ldc (.o 3 rfl rfl rfl) (.g 4 rfl) (.b 3 rfl) tyI) (.k (mv (.o 3 rfl rfl rfl) (.b 1 rfl)) (.k (ge_ (.o 3 rfl rfl rfl) (.g 5 rfl) (.g 6 rfl) (decide_eq_true c2)) (.k (pickF .k (.g 3 rfl) (.g 7 rfl)) (.k (mv .k (.g 8 rfl)) (.k (skp (.o 9 rfl rfl rfl)) (.k (skp (.o 9 rfl rfl rfl)) (.k (skp (.o 9 rfl rfl rfl)) (.k (pickT .k (.g 9 rfl) .c) (.k (mv .k (.g 13 rfl)) (.k (skp (.o 14 rfl rfl rfl)) (.k (skp (.o 14 rfl rfl rfl)) (.k (skp (.o 14 rfl rfl rfl)) (.k (skp (.o 14 rfl rfl rfl)) (.k (pickT .k (.g 14 rfl) .c) .n)))))))))))))))))))) [0,1,2] [19] rfl rfl ?_
     refine Tr.cond 3 rfl (fun _=>?_) nofun
     refine Tr.rs [] (.k (asg .k .c) .n) [] [0] rfl rfl ?_
     refine Tr.ret (end_tmp 0 rfl rfl)
    ·
     rw [chk5_s p1 (show ¬ inN P.length s by unfold inN;omega)]
     refine Tr.rs [] (.k (faddr .k (.b 3 rfl) rfl fSA) (.k (ldc .k (.g 0 rfl) (.b 3 rfl) tyI) (.k (lt_ .k (.g 1 rfl) .c (decide_eq_false c1)) (.k (mv .k (.g 2 rfl)) (.k (faddr (.o 3 rfl rfl rfl) (.b 3 rfl) rfl fSA) (.k (ldc (.o 3 rfl rfl rfl) (.g 4 rfl) (.b 3 rfl) tyI) (.k (mv (.o 3 rfl rfl rfl) (.b 1 rfl)) (.k (ge_ (.o 3 rfl rfl rfl) (.g 5 rfl) (.g 6 rfl) (decide_eq_false c2)) (.k (pickF .k (.g 3 rfl) (.g 7 rfl)) (.k (mv .k (.g 8 rfl)) (.k (faddr (.o 9 rfl rfl rfl) (.b 3 rfl) rfl fSB) (.k (ldc (.o 9 rfl rfl rfl) (.g 10 rfl) (.b 3 rfl) tyI) (.k (lt_ (.o 9 rfl rfl rfl) (.g 11 rfl) .c (decide_eq_true c3)) (.k (pickF .k (.g 9 rfl) (.g 12 rfl)) (.k (mv .k (.g 13 rfl)) (.k (skp (.o 14 rfl rfl rfl)) (.k (skp (.o 14 rfl rfl rfl)) (.k (skp (.o 14 rfl rfl rfl)) (.k (skp (.o 14 rfl rfl rfl)) (.k (pickT .k (.g 14 rfl) .c) .n)))))))))))))))))))) [0,1,2] [19] rfl rfl ?_
     refine Tr.cond 3 rfl (fun _=>?_) nofun
     refine Tr.rs [] (.k (asg .k .c) .n) [] [0] rfl rfl ?_
     refine Tr.ret (end_tmp 0 rfl rfl)
    ·
     rw [chk5_s p1 (show ¬ inN P.length s by unfold inN;omega)]
     refine Tr.rs [] (.k (faddr .k (.b 3 rfl) rfl fSA) (.k (ldc .k (.g 0 rfl) (.b 3 rfl) tyI) (.k (lt_ .k (.g 1 rfl) .c (decide_eq_false c1)) (.k (mv .k (.g 2 rfl)) (.k (faddr (.o 3 rfl rfl rfl) (.b 3 rfl) rfl fSA) (.k (ldc (.o 3 rfl rfl rfl) (.g 4 rfl) (.b 3 rfl) tyI) (.k (mv (.o 3 rfl rfl rfl) (.b 1 rfl)) (.k (ge_ (.o 3 rfl rfl rfl) (.g 5 rfl) (.g 6 rfl) (decide_eq_false c2)) (.k (pickF .k (.g 3 rfl) (.g 7 rfl)) (.k (mv .k (.g 8 rfl)) (.k (faddr (.o 9 rfl rfl rfl) (.b 3 rfl) rfl fSB) (.k (ldc (.o 9 rfl rfl rfl) (.g 10 rfl) (.b 3 rfl) tyI) (.k (lt_ (.o 9 rfl rfl rfl) (.g 11 rfl) .c (decide_eq_false c3)) (.k (pickF .k (.g 9 rfl) (.g 12 rfl)) (.k (mv .k (.g 13 rfl)) (.k (faddr (.o 14 rfl rfl rfl) (.b 3 rfl) rfl fSB) (.k (ldc (.o 14 rfl rfl rfl) (.g 15 rfl) (.b 3 rfl) tyI) (.k (mv (.o 14 rfl rfl rfl) (.b 1 rfl)) (.k (ge_ (.o 14 rfl rfl rfl) (.g 16 rfl) (.g 17 rfl) (decide_eq_true c4)) (.k (pickF .k (.g 14 rfl) (.g 18 rfl)) .n)))))))))))))))))))) [0,1,2] [19] rfl rfl ?_
     refine Tr.cond 3 rfl (fun _=>?_) nofun
     refine Tr.rs [] (.k (asg .k .c) .n) [] [0] rfl rfl ?_
     refine Tr.ret (end_tmp 0 rfl rfl)
    ·
     refine Tr.rs [] (.k (faddr .k (.b 3 rfl) rfl fSA) (.k (ldc .k (.g 0 rfl) (.b 3 rfl) tyI) (.k (lt_ .k (.g 1 rfl) .c (dF (by omega))) (.k (mv .k (.g 2 rfl)) (.k (faddr (.o 3 rfl rfl rfl) (.b 3 rfl) rfl fSA) (.k (ldc (.o 3 rfl rfl rfl) (.g 4 rfl) (.b 3 rfl) tyI) (.k (mv (.o 3 rfl rfl rfl) (.b 1 rfl)) (.k (ge_ (.o 3 rfl rfl rfl) (.g 5 rfl) (.g 6 rfl) (dF (by omega))) (.k (pickF .k (.g 3 rfl) (.g 7 rfl)) (.k (mv .k (.g 8 rfl)) (.k (faddr (.o 9 rfl rfl rfl) (.b 3 rfl) rfl fSB) (.k (ldc (.o 9 rfl rfl rfl) (.g 10 rfl) (.b 3 rfl) tyI) (.k (lt_ (.o 9 rfl rfl rfl) (.g 11 rfl) .c (dF (by omega))) (.k (pickF .k (.g 9 rfl) (.g 12 rfl)) (.k (mv .k (.g 13 rfl)) (.k (faddr (.o 14 rfl rfl rfl) (.b 3 rfl) rfl fSB) (.k (ldc (.o 14 rfl rfl rfl) (.g 15 rfl) (.b 3 rfl) tyI) (.k (mv (.o 14 rfl rfl rfl) (.b 1 rfl)) (.k (ge_ (.o 14 rfl rfl rfl) (.g 16 rfl) (.g 17 rfl) (dF (by omega))) (.k (pickF .k (.g 14 rfl) (.g 18 rfl)) .n)))))))))))))))))))) [0,1,2] [19] rfl rfl ?_
     refine Tr.cond 3 rfl nofun (fun _=>?_)
     refine Tr.skip (Nx.bkN (Nx.go (Tr.reg [(2,2)] (.k (mv .k (.b 2 rfl)) (.k (add_ .k (.g 0 rfl) .c (wr1 (by omega))) (.k (asg .k (.g 1 rfl)) .n))) [0,1] [2] rfl rfl (Nx.again ((L++I).length - (i+1)) (by omega) [.b 1 (SP.poly P L I) 47 3,.s 3 (iv ((P.length:Nat):Int)),.s 5 (iv (((i+1):Nat):Int))] ⟨(i+1),⟨by omega,all_succ p1 ⟨⟨by omega,by omega⟩,by omega,by omega⟩ hjv.2⟩,rfl,rfl⟩ (Sub.all (.cons 0 rfl (.cons 1 rfl (.cons 2 rfl .nil))))))))
  ·
   obtain rfl:i=(L++I).length:=by have:=of_decide_eq_false e71;omega
   refine Tr.exit (Nx.thX (Nx.thX (Nx.bkX (Nx.go (?_)))))
   rw [chk5_ok hinv.2 hjv.2]
   refine Tr.rs [] (.k (asg .k .c) .n) [] [0] rfl rfl ?_
   refine Tr.ret (end_tmp 0 rfl rfl)
theorem fn_All10 {P L I:List (Int × Int)} (hP:P.length≤14) (hL:L.length≤30) (hI:I.length≤30):FnC Tryz.prog 106 [SP.poly P L I] (svec (L++I)):=by
 refine FnC.of (N:=12) Tryz.func106 rfl rfl (Nat.le_of_ble_eq_true rfl) (fun w0 ok0=>?_)
 refine Tr.rs [] (.k (bxx .k (.b 0 rfl)) (.k (oini (sz:=2) (E:=28) .k (.inl rfl)) .n)) [] [0] rfl rfl ?_
 refine Tr.rs [] (.k (oini (sz:=2) (E:=28) .k (.inl rfl)) .n) [0] [0] rfl rfl ?_
 refine Tr.rs [(1,0),(1000,3),(1003,4)] (.k (omv .k (.inr rfl) (.b 1 rfl)) (.k (faddr .k (.b 0 rfl) rfl fQL) (.k (ldc .k (.g 1 rfl) (.b 0 rfl) tyvS) (.k (oapa .k apS (.g 0 rfl) (.g 2 rfl) (by decide) ⟨(show _=L.map sgc from rfl),seg_all _,by simp only [List.length_map,List.length_nil];omega⟩) (.k (omv .k (.inl rfl) (.g 3 rfl)) .n))))) [0] [4] rfl rfl ?_
 refine Tr.rs [(1,0),(1000,3),(1003,4)] (.k (omv .k (.inr rfl) (.b 1 rfl)) (.k (faddr .k (.b 0 rfl) rfl fQI) (.k (ldc .k (.g 1 rfl) (.b 0 rfl) tyvS) (.k (oapa .k apS (.g 0 rfl) (.g 2 rfl) (by decide) ⟨(show _=(L++I).map sgc from by rw [List.map_append]),seg_all _,by simp only [List.length_map,List.length_nil];omega⟩) (.k (frz .k (.inl rfl) (.g 3 rfl)) .n))))) [] [4] rfl rfl ?_
 refine Tr.ret (end_tmp 0 rfl rfl)
end Go.Proofs.YtkgagdjogedoiaaGreat
