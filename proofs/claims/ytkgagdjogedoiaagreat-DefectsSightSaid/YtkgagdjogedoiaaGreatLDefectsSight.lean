/- DefectsSight, walked. -/
import Derived.Test.YtkgagdjogedoiaaGreatSw8
import Derived.Test.YtkgagdjogedoiaaGreatDfc
import Derived.Test.YtkgagdjogedoiaaGreatQpRow
set_option linter.unusedVariables false
set_option linter.unusedSimpArgs false
namespace Go.Proofs.YtkgagdjogedoiaaGreat
open Go Go.RowKit Go.Proofs.YtkgagdjogedoiaaGreat.Fx Go.Proofs.YtkgagdjogedoiaaGreatW.PrintWords
theorem sight_ways (P L I:List (Int × Int)):((P.length:Int) > 14)∨(¬ (P.length:Int) > 14∧(L.length:Int) > 30)∨(¬ (P.length:Int) > 14∧¬ (L.length:Int) > 30∧(I.length:Int) > 30)∨(P.length≤14∧L.length≤30∧I.length≤30∧rightB P L I=false)∨(P.length≤14∧L.length≤30∧I.length≤30∧rightB P L I=true∧¬ MeshOK P.length (oP P) (mkT P L I) (segL (L++I))) ∨
    (P.length≤14∧L.length≤30∧I.length≤30∧rightB P L I=true∧MeshOK P.length (oP P) (mkT P L I) (segL (L++I))∧∃ m,delN P (segL (L++I)) (fuel P (mkT P L I)) (mkT P L I) 0=(none,m,130))∨(P.length≤14∧L.length≤30∧I.length≤30∧rightB P L I=true∧MeshOK P.length (oP P) (mkT P L I) (segL (L++I))∧∃ T' m,delN P (segL (L++I)) (fuel P (mkT P L I)) (mkT P L I) 0=(some T',m,0)):=by
  by_cases h1:(P.length:Int) > 14
  · exact .inl h1
  by_cases h2:(L.length:Int) > 30
  · exact .inr (.inl ⟨h1,h2⟩)
  by_cases h3:(I.length:Int) > 30
  · exact .inr (.inr (.inl ⟨h1,h2,h3⟩))
  refine .inr (.inr (.inr ?_))
  have g1:P.length≤14:=by omega
  have g2:L.length≤30:=by omega
  have g3:I.length≤30:=by omega
  cases hr:rightB P L I with
  | false=>exact .inl ⟨g1,g2,g3,rfl⟩
  | true =>
    refine .inr ?_
    by_cases M:MeshOK P.length (oP P) (mkT P L I) (segL (L++I))
    · refine .inr ?_
      have hf:=fit_of (right_ok hr).1.1
      rcases del_shape hf _ _ 0 M (fuel_lt hf M) with ⟨T',m',h⟩|⟨m',h⟩
      · exact .inr ⟨g1,g2,g3,rfl,M,T',m',h⟩
      · exact .inl ⟨g1,g2,g3,rfl,M,m',h⟩
    · exact .inl ⟨g1,g2,g3,rfl,M⟩
theorem seg_wf {P S:List (Int × Int)} (hP:P.length≤14) (h:inS P S):∀ s∈S,(Lit.int .i64 s.1).wf=true∧(Lit.int .i64 s.2).wf=true:=fun s hs=>by
  obtain ⟨a,b⟩:=h s hs
  have:=inP_lt a
  have:=inP_lt b
  exact ⟨wf_small (by omega) (by omega),wf_small (by omega) (by omega)⟩
set_option maxRecDepth 100000 in
set_option maxHeartbeats 8000000 in
theorem lawSight_any {P L I:List (Int × Int)}:FnC Tryz.prog 4 [SP.poly P L I] (bv true):=by
 refine FnC.of (N:=123) Tryz.func4 rfl rfl (Nat.le_of_ble_eq_true rfl) (fun w0 ok0=>?_)
 refine Tr.rs [] (.k (bxx .k (.b 0 rfl)) (.k (asg .k .c) .n)) [] [0] rfl rfl ?_
 rcases sight_ways P L I with h|h|h|⟨hP,hL,hI,hr⟩|⟨hP,hL,hI,hr,M⟩|⟨hP,hL,hI,hr,M,m,hd⟩|⟨hP,hL,hI,hr,M,T2,m,hd⟩
 ·
  refine Tr.seq (Tr.rs [] (.k (faddr .k (.b 0 rfl) rfl fQP) (.k (ldc .k (.g 0 rfl) (.b 0 rfl) tyvP) (.k (len_ .k rwP (.g 1 rfl) (by rw [List.length_map])) (.k (gt_ .k (.g 2 rfl) .c (dT (by omega))) (.k (mv .k (.g 3 rfl)) (.k (skp (.o 4 rfl rfl rfl)) (.k (skp (.o 4 rfl rfl rfl)) (.k (skp (.o 4 rfl rfl rfl)) (.k (skp (.o 4 rfl rfl rfl)) (.k (pickT .k (.g 4 rfl) .c) (.k (mv .k (.g 9 rfl)) (.k (skp (.o 10 rfl rfl rfl)) (.k (skp (.o 10 rfl rfl rfl)) (.k (skp (.o 10 rfl rfl rfl)) (.k (skp (.o 10 rfl rfl rfl)) (.k (pickT .k (.g 10 rfl) .c) .n)))))))))))))))) [0] [15] rfl rfl ?_)
  refine Tr.cond 1 rfl (fun _=>?_) nofun
  refine Tr.rs [] (.k (cal .k Tryz.func7 rfl fn_known .n) (.k (asg .k (.g 0 rfl)) .n)) [] [1] rfl rfl ?_
  refine Tr.ret (end_tmp 0 rfl rfl)
 ·
  obtain ⟨h0,h⟩:=h
  refine Tr.seq (Tr.rs [] (.k (faddr .k (.b 0 rfl) rfl fQP) (.k (ldc .k (.g 0 rfl) (.b 0 rfl) tyvP) (.k (len_ .k rwP (.g 1 rfl) (by rw [List.length_map])) (.k (gt_ .k (.g 2 rfl) .c (dF (by omega))) (.k (mv .k (.g 3 rfl)) (.k (faddr (.o 4 rfl rfl rfl) (.b 0 rfl) rfl fQL) (.k (ldc (.o 4 rfl rfl rfl) (.g 5 rfl) (.b 0 rfl) tyvS) (.k (len_ (.o 4 rfl rfl rfl) rwS (.g 6 rfl) (by rw [List.length_map])) (.k (gt_ (.o 4 rfl rfl rfl) (.g 7 rfl) .c (dT (by omega))) (.k (pickF .k (.g 4 rfl) (.g 8 rfl)) (.k (mv .k (.g 9 rfl)) (.k (skp (.o 10 rfl rfl rfl)) (.k (skp (.o 10 rfl rfl rfl)) (.k (skp (.o 10 rfl rfl rfl)) (.k (skp (.o 10 rfl rfl rfl)) (.k (pickT .k (.g 10 rfl) .c) .n)))))))))))))))) [0] [15] rfl rfl ?_)
  refine Tr.cond 1 rfl (fun _=>?_) nofun
  refine Tr.rs [] (.k (cal .k Tryz.func7 rfl fn_known .n) (.k (asg .k (.g 0 rfl)) .n)) [] [1] rfl rfl ?_
  refine Tr.ret (end_tmp 0 rfl rfl)
 ·
  obtain ⟨h0,h1,h⟩:=h
  refine Tr.seq (Tr.rs [] (.k (faddr .k (.b 0 rfl) rfl fQP) (.k (ldc .k (.g 0 rfl) (.b 0 rfl) tyvP) (.k (len_ .k rwP (.g 1 rfl) (by rw [List.length_map])) (.k (gt_ .k (.g 2 rfl) .c (dF (by omega))) (.k (mv .k (.g 3 rfl)) (.k (faddr (.o 4 rfl rfl rfl) (.b 0 rfl) rfl fQL) (.k (ldc (.o 4 rfl rfl rfl) (.g 5 rfl) (.b 0 rfl) tyvS) (.k (len_ (.o 4 rfl rfl rfl) rwS (.g 6 rfl) (by rw [List.length_map])) (.k (gt_ (.o 4 rfl rfl rfl) (.g 7 rfl) .c (dF (by omega))) (.k (pickF .k (.g 4 rfl) (.g 8 rfl)) (.k (mv .k (.g 9 rfl)) (.k (faddr (.o 10 rfl rfl rfl) (.b 0 rfl) rfl fQI) (.k (ldc (.o 10 rfl rfl rfl) (.g 11 rfl) (.b 0 rfl) tyvS) (.k (len_ (.o 10 rfl rfl rfl) rwS (.g 12 rfl) (by rw [List.length_map])) (.k (gt_ (.o 10 rfl rfl rfl) (.g 13 rfl) .c (dT (by omega))) (.k (pickF .k (.g 10 rfl) (.g 14 rfl)) .n)))))))))))))))) [0] [15] rfl rfl ?_)
  refine Tr.cond 1 rfl (fun _=>?_) nofun
  refine Tr.rs [] (.k (cal .k Tryz.func7 rfl fn_known .n) (.k (asg .k (.g 0 rfl)) .n)) [] [1] rfl rfl ?_
  refine Tr.ret (end_tmp 0 rfl rfl)
 ·
  refine Tr.seq (Tr.rs [] (.k (faddr .k (.b 0 rfl) rfl fQP) (.k (ldc .k (.g 0 rfl) (.b 0 rfl) tyvP) (.k (len_ .k rwP (.g 1 rfl) (by rw [List.length_map])) (.k (gt_ .k (.g 2 rfl) .c (dF (by omega))) (.k (mv .k (.g 3 rfl)) (.k (faddr (.o 4 rfl rfl rfl) (.b 0 rfl) rfl fQL) (.k (ldc (.o 4 rfl rfl rfl) (.g 5 rfl) (.b 0 rfl) tyvS) (.k (len_ (.o 4 rfl rfl rfl) rwS (.g 6 rfl) (by rw [List.length_map])) (.k (gt_ (.o 4 rfl rfl rfl) (.g 7 rfl) .c (dF (by omega))) (.k (pickF .k (.g 4 rfl) (.g 8 rfl)) (.k (mv .k (.g 9 rfl)) (.k (faddr (.o 10 rfl rfl rfl) (.b 0 rfl) rfl fQI) (.k (ldc (.o 10 rfl rfl rfl) (.g 11 rfl) (.b 0 rfl) tyvS) (.k (len_ (.o 10 rfl rfl rfl) rwS (.g 12 rfl) (by rw [List.length_map])) (.k (gt_ (.o 10 rfl rfl rfl) (.g 13 rfl) .c (dF (by omega))) (.k (pickF .k (.g 10 rfl) (.g 14 rfl)) .n)))))))))))))))) [0] [15] rfl rfl ?_)
  refine Tr.cond 1 rfl nofun (fun _=>?_)
  refine Tr.skip (Nx.go (Tr.rs [] (.k (ld .k (.b 0 rfl) tyQ) (.k (cal .k Tryz.func21 rfl (fn_DoneA hP hL hI hr) (.k (.g 0 rfl) .n)) (.k (mv .k (.g 1 rfl)) (.k (exx .k (.g 2 rfl) rfl) (.k (exx .k (.g 2 rfl) rfl) (.k (ala .k zM) (.k (sta .k (.g 5 rfl) (.g 3 rfl) tyM) (.k (asg .k (.g 4 rfl)) .n)))))))) [] [6,7] rfl rfl ?_))
  refine Tr.seq (Tr.rs [] (.k (mv .k (.b 1 rfl)) (.k (not_ .k (.g 0 rfl)) .n)) [0] [1] rfl rfl ?_)
  refine Tr.cond 1 rfl (fun _=>?_) nofun
  refine Tr.rs [] (.k (cal .k Tryz.func7 rfl fn_known .n) (.k (asg .k (.g 0 rfl)) .n)) [] [1] rfl rfl ?_
  refine Tr.ret (end_tmp 0 rfl rfl)
 ·
  refine Tr.seq (Tr.rs [] (.k (faddr .k (.b 0 rfl) rfl fQP) (.k (ldc .k (.g 0 rfl) (.b 0 rfl) tyvP) (.k (len_ .k rwP (.g 1 rfl) (by rw [List.length_map])) (.k (gt_ .k (.g 2 rfl) .c (dF (by omega))) (.k (mv .k (.g 3 rfl)) (.k (faddr (.o 4 rfl rfl rfl) (.b 0 rfl) rfl fQL) (.k (ldc (.o 4 rfl rfl rfl) (.g 5 rfl) (.b 0 rfl) tyvS) (.k (len_ (.o 4 rfl rfl rfl) rwS (.g 6 rfl) (by rw [List.length_map])) (.k (gt_ (.o 4 rfl rfl rfl) (.g 7 rfl) .c (dF (by omega))) (.k (pickF .k (.g 4 rfl) (.g 8 rfl)) (.k (mv .k (.g 9 rfl)) (.k (faddr (.o 10 rfl rfl rfl) (.b 0 rfl) rfl fQI) (.k (ldc (.o 10 rfl rfl rfl) (.g 11 rfl) (.b 0 rfl) tyvS) (.k (len_ (.o 10 rfl rfl rfl) rwS (.g 12 rfl) (by rw [List.length_map])) (.k (gt_ (.o 10 rfl rfl rfl) (.g 13 rfl) .c (dF (by omega))) (.k (pickF .k (.g 10 rfl) (.g 14 rfl)) .n)))))))))))))))) [0] [15] rfl rfl ?_)
  refine Tr.cond 1 rfl nofun (fun _=>?_)
  refine Tr.skip (Nx.go (Tr.rs [] (.k (ld .k (.b 0 rfl) tyQ) (.k (cal .k Tryz.func21 rfl (fn_DoneB hP hL hI hr M) (.k (.g 0 rfl) .n)) (.k (mv .k (.g 1 rfl)) (.k (exx .k (.g 2 rfl) rfl) (.k (exx .k (.g 2 rfl) rfl) (.k (ala .k zM) (.k (sta .k (.g 5 rfl) (.g 3 rfl) tyM) (.k (asg .k (.g 4 rfl)) .n)))))))) [] [6,7] rfl rfl ?_))
  refine Tr.seq (Tr.rs [] (.k (mv .k (.b 1 rfl)) (.k (not_ .k (.g 0 rfl)) .n)) [0] [1] rfl rfl ?_)
  refine Tr.cond 1 rfl (fun _=>?_) nofun
  refine Tr.rs [] (.k (cal .k Tryz.func7 rfl fn_known .n) (.k (asg .k (.g 0 rfl)) .n)) [] [1] rfl rfl ?_
  refine Tr.ret (end_tmp 0 rfl rfl)
 ·
  refine Tr.seq (Tr.rs [] (.k (faddr .k (.b 0 rfl) rfl fQP) (.k (ldc .k (.g 0 rfl) (.b 0 rfl) tyvP) (.k (len_ .k rwP (.g 1 rfl) (by rw [List.length_map])) (.k (gt_ .k (.g 2 rfl) .c (dF (by omega))) (.k (mv .k (.g 3 rfl)) (.k (faddr (.o 4 rfl rfl rfl) (.b 0 rfl) rfl fQL) (.k (ldc (.o 4 rfl rfl rfl) (.g 5 rfl) (.b 0 rfl) tyvS) (.k (len_ (.o 4 rfl rfl rfl) rwS (.g 6 rfl) (by rw [List.length_map])) (.k (gt_ (.o 4 rfl rfl rfl) (.g 7 rfl) .c (dF (by omega))) (.k (pickF .k (.g 4 rfl) (.g 8 rfl)) (.k (mv .k (.g 9 rfl)) (.k (faddr (.o 10 rfl rfl rfl) (.b 0 rfl) rfl fQI) (.k (ldc (.o 10 rfl rfl rfl) (.g 11 rfl) (.b 0 rfl) tyvS) (.k (len_ (.o 10 rfl rfl rfl) rwS (.g 12 rfl) (by rw [List.length_map])) (.k (gt_ (.o 10 rfl rfl rfl) (.g 13 rfl) .c (dF (by omega))) (.k (pickF .k (.g 10 rfl) (.g 14 rfl)) .n)))))))))))))))) [0] [15] rfl rfl ?_)
  refine Tr.cond 1 rfl nofun (fun _=>?_)
  refine Tr.skip (Nx.go (Tr.rs [] (.k (ld .k (.b 0 rfl) tyQ) (.k (cal .k Tryz.func21 rfl (fn_DoneC hP hL hI hr M hd) (.k (.g 0 rfl) .n)) (.k (mv .k (.g 1 rfl)) (.k (exx .k (.g 2 rfl) rfl) (.k (exx .k (.g 2 rfl) rfl) (.k (ala .k zM) (.k (sta .k (.g 5 rfl) (.g 3 rfl) tyM) (.k (asg .k (.g 4 rfl)) .n)))))))) [] [6,7] rfl rfl ?_))
  refine Tr.seq (Tr.rs [] (.k (mv .k (.b 1 rfl)) (.k (not_ .k (.g 0 rfl)) .n)) [0] [1] rfl rfl ?_)
  refine Tr.cond 1 rfl (fun _=>?_) nofun
  refine Tr.rs [] (.k (cal .k Tryz.func7 rfl fn_known .n) (.k (asg .k (.g 0 rfl)) .n)) [] [1] rfl rfl ?_
  refine Tr.ret (end_tmp 0 rfl rfl)
 ·
  obtain ⟨hok,hin,hdi⟩:=right_ok hr
  obtain ⟨hM,hlen,hlaw⟩:=told_so hr M hd
  have hml:=mkT_len (P:=P) (L:=L) (I:=I) hP
  have hsl:=seg_len hL hI
  have hS2:inS P (segL (L++I)):=inS_segL hin
  have hP2:=hok.1
  have hw:=seg_wf hP hS2
  have hdone:=fn_DoneD hP hL hI hr M hd
  obtain ⟨l,hl⟩:∃ l,l=crdL P T2 (segL (L++I)):=⟨_,rfl⟩
  have hll:=crdL_len P T2 (segL (L++I))
  rw [← hl] at hlaw hll
  generalize (segL (L++I))=S at *
  refine Tr.seq (Tr.rs [] (.k (faddr .k (.b 0 rfl) rfl fQP) (.k (ldc .k (.g 0 rfl) (.b 0 rfl) tyvP) (.k (len_ .k rwP (.g 1 rfl) (by rw [List.length_map])) (.k (gt_ .k (.g 2 rfl) .c (dF (by omega))) (.k (mv .k (.g 3 rfl)) (.k (faddr (.o 4 rfl rfl rfl) (.b 0 rfl) rfl fQL) (.k (ldc (.o 4 rfl rfl rfl) (.g 5 rfl) (.b 0 rfl) tyvS) (.k (len_ (.o 4 rfl rfl rfl) rwS (.g 6 rfl) (by rw [List.length_map])) (.k (gt_ (.o 4 rfl rfl rfl) (.g 7 rfl) .c (dF (by omega))) (.k (pickF .k (.g 4 rfl) (.g 8 rfl)) (.k (mv .k (.g 9 rfl)) (.k (faddr (.o 10 rfl rfl rfl) (.b 0 rfl) rfl fQI) (.k (ldc (.o 10 rfl rfl rfl) (.g 11 rfl) (.b 0 rfl) tyvS) (.k (len_ (.o 10 rfl rfl rfl) rwS (.g 12 rfl) (by rw [List.length_map])) (.k (gt_ (.o 10 rfl rfl rfl) (.g 13 rfl) .c (dF (by omega))) (.k (pickF .k (.g 10 rfl) (.g 14 rfl)) .n)))))))))))))))) [0] [15] rfl rfl ?_)
  refine Tr.cond 1 rfl nofun (fun _=>?_)
  refine Tr.skip (Nx.go (Tr.rs [] (.k (ld .k (.b 0 rfl) tyQ) (.k (cal .k Tryz.func21 rfl hdone (.k (.g 0 rfl) .n)) (.k (mv .k (.g 1 rfl)) (.k (exx .k (.g 2 rfl) rfl) (.k (exx .k (.g 2 rfl) rfl) (.k (ala .k zM) (.k (sta .k (.g 5 rfl) (.g 3 rfl) tyM) (.k (asg .k (.g 4 rfl)) .n)))))))) [] [6,7] rfl rfl ?_))
  refine Tr.seq (Tr.rs [] (.k (mv .k (.b 1 rfl)) (.k (not_ .k (.g 0 rfl)) .n)) [0] [1] rfl rfl ?_)
  refine Tr.cond 1 rfl nofun (fun _=>?_)
  refine Tr.skip (Nx.go (Tr.rs [] (.k (ld .k (.b 0 rfl) tyM) (.k (cal .k Tryz.func9 rfl (show FnC _ _ _ (.tup [ivec l,iv 0]) from by have h:=fn_Crowded (P:=P) (T:=T2) (S:=S) (by omega) (by omega) (by omega) hw;rw [← hl,show mC P T2 S=0 from chk_ok hM] at h;exact h) (.k (.g 0 rfl) .n)) (.k (mv .k (.g 1 rfl)) (.k (exx .k (.g 2 rfl) rfl) (.k (exx .k (.g 2 rfl) rfl) (.k (asg .k (.g 3 rfl)) (.k (asg .k (.g 4 rfl)) .n))))))) [0] [5,6] rfl rfl ?_))
  refine Tr.seq (Tr.rs [] (.k (mv .k (.b 2 rfl)) (.k (ne_ .k (.g 0 rfl) .c (bne_eq_false_iff_eq.2 rfl)) .n)) [0,1] [1] rfl rfl ?_)
  refine Tr.cond 2 rfl nofun (fun _=>?_)
  refine Tr.skip (Nx.go (Tr.seq (Tr.rs [] (.k (asg .k .c) .n) [0,1] [0] rfl rfl ?_)))
  refine Tr.block (?_)
  refine Tr.loop (fun n_ F_=>∃ i:Nat,(i≤S.length)∧n_=S.length - i∧F_=[.b 3 (SP.mesh P T2 S) 26 3,.s 5 (ivec l),.s 7 (iv ((i:Nat):Int))]) (S.length - 0) (F0:=[.b 3 (SP.mesh P T2 S) 26 3,.s 5 (ivec l),.s 7 (iv ((0:Nat):Int))]) ⟨0,Nat.zero_le _,rfl,rfl⟩ (Sub.all (.cons 0 rfl (.cons 1 rfl (.cons 2 rfl .nil)))) (fun n_ F_ hI=>?_)
  obtain ⟨i,hinv,rfl,rfl⟩:=hI
  refine Tr.seq (Tr.rs [] (.k (mv .k (.b 2 rfl)) (.k (faddr .k (.b 0 rfl) rfl fMS) (.k (ldc .k (.g 1 rfl) (.b 0 rfl) tyvS) (.k (len_ .k rwS (.g 2 rfl) (by rw [List.length_map])) (.k (lt_ .k (.g 0 rfl) (.g 3 rfl) rfl) .n))))) [0,1,2] [4] rfl rfl ?_)
  refine Tr.cond 3 rfl (fun e47=>?_) (fun e47=>?_)
  ·
   have hi2:i < S.length:=by have:=of_decide_eq_true e47;omega
   refine Tr.skip (Nx.go (Tr.seq (Tr.block (Tr.rs [] (.k (asg .k .c) .n) [0,1,2] [0] rfl rfl ?_))))
   refine Tr.seq (Tr.rs [] (.k (asg .k .c) .n) [0,1,2,3] [0] rfl rfl ?_)
   refine Tr.block (?_)
   refine Tr.loop (fun n_ F_=>∃ k:Nat,∃ b:Bool,(k≤l.length∧b=anyI (l.take k) i)∧n_=l.length - k∧F_=[.b 3 (SP.mesh P T2 S) 26 3,.s 5 (ivec l),.s 7 (iv ((i:Nat):Int)),.s 8 (bv b),.s 9 (iv ((k:Nat):Int))]) (l.length - 0) (F0:=[.b 3 (SP.mesh P T2 S) 26 3,.s 5 (ivec l),.s 7 (iv ((i:Nat):Int)),.s 8 (bv false),.s 9 (iv ((0:Nat):Int))]) ⟨0,false,⟨Nat.zero_le _,rfl⟩,rfl,rfl⟩ (Sub.all (.cons 0 rfl (.cons 1 rfl (.cons 2 rfl (.cons 3 rfl (.cons 4 rfl .nil)))))) (fun n_ F_ hI=>?_)
   obtain ⟨k,b,hk,rfl,rfl⟩:=hI
   refine Tr.seq (Tr.rs [] (.k (mv .k (.b 4 rfl)) (.k (mv .k (.b 1 rfl)) (.k (len_ .k rwI (.g 1 rfl) (by rw [List.length_map])) (.k (lt_ .k (.g 0 rfl) (.g 2 rfl) rfl) .n)))) [0,1,2,3,4] [3] rfl rfl ?_)
   refine Tr.cond 5 rfl (fun e53=>?_) (fun e53=>?_)
   ·
    have hk2:k < l.length:=by have:=of_decide_eq_true e53;omega
    refine Tr.skip (Nx.go (Tr.seq (Tr.block (?_))))
    obtain ⟨x,p1⟩:∃ x,l[k]?=some x:=⟨_,List.getElem?_eq_getElem hk2⟩;cases b
    ·
     refine Tr.reg [(3,9)] (.k (mv .k (.b 3 rfl)) (.k (mv .k (.g 0 rfl)) (.k (mv (.o 1 rfl rfl rfl) (.b 1 rfl)) (.k (mv (.o 1 rfl rfl rfl) (.b 4 rfl)) (.k (idx_ (.o 1 rfl rfl rfl) rwI (.g 2 rfl) (.g 3 rfl) rfl (gm p1)) (.k (ldc_at (.o 1 rfl rfl rfl) (.g 4 rfl) tyI) (.k (mv (.o 1 rfl rfl rfl) (.b 2 rfl)) (.k (eq_ (.o 1 rfl rfl rfl) (.g 5 rfl) (.g 6 rfl) rfl) (.k (pickF .k (.g 1 rfl) (.g 7 rfl)) (.k (asg .k (.g 8 rfl)) .n)))))))))) [0,1,2,4] [9] rfl rfl (Nx.bkN (Nx.go (Tr.reg [(3,2)] (.k (mv .k (.b 3 rfl)) (.k (add_ .k (.g 0 rfl) .c (wr1 (by omega))) (.k (asg .k (.g 1 rfl)) .n))) [0,1,2,4] [2] rfl rfl (Nx.again (l.length - (k+1)) (by omega) [.b 3 (SP.mesh P T2 S) 26 3,.s 5 (ivec l),.s 7 (iv ((i:Nat):Int)),.s 8 (bv (x==(i:Int))),.s 9 (iv (((k+1):Nat):Int))] ⟨(k+1),(x==(i:Int)),⟨by omega,by rw [any_succ p1,← hk.2,Bool.false_or]⟩,rfl,rfl⟩ (Sub.all (.cons 0 rfl (.cons 1 rfl (.cons 2 rfl (.cons 3 rfl (.cons 4 rfl .nil))))))))))
    ·
     refine Tr.reg [(3,9)] (.k (mv .k (.b 3 rfl)) (.k (mv .k (.g 0 rfl)) (.k (skp (.o 1 rfl rfl rfl)) (.k (skp (.o 1 rfl rfl rfl)) (.k (skp (.o 1 rfl rfl rfl)) (.k (skp (.o 1 rfl rfl rfl)) (.k (skp (.o 1 rfl rfl rfl)) (.k (skp (.o 1 rfl rfl rfl)) (.k (pickT .k (.g 1 rfl) .c) (.k (asg .k (.g 8 rfl)) .n)))))))))) [0,1,2,4] [9] rfl rfl (Nx.bkN (Nx.go (Tr.reg [(3,2)] (.k (mv .k (.b 3 rfl)) (.k (add_ .k (.g 0 rfl) .c (wr1 (by omega))) (.k (asg .k (.g 1 rfl)) .n))) [0,1,2,4] [2] rfl rfl (Nx.again (l.length - (k+1)) (by omega) [.b 3 (SP.mesh P T2 S) 26 3,.s 5 (ivec l),.s 7 (iv ((i:Nat):Int)),.s 8 (bv true),.s 9 (iv (((k+1):Nat):Int))] ⟨(k+1),true,⟨by omega,by rw [any_succ p1,← hk.2,Bool.true_or]⟩,rfl,rfl⟩ (Sub.all (.cons 0 rfl (.cons 1 rfl (.cons 2 rfl (.cons 3 rfl (.cons 4 rfl .nil))))))))))
   ·
    obtain rfl:k=l.length:=by have:=of_decide_eq_false e53;omega
    refine Tr.exit (Nx.thX (Nx.thX (Nx.bkX (Nx.go (?_)))))
    have hbt:b=anyI l i:=by rw [List.take_length] at hk;exact hk.2
    cases b
    ·
     refine Tr.rs [] (.k (asg .k .c) .n) [0,1,2,3] [0] rfl rfl ?_
     refine Tr.block (?_)
     refine Tr.loop (fun n_ F_=>∃ q:Nat,(q≤P.length)∧n_=P.length - q∧F_=[.b 3 (SP.mesh P T2 S) 26 3,.s 5 (ivec l),.s 7 (iv ((i:Nat):Int)),.s 8 (bv false),.s 10 (iv ((q:Nat):Int))]) (P.length - 0) (F0:=[.b 3 (SP.mesh P T2 S) 26 3,.s 5 (ivec l),.s 7 (iv ((i:Nat):Int)),.s 8 (bv false),.s 10 (iv ((0:Nat):Int))]) ⟨0,Nat.zero_le _,rfl,rfl⟩ (Sub.all (.cons 0 rfl (.cons 1 rfl (.cons 2 rfl (.cons 3 rfl (.cons 4 rfl .nil)))))) (fun n_ F_ hI=>?_)
     obtain ⟨q,hinv,rfl,rfl⟩:=hI
     by_cases d1:q < P.length
     ·
      refine Tr.seq (Tr.rs [] (.k (mv .k (.b 4 rfl)) (.k (faddr .k (.b 0 rfl) rfl fMP) (.k (ldc .k (.g 1 rfl) (.b 0 rfl) tyvP) (.k (len_ .k rwP (.g 2 rfl) (by rw [List.length_map])) (.k (lt_ .k (.g 0 rfl) (.g 3 rfl) (dT (by omega))) (.k (mv .k (.g 4 rfl)) (.k (mv (.o 5 rfl rfl rfl) (.b 3 rfl)) (.k (not_ (.o 5 rfl rfl rfl) (.g 6 rfl)) (.k (pickT .k (.g 5 rfl) (.g 7 rfl)) .n))))))))) [0,1,2,3,4] [8] rfl rfl ?_)
      refine Tr.cond 5 rfl (fun _=>?_) nofun
      refine Tr.skip (Nx.go (Tr.seq (Tr.block (?_))))
      obtain ⟨s,p2⟩:∃ s,S[i]?=some s:=⟨_,List.getElem?_eq_getElem hi2⟩;obtain ⟨hA,hB⟩:=hS2 s (List.mem_of_getElem? p2);have hQ:InP P ((q:Nat):Int):=inP (by omega);obtain ⟨ua,pa,ea,ha⟩:=id hA;obtain ⟨ub,pb,eb,hb⟩:=id hB;obtain ⟨pq,hq⟩:∃ p,P[q]?=some p:=⟨_,List.getElem?_eq_getElem d1⟩;have hdp:dP P s.1 s.2 ((q:Nat):Int)=disB pa.1 pa.2 pb.1 pb.2 pq.1 pq.2:=(by unfold dP;rw [at_of ea ha,at_of eb hb,at_of rfl hq]);rcases three_ways (hlaw i s q p2 d1 hbt.symm) with c1|⟨c1,c2⟩|⟨c1,c2,c3⟩
      ·
       refine Tr.ds hmx [] (.k (faddr .k (.b 0 rfl) rfl fMP) (.k (ldc .k (.g 0 rfl) (.b 0 rfl) tyvP) (.k (faddr .k (.b 0 rfl) rfl fMS) (.k (ldc .k (.g 2 rfl) (.b 0 rfl) tyvS) (.k (mv .k (.b 2 rfl)) (.k (idx_ .k rwS (.g 3 rfl) (.g 4 rfl) rfl (gm p2)) (.k (fat .k (.g 5 rfl) aSA rfl) (.k (ldc_at .k (.g 6 rfl) tyI) (.k (idx_ .k rwP (.g 1 rfl) (.g 7 rfl) ea (gm ha)) (.k (ld_at .k (.g 8 rfl) tyP rfl (show _=ptv _ _ from rfl)) (.k (faddr .k (.b 0 rfl) rfl fMP) (.k (ldc .k (.g 10 rfl) (.b 0 rfl) tyvP) (.k (faddr .k (.b 0 rfl) rfl fMS) (.k (ldc .k (.g 12 rfl) (.b 0 rfl) tyvS) (.k (mv .k (.b 2 rfl)) (.k (idx_ .k rwS (.g 13 rfl) (.g 14 rfl) rfl (gm p2)) (.k (fat .k (.g 15 rfl) aSB rfl) (.k (ldc_at .k (.g 16 rfl) tyI) (.k (idx_ .k rwP (.g 11 rfl) (.g 17 rfl) eb (gm hb)) (.k (ld_at .k (.g 18 rfl) tyP rfl (show _=ptv _ _ from rfl)) (.k (faddr .k (.b 0 rfl) rfl fMP) (.k (ldc .k (.g 20 rfl) (.b 0 rfl) tyvP) (.k (mv .k (.b 4 rfl)) (.k (idx_ .k rwP (.g 21 rfl) (.g 22 rfl) rfl (gm hq)) (.k (ld_at .k (.g 23 rfl) tyP rfl (show _=ptv _ _ from rfl)) (.k (cal .k Tryz.func22 rfl (show FnC _ _ _ (bv false) from by have h:=fn_rInDisc (ax:=pa.1) (ay:=pa.2) (bx:=pb.1) (b_y:=pb.2) (px:=pq.1) (py:=pq.2);rw [show disB pa.1 pa.2 pb.1 pb.2 pq.1 pq.2=false by rw [← hdp];exact (fls c1)] at h;exact h) (.k (.g 9 rfl) (.k (.g 19 rfl) (.k (.g 24 rfl) .n)))) (.k (mv .k (.g 25 rfl)) (.k (skp (.o 26 rfl rfl rfl)) (.k (skp (.o 26 rfl rfl rfl)) (.k (skp (.o 26 rfl rfl rfl)) (.k (skp (.o 26 rfl rfl rfl)) (.k (skp (.o 26 rfl rfl rfl)) (.k (skp (.o 26 rfl rfl rfl)) (.k (skp (.o 26 rfl rfl rfl)) (.k (skp (.o 26 rfl rfl rfl)) (.k (pickF .k (.g 26 rfl) .c) (.k (mv .k (.g 35 rfl)) (.k (skp (.o 36 rfl rfl rfl)) (.k (skp (.o 36 rfl rfl rfl)) (.k (skp (.o 36 rfl rfl rfl)) (.k (skp (.o 36 rfl rfl rfl)) (.k (skp (.o 36 rfl rfl rfl)) (.k (skp (.o 36 rfl rfl rfl)) (.k (skp (.o 36 rfl rfl rfl)) (.k (skp (.o 36 rfl rfl rfl)) (.k (pickF .k (.g 36 rfl) .c) .n)))))))))))))))))))))))))))))))))))))))))))))) [0,1,2,3,4] [45] rfl rfl ?_
       refine Tr.cond 5 rfl nofun (fun _=>?_)
       refine Tr.skip (Nx.bkN (Nx.go (Tr.reg [(4,2)] (.k (mv .k (.b 4 rfl)) (.k (add_ .k (.g 0 rfl) .c (wr1 (by omega))) (.k (asg .k (.g 1 rfl)) .n))) [0,1,2,3] [2] rfl rfl (Nx.again (P.length - (q+1)) (by omega) [.b 3 (SP.mesh P T2 S) 26 3,.s 5 (ivec l),.s 7 (iv ((i:Nat):Int)),.s 8 (bv false),.s 10 (iv (((q+1):Nat):Int))] ⟨(q+1),(by omega),rfl,rfl⟩ (Sub.all (.cons 0 rfl (.cons 1 rfl (.cons 2 rfl (.cons 3 rfl (.cons 4 rfl .nil))))))))))
      ·
       refine Tr.ds hmx [] (.k (faddr .k (.b 0 rfl) rfl fMP) (.k (ldc .k (.g 0 rfl) (.b 0 rfl) tyvP) (.k (faddr .k (.b 0 rfl) rfl fMS) (.k (ldc .k (.g 2 rfl) (.b 0 rfl) tyvS) (.k (mv .k (.b 2 rfl)) (.k (idx_ .k rwS (.g 3 rfl) (.g 4 rfl) rfl (gm p2)) (.k (fat .k (.g 5 rfl) aSA rfl) (.k (ldc_at .k (.g 6 rfl) tyI) (.k (idx_ .k rwP (.g 1 rfl) (.g 7 rfl) ea (gm ha)) (.k (ld_at .k (.g 8 rfl) tyP rfl (show _=ptv _ _ from rfl)) (.k (faddr .k (.b 0 rfl) rfl fMP) (.k (ldc .k (.g 10 rfl) (.b 0 rfl) tyvP) (.k (faddr .k (.b 0 rfl) rfl fMS) (.k (ldc .k (.g 12 rfl) (.b 0 rfl) tyvS) (.k (mv .k (.b 2 rfl)) (.k (idx_ .k rwS (.g 13 rfl) (.g 14 rfl) rfl (gm p2)) (.k (fat .k (.g 15 rfl) aSB rfl) (.k (ldc_at .k (.g 16 rfl) tyI) (.k (idx_ .k rwP (.g 11 rfl) (.g 17 rfl) eb (gm hb)) (.k (ld_at .k (.g 18 rfl) tyP rfl (show _=ptv _ _ from rfl)) (.k (faddr .k (.b 0 rfl) rfl fMP) (.k (ldc .k (.g 20 rfl) (.b 0 rfl) tyvP) (.k (mv .k (.b 4 rfl)) (.k (idx_ .k rwP (.g 21 rfl) (.g 22 rfl) rfl (gm hq)) (.k (ld_at .k (.g 23 rfl) tyP rfl (show _=ptv _ _ from rfl)) (.k (cal .k Tryz.func22 rfl (show FnC _ _ _ (bv true) from by have h:=fn_rInDisc (ax:=pa.1) (ay:=pa.2) (bx:=pb.1) (b_y:=pb.2) (px:=pq.1) (py:=pq.2);rw [show disB pa.1 pa.2 pb.1 pb.2 pq.1 pq.2=true by rw [← hdp];exact c1] at h;exact h) (.k (.g 9 rfl) (.k (.g 19 rfl) (.k (.g 24 rfl) .n)))) (.k (mv .k (.g 25 rfl)) (.k (ld (.o 26 rfl rfl rfl) (.b 0 rfl) tyM) (.k (faddr (.o 26 rfl rfl rfl) (.b 0 rfl) rfl fMS) (.k (ldc (.o 26 rfl rfl rfl) (.g 28 rfl) (.b 0 rfl) tyvS) (.k (mv (.o 26 rfl rfl rfl) (.b 2 rfl)) (.k (idx_ (.o 26 rfl rfl rfl) rwS (.g 29 rfl) (.g 30 rfl) rfl (gm p2)) (.k (ld_at (.o 26 rfl rfl rfl) (.g 31 rfl) tyS rfl (show _=sgv (_,_) from rfl)) (.k (mv (.o 26 rfl rfl rfl) (.b 4 rfl)) (.k (cal (.o 26 rfl rfl rfl) Tryz.func23 rfl (show FnC _ _ _ (bv false) from (decide_eq_false c2) ▸ fn_inner (by omega) hA hB hQ) (.k (.g 27 rfl) (.k (.g 32 rfl) (.k (.g 33 rfl) .n)))) (.k (pickT .k (.g 26 rfl) (.g 34 rfl)) (.k (mv .k (.g 35 rfl)) (.k (skp (.o 36 rfl rfl rfl)) (.k (skp (.o 36 rfl rfl rfl)) (.k (skp (.o 36 rfl rfl rfl)) (.k (skp (.o 36 rfl rfl rfl)) (.k (skp (.o 36 rfl rfl rfl)) (.k (skp (.o 36 rfl rfl rfl)) (.k (skp (.o 36 rfl rfl rfl)) (.k (skp (.o 36 rfl rfl rfl)) (.k (pickF .k (.g 36 rfl) .c) .n)))))))))))))))))))))))))))))))))))))))))))))) [0,1,2,3,4] [45] rfl rfl ?_
       refine Tr.cond 5 rfl nofun (fun _=>?_)
       refine Tr.skip (Nx.bkN (Nx.go (Tr.reg [(4,2)] (.k (mv .k (.b 4 rfl)) (.k (add_ .k (.g 0 rfl) .c (wr1 (by omega))) (.k (asg .k (.g 1 rfl)) .n))) [0,1,2,3] [2] rfl rfl (Nx.again (P.length - (q+1)) (by omega) [.b 3 (SP.mesh P T2 S) 26 3,.s 5 (ivec l),.s 7 (iv ((i:Nat):Int)),.s 8 (bv false),.s 10 (iv (((q+1):Nat):Int))] ⟨(q+1),(by omega),rfl,rfl⟩ (Sub.all (.cons 0 rfl (.cons 1 rfl (.cons 2 rfl (.cons 3 rfl (.cons 4 rfl .nil))))))))))
      ·
       refine Tr.ds hmx [] (.k (faddr .k (.b 0 rfl) rfl fMP) (.k (ldc .k (.g 0 rfl) (.b 0 rfl) tyvP) (.k (faddr .k (.b 0 rfl) rfl fMS) (.k (ldc .k (.g 2 rfl) (.b 0 rfl) tyvS) (.k (mv .k (.b 2 rfl)) (.k (idx_ .k rwS (.g 3 rfl) (.g 4 rfl) rfl (gm p2)) (.k (fat .k (.g 5 rfl) aSA rfl) (.k (ldc_at .k (.g 6 rfl) tyI) (.k (idx_ .k rwP (.g 1 rfl) (.g 7 rfl) ea (gm ha)) (.k (ld_at .k (.g 8 rfl) tyP rfl (show _=ptv _ _ from rfl)) (.k (faddr .k (.b 0 rfl) rfl fMP) (.k (ldc .k (.g 10 rfl) (.b 0 rfl) tyvP) (.k (faddr .k (.b 0 rfl) rfl fMS) (.k (ldc .k (.g 12 rfl) (.b 0 rfl) tyvS) (.k (mv .k (.b 2 rfl)) (.k (idx_ .k rwS (.g 13 rfl) (.g 14 rfl) rfl (gm p2)) (.k (fat .k (.g 15 rfl) aSB rfl) (.k (ldc_at .k (.g 16 rfl) tyI) (.k (idx_ .k rwP (.g 11 rfl) (.g 17 rfl) eb (gm hb)) (.k (ld_at .k (.g 18 rfl) tyP rfl (show _=ptv _ _ from rfl)) (.k (faddr .k (.b 0 rfl) rfl fMP) (.k (ldc .k (.g 20 rfl) (.b 0 rfl) tyvP) (.k (mv .k (.b 4 rfl)) (.k (idx_ .k rwP (.g 21 rfl) (.g 22 rfl) rfl (gm hq)) (.k (ld_at .k (.g 23 rfl) tyP rfl (show _=ptv _ _ from rfl)) (.k (cal .k Tryz.func22 rfl (show FnC _ _ _ (bv true) from by have h:=fn_rInDisc (ax:=pa.1) (ay:=pa.2) (bx:=pb.1) (b_y:=pb.2) (px:=pq.1) (py:=pq.2);rw [show disB pa.1 pa.2 pb.1 pb.2 pq.1 pq.2=true by rw [← hdp];exact c1] at h;exact h) (.k (.g 9 rfl) (.k (.g 19 rfl) (.k (.g 24 rfl) .n)))) (.k (mv .k (.g 25 rfl)) (.k (ld (.o 26 rfl rfl rfl) (.b 0 rfl) tyM) (.k (faddr (.o 26 rfl rfl rfl) (.b 0 rfl) rfl fMS) (.k (ldc (.o 26 rfl rfl rfl) (.g 28 rfl) (.b 0 rfl) tyvS) (.k (mv (.o 26 rfl rfl rfl) (.b 2 rfl)) (.k (idx_ (.o 26 rfl rfl rfl) rwS (.g 29 rfl) (.g 30 rfl) rfl (gm p2)) (.k (ld_at (.o 26 rfl rfl rfl) (.g 31 rfl) tyS rfl (show _=sgv (_,_) from rfl)) (.k (mv (.o 26 rfl rfl rfl) (.b 4 rfl)) (.k (cal (.o 26 rfl rfl rfl) Tryz.func23 rfl (show FnC _ _ _ (bv true) from (decide_eq_true c2) ▸ fn_inner (by omega) hA hB hQ) (.k (.g 27 rfl) (.k (.g 32 rfl) (.k (.g 33 rfl) .n)))) (.k (pickT .k (.g 26 rfl) (.g 34 rfl)) (.k (mv .k (.g 35 rfl)) (.k (ld (.o 36 rfl rfl rfl) (.b 0 rfl) tyM) (.k (faddr (.o 36 rfl rfl rfl) (.b 0 rfl) rfl fMS) (.k (ldc (.o 36 rfl rfl rfl) (.g 38 rfl) (.b 0 rfl) tyvS) (.k (mv (.o 36 rfl rfl rfl) (.b 2 rfl)) (.k (idx_ (.o 36 rfl rfl rfl) rwS (.g 39 rfl) (.g 40 rfl) rfl (gm p2)) (.k (ld_at (.o 36 rfl rfl rfl) (.g 41 rfl) tyS rfl (show _=sgv (_,_) from rfl)) (.k (mv (.o 36 rfl rfl rfl) (.b 4 rfl)) (.k (cal (.o 36 rfl rfl rfl) Tryz.func24 rfl (show FnC _ _ _ (bv false) from (decide_eq_false c3) ▸ fn_sees hP2 (by omega) hS2 hA hB hQ) (.k (.g 37 rfl) (.k (.g 42 rfl) (.k (.g 43 rfl) .n)))) (.k (pickT .k (.g 36 rfl) (.g 44 rfl)) .n)))))))))))))))))))))))))))))))))))))))))))))) [0,1,2,3,4] [45] rfl rfl ?_
       refine Tr.cond 5 rfl nofun (fun _=>?_)
       refine Tr.skip (Nx.bkN (Nx.go (Tr.reg [(4,2)] (.k (mv .k (.b 4 rfl)) (.k (add_ .k (.g 0 rfl) .c (wr1 (by omega))) (.k (asg .k (.g 1 rfl)) .n))) [0,1,2,3] [2] rfl rfl (Nx.again (P.length - (q+1)) (by omega) [.b 3 (SP.mesh P T2 S) 26 3,.s 5 (ivec l),.s 7 (iv ((i:Nat):Int)),.s 8 (bv false),.s 10 (iv (((q+1):Nat):Int))] ⟨(q+1),(by omega),rfl,rfl⟩ (Sub.all (.cons 0 rfl (.cons 1 rfl (.cons 2 rfl (.cons 3 rfl (.cons 4 rfl .nil))))))))))
     ·
      refine Tr.seq (Tr.rs [] (.k (mv .k (.b 4 rfl)) (.k (faddr .k (.b 0 rfl) rfl fMP) (.k (ldc .k (.g 1 rfl) (.b 0 rfl) tyvP) (.k (len_ .k rwP (.g 2 rfl) (by rw [List.length_map])) (.k (lt_ .k (.g 0 rfl) (.g 3 rfl) (dF (by omega))) (.k (mv .k (.g 4 rfl)) (.k (skp (.o 5 rfl rfl rfl)) (.k (skp (.o 5 rfl rfl rfl)) (.k (pickF .k (.g 5 rfl) .c) .n))))))))) [0,1,2,3,4] [8] rfl rfl ?_)
      refine Tr.cond 5 rfl nofun (fun _=>?_)
      refine Tr.exit (Nx.thX (Nx.thX (Nx.bkX (Nx.bkN (Nx.go (Tr.reg [(2,2)] (.k (mv .k (.b 2 rfl)) (.k (add_ .k (.g 0 rfl) .c (wr1 (by omega))) (.k (asg .k (.g 1 rfl)) .n))) [0,1] [2] rfl rfl (Nx.again (S.length - (i+1)) (by omega) [.b 3 (SP.mesh P T2 S) 26 3,.s 5 (ivec l),.s 7 (iv (((i+1):Nat):Int))] ⟨(i+1),(by omega),rfl,rfl⟩ (Sub.all (.cons 0 rfl (.cons 1 rfl (.cons 2 rfl .nil)))))))))))
    ·
     refine Tr.rs [] (.k (asg .k .c) .n) [0,1,2,3] [0] rfl rfl ?_
     refine Tr.block (?_)
     refine Tr.loop (fun n_ F_=>∃ q:Nat,(q≤P.length)∧n_=P.length - q∧F_=[.b 3 (SP.mesh P T2 S) 26 3,.s 5 (ivec l),.s 7 (iv ((i:Nat):Int)),.s 8 (bv true),.s 10 (iv ((q:Nat):Int))]) (P.length - 0) (F0:=[.b 3 (SP.mesh P T2 S) 26 3,.s 5 (ivec l),.s 7 (iv ((i:Nat):Int)),.s 8 (bv true),.s 10 (iv ((0:Nat):Int))]) ⟨0,Nat.zero_le _,rfl,rfl⟩ (Sub.all (.cons 0 rfl (.cons 1 rfl (.cons 2 rfl (.cons 3 rfl (.cons 4 rfl .nil)))))) (fun n_ F_ hI=>?_)
     obtain ⟨q,hinv,rfl,rfl⟩:=hI
     by_cases d1:q < P.length
     ·
      refine Tr.seq (Tr.rs [] (.k (mv .k (.b 4 rfl)) (.k (faddr .k (.b 0 rfl) rfl fMP) (.k (ldc .k (.g 1 rfl) (.b 0 rfl) tyvP) (.k (len_ .k rwP (.g 2 rfl) (by rw [List.length_map])) (.k (lt_ .k (.g 0 rfl) (.g 3 rfl) (dT (by omega))) (.k (mv .k (.g 4 rfl)) (.k (mv (.o 5 rfl rfl rfl) (.b 3 rfl)) (.k (not_ (.o 5 rfl rfl rfl) (.g 6 rfl)) (.k (pickT .k (.g 5 rfl) (.g 7 rfl)) .n))))))))) [0,1,2,3,4] [8] rfl rfl ?_)
      refine Tr.cond 5 rfl nofun (fun _=>?_)
      refine Tr.exit (Nx.thX (Nx.thX (Nx.bkX (Nx.bkN (Nx.go (Tr.reg [(2,2)] (.k (mv .k (.b 2 rfl)) (.k (add_ .k (.g 0 rfl) .c (wr1 (by omega))) (.k (asg .k (.g 1 rfl)) .n))) [0,1] [2] rfl rfl (Nx.again (S.length - (i+1)) (by omega) [.b 3 (SP.mesh P T2 S) 26 3,.s 5 (ivec l),.s 7 (iv (((i+1):Nat):Int))] ⟨(i+1),(by omega),rfl,rfl⟩ (Sub.all (.cons 0 rfl (.cons 1 rfl (.cons 2 rfl .nil)))))))))))
     ·
      refine Tr.seq (Tr.rs [] (.k (mv .k (.b 4 rfl)) (.k (faddr .k (.b 0 rfl) rfl fMP) (.k (ldc .k (.g 1 rfl) (.b 0 rfl) tyvP) (.k (len_ .k rwP (.g 2 rfl) (by rw [List.length_map])) (.k (lt_ .k (.g 0 rfl) (.g 3 rfl) (dF (by omega))) (.k (mv .k (.g 4 rfl)) (.k (skp (.o 5 rfl rfl rfl)) (.k (skp (.o 5 rfl rfl rfl)) (.k (pickF .k (.g 5 rfl) .c) .n))))))))) [0,1,2,3,4] [8] rfl rfl ?_)
      refine Tr.cond 5 rfl nofun (fun _=>?_)
      refine Tr.exit (Nx.thX (Nx.thX (Nx.bkX (Nx.bkN (Nx.go (Tr.reg [(2,2)] (.k (mv .k (.b 2 rfl)) (.k (add_ .k (.g 0 rfl) .c (wr1 (by omega))) (.k (asg .k (.g 1 rfl)) .n))) [0,1] [2] rfl rfl (Nx.again (S.length - (i+1)) (by omega) [.b 3 (SP.mesh P T2 S) 26 3,.s 5 (ivec l),.s 7 (iv (((i+1):Nat):Int))] ⟨(i+1),(by omega),rfl,rfl⟩ (Sub.all (.cons 0 rfl (.cons 1 rfl (.cons 2 rfl .nil)))))))))))
  ·
   obtain rfl:i=S.length:=by have:=of_decide_eq_false e47;omega
   refine Tr.exit (Nx.thX (Nx.thX (Nx.bkX (Nx.go (Tr.rs [] (.k (cal .k Tryz.func7 rfl fn_known .n) (.k (asg .k (.g 0 rfl)) .n)) [] [1] rfl rfl ?_)))))
   refine Tr.ret (end_tmp 0 rfl rfl)
theorem defectsSight_any (P L I:List (Int × Int)) (v:Value) (W:World) (h:(SP.poly P L I).H (fun _=>True) v W):Calls Tryz.prog 4 #[v] W fun e w'=>e = .returned (.bool true)∧Below W.heap.size W w' :=
  FnC.go (vs:=[v]) lawSight_any W ⟨h,trivial⟩
end Go.Proofs.YtkgagdjogedoiaaGreat
