/- The document's numbers, walked. -/
import Derived.Test.YtkgagdjogedoiaaGreatNb
set_option linter.unusedVariables false
set_option linter.unusedSimpArgs false
set_option maxRecDepth 100000
set_option maxHeartbeats 8000000
namespace Go.Proofs.YtkgagdjogedoiaaGreat
open Go Go.RowKit Go.Proofs.YtkgagdjogedoiaaGreat.Fx Go.Proofs.YtkgagdjogedoiaaGreatW.PrintWords
theorem at_dig {l:List Int} {k:Nat} (h:k < l.length):(l.map fun z=>[ic z])[k]?=some [ic (l.getD k 0)]:=by
  rw [List.getElem?_map,List.getD_eq_getElem?_getD,List.getElem?_eq_getElem h]
  rfl
theorem fn_digit {l:List Int} {i:Nat}:FnC Tryz.prog 83 [ivec l,iv (i:Int)] (iv (l.getD i 0)):=by
 refine FnC.of (N:=13) Tryz.func83 rfl rfl (Nat.le_of_ble_eq_true rfl) (fun w0 ok0=>?_)
 refine Tr.rs [] (.k (asg .k .c) .n) [0,1] [] rfl rfl ?_
 by_cases h:i < l.length
 ·
  refine Tr.seq (Tr.rs [] (.k (mv .k (.b 1 rfl)) (.k (mv .k (.b 0 rfl)) (.k (len_ .k rwI (.g 1 rfl) (by rw [List.length_map])) (.k (lt_ .k (.g 0 rfl) (.g 2 rfl) (dT (by omega))) .n)))) [0,1] [3] rfl rfl ?_)
  refine Tr.cond 2 rfl (fun _=>?_) nofun
  refine Tr.rs [] (.k (mv .k (.b 0 rfl)) (.k (mv .k (.b 1 rfl)) (.k (idx_ .k rwI (.g 0 rfl) (.g 1 rfl) rfl (at_dig h)) (.k (ldc_at .k (.g 2 rfl) tyI) (.k (asg .k (.g 3 rfl)) .n))))) [] [4] rfl rfl ?_
  refine Tr.ret (end_tmp 0 rfl rfl)
 ·
  rw [getD_none (l:=l) (i:=i) (by omega)]
  refine Tr.seq (Tr.rs [] (.k (mv .k (.b 1 rfl)) (.k (mv .k (.b 0 rfl)) (.k (len_ .k rwI (.g 1 rfl) (by rw [List.length_map])) (.k (lt_ .k (.g 0 rfl) (.g 2 rfl) (dF (by omega))) .n)))) [0,1] [3] rfl rfl ?_)
  refine Tr.cond 2 rfl nofun (fun _=>?_)
  refine Tr.skip (Nx.go (Tr.rs [] (.k (asg .k .c) .n) [] [0] rfl rfl ?_))
  refine Tr.ret (end_tmp 0 rfl rfl)
theorem sliceT {R:Rg} {i:Nat} {x:Operand} {l:List Int} {n:Nat} (h:Vl R i x (.vec 1 ((l.map fun z=>[ic z]).take n))):Vl R i x (ivec (l.take n)):=by rw [← List.map_take] at h;exact h
theorem fn_trim {b:Bool} {l:List Int} (hD:Dig l) (hl:l.length≤100000000):FnC Tryz.prog 84 [bv b,ivec l] (.num l.length (if b then -val l else val l)):=by
 refine FnC.of (N:=29) Tryz.func84 rfl rfl (Nat.le_of_ble_eq_true rfl) (fun w0 ok0=>?_)
 refine Tr.rs [] (.k (alc .k zN) .n) [0,1] [0] rfl rfl ?_
 refine Tr.rs [] (.k (mv .k (.b 1 rfl)) (.k (len_ .k rwI (.g 0 rfl) (by rw [List.length_map])) (.k (asg .k (.g 1 rfl)) .n))) [0,1,2] [2] rfl rfl ?_
 refine Tr.seq (Tr.block (?_))
 refine Tr.loop (fun n_ F_=>∃ n:Nat,(n≤l.length∧∀ i,n≤i→l.getD i 0=0)∧n_=0+n∧F_=[.s 0 (bv b),.s 1 (ivec l),.b 4 (.is nv0) 71 2,.s 5 (iv ((n:Nat):Int))]) (0+l.length) (F0:=[.s 0 (bv b),.s 1 (ivec l),.b 4 (.is nv0) 71 2,.s 5 (iv ((l.length:Nat):Int))]) ⟨l.length,⟨Nat.le_refl _,fun i hi=>getD_none hi⟩,rfl,rfl⟩ (Sub.all (.cons 0 rfl (.cons 1 rfl (.cons 2 rfl (.cons 3 rfl .nil))))) (fun n_ F_ hI=>?_)
 obtain ⟨n,hinv,rfl,rfl⟩:=hI
 rcases (show ¬ 0 < n∨(0 < n∧l.getD (n - 1) 0=0)∨(0 < n∧l.getD (n - 1) 0≠0) by omega) with h1|⟨h1,h2⟩|⟨h1,h2⟩
 ·
  have hN:=numP_cut (b:=b) hinv.1 hD hinv.2 (.inl (by omega))
  refine Tr.seq (Tr.rs [] (.k (mv .k (.b 3 rfl)) (.k (gt_ .k (.g 0 rfl) .c (dF (by omega))) (.k (mv .k (.g 1 rfl)) (.k (skp (.o 2 rfl rfl rfl)) (.k (skp (.o 2 rfl rfl rfl)) (.k (skp (.o 2 rfl rfl rfl)) (.k (skp (.o 2 rfl rfl rfl)) (.k (skp (.o 2 rfl rfl rfl)) (.k (skp (.o 2 rfl rfl rfl)) (.k (pickF .k (.g 2 rfl) .c) .n)))))))))) [0,1,2,3] [9] rfl rfl ?_)
  refine Tr.cond 4 rfl nofun (fun _=>?_)
  refine Tr.exit (Nx.thX (Nx.thX (Nx.bkX (Nx.go (?_)))))
  cases b
  ·
   refine Tr.rs [(2,9)] (.k (mv .k (.b 0 rfl)) (.k (mv .k (.g 0 rfl)) (.k (skp (.o 1 rfl rfl rfl)) (.k (skp (.o 1 rfl rfl rfl)) (.k (pickF .k (.g 1 rfl) .c) (.k (mv .k (.b 1 rfl)) (.k (mv .k (.b 3 rfl)) (.k (slcH .k rwI (.g 5 rfl) (.g 6 rfl) rfl (by rw [List.length_map];exact hinv.1)) (.k (bldN .k (.g 4 rfl) (sliceT (.g 7 rfl)) (by simpa using hN)) (.k (sto .k (.b 2 rfl) (.g 8 rfl) tyN) .n)))))))))) [] [9] rfl rfl ?_
   refine Tr.ret (end_cell 0 rfl rfl tyN)
  ·
   refine Tr.rs [(2,9)] (.k (mv .k (.b 0 rfl)) (.k (mv .k (.g 0 rfl)) (.k (mv (.o 1 rfl rfl rfl) (.b 3 rfl)) (.k (gt_ (.o 1 rfl rfl rfl) (.g 2 rfl) .c rfl) (.k (pickT .k (.g 1 rfl) (.g 3 rfl)) (.k (mv .k (.b 1 rfl)) (.k (mv .k (.b 3 rfl)) (.k (slcH .k rwI (.g 5 rfl) (.g 6 rfl) rfl (by rw [List.length_map];exact hinv.1)) (.k (bldN .k (.g 4 rfl) (sliceT (.g 7 rfl)) (by simpa using hN)) (.k (sto .k (.b 2 rfl) (.g 8 rfl) tyN) .n)))))))))) [] [9] rfl rfl ?_
   refine Tr.ret (end_cell 0 rfl rfl tyN)
 ·
  refine Tr.seq (Tr.rs [] (.k (mv .k (.b 3 rfl)) (.k (gt_ .k (.g 0 rfl) .c (dT (by omega))) (.k (mv .k (.g 1 rfl)) (.k (mv (.o 2 rfl rfl rfl) (.b 1 rfl)) (.k (mv (.o 2 rfl rfl rfl) (.b 3 rfl)) (.k (sub_ (.o 2 rfl rfl rfl) (.g 4 rfl) .c (show IntKind.i64.wrap ((n:Int) - 1)=((n - 1:Nat):Int) by rw [IntWalk.i64_in _ (by omega)];omega)) (.k (idx_ (.o 2 rfl rfl rfl) rwI (.g 3 rfl) (.g 5 rfl) rfl (at_dig (show n - 1 < l.length by omega))) (.k (ldc_at (.o 2 rfl rfl rfl) (.g 6 rfl) tyI) (.k (eq_ (.o 2 rfl rfl rfl) (.g 7 rfl) .c (beq_iff_eq.2 h2)) (.k (pickT .k (.g 2 rfl) (.g 8 rfl)) .n)))))))))) [0,1,2,3] [9] rfl rfl ?_)
  refine Tr.cond 4 rfl (fun _=>?_) nofun
  refine Tr.skip (Nx.go (Tr.block (Tr.reg [(3,2)] (.k (mv .k (.b 3 rfl)) (.k (sub_ .k (.g 0 rfl) .c (show IntKind.i64.wrap ((n:Int) - 1)=((n - 1:Nat):Int) by rw [IntWalk.i64_in _ (by omega)];omega)) (.k (asg .k (.g 1 rfl)) .n))) [0,1,2] [2] rfl rfl (Nx.bkN (Nx.again (0+(n - 1)) (by omega) [.s 0 (bv b),.s 1 (ivec l),.b 4 (.is nv0) 71 2,.s 5 (iv (((n - 1):Nat):Int))] ⟨(n - 1),⟨by omega,fun i hi=>(Nat.lt_or_ge (n - 1) i).elim (fun h=>hinv.2 i (by omega)) (fun h=>(show i=n - 1 by omega) ▸ h2)⟩,rfl,rfl⟩ (Sub.all (.cons 0 rfl (.cons 1 rfl (.cons 2 rfl (.cons 3 rfl .nil))))))))))
 ·
  have hN:=numP_cut (b:=b) hinv.1 hD hinv.2 (.inr h2)
  refine Tr.seq (Tr.rs [] (.k (mv .k (.b 3 rfl)) (.k (gt_ .k (.g 0 rfl) .c (dT (by omega))) (.k (mv .k (.g 1 rfl)) (.k (mv (.o 2 rfl rfl rfl) (.b 1 rfl)) (.k (mv (.o 2 rfl rfl rfl) (.b 3 rfl)) (.k (sub_ (.o 2 rfl rfl rfl) (.g 4 rfl) .c (show IntKind.i64.wrap ((n:Int) - 1)=((n - 1:Nat):Int) by rw [IntWalk.i64_in _ (by omega)];omega)) (.k (idx_ (.o 2 rfl rfl rfl) rwI (.g 3 rfl) (.g 5 rfl) rfl (at_dig (show n - 1 < l.length by omega))) (.k (ldc_at (.o 2 rfl rfl rfl) (.g 6 rfl) tyI) (.k (eq_ (.o 2 rfl rfl rfl) (.g 7 rfl) .c (beq_eq_false_iff_ne.2 h2)) (.k (pickT .k (.g 2 rfl) (.g 8 rfl)) .n)))))))))) [0,1,2,3] [9] rfl rfl ?_)
  refine Tr.cond 4 rfl nofun (fun _=>?_)
  refine Tr.exit (Nx.thX (Nx.thX (Nx.bkX (Nx.go (?_)))))
  cases b
  ·
   refine Tr.rs [(2,9)] (.k (mv .k (.b 0 rfl)) (.k (mv .k (.g 0 rfl)) (.k (skp (.o 1 rfl rfl rfl)) (.k (skp (.o 1 rfl rfl rfl)) (.k (pickF .k (.g 1 rfl) .c) (.k (mv .k (.b 1 rfl)) (.k (mv .k (.b 3 rfl)) (.k (slcH .k rwI (.g 5 rfl) (.g 6 rfl) rfl (by rw [List.length_map];exact hinv.1)) (.k (bldN .k (.g 4 rfl) (sliceT (.g 7 rfl)) (by simpa using hN)) (.k (sto .k (.b 2 rfl) (.g 8 rfl) tyN) .n)))))))))) [] [9] rfl rfl ?_
   refine Tr.ret (end_cell 0 rfl rfl tyN)
  ·
   refine Tr.rs [(2,9)] (.k (mv .k (.b 0 rfl)) (.k (mv .k (.g 0 rfl)) (.k (mv (.o 1 rfl rfl rfl) (.b 3 rfl)) (.k (gt_ (.o 1 rfl rfl rfl) (.g 2 rfl) .c rfl) (.k (pickT .k (.g 1 rfl) (.g 3 rfl)) (.k (mv .k (.b 1 rfl)) (.k (mv .k (.b 3 rfl)) (.k (slcH .k rwI (.g 5 rfl) (.g 6 rfl) rfl (by rw [List.length_map];exact hinv.1)) (.k (bldN .k (.g 4 rfl) (sliceT (.g 7 rfl)) (by simpa using hN)) (.k (sto .k (.b 2 rfl) (.g 8 rfl) tyN) .n)))))))))) [] [9] rfl rfl ?_
   refine Tr.ret (end_cell 0 rfl rfl tyN)
theorem num_le {f:FuncId} {ps:List SP} {L L':Nat} {z z':Int} (h:FnC Tryz.prog f ps (.num L z)) (hl:L≤L') (e:z=z'):FnC Tryz.prog f ps (.num L' z'):=fun ok vs W hA hk =>
  (h ok vs W hA hk).mono fun _ W' ⟨r,h1,⟨b,l,hN,h2⟩,h3⟩=>⟨r,h1,⟨b,l,e ▸ hN.mono hl,h2⟩,h3⟩
theorem fn_sizeN {a b:List Int} (dx:Dig a) (dy:Dig b) (ha:a.length≤100000000) (hb:b.length≤100000000):FnC Tryz.prog 85 [ivec a,ivec b] (iv (sizeN a b)):=by
 refine FnC.of (N:=41) Tryz.func85 rfl rfl (Nat.le_of_ble_eq_true rfl) (fun w0 ok0=>?_)
 refine Tr.rs [] (.k (asg .k .c) .n) [0,1] [] rfl rfl ?_
 by_cases hl:a.length=b.length
 ·
  rw [show sizeN a b=szD a b a.length from if_neg (fun h=>h hl)]
  refine Tr.seq (Tr.rs [] (.k (mv .k (.b 0 rfl)) (.k (len_ .k rwI (.g 0 rfl) (by rw [List.length_map])) (.k (mv .k (.b 1 rfl)) (.k (len_ .k rwI (.g 2 rfl) (by rw [List.length_map])) (.k (ne_ .k (.g 1 rfl) (.g 3 rfl) (bne_eq_false_iff_eq.2 (by omega))) .n))))) [0,1] [4] rfl rfl ?_)
  refine Tr.cond 2 rfl nofun (fun _=>?_)
  refine Tr.skip (Nx.go (Tr.seq (Tr.rs [] (.k (mv .k (.b 0 rfl)) (.k (len_ .k rwI (.g 0 rfl) (by rw [List.length_map])) (.k (sub_ .k (.g 1 rfl) .c (IntWalk.i64_in _ (by omega))) (.k (asg .k (.g 2 rfl)) .n)))) [0,1] [3] rfl rfl ?_)))
  refine Tr.block (?_)
  refine Tr.loop (fun n_ F_=>∃ n:Nat,(n≤a.length∧szD a b n=szD a b a.length)∧n_=0+n∧F_=[.s 0 (ivec a),.s 1 (ivec b),.s 5 (iv ((n:Int) - 1))]) (0+a.length) (F0:=[.s 0 (ivec a),.s 1 (ivec b),.s 5 (iv ((a.length:Int) - 1))]) ⟨a.length,⟨Nat.le_refl _,rfl⟩,rfl,rfl⟩ (Sub.all (.cons 0 rfl (.cons 1 rfl (.cons 2 rfl .nil)))) (fun n_ F_ hI=>?_)
  obtain ⟨n,hinv,rfl,rfl⟩:=hI
  by_cases hn:0 < n
  ·
   refine Tr.seq (Tr.rs [] (.k (mv .k (.b 2 rfl)) (.k (ge_ .k (.g 0 rfl) .c (dT (by omega))) .n)) [0,1,2] [1] rfl rfl ?_)
   refine Tr.cond 3 rfl (fun _=>?_) nofun
   refine Tr.skip (Nx.go (Tr.seq (Tr.block (?_))))
   obtain ⟨m,rfl⟩:∃ m,n=m+1:=⟨n - 1,by omega⟩;have gx:=dx.at_ m;have gy:=dy.at_ m;by_cases h2:a.getD m 0=b.getD m 0
   ·
    refine Tr.ds hmx [] (.k (mv .k (.b 0 rfl)) (.k (mv .k (.b 2 rfl)) (.k (idx_ .k rwI (.g 0 rfl) (.g 1 rfl) (show ((m+1:Nat):Int) - 1=((m:Nat):Int) by omega) (at_dig (show m < a.length by omega))) (.k (ldc_at .k (.g 2 rfl) tyI) (.k (mv .k (.b 1 rfl)) (.k (mv .k (.b 2 rfl)) (.k (idx_ .k rwI (.g 4 rfl) (.g 5 rfl) (show ((m+1:Nat):Int) - 1=((m:Nat):Int) by omega) (at_dig (show m < b.length by omega))) (.k (ldc_at .k (.g 6 rfl) tyI) (.k (ne_ .k (.g 3 rfl) (.g 7 rfl) (bne_eq_false_iff_eq.2 h2)) .n))))))))) [0,1,2] [8] rfl rfl ?_
    refine Tr.cond 3 rfl nofun (fun _=>?_)
    refine Tr.skip (Nx.bkN (Nx.go (Tr.reg [(2,2)] (.k (mv .k (.b 2 rfl)) (.k (sub_ .k (.g 0 rfl) .c (show IntKind.i64.wrap (((m+1:Nat):Int) - 1 - 1)=(m:Int) - 1 by rw [IntWalk.i64_in _ (by omega)];omega)) (.k (asg .k (.g 1 rfl)) .n))) [0,1] [2] rfl rfl (Nx.again (0+m) (by omega) [.s 0 (ivec a),.s 1 (ivec b),.s 5 (iv ((m:Int) - 1))] ⟨m,⟨by omega,by rw [← hinv.2];exact (if_neg (fun h=>h h2)).symm⟩,rfl,rfl⟩ (Sub.all (.cons 0 rfl (.cons 1 rfl (.cons 2 rfl .nil))))))))
   ·
    rw [← hinv.2,show szD a b (m+1)=a.getD m 0 - b.getD m 0 from if_pos h2]
    refine Tr.ds hmx [] (.k (mv .k (.b 0 rfl)) (.k (mv .k (.b 2 rfl)) (.k (idx_ .k rwI (.g 0 rfl) (.g 1 rfl) (show ((m+1:Nat):Int) - 1=((m:Nat):Int) by omega) (at_dig (show m < a.length by omega))) (.k (ldc_at .k (.g 2 rfl) tyI) (.k (mv .k (.b 1 rfl)) (.k (mv .k (.b 2 rfl)) (.k (idx_ .k rwI (.g 4 rfl) (.g 5 rfl) (show ((m+1:Nat):Int) - 1=((m:Nat):Int) by omega) (at_dig (show m < b.length by omega))) (.k (ldc_at .k (.g 6 rfl) tyI) (.k (ne_ .k (.g 3 rfl) (.g 7 rfl) (bne_iff_ne.2 h2)) .n))))))))) [0,1,2] [8] rfl rfl ?_
    refine Tr.cond 3 rfl (fun _=>?_) nofun
    refine Tr.ds hmx [] (.k (mv .k (.b 0 rfl)) (.k (mv .k (.b 2 rfl)) (.k (idx_ .k rwI (.g 0 rfl) (.g 1 rfl) (show ((m+1:Nat):Int) - 1=((m:Nat):Int) by omega) (at_dig (show m < a.length by omega))) (.k (ldc_at .k (.g 2 rfl) tyI) (.k (mv .k (.b 1 rfl)) (.k (mv .k (.b 2 rfl)) (.k (idx_ .k rwI (.g 4 rfl) (.g 5 rfl) (show ((m+1:Nat):Int) - 1=((m:Nat):Int) by omega) (at_dig (show m < b.length by omega))) (.k (ldc_at .k (.g 6 rfl) tyI) (.k (sub_ .k (.g 3 rfl) (.g 7 rfl) (IntWalk.i64_in _ (by omega))) (.k (asg .k (.g 8 rfl)) .n)))))))))) [] [9] rfl rfl ?_
    refine Tr.ret (end_tmp 0 rfl rfl)
  ·
   obtain rfl:n=0:=by omega
   rw [← hinv.2,show szD a b 0=0 from rfl]
   refine Tr.seq (Tr.rs [] (.k (mv .k (.b 2 rfl)) (.k (ge_ .k (.g 0 rfl) .c (dF (by omega))) .n)) [0,1,2] [1] rfl rfl ?_)
   refine Tr.cond 3 rfl nofun (fun _=>?_)
   refine Tr.exit (Nx.thX (Nx.thX (Nx.bkX (Nx.go (Tr.rs [] (.k (asg .k .c) .n) [] [0] rfl rfl ?_)))))
   refine Tr.ret (end_tmp 0 rfl rfl)
 ·
  rw [show sizeN a b=(a.length:Int) - (b.length:Int) from if_pos hl]
  refine Tr.seq (Tr.rs [] (.k (mv .k (.b 0 rfl)) (.k (len_ .k rwI (.g 0 rfl) (by rw [List.length_map])) (.k (mv .k (.b 1 rfl)) (.k (len_ .k rwI (.g 2 rfl) (by rw [List.length_map])) (.k (ne_ .k (.g 1 rfl) (.g 3 rfl) (bne_iff_ne.2 (by omega))) .n))))) [0,1] [4] rfl rfl ?_)
  refine Tr.cond 2 rfl (fun _=>?_) nofun
  refine Tr.rs [] (.k (mv .k (.b 0 rfl)) (.k (len_ .k rwI (.g 0 rfl) (by rw [List.length_map])) (.k (mv .k (.b 1 rfl)) (.k (len_ .k rwI (.g 2 rfl) (by rw [List.length_map])) (.k (sub_ .k (.g 1 rfl) (.g 3 rfl) (IntWalk.i64_in _ (by omega))) (.k (asg .k (.g 4 rfl)) .n)))))) [] [5] rfl rfl ?_
  refine Tr.ret (end_tmp 0 rfl rfl)
theorem tmod_abs (y:Int):(y.tmod 65536 < 0 → -(y.tmod 65536)=(y.natAbs:Int) % 65536 ∧ -65536 < y.tmod 65536)∧(¬ y.tmod 65536 < 0→(y.natAbs:Int) % 65536=y.tmod 65536):=by
  rcases Int.le_total 0 y with h|h
  · rw [Int.tmod_eq_emod_of_nonneg h];omega
  · have e:y.tmod 65536 = -((-y).tmod 65536):=by rw [Int.neg_tmod,Int.neg_neg]
    rw [e,Int.tmod_eq_emod_of_nonneg (by omega)];omega
theorem tdiv_bd {y:Int} (h0 : -9223372036854775808≤y) (h1:y≤9223372036854775807) : -9223372036854775808≤y.tdiv 65536∧y.tdiv 65536≤9223372036854775807:=by
  have hq:((y.tdiv 65536).natAbs:Int)=(y.natAbs:Int) / 65536:=by rw [Int.natAbs_tdiv];rfl
  omega
theorem fn_small {n:Int} (h0 : -9223372036854775808≤n) (h1:n≤9223372036854775807):FnC Tryz.prog 99 [iv n] (.num 4 n):=by
 refine FnC.of (N:=25) Tryz.func99 rfl rfl (Nat.le_of_ble_eq_true rfl) (fun w0 ok0=>?_)
 refine Tr.rs [] (.k (alc .k zN) .n) [0] [0] rfl rfl ?_
 refine Tr.rs [] (.k (oini (sz:=1) (E:=3) .k (.inl rfl)) .n) [0,1] [0] rfl rfl ?_
 refine Tr.rs [] (.k (mv .k (.b 0 rfl)) (.k (asg .k (.g 0 rfl)) .n)) [0,1,2] [1] rfl rfl ?_
 refine Tr.seq (Tr.block (?_))
 refine Tr.loop (fun n_ F_=>∃ o:List Int,∃ y:Int,(Sml n o y)∧n_=0+y.natAbs∧F_=[.s 0 (iv n),.b 2 (.is nv0) 71 2,.o 3 1 3 (o.map fun z=>[ic z]),.s 4 (iv y)]) (0+n.natAbs) (F0:=[.s 0 (iv n),.b 2 (.is nv0) 71 2,.o 3 1 3 ([].map fun z=>[ic z]),.s 4 (iv n)]) ⟨[],n,(Sml.zero h0 h1),rfl,rfl⟩ (Sub.all (.cons 0 rfl (.cons 1 rfl (.cons 2 rfl (.cons 3 rfl .nil))))) (fun n_ F_ hI=>?_)
 obtain ⟨o,y,hs,rfl,rfl⟩:=hI
 by_cases hy:y=0
 ·
  subst hy
  refine Tr.seq (Tr.rs [] (.k (mv .k (.b 3 rfl)) (.k (ne_ .k (.g 0 rfl) .c (bne_eq_false_iff_eq.2 rfl)) .n)) [0,1,2,3] [1] rfl rfl ?_)
  refine Tr.cond 4 rfl nofun (fun _=>?_)
  refine Tr.exit (Nx.thX (Nx.thX (Nx.bkX (Nx.go (Tr.rs [(1,4),(2,2)] (.k (mv .k (.b 0 rfl)) (.k (lt_ .k (.g 0 rfl) .c rfl) (.k (frz .k (.inr rfl) (.b 2 rfl)) (.k (cal .k Tryz.func84 rfl (num_le (fn_trim hs.dig (by have:=hs.len;omega)) hs.len hs.last) (.k (.g 1 rfl) (.k (.g 2 rfl) .n))) (.k (sto .k (.b 1 rfl) (.g 3 rfl) tyN) .n))))) [] [4] rfl rfl ?_)))))
  refine Tr.ret (end_cell 0 rfl rfl tyN)
 ·
  have hlo:=hs.lo;have hhi:=hs.hi;have hln:=hs.len
  refine Tr.seq (Tr.rs [] (.k (mv .k (.b 3 rfl)) (.k (ne_ .k (.g 0 rfl) .c (bne_iff_ne.2 hy)) .n)) [0,1,2,3] [1] rfl rfl ?_)
  refine Tr.cond 4 rfl (fun _=>?_) nofun
  refine Tr.skip (Nx.go (Tr.block (Tr.rs [] (.k (mv .k (.b 3 rfl)) (.k (rem_ .k (.g 0 rfl) .c (by decide) rfl) (.k (asg .k (.g 1 rfl)) .n))) [0,1,2,3] [2] rfl rfl ?_)))
  refine Tr.cut [.s 0 (iv n),.b 2 (.is nv0) 71 2,.o 3 1 3 (o.map fun z=>[ic z]),.s 4 (iv y),.s 5 (iv ((y.natAbs:Int) % 65536))] ?_ ?_
  ·
   refine Tr.rs [] (.k (mv .k (.b 4 rfl)) (.k (lt_ .k (.g 0 rfl) .c rfl) .n)) [0,1,2,3,4] [1] rfl rfl ?_
   refine Tr.cond 5 rfl (fun e12=>?_) (fun e12=>?_)
   ·
    refine Tr.reg [(4,2)] (.k (mv .k (.b 4 rfl)) (.k (min_ .k (.g 0 rfl) (by rw [Int.zero_sub];exact (IntWalk.i64_in _ (by have:=(tmod_abs y).1 (of_decide_eq_true e12);omega)).trans ((tmod_abs y).1 (of_decide_eq_true e12)).1)) (.k (asg .k (.g 1 rfl)) .n))) [0,1,2,3] [2] rfl rfl (Nx.met _ (Sub.all (.cons 0 rfl (.cons 1 rfl (.cons 2 rfl (.cons 3 rfl (.cons 4 rfl .nil)))))))
   ·
    refine Tr.skip (?_)
    rw [show (y.natAbs:Int) % 65536=y.tmod 65536 from (tmod_abs y).2 (of_decide_eq_false e12)]
    refine Nx.met _ (Sub.all (.cons 0 rfl (.cons 1 rfl (.cons 2 rfl (.cons 3 rfl (.cons 4 rfl .nil))))))
  ·
   refine Tr.rs [(2,0),(1000,3),(1003,4)] (.k (omv .k (.inr rfl) (.b 2 rfl)) (.k (mv .k (.b 4 rfl)) (.k (mkrow .k rwI (.k (.g 1 rfl) .n) rfl rfl (by kernel_rfl)) (.k (oapp_ .k apI (.g 0 rfl) (.g 2 rfl) (by decide) ⟨(show _=(o++[(y.natAbs:Int) % 65536]).map (fun z=>[ic z]) by rw [List.map_append];rfl),⟨rfl,rfl⟩,by rw [List.length_map];omega⟩) (.k (omv .k (.inl rfl) (.g 3 rfl)) .n))))) [0,1,3] [4] rfl rfl ?_
   refine Tr.reg [(2,2)] (.k (mv .k (.b 2 rfl)) (.k (quo_ .k (.g 0 rfl) .c (by decide) (IntWalk.i64_in _ (tdiv_bd hlo hhi))) (.k (asg .k (.g 1 rfl)) .n))) [0,1,3] [2] rfl rfl (Nx.bkN (Nx.again (0+(y.tdiv 65536).natAbs) (by rw [Nat.zero_add,Nat.zero_add,Int.natAbs_tdiv];exact Nat.div_lt_self (by omega) (by decide)) [.s 0 (iv n),.b 2 (.is nv0) 71 2,.o 3 1 3 ((o++[(y.natAbs:Int) % 65536]).map fun z=>[ic z]),.s 4 (iv (y.tdiv 65536))] ⟨(o++[(y.natAbs:Int) % 65536]),(y.tdiv 65536),(hs.succ h0 h1 hy),rfl,rfl⟩ (Sub.all (.cons 0 rfl (.cons 1 rfl (.cons 2 rfl (.cons 3 rfl .nil)))))))
theorem neg_f {L:Nat} {l:List Int} {z:Int} (h:NumP L false l z):NumP L (decide ((l.length:Int) > 0)) l (-z):=by
  obtain ⟨hD,hz,_,hv,hl⟩:=h
  simp only [Bool.false_eq_true,if_false] at hv
  refine ⟨hD,hz,fun h e=>?_,?_,hl⟩
  · have:=of_decide_eq_true h;rw [e] at this;simp at this
  · cases l with
    | nil=>simp [val] at hv ⊢;omega
    | cons d l=>rw [decide_eq_true (by rw [List.length_cons];omega),if_pos rfl,hv]
theorem neg_t {L:Nat} {l:List Int} {z:Int} (h:NumP L true l z):NumP L false l (-z):=by
  obtain ⟨hD,hz,_,hv,hl⟩:=h
  simp only [if_true] at hv
  exact ⟨hD,hz,fun h=>(by cases h),by rw [hv];simp,hl⟩
theorem fn_neg1 {L:Nat} {z:Int} {b:Bool} {l:List Int} (hN:NumP L b l z):FnC Tryz.prog 86 [SP.nm b l] (.num L (-z)):=by
 refine FnC.of (N:=15) Tryz.func86 rfl rfl (Nat.le_of_ble_eq_true rfl) (fun w0 ok0=>?_)
 refine Tr.rs [] (.k (bxx .k (.b 0 rfl)) (.k (alc .k zN) .n)) [] [0,1] rfl rfl ?_
 cases b
 ·
  refine Tr.rs [(1,12)] (.k (faddr .k (.b 0 rfl) rfl fNM) (.k (ldc .k (.g 0 rfl) (.b 0 rfl) tyB) (.k (not_ .k (.g 1 rfl)) (.k (mv .k (.g 2 rfl)) (.k (faddr (.o 3 rfl rfl rfl) (.b 0 rfl) rfl fND) (.k (ldc (.o 3 rfl rfl rfl) (.g 4 rfl) (.b 0 rfl) tyvI) (.k (len_ (.o 3 rfl rfl rfl) rwI (.g 5 rfl) (by rw [List.length_map])) (.k (gt_ (.o 3 rfl rfl rfl) (.g 6 rfl) .c rfl) (.k (pickT .k (.g 3 rfl) (.g 7 rfl)) (.k (faddr .k (.b 0 rfl) rfl fND) (.k (ldc .k (.g 9 rfl) (.b 0 rfl) tyvI) (.k (bldN .k (.g 8 rfl) (.g 10 rfl) (neg_f hN)) (.k (sto .k (.b 1 rfl) (.g 11 rfl) tyN) .n))))))))))))) [] [12] rfl rfl ?_
  refine Tr.ret (end_cell 0 rfl rfl tyN)
 ·
  refine Tr.rs [(1,12)] (.k (faddr .k (.b 0 rfl) rfl fNM) (.k (ldc .k (.g 0 rfl) (.b 0 rfl) tyB) (.k (not_ .k (.g 1 rfl)) (.k (mv .k (.g 2 rfl)) (.k (skp (.o 3 rfl rfl rfl)) (.k (skp (.o 3 rfl rfl rfl)) (.k (skp (.o 3 rfl rfl rfl)) (.k (skp (.o 3 rfl rfl rfl)) (.k (pickF .k (.g 3 rfl) .c) (.k (faddr .k (.b 0 rfl) rfl fND) (.k (ldc .k (.g 9 rfl) (.b 0 rfl) tyvI) (.k (bldN .k (.g 8 rfl) (.g 10 rfl) (neg_t hN)) (.k (sto .k (.b 1 rfl) (.g 11 rfl) tyN) .n))))))))))))) [] [12] rfl rfl ?_
  refine Tr.ret (end_cell 0 rfl rfl tyN)
theorem fn_nneg {L:Nat} {z:Int}:FnC Tryz.prog 86 [.num L z] (.num L (-z)):=num_of1 fun b l hN=>fn_neg1 hN
theorem sign_ways {L:Nat} {l:List Int} {b:Bool} {z:Int} (h:NumP L b l z):((l.length:Int)=0∧sgn z=0)∨((l.length:Int)≠0∧b=true∧sgn z = -1)∨((l.length:Int)≠0∧b=false∧sgn z=1):=by
  obtain ⟨hD,hz,_,hv,hl⟩:=h
  cases l with
  | nil=>left;exact ⟨rfl,by rw [hv];cases b<;>rfl⟩
  | cons d l =>
    have hp:=val_pos hD hz (by simp)
    have hne:(((d :: l).length:Nat):Int)≠0:=by rw [List.length_cons];omega
    cases b with
    | true=>right;left;exact ⟨hne,rfl,by rw [hv,if_pos rfl];unfold sgn;rw [if_pos (by omega)]⟩
    | false=>right;right;exact ⟨hne,rfl,by rw [hv,if_neg (by decide)];unfold sgn;rw [if_neg (by omega),if_neg (by omega)]⟩
theorem fn_sign1 {L:Nat} {z:Int} {b:Bool} {l:List Int} (hN:NumP L b l z):FnC Tryz.prog 70 [SP.nm b l] (iv (sgn z)):=by
 refine FnC.of (N:=11) Tryz.func70 rfl rfl (Nat.le_of_ble_eq_true rfl) (fun w0 ok0=>?_)
 refine Tr.rs [] (.k (bxx .k (.b 0 rfl)) (.k (asg .k .c) .n)) [] [0] rfl rfl ?_
 refine Tr.seq (Tr.block (?_))
 rcases sign_ways hN with ⟨h1,h2⟩|⟨h1,h2,h3⟩|⟨h1,h2,h3⟩
 ·
  rw [h2]
  refine Tr.rs [] (.k (faddr .k (.b 0 rfl) rfl fND) (.k (ldc .k (.g 0 rfl) (.b 0 rfl) tyvI) (.k (len_ .k rwI (.g 1 rfl) (by rw [List.length_map])) (.k (eq_ .k (.g 2 rfl) .c (beq_iff_eq.2 h1)) (.k (asg .k (.g 3 rfl)) .n))))) [0] [4] rfl rfl ?_
  refine Tr.cond 1 rfl (fun _=>?_) nofun
  refine Tr.rs [] (.k (asg .k .c) .n) [] [0] rfl rfl ?_
  refine Tr.ret (end_tmp 0 rfl rfl)
 ·
  rw [h3]
  subst h2
  refine Tr.rs [] (.k (faddr .k (.b 0 rfl) rfl fND) (.k (ldc .k (.g 0 rfl) (.b 0 rfl) tyvI) (.k (len_ .k rwI (.g 1 rfl) (by rw [List.length_map])) (.k (eq_ .k (.g 2 rfl) .c (beq_eq_false_iff_ne.2 h1)) (.k (asg .k (.g 3 rfl)) .n))))) [0] [4] rfl rfl ?_
  refine Tr.cond 1 rfl nofun (fun _=>?_)
  refine Tr.rs [] (.k (faddr .k (.b 0 rfl) rfl fNM) (.k (ldc .k (.g 0 rfl) (.b 0 rfl) tyB) (.k (asg .k (.g 1 rfl)) .n))) [] [2] rfl rfl ?_
  refine Tr.cond 0 rfl (fun _=>?_) nofun
  refine Tr.rs [] (.k (asg .k .c) .n) [] [0] rfl rfl ?_
  refine Tr.ret (end_tmp 0 rfl rfl)
 ·
  rw [h3]
  subst h2
  refine Tr.rs [] (.k (faddr .k (.b 0 rfl) rfl fND) (.k (ldc .k (.g 0 rfl) (.b 0 rfl) tyvI) (.k (len_ .k rwI (.g 1 rfl) (by rw [List.length_map])) (.k (eq_ .k (.g 2 rfl) .c (beq_eq_false_iff_ne.2 h1)) (.k (asg .k (.g 3 rfl)) .n))))) [0] [4] rfl rfl ?_
  refine Tr.cond 1 rfl nofun (fun _=>?_)
  refine Tr.rs [] (.k (faddr .k (.b 0 rfl) rfl fNM) (.k (ldc .k (.g 0 rfl) (.b 0 rfl) tyB) (.k (asg .k (.g 1 rfl)) .n))) [] [2] rfl rfl ?_
  refine Tr.cond 0 rfl nofun (fun _=>?_)
  refine Tr.skip (Nx.bkN (Nx.go (Tr.rs [] (.k (asg .k .c) .n) [] [0] rfl rfl ?_)))
  refine Tr.ret (end_tmp 0 rfl rfl)
theorem fn_nsign {L:Nat} {z:Int}:FnC Tryz.prog 70 [.num L z] (iv (sgn z)):=num_of1 fun b l hN=>fn_sign1 hN
theorem sub_ways {L1 L2:Nat} {b1 b2:Bool} {l1 l2:List Int} {z1 z2:Int} (h1:NumP L1 b1 l1 z1) (h2:NumP L2 b2 l2 z2) (hb:b1≠b2):∃ p q:Bool × List Int,(val l1 < val l2→p=(b2,l2)∧q=(b1,l1))∧(¬ val l1 < val l2→p=(b1,l1)∧q=(b2,l2)) ∧
    Dig p.2∧Dig q.2∧NoZero q.2∧val q.2≤val p.2∧p.2.length≤max L1 L2∧(if p.1 then -(val p.2 - val q.2) else val p.2 - val q.2)=z1+z2:=by
  obtain ⟨dx,zx,m1,e1,w1⟩:=h1
  obtain ⟨dy,zy,m2,e2,w2⟩:=h2
  by_cases h:val l1 < val l2
  · refine ⟨(b2,l2),(b1,l1),fun _=>⟨rfl,rfl⟩,fun hn=>absurd h hn,dy,dx,zx,Int.le_of_lt h,by simp only;omega,?_⟩
    rw [e1,e2]
    cases b1<;>cases b2<;>first|exact absurd rfl hb|(simp;omega)
  · refine ⟨(b1,l1),(b2,l2),fun hn=>absurd hn h,fun _=>⟨rfl,rfl⟩,dx,dy,zy,Int.not_lt.1 h,by simp only;omega,?_⟩
    rw [e1,e2]
    cases b1<;>cases b2<;>first|exact absurd rfl hb|(simp;omega)
theorem fn_plus1 {L1 L2:Nat} {b1 b2:Bool} {l1 l2:List Int} {z1 z2:Int} (h1:L1≤1000000) (h2:L2≤1000000) (hN1:NumP L1 b1 l1 z1) (hN2:NumP L2 b2 l2 z2):FnC Tryz.prog 45 [SP.nm b1 l1,SP.nm b2 l2] (.num (max L1 L2+1) (z1+z2)):=by
 refine FnC.of (N:=99) Tryz.func45 rfl rfl (Nat.le_of_ble_eq_true rfl) (fun w0 ok0=>?_)
 refine Tr.rs [] (.k (bxx .k (.b 0 rfl)) (.k (bxx .k (.b 1 rfl)) (.k (alc .k zN) .n))) [] [0,1,2] rfl rfl ?_
 refine Tr.rs [] (.k (oini (sz:=1) (E:=3) .k (.inl rfl)) .n) [0,1,2] [0] rfl rfl ?_
 refine Tr.rs [] (.k (asg .k .c) .n) [0,1,2,3] [0] rfl rfl ?_
 obtain ⟨dx,zx,m1,e1,w1⟩:=id hN1
 obtain ⟨dy,zy,m2,e2,w2⟩:=id hN2
 by_cases hbb:b1=b2
 ·
  have hs:(if b1 then -(val l1+val l2) else val l1+val l2)=z1+z2:=by rw [e1,e2,← hbb];cases b1<;>simp<;>omega
  refine Tr.seq (Tr.rs [] (.k (faddr .k (.b 0 rfl) rfl fNM) (.k (ldc .k (.g 0 rfl) (.b 0 rfl) tyB) (.k (faddr .k (.b 1 rfl) rfl fNM) (.k (ldc .k (.g 2 rfl) (.b 1 rfl) tyB) (.k (eqB_ .k Tryz.underlying4 (.g 1 rfl) (.g 3 rfl) (beq_iff_eq.2 hbb)) .n))))) [0,1,2,3,4] [4] rfl rfl ?_)
  refine Tr.cond 5 rfl (fun _=>?_) nofun
  refine Tr.seq (Tr.rs [] (.k (asg .k .c) .n) [0,1,2,3,4] [0] rfl rfl ?_)
  refine Tr.block (?_)
  refine Tr.loop (fun n_ F_=>∃ i:Nat,∃ o:List Int,∃ c:Int,(Pls l1 l2 i o c)∧n_=max l1.length l2.length+2 - i∧F_=[.b 2 (SP.nm b1 l1) 71 2,.b 3 (SP.nm b2 l2) 71 2,.b 4 (.is nv0) 71 2,.o 5 1 3 (o.map fun z=>[ic z]),.s 6 (iv c),.s 7 (iv ((i:Nat):Int))]) (max l1.length l2.length+2 - 0) (F0:=[.b 2 (SP.nm b1 l1) 71 2,.b 3 (SP.nm b2 l2) 71 2,.b 4 (.is nv0) 71 2,.o 5 1 3 ([].map fun z=>[ic z]),.s 6 (iv 0),.s 7 (iv ((0:Nat):Int))]) ⟨0,[],0,Pls.zero,rfl,rfl⟩ (Sub.all (.cons 0 rfl (.cons 1 rfl (.cons 2 rfl (.cons 3 rfl (.cons 4 rfl (.cons 5 rfl .nil))))))) (fun n_ F_ hI=>?_)
  obtain ⟨i,o,c,hp,rfl,rfl⟩:=hI
  rcases (show i < l1.length∨(¬ i < l1.length∧i < l2.length)∨(¬ i < l1.length∧¬ i < l2.length∧c > 0)∨(¬ i < l1.length∧¬ i < l2.length∧¬ c > 0) by omega) with c1|⟨c1,c2⟩|⟨c1,c2,c3⟩|⟨c1,c2,c3⟩
  ·
   have hg:i < l1.length∨i < l2.length∨c > 0 := .inl c1
   refine Tr.seq (Tr.rs [] (.k (mv .k (.b 5 rfl)) (.k (faddr .k (.b 0 rfl) rfl fND) (.k (ldc .k (.g 1 rfl) (.b 0 rfl) tyvI) (.k (len_ .k rwI (.g 2 rfl) (by rw [List.length_map])) (.k (lt_ .k (.g 0 rfl) (.g 3 rfl) (dT (by omega))) (.k (mv .k (.g 4 rfl)) (.k (skp (.o 5 rfl rfl rfl)) (.k (skp (.o 5 rfl rfl rfl)) (.k (skp (.o 5 rfl rfl rfl)) (.k (skp (.o 5 rfl rfl rfl)) (.k (skp (.o 5 rfl rfl rfl)) (.k (pickT .k (.g 5 rfl) .c) (.k (mv .k (.g 11 rfl)) (.k (skp (.o 12 rfl rfl rfl)) (.k (skp (.o 12 rfl rfl rfl)) (.k (pickT .k (.g 12 rfl) .c) .n)))))))))))))))) [0,1,2,3,4,5] [15] rfl rfl ?_)
   refine Tr.cond 6 rfl (fun _=>?_) nofun
   refine Tr.skip (Nx.go (Tr.seq (Tr.block (?_))))
   obtain ⟨x,hx⟩:∃ x,l1.getD i 0+l2.getD i 0+c=x:=⟨_,rfl⟩
   have hb:=hp.bd dx dy hx
   have gx:=dx.at_ i
   have gy:=dy.at_ i
   have hle:=hp.le
   have hln:=hp.len
   refine Tr.ds hmx [] (.k (faddr .k (.b 0 rfl) rfl fND) (.k (ldc .k (.g 0 rfl) (.b 0 rfl) tyvI) (.k (mv .k (.b 5 rfl)) (.k (cal .k Tryz.func83 rfl fn_digit (.k (.g 1 rfl) (.k (.g 2 rfl) .n))) (.k (faddr .k (.b 1 rfl) rfl fND) (.k (ldc .k (.g 4 rfl) (.b 1 rfl) tyvI) (.k (mv .k (.b 5 rfl)) (.k (cal .k Tryz.func83 rfl fn_digit (.k (.g 5 rfl) (.k (.g 6 rfl) .n))) (.k (add_ .k (.g 3 rfl) (.g 7 rfl) (IntWalk.i64_in _ (by omega))) (.k (mv .k (.b 4 rfl)) (.k (add_ .k (.g 8 rfl) (.g 9 rfl) (show _=x by rw [IntWalk.i64_in _ (by omega)];exact hx)) (.k (asg .k (.g 10 rfl)) .n)))))))))))) [0,1,2,3,5] [11] rfl rfl ?_
   refine Tr.rs [(3,0),(1000,4),(1004,5)] (.k (omv .k (.inr rfl) (.b 3 rfl)) (.k (mv .k (.b 5 rfl)) (.k (rem_ .k (.g 1 rfl) .c (by decide) (Int.tmod_eq_emod_of_nonneg (by omega))) (.k (mkrow .k rwI (.k (.g 2 rfl) .n) rfl rfl (by kernel_rfl)) (.k (oapp_ .k apI (.g 0 rfl) (.g 3 rfl) (by decide) ⟨(show _=(o++[x % 65536]).map (fun z=>[ic z]) by rw [List.map_append];rfl),⟨rfl,rfl⟩,by rw [List.length_map];omega⟩) (.k (omv .k (.inl rfl) (.g 4 rfl)) .n)))))) [0,1,2,4,5] [5] rfl rfl ?_
   refine Tr.reg [] (.k (mv .k (.b 4 rfl)) (.k (quo_ .k (.g 0 rfl) .c (by decide) (show IntKind.i64.wrap (x.tdiv 65536)=x / 65536 by rw [Int.tdiv_eq_ediv_of_nonneg (by omega)];exact IntWalk.i64_in _ (by omega))) (.k (asg .k (.g 1 rfl)) .n))) [0,1,2,3,5] [2] rfl rfl (Nx.bkN (Nx.go (Tr.reg [(3,2)] (.k (mv .k (.b 3 rfl)) (.k (add_ .k (.g 0 rfl) .c (wr1 (by omega))) (.k (asg .k (.g 1 rfl)) .n))) [0,1,2,4,5] [2] rfl rfl (Nx.again (max l1.length l2.length+2 - (i+1)) (by have:=hp.le;omega) [.b 2 (SP.nm b1 l1) 71 2,.b 3 (SP.nm b2 l2) 71 2,.b 4 (.is nv0) 71 2,.o 5 1 3 ((o++[x % 65536]).map fun z=>[ic z]),.s 6 (iv (x / 65536)),.s 7 (iv (((i+1):Nat):Int))] ⟨(i+1),(o++[x % 65536]),(x / 65536),(hp.succ dx dy hg hx),rfl,rfl⟩ (Sub.all (.cons 0 rfl (.cons 1 rfl (.cons 2 rfl (.cons 3 rfl (.cons 4 rfl (.cons 5 rfl .nil)))))))))))
  ·
   have hg:i < l1.length∨i < l2.length∨c > 0 := .inr (.inl c2)
   refine Tr.seq (Tr.rs [] (.k (mv .k (.b 5 rfl)) (.k (faddr .k (.b 0 rfl) rfl fND) (.k (ldc .k (.g 1 rfl) (.b 0 rfl) tyvI) (.k (len_ .k rwI (.g 2 rfl) (by rw [List.length_map])) (.k (lt_ .k (.g 0 rfl) (.g 3 rfl) (dF (by omega))) (.k (mv .k (.g 4 rfl)) (.k (mv (.o 5 rfl rfl rfl) (.b 5 rfl)) (.k (faddr (.o 5 rfl rfl rfl) (.b 1 rfl) rfl fND) (.k (ldc (.o 5 rfl rfl rfl) (.g 7 rfl) (.b 1 rfl) tyvI) (.k (len_ (.o 5 rfl rfl rfl) rwI (.g 8 rfl) (by rw [List.length_map])) (.k (lt_ (.o 5 rfl rfl rfl) (.g 6 rfl) (.g 9 rfl) (dT (by omega))) (.k (pickF .k (.g 5 rfl) (.g 10 rfl)) (.k (mv .k (.g 11 rfl)) (.k (skp (.o 12 rfl rfl rfl)) (.k (skp (.o 12 rfl rfl rfl)) (.k (pickT .k (.g 12 rfl) .c) .n)))))))))))))))) [0,1,2,3,4,5] [15] rfl rfl ?_)
   refine Tr.cond 6 rfl (fun _=>?_) nofun
   refine Tr.skip (Nx.go (Tr.seq (Tr.block (?_))))
   obtain ⟨x,hx⟩:∃ x,l1.getD i 0+l2.getD i 0+c=x:=⟨_,rfl⟩
   have hb:=hp.bd dx dy hx
   have gx:=dx.at_ i
   have gy:=dy.at_ i
   have hle:=hp.le
   have hln:=hp.len
   refine Tr.ds hmx [] (.k (faddr .k (.b 0 rfl) rfl fND) (.k (ldc .k (.g 0 rfl) (.b 0 rfl) tyvI) (.k (mv .k (.b 5 rfl)) (.k (cal .k Tryz.func83 rfl fn_digit (.k (.g 1 rfl) (.k (.g 2 rfl) .n))) (.k (faddr .k (.b 1 rfl) rfl fND) (.k (ldc .k (.g 4 rfl) (.b 1 rfl) tyvI) (.k (mv .k (.b 5 rfl)) (.k (cal .k Tryz.func83 rfl fn_digit (.k (.g 5 rfl) (.k (.g 6 rfl) .n))) (.k (add_ .k (.g 3 rfl) (.g 7 rfl) (IntWalk.i64_in _ (by omega))) (.k (mv .k (.b 4 rfl)) (.k (add_ .k (.g 8 rfl) (.g 9 rfl) (show _=x by rw [IntWalk.i64_in _ (by omega)];exact hx)) (.k (asg .k (.g 10 rfl)) .n)))))))))))) [0,1,2,3,5] [11] rfl rfl ?_
   refine Tr.rs [(3,0),(1000,4),(1004,5)] (.k (omv .k (.inr rfl) (.b 3 rfl)) (.k (mv .k (.b 5 rfl)) (.k (rem_ .k (.g 1 rfl) .c (by decide) (Int.tmod_eq_emod_of_nonneg (by omega))) (.k (mkrow .k rwI (.k (.g 2 rfl) .n) rfl rfl (by kernel_rfl)) (.k (oapp_ .k apI (.g 0 rfl) (.g 3 rfl) (by decide) ⟨(show _=(o++[x % 65536]).map (fun z=>[ic z]) by rw [List.map_append];rfl),⟨rfl,rfl⟩,by rw [List.length_map];omega⟩) (.k (omv .k (.inl rfl) (.g 4 rfl)) .n)))))) [0,1,2,4,5] [5] rfl rfl ?_
   refine Tr.reg [] (.k (mv .k (.b 4 rfl)) (.k (quo_ .k (.g 0 rfl) .c (by decide) (show IntKind.i64.wrap (x.tdiv 65536)=x / 65536 by rw [Int.tdiv_eq_ediv_of_nonneg (by omega)];exact IntWalk.i64_in _ (by omega))) (.k (asg .k (.g 1 rfl)) .n))) [0,1,2,3,5] [2] rfl rfl (Nx.bkN (Nx.go (Tr.reg [(3,2)] (.k (mv .k (.b 3 rfl)) (.k (add_ .k (.g 0 rfl) .c (wr1 (by omega))) (.k (asg .k (.g 1 rfl)) .n))) [0,1,2,4,5] [2] rfl rfl (Nx.again (max l1.length l2.length+2 - (i+1)) (by have:=hp.le;omega) [.b 2 (SP.nm b1 l1) 71 2,.b 3 (SP.nm b2 l2) 71 2,.b 4 (.is nv0) 71 2,.o 5 1 3 ((o++[x % 65536]).map fun z=>[ic z]),.s 6 (iv (x / 65536)),.s 7 (iv (((i+1):Nat):Int))] ⟨(i+1),(o++[x % 65536]),(x / 65536),(hp.succ dx dy hg hx),rfl,rfl⟩ (Sub.all (.cons 0 rfl (.cons 1 rfl (.cons 2 rfl (.cons 3 rfl (.cons 4 rfl (.cons 5 rfl .nil)))))))))))
  ·
   have hg:i < l1.length∨i < l2.length∨c > 0 := .inr (.inr c3)
   refine Tr.seq (Tr.rs [] (.k (mv .k (.b 5 rfl)) (.k (faddr .k (.b 0 rfl) rfl fND) (.k (ldc .k (.g 1 rfl) (.b 0 rfl) tyvI) (.k (len_ .k rwI (.g 2 rfl) (by rw [List.length_map])) (.k (lt_ .k (.g 0 rfl) (.g 3 rfl) (dF (by omega))) (.k (mv .k (.g 4 rfl)) (.k (mv (.o 5 rfl rfl rfl) (.b 5 rfl)) (.k (faddr (.o 5 rfl rfl rfl) (.b 1 rfl) rfl fND) (.k (ldc (.o 5 rfl rfl rfl) (.g 7 rfl) (.b 1 rfl) tyvI) (.k (len_ (.o 5 rfl rfl rfl) rwI (.g 8 rfl) (by rw [List.length_map])) (.k (lt_ (.o 5 rfl rfl rfl) (.g 6 rfl) (.g 9 rfl) (dF (by omega))) (.k (pickF .k (.g 5 rfl) (.g 10 rfl)) (.k (mv .k (.g 11 rfl)) (.k (mv (.o 12 rfl rfl rfl) (.b 4 rfl)) (.k (gt_ (.o 12 rfl rfl rfl) (.g 13 rfl) .c (decide_eq_true c3)) (.k (pickF .k (.g 12 rfl) (.g 14 rfl)) .n)))))))))))))))) [0,1,2,3,4,5] [15] rfl rfl ?_)
   refine Tr.cond 6 rfl (fun _=>?_) nofun
   refine Tr.skip (Nx.go (Tr.seq (Tr.block (?_))))
   obtain ⟨x,hx⟩:∃ x,l1.getD i 0+l2.getD i 0+c=x:=⟨_,rfl⟩
   have hb:=hp.bd dx dy hx
   have gx:=dx.at_ i
   have gy:=dy.at_ i
   have hle:=hp.le
   have hln:=hp.len
   refine Tr.ds hmx [] (.k (faddr .k (.b 0 rfl) rfl fND) (.k (ldc .k (.g 0 rfl) (.b 0 rfl) tyvI) (.k (mv .k (.b 5 rfl)) (.k (cal .k Tryz.func83 rfl fn_digit (.k (.g 1 rfl) (.k (.g 2 rfl) .n))) (.k (faddr .k (.b 1 rfl) rfl fND) (.k (ldc .k (.g 4 rfl) (.b 1 rfl) tyvI) (.k (mv .k (.b 5 rfl)) (.k (cal .k Tryz.func83 rfl fn_digit (.k (.g 5 rfl) (.k (.g 6 rfl) .n))) (.k (add_ .k (.g 3 rfl) (.g 7 rfl) (IntWalk.i64_in _ (by omega))) (.k (mv .k (.b 4 rfl)) (.k (add_ .k (.g 8 rfl) (.g 9 rfl) (show _=x by rw [IntWalk.i64_in _ (by omega)];exact hx)) (.k (asg .k (.g 10 rfl)) .n)))))))))))) [0,1,2,3,5] [11] rfl rfl ?_
   refine Tr.rs [(3,0),(1000,4),(1004,5)] (.k (omv .k (.inr rfl) (.b 3 rfl)) (.k (mv .k (.b 5 rfl)) (.k (rem_ .k (.g 1 rfl) .c (by decide) (Int.tmod_eq_emod_of_nonneg (by omega))) (.k (mkrow .k rwI (.k (.g 2 rfl) .n) rfl rfl (by kernel_rfl)) (.k (oapp_ .k apI (.g 0 rfl) (.g 3 rfl) (by decide) ⟨(show _=(o++[x % 65536]).map (fun z=>[ic z]) by rw [List.map_append];rfl),⟨rfl,rfl⟩,by rw [List.length_map];omega⟩) (.k (omv .k (.inl rfl) (.g 4 rfl)) .n)))))) [0,1,2,4,5] [5] rfl rfl ?_
   refine Tr.reg [] (.k (mv .k (.b 4 rfl)) (.k (quo_ .k (.g 0 rfl) .c (by decide) (show IntKind.i64.wrap (x.tdiv 65536)=x / 65536 by rw [Int.tdiv_eq_ediv_of_nonneg (by omega)];exact IntWalk.i64_in _ (by omega))) (.k (asg .k (.g 1 rfl)) .n))) [0,1,2,3,5] [2] rfl rfl (Nx.bkN (Nx.go (Tr.reg [(3,2)] (.k (mv .k (.b 3 rfl)) (.k (add_ .k (.g 0 rfl) .c (wr1 (by omega))) (.k (asg .k (.g 1 rfl)) .n))) [0,1,2,4,5] [2] rfl rfl (Nx.again (max l1.length l2.length+2 - (i+1)) (by have:=hp.le;omega) [.b 2 (SP.nm b1 l1) 71 2,.b 3 (SP.nm b2 l2) 71 2,.b 4 (.is nv0) 71 2,.o 5 1 3 ((o++[x % 65536]).map fun z=>[ic z]),.s 6 (iv (x / 65536)),.s 7 (iv (((i+1):Nat):Int))] ⟨(i+1),(o++[x % 65536]),(x / 65536),(hp.succ dx dy hg hx),rfl,rfl⟩ (Sub.all (.cons 0 rfl (.cons 1 rfl (.cons 2 rfl (.cons 3 rfl (.cons 4 rfl (.cons 5 rfl .nil)))))))))))
  ·
   have hl:=hp.last c1 c2 c3
   refine Tr.seq (Tr.rs [] (.k (mv .k (.b 5 rfl)) (.k (faddr .k (.b 0 rfl) rfl fND) (.k (ldc .k (.g 1 rfl) (.b 0 rfl) tyvI) (.k (len_ .k rwI (.g 2 rfl) (by rw [List.length_map])) (.k (lt_ .k (.g 0 rfl) (.g 3 rfl) (dF (by omega))) (.k (mv .k (.g 4 rfl)) (.k (mv (.o 5 rfl rfl rfl) (.b 5 rfl)) (.k (faddr (.o 5 rfl rfl rfl) (.b 1 rfl) rfl fND) (.k (ldc (.o 5 rfl rfl rfl) (.g 7 rfl) (.b 1 rfl) tyvI) (.k (len_ (.o 5 rfl rfl rfl) rwI (.g 8 rfl) (by rw [List.length_map])) (.k (lt_ (.o 5 rfl rfl rfl) (.g 6 rfl) (.g 9 rfl) (dF (by omega))) (.k (pickF .k (.g 5 rfl) (.g 10 rfl)) (.k (mv .k (.g 11 rfl)) (.k (mv (.o 12 rfl rfl rfl) (.b 4 rfl)) (.k (gt_ (.o 12 rfl rfl rfl) (.g 13 rfl) .c (decide_eq_false c3)) (.k (pickF .k (.g 12 rfl) (.g 14 rfl)) .n)))))))))))))))) [0,1,2,3,4,5] [15] rfl rfl ?_)
   refine Tr.cond 6 rfl nofun (fun _=>?_)
   refine Tr.exit (Nx.thX (Nx.thX (Nx.bkX (Nx.go (?_)))))
   have hle:=hp.le
   have hln:=hp.len
   refine Tr.rs [(2,4),(3,2)] (.k (faddr .k (.b 0 rfl) rfl fNM) (.k (ldc .k (.g 0 rfl) (.b 0 rfl) tyB) (.k (frz .k (.inr rfl) (.b 3 rfl)) (.k (cal .k Tryz.func84 rfl (num_le (L':=max L1 L2+1) (z':=z1+z2) (fn_trim hp.dig (by omega)) (by omega) (by rw [hl];exact hs)) (.k (.g 1 rfl) (.k (.g 2 rfl) .n))) (.k (sto .k (.b 2 rfl) (.g 3 rfl) tyN) .n))))) [] [4] rfl rfl ?_
   refine Tr.ret (end_cell 0 rfl rfl tyN)
 ·
  obtain ⟨p,q,hpq⟩:=sub_ways hN1 hN2 hbb
  obtain ⟨_,_,d1,d2,zq,hle2,hw,hr⟩:=id hpq
  refine Tr.seq (Tr.rs [] (.k (faddr .k (.b 0 rfl) rfl fNM) (.k (ldc .k (.g 0 rfl) (.b 0 rfl) tyB) (.k (faddr .k (.b 1 rfl) rfl fNM) (.k (ldc .k (.g 2 rfl) (.b 1 rfl) tyB) (.k (eqB_ .k Tryz.underlying4 (.g 1 rfl) (.g 3 rfl) (beq_eq_false_iff_ne.2 hbb)) .n))))) [0,1,2,3,4] [4] rfl rfl ?_)
  refine Tr.cond 5 rfl nofun (fun _=>?_)
  refine Tr.skip (Nx.go (Tr.rs [] (.k (ld .k (.b 0 rfl) tyN) (.k (ala .k zN) (.k (sta .k (.g 1 rfl) (.g 0 rfl) tyN) .n))) [0,1,2,3,4] [2] rfl rfl ?_))
  refine Tr.rs [] (.k (ld .k (.b 1 rfl) tyN) (.k (ala .k zN) (.k (sta .k (.g 1 rfl) (.g 0 rfl) tyN) .n))) [0,1,2,3,4,5] [2] rfl rfl ?_
  refine Tr.cut [.b 9 (SP.nm p.1 p.2) 71 2,.b 10 (SP.nm q.1 q.2) 71 2,.b 4 (.is nv0) 71 2,.o 5 1 3 (([]:List Int).map fun z=>[ic z]),.s 6 (iv 0)] ?_ ?_
  ·
   refine Tr.rs [] (.k (faddr .k (.b 0 rfl) rfl fND) (.k (ldc .k (.g 0 rfl) (.b 0 rfl) tyvI) (.k (faddr .k (.b 1 rfl) rfl fND) (.k (ldc .k (.g 2 rfl) (.b 1 rfl) tyvI) (.k (cal .k Tryz.func85 rfl (fn_sizeN dx dy (by omega) (by omega)) (.k (.g 1 rfl) (.k (.g 3 rfl) .n))) (.k (lt_ .k (.g 4 rfl) .c rfl) .n)))))) [0,1,2,3,4,5,6] [5] rfl rfl ?_
   refine Tr.cond 7 rfl (fun e65=>?_) (fun e65=>?_)
   ·
    refine Tr.rs [(5,1)] (.k (ld .k (.b 1 rfl) tyN) (.k (sto .k (.b 5 rfl) (.g 0 rfl) tyN) .n)) [0,2,3,4,6] [1] rfl rfl ?_
    refine Tr.reg [(4,1)] (.k (ld .k (.b 0 rfl) tyN) (.k (sto .k (.b 4 rfl) (.g 0 rfl) tyN) .n)) [1,2,3,5] [1] rfl rfl (?_)
    obtain ⟨rfl,rfl⟩:=hpq.1 ((sizeN_lt dx dy zx zy).1 (of_decide_eq_true e65))
    refine Nx.met _ (Sub.all (.cons 3 rfl (.cons 4 rfl (.cons 0 rfl (.cons 1 rfl (.cons 2 rfl .nil))))))
   ·
    refine Tr.skip (?_)
    obtain ⟨rfl,rfl⟩:=hpq.2.1 (fun h=>of_decide_eq_false e65 ((sizeN_lt dx dy zx zy).2 h))
    refine Nx.met _ (Sub.all (.cons 5 rfl (.cons 6 rfl (.cons 2 rfl (.cons 3 rfl (.cons 4 rfl .nil))))))
  ·
   refine Tr.seq (Tr.rs [] (.k (asg .k .c) .n) [0,1,2,3,4] [0] rfl rfl ?_)
   refine Tr.block (?_)
   refine Tr.loop (fun n_ F_=>∃ i:Nat,∃ o:List Int,∃ c:Int,(Mns p.2 q.2 i o c)∧n_=p.2.length - i∧F_=[.b 9 (SP.nm p.1 p.2) 71 2,.b 10 (SP.nm q.1 q.2) 71 2,.b 4 (.is nv0) 71 2,.o 5 1 3 (o.map fun z=>[ic z]),.s 6 (iv c),.s 11 (iv ((i:Nat):Int))]) (p.2.length - 0) (F0:=[.b 9 (SP.nm p.1 p.2) 71 2,.b 10 (SP.nm q.1 q.2) 71 2,.b 4 (.is nv0) 71 2,.o 5 1 3 ([].map fun z=>[ic z]),.s 6 (iv 0),.s 11 (iv ((0:Nat):Int))]) ⟨0,[],0,Mns.zero,rfl,rfl⟩ (Sub.all (.cons 0 rfl (.cons 1 rfl (.cons 2 rfl (.cons 3 rfl (.cons 4 rfl (.cons 5 rfl .nil))))))) (fun n_ F_ hI=>?_)
   obtain ⟨i,o,c,hp,rfl,rfl⟩:=hI
   refine Tr.seq (Tr.rs [] (.k (mv .k (.b 5 rfl)) (.k (faddr .k (.b 0 rfl) rfl fND) (.k (ldc .k (.g 1 rfl) (.b 0 rfl) tyvI) (.k (len_ .k rwI (.g 2 rfl) (by rw [List.length_map])) (.k (lt_ .k (.g 0 rfl) (.g 3 rfl) rfl) .n))))) [0,1,2,3,4,5] [4] rfl rfl ?_)
   refine Tr.cond 6 rfl (fun e72=>?_) (fun e72=>?_)
   ·
    have hi2:i < p.2.length:=by have:=of_decide_eq_true e72;omega
    refine Tr.skip (Nx.go (Tr.seq (Tr.block (?_))))
    obtain ⟨x,hx⟩:∃ x,p.2.getD i 0 - q.2.getD i 0 - c=x:=⟨_,rfl⟩
    have hb:=hp.bd d1 d2 hx
    have gx:=d1.at_ i
    have gy:=d2.at_ i
    have hle:=hp.le
    have hln:=hp.len
    refine Tr.ds hmx [] (.k (faddr .k (.b 0 rfl) rfl fND) (.k (ldc .k (.g 0 rfl) (.b 0 rfl) tyvI) (.k (mv .k (.b 5 rfl)) (.k (idx_ .k rwI (.g 1 rfl) (.g 2 rfl) rfl (at_dig hi2)) (.k (ldc_at .k (.g 3 rfl) tyI) (.k (faddr .k (.b 1 rfl) rfl fND) (.k (ldc .k (.g 5 rfl) (.b 1 rfl) tyvI) (.k (mv .k (.b 5 rfl)) (.k (cal .k Tryz.func83 rfl fn_digit (.k (.g 6 rfl) (.k (.g 7 rfl) .n))) (.k (sub_ .k (.g 4 rfl) (.g 8 rfl) (IntWalk.i64_in _ (by omega))) (.k (mv .k (.b 4 rfl)) (.k (sub_ .k (.g 9 rfl) (.g 10 rfl) (show _=x by rw [IntWalk.i64_in _ (by omega)];exact hx)) (.k (asg .k (.g 11 rfl)) .n))))))))))))) [0,1,2,3,5] [12] rfl rfl ?_
    refine Tr.rs [] (.k (asg .k .c) .n) [0,1,2,3,4,5] [0] rfl rfl ?_
    by_cases hneg:x < 0
    ·
     refine Tr.seq (Tr.rs [] (.k (mv .k (.b 5 rfl)) (.k (lt_ .k (.g 0 rfl) .c (decide_eq_true hneg)) .n)) [0,1,2,3,4,5,6] [1] rfl rfl ?_)
     refine Tr.cond 7 rfl (fun _=>?_) nofun
     refine Tr.rs [(5,2)] (.k (mv .k (.b 5 rfl)) (.k (add_ .k (.g 0 rfl) .c (IntWalk.i64_in _ (by omega))) (.k (asg .k (.g 1 rfl)) .n))) [0,1,2,3,4] [2] rfl rfl ?_
     refine Tr.reg [] (.k (asg .k .c) .n) [0,1,2,3,4,5] [0] rfl rfl (Nx.go (Tr.reg [(3,0),(1000,3),(1003,4)] (.k (omv .k (.inr rfl) (.b 3 rfl)) (.k (mv .k (.b 5 rfl)) (.k (mkrow .k rwI (.k (.g 1 rfl) .n) rfl rfl (by kernel_rfl)) (.k (oapp_ .k apI (.g 0 rfl) (.g 2 rfl) (by decide) ⟨(show _=(o++[x+65536]).map (fun z=>[ic z]) by rw [List.map_append];rfl),⟨rfl,rfl⟩,by rw [List.length_map];omega⟩) (.k (omv .k (.inl rfl) (.g 3 rfl)) .n))))) [0,1,2,4,6] [4] rfl rfl (Nx.bkN (Nx.go (Tr.reg [(3,2)] (.k (mv .k (.b 3 rfl)) (.k (add_ .k (.g 0 rfl) .c (wr1 (by omega))) (.k (asg .k (.g 1 rfl)) .n))) [0,1,2,4,5] [2] rfl rfl (Nx.again (p.2.length - (i+1)) (by omega) [.b 9 (SP.nm p.1 p.2) 71 2,.b 10 (SP.nm q.1 q.2) 71 2,.b 4 (.is nv0) 71 2,.o 5 1 3 ((o++[x+65536]).map fun z=>[ic z]),.s 6 (iv 1),.s 11 (iv (((i+1):Nat):Int))] ⟨(i+1),(o++[x+65536]),1,(hp.neg d1 d2 hi2 hx hneg),rfl,rfl⟩ (Sub.all (.cons 0 rfl (.cons 1 rfl (.cons 2 rfl (.cons 4 rfl (.cons 3 rfl (.cons 5 rfl .nil)))))))))))))
    ·
     refine Tr.seq (Tr.rs [] (.k (mv .k (.b 5 rfl)) (.k (lt_ .k (.g 0 rfl) .c (decide_eq_false hneg)) .n)) [0,1,2,3,4,5,6] [1] rfl rfl ?_)
     refine Tr.cond 7 rfl nofun (fun _=>?_)
     refine Tr.skip (Nx.go (Tr.reg [(3,0),(1000,3),(1003,4)] (.k (omv .k (.inr rfl) (.b 3 rfl)) (.k (mv .k (.b 5 rfl)) (.k (mkrow .k rwI (.k (.g 1 rfl) .n) rfl rfl (by kernel_rfl)) (.k (oapp_ .k apI (.g 0 rfl) (.g 2 rfl) (by decide) ⟨(show _=(o++[x]).map (fun z=>[ic z]) by rw [List.map_append];rfl),⟨rfl,rfl⟩,by rw [List.length_map];omega⟩) (.k (omv .k (.inl rfl) (.g 3 rfl)) .n))))) [0,1,2,4,6] [4] rfl rfl (Nx.bkN (Nx.go (Tr.reg [(3,2)] (.k (mv .k (.b 3 rfl)) (.k (add_ .k (.g 0 rfl) .c (wr1 (by omega))) (.k (asg .k (.g 1 rfl)) .n))) [0,1,2,4,5] [2] rfl rfl (Nx.again (p.2.length - (i+1)) (by omega) [.b 9 (SP.nm p.1 p.2) 71 2,.b 10 (SP.nm q.1 q.2) 71 2,.b 4 (.is nv0) 71 2,.o 5 1 3 ((o++[x]).map fun z=>[ic z]),.s 6 (iv 0),.s 11 (iv (((i+1):Nat):Int))] ⟨(i+1),(o++[x]),0,(hp.pos d1 d2 hi2 hx hneg),rfl,rfl⟩ (Sub.all (.cons 0 rfl (.cons 1 rfl (.cons 2 rfl (.cons 4 rfl (.cons 3 rfl (.cons 5 rfl .nil)))))))))))))
   ·
    have hi2:¬ i < p.2.length:=by have:=of_decide_eq_false e72;omega
    refine Tr.exit (Nx.thX (Nx.thX (Nx.bkX (Nx.go (?_)))))
    obtain ⟨hv,hln⟩:=hp.last d1 d2 zq hle2 hi2
    refine Tr.rs [(2,4),(3,2)] (.k (faddr .k (.b 0 rfl) rfl fNM) (.k (ldc .k (.g 0 rfl) (.b 0 rfl) tyB) (.k (frz .k (.inr rfl) (.b 3 rfl)) (.k (cal .k Tryz.func84 rfl (num_le (L':=max L1 L2+1) (z':=z1+z2) (fn_trim hp.dig (by omega)) (by omega) (by rw [hv];exact hr)) (.k (.g 1 rfl) (.k (.g 2 rfl) .n))) (.k (sto .k (.b 2 rfl) (.g 3 rfl) tyN) .n))))) [] [4] rfl rfl ?_
    refine Tr.ret (end_cell 0 rfl rfl tyN)
theorem fn_plus {L1 L2:Nat} {z1 z2:Int} (h1:L1≤1000000) (h2:L2≤1000000):FnC Tryz.prog 45 [.num L1 z1,.num L2 z2] (.num (max L1 L2+1) (z1+z2)):=num_of2 fun b1 l1 b2 l2 hN1 hN2=>fn_plus1 h1 h2 hN1 hN2
theorem at_h {d:List Int} {k:Nat} (h:k < d.length):(d.map ic)[k]?=some (ic (d.getD k 0)):=by
  rw [List.getElem?_map,List.getD_eq_getElem?_getD,List.getElem?_eq_getElem h]
  rfl
theorem set_h (d:List Int) (k:Nat) (x:Int):(d.map ic).set k (ic x)=(d.set k x).map ic:=by rw [List.map_set]
theorem flat_d (d:List Int):d.map ic=(d.map fun z=>[ic z]).flatten:=by induction d with
  | nil=>rfl
  | cons x d ih=>rw [List.map_cons,ih];rfl
theorem one_d (d:List Int):∀ r∈d.map (fun z=>[ic z]),r.length=1:=by
  intro r hr
  obtain ⟨z,_,rfl⟩:=List.mem_map.1 hr
  rfl
theorem mul_sign {L1 L2:Nat} {b1 b2:Bool} {l1 l2:List Int} {z1 z2:Int} (h1:NumP L1 b1 l1 z1) (h2:NumP L2 b2 l2 z2):(if b1 != b2 then -(val l1 * val l2) else val l1 * val l2)=z1 * z2:=by
  rw [h1.2.2.2.1,h2.2.2.2.1]
  cases b1<;>cases b2<;>simp<;>grind
theorem fn_times1 {L1 L2:Nat} {b1 b2:Bool} {l1 l2:List Int} {z1 z2:Int} (h1:L1≤1000000) (h2:L2≤1000000) (hN1:NumP L1 b1 l1 z1) (hN2:NumP L2 b2 l2 z2):FnC Tryz.prog 71 [SP.nm b1 l1,SP.nm b2 l2] (.num (L1+L2+1) (z1 * z2)):=by
 refine FnC.of (N:=72) Tryz.func71 rfl rfl (Nat.le_of_ble_eq_true rfl) (fun w0 ok0=>?_)
 refine Tr.rs [] (.k (bxx .k (.b 0 rfl)) (.k (bxx .k (.b 1 rfl)) (.k (alc .k zN) .n))) [] [0,1,2] rfl rfl ?_
 obtain ⟨dx,zx,m1,e1,w1⟩:=id hN1
 obtain ⟨dy,zy,m2,e2,w2⟩:=id hN2
 have hs:=mul_sign hN1 hN2
 refine Tr.gos (Go.k (faddr .k (.b 0 rfl) rfl fND) [0,1,2] rfl rfl (Go.k (ldc .k (.b 0 rfl) (.b 1 rfl) tyvI) [1,2,3] rfl rfl (Go.k (len_ .k rwI (.b 0 rfl) (by rw [List.length_map])) [1,2,3] rfl rfl (Go.k (faddr .k (.b 2 rfl) rfl fND) [0,1,2,3] rfl rfl (Go.k (ldc .k (.b 0 rfl) (.b 3 rfl) tyvI) [1,2,3,4] rfl rfl (Go.k (len_ .k rwI (.b 0 rfl) (by rw [List.length_map])) [1,2,3,4] rfl rfl (Go.k (add_ .k (.b 1 rfl) (.b 0 rfl) (show IntKind.i64.wrap ((l1.length:Int)+(l2.length:Int))=((l1.length+l2.length:Nat):Int) by rw [IntWalk.i64_in _ (by omega)];omega)) [2,3,4] rfl rfl (Go.k (add_ .k (.b 0 rfl) .c (show IntKind.i64.wrap (((l1.length+l2.length:Nat):Int)+1)=((l1.length+l2.length+1:Nat):Int) by rw [IntWalk.i64_in _ (by omega)];omega)) [1,2,3] rfl rfl (Go.mk 1 .k mkI (.b 0 rfl) (.b 0 rfl) rfl rfl (by omega) (by unfold maxLen;omega) [1,2,3] rfl rfl fun g1=>(Go.k (asg .k (.b 0 rfl)) [1,2,3,4] rfl rfl (Go.end_ (Nx.go (?_)))))))))))))
 rw [show List.replicate ((l1.length+l2.length+1) * 1) (Value.int IntKind.i64 0)=(List.replicate (l1.length+l2.length+1) 0).map ic by rw [Nat.mul_one,List.map_replicate]]
 refine Tr.seq (Tr.rs [] (.k (asg .k .c) .n) [0,1,2,3,4] [0] rfl rfl ?_)
 refine Tr.block (?_)
 refine Tr.loop (fun n_ F_=>∃ i:Nat,∃ d:List Int,(Tms l1 l2 i d)∧n_=l1.length - i∧F_=[.b 2 (SP.nm b1 l1) 71 2,.b 3 (SP.nm b2 l2) 71 2,.b 4 (.is nv0) 71 2,.s 5 (.is (.slice (some ⟨g1,0,none⟩) (l1.length+l2.length+1) (l1.length+l2.length+1))),.h 1 g1 (HP.own 3 1 (l1.length+l2.length+1) (l1.length+l2.length+1) (d.map ic)),.s 6 (iv ((i:Nat):Int))]) (l1.length - 0) (F0:=[.b 2 (SP.nm b1 l1) 71 2,.b 3 (SP.nm b2 l2) 71 2,.b 4 (.is nv0) 71 2,.s 5 (.is (.slice (some ⟨g1,0,none⟩) (l1.length+l2.length+1) (l1.length+l2.length+1))),.h 1 g1 (HP.own 3 1 (l1.length+l2.length+1) (l1.length+l2.length+1) ((List.replicate (l1.length+l2.length+1) 0).map ic)),.s 6 (iv ((0:Nat):Int))]) ⟨0,(List.replicate (l1.length+l2.length+1) 0),Tms.first,rfl,rfl⟩ (Sub.all (.cons 2 rfl (.cons 3 rfl (.cons 4 rfl (.cons 0 rfl (.cons 1 rfl (.cons 5 rfl .nil))))))) (fun n_ F_ hI=>?_)
 obtain ⟨i,d,ht,rfl,rfl⟩:=hI
 refine Tr.seq (Tr.rs [] (.k (mv .k (.b 5 rfl)) (.k (faddr .k (.b 0 rfl) rfl fND) (.k (ldc .k (.g 1 rfl) (.b 0 rfl) tyvI) (.k (len_ .k rwI (.g 2 rfl) (by rw [List.length_map])) (.k (lt_ .k (.g 0 rfl) (.g 3 rfl) rfl) .n))))) [0,1,2,3,4,5] [4] rfl rfl ?_)
 refine Tr.cond 6 rfl (fun e23=>?_) (fun e23=>?_)
 ·
  have hi2:i < l1.length:=by have:=of_decide_eq_true e23;omega
  refine Tr.skip (Nx.go (Tr.seq (Tr.block (Tr.rs [] (.k (asg .k .c) .n) [0,1,2,3,4,5] [0] rfl rfl ?_))))
  refine Tr.rs [] (.k (asg .k .c) .n) [0,1,2,3,4,5,6] [0] rfl rfl ?_
  refine Tr.block (?_)
  refine Tr.loop (fun n_ F_=>∃ k:Nat,∃ d2:List Int,∃ c:Int,(Tmk l1 l2 i k d2 c)∧n_=l2.length+2 - k∧F_=[.b 2 (SP.nm b1 l1) 71 2,.b 3 (SP.nm b2 l2) 71 2,.b 4 (.is nv0) 71 2,.s 5 (.is (.slice (some ⟨g1,0,none⟩) (l1.length+l2.length+1) (l1.length+l2.length+1))),.h 1 g1 (HP.own 3 1 (l1.length+l2.length+1) (l1.length+l2.length+1) (d2.map ic)),.s 6 (iv ((i:Nat):Int)),.s 7 (iv c),.s 8 (iv ((k:Nat):Int))]) (l2.length+2 - 0) (F0:=[.b 2 (SP.nm b1 l1) 71 2,.b 3 (SP.nm b2 l2) 71 2,.b 4 (.is nv0) 71 2,.s 5 (.is (.slice (some ⟨g1,0,none⟩) (l1.length+l2.length+1) (l1.length+l2.length+1))),.h 1 g1 (HP.own 3 1 (l1.length+l2.length+1) (l1.length+l2.length+1) (d.map ic)),.s 6 (iv ((i:Nat):Int)),.s 7 (iv 0),.s 8 (iv ((0:Nat):Int))]) ⟨0,d,0,(Tmk.first ht),rfl,rfl⟩ (Sub.all (.cons 0 rfl (.cons 1 rfl (.cons 2 rfl (.cons 3 rfl (.cons 4 rfl (.cons 5 rfl (.cons 6 rfl (.cons 7 rfl .nil))))))))) (fun n_ F_ hI=>?_)
  obtain ⟨k,d2,c,hk,rfl,rfl⟩:=hI
  rcases (show k < l2.length∨(¬ k < l2.length∧c > 0)∨(¬ k < l2.length∧¬ c > 0) by omega) with c1|⟨c1,c2⟩|⟨c1,c2⟩
  ·
   have hg:k < l2.length∨c > 0 := .inl c1
   refine Tr.seq (Tr.rs [] (.k (mv .k (.b 7 rfl)) (.k (faddr .k (.b 1 rfl) rfl fND) (.k (ldc .k (.g 1 rfl) (.b 1 rfl) tyvI) (.k (len_ .k rwI (.g 2 rfl) (by rw [List.length_map])) (.k (lt_ .k (.g 0 rfl) (.g 3 rfl) (dT (by omega))) (.k (mv .k (.g 4 rfl)) (.k (skp (.o 5 rfl rfl rfl)) (.k (skp (.o 5 rfl rfl rfl)) (.k (pickT .k (.g 5 rfl) .c) .n))))))))) [0,1,2,3,4,5,6,7] [8] rfl rfl ?_)
   refine Tr.cond 8 rfl (fun _=>?_) nofun
   refine Tr.skip (Nx.go (Tr.seq (Tr.block (?_))))
   have hkm:=hk.k_le hg
   obtain ⟨q,hq⟩:∃ q,l1.getD i 0 * l2.getD k 0=q:=⟨_,rfl⟩
   obtain ⟨x,hx⟩:∃ x,d2.getD (i+k) 0+q+c=x:=⟨_,rfl⟩
   have hb:=hk.bd dx dy hq
   have hc0:=hk.c0
   have hc1:=hk.c1
   have hln:=hk.len
   refine Tr.ds hmx [] (.k (mv .k (.b 3 rfl)) (.k (mv .k (.b 5 rfl)) (.k (mv .k (.b 7 rfl)) (.k (add_ .k (.g 1 rfl) (.g 2 rfl) (show IntKind.i64.wrap ((i:Int)+(k:Int))=((i+k:Nat):Int) by rw [IntWalk.i64_in _ (by omega)];omega)) (.k (idxn .k rwI (.g 0 rfl) (.g 3 rfl) rfl (by omega) (Nat.mul_one _)) (.k (ldn .k (.g 4 rfl) (.b 4 rfl) tyI (at_h (show i+k < d2.length by omega))) (.k (faddr .k (.b 0 rfl) rfl fND) (.k (ldc .k (.g 6 rfl) (.b 0 rfl) tyvI) (.k (mv .k (.b 5 rfl)) (.k (idx_ .k rwI (.g 7 rfl) (.g 8 rfl) rfl (at_dig hi2)) (.k (ldc_at .k (.g 9 rfl) tyI) (.k (faddr .k (.b 1 rfl) rfl fND) (.k (ldc .k (.g 11 rfl) (.b 1 rfl) tyvI) (.k (mv .k (.b 7 rfl)) (.k (cal .k Tryz.func83 rfl fn_digit (.k (.g 12 rfl) (.k (.g 13 rfl) .n))) (.k (mul_ .k (.g 10 rfl) (.g 14 rfl) (show _=q by rw [hq];exact IntWalk.i64_in _ (by omega))) (.k (add_ .k (.g 5 rfl) (.g 15 rfl) (IntWalk.i64_in _ (by omega))) (.k (mv .k (.b 6 rfl)) (.k (add_ .k (.g 16 rfl) (.g 17 rfl) (show _=x by rw [IntWalk.i64_in _ (by omega)];exact hx)) (.k (asg .k (.g 18 rfl)) .n)))))))))))))))))))) [0,1,2,3,4,5,7] [19] rfl rfl ?_
   refine Tr.rs [(4,7)] (.k (mv .k (.b 3 rfl)) (.k (mv .k (.b 5 rfl)) (.k (mv .k (.b 6 rfl)) (.k (add_ .k (.g 1 rfl) (.g 2 rfl) (show IntKind.i64.wrap ((i:Int)+(k:Int))=((i+k:Nat):Int) by rw [IntWalk.i64_in _ (by omega)];omega)) (.k (mv .k (.b 7 rfl)) (.k (rem_ .k (.g 4 rfl) .c (by decide) (Int.tmod_eq_emod_of_nonneg (by omega))) (.k (idxn .k rwI (.g 0 rfl) (.g 3 rfl) rfl (by omega) (Nat.mul_one _)) (.k (sth1 .k (.g 6 rfl) (.b 4 rfl) (.g 5 rfl) szI rfl (by rw [List.length_map];omega) rfl (set_h _ _ _)) .n)))))))) [0,1,2,3,5,6,7] [7] rfl rfl ?_
   refine Tr.reg [] (.k (mv .k (.b 6 rfl)) (.k (quo_ .k (.g 0 rfl) .c (by decide) (show IntKind.i64.wrap (x.tdiv 65536)=x / 65536 by rw [Int.tdiv_eq_ediv_of_nonneg (by omega)];exact IntWalk.i64_in _ (by omega))) (.k (asg .k (.g 1 rfl)) .n))) [0,1,2,3,4,5,7] [2] rfl rfl (Nx.bkN (Nx.go (Tr.reg [(5,2)] (.k (mv .k (.b 5 rfl)) (.k (add_ .k (.g 0 rfl) .c (wr1 (by omega))) (.k (asg .k (.g 1 rfl)) .n))) [0,1,2,3,4,6,7] [2] rfl rfl (Nx.again (l2.length+2 - (k+1)) (by have:=hk.le;omega) [.b 2 (SP.nm b1 l1) 71 2,.b 3 (SP.nm b2 l2) 71 2,.b 4 (.is nv0) 71 2,.s 5 (.is (.slice (some ⟨g1,0,none⟩) (l1.length+l2.length+1) (l1.length+l2.length+1))),.h 1 g1 (HP.own 3 1 (l1.length+l2.length+1) (l1.length+l2.length+1) ((d2.set (i+k) (x % 65536)).map ic)),.s 6 (iv ((i:Nat):Int)),.s 7 (iv (x / 65536)),.s 8 (iv (((k+1):Nat):Int))] ⟨(k+1),(d2.set (i+k) (x % 65536)),(x / 65536),(hk.succ dx dy hi2 hg hq hx),rfl,rfl⟩ (Sub.all (.cons 0 rfl (.cons 1 rfl (.cons 2 rfl (.cons 3 rfl (.cons 5 rfl (.cons 4 rfl (.cons 6 rfl (.cons 7 rfl .nil)))))))))))))
  ·
   have hg:k < l2.length∨c > 0 := .inr c2
   refine Tr.seq (Tr.rs [] (.k (mv .k (.b 7 rfl)) (.k (faddr .k (.b 1 rfl) rfl fND) (.k (ldc .k (.g 1 rfl) (.b 1 rfl) tyvI) (.k (len_ .k rwI (.g 2 rfl) (by rw [List.length_map])) (.k (lt_ .k (.g 0 rfl) (.g 3 rfl) (dF (by omega))) (.k (mv .k (.g 4 rfl)) (.k (mv (.o 5 rfl rfl rfl) (.b 6 rfl)) (.k (gt_ (.o 5 rfl rfl rfl) (.g 6 rfl) .c (decide_eq_true c2)) (.k (pickF .k (.g 5 rfl) (.g 7 rfl)) .n))))))))) [0,1,2,3,4,5,6,7] [8] rfl rfl ?_)
   refine Tr.cond 8 rfl (fun _=>?_) nofun
   refine Tr.skip (Nx.go (Tr.seq (Tr.block (?_))))
   have hkm:=hk.k_le hg
   obtain ⟨q,hq⟩:∃ q,l1.getD i 0 * l2.getD k 0=q:=⟨_,rfl⟩
   obtain ⟨x,hx⟩:∃ x,d2.getD (i+k) 0+q+c=x:=⟨_,rfl⟩
   have hb:=hk.bd dx dy hq
   have hc0:=hk.c0
   have hc1:=hk.c1
   have hln:=hk.len
   refine Tr.ds hmx [] (.k (mv .k (.b 3 rfl)) (.k (mv .k (.b 5 rfl)) (.k (mv .k (.b 7 rfl)) (.k (add_ .k (.g 1 rfl) (.g 2 rfl) (show IntKind.i64.wrap ((i:Int)+(k:Int))=((i+k:Nat):Int) by rw [IntWalk.i64_in _ (by omega)];omega)) (.k (idxn .k rwI (.g 0 rfl) (.g 3 rfl) rfl (by omega) (Nat.mul_one _)) (.k (ldn .k (.g 4 rfl) (.b 4 rfl) tyI (at_h (show i+k < d2.length by omega))) (.k (faddr .k (.b 0 rfl) rfl fND) (.k (ldc .k (.g 6 rfl) (.b 0 rfl) tyvI) (.k (mv .k (.b 5 rfl)) (.k (idx_ .k rwI (.g 7 rfl) (.g 8 rfl) rfl (at_dig hi2)) (.k (ldc_at .k (.g 9 rfl) tyI) (.k (faddr .k (.b 1 rfl) rfl fND) (.k (ldc .k (.g 11 rfl) (.b 1 rfl) tyvI) (.k (mv .k (.b 7 rfl)) (.k (cal .k Tryz.func83 rfl fn_digit (.k (.g 12 rfl) (.k (.g 13 rfl) .n))) (.k (mul_ .k (.g 10 rfl) (.g 14 rfl) (show _=q by rw [hq];exact IntWalk.i64_in _ (by omega))) (.k (add_ .k (.g 5 rfl) (.g 15 rfl) (IntWalk.i64_in _ (by omega))) (.k (mv .k (.b 6 rfl)) (.k (add_ .k (.g 16 rfl) (.g 17 rfl) (show _=x by rw [IntWalk.i64_in _ (by omega)];exact hx)) (.k (asg .k (.g 18 rfl)) .n)))))))))))))))))))) [0,1,2,3,4,5,7] [19] rfl rfl ?_
   refine Tr.rs [(4,7)] (.k (mv .k (.b 3 rfl)) (.k (mv .k (.b 5 rfl)) (.k (mv .k (.b 6 rfl)) (.k (add_ .k (.g 1 rfl) (.g 2 rfl) (show IntKind.i64.wrap ((i:Int)+(k:Int))=((i+k:Nat):Int) by rw [IntWalk.i64_in _ (by omega)];omega)) (.k (mv .k (.b 7 rfl)) (.k (rem_ .k (.g 4 rfl) .c (by decide) (Int.tmod_eq_emod_of_nonneg (by omega))) (.k (idxn .k rwI (.g 0 rfl) (.g 3 rfl) rfl (by omega) (Nat.mul_one _)) (.k (sth1 .k (.g 6 rfl) (.b 4 rfl) (.g 5 rfl) szI rfl (by rw [List.length_map];omega) rfl (set_h _ _ _)) .n)))))))) [0,1,2,3,5,6,7] [7] rfl rfl ?_
   refine Tr.reg [] (.k (mv .k (.b 6 rfl)) (.k (quo_ .k (.g 0 rfl) .c (by decide) (show IntKind.i64.wrap (x.tdiv 65536)=x / 65536 by rw [Int.tdiv_eq_ediv_of_nonneg (by omega)];exact IntWalk.i64_in _ (by omega))) (.k (asg .k (.g 1 rfl)) .n))) [0,1,2,3,4,5,7] [2] rfl rfl (Nx.bkN (Nx.go (Tr.reg [(5,2)] (.k (mv .k (.b 5 rfl)) (.k (add_ .k (.g 0 rfl) .c (wr1 (by omega))) (.k (asg .k (.g 1 rfl)) .n))) [0,1,2,3,4,6,7] [2] rfl rfl (Nx.again (l2.length+2 - (k+1)) (by have:=hk.le;omega) [.b 2 (SP.nm b1 l1) 71 2,.b 3 (SP.nm b2 l2) 71 2,.b 4 (.is nv0) 71 2,.s 5 (.is (.slice (some ⟨g1,0,none⟩) (l1.length+l2.length+1) (l1.length+l2.length+1))),.h 1 g1 (HP.own 3 1 (l1.length+l2.length+1) (l1.length+l2.length+1) ((d2.set (i+k) (x % 65536)).map ic)),.s 6 (iv ((i:Nat):Int)),.s 7 (iv (x / 65536)),.s 8 (iv (((k+1):Nat):Int))] ⟨(k+1),(d2.set (i+k) (x % 65536)),(x / 65536),(hk.succ dx dy hi2 hg hq hx),rfl,rfl⟩ (Sub.all (.cons 0 rfl (.cons 1 rfl (.cons 2 rfl (.cons 3 rfl (.cons 5 rfl (.cons 4 rfl (.cons 6 rfl (.cons 7 rfl .nil)))))))))))))
  ·
   refine Tr.seq (Tr.rs [] (.k (mv .k (.b 7 rfl)) (.k (faddr .k (.b 1 rfl) rfl fND) (.k (ldc .k (.g 1 rfl) (.b 1 rfl) tyvI) (.k (len_ .k rwI (.g 2 rfl) (by rw [List.length_map])) (.k (lt_ .k (.g 0 rfl) (.g 3 rfl) (dF (by omega))) (.k (mv .k (.g 4 rfl)) (.k (mv (.o 5 rfl rfl rfl) (.b 6 rfl)) (.k (gt_ (.o 5 rfl rfl rfl) (.g 6 rfl) .c (decide_eq_false c2)) (.k (pickF .k (.g 5 rfl) (.g 7 rfl)) .n))))))))) [0,1,2,3,4,5,6,7] [8] rfl rfl ?_)
   refine Tr.cond 8 rfl nofun (fun _=>?_)
   refine Tr.exit (Nx.thX (Nx.thX (Nx.bkX (Nx.bkN (Nx.go (Tr.reg [(5,2)] (.k (mv .k (.b 5 rfl)) (.k (add_ .k (.g 0 rfl) .c (wr1 (by omega))) (.k (asg .k (.g 1 rfl)) .n))) [0,1,2,3,4] [2] rfl rfl (Nx.again (l1.length - (i+1)) (by omega) [.b 2 (SP.nm b1 l1) 71 2,.b 3 (SP.nm b2 l2) 71 2,.b 4 (.is nv0) 71 2,.s 5 (.is (.slice (some ⟨g1,0,none⟩) (l1.length+l2.length+1) (l1.length+l2.length+1))),.h 1 g1 (HP.own 3 1 (l1.length+l2.length+1) (l1.length+l2.length+1) (d2.map ic)),.s 6 (iv (((i+1):Nat):Int))] ⟨(i+1),d2,(hk.last hi2 c1 c2),rfl,rfl⟩ (Sub.all (.cons 0 rfl (.cons 1 rfl (.cons 2 rfl (.cons 3 rfl (.cons 4 rfl (.cons 5 rfl .nil))))))))))))))
 ·
  have hi2:¬ i < l1.length:=by have:=of_decide_eq_false e23;omega
  refine Tr.exit (Nx.thX (Nx.thX (Nx.bkX (Nx.go (?_)))))
  have hln:=ht.len
  have hall:=ht.all
  obtain rfl:i=l1.length:=by have:=ht.le;omega
  rw [take_all (Nat.le_refl _)] at hall
  refine Tr.frz (d.map fun z=>[ic z]) 3 4 [0,1,2,5,6] rfl rfl rfl (flat_d _) (by rw [List.length_map];omega) (one_d _) ?_
  refine Tr.rs [(3,7)] (.k (faddr .k (.b 1 rfl) rfl fNM) (.k (ldc .k (.g 0 rfl) (.b 1 rfl) tyB) (.k (faddr .k (.b 2 rfl) rfl fNM) (.k (ldc .k (.g 2 rfl) (.b 2 rfl) tyB) (.k (neB_ .k Tryz.underlying4 (.g 1 rfl) (.g 3 rfl) rfl) (.k (mv .k (.b 0 rfl)) (.k (cal .k Tryz.func84 rfl (num_le (L':=L1+L2+1) (z':=z1 * z2) (fn_trim ht.dig (by omega)) (by omega) (by rw [hall];exact hs)) (.k (.g 4 rfl) (.k (.g 5 rfl) .n))) (.k (sto .k (.b 3 rfl) (.g 6 rfl) tyN) .n)))))))) [] [7] rfl rfl ?_
  refine Tr.ret (end_cell 0 rfl rfl tyN)
theorem num_bd {L:Nat} {b:Bool} {l:List Int} {z:Int} (h:NumP L b l z):(z.natAbs:Int) < 65536 ^ L:=by
  obtain ⟨hD,_,_,hv,hl⟩:=h
  have h1:=val_lt hD
  have h2:=pow_le hl
  have h3:=val_nonneg hD
  cases b<;>simp at hv<;>omega
theorem mul_lt_pow {L1 L2:Nat} {z1 z2:Int} (h1:(z1.natAbs:Int) < 65536 ^ L1) (h2:(z2.natAbs:Int) < 65536 ^ L2) : -(65536:Int) ^ (L1+L2) < z1 * z2∧z1 * z2 < 65536 ^ (L1+L2):=by
  have h3:((z1 * z2).natAbs:Int) < 65536 ^ (L1+L2):=by
    rw [Int.natAbs_mul,Int.natCast_mul,Int.pow_add]
    by_cases h0:(z2.natAbs:Int)=0
    · rw [h0,Int.mul_zero];exact Int.mul_pos (pow_pos L1) (pow_pos L2)
    · exact Int.lt_trans (Int.mul_lt_mul_of_pos_right h1 (by omega)) (Int.mul_lt_mul_of_pos_left h2 (pow_pos L1))
  omega
theorem times_L {L1 L2:Nat} {z1 z2:Int} {f:FuncId} (h:FnC Tryz.prog f [.num L1 z1,.num L2 z2] (.num (L1+L2+1) (z1 * z2))):FnC Tryz.prog f [.num L1 z1,.num L2 z2] (.num (L1+L2) (z1 * z2)):=fun ok vs W hA hk=>by
  match vs,hA with
  | [v1,v2],⟨⟨b1,l1,hN1,hv1⟩,⟨b2,l2,hN2,hv2⟩,_⟩ =>
    refine (h ok [v1,v2] W ⟨⟨b1,l1,hN1,hv1⟩,⟨b2,l2,hN2,hv2⟩,trivial⟩ hk).mono fun _ W' ⟨r,e1,⟨b,l,hN,hv⟩,e3⟩=>⟨r,e1,⟨b,l,?_,hv⟩,e3⟩
    have b1:=num_bd hN1
    have b2:=num_bd hN2
    refine hN.short (k:=L1+L2) ?_ ?_
    · have:=mul_lt_pow b1 b2;omega
    · have:=mul_lt_pow b1 b2;omega
theorem fn_times {L1 L2:Nat} {z1 z2:Int} (h1:L1≤1000000) (h2:L2≤1000000):FnC Tryz.prog 71 [.num L1 z1,.num L2 z2] (.num (L1+L2) (z1 * z2)):=times_L (num_of2 fun b1 l1 b2 l2 hN1 hN2=>fn_times1 h1 h2 hN1 hN2)
end Go.Proofs.YtkgagdjogedoiaaGreat
