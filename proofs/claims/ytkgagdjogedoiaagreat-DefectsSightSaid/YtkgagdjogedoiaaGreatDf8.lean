/- Two numbers at most, sorted by the library; walked. -/
import Derived.Test.YtkgagdjogedoiaaGreatDf7
set_option linter.unusedVariables false
set_option linter.unusedSimpArgs false
set_option maxRecDepth 100000
set_option maxHeartbeats 8000000
namespace Go.Proofs.YtkgagdjogedoiaaGreat
open Go Go.RowKit Go.Proofs.YtkgagdjogedoiaaGreat.Fx Go.Proofs.YtkgagdjogedoiaaGreatW.PrintWords
theorem fn_Less {a b:Int}:FnC Tryz.prog 120 [iv a,iv b] (bv (decide (a < b))):=by
 refine FnC.of (N:=17) Tryz.func120 rfl rfl (Nat.le_of_ble_eq_true rfl) (fun w0 ok0=>?_)
 refine Tr.rs [] (.k (asg .k .c) .n) [0,1] [] rfl rfl ?_
 refine Tr.rs [] (.k (mv .k (.b 0 rfl)) (.k (cal .k Tryz.func113 rfl fn_isNaN (.k (.g 0 rfl) .n)) (.k (mv .k (.g 1 rfl)) (.k (skp (.o 2 rfl rfl rfl)) (.k (skp (.o 2 rfl rfl rfl)) (.k (skp (.o 2 rfl rfl rfl)) (.k (pickF .k (.g 2 rfl) .c) (.k (mv .k (.g 6 rfl)) (.k (mv (.o 7 rfl rfl rfl) (.b 0 rfl)) (.k (mv (.o 7 rfl rfl rfl) (.b 1 rfl)) (.k (lt_ (.o 7 rfl rfl rfl) (.g 8 rfl) (.g 9 rfl) rfl) (.k (pickF .k (.g 7 rfl) (.g 10 rfl)) (.k (asg .k (.g 11 rfl)) .n))))))))))))) [] [12] rfl rfl ?_
 refine Tr.ret (end_tmp 0 rfl rfl)
theorem fn_Len64_0  : FnC Tryz.prog 124 [.is (.int .u64 0)] (iv 0):=by
 refine FnC.of (N:=25) Tryz.func124 rfl rfl (Nat.le_of_ble_eq_true rfl) (fun w0 ok0=>?_)
 refine Tr.rs [] (.k (asg .k .c) .n) [0] [0] rfl rfl ?_
 refine Tr.seq (Tr.rs [] (.k (mv .k (.b 0 rfl)) (.k (ge_ .k (.g 0 rfl) .c (decide_eq_false (by decide))) .n)) [0,1] [1] rfl rfl ?_)
 refine Tr.cond 2 rfl nofun (fun _=>?_)
 refine Tr.skip (Nx.go (Tr.seq (Tr.rs [] (.k (mv .k (.b 0 rfl)) (.k (ge_ .k (.g 0 rfl) .c (decide_eq_false (by decide))) .n)) [0,1] [1] rfl rfl ?_)))
 refine Tr.cond 2 rfl nofun (fun _=>?_)
 refine Tr.skip (Nx.go (Tr.seq (Tr.rs [] (.k (mv .k (.b 0 rfl)) (.k (ge_ .k (.g 0 rfl) .c (decide_eq_false (by decide))) .n)) [0,1] [1] rfl rfl ?_)))
 refine Tr.cond 2 rfl nofun (fun _=>?_)
 refine Tr.skip (Nx.go (Tr.rs [(1,6)] (.k (mv .k (.b 1 rfl)) (.k (mv .k (.b 0 rfl)) (.k (cvt_ (r:=0) .k rfl Tryz.underlying5 (.g 1 rfl) (by kernel_rfl)) (.k (ixv (v := .int .u8 0) .k .c (.g 2 rfl) (fun W=>by kernel_rfl)) (.k (cvt_ (r:=0) .k rfl Tryz.underlying3 (.g 3 rfl) (by kernel_rfl)) (.k (add_ .k (.g 0 rfl) (.g 4 rfl) (show IntKind.i64.wrap (0+0)=0 by decide)) (.k (asg .k (.g 5 rfl)) .n))))))) [] [6] rfl rfl ?_))
 refine Tr.ret (end_tmp 0 rfl rfl)
theorem fn_Len_0  : FnC Tryz.prog 92 [.is (.int .u64 0)] (iv 0):=by
 refine FnC.of (N:=8) Tryz.func92 rfl rfl (Nat.le_of_ble_eq_true rfl) (fun w0 ok0=>?_)
 refine Tr.rs [] (.k (asg .k .c) .n) [0] [] rfl rfl ?_
 refine Tr.seq (Tr.condF (Tr.skip (Nx.go (Tr.rs [] (.k (mv .k (.b 0 rfl)) (.k (cal .k Tryz.func124 rfl fn_Len64_0 (.k (.g 0 rfl) .n)) (.k (asg .k (.g 1 rfl)) .n))) [] [2] rfl rfl ?_))))
 refine Tr.ret (end_tmp 0 rfl rfl)
theorem fn_Len64_1  : FnC Tryz.prog 124 [.is (.int .u64 1)] (iv 1):=by
 refine FnC.of (N:=25) Tryz.func124 rfl rfl (Nat.le_of_ble_eq_true rfl) (fun w0 ok0=>?_)
 refine Tr.rs [] (.k (asg .k .c) .n) [0] [0] rfl rfl ?_
 refine Tr.seq (Tr.rs [] (.k (mv .k (.b 0 rfl)) (.k (ge_ .k (.g 0 rfl) .c (decide_eq_false (by decide))) .n)) [0,1] [1] rfl rfl ?_)
 refine Tr.cond 2 rfl nofun (fun _=>?_)
 refine Tr.skip (Nx.go (Tr.seq (Tr.rs [] (.k (mv .k (.b 0 rfl)) (.k (ge_ .k (.g 0 rfl) .c (decide_eq_false (by decide))) .n)) [0,1] [1] rfl rfl ?_)))
 refine Tr.cond 2 rfl nofun (fun _=>?_)
 refine Tr.skip (Nx.go (Tr.seq (Tr.rs [] (.k (mv .k (.b 0 rfl)) (.k (ge_ .k (.g 0 rfl) .c (decide_eq_false (by decide))) .n)) [0,1] [1] rfl rfl ?_)))
 refine Tr.cond 2 rfl nofun (fun _=>?_)
 refine Tr.skip (Nx.go (Tr.rs [(1,6)] (.k (mv .k (.b 1 rfl)) (.k (mv .k (.b 0 rfl)) (.k (cvt_ (r:=1) .k rfl Tryz.underlying5 (.g 1 rfl) (by kernel_rfl)) (.k (ixv (v := .int .u8 1) .k .c (.g 2 rfl) (fun W=>by kernel_rfl)) (.k (cvt_ (r:=1) .k rfl Tryz.underlying3 (.g 3 rfl) (by kernel_rfl)) (.k (add_ .k (.g 0 rfl) (.g 4 rfl) (show IntKind.i64.wrap (0+1)=1 by decide)) (.k (asg .k (.g 5 rfl)) .n))))))) [] [6] rfl rfl ?_))
 refine Tr.ret (end_tmp 0 rfl rfl)
theorem fn_Len_1  : FnC Tryz.prog 92 [.is (.int .u64 1)] (iv 1):=by
 refine FnC.of (N:=8) Tryz.func92 rfl rfl (Nat.le_of_ble_eq_true rfl) (fun w0 ok0=>?_)
 refine Tr.rs [] (.k (asg .k .c) .n) [0] [] rfl rfl ?_
 refine Tr.seq (Tr.condF (Tr.skip (Nx.go (Tr.rs [] (.k (mv .k (.b 0 rfl)) (.k (cal .k Tryz.func124 rfl fn_Len64_1 (.k (.g 0 rfl) .n)) (.k (asg .k (.g 1 rfl)) .n))) [] [2] rfl rfl ?_))))
 refine Tr.ret (end_tmp 0 rfl rfl)
theorem fn_Len64_2  : FnC Tryz.prog 124 [.is (.int .u64 2)] (iv 2):=by
 refine FnC.of (N:=25) Tryz.func124 rfl rfl (Nat.le_of_ble_eq_true rfl) (fun w0 ok0=>?_)
 refine Tr.rs [] (.k (asg .k .c) .n) [0] [0] rfl rfl ?_
 refine Tr.seq (Tr.rs [] (.k (mv .k (.b 0 rfl)) (.k (ge_ .k (.g 0 rfl) .c (decide_eq_false (by decide))) .n)) [0,1] [1] rfl rfl ?_)
 refine Tr.cond 2 rfl nofun (fun _=>?_)
 refine Tr.skip (Nx.go (Tr.seq (Tr.rs [] (.k (mv .k (.b 0 rfl)) (.k (ge_ .k (.g 0 rfl) .c (decide_eq_false (by decide))) .n)) [0,1] [1] rfl rfl ?_)))
 refine Tr.cond 2 rfl nofun (fun _=>?_)
 refine Tr.skip (Nx.go (Tr.seq (Tr.rs [] (.k (mv .k (.b 0 rfl)) (.k (ge_ .k (.g 0 rfl) .c (decide_eq_false (by decide))) .n)) [0,1] [1] rfl rfl ?_)))
 refine Tr.cond 2 rfl nofun (fun _=>?_)
 refine Tr.skip (Nx.go (Tr.rs [(1,6)] (.k (mv .k (.b 1 rfl)) (.k (mv .k (.b 0 rfl)) (.k (cvt_ (r:=2) .k rfl Tryz.underlying5 (.g 1 rfl) (by kernel_rfl)) (.k (ixv (v := .int .u8 2) .k .c (.g 2 rfl) (fun W=>by kernel_rfl)) (.k (cvt_ (r:=2) .k rfl Tryz.underlying3 (.g 3 rfl) (by kernel_rfl)) (.k (add_ .k (.g 0 rfl) (.g 4 rfl) (show IntKind.i64.wrap (0+2)=2 by decide)) (.k (asg .k (.g 5 rfl)) .n))))))) [] [6] rfl rfl ?_))
 refine Tr.ret (end_tmp 0 rfl rfl)
theorem fn_Len_2  : FnC Tryz.prog 92 [.is (.int .u64 2)] (iv 2):=by
 refine FnC.of (N:=8) Tryz.func92 rfl rfl (Nat.le_of_ble_eq_true rfl) (fun w0 ok0=>?_)
 refine Tr.rs [] (.k (asg .k .c) .n) [0] [] rfl rfl ?_
 refine Tr.seq (Tr.condF (Tr.skip (Nx.go (Tr.rs [] (.k (mv .k (.b 0 rfl)) (.k (cal .k Tryz.func124 rfl fn_Len64_2 (.k (.g 0 rfl) .n)) (.k (asg .k (.g 1 rfl)) .n))) [] [2] rfl rfl ?_))))
 refine Tr.ret (end_tmp 0 rfl rfl)
def srt2 (l:List Int):Prop:=l.length≤2∧∀ x y,l=[x,y]→¬ y < x
theorem srt2_two {l:List Int} (h:srt2 l) {i:Nat} (h1:1≤i) (h2:i < l.length):∃ x y,l=[x,y]∧i=1∧¬ y < x:=by
  match l,h with
  | [],_=>simp at h2
  | [x],_=>simp at h2;omega
  | [x,y],h=>exact ⟨x,y,rfl,by simp at h2;omega,h.2 x y rfl⟩
  | x :: y :: z :: l,h=>exact absurd h.1 (by simp)
theorem fn_LessF {a b:Int} (h:¬ a < b):FnC Tryz.prog 120 [iv a,iv b] (bv false):=decide_eq_false h ▸ fn_Less
theorem fn_LessT {a b:Int} (h:a < b):FnC Tryz.prog 120 [iv a,iv b] (bv true):=decide_eq_true h ▸ fn_Less
theorem fn_insI {l:List Int} (hl:srt2 l):FnC Tryz.prog 114 [ivec l,iv 0,iv ((l.length:Nat):Int)] (.tup []):=by
 refine FnC.of (N:=49) Tryz.func114 rfl rfl (Nat.le_of_ble_eq_true rfl) (fun w0 ok0=>?_)
 refine Tr.rs [] (.k (mv .k (.b 1 rfl)) (.k (add_ .k (.g 0 rfl) .c (show IntKind.i64.wrap (0+1)=((1:Nat):Int) by decide)) (.k (asg .k (.g 1 rfl)) .n))) [0,1,2] [2] rfl rfl ?_
 refine Tr.block (?_)
 refine Tr.loop (fun n_ F_=>∃ i:Nat,(1≤i∧i≤l.length+1)∧n_=l.length+1 - i∧F_=[.s 0 (ivec l),.s 1 (iv 0),.s 2 (iv ((l.length:Nat):Int)),.s 6 (iv ((i:Nat):Int))]) (l.length+1 - 1) (F0:=[.s 0 (ivec l),.s 1 (iv 0),.s 2 (iv ((l.length:Nat):Int)),.s 6 (iv ((1:Nat):Int))]) ⟨1,⟨by omega,by omega⟩,rfl,rfl⟩ (Sub.all (.cons 0 rfl (.cons 1 rfl (.cons 2 rfl (.cons 3 rfl .nil))))) (fun n_ F_ hI=>?_)
 obtain ⟨i,hinv,rfl,rfl⟩:=hI
 refine Tr.seq (Tr.rs [] (.k (mv .k (.b 3 rfl)) (.k (mv .k (.b 2 rfl)) (.k (lt_ .k (.g 0 rfl) (.g 1 rfl) rfl) .n))) [0,1,2,3] [2] rfl rfl ?_)
 refine Tr.cond 4 rfl (fun e12=>?_) (fun e12=>?_)
 ·
  have hi2:i < l.length:=by have:=of_decide_eq_true e12;omega
  refine Tr.skip (Nx.go (Tr.seq (Tr.block (Tr.rs [] (.k (mv .k (.b 3 rfl)) (.k (asg .k (.g 0 rfl)) .n)) [0,1,2,3] [1] rfl rfl ?_))))
  refine Tr.block (?_)
  refine Tr.loop (fun n_ F_=>∃ j:Nat,(j=i)∧n_=1 * j∧F_=[.s 0 (ivec l),.s 1 (iv 0),.s 2 (iv ((l.length:Nat):Int)),.s 6 (iv ((i:Nat):Int)),.s 7 (iv ((j:Nat):Int))]) (1 * i) (F0:=[.s 0 (ivec l),.s 1 (iv 0),.s 2 (iv ((l.length:Nat):Int)),.s 6 (iv ((i:Nat):Int)),.s 7 (iv ((i:Nat):Int))]) ⟨i,rfl,rfl,rfl⟩ (Sub.all (.cons 0 rfl (.cons 1 rfl (.cons 2 rfl (.cons 3 rfl (.cons 4 rfl .nil)))))) (fun n_ F_ hI=>?_)
  obtain ⟨j,hj,rfl,rfl⟩:=hI
  obtain ⟨x,y,hxy,hi1,hn⟩:=srt2_two hl hinv.1 hi2;have q1:l[1]?=some y:=(by simp [hxy]);have q0:l[0]?=some x:=(by simp [hxy])
  have hj1:j=1:=by omega
  refine Tr.seq (Tr.ds hmx [] (.k (mv .k (.b 4 rfl)) (.k (mv .k (.b 1 rfl)) (.k (gt_ .k (.g 0 rfl) (.g 1 rfl) (dT (by omega))) (.k (mv .k (.g 2 rfl)) (.k (mv (.o 3 rfl rfl rfl) (.b 0 rfl)) (.k (mv (.o 3 rfl rfl rfl) (.b 4 rfl)) (.k (idx_ (.o 3 rfl rfl rfl) rwI (.g 4 rfl) (.g 5 rfl) (show ((j:Nat):Int)=((1:Nat):Int) by rw [hj1]) (gm q1)) (.k (ldc_at (.o 3 rfl rfl rfl) (.g 6 rfl) tyI) (.k (mv (.o 3 rfl rfl rfl) (.b 0 rfl)) (.k (mv (.o 3 rfl rfl rfl) (.b 4 rfl)) (.k (sub_ (.o 3 rfl rfl rfl) (.g 9 rfl) .c (show IntKind.i64.wrap ((j:Int) - 1)=((0:Nat):Int) by rw [hj1];decide)) (.k (idx_ (.o 3 rfl rfl rfl) rwI (.g 8 rfl) (.g 10 rfl) rfl (gm q0)) (.k (ldc_at (.o 3 rfl rfl rfl) (.g 11 rfl) tyI) (.k (cal (.o 3 rfl rfl rfl) Tryz.func120 rfl (fn_LessF hn) (.k (.g 7 rfl) (.k (.g 12 rfl) .n))) (.k (pickT .k (.g 3 rfl) (.g 13 rfl)) .n))))))))))))))) [0,1,2,3,4] [14] rfl rfl ?_)
  refine Tr.cond 5 rfl nofun (fun _=>?_)
  refine Tr.exit (Nx.thX (Nx.thX (Nx.bkX (Nx.bkN (Nx.go (Tr.reg [(3,2)] (.k (mv .k (.b 3 rfl)) (.k (add_ .k (.g 0 rfl) .c (wr1 (by omega))) (.k (asg .k (.g 1 rfl)) .n))) [0,1,2] [2] rfl rfl (Nx.again (l.length+1 - (i+1)) (by omega) [.s 0 (ivec l),.s 1 (iv 0),.s 2 (iv ((l.length:Nat):Int)),.s 6 (iv (((i+1):Nat):Int))] ⟨(i+1),⟨by omega,by omega⟩,rfl,rfl⟩ (Sub.all (.cons 0 rfl (.cons 1 rfl (.cons 2 rfl (.cons 3 rfl .nil))))))))))))
 ·
  refine Tr.exit (Nx.thX (Nx.thX (Nx.bkX (end_nilN rfl))))
theorem fn_pdqI {l:List Int} {m:Int} (hl:srt2 l):FnC Tryz.prog 91 [ivec l,iv 0,iv ((l.length:Nat):Int),iv m] (.tup []):=by
 refine FnC.of (N:=134) Tryz.func91 rfl rfl (Nat.le_of_ble_eq_true rfl) (fun w0 ok0=>?_)
 refine Tr.rs [] (.k (asg .k .c) .n) [0,1,2,3] [0] rfl rfl ?_
 refine Tr.rs [] (.k (asg .k .c) .n) [0,1,2,3,4] [0] rfl rfl ?_
 refine Tr.block (?_)
 refine Tr.loop (fun n_ F_=>∃ z:Nat,(z=0)∧n_=1 * z∧F_=[.s 0 (ivec l),.s 1 (iv 0),.s 2 (iv ((l.length:Nat):Int))]) (1 * 0) (F0:=[.s 0 (ivec l),.s 1 (iv 0),.s 2 (iv ((l.length:Nat):Int))]) ⟨0,rfl,rfl,rfl⟩ (Sub.all (.cons 0 rfl (.cons 1 rfl (.cons 2 rfl .nil)))) (fun n_ F_ hI=>?_)
 obtain ⟨z,hz,rfl,rfl⟩:=hI
 refine Tr.block (Tr.rs [] (.k (mv .k (.b 2 rfl)) (.k (mv .k (.b 1 rfl)) (.k (sub_ .k (.g 0 rfl) (.g 1 rfl) (show IntKind.i64.wrap (((l.length:Nat):Int) - 0)=((l.length:Nat):Int) by have:=hl.1;rw [IntWalk.i64_in _ (by omega)];omega)) (.k (asg .k (.g 2 rfl)) .n)))) [0,1,2] [3] rfl rfl ?_)
 refine Tr.seq (Tr.rs [] (.k (mv .k (.b 3 rfl)) (.k (le_ .k (.g 0 rfl) .c (decide_eq_true (by have:=hl.1;omega))) .n)) [0,1,2,3] [1] rfl rfl ?_)
 refine Tr.cond 4 rfl (fun _=>?_) nofun
 refine Tr.rs [] (.k (mv .k (.b 0 rfl)) (.k (mv .k (.b 1 rfl)) (.k (mv .k (.b 2 rfl)) (.k (cal .k Tryz.func114 rfl (fn_insI hl) (.k (.g 0 rfl) (.k (.g 1 rfl) (.k (.g 2 rfl) .n)))) .n)))) [] [] rfl rfl ?_
 refine Tr.ret (end_nil rfl)
theorem fn_SortI_0  (hl:srt2 ([]:List Int)):FnC Tryz.prog 60 [ivec ([]:List Int)] (.tup []):=by
 refine FnC.of (N:=11) Tryz.func60 rfl rfl (Nat.le_of_ble_eq_true rfl) (fun w0 ok0=>?_)
 refine Tr.rs [] (.k (mv .k (.b 0 rfl)) (.k (len_ .k rwI (.g 0 rfl) rfl) (.k (asg .k (.g 1 rfl)) .n))) [0] [2] rfl rfl ?_
 refine Tr.reg [] (.k (mv .k (.b 0 rfl)) (.k (mv .k (.b 1 rfl)) (.k (mv .k (.b 1 rfl)) (.k (cvt_ (r:=0) .k rfl Tryz.underlying128 (.g 2 rfl) (by kernel_rfl)) (.k (cal .k Tryz.func92 rfl fn_Len_0 (.k (.g 3 rfl) .n)) (.k (cal .k Tryz.func91 rfl (fn_pdqI hl) (.k (.g 0 rfl) (.k .c (.k (.g 1 rfl) (.k (.g 4 rfl) .n))))) .n)))))) [] [] rfl rfl (end_nilN rfl)
theorem fn_SortI_1 {x:Int} (hl:srt2 [x]):FnC Tryz.prog 60 [ivec [x]] (.tup []):=by
 refine FnC.of (N:=11) Tryz.func60 rfl rfl (Nat.le_of_ble_eq_true rfl) (fun w0 ok0=>?_)
 refine Tr.rs [] (.k (mv .k (.b 0 rfl)) (.k (len_ .k rwI (.g 0 rfl) rfl) (.k (asg .k (.g 1 rfl)) .n))) [0] [2] rfl rfl ?_
 refine Tr.reg [] (.k (mv .k (.b 0 rfl)) (.k (mv .k (.b 1 rfl)) (.k (mv .k (.b 1 rfl)) (.k (cvt_ (r:=1) .k rfl Tryz.underlying128 (.g 2 rfl) (by kernel_rfl)) (.k (cal .k Tryz.func92 rfl fn_Len_1 (.k (.g 3 rfl) .n)) (.k (cal .k Tryz.func91 rfl (fn_pdqI hl) (.k (.g 0 rfl) (.k .c (.k (.g 1 rfl) (.k (.g 4 rfl) .n))))) .n)))))) [] [] rfl rfl (end_nilN rfl)
theorem fn_SortI_2 {x y:Int} (hl:srt2 [x,y]):FnC Tryz.prog 60 [ivec [x,y]] (.tup []):=by
 refine FnC.of (N:=11) Tryz.func60 rfl rfl (Nat.le_of_ble_eq_true rfl) (fun w0 ok0=>?_)
 refine Tr.rs [] (.k (mv .k (.b 0 rfl)) (.k (len_ .k rwI (.g 0 rfl) rfl) (.k (asg .k (.g 1 rfl)) .n))) [0] [2] rfl rfl ?_
 refine Tr.reg [] (.k (mv .k (.b 0 rfl)) (.k (mv .k (.b 1 rfl)) (.k (mv .k (.b 1 rfl)) (.k (cvt_ (r:=2) .k rfl Tryz.underlying128 (.g 2 rfl) (by kernel_rfl)) (.k (cal .k Tryz.func92 rfl fn_Len_2 (.k (.g 3 rfl) .n)) (.k (cal .k Tryz.func91 rfl (fn_pdqI hl) (.k (.g 0 rfl) (.k .c (.k (.g 1 rfl) (.k (.g 4 rfl) .n))))) .n)))))) [] [] rfl rfl (end_nilN rfl)
theorem fn_SortI {l:List Int} (hl:srt2 l):FnC Tryz.prog 60 [ivec l] (.tup []):=by
  match l,hl with
  | [],hl=>exact fn_SortI_0 hl
  | [x],hl=>exact fn_SortI_1 hl
  | [x,y],hl=>exact fn_SortI_2 hl
  | x :: y :: z :: l,h=>exact absurd h.1 (by simp)
theorem fn_insW {g cap:Nat} {x y:Int} (hxy:y < x) (ok:Nat→Prop) (W:World) (ob:Obj) (h1:W.heap[g]?=some ob) (h2:(HP.own 3 1 cap 2 [ic x,ic y]).H ok ob W) :
    Calls Tryz.prog 114 [.slice (some ⟨g,0,none⟩) 2 cap,ic 0,ic 2].toArray W fun e W'=>∃ r,e = .returned r∧W.grownBy W' (some g)∧∃ ob',W'.heap[g]?=some ob'∧(HP.own 3 1 cap 2 [ic y,ic x]).H ok ob' W':=by
 refine WrC.of (N:=49) Tryz.func114 rfl rfl (Nat.le_of_ble_eq_true rfl) (fun W0=>?_) ok W ob h1 h2
 refine Tr.rs [] (.k (mv .k (.b 3 rfl)) (.k (add_ .k (.g 0 rfl) .c (show IntKind.i64.wrap (0+1)=((1:Nat):Int) by decide)) (.k (asg .k (.g 1 rfl)) .n))) [0,1,2,3,4] [2] rfl rfl ?_
 refine Tr.block (?_)
 refine Tr.loop (fun n_ F_=>∃ i:Nat,∃ u:Int,∃ v:Int,((i=1∧u=x∧v=y)∨(i=2∧u=y∧v=x))∧n_=2 - i∧F_=[.h 1 g (HP.own 3 1 cap 2 [ic u,ic v]),.v [undef] [SP.same W0 g],.s 0 (.is (.slice (some ⟨g,0,none⟩) 2 cap)),.s 1 (iv 0),.s 2 (iv 2),.s 6 (iv ((i:Nat):Int))]) (2 - 1) (F0:=[.h 1 g (HP.own 3 1 cap 2 [ic x,ic y]),.v [undef] [SP.same W0 g],.s 0 (.is (.slice (some ⟨g,0,none⟩) 2 cap)),.s 1 (iv 0),.s 2 (iv 2),.s 6 (iv ((1:Nat):Int))]) ⟨1,x,y,(.inl ⟨rfl,rfl,rfl⟩),rfl,rfl⟩ (Sub.all (.cons 0 rfl (.cons 1 rfl (.cons 2 rfl (.cons 3 rfl (.cons 4 rfl (.cons 5 rfl .nil))))))) (fun n_ F_ hI=>?_)
 obtain ⟨i,u,v,hinv,rfl,rfl⟩:=hI
 refine Tr.seq (Tr.rs [] (.k (mv .k (.b 5 rfl)) (.k (mv .k (.b 4 rfl)) (.k (lt_ .k (.g 0 rfl) (.g 1 rfl) rfl) .n))) [0,1,2,3,4,5] [2] rfl rfl ?_)
 refine Tr.cond 6 rfl (fun e12=>?_) (fun e12=>?_)
 ·
  have hi:(i=1∧u=x∧v=y)∨(i=0∧u=y∧v=x):=by have:=of_decide_eq_true e12;omega
  refine Tr.skip (Nx.go (Tr.seq (Tr.block (Tr.rs [] (.k (mv .k (.b 5 rfl)) (.k (asg .k (.g 0 rfl)) .n)) [0,1,2,3,4,5] [1] rfl rfl ?_))))
  refine Tr.block (?_)
  refine Tr.loop (fun n_ F_=>∃ j:Nat,∃ u':Int,∃ v':Int,((j=1∧u'=x∧v'=y)∨(j=0∧u'=y∧v'=x))∧n_=1 * j∧F_=[.h 1 g (HP.own 3 1 cap 2 [ic u',ic v']),.v [undef] [SP.same W0 g],.s 0 (.is (.slice (some ⟨g,0,none⟩) 2 cap)),.s 1 (iv 0),.s 2 (iv 2),.s 6 (iv ((i:Nat):Int)),.s 7 (iv ((j:Nat):Int))]) (1 * i) (F0:=[.h 1 g (HP.own 3 1 cap 2 [ic u,ic v]),.v [undef] [SP.same W0 g],.s 0 (.is (.slice (some ⟨g,0,none⟩) 2 cap)),.s 1 (iv 0),.s 2 (iv 2),.s 6 (iv ((i:Nat):Int)),.s 7 (iv ((i:Nat):Int))]) ⟨i,u,v,hi,rfl,rfl⟩ (Sub.all (.cons 0 rfl (.cons 1 rfl (.cons 2 rfl (.cons 3 rfl (.cons 4 rfl (.cons 5 rfl (.cons 6 rfl .nil)))))))) (fun n_ F_ hI=>?_)
  obtain ⟨j,u',v',hj,rfl,rfl⟩:=hI
  rcases hj with ⟨hj1,hu,hv⟩|⟨hj1,hu,hv⟩
  ·
   subst hu hv
   refine Tr.seq (Tr.ds hmx [] (.k (mv .k (.b 6 rfl)) (.k (mv .k (.b 3 rfl)) (.k (gt_ .k (.g 0 rfl) (.g 1 rfl) (dT (by omega))) (.k (mv .k (.g 2 rfl)) (.k (mv (.o 3 rfl rfl rfl) (.b 2 rfl)) (.k (mv (.o 3 rfl rfl rfl) (.b 6 rfl)) (.k (idxn (.o 3 rfl rfl rfl) rwI (.g 4 rfl) (.g 5 rfl) (show ((j:Nat):Int)=((1:Nat):Int) by rw [hj1]) (by decide) rfl) (.k (ldn (.o 3 rfl rfl rfl) (.g 6 rfl) (.b 0 rfl) tyI (show _=some (ic v') from rfl)) (.k (mv (.o 3 rfl rfl rfl) (.b 2 rfl)) (.k (mv (.o 3 rfl rfl rfl) (.b 6 rfl)) (.k (sub_ (.o 3 rfl rfl rfl) (.g 9 rfl) .c (show IntKind.i64.wrap ((j:Int) - 1)=((0:Nat):Int) by rw [hj1];decide)) (.k (idxn (.o 3 rfl rfl rfl) rwI (.g 8 rfl) (.g 10 rfl) (show ((0:Nat):Int)=((0:Nat):Int) from rfl) (by decide) rfl) (.k (ldn (.o 3 rfl rfl rfl) (.g 11 rfl) (.b 0 rfl) tyI (show _=some (ic u') from rfl)) (.k (cal (.o 3 rfl rfl rfl) Tryz.func120 rfl (fn_LessT hxy) (.k (.g 7 rfl) (.k (.g 12 rfl) .n))) (.k (pickT .k (.g 3 rfl) (.g 13 rfl)) .n))))))))))))))) [0,1,2,3,4,5,6] [14] rfl rfl ?_)
   refine Tr.cond 7 rfl (fun _=>?_) nofun
   refine Tr.skip (Nx.go (Tr.seq (Tr.block (Tr.draw hmx [(0,15),(1015,17)] (.k (mv .k (.b 2 rfl)) (.k (mv .k (.b 6 rfl)) (.k (mv .k (.b 2 rfl)) (.k (mv .k (.b 6 rfl)) (.k (sub_ .k (.g 3 rfl) .c (show IntKind.i64.wrap ((j:Int) - 1)=((0:Nat):Int) by rw [hj1];decide)) (.k (mv .k (.b 2 rfl)) (.k (mv .k (.b 6 rfl)) (.k (sub_ .k (.g 6 rfl) .c (show IntKind.i64.wrap ((j:Int) - 1)=((0:Nat):Int) by rw [hj1];decide)) (.k (idxn .k rwI (.g 5 rfl) (.g 7 rfl) (show ((0:Nat):Int)=((0:Nat):Int) from rfl) (by decide) rfl) (.k (ldn .k (.g 8 rfl) (.b 0 rfl) tyI (show _=some (ic u') from rfl)) (.k (mv .k (.b 2 rfl)) (.k (mv .k (.b 6 rfl)) (.k (idxn .k rwI (.g 10 rfl) (.g 11 rfl) (show ((j:Nat):Int)=((1:Nat):Int) by rw [hj1]) (by decide) rfl) (.k (ldn .k (.g 12 rfl) (.b 0 rfl) tyI (show _=some (ic v') from rfl)) (.k (idxn .k rwI (.g 0 rfl) (.g 1 rfl) (show ((j:Nat):Int)=((1:Nat):Int) by rw [hj1]) (by decide) rfl) (.k (sth1 .k (.g 14 rfl) (.b 0 rfl) (.g 9 rfl) szI rfl (show 1 < 2 by decide) rfl rfl) (.k (idxn .k rwI (.g 2 rfl) (.g 4 rfl) (show ((0:Nat):Int)=((0:Nat):Int) from rfl) (by decide) rfl) (.k (sth1 .k (.g 16 rfl) (.g 15 rfl) (.g 13 rfl) szI rfl (show 0 < 2 by decide) rfl rfl) .n)))))))))))))))))) [1,2,3,4,5,6] [17] rfl rfl (Nx.bkN (Nx.go (Tr.reg [(5,2)] (.k (mv .k (.b 5 rfl)) (.k (sub_ .k (.g 0 rfl) .c (show IntKind.i64.wrap ((j:Int) - 1)=((0:Nat):Int) by rw [hj1];decide)) (.k (asg .k (.g 1 rfl)) .n))) [0,1,2,3,4,6] [2] rfl rfl (Nx.again (1 * 0) (by omega) [.h 1 g (HP.own 3 1 cap 2 [ic v',ic u']),.v [undef] [SP.same W0 g],.s 0 (.is (.slice (some ⟨g,0,none⟩) 2 cap)),.s 1 (iv 0),.s 2 (iv 2),.s 6 (iv ((i:Nat):Int)),.s 7 (iv ((0:Nat):Int))] ⟨0,v',u',(.inr ⟨rfl,rfl,rfl⟩),rfl,rfl⟩ (Sub.all (.cons 5 rfl (.cons 0 rfl (.cons 1 rfl (.cons 2 rfl (.cons 3 rfl (.cons 4 rfl (.cons 6 rfl .nil))))))))))))))))
  ·
   have hjv:u'=y∧v'=x:=⟨hu,hv⟩
   refine Tr.seq (Tr.ds hmx [] (.k (mv .k (.b 6 rfl)) (.k (mv .k (.b 3 rfl)) (.k (gt_ .k (.g 0 rfl) (.g 1 rfl) (dF (by omega))) (.k (mv .k (.g 2 rfl)) (.k (skp (.o 3 rfl rfl rfl)) (.k (skp (.o 3 rfl rfl rfl)) (.k (skp (.o 3 rfl rfl rfl)) (.k (skp (.o 3 rfl rfl rfl)) (.k (skp (.o 3 rfl rfl rfl)) (.k (skp (.o 3 rfl rfl rfl)) (.k (skp (.o 3 rfl rfl rfl)) (.k (skp (.o 3 rfl rfl rfl)) (.k (skp (.o 3 rfl rfl rfl)) (.k (skp (.o 3 rfl rfl rfl)) (.k (pickF .k (.g 3 rfl) .c) .n))))))))))))))) [0,1,2,3,4,5,6] [14] rfl rfl ?_)
   refine Tr.cond 7 rfl nofun (fun _=>?_)
   refine Tr.exit (Nx.thX (Nx.thX (Nx.bkX (Nx.bkN (Nx.go (Tr.reg [(5,2)] (.k (mv .k (.b 5 rfl)) (.k (add_ .k (.g 0 rfl) .c (wr1 (by omega))) (.k (asg .k (.g 1 rfl)) .n))) [0,1,2,3,4] [2] rfl rfl (Nx.again (2 - (i+1)) (by omega) [.h 1 g (HP.own 3 1 cap 2 [ic u',ic v']),.v [undef] [SP.same W0 g],.s 0 (.is (.slice (some ⟨g,0,none⟩) 2 cap)),.s 1 (iv 0),.s 2 (iv 2),.s 6 (iv (((i+1):Nat):Int))] ⟨(i+1),u',v',(.inr ⟨by omega,hjv.1,hjv.2⟩),rfl,rfl⟩ (Sub.all (.cons 0 rfl (.cons 1 rfl (.cons 2 rfl (.cons 3 rfl (.cons 4 rfl (.cons 5 rfl .nil))))))))))))))
 ·
  obtain ⟨rfl,rfl,rfl⟩:i=2∧u=y∧v=x:=by have:=of_decide_eq_false e12;omega
  refine Tr.exit (Nx.thX (Nx.thX (Nx.bkX (end_wr 0 1 rfl rfl rfl))))
theorem fn_pdqW {g cap:Nat} {x y:Int} (hxy:y < x) (ok:Nat→Prop) (W:World) (ob:Obj) (h1:W.heap[g]?=some ob) (h2:(HP.own 3 1 cap 2 [ic x,ic y]).H ok ob W) :
    Calls Tryz.prog 91 [.slice (some ⟨g,0,none⟩) 2 cap,ic 0,ic 2,ic 2].toArray W fun e W'=>∃ r,e = .returned r∧W.grownBy W' (some g)∧∃ ob',W'.heap[g]?=some ob'∧(HP.own 3 1 cap 2 [ic y,ic x]).H ok ob' W':=by
 refine WrC.of (N:=134) Tryz.func91 rfl rfl (Nat.le_of_ble_eq_true rfl) (fun W0=>?_) ok W ob h1 h2
 refine Tr.rs [] (.k (asg .k .c) .n) [0,1,2,3,4,5] [0] rfl rfl ?_
 refine Tr.rs [] (.k (asg .k .c) .n) [0,1,2,3,4,5,6] [0] rfl rfl ?_
 refine Tr.block (?_)
 refine Tr.loop (fun n_ F_=>∃ z:Nat,(z=0)∧n_=1 * z∧F_=[.h 1 g (HP.own 3 1 cap 2 [ic x,ic y]),.v [undef] [SP.same W0 g],.s 0 (.is (.slice (some ⟨g,0,none⟩) 2 cap)),.s 1 (iv 0),.s 2 (iv 2)]) (1 * 0) (F0:=[.h 1 g (HP.own 3 1 cap 2 [ic x,ic y]),.v [undef] [SP.same W0 g],.s 0 (.is (.slice (some ⟨g,0,none⟩) 2 cap)),.s 1 (iv 0),.s 2 (iv 2)]) ⟨0,rfl,rfl,rfl⟩ (Sub.all (.cons 0 rfl (.cons 1 rfl (.cons 2 rfl (.cons 3 rfl (.cons 4 rfl .nil)))))) (fun n_ F_ hI=>?_)
 obtain ⟨z,hz,rfl,rfl⟩:=hI
 refine Tr.block (Tr.rs [] (.k (mv .k (.b 4 rfl)) (.k (mv .k (.b 3 rfl)) (.k (sub_ .k (.g 0 rfl) (.g 1 rfl) (show IntKind.i64.wrap (2 - 0)=2 by decide)) (.k (asg .k (.g 2 rfl)) .n)))) [0,1,2,3,4] [3] rfl rfl ?_)
 refine Tr.seq (Tr.rs [] (.k (mv .k (.b 5 rfl)) (.k (le_ .k (.g 0 rfl) .c (decide_eq_true (by decide))) .n)) [0,1,2,3,4,5] [1] rfl rfl ?_)
 refine Tr.cond 6 rfl (fun _=>?_) nofun
 refine Tr.rs [(0,3)] (.k (mv .k (.b 2 rfl)) (.k (mv .k (.b 3 rfl)) (.k (mv .k (.b 4 rfl)) (.k (cal_h .k Tryz.func114 rfl (.b 0 rfl) (.k (.g 0 rfl) (.k (.g 1 rfl) (.k (.g 2 rfl) .n))) (fn_insW hxy)) .n)))) [1] [3] rfl rfl ?_
 refine Tr.ret (end_wrR 1 0 rfl rfl rfl)
theorem fn_SortW {g cap:Nat} {x y:Int} (hxy:y < x) (ok:Nat→Prop) (W:World) (ob:Obj) (h1:W.heap[g]?=some ob) (h2:(HP.own 3 1 cap 2 [ic x,ic y]).H ok ob W) :
    Calls Tryz.prog 60 [.slice (some ⟨g,0,none⟩) 2 cap].toArray W fun e W'=>∃ r,e = .returned r∧W.grownBy W' (some g)∧∃ ob',W'.heap[g]?=some ob'∧(HP.own 3 1 cap 2 [ic y,ic x]).H ok ob' W':=by
 refine WrC.of (N:=11) Tryz.func60 rfl rfl (Nat.le_of_ble_eq_true rfl) (fun W0=>?_) ok W ob h1 h2
 refine Tr.rs [] (.k (mv .k (.b 2 rfl)) (.k (len_n .k rwI (.g 0 rfl) rfl) (.k (asg .k (.g 1 rfl)) .n))) [0,1,2] [2] rfl rfl ?_
 refine Tr.reg [(0,5)] (.k (mv .k (.b 2 rfl)) (.k (mv .k (.b 3 rfl)) (.k (mv .k (.b 3 rfl)) (.k (cvt_ (r:=2) .k rfl Tryz.underlying128 (.g 2 rfl) (by kernel_rfl)) (.k (cal .k Tryz.func92 rfl fn_Len_2 (.k (.g 3 rfl) .n)) (.k (cal_h .k Tryz.func91 rfl (.b 0 rfl) (.k (.g 0 rfl) (.k .c (.k (.g 1 rfl) (.k (.g 4 rfl) .n)))) (fn_pdqW hxy)) .n)))))) [1] [5] rfl rfl (end_wr 1 0 rfl rfl rfl)
end Go.Proofs.YtkgagdjogedoiaaGreat
