/- Places that fit, and how three of them turn, walked. -/
import Derived.Test.YtkgagdjogedoiaaGreatPr3
set_option linter.unusedVariables false
set_option linter.unusedSimpArgs false
namespace Go.Proofs.YtkgagdjogedoiaaGreat
open Go Go.RowKit Go.Proofs.YtkgagdjogedoiaaGreat.Fx Go.Proofs.YtkgagdjogedoiaaGreatW.PrintWords
abbrev pc (p:Int × Int):List Value:=ptc p.1 p.2
def fit (x y:Int):Prop := -4294967296≤x∧x≤4294967296 ∧ -4294967296≤y∧y≤4294967296
instance (x y:Int):Decidable (fit x y):=by unfold fit;infer_instance
def fitP (p:Int × Int):Bool:=decide (fit p.1 p.2)
theorem fit.x {x y:Int} (h:fit x y):Bd 33 x:=by unfold fit at h;unfold Bd;omega
theorem fit.y {x y:Int} (h:fit x y):Bd 33 y:=by unfold fit at h;unfold Bd;omega
theorem all_not {ps:List (Int × Int)} {k:Nat} {x y:Int} (h:ps[k]?=some (x,y)) (hn:¬ fit x y):ps.all fitP=false:=by
  rw [List.all_eq_false]
  exact ⟨(x,y),List.mem_of_getElem? h,by simp [fitP,hn]⟩
theorem all_so {ps:List (Int × Int)} (h:∀ j,j < ps.length→∀ x y,ps[j]?=some (x,y)→fit x y):ps.all fitP=true:=by
  rw [List.all_eq_true]
  rintro ⟨x,y⟩ hp
  obtain ⟨j,hj,e⟩:=List.getElem_of_mem hp
  simp [fitP]
  exact h j hj x y (by rw [List.getElem?_eq_getElem hj,e])
theorem len_map (ps:List (Int × Int)):(((ps.map pc).length:Nat):Int)=((ps.length:Nat):Int):=by simp
theorem aPc (x y:Int):Value.agg (pc (x,y)).toArray=ptv x y:=rfl
theorem wrap_succ {k n:Nat} (h:k < n) (hn:n≤1000000):IntKind.i64.wrap ((k:Int)+1)=((k+1:Nat):Int):=by
  rw [IntWalk.i64_in _ (by omega)];omega
set_option maxRecDepth 100000 in
theorem fn_Fits (ps:List (Int × Int)) (hl:ps.length≤1000000):FnC Tryz.prog 61 [.vec 2 (ps.map pc)] (bv (ps.all fitP)):=by
 refine FnC.of (N:=30) Tryz.func61 rfl rfl (Nat.le_of_ble_eq_true rfl) (fun w0 ok0=>?_)
 refine Tr.rs [] (.k (asg .k .c) .n) [0] [] rfl rfl ?_
 refine Tr.seq (Tr.rs [] (.k (mv .k (.b 0 rfl)) (.k (len_ .k rwP (.g 0 rfl) (len_map ps)) (.k (mv .k .c) .n))) [] [0,1,2] rfl rfl ?_)
 refine Tr.block (?_)
 refine Tr.loop (fun n_ F_=>∃ k:Nat,k≤ps.length∧n_=ps.length - k∧F_=[.s 5 (.vec 2 (ps.map pc)),.s 6 (iv (ps.length:Nat)),.s 7 (iv ((k:Nat):Int))]∧(∀ j,j < k→∀ x y,ps[j]?=some (x,y)→fit x y)) (ps.length) (F0:=[.s 5 (.vec 2 (ps.map pc)),.s 6 (iv (ps.length:Nat)),.s 7 (iv ((0:Nat):Int))]) ⟨0,Nat.zero_le _,rfl,rfl,fun j hj=>absurd hj (Nat.not_lt_zero _)⟩ (Sub.all (.cons 0 rfl (.cons 1 rfl (.cons 2 rfl .nil)))) (fun n_ F_ hI=>?_)
 obtain ⟨k,hk,rfl,rfl,hkm⟩:=hI
 refine Tr.rs [] (.k (lt_ .k (.b 2 rfl) (.b 1 rfl) rfl) .n) [0,1,2] [0] rfl rfl ?_
 refine Tr.seq (Tr.cond 3 rfl (fun e8=>?_) (fun e8=>?_))
 ·
  have hlt:k < ps.length:=by simpa using e8
  refine Tr.skip (Nx.go (Tr.seq (Tr.block (?_))))
  obtain ⟨x,y,hxy⟩:∃ x y,ps[k]?=some (x,y):=⟨_,_,List.getElem?_eq_getElem hlt⟩
  refine Tr.rs [] (.k (idx_ .k rwP (.b 0 rfl) (.b 2 rfl) rfl (gm hxy)) (.k (ld_at .k (.g 0 rfl) tyP rfl (aPc x y)) (.k (ala .k zP) (.k (sta .k (.g 2 rfl) (.g 1 rfl) tyP) .n)))) [0,1,2] [3] rfl rfl ?_
  rcases (show x < -4294967296∨¬ x < -4294967296∧x > 4294967296∨¬ x < -4294967296∧¬ x > 4294967296∧y < -4294967296∨¬ x < -4294967296∧¬ x > 4294967296∧¬ y < -4294967296∧y > 4294967296∨¬ x < -4294967296∧¬ x > 4294967296∧¬ y < -4294967296∧¬ y > 4294967296 by omega) with c1|⟨c1,c2⟩|⟨c1,c2,c3⟩|⟨c1,c2,c3,c4⟩|⟨c1,c2,c3,c4⟩
  ·
   have hn:¬ fit x y:=by unfold fit;omega
   refine Tr.rs [] (.k (faddr .k (.b 3 rfl) rfl fPX) (.k (ldc .k (.g 0 rfl) (.b 3 rfl) tyI) (.k (lt_ .k (.g 1 rfl) .c (decide_eq_true c1)) (.k (mv .k (.g 2 rfl)) (.k (skp (.o 3 rfl rfl rfl)) (.k (skp (.o 3 rfl rfl rfl)) (.k (skp (.o 3 rfl rfl rfl)) (.k (pickT .k (.g 3 rfl) .c) (.k (mv .k (.g 7 rfl)) (.k (skp (.o 8 rfl rfl rfl)) (.k (skp (.o 8 rfl rfl rfl)) (.k (skp (.o 8 rfl rfl rfl)) (.k (pickT .k (.g 8 rfl) .c) (.k (mv .k (.g 12 rfl)) (.k (skp (.o 13 rfl rfl rfl)) (.k (skp (.o 13 rfl rfl rfl)) (.k (skp (.o 13 rfl rfl rfl)) (.k (pickT .k (.g 13 rfl) .c) .n)))))))))))))))))) [0,1,2] [17] rfl rfl ?_
   refine Tr.cond 3 rfl (fun _=>?_) nofun
   rw [all_not hxy hn]
   refine Tr.rs [] (.k (asg .k .c) .n) [] [0] rfl rfl ?_
   refine Tr.ret (end_tmp 0 rfl rfl)
  ·
   have hn:¬ fit x y:=by unfold fit;omega
   refine Tr.rs [] (.k (faddr .k (.b 3 rfl) rfl fPX) (.k (ldc .k (.g 0 rfl) (.b 3 rfl) tyI) (.k (lt_ .k (.g 1 rfl) .c (decide_eq_false c1)) (.k (mv .k (.g 2 rfl)) (.k (faddr (.o 3 rfl rfl rfl) (.b 3 rfl) rfl fPX) (.k (ldc (.o 3 rfl rfl rfl) (.g 4 rfl) (.b 3 rfl) tyI) (.k (gt_ (.o 3 rfl rfl rfl) (.g 5 rfl) .c (decide_eq_true c2)) (.k (pickF .k (.g 3 rfl) (.g 6 rfl)) (.k (mv .k (.g 7 rfl)) (.k (skp (.o 8 rfl rfl rfl)) (.k (skp (.o 8 rfl rfl rfl)) (.k (skp (.o 8 rfl rfl rfl)) (.k (pickT .k (.g 8 rfl) .c) (.k (mv .k (.g 12 rfl)) (.k (skp (.o 13 rfl rfl rfl)) (.k (skp (.o 13 rfl rfl rfl)) (.k (skp (.o 13 rfl rfl rfl)) (.k (pickT .k (.g 13 rfl) .c) .n)))))))))))))))))) [0,1,2] [17] rfl rfl ?_
   refine Tr.cond 3 rfl (fun _=>?_) nofun
   rw [all_not hxy hn]
   refine Tr.rs [] (.k (asg .k .c) .n) [] [0] rfl rfl ?_
   refine Tr.ret (end_tmp 0 rfl rfl)
  ·
   have hn:¬ fit x y:=by unfold fit;omega
   refine Tr.rs [] (.k (faddr .k (.b 3 rfl) rfl fPX) (.k (ldc .k (.g 0 rfl) (.b 3 rfl) tyI) (.k (lt_ .k (.g 1 rfl) .c (decide_eq_false c1)) (.k (mv .k (.g 2 rfl)) (.k (faddr (.o 3 rfl rfl rfl) (.b 3 rfl) rfl fPX) (.k (ldc (.o 3 rfl rfl rfl) (.g 4 rfl) (.b 3 rfl) tyI) (.k (gt_ (.o 3 rfl rfl rfl) (.g 5 rfl) .c (decide_eq_false c2)) (.k (pickF .k (.g 3 rfl) (.g 6 rfl)) (.k (mv .k (.g 7 rfl)) (.k (faddr (.o 8 rfl rfl rfl) (.b 3 rfl) rfl fPY) (.k (ldc (.o 8 rfl rfl rfl) (.g 9 rfl) (.b 3 rfl) tyI) (.k (lt_ (.o 8 rfl rfl rfl) (.g 10 rfl) .c (decide_eq_true c3)) (.k (pickF .k (.g 8 rfl) (.g 11 rfl)) (.k (mv .k (.g 12 rfl)) (.k (skp (.o 13 rfl rfl rfl)) (.k (skp (.o 13 rfl rfl rfl)) (.k (skp (.o 13 rfl rfl rfl)) (.k (pickT .k (.g 13 rfl) .c) .n)))))))))))))))))) [0,1,2] [17] rfl rfl ?_
   refine Tr.cond 3 rfl (fun _=>?_) nofun
   rw [all_not hxy hn]
   refine Tr.rs [] (.k (asg .k .c) .n) [] [0] rfl rfl ?_
   refine Tr.ret (end_tmp 0 rfl rfl)
  ·
   have hn:¬ fit x y:=by unfold fit;omega
   refine Tr.rs [] (.k (faddr .k (.b 3 rfl) rfl fPX) (.k (ldc .k (.g 0 rfl) (.b 3 rfl) tyI) (.k (lt_ .k (.g 1 rfl) .c (decide_eq_false c1)) (.k (mv .k (.g 2 rfl)) (.k (faddr (.o 3 rfl rfl rfl) (.b 3 rfl) rfl fPX) (.k (ldc (.o 3 rfl rfl rfl) (.g 4 rfl) (.b 3 rfl) tyI) (.k (gt_ (.o 3 rfl rfl rfl) (.g 5 rfl) .c (decide_eq_false c2)) (.k (pickF .k (.g 3 rfl) (.g 6 rfl)) (.k (mv .k (.g 7 rfl)) (.k (faddr (.o 8 rfl rfl rfl) (.b 3 rfl) rfl fPY) (.k (ldc (.o 8 rfl rfl rfl) (.g 9 rfl) (.b 3 rfl) tyI) (.k (lt_ (.o 8 rfl rfl rfl) (.g 10 rfl) .c (decide_eq_false c3)) (.k (pickF .k (.g 8 rfl) (.g 11 rfl)) (.k (mv .k (.g 12 rfl)) (.k (faddr (.o 13 rfl rfl rfl) (.b 3 rfl) rfl fPY) (.k (ldc (.o 13 rfl rfl rfl) (.g 14 rfl) (.b 3 rfl) tyI) (.k (gt_ (.o 13 rfl rfl rfl) (.g 15 rfl) .c (decide_eq_true c4)) (.k (pickF .k (.g 13 rfl) (.g 16 rfl)) .n)))))))))))))))))) [0,1,2] [17] rfl rfl ?_
   refine Tr.cond 3 rfl (fun _=>?_) nofun
   rw [all_not hxy hn]
   refine Tr.rs [] (.k (asg .k .c) .n) [] [0] rfl rfl ?_
   refine Tr.ret (end_tmp 0 rfl rfl)
  ·
   have hfit:fit x y:=by unfold fit;omega
   refine Tr.rs [] (.k (faddr .k (.b 3 rfl) rfl fPX) (.k (ldc .k (.g 0 rfl) (.b 3 rfl) tyI) (.k (lt_ .k (.g 1 rfl) .c (decide_eq_false c1)) (.k (mv .k (.g 2 rfl)) (.k (faddr (.o 3 rfl rfl rfl) (.b 3 rfl) rfl fPX) (.k (ldc (.o 3 rfl rfl rfl) (.g 4 rfl) (.b 3 rfl) tyI) (.k (gt_ (.o 3 rfl rfl rfl) (.g 5 rfl) .c (decide_eq_false c2)) (.k (pickF .k (.g 3 rfl) (.g 6 rfl)) (.k (mv .k (.g 7 rfl)) (.k (faddr (.o 8 rfl rfl rfl) (.b 3 rfl) rfl fPY) (.k (ldc (.o 8 rfl rfl rfl) (.g 9 rfl) (.b 3 rfl) tyI) (.k (lt_ (.o 8 rfl rfl rfl) (.g 10 rfl) .c (decide_eq_false c3)) (.k (pickF .k (.g 8 rfl) (.g 11 rfl)) (.k (mv .k (.g 12 rfl)) (.k (faddr (.o 13 rfl rfl rfl) (.b 3 rfl) rfl fPY) (.k (ldc (.o 13 rfl rfl rfl) (.g 14 rfl) (.b 3 rfl) tyI) (.k (gt_ (.o 13 rfl rfl rfl) (.g 15 rfl) .c (decide_eq_false c4)) (.k (pickF .k (.g 13 rfl) (.g 16 rfl)) .n)))))))))))))))))) [0,1,2] [17] rfl rfl ?_
   refine Tr.cond 3 rfl nofun (fun _=>?_)
   refine Tr.skip (Nx.bkN (Nx.go (Tr.reg [(2,1)] (.k (add_ .k (.b 2 rfl) .c (wrap_succ hlt hl)) (.k (mv .k (.g 0 rfl)) .n)) [0,1] [1] rfl rfl (Nx.again (ps.length - (k+1)) (by omega) [.s 5 (.vec 2 (ps.map pc)),.s 6 (iv (ps.length:Nat)),.s 7 (iv (((k+1):Nat):Int))] ⟨k+1,by omega,rfl,rfl,fun j hj a b hab=>by rcases Nat.lt_succ_iff_lt_or_eq.1 hj with h|rfl;(exact hkm j h a b hab);(rw [hab] at hxy;cases hxy;exact hfit)⟩ (Sub.all (.cons 0 rfl (.cons 1 rfl (.cons 2 rfl .nil))))))))
 ·
  have hge:ps.length≤k:=by simpa using e8
  refine Tr.exit (Nx.thX (Nx.thX (Nx.bkX (Nx.go (?_)))))
  rw [all_so (ps:=ps) (fun j hj=>hkm j (by omega))]
  refine Tr.rs [] (.k (asg .k .c) .n) [] [0] rfl rfl ?_
  refine Tr.ret (end_tmp 0 rfl rfl)
abbrev icl (n:Int):List Value:=[.int .i64 n]
def smB (n:Int):Bool:=decide (n.natAbs < 1073741824)
theorem len_mapi (ns:List Int):(((ns.map icl).length:Nat):Int)=((ns.length:Nat):Int):=by simp
theorem sm_not {ns:List Int} {k:Nat} {x:Int} (h:ns[k]?=some x) (hn:¬ x.natAbs < 1073741824):ns.all smB=false:=by
  rw [List.all_eq_false]
  exact ⟨x,List.mem_of_getElem? h,by simp [smB];omega⟩
theorem sm_so {ns:List Int} (h:∀ j,j < ns.length→∀ x,ns[j]?=some x→x.natAbs < 1073741824):ns.all smB=true:=by
  rw [List.all_eq_true]
  intro x hx
  obtain ⟨j,hj,e⟩:=List.getElem_of_mem hx
  simp [smB]
  exact h j hj x (by rw [List.getElem?_eq_getElem hj,e])
set_option maxRecDepth 100000 in
theorem fn_small_ (ns:List Int) (hl:ns.length≤1000000) (hb:∀ n∈ns,Bd 63 n):FnC Tryz.prog 138 [.vec 1 (ns.map icl)] (bv (ns.all smB)):=by
 refine FnC.of (N:=15) Tryz.func138 rfl rfl (Nat.le_of_ble_eq_true rfl) (fun w0 ok0=>?_)
 refine Tr.rs [] (.k (asg .k .c) .n) [0] [] rfl rfl ?_
 refine Tr.seq (Tr.rs [] (.k (mv .k (.b 0 rfl)) (.k (len_ .k rwI (.g 0 rfl) (len_mapi ns)) (.k (mv .k .c) .n))) [] [0,1,2] rfl rfl ?_)
 refine Tr.block (?_)
 refine Tr.loop (fun n_ F_=>∃ k:Nat,k≤ns.length∧n_=ns.length - k∧F_=[.s 5 (.vec 1 (ns.map icl)),.s 6 (iv (ns.length:Nat)),.s 7 (iv ((k:Nat):Int))]∧(∀ j,j < k→∀ x,ns[j]?=some x→x.natAbs < 1073741824)) (ns.length) (F0:=[.s 5 (.vec 1 (ns.map icl)),.s 6 (iv (ns.length:Nat)),.s 7 (iv ((0:Nat):Int))]) ⟨0,Nat.zero_le _,rfl,rfl,fun j hj=>absurd hj (Nat.not_lt_zero _)⟩ (Sub.all (.cons 0 rfl (.cons 1 rfl (.cons 2 rfl .nil)))) (fun n_ F_ hI=>?_)
 obtain ⟨k,hk,rfl,rfl,hkm⟩:=hI
 refine Tr.rs [] (.k (lt_ .k (.b 2 rfl) (.b 1 rfl) rfl) .n) [0,1,2] [0] rfl rfl ?_
 refine Tr.seq (Tr.cond 3 rfl (fun e8=>?_) (fun e8=>?_))
 ·
  have hlt:k < ns.length:=by simpa using e8
  refine Tr.skip (Nx.go (Tr.seq (Tr.block (?_))))
  obtain ⟨x,hxy⟩:∃ x,ns[k]?=some x:=⟨_,List.getElem?_eq_getElem hlt⟩
  have hx:=hb x (List.mem_of_getElem? hxy)
  refine Tr.rs [] (.k (idx_ .k rwI (.b 0 rfl) (.b 2 rfl) rfl (gm hxy)) (.k (ldc_at .k (.g 0 rfl) tyI) (.k (asg .k (.g 1 rfl)) .n))) [0,1,2] [2] rfl rfl ?_
  rcases (show ¬ x.natAbs < 1073741824∨x.natAbs < 1073741824 by omega) with hsm|hsm
  ·
   refine Tr.rs [] (.k (mv .k (.b 3 rfl)) (.k (cal .k Tryz.func102 rfl (fn_size hx) (.k (.g 0 rfl) .n)) (.k (ge_ .k (.g 1 rfl) .c (decide_eq_true (show ((x.natAbs:Nat):Int) ≥ 1073741824 by omega))) .n))) [0,1,2] [2] rfl rfl ?_
   refine Tr.cond 3 rfl (fun _=>?_) nofun
   rw [sm_not hxy hsm]
   refine Tr.rs [] (.k (asg .k .c) .n) [] [0] rfl rfl ?_
   refine Tr.ret (end_tmp 0 rfl rfl)
  ·
   refine Tr.rs [] (.k (mv .k (.b 3 rfl)) (.k (cal .k Tryz.func102 rfl (fn_size hx) (.k (.g 0 rfl) .n)) (.k (ge_ .k (.g 1 rfl) .c (decide_eq_false (show ¬ ((x.natAbs:Nat):Int) ≥ 1073741824 by omega))) .n))) [0,1,2] [2] rfl rfl ?_
   refine Tr.cond 3 rfl nofun (fun _=>?_)
   refine Tr.skip (Nx.bkN (Nx.go (Tr.reg [(2,1)] (.k (add_ .k (.b 2 rfl) .c (wrap_succ hlt hl)) (.k (mv .k (.g 0 rfl)) .n)) [0,1] [1] rfl rfl (Nx.again (ns.length - (k+1)) (by omega) [.s 5 (.vec 1 (ns.map icl)),.s 6 (iv (ns.length:Nat)),.s 7 (iv (((k+1):Nat):Int))] ⟨k+1,by omega,rfl,rfl,fun j hj a hab=>by rcases Nat.lt_succ_iff_lt_or_eq.1 hj with h|rfl;(exact hkm j h a hab);(rw [hab] at hxy;cases hxy;exact hsm)⟩ (Sub.all (.cons 0 rfl (.cons 1 rfl (.cons 2 rfl .nil))))))))
 ·
  have hge:ns.length≤k:=by simpa using e8
  refine Tr.exit (Nx.thX (Nx.thX (Nx.bkX (Nx.go (?_)))))
  rw [sm_so (ns:=ns) (fun j hj=>hkm j (by omega))]
  refine Tr.rs [] (.k (asg .k .c) .n) [] [0] rfl rfl ?_
  refine Tr.ret (end_tmp 0 rfl rfl)
theorem sgn_pos {z:Int} (h:z > 0):sgn z=1:=by unfold sgn;rw [if_neg (by omega),if_neg (by omega)]
theorem sgn_neg {z:Int} (h:z < 0):sgn z = -1:=by unfold sgn;rw [if_pos h]
theorem sgn_zero {z:Int} (h1:¬ z > 0) (h2:¬ z < 0):sgn z=0:=by unfold sgn;rw [if_neg h2,if_pos (by omega)]
theorem Bd.of30 {z:Int} (h:smB z=true):Bd 30 z:=by unfold smB at h;unfold Bd;simpa using h
def areaZ (ax ay bx b_y cx cy:Int):Int:=(bx - ax) * (cy - ay) - (b_y - ay) * (cx - ax)
theorem all4 {p:Int→Prop} {a b c d:Int} (h1:p a) (h2:p b) (h3:p c) (h4:p d):∀ z∈[a,b,c,d],p z:=by
  intro z hz
  simp at hz
  rcases hz with rfl|rfl|rfl|rfl
  · exact h1
  · exact h2
  · exact h3
  · exact h4
set_option maxRecDepth 100000 in
theorem fn_orient {ax ay bx b_y cx cy:Int} (h0:Bd 33 ax) (h1:Bd 33 ay) (h2:Bd 33 bx) (h3:Bd 33 b_y) (h4:Bd 33 cx) (h5:Bd 33 cy):FnC Tryz.prog 112 [.is (ptv ax ay),.is (ptv bx b_y),.is (ptv cx cy)] (iv (sgn (areaZ ax ay bx b_y cx cy))):=by
 refine FnC.of (N:=56) Tryz.func112 rfl rfl (Nat.le_of_ble_eq_true rfl) (fun w0 ok0=>?_)
 refine Tr.rs [] (.k (bxx .k (.b 0 rfl)) (.k (bxx .k (.b 1 rfl)) (.k (bxx .k (.b 2 rfl)) (.k (asg .k .c) .n)))) [] [0,1,2] rfl rfl ?_
 refine Tr.ds hmx [] (.k (faddr .k (.b 1 rfl) rfl fPX) (.k (ldc .k (.g 0 rfl) (.b 1 rfl) tyI) (.k (faddr .k (.b 0 rfl) rfl fPX) (.k (ldc .k (.g 2 rfl) (.b 0 rfl) tyI) (.k (sub_ .k (.g 1 rfl) (.g 3 rfl) (Bd.wrap (Bd.sub h2 h0) (by decide))) (.k (faddr .k (.b 2 rfl) rfl fPY) (.k (ldc .k (.g 5 rfl) (.b 2 rfl) tyI) (.k (faddr .k (.b 0 rfl) rfl fPY) (.k (ldc .k (.g 7 rfl) (.b 0 rfl) tyI) (.k (sub_ .k (.g 6 rfl) (.g 8 rfl) (Bd.wrap (Bd.sub h5 h1) (by decide))) (.k (faddr .k (.b 1 rfl) rfl fPY) (.k (ldc .k (.g 10 rfl) (.b 1 rfl) tyI) (.k (faddr .k (.b 0 rfl) rfl fPY) (.k (ldc .k (.g 12 rfl) (.b 0 rfl) tyI) (.k (sub_ .k (.g 11 rfl) (.g 13 rfl) (Bd.wrap (Bd.sub h3 h1) (by decide))) (.k (faddr .k (.b 2 rfl) rfl fPX) (.k (ldc .k (.g 15 rfl) (.b 2 rfl) tyI) (.k (faddr .k (.b 0 rfl) rfl fPX) (.k (ldc .k (.g 17 rfl) (.b 0 rfl) tyI) (.k (sub_ .k (.g 16 rfl) (.g 18 rfl) (Bd.wrap (Bd.sub h4 h0) (by decide))) (.k (asg .k (.g 4 rfl)) (.k (asg .k (.g 9 rfl)) (.k (asg .k (.g 14 rfl)) (.k (asg .k (.g 19 rfl)) .n)))))))))))))))))))))))) [] [20,21,22,23] rfl rfl ?_
 refine Tr.seq (Tr.rs [] (.k (mv .k (.b 0 rfl)) (.k (mv .k (.b 1 rfl)) (.k (mv .k (.b 2 rfl)) (.k (mv .k (.b 3 rfl)) (.k (mkrow .k rwI (.k (.g 0 rfl) (.k (.g 1 rfl) (.k (.g 2 rfl) (.k (.g 3 rfl) .n)))) rfl rfl (by kernel_rfl)) (.k (cal .k Tryz.func138 rfl (fn_small_ [_,_,_,_] (by simp) (all4 (Bd.mono (Bd.sub h2 h0) (by decide)) (Bd.mono (Bd.sub h5 h1) (by decide)) (Bd.mono (Bd.sub h3 h1) (by decide)) (Bd.mono (Bd.sub h4 h0) (by decide)))) (.k (.g 4 rfl) .n)) .n)))))) [0,1,2,3] [5] rfl rfl ?_)
 refine Tr.cond 4 rfl (fun e37=>?_) (fun e37=>?_)
 ·
  obtain ⟨s1,s2,s3,s4⟩:Bd 30 (bx - ax)∧Bd 30 (cy - ay)∧Bd 30 (b_y - ay)∧Bd 30 (cx - ax):=by simp only [List.all_cons,List.all_nil,Bool.and_true,Bool.and_eq_true] at e37;exact ⟨Bd.of30 e37.1,Bd.of30 e37.2.1,Bd.of30 e37.2.2.1,Bd.of30 e37.2.2.2⟩
  refine Tr.seq (Tr.rs [] (.k (mv .k (.b 0 rfl)) (.k (mv .k (.b 1 rfl)) (.k (mul_ .k (.g 0 rfl) (.g 1 rfl) (Bd.wrap (Bd.mul s1 s2) (by decide))) (.k (mv .k (.b 2 rfl)) (.k (mv .k (.b 3 rfl)) (.k (mul_ .k (.g 3 rfl) (.g 4 rfl) (Bd.wrap (Bd.mul s3 s4) (by decide))) (.k (sub_ .k (.g 2 rfl) (.g 5 rfl) (Bd.wrap (Bd.sub (Bd.mul s1 s2) (Bd.mul s3 s4)) (by decide))) (.k (asg .k (.g 6 rfl)) .n)))))))) [] [7] rfl rfl ?_)
  refine Tr.block (Tr.rs [] (.k (mv .k (.b 0 rfl)) (.k (gt_ .k (.g 0 rfl) .c rfl) (.k (asg .k (.g 1 rfl)) .n))) [0] [2] rfl rfl ?_)
  refine Tr.cond 1 rfl (fun e45=>?_) (fun e45=>?_)
  ·
   have p45:=of_decide_eq_true e45
   unfold areaZ;rw [sgn_pos p45]
   refine Tr.rs [] (.k (asg .k .c) .n) [] [0] rfl rfl ?_
   refine Tr.ret (end_tmp 0 rfl rfl)
  ·
   have n45:=of_decide_eq_false e45
   refine Tr.rs [] (.k (mv .k (.b 0 rfl)) (.k (lt_ .k (.g 0 rfl) .c rfl) (.k (asg .k (.g 1 rfl)) .n))) [] [2] rfl rfl ?_
   refine Tr.cond 0 rfl (fun e48=>?_) (fun e48=>?_)
   ·
    have p48:=of_decide_eq_true e48
    unfold areaZ;rw [sgn_neg p48]
    refine Tr.rs [] (.k (asg .k .c) .n) [] [0] rfl rfl ?_
    refine Tr.ret (end_tmp 0 rfl rfl)
   ·
    have n48:=of_decide_eq_false e48
    refine Tr.skip (Nx.bkN (Nx.go (?_)))
    unfold areaZ;rw [sgn_zero n45 n48]
    refine Tr.rs [] (.k (asg .k .c) .n) [] [0] rfl rfl ?_
    refine Tr.ret (end_tmp 0 rfl rfl)
 ·
  refine Tr.skip (Nx.go (Tr.rs [] (.k (mv .k (.b 0 rfl)) (.k (mv .k (.b 1 rfl)) (.k (mv .k (.b 2 rfl)) (.k (mv .k (.b 3 rfl)) (.k (cal .k Tryz.func139 rfl (fn_cross (Bd.sub h2 h0) (Bd.sub h5 h1) (Bd.sub h3 h1) (Bd.sub h4 h0)) (.k (.g 0 rfl) (.k (.g 1 rfl) (.k (.g 2 rfl) (.k (.g 3 rfl) .n))))) (.k (asg .k (.g 4 rfl)) .n)))))) [] [5] rfl rfl ?_))
  refine Tr.ret (end_tmp 0 rfl rfl)
def oriZ (ax ay bx b_y cx cy:Int):Int:=if fit ax ay∧fit bx b_y∧fit cx cy then sgn (areaZ ax ay bx b_y cx cy) else 0
theorem fit3 {ax ay bx b_y cx cy:Int} (h:[(ax,ay),(bx,b_y),(cx,cy)].all fitP=true):fit ax ay∧fit bx b_y∧fit cx cy:=by simpa [fitP] using h
theorem fit3n {ax ay bx b_y cx cy:Int} (h:[(ax,ay),(bx,b_y),(cx,cy)].all fitP=false):¬ (fit ax ay∧fit bx b_y∧fit cx cy):=fun hf=>by
  have:[(ax,ay),(bx,b_y),(cx,cy)].all fitP=true:=by simpa [fitP] using hf
  rw [this] at h;cases h
set_option maxRecDepth 100000 in
theorem fn_Orient {ax ay bx b_y cx cy:Int}:FnC Tryz.prog 88 [.is (ptv ax ay),.is (ptv bx b_y),.is (ptv cx cy)] (iv (oriZ ax ay bx b_y cx cy)):=by
 refine FnC.of (N:=17) Tryz.func88 rfl rfl (Nat.le_of_ble_eq_true rfl) (fun w0 ok0=>?_)
 refine Tr.rs [] (.k (bxx .k (.b 0 rfl)) (.k (bxx .k (.b 1 rfl)) (.k (bxx .k (.b 2 rfl)) (.k (asg .k .c) .n)))) [] [0,1,2] rfl rfl ?_
 refine Tr.seq (Tr.rs [] (.k (ld .k (.b 0 rfl) tyP) (.k (ld .k (.b 1 rfl) tyP) (.k (ld .k (.b 2 rfl) tyP) (.k (mkrow .k rwP (.k (.g 0 rfl) (.k (.g 1 rfl) (.k (.g 2 rfl) .n))) rfl rfl (by kernel_rfl)) (.k (cal .k Tryz.func61 rfl (fn_Fits [(_,_),(_,_),(_,_)] (by simp)) (.k (.g 3 rfl) .n)) (.k (not_ .k (.g 4 rfl)) .n)))))) [0,1,2] [5] rfl rfl ?_)
 refine Tr.cond 3 rfl (fun e12=>?_) (fun e12=>?_)
 ·
  have hn:=fit3n (by simpa only [Bool.not_eq_true'] using e12)
  unfold oriZ;rw [if_neg hn]
  refine Tr.rs [] (.k (asg .k .c) .n) [] [0] rfl rfl ?_
  refine Tr.ret (end_tmp 0 rfl rfl)
 ·
  have hf:=fit3 (by simpa only [Bool.not_eq_false'] using e12)
  refine Tr.skip (Nx.go (?_))
  unfold oriZ;rw [if_pos hf]
  refine Tr.rs [] (.k (ld .k (.b 0 rfl) tyP) (.k (ld .k (.b 1 rfl) tyP) (.k (ld .k (.b 2 rfl) tyP) (.k (cal .k Tryz.func112 rfl (fn_orient hf.1.x hf.1.y hf.2.1.x hf.2.1.y hf.2.2.x hf.2.2.y) (.k (.g 0 rfl) (.k (.g 1 rfl) (.k (.g 2 rfl) .n)))) (.k (asg .k (.g 3 rfl)) .n))))) [] [4] rfl rfl ?_
  refine Tr.ret (end_tmp 0 rfl rfl)
end Go.Proofs.YtkgagdjogedoiaaGreat
