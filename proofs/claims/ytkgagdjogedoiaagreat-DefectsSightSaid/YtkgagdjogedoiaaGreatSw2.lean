/- Where a place lies: the document's, walked. -/
import Derived.Test.YtkgagdjogedoiaaGreatSw1
import Derived.Test.YtkgagdjogedoiaaGreatDf5
set_option linter.unusedVariables false
set_option linter.unusedSimpArgs false
set_option maxRecDepth 100000
set_option maxHeartbeats 8000000
namespace Go.Proofs.YtkgagdjogedoiaaGreat
open Go Go.RowKit Go.Proofs.YtkgagdjogedoiaaGreat.Fx Go.Proofs.YtkgagdjogedoiaaGreatW.PrintWords
structure p20 (p:Int × Int):Prop where
  x1 : -1048576≤p.1
  x2:p.1≤1048576
  y1 : -1048576≤p.2
  y2:p.2≤1048576
def p20s (P:List (Int × Int)):Prop:=∀ p∈P,p20 p
def by3 (k:Int):Prop:=k=1∨k=2∨k=3
theorem by3.bd {k:Int} (h:by3 k):Bd 2 k:=by rcases h with rfl|rfl|rfl<;>decide
theorem p20.nk {p:Int × Int} (h:p20 p) {k:Int} (hk:by3 k):nea (k * p.1) (k * p.2):=by
  obtain ⟨h1,h2,h3,h4⟩:=h
  rcases hk with rfl|rfl|rfl<;>exact ⟨by omega,by omega,by omega,by omega⟩
theorem p20.nea1 {p:Int × Int} (h:p20 p):nea p.1 p.2:=by
  obtain ⟨h1,h2,h3,h4⟩:=h
  exact ⟨by omega,by omega,by omega,by omega⟩
theorem p20.bx {p:Int × Int} (h:p20 p):Bd 24 p.1:=h.nea1.bx
theorem p20.by_ {p:Int × Int} (h:p20 p):Bd 24 p.2:=h.nea1.by_
theorem p20s.at {P:List (Int × Int)} (h:p20s P) {k:Nat} {p:Int × Int} (hp:P[k]?=some p):p20 p:=h p (List.mem_of_getElem? hp)
def inS (P L:List (Int × Int)):Prop:=∀ s∈L,InP P s.1∧InP P s.2
def disS (P L:List (Int × Int)):Prop:=∀ s∈L,atP P s.1≠atP P s.2
theorem atS_of {P:List (Int × Int)} {g:Int→Int→Int→Int→Int→Int→Bool} {k:Int} {q s p r:Int × Int} {u v:Nat} (e1:s.1=u) (e2:s.2=v) (h1:P[u]?=some p) (h2:P[v]?=some r):atS P g k q s=g (k * p.1) (k * p.2) (k * r.1) (k * r.2) q.1 q.2:=by
  unfold atS
  rw [e1,e2,atP_of h1,atP_of h2]
theorem whr_on {P L:List (Int × Int)} {k:Int} {q s:Int × Int} {i:Nat} (h:L[i]?=some s) (hs:atS P onZ k q s=true):whrR P L k q=0:=if_pos (List.any_eq_true.2 ⟨s,List.mem_of_getElem? h,hs⟩)
def cntC (P L:List (Int × Int)) (k:Int) (q:Int × Int):Int:=((L.countP (atS P crsZ k q):Nat):Int)
theorem whr_no {P L:List (Int × Int)} {k:Int} {q:Int × Int} (h:∀ s∈L.take L.length,atS P onZ k q s=false):whrR P L k q=if (cntC P (L.take L.length) k q).tmod 2=1 then 1 else -1:=by
  rw [List.take_length] at *
  exact if_neg (fun hh=>by
    obtain ⟨s,hs,h1⟩:=List.any_eq_true.1 hh
    rw [h s hs] at h1
    cases h1)
theorem cnt_succ {P L:List (Int × Int)} {k:Int} {q s:Int × Int} {i:Nat} (h:L[i]?=some s):cntC P (L.take (i+1)) k q=cntC P (L.take i) k q+b2i (atS P crsZ k q s):=by
  unfold cntC
  rw [take_succ' h,List.countP_append,List.countP_singleton]
  cases atS P crsZ k q s<;>rfl
theorem cnt_le (P L:List (Int × Int)) (k:Int) (q:Int × Int) (i:Nat):0≤cntC P (L.take i) k q∧cntC P (L.take i) k q≤L.length:=by
  unfold cntC
  have h1:(L.take i).countP (atS P crsZ k q)≤(L.take i).length:=List.countP_le_length
  have h2:(L.take i).length≤L.length:=by rw [List.length_take];omega
  omega
theorem sgn_mul1 (a b:Int):IntKind.i64.wrap (sgn a * sgn b)=sgn a * sgn b:=sgn_mul a b
theorem cnt_up' {x z:Int} {b:Bool} (hx:0≤x∧x≤z) (hz:z≤1000000) (hb:b=true):IntKind.i64.wrap (x+1)=x+b2i b:=by
  rw [hb,IntWalk.i64_in _ (by omega)]
  rfl
theorem fn_times9 {x y k:Int} (hx:Bd 24 x) (hy:Bd 24 y) (hk:Bd 2 k):FnC Tryz.prog 131 [.is (ptv x y),iv k] (.is (ptv (k * x) (k * y))):=by
 refine FnC.of (N:=14) Tryz.func131 rfl rfl (Nat.le_of_ble_eq_true rfl) (fun w0 ok0=>?_)
 refine Tr.rs [] (.k (bxx .k (.b 0 rfl)) (.k (alc .k zP) .n)) [1] [0,1] rfl rfl ?_
 refine Tr.rs [(2,9)] (.k (mv .k (.b 0 rfl)) (.k (faddr .k (.b 1 rfl) rfl fPX) (.k (ldc .k (.g 1 rfl) (.b 1 rfl) tyI) (.k (mul_ .k (.g 0 rfl) (.g 2 rfl) (Bd.wrap (Bd.mul hk hx) (by decide))) (.k (mv .k (.b 0 rfl)) (.k (faddr .k (.b 1 rfl) rfl fPY) (.k (ldc .k (.g 5 rfl) (.b 1 rfl) tyI) (.k (mul_ .k (.g 4 rfl) (.g 6 rfl) (Bd.wrap (Bd.mul hk hy) (by decide))) (.k (bld .k (.k (.g 3 rfl) (.k (.g 7 rfl) .n)) (bP _ _) (aP _ _)) (.k (sto .k (.b 2 rfl) (.g 8 rfl) tyP) .n)))))))))) [] [9] rfl rfl ?_
 refine Tr.ret (end_cell 0 rfl rfl tyP)
theorem fn_farther {ax ay bx b_y qx qy:Int} (h1:nea ax ay) (h2:nea bx b_y) (h3:nea qx qy):FnC Tryz.prog 133 [.is (ptv ax ay),.is (ptv bx b_y),.is (ptv qx qy)] (bv (farZ ax ay bx b_y qx qy)):=by
 refine FnC.of (N:=49) Tryz.func133 rfl rfl (Nat.le_of_ble_eq_true rfl) (fun w0 ok0=>?_)
 refine Tr.rs [] (.k (bxx .k (.b 0 rfl)) (.k (bxx .k (.b 1 rfl)) (.k (bxx .k (.b 2 rfl)) (.k (asg .k .c) .n)))) [] [0,1,2] rfl rfl ?_
 refine Tr.rs [] (.k (faddr .k (.b 1 rfl) rfl fPY) (.k (ldc .k (.g 0 rfl) (.b 1 rfl) tyI) (.k (faddr .k (.b 0 rfl) rfl fPY) (.k (ldc .k (.g 2 rfl) (.b 0 rfl) tyI) (.k (sub_ .k (.g 1 rfl) (.g 3 rfl) (Bd.wrap (Bd.sub h2.by_ h1.by_) (by decide))) (.k (cal .k Tryz.func99 rfl (fn_small (lN (Bd.sub h2.by_ h1.by_) (by decide)).1 (lN (Bd.sub h2.by_ h1.by_) (by decide)).2) (.k (.g 4 rfl) .n)) (.k (ala .k zN) (.k (sta .k (.g 6 rfl) (.g 5 rfl) tyN) .n)))))))) [0,1,2] [7] rfl rfl ?_
 refine Tr.ds hmx [] (.k (faddr .k (.b 0 rfl) rfl fPX) (.k (ldc .k (.g 0 rfl) (.b 0 rfl) tyI) (.k (cal .k Tryz.func99 rfl (fn_small (lN h1.bx (by decide)).1 (lN h1.bx (by decide)).2) (.k (.g 1 rfl) .n)) (.k (ld .k (.b 3 rfl) tyN) (.k (cal .k Tryz.func71 rfl (fn_times (by decide) (by decide)) (.k (.g 2 rfl) (.k (.g 3 rfl) .n))) (.k (faddr .k (.b 1 rfl) rfl fPX) (.k (ldc .k (.g 5 rfl) (.b 1 rfl) tyI) (.k (faddr .k (.b 0 rfl) rfl fPX) (.k (ldc .k (.g 7 rfl) (.b 0 rfl) tyI) (.k (sub_ .k (.g 6 rfl) (.g 8 rfl) (Bd.wrap (Bd.sub h2.bx h1.bx) (by decide))) (.k (cal .k Tryz.func99 rfl (fn_small (lN (Bd.sub h2.bx h1.bx) (by decide)).1 (lN (Bd.sub h2.bx h1.bx) (by decide)).2) (.k (.g 9 rfl) .n)) (.k (faddr .k (.b 2 rfl) rfl fPY) (.k (ldc .k (.g 11 rfl) (.b 2 rfl) tyI) (.k (faddr .k (.b 0 rfl) rfl fPY) (.k (ldc .k (.g 13 rfl) (.b 0 rfl) tyI) (.k (sub_ .k (.g 12 rfl) (.g 14 rfl) (Bd.wrap (Bd.sub h3.by_ h1.by_) (by decide))) (.k (cal .k Tryz.func99 rfl (fn_small (lN (Bd.sub h3.by_ h1.by_) (by decide)).1 (lN (Bd.sub h3.by_ h1.by_) (by decide)).2) (.k (.g 15 rfl) .n)) (.k (cal .k Tryz.func71 rfl (fn_times (by decide) (by decide)) (.k (.g 10 rfl) (.k (.g 16 rfl) .n))) (.k (cal .k Tryz.func45 rfl (fn_plus (by decide) (by decide)) (.k (.g 4 rfl) (.k (.g 17 rfl) .n))) (.k (ala .k zN) (.k (sta .k (.g 19 rfl) (.g 18 rfl) tyN) .n))))))))))))))))))))) [2,3] [20] rfl rfl ?_
 refine Tr.ds hmx [] (.k (ld .k (.b 2 rfl) tyN) (.k (faddr .k (.b 0 rfl) rfl fPX) (.k (ldc .k (.g 1 rfl) (.b 0 rfl) tyI) (.k (cal .k Tryz.func99 rfl (fn_small (lN h3.bx (by decide)).1 (lN h3.bx (by decide)).2) (.k (.g 2 rfl) .n)) (.k (ld .k (.b 1 rfl) tyN) (.k (cal .k Tryz.func71 rfl (fn_times (by decide) (by decide)) (.k (.g 3 rfl) (.k (.g 4 rfl) .n))) (.k (cal .k Tryz.func86 rfl fn_nneg (.k (.g 5 rfl) .n)) (.k (cal .k Tryz.func45 rfl (fn_plus (by decide) (by decide)) (.k (.g 0 rfl) (.k (.g 6 rfl) .n))) (.k (cal .k Tryz.func70 rfl fn_nsign (.k (.g 7 rfl) .n)) (.k (asg .k (.g 8 rfl)) .n)))))))))) [1] [9] rfl rfl ?_
 refine Tr.rs [] (.k (mv .k (.b 1 rfl)) (.k (ld .k (.b 0 rfl) tyN) (.k (cal .k Tryz.func70 rfl fn_nsign (.k (.g 1 rfl) .n)) (.k (mul_ .k (.g 0 rfl) (.g 2 rfl) (sgn_mul1 _ _)) (.k (gt_ .k (.g 3 rfl) .c rfl) (.k (asg .k (.g 4 rfl)) .n)))))) [] [5] rfl rfl ?_
 refine Tr.ret (end_tmp 0 rfl rfl)
theorem fn_Where {P L:List (Int × Int)} {k:Int} {q:Int × Int} (hP:p20s P) (hLl:L.length≤1000000) (hL:inS P L) (hk:by3 k) (hq:nea q.1 q.2):FnC Tryz.prog 108 [pvec P,svec L,iv k,.is (ptv q.1 q.2)] (iv (whrR P L k q)):=by
 refine FnC.of (N:=65) Tryz.func108 rfl rfl (Nat.le_of_ble_eq_true rfl) (fun w0 ok0=>?_)
 refine Tr.rs [] (.k (bxx .k (.b 3 rfl)) (.k (asg .k .c) .n)) [0,1,2] [0] rfl rfl ?_
 refine Tr.rs [] (.k (asg .k .c) .n) [0,1,2,3] [0] rfl rfl ?_
 refine Tr.seq (Tr.rs [] (.k (asg .k .c) .n) [0,1,2,3,4] [0] rfl rfl ?_)
 refine Tr.block (?_)
 refine Tr.loop (fun n_ F_=>∃ i:Nat,(i≤L.length∧∀ s∈L.take i,atS P onZ k q s=false)∧n_=L.length - i∧F_=[.s 0 (pvec P),.s 1 (svec L),.s 2 (iv k),.b 7 (.is (ptv q.1 q.2)) 30 2,.s 9 (iv (cntC P (L.take i) k q)),.s 10 (iv ((i:Nat):Int))]) (L.length - 0) (F0:=[.s 0 (pvec P),.s 1 (svec L),.s 2 (iv k),.b 7 (.is (ptv q.1 q.2)) 30 2,.s 9 (iv (cntC P (L.take 0) k q)),.s 10 (iv ((0:Nat):Int))]) ⟨0,⟨Nat.zero_le _,by simp⟩,rfl,rfl⟩ (Sub.all (.cons 0 rfl (.cons 1 rfl (.cons 2 rfl (.cons 3 rfl (.cons 4 rfl (.cons 5 rfl .nil))))))) (fun n_ F_ hI=>?_)
 obtain ⟨i,hinv,rfl,rfl⟩:=hI
 refine Tr.seq (Tr.rs [] (.k (mv .k (.b 5 rfl)) (.k (mv .k (.b 1 rfl)) (.k (len_ .k rwS (.g 1 rfl) (by rw [List.length_map])) (.k (lt_ .k (.g 0 rfl) (.g 2 rfl) rfl) .n)))) [0,1,2,3,4,5] [3] rfl rfl ?_)
 refine Tr.cond 6 rfl (fun e16=>?_) (fun e16=>?_)
 ·
  have hi2:i < L.length:=by have:=of_decide_eq_true e16;omega
  refine Tr.skip (Nx.go (Tr.seq (Tr.block (?_))))
  obtain ⟨s,p1⟩:∃ s,L[i]?=some s:=⟨_,List.getElem?_eq_getElem hi2⟩;obtain ⟨⟨u,p,es1,q1⟩,v,r,es2,q2⟩:=hL s (List.mem_of_getElem? p1);have hP1:=hP.at q1;have hP2:=hP.at q2
  refine Tr.rs [] (.k (mv .k (.b 0 rfl)) (.k (mv .k (.b 1 rfl)) (.k (mv .k (.b 5 rfl)) (.k (idx_ .k rwS (.g 1 rfl) (.g 2 rfl) rfl (gm p1)) (.k (fat .k (.g 3 rfl) aSA rfl) (.k (ldc_at .k (.g 4 rfl) tyI) (.k (idx_ .k rwP (.g 0 rfl) (.g 5 rfl) es1 (gm q1)) (.k (ld_at .k (.g 6 rfl) tyP rfl (show _=ptv _ _ from rfl)) (.k (mv .k (.b 2 rfl)) (.k (cal .k Tryz.func131 rfl (fn_times9 hP1.bx hP1.by_ hk.bd) (.k (.g 7 rfl) (.k (.g 8 rfl) .n))) (.k (ala .k zP) (.k (sta .k (.g 10 rfl) (.g 9 rfl) tyP) .n)))))))))))) [0,1,2,3,4,5] [11] rfl rfl ?_
  refine Tr.rs [] (.k (mv .k (.b 0 rfl)) (.k (mv .k (.b 1 rfl)) (.k (mv .k (.b 5 rfl)) (.k (idx_ .k rwS (.g 1 rfl) (.g 2 rfl) rfl (gm p1)) (.k (fat .k (.g 3 rfl) aSB rfl) (.k (ldc_at .k (.g 4 rfl) tyI) (.k (idx_ .k rwP (.g 0 rfl) (.g 5 rfl) es2 (gm q2)) (.k (ld_at .k (.g 6 rfl) tyP rfl (show _=ptv _ _ from rfl)) (.k (mv .k (.b 2 rfl)) (.k (cal .k Tryz.func131 rfl (fn_times9 hP2.bx hP2.by_ hk.bd) (.k (.g 7 rfl) (.k (.g 8 rfl) .n))) (.k (ala .k zP) (.k (sta .k (.g 10 rfl) (.g 9 rfl) tyP) .n)))))))))))) [0,1,2,3,4,5,6] [11] rfl rfl ?_
  have hat:=atS_of (g:=onZ) (k:=k) (q:=q) es1 es2 q1 q2;cases hon:onZ (k * p.1) (k * p.2) (k * r.1) (k * r.2) q.1 q.2
  ·
   rw [hon] at hat
   have hno:atS P onZ k q s=false:=hat
   refine Tr.seq (Tr.rs [] (.k (ld .k (.b 6 rfl) tyP) (.k (ld .k (.b 7 rfl) tyP) (.k (ld .k (.b 3 rfl) tyP) (.k (cal .k Tryz.func132 rfl (show FnC _ _ _ (bv false) from hon ▸ fn_On (hP1.nk hk) (hP2.nk hk) hq) (.k (.g 0 rfl) (.k (.g 1 rfl) (.k (.g 2 rfl) .n)))) .n)))) [0,1,2,3,4,5,6,7] [3] rfl rfl ?_)
   refine Tr.cond 8 rfl nofun (fun _=>?_)
   refine Tr.skip (Nx.go (?_))
   cases hx:(decide (k * p.2 > q.2) != decide (k * r.2 > q.2))
   ·
    have hcs:=cnt_succ (P:=P) (k:=k) (q:=q) p1;rw [atS_of es1 es2 q1 q2] at hcs
    rw [cnt_no (show crsZ (k * p.1) (k * p.2) (k * r.1) (k * r.2) q.1 q.2=false by unfold crsZ;rw [hx,Bool.false_and])] at hcs
    refine Tr.rs [] (.k (faddr .k (.b 6 rfl) rfl fPY) (.k (ldc .k (.g 0 rfl) (.b 6 rfl) tyI) (.k (faddr .k (.b 3 rfl) rfl fPY) (.k (ldc .k (.g 2 rfl) (.b 3 rfl) tyI) (.k (gt_ .k (.g 1 rfl) (.g 3 rfl) rfl) (.k (faddr .k (.b 7 rfl) rfl fPY) (.k (ldc .k (.g 5 rfl) (.b 7 rfl) tyI) (.k (faddr .k (.b 3 rfl) rfl fPY) (.k (ldc .k (.g 7 rfl) (.b 3 rfl) tyI) (.k (gt_ .k (.g 6 rfl) (.g 8 rfl) rfl) (.k (neB_ .k Tryz.underlying4 (.g 4 rfl) (.g 9 rfl) hx) (.k (mv .k (.g 10 rfl)) (.k (skp (.o 11 rfl rfl rfl)) (.k (skp (.o 11 rfl rfl rfl)) (.k (skp (.o 11 rfl rfl rfl)) (.k (skp (.o 11 rfl rfl rfl)) (.k (pickF .k (.g 11 rfl) .c) .n))))))))))))))))) [0,1,2,3,4,5] [16] rfl rfl ?_
    refine Tr.cond 6 rfl nofun (fun _=>?_)
    refine Tr.skip (Nx.bkN (Nx.go (?_)))
    rw [← hcs]
    refine Tr.reg [(5,2)] (.k (mv .k (.b 5 rfl)) (.k (add_ .k (.g 0 rfl) .c (wr1 (by omega))) (.k (asg .k (.g 1 rfl)) .n))) [0,1,2,3,4] [2] rfl rfl (Nx.again (L.length - (i+1)) (by omega) [.s 0 (pvec P),.s 1 (svec L),.s 2 (iv k),.b 7 (.is (ptv q.1 q.2)) 30 2,.s 9 (iv (cntC P (L.take (i+1)) k q)),.s 10 (iv (((i+1):Nat):Int))] ⟨(i+1),⟨by omega,all_succ p1 hno hinv.2⟩,rfl,rfl⟩ (Sub.all (.cons 0 rfl (.cons 1 rfl (.cons 2 rfl (.cons 3 rfl (.cons 4 rfl (.cons 5 rfl .nil))))))))
   ·
    have hcs:=cnt_succ (P:=P) (k:=k) (q:=q) p1;rw [atS_of es1 es2 q1 q2] at hcs
    refine Tr.rs [] (.k (faddr .k (.b 6 rfl) rfl fPY) (.k (ldc .k (.g 0 rfl) (.b 6 rfl) tyI) (.k (faddr .k (.b 3 rfl) rfl fPY) (.k (ldc .k (.g 2 rfl) (.b 3 rfl) tyI) (.k (gt_ .k (.g 1 rfl) (.g 3 rfl) rfl) (.k (faddr .k (.b 7 rfl) rfl fPY) (.k (ldc .k (.g 5 rfl) (.b 7 rfl) tyI) (.k (faddr .k (.b 3 rfl) rfl fPY) (.k (ldc .k (.g 7 rfl) (.b 3 rfl) tyI) (.k (gt_ .k (.g 6 rfl) (.g 8 rfl) rfl) (.k (neB_ .k Tryz.underlying4 (.g 4 rfl) (.g 9 rfl) hx) (.k (mv .k (.g 10 rfl)) (.k (ld (.o 11 rfl rfl rfl) (.b 6 rfl) tyP) (.k (ld (.o 11 rfl rfl rfl) (.b 7 rfl) tyP) (.k (ld (.o 11 rfl rfl rfl) (.b 3 rfl) tyP) (.k (cal (.o 11 rfl rfl rfl) Tryz.func133 rfl (fn_farther (hP1.nk hk) (hP2.nk hk) hq) (.k (.g 12 rfl) (.k (.g 13 rfl) (.k (.g 14 rfl) .n)))) (.k (pickT .k (.g 11 rfl) (.g 15 rfl)) .n))))))))))))))))) [0,1,2,3,4,5] [16] rfl rfl ?_
    refine Tr.cond 6 rfl (fun e59=>?_) (fun e59=>?_)
    ·
     refine Tr.reg [(4,2)] (.k (mv .k (.b 4 rfl)) (.k (add_ .k (.g 0 rfl) .c (cnt_up' (cnt_le P L k q i) (show (L.length:Int)≤1000000 by omega) (show crsZ (k * p.1) (k * p.2) (k * r.1) (k * r.2) q.1 q.2=true by unfold crsZ;rw [hx,e59];rfl))) (.k (asg .k (.g 1 rfl)) .n))) [0,1,2,3,5] [2] rfl rfl (Nx.bkN (Nx.go (?_)))
     rw [← hcs]
     refine Tr.reg [(4,2)] (.k (mv .k (.b 4 rfl)) (.k (add_ .k (.g 0 rfl) .c (wr1 (by omega))) (.k (asg .k (.g 1 rfl)) .n))) [0,1,2,3,5] [2] rfl rfl (Nx.again (L.length - (i+1)) (by omega) [.s 0 (pvec P),.s 1 (svec L),.s 2 (iv k),.b 7 (.is (ptv q.1 q.2)) 30 2,.s 9 (iv (cntC P (L.take (i+1)) k q)),.s 10 (iv (((i+1):Nat):Int))] ⟨(i+1),⟨by omega,all_succ p1 hno hinv.2⟩,rfl,rfl⟩ (Sub.all (.cons 0 rfl (.cons 1 rfl (.cons 2 rfl (.cons 3 rfl (.cons 4 rfl (.cons 5 rfl .nil))))))))
    ·
     rw [cnt_no (show crsZ (k * p.1) (k * p.2) (k * r.1) (k * r.2) q.1 q.2=false by unfold crsZ;rw [e59,Bool.and_false])] at hcs
     refine Tr.skip (Nx.bkN (Nx.go (?_)))
     rw [← hcs]
     refine Tr.reg [(5,2)] (.k (mv .k (.b 5 rfl)) (.k (add_ .k (.g 0 rfl) .c (wr1 (by omega))) (.k (asg .k (.g 1 rfl)) .n))) [0,1,2,3,4] [2] rfl rfl (Nx.again (L.length - (i+1)) (by omega) [.s 0 (pvec P),.s 1 (svec L),.s 2 (iv k),.b 7 (.is (ptv q.1 q.2)) 30 2,.s 9 (iv (cntC P (L.take (i+1)) k q)),.s 10 (iv (((i+1):Nat):Int))] ⟨(i+1),⟨by omega,all_succ p1 hno hinv.2⟩,rfl,rfl⟩ (Sub.all (.cons 0 rfl (.cons 1 rfl (.cons 2 rfl (.cons 3 rfl (.cons 4 rfl (.cons 5 rfl .nil))))))))
  ·
   rw [hon] at hat
   rw [whr_on p1 hat]
   refine Tr.seq (Tr.rs [] (.k (ld .k (.b 6 rfl) tyP) (.k (ld .k (.b 7 rfl) tyP) (.k (ld .k (.b 3 rfl) tyP) (.k (cal .k Tryz.func132 rfl (show FnC _ _ _ (bv true) from hon ▸ fn_On (hP1.nk hk) (hP2.nk hk) hq) (.k (.g 0 rfl) (.k (.g 1 rfl) (.k (.g 2 rfl) .n)))) .n)))) [0,1,2,3,4,5,6,7] [3] rfl rfl ?_)
   refine Tr.cond 8 rfl (fun _=>?_) nofun
   refine Tr.rs [] (.k (asg .k .c) .n) [] [0] rfl rfl ?_
   refine Tr.ret (end_tmp 0 rfl rfl)
 ·
  obtain rfl:i=L.length:=by have:=of_decide_eq_false e16;omega
  refine Tr.exit (Nx.thX (Nx.thX (Nx.bkX (Nx.go (?_)))))
  rw [whr_no hinv.2]
  refine Tr.seq (Tr.rs [] (.k (mv .k (.b 4 rfl)) (.k (rem_ .k (.g 0 rfl) .c (by decide) rfl) (.k (eq_ .k (.g 1 rfl) .c rfl) .n))) [] [2] rfl rfl ?_)
  refine Tr.cond 0 rfl (fun e64=>?_) (fun e64=>?_)
  ·
   rw [if_pos (beq_iff_eq.1 e64)]
   refine Tr.rs [] (.k (asg .k .c) .n) [] [0] rfl rfl ?_
   refine Tr.ret (end_tmp 0 rfl rfl)
  ·
   rw [if_neg (beq_eq_false_iff_ne.1 e64)]
   refine Tr.skip (Nx.go (Tr.rs [] (.k (asg .k .c) .n) [] [0] rfl rfl ?_))
   refine Tr.ret (end_tmp 0 rfl rfl)
theorem same_no {p r:Int × Int} (h:p≠r):same p.1 p.2 r.1 r.2=false:=by
  unfold same
  refine Bool.eq_false_iff.2 fun h'=>h ?_
  simp only [Bool.and_eq_true,beq_iff_eq] at h'
  exact Prod.ext h'.1 h'.2
theorem same_yes {p r:Int × Int} (h:p=r):same p.1 p.2 r.1 r.2=true:=by
  subst h
  unfold same
  simp
theorem fn_Check9 {P L:List (Int × Int)} {k:Int} (hP:p20s P) (hPl:P.length≤1000000) (hLl:L.length≤1000000) (hL:inS P L) (hD:disS P L) (hk:by3 k):FnC Tryz.prog 107 [pvec P,svec L,iv k] (bv true):=by
 refine FnC.of (N:=92) Tryz.func107 rfl rfl (Nat.le_of_ble_eq_true rfl) (fun w0 ok0=>?_)
 refine Tr.rs [] (.k (asg .k .c) .n) [0,1,2] [] rfl rfl ?_
 refine Tr.seq (Tr.rs [] (.k (asg .k .c) .n) [0,1,2] [0] rfl rfl ?_)
 refine Tr.block (?_)
 refine Tr.loop (fun n_ F_=>∃ i:Nat,(i≤L.length)∧n_=L.length - i∧F_=[.s 0 (pvec P),.s 1 (svec L),.s 2 (iv k),.s 7 (iv ((i:Nat):Int))]) (L.length - 0) (F0:=[.s 0 (pvec P),.s 1 (svec L),.s 2 (iv k),.s 7 (iv ((0:Nat):Int))]) ⟨0,Nat.zero_le _,rfl,rfl⟩ (Sub.all (.cons 0 rfl (.cons 1 rfl (.cons 2 rfl (.cons 3 rfl .nil))))) (fun n_ F_ hI=>?_)
 obtain ⟨i,hinv,rfl,rfl⟩:=hI
 refine Tr.seq (Tr.rs [] (.k (mv .k (.b 3 rfl)) (.k (mv .k (.b 1 rfl)) (.k (len_ .k rwS (.g 1 rfl) (by rw [List.length_map])) (.k (lt_ .k (.g 0 rfl) (.g 2 rfl) rfl) .n)))) [0,1,2,3] [3] rfl rfl ?_)
 refine Tr.cond 4 rfl (fun e12=>?_) (fun e12=>?_)
 ·
  have hi2:i < L.length:=by have:=of_decide_eq_true e12;omega
  refine Tr.skip (Nx.go (Tr.seq (Tr.block (?_))))
  obtain ⟨s,p1⟩:∃ s,L[i]?=some s:=⟨_,List.getElem?_eq_getElem hi2⟩;have lS:=hL s (List.mem_of_getElem? p1);have lA:=inP_lt lS.1;have lB:=inP_lt lS.2;have hne:=hD s (List.mem_of_getElem? p1);obtain ⟨⟨u,p,es1,q1⟩,v,r,es2,q2⟩:=lS;have hP1:=hP.at q1;have hP2:=hP.at q2;rw [es1,es2,atP_of q1,atP_of q2] at hne;have hsm:=same_no hne
  refine Tr.rs [] (.k (mv .k (.b 1 rfl)) (.k (mv .k (.b 3 rfl)) (.k (idx_ .k rwS (.g 0 rfl) (.g 1 rfl) rfl (gm p1)) (.k (ld_at .k (.g 2 rfl) tyS rfl (show _=sgv (_,_) from rfl)) (.k (ala .k zS) (.k (sta .k (.g 4 rfl) (.g 3 rfl) tyS) .n)))))) [0,1,2,3] [5] rfl rfl ?_
  refine Tr.seq (Tr.ds hmx [] (.k (faddr .k (.b 4 rfl) rfl fSA) (.k (ldc .k (.g 0 rfl) (.b 4 rfl) tyI) (.k (lt_ .k (.g 1 rfl) .c (dF (by omega))) (.k (mv .k (.g 2 rfl)) (.k (faddr (.o 3 rfl rfl rfl) (.b 4 rfl) rfl fSB) (.k (ldc (.o 3 rfl rfl rfl) (.g 4 rfl) (.b 4 rfl) tyI) (.k (lt_ (.o 3 rfl rfl rfl) (.g 5 rfl) .c (dF (by omega))) (.k (pickF .k (.g 3 rfl) (.g 6 rfl)) (.k (mv .k (.g 7 rfl)) (.k (faddr (.o 8 rfl rfl rfl) (.b 4 rfl) rfl fSA) (.k (ldc (.o 8 rfl rfl rfl) (.g 9 rfl) (.b 4 rfl) tyI) (.k (mv (.o 8 rfl rfl rfl) (.b 0 rfl)) (.k (len_ (.o 8 rfl rfl rfl) rwP (.g 11 rfl) (by rw [List.length_map])) (.k (ge_ (.o 8 rfl rfl rfl) (.g 10 rfl) (.g 12 rfl) (dF (by omega))) (.k (pickF .k (.g 8 rfl) (.g 13 rfl)) (.k (mv .k (.g 14 rfl)) (.k (faddr (.o 15 rfl rfl rfl) (.b 4 rfl) rfl fSB) (.k (ldc (.o 15 rfl rfl rfl) (.g 16 rfl) (.b 4 rfl) tyI) (.k (mv (.o 15 rfl rfl rfl) (.b 0 rfl)) (.k (len_ (.o 15 rfl rfl rfl) rwP (.g 18 rfl) (by rw [List.length_map])) (.k (ge_ (.o 15 rfl rfl rfl) (.g 17 rfl) (.g 19 rfl) (dF (by omega))) (.k (pickF .k (.g 15 rfl) (.g 20 rfl)) (.k (mv .k (.g 21 rfl)) (.k (mv (.o 22 rfl rfl rfl) (.b 0 rfl)) (.k (faddr (.o 22 rfl rfl rfl) (.b 4 rfl) rfl fSA) (.k (ldc (.o 22 rfl rfl rfl) (.g 24 rfl) (.b 4 rfl) tyI) (.k (idx_ (.o 22 rfl rfl rfl) rwP (.g 23 rfl) (.g 25 rfl) es1 (gm q1)) (.k (ld_at (.o 22 rfl rfl rfl) (.g 26 rfl) tyP rfl (show _=ptv _ _ from rfl)) (.k (mv (.o 22 rfl rfl rfl) (.b 0 rfl)) (.k (faddr (.o 22 rfl rfl rfl) (.b 4 rfl) rfl fSB) (.k (ldc (.o 22 rfl rfl rfl) (.g 29 rfl) (.b 4 rfl) tyI) (.k (idx_ (.o 22 rfl rfl rfl) rwP (.g 28 rfl) (.g 30 rfl) es2 (gm q2)) (.k (ld_at (.o 22 rfl rfl rfl) (.g 31 rfl) tyP rfl (show _=ptv _ _ from rfl)) (.k (eqS_ (.o 22 rfl rfl rfl) ptG (.g 27 rfl) (.g 32 rfl) (eqP _ _ _ _) hsm) (.k (pickF .k (.g 22 rfl) (.g 33 rfl)) .n))))))))))))))))))))))))))))))))))) [0,1,2,3,4] [34] rfl rfl ?_)
  refine Tr.cond 5 rfl nofun (fun _=>?_)
  refine Tr.skip (Nx.go (Tr.rs [] (.k (mv .k (.b 0 rfl)) (.k (faddr .k (.b 4 rfl) rfl fSA) (.k (ldc .k (.g 1 rfl) (.b 4 rfl) tyI) (.k (idx_ .k rwP (.g 0 rfl) (.g 2 rfl) es1 (gm q1)) (.k (ld_at .k (.g 3 rfl) tyP rfl (show _=ptv _ _ from rfl)) (.k (cal .k Tryz.func43 rfl (fn_rFitsT hP1.nea1.f) (.k (.g 4 rfl) .n)) (.k (not_ .k (.g 5 rfl)) (.k (mv .k (.g 6 rfl)) (.k (mv (.o 7 rfl rfl rfl) (.b 0 rfl)) (.k (faddr (.o 7 rfl rfl rfl) (.b 4 rfl) rfl fSB) (.k (ldc (.o 7 rfl rfl rfl) (.g 9 rfl) (.b 4 rfl) tyI) (.k (idx_ (.o 7 rfl rfl rfl) rwP (.g 8 rfl) (.g 10 rfl) es2 (gm q2)) (.k (ld_at (.o 7 rfl rfl rfl) (.g 11 rfl) tyP rfl (show _=ptv _ _ from rfl)) (.k (cal (.o 7 rfl rfl rfl) Tryz.func43 rfl (fn_rFitsT hP2.nea1.f) (.k (.g 12 rfl) .n)) (.k (not_ (.o 7 rfl rfl rfl) (.g 13 rfl)) (.k (pickF .k (.g 7 rfl) (.g 14 rfl)) (.k (mv .k (.g 15 rfl)) (.k (mv (.o 16 rfl rfl rfl) (.b 0 rfl)) (.k (faddr (.o 16 rfl rfl rfl) (.b 4 rfl) rfl fSA) (.k (ldc (.o 16 rfl rfl rfl) (.g 18 rfl) (.b 4 rfl) tyI) (.k (idx_ (.o 16 rfl rfl rfl) rwP (.g 17 rfl) (.g 19 rfl) es1 (gm q1)) (.k (ld_at (.o 16 rfl rfl rfl) (.g 20 rfl) tyP rfl (show _=ptv _ _ from rfl)) (.k (mv (.o 16 rfl rfl rfl) (.b 2 rfl)) (.k (cal (.o 16 rfl rfl rfl) Tryz.func131 rfl (fn_times9 hP1.bx hP1.by_ hk.bd) (.k (.g 21 rfl) (.k (.g 22 rfl) .n))) (.k (cal (.o 16 rfl rfl rfl) Tryz.func43 rfl (fn_rFitsT (hP1.nk hk).f) (.k (.g 23 rfl) .n)) (.k (not_ (.o 16 rfl rfl rfl) (.g 24 rfl)) (.k (pickF .k (.g 16 rfl) (.g 25 rfl)) (.k (mv .k (.g 26 rfl)) (.k (mv (.o 27 rfl rfl rfl) (.b 0 rfl)) (.k (faddr (.o 27 rfl rfl rfl) (.b 4 rfl) rfl fSB) (.k (ldc (.o 27 rfl rfl rfl) (.g 29 rfl) (.b 4 rfl) tyI) (.k (idx_ (.o 27 rfl rfl rfl) rwP (.g 28 rfl) (.g 30 rfl) es2 (gm q2)) (.k (ld_at (.o 27 rfl rfl rfl) (.g 31 rfl) tyP rfl (show _=ptv _ _ from rfl)) (.k (mv (.o 27 rfl rfl rfl) (.b 2 rfl)) (.k (cal (.o 27 rfl rfl rfl) Tryz.func131 rfl (fn_times9 hP2.bx hP2.by_ hk.bd) (.k (.g 32 rfl) (.k (.g 33 rfl) .n))) (.k (cal (.o 27 rfl rfl rfl) Tryz.func43 rfl (fn_rFitsT (hP2.nk hk).f) (.k (.g 34 rfl) .n)) (.k (not_ (.o 27 rfl rfl rfl) (.g 35 rfl)) (.k (pickF .k (.g 27 rfl) (.g 36 rfl)) .n)))))))))))))))))))))))))))))))))))))) [0,1,2,3] [37] rfl rfl ?_))
  refine Tr.cond 4 rfl nofun (fun _=>?_)
  refine Tr.skip (Nx.bkN (Nx.go (Tr.reg [(3,2)] (.k (mv .k (.b 3 rfl)) (.k (add_ .k (.g 0 rfl) .c (wr1 (by omega))) (.k (asg .k (.g 1 rfl)) .n))) [0,1,2] [2] rfl rfl (Nx.again (L.length - (i+1)) (by omega) [.s 0 (pvec P),.s 1 (svec L),.s 2 (iv k),.s 7 (iv (((i+1):Nat):Int))] ⟨(i+1),(by omega),rfl,rfl⟩ (Sub.all (.cons 0 rfl (.cons 1 rfl (.cons 2 rfl (.cons 3 rfl .nil)))))))))
 ·
  obtain rfl:i=L.length:=by have:=of_decide_eq_false e12;omega
  refine Tr.exit (Nx.thX (Nx.thX (Nx.bkX (Nx.go (Tr.rs [] (.k (asg .k .c) .n) [] [0] rfl rfl ?_)))))
  refine Tr.ret (end_tmp 0 rfl rfl)
end Go.Proofs.YtkgagdjogedoiaaGreat
