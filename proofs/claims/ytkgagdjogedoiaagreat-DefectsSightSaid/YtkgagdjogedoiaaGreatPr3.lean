import Derived.Test.YtkgagdjogedoiaaGreatNw
set_option linter.unusedVariables false
set_option linter.unusedSimpArgs false
namespace Go.Proofs.YtkgagdjogedoiaaGreat
open Go Go.RowKit Go.Proofs.YtkgagdjogedoiaaGreat.Fx Go.Proofs.YtkgagdjogedoiaaGreatW.PrintWords Go.Proofs.YtkgagdjogedoiaaGreatW.PrintLast
def ptv (x y:Int):Value := .agg #[.int .i64 x,.int .i64 y]
abbrev ptc (x y:Int):List Value:=(ptv x y).cells.toList
theorem tyP:AggTy Tryz.prog 30 2:=⟨⟨_,Tryz.underlying30,rfl⟩,by kernel_rfl⟩
instance (x y:Int):AggSP (.is (ptv x y)) 2:=⟨fun h=>⟨_,h,rfl,by simp [Value.oneCell']⟩⟩
instance (x y:Int):CellOf (.is (ptv x y)) 0 (iv x):=⟨fun h=>⟨_,by have h:Value.agg _=ptv x y:=h;simp only [ptv,Value.agg.injEq] at h;subst h;rfl,rfl⟩⟩
instance (x y:Int):CellOf (.is (ptv x y)) 1 (iv y):=⟨fun h=>⟨_,by have h:Value.agg _=ptv x y:=h;simp only [ptv,Value.agg.injEq] at h;subst h;rfl,rfl⟩⟩
end Go.Proofs.YtkgagdjogedoiaaGreat

set_option linter.unusedVariables false
set_option linter.unusedSimpArgs false
namespace Go.Proofs.YtkgagdjogedoiaaGreat
open Go Go.RowKit Go.Proofs.YtkgagdjogedoiaaGreat.Fx Go.Proofs.YtkgagdjogedoiaaGreatW.PrintWords Go.Proofs.YtkgagdjogedoiaaGreatW.PrintLast
theorem rwP:RowTy Tryz.prog 22 30 2:=⟨Tryz.underlying22,by kernel_rfl⟩
theorem fPX:FieldTy Tryz.prog 30 0 0:=⟨⟨_,_,Tryz.underlying30,rfl,fun _ _=>by kernel_rfl⟩⟩
theorem fPY:FieldTy Tryz.prog 30 1 1:=⟨⟨_,_,Tryz.underlying30,rfl,fun _ _=>by kernel_rfl⟩⟩
theorem zP (W:World):(zeroValue 30).run Tryz.prog W = .ok (ptv 0 0) W:=by kernel_rfl
theorem bP (x y:Int):Tryz.prog.built 30 [(0,.int .i64 x),(1,.int .i64 y)]=some (ptv x y).cells:=by kernel_rfl
theorem aP (x y:Int):Value.agg (ptv x y).cells=ptv x y:=rfl
theorem bPx (x:Int):Tryz.prog.built 30 [(0,.int .i64 x)]=some (ptv x 0).cells:=by kernel_rfl
theorem bP0:Tryz.prog.built 30 []=some (ptv 0 0).cells:=by kernel_rfl
theorem tN {k:Nat} {z:Int} (h:Bd k z) (hk:k≤256):(z.natAbs:Int) < top4:=h.lt hk
theorem lN {k:Nat} {z:Int} (h:Bd k z) (hk:k≤63) : -9223372036854775808≤z∧z≤9223372036854775807:=h.i64 hk
end Go.Proofs.YtkgagdjogedoiaaGreat

set_option linter.unusedVariables false
set_option linter.unusedSimpArgs false
namespace Go.Proofs.YtkgagdjogedoiaaGreat
open Go Go.RowKit Go.Proofs.YtkgagdjogedoiaaGreat.Fx Go.Proofs.YtkgagdjogedoiaaGreatW.PrintWords
theorem goOn2 {a b:Int} (h1:Bd 250 a) (h2:Bd 250 b):goOn (·+·) [a,b] 0=some (a+b):=by
  unfold goOn goOn goOn
  unfold Bd at h1 h2
  rw [if_pos (by unfold top4;omega),if_pos (by unfold top4;omega),Int.zero_add]
theorem goM2 {a b:Int} (h1:Bd 120 a) (h2:Bd 120 b):goOn (· * ·) [a,b] 1=some (a * b):=by
  unfold goOn goOn goOn
  rw [if_pos (by rw [Int.one_mul];exact tN h1 (by decide)),Int.one_mul,if_pos (tN (Bd.mul h1 h2) (by decide))]
theorem goM3 {a b c:Int} (h1:Bd 80 a) (h2:Bd 80 b) (h3:Bd 80 c):goOn (· * ·) [a,b,c] 1=some (a * b * c):=by
  unfold goOn goOn goOn goOn
  rw [if_pos (by rw [Int.one_mul];exact tN h1 (by decide)),Int.one_mul,if_pos (tN (Bd.mul h1 h2) (by decide)),if_pos (tN (Bd.mul (Bd.mul h1 h2) h3) (by decide))]
theorem all2 {p:Int→Prop} {a b:Int} (h1:p a) (h2:p b):∀ z∈[a,b],p z:=by
  intro z hz
  simp at hz
  rcases hz with rfl|rfl
  · exact h1
  · exact h2
theorem all3 {p:Int→Prop} {a b c:Int} (h1:p a) (h2:p b) (h3:p c):∀ z∈[a,b,c],p z:=by
  intro z hz
  simp at hz
  rcases hz with rfl|rfl|rfl
  · exact h1
  · exact h2
  · exact h3
theorem fn_Add2 {a b:Int} (h1:Bd 250 a) (h2:Bd 250 b):FnC Tryz.prog 100 [.vec 5 [wc a,wc b]] (.tup [.is (wv (a+b)),iv 0]):=fn_Add (zs:=[a,b]) (all2 (tN h1 (by decide)) (tN h2 (by decide))) (by simp) (goOn2 h1 h2)
theorem fn_Mul2 {a b:Int} (h1:Bd 120 a) (h2:Bd 120 b):FnC Tryz.prog 96 [.vec 5 [wc a,wc b]] (.tup [.is (wv (a * b)),iv 0]):=fn_Mul (zs:=[a,b]) (all2 (tN h1 (by decide)) (tN h2 (by decide))) (by simp) (goM2 h1 h2)
theorem fn_Mul3 {a b c:Int} (h1:Bd 80 a) (h2:Bd 80 b) (h3:Bd 80 c):FnC Tryz.prog 96 [.vec 5 [wc a,wc b,wc c]] (.tup [.is (wv (a * b * c)),iv 0]):=fn_Mul (zs:=[a,b,c]) (all3 (tN h1 (by decide)) (tN h2 (by decide)) (tN h3 (by decide))) (by simp) (goM3 h1 h2 h3)
set_option maxRecDepth 100000 in
theorem fn_from {ax ay bx b_y:Int} (h0:Bd 33 ax) (h1:Bd 33 ay) (h2:Bd 33 bx) (h3:Bd 33 b_y):FnC Tryz.prog 63 [.is (ptv ax ay),.is (ptv bx b_y)] (.is (ptv (bx - ax) (b_y - ay))):=by
 refine FnC.of (N:=16) Tryz.func63 rfl rfl (Nat.le_of_ble_eq_true rfl) (fun w0 ok0=>?_)
 refine Tr.rs [] (.k (bxx .k (.b 0 rfl)) (.k (bxx .k (.b 1 rfl)) (.k (alc .k zP) .n))) [] [0,1,2] rfl rfl ?_
 refine Tr.rs [(2,11)] (.k (faddr .k (.b 1 rfl) rfl fPX) (.k (ldc .k (.g 0 rfl) (.b 1 rfl) tyI) (.k (faddr .k (.b 0 rfl) rfl fPX) (.k (ldc .k (.g 2 rfl) (.b 0 rfl) tyI) (.k (sub_ .k (.g 1 rfl) (.g 3 rfl) (Bd.wrap (Bd.sub h2 h0) (by decide))) (.k (faddr .k (.b 1 rfl) rfl fPY) (.k (ldc .k (.g 5 rfl) (.b 1 rfl) tyI) (.k (faddr .k (.b 0 rfl) rfl fPY) (.k (ldc .k (.g 7 rfl) (.b 0 rfl) tyI) (.k (sub_ .k (.g 6 rfl) (.g 8 rfl) (Bd.wrap (Bd.sub h3 h1) (by decide))) (.k (bld .k (.k (.g 4 rfl) (.k (.g 9 rfl) .n)) (bP _ _) (aP _ _)) (.k (sto .k (.b 2 rfl) (.g 10 rfl) tyP) .n)))))))))))) [] [11] rfl rfl ?_
 refine Tr.ret (end_cell 0 rfl rfl tyP)
set_option maxRecDepth 100000 in
theorem fn_sum2 {a b:Int} (h1:Bd 250 a) (h2:Bd 250 b):FnC Tryz.prog 73 [.vec 5 [wc a,wc b]] (.is (wv (a+b))):=by
 refine FnC.of (N:=11) Tryz.func73 rfl rfl (Nat.le_of_ble_eq_true rfl) (fun w0 ok0=>?_)
 refine Tr.rs [] (.k (alc .k zW) .n) [0] [0] rfl rfl ?_
 refine Tr.rs [] (.k (mv .k (.b 0 rfl)) (.k (cal .k Tryz.func100 rfl (fn_Add2 h1 h2) (.k (.g 0 rfl) .n)) (.k (mv .k (.g 1 rfl)) (.k (exx .k (.g 2 rfl) rfl) (.k (exx .k (.g 2 rfl) rfl) (.k (ala .k zW) (.k (sta .k (.g 5 rfl) (.g 3 rfl) tyW) (.k (asg .k (.g 4 rfl)) .n)))))))) [1] [6] rfl rfl ?_
 refine Tr.rs [(0,1)] (.k (ld .k (.b 1 rfl) tyW) (.k (sto .k (.b 0 rfl) (.g 0 rfl) tyW) .n)) [] [1] rfl rfl ?_
 refine Tr.ret (end_cell 0 rfl rfl tyW)
set_option maxRecDepth 100000 in
theorem fn_times2 {a b:Int} (h1:Bd 120 a) (h2:Bd 120 b):FnC Tryz.prog 67 [.vec 5 [wc a,wc b]] (.is (wv (a * b))):=by
 refine FnC.of (N:=11) Tryz.func67 rfl rfl (Nat.le_of_ble_eq_true rfl) (fun w0 ok0=>?_)
 refine Tr.rs [] (.k (alc .k zW) .n) [0] [0] rfl rfl ?_
 refine Tr.rs [] (.k (mv .k (.b 0 rfl)) (.k (cal .k Tryz.func96 rfl (fn_Mul2 h1 h2) (.k (.g 0 rfl) .n)) (.k (mv .k (.g 1 rfl)) (.k (exx .k (.g 2 rfl) rfl) (.k (exx .k (.g 2 rfl) rfl) (.k (ala .k zW) (.k (sta .k (.g 5 rfl) (.g 3 rfl) tyW) (.k (asg .k (.g 4 rfl)) .n)))))))) [1] [6] rfl rfl ?_
 refine Tr.rs [(0,1)] (.k (ld .k (.b 1 rfl) tyW) (.k (sto .k (.b 0 rfl) (.g 0 rfl) tyW) .n)) [] [1] rfl rfl ?_
 refine Tr.ret (end_cell 0 rfl rfl tyW)
set_option maxRecDepth 100000 in
theorem fn_times3 {a b c:Int} (h1:Bd 80 a) (h2:Bd 80 b) (h3:Bd 80 c):FnC Tryz.prog 67 [.vec 5 [wc a,wc b,wc c]] (.is (wv (a * b * c))):=by
 refine FnC.of (N:=11) Tryz.func67 rfl rfl (Nat.le_of_ble_eq_true rfl) (fun w0 ok0=>?_)
 refine Tr.rs [] (.k (alc .k zW) .n) [0] [0] rfl rfl ?_
 refine Tr.rs [] (.k (mv .k (.b 0 rfl)) (.k (cal .k Tryz.func96 rfl (fn_Mul3 h1 h2 h3) (.k (.g 0 rfl) .n)) (.k (mv .k (.g 1 rfl)) (.k (exx .k (.g 2 rfl) rfl) (.k (exx .k (.g 2 rfl) rfl) (.k (ala .k zW) (.k (sta .k (.g 5 rfl) (.g 3 rfl) tyW) (.k (asg .k (.g 4 rfl)) .n)))))))) [1] [6] rfl rfl ?_
 refine Tr.rs [(0,1)] (.k (ld .k (.b 1 rfl) tyW) (.k (sto .k (.b 0 rfl) (.g 0 rfl) tyW) .n)) [] [1] rfl rfl ?_
 refine Tr.ret (end_cell 0 rfl rfl tyW)
end Go.Proofs.YtkgagdjogedoiaaGreat

set_option linter.unusedVariables false
set_option linter.unusedSimpArgs false
namespace Go.Proofs.YtkgagdjogedoiaaGreat
open Go Go.RowKit Go.Proofs.YtkgagdjogedoiaaGreat.Fx Go.Proofs.YtkgagdjogedoiaaGreatW.PrintWords
theorem fn_mul64 {a b:Int} (ha0:0≤a) (ha1:a < 18446744073709551616) (hb0:0≤b) (hb1:b < 18446744073709551616) :
    FnC Tryz.prog 101 [.is (.int .u64 a),.is (.int .u64 b)] (.tup [.is (.int .u64 (a * b / 18446744073709551616)),.is (.int .u64 (a * b % 18446744073709551616))]) :=
  FnC.valT (vs:=[.int .u64 a,.int .u64 b]) (rs:=[.int .u64 (a * b / 18446744073709551616),.int .u64 (a * b % 18446744073709551616)]) fun W =>
    (bits_Mul64_c a b _ _ W (by unfold bits_Mul64_f;rw [if_pos ⟨ha0,ha1,hb0,hb1⟩])).mono fun e W' ⟨e1,e2⟩=>⟨e1,e2.below⟩
theorem bL (x y:Int):Tryz.prog.built 94 [(0,.int .u64 x),(1,.int .u64 y)]=some #[.int .u64 x,.int .u64 y,.int .u64 0,.int .u64 0]:=by kernel_rfl
theorem bW (m:Bool) (a b c d:Int):Tryz.prog.built 96 [(0,.bool m),(1,.agg #[.int .u64 a,.int .u64 b,.int .u64 c,.int .u64 d])]=some #[.bool m,.int .u64 a,.int .u64 b,.int .u64 c,.int .u64 d]:=by kernel_rfl
theorem size_wrap {n:Int} (h:Bd 63 n):IntKind.u64.wrap (if n < -n then -n else n)=n.natAbs:=by
  unfold Bd at h
  have e:(if n < -n then -n else n)=(n.natAbs:Int):=by split<;>omega
  rw [e]
  exact u64_id (by omega) (by omega)
theorem two_limbs {z:Int} (h:Bd 128 z) (m:Bool) (hm:decide (z < 0)=m) (hi lo:Int) (h1:hi=z.natAbs / 18446744073709551616) (h2:lo=z.natAbs % 18446744073709551616) :
    Value.agg #[.bool m,.int .u64 lo,.int .u64 hi,.int .u64 0,.int .u64 0]=wv z:=by
  unfold Bd at h
  have e0:spl0 z.natAbs=lo:=by unfold spl0;omega
  have e1:spl1 z.natAbs=hi:=by unfold spl1;omega
  have e2:spl2 z.natAbs=0:=by unfold spl2;omega
  have e3:spl3 z.natAbs=0:=by unfold spl3;omega
  unfold wv
  rw [e0,e1,e2,e3,hm]
theorem prod_hi {a b:Int} (ha:Bd 63 a) (hb:Bd 63 b):Bd 128 (a * b):=(Bd.mul ha hb).mono (by decide)
theorem prod_abs (a b:Int):((a * b).natAbs:Int)=(a.natAbs:Int) * (b.natAbs:Int):=by rw [Int.natAbs_mul];omega
theorem prod_neg {a b:Int} (h:(decide (a < 0) != decide (b < 0))=true):decide (a * b < 0)=!decide (a * b=0):=by
  by_cases h0:a * b=0
  · rw [h0];rfl
  · rw [decide_eq_false h0]
    have ha:a≠0:=fun e=>h0 (by rw [e,Int.zero_mul])
    have hb:b≠0:=fun e=>h0 (by rw [e,Int.mul_zero])
    refine decide_eq_true ?_
    by_cases h1:a < 0
    · have h2:¬ b < 0:=fun h2=>by simp [h1,h2] at h
      exact Int.mul_neg_of_neg_of_pos h1 (by omega)
    · have h2:b < 0:=by simpa [h1] using h
      exact Int.mul_neg_of_pos_of_neg (by omega) h2
theorem prod_pos {a b:Int} (h:(decide (a < 0) != decide (b < 0))=false):decide (a * b < 0)=false:=by
  refine decide_eq_false (Int.not_lt.2 ?_)
  by_cases h1:a < 0
  · have h2:b < 0:=by simpa [h1] using h
    exact Int.mul_nonneg_of_nonpos_of_nonpos (by omega) (by omega)
  · have h2:¬ b < 0:=by simpa [h1] using h
    exact Int.mul_nonneg (by omega) (by omega)
theorem or2 {z:Int} (hi lo:Int) (h:Bd 128 z) (h1:hi=z.natAbs / 18446744073709551616) (h2:lo=z.natAbs % 18446744073709551616):(Go.bits .or .u64 hi lo != 0)=!decide (z=0):=by
  unfold Bd at h
  have u1:U hi:=⟨by rw [h1];omega,by rw [h1];omega⟩
  have u2:U lo:=⟨by rw [h2];omega,by rw [h2];omega⟩
  have h3:=or3_int u1 u2 (c:=0) ⟨by decide,by decide⟩
  have e:Go.bits .or .u64 (Go.bits .or .u64 hi lo) 0=Go.bits .or .u64 hi lo:=by
    obtain ⟨x,hx⟩:=Int.eq_ofNat_of_zero_le u1.1
    obtain ⟨y,hy⟩:=Int.eq_ofNat_of_zero_le u2.1
    have hx1:x < 2 ^ 64:=by have:=u1.2;omega
    have hy1:y < 2 ^ 64:=by have:=u2.2;omega
    rw [hx,hy]
    have k:∀ {x y:Nat},Lm x→Lm y→Go.bits .or .u64 (x:Int) (y:Int)=((x ||| y:Nat):Int)∧Lm (x ||| y):=by
      intro x y hx hy
      exact ⟨(bits_nat .u64 64 (by decide) u64_small x y hx hy).2,Nat.or_lt_two_pow (n:=64) hx hy⟩
    rw [(k hx1 hy1).1,show (0:Int)=((0:Nat):Int) from rfl,(k (k hx1 hy1).2 (by decide:(0:Nat) < 2 ^ 64)).1]
    simp
  rw [e] at h3
  by_cases hz:z=0
  · subst hz
    have:Go.bits .or .u64 hi lo=0:=h3.2 ⟨by rw [h1];rfl,by rw [h2];rfl,rfl⟩
    rw [this];rfl
  · rw [decide_eq_false hz]
    have:Go.bits .or .u64 hi lo≠0:=fun h0=>by
      have:=h3.1 h0
      omega
    simp [bne,this]
set_option maxRecDepth 100000 in
theorem fn_size {n:Int} (h:Bd 63 n):FnC Tryz.prog 102 [iv n] (.is (.int .u64 n.natAbs)):=by
 refine FnC.of (N:=8) Tryz.func102 rfl rfl (Nat.le_of_ble_eq_true rfl) (fun w0 ok0=>?_)
 refine Tr.rs [] (.k (asg .k .c) .n) [0] [] rfl rfl ?_
 refine Tr.rs [] (.k (mv .k (.b 0 rfl)) (.k (mv .k (.b 0 rfl)) (.k (min_ .k (.g 1 rfl) (by rw [Int.zero_sub];exact Bd.wrap (Bd.neg h) (by decide))) (.k (max_ .k (.g 0 rfl) (.g 2 rfl) rfl) (.k (cvt_ .k (by kernel_rfl) Tryz.underlying93 (.g 3 rfl) (size_wrap h)) (.k (asg .k (.g 4 rfl)) .n)))))) [] [5] rfl rfl ?_
 refine Tr.ret (end_tmp 0 rfl rfl)
set_option maxRecDepth 100000 in
theorem prod_p {a b:Int} (h1:Bd 63 a) (h2:Bd 63 b) (hm:(decide (a < 0) != decide (b < 0))=false):FnC Tryz.prog 74 [iv a,iv b] (.is (wv (a * b))):=by
 refine FnC.of (N:=32) Tryz.func74 rfl rfl (Nat.le_of_ble_eq_true rfl) (fun w0 ok0=>?_)
 refine Tr.rs [] (.k (alc .k zW) .n) [0,1] [0] rfl rfl ?_
 refine Tr.rs [] (.k (mv .k (.b 0 rfl)) (.k (lt_ .k (.g 0 rfl) .c rfl) (.k (mv .k (.b 1 rfl)) (.k (lt_ .k (.g 2 rfl) .c rfl) (.k (neB_ .k Tryz.underlying4 (.g 1 rfl) (.g 3 rfl) hm) (.k (asg .k (.g 4 rfl)) .n)))))) [0,1,2] [5] rfl rfl ?_
 refine Tr.rs [] (.k (mv .k (.b 0 rfl)) (.k (cal .k Tryz.func102 rfl (fn_size h1) (.k (.g 0 rfl) .n)) (.k (mv .k (.b 1 rfl)) (.k (cal .k Tryz.func102 rfl (fn_size h2) (.k (.g 2 rfl) .n)) (.k (cal .k Tryz.func101 rfl (fn_mul64 (by omega) (by have:=h1;unfold Bd at this;omega) (by omega) (by have:=h2;unfold Bd at this;omega)) (.k (.g 1 rfl) (.k (.g 3 rfl) .n))) (.k (mv .k (.g 4 rfl)) (.k (exx .k (.g 5 rfl) rfl) (.k (exx .k (.g 5 rfl) rfl) (.k (asg .k (.g 6 rfl)) (.k (asg .k (.g 7 rfl)) .n)))))))))) [2,3] [8,9] rfl rfl ?_
 refine Tr.rs [(0,11)] (.k (mv .k (.b 1 rfl)) (.k (mv .k (.g 0 rfl)) (.k (skp (.o 1 rfl rfl rfl)) (.k (skp (.o 1 rfl rfl rfl)) (.k (skp (.o 1 rfl rfl rfl)) (.k (skp (.o 1 rfl rfl rfl)) (.k (pickF .k (.g 1 rfl) .c) (.k (mv .k (.b 3 rfl)) (.k (mv .k (.b 2 rfl)) (.k (bld .k (.k (.g 7 rfl) (.k (.g 8 rfl) .n)) (bL _ _) rfl) (.k (bld .k (.k (.g 6 rfl) (.k (.g 9 rfl) .n)) (bW _ _ _ _ _) (two_limbs (prod_hi h1 h2) _ (prod_pos hm) _ _ (by rw [prod_abs]) (by rw [prod_abs]))) (.k (sto .k (.b 0 rfl) (.g 10 rfl) tyW) .n)))))))))))) [] [11] rfl rfl ?_
 refine Tr.ret (end_cell 0 rfl rfl tyW)
set_option maxRecDepth 100000 in
theorem prod_n {a b:Int} (h1:Bd 63 a) (h2:Bd 63 b) (hm:(decide (a < 0) != decide (b < 0))=true):FnC Tryz.prog 74 [iv a,iv b] (.is (wv (a * b))):=by
 refine FnC.of (N:=32) Tryz.func74 rfl rfl (Nat.le_of_ble_eq_true rfl) (fun w0 ok0=>?_)
 refine Tr.rs [] (.k (alc .k zW) .n) [0,1] [0] rfl rfl ?_
 refine Tr.rs [] (.k (mv .k (.b 0 rfl)) (.k (lt_ .k (.g 0 rfl) .c rfl) (.k (mv .k (.b 1 rfl)) (.k (lt_ .k (.g 2 rfl) .c rfl) (.k (neB_ .k Tryz.underlying4 (.g 1 rfl) (.g 3 rfl) hm) (.k (asg .k (.g 4 rfl)) .n)))))) [0,1,2] [5] rfl rfl ?_
 refine Tr.rs [] (.k (mv .k (.b 0 rfl)) (.k (cal .k Tryz.func102 rfl (fn_size h1) (.k (.g 0 rfl) .n)) (.k (mv .k (.b 1 rfl)) (.k (cal .k Tryz.func102 rfl (fn_size h2) (.k (.g 2 rfl) .n)) (.k (cal .k Tryz.func101 rfl (fn_mul64 (by omega) (by have:=h1;unfold Bd at this;omega) (by omega) (by have:=h2;unfold Bd at this;omega)) (.k (.g 1 rfl) (.k (.g 3 rfl) .n))) (.k (mv .k (.g 4 rfl)) (.k (exx .k (.g 5 rfl) rfl) (.k (exx .k (.g 5 rfl) rfl) (.k (asg .k (.g 6 rfl)) (.k (asg .k (.g 7 rfl)) .n)))))))))) [2,3] [8,9] rfl rfl ?_
 refine Tr.rs [(0,11)] (.k (mv .k (.b 1 rfl)) (.k (mv .k (.g 0 rfl)) (.k (mv (.o 1 rfl rfl rfl) (.b 2 rfl)) (.k (mv (.o 1 rfl rfl rfl) (.b 3 rfl)) (.k (or_ (.o 1 rfl rfl rfl) (.g 2 rfl) (.g 3 rfl) rfl) (.k (ne_ (.o 1 rfl rfl rfl) (.g 4 rfl) .c (or2 _ _ (prod_hi h1 h2) (by rw [prod_abs]) (by rw [prod_abs]))) (.k (pickT .k (.g 1 rfl) (.g 5 rfl)) (.k (mv .k (.b 3 rfl)) (.k (mv .k (.b 2 rfl)) (.k (bld .k (.k (.g 7 rfl) (.k (.g 8 rfl) .n)) (bL _ _) rfl) (.k (bld .k (.k (.g 6 rfl) (.k (.g 9 rfl) .n)) (bW _ _ _ _ _) (two_limbs (prod_hi h1 h2) _ (prod_neg hm) _ _ (by rw [prod_abs]) (by rw [prod_abs]))) (.k (sto .k (.b 0 rfl) (.g 10 rfl) tyW) .n)))))))))))) [] [11] rfl rfl ?_
 refine Tr.ret (end_cell 0 rfl rfl tyW)
theorem fn_product {a b:Int} (h1:Bd 63 a) (h2:Bd 63 b):FnC Tryz.prog 74 [iv a,iv b] (.is (wv (a * b))):=by
  cases hm:(decide (a < 0) != decide (b < 0))
  · exact prod_p h1 h2 hm
  · exact prod_n h1 h2 hm
set_option maxRecDepth 100000 in
theorem fn_square {x y:Int} (h1:Bd 34 x) (h2:Bd 34 y):FnC Tryz.prog 62 [.is (ptv x y)] (.is (wv (x * x+y * y))):=by
 refine FnC.of (N:=15) Tryz.func62 rfl rfl (Nat.le_of_ble_eq_true rfl) (fun w0 ok0=>?_)
 refine Tr.rs [] (.k (bxx .k (.b 0 rfl)) (.k (alc .k zW) .n)) [] [0,1] rfl rfl ?_
 refine Tr.ds hmx [(1,12)] (.k (faddr .k (.b 0 rfl) rfl fPX) (.k (ldc .k (.g 0 rfl) (.b 0 rfl) tyI) (.k (faddr .k (.b 0 rfl) rfl fPX) (.k (ldc .k (.g 2 rfl) (.b 0 rfl) tyI) (.k (cal .k Tryz.func74 rfl (fn_product (h1.mono (by decide)) (h1.mono (by decide))) (.k (.g 1 rfl) (.k (.g 3 rfl) .n))) (.k (faddr .k (.b 0 rfl) rfl fPY) (.k (ldc .k (.g 5 rfl) (.b 0 rfl) tyI) (.k (faddr .k (.b 0 rfl) rfl fPY) (.k (ldc .k (.g 7 rfl) (.b 0 rfl) tyI) (.k (cal .k Tryz.func74 rfl (fn_product (h2.mono (by decide)) (h2.mono (by decide))) (.k (.g 6 rfl) (.k (.g 8 rfl) .n))) (.k (mkrow .k rwW (.k (.g 4 rfl) (.k (.g 9 rfl) .n)) rfl rfl (by kernel_rfl)) (.k (cal .k Tryz.func73 rfl (fn_sum2 (Bd.mono (Bd.mul h1 h1) (by decide)) (Bd.mono (Bd.mul h2 h2) (by decide))) (.k (.g 10 rfl) .n)) (.k (sto .k (.b 1 rfl) (.g 11 rfl) tyW) .n))))))))))))) [] [12] rfl rfl ?_
 refine Tr.ret (end_cell 0 rfl rfl tyW)
set_option maxRecDepth 100000 in
theorem fn_turn {x y u v:Int} (h1:Bd 34 x) (h2:Bd 34 y) (h3:Bd 34 u) (h4:Bd 34 v):FnC Tryz.prog 65 [.is (ptv x y),.is (ptv u v)] (.is (wv (x * v+-(y * u)))):=by
 refine FnC.of (N:=18) Tryz.func65 rfl rfl (Nat.le_of_ble_eq_true rfl) (fun w0 ok0=>?_)
 refine Tr.rs [] (.k (bxx .k (.b 0 rfl)) (.k (bxx .k (.b 1 rfl)) (.k (alc .k zW) .n))) [] [0,1,2] rfl rfl ?_
 refine Tr.ds hmx [(2,13)] (.k (faddr .k (.b 0 rfl) rfl fPX) (.k (ldc .k (.g 0 rfl) (.b 0 rfl) tyI) (.k (faddr .k (.b 1 rfl) rfl fPY) (.k (ldc .k (.g 2 rfl) (.b 1 rfl) tyI) (.k (cal .k Tryz.func74 rfl (fn_product (h1.mono (by decide)) (h4.mono (by decide))) (.k (.g 1 rfl) (.k (.g 3 rfl) .n))) (.k (faddr .k (.b 0 rfl) rfl fPY) (.k (ldc .k (.g 5 rfl) (.b 0 rfl) tyI) (.k (faddr .k (.b 1 rfl) rfl fPX) (.k (ldc .k (.g 7 rfl) (.b 1 rfl) tyI) (.k (cal .k Tryz.func74 rfl (fn_product (h2.mono (by decide)) (h3.mono (by decide))) (.k (.g 6 rfl) (.k (.g 8 rfl) .n))) (.k (cal .k Tryz.func94 rfl (fn_Neg (tN (Bd.mul h2 h3) (by decide))) (.k (.g 9 rfl) .n)) (.k (mkrow .k rwW (.k (.g 4 rfl) (.k (.g 10 rfl) .n)) rfl rfl (by kernel_rfl)) (.k (cal .k Tryz.func73 rfl (fn_sum2 (Bd.mono (Bd.mul h1 h4) (by decide)) (Bd.mono (Bd.neg (Bd.mul h2 h3)) (by decide))) (.k (.g 11 rfl) .n)) (.k (sto .k (.b 2 rfl) (.g 12 rfl) tyW) .n)))))))))))))) [] [13] rfl rfl ?_
 refine Tr.ret (end_cell 0 rfl rfl tyW)
set_option maxRecDepth 100000 in
theorem fn_cross {a b c d:Int} (h1:Bd 34 a) (h2:Bd 34 b) (h3:Bd 34 c) (h4:Bd 34 d):FnC Tryz.prog 139 [iv a,iv b,iv c,iv d] (iv (sgn (a * b - c * d))):=by
 refine FnC.of (N:=20) Tryz.func139 rfl rfl (Nat.le_of_ble_eq_true rfl) (fun w0 ok0=>?_)
 refine Tr.rs [] (.k (asg .k .c) .n) [0,1,2,3] [] rfl rfl ?_
 refine Tr.rs [] (.k (mv .k (.b 0 rfl)) (.k (mv .k (.b 1 rfl)) (.k (cal .k Tryz.func74 rfl (fn_product (h1.mono (by decide)) (h2.mono (by decide))) (.k (.g 0 rfl) (.k (.g 1 rfl) .n))) (.k (mv .k (.b 2 rfl)) (.k (mv .k (.b 3 rfl)) (.k (cal .k Tryz.func74 rfl (fn_product (h3.mono (by decide)) (h4.mono (by decide))) (.k (.g 3 rfl) (.k (.g 4 rfl) .n))) (.k (ala .k zW) (.k (ala .k zW) (.k (sta .k (.g 6 rfl) (.g 2 rfl) tyW) (.k (sta .k (.g 7 rfl) (.g 5 rfl) tyW) .n)))))))))) [] [8,9] rfl rfl ?_
 refine Tr.rs [] (.k (ld .k (.b 0 rfl) tyW) (.k (ld .k (.b 1 rfl) tyW) (.k (cal .k Tryz.func64 rfl (fn_Cmp (tN (Bd.mul h1 h2) (by decide)) (tN (Bd.mul h3 h4) (by decide))) (.k (.g 0 rfl) (.k (.g 1 rfl) .n))) (.k (asg .k (.g 2 rfl)) .n)))) [] [3] rfl rfl ?_
 refine Tr.ret (end_tmp 0 rfl rfl)
end Go.Proofs.YtkgagdjogedoiaaGreat
