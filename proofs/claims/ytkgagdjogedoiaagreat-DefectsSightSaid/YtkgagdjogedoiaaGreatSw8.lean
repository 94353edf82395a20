/- An input's mesh, done; what sees what: walked. -/
import Derived.Test.YtkgagdjogedoiaaGreatSx5
set_option linter.unusedVariables false
set_option linter.unusedSimpArgs false
set_option maxRecDepth 100000
set_option maxHeartbeats 8000000
namespace Go.Proofs.YtkgagdjogedoiaaGreat
open Go Go.RowKit Go.Proofs.YtkgagdjogedoiaaGreat.Fx Go.Proofs.YtkgagdjogedoiaaGreatW.PrintWords
theorem seg_len {L I:List (Int × Int)} (hL:L.length≤30) (hI:I.length≤30):(segL (L++I)).length≤60:=by
  have h:=segL_len (L++I) (L++I).length (Nat.le_refl _)
  rw [List.take_length,List.length_append] at h
  omega
theorem edgB_len {P L:List (Int × Int)} (a:Nat) (l:List (Int × Int)):∀ j,(edgB P L a j l).length≤l.length+j
  | 0=>Nat.le_refl _
  | j+1=>by
    have ih:=edgB_len (P:=P) (L:=L) a l j
    cases hg:goesB P L (edgB P L a j l) a ((a+1+j:Nat):Int) with
    | true=>rw [edgB_yes hg];have:=lay_len (edgB P L a j l) ((a:Int),((a+1+j:Nat):Int));omega
    | false=>rw [edgB_no hg];omega
theorem edgA_len {P L:List (Int × Int)} (hP:P.length≤14) (l:List (Int × Int)):∀ a,(edgA P L a l).length≤l.length+14 * a
  | 0=>Nat.le_refl _
  | a+1=>by
    have ih:=edgA_len (L:=L) hP l a
    unfold edgA
    have:=edgB_len (P:=P) (L:=L) a (edgA P L a l) (P.length - (a+1))
    omega
theorem edg_len {P L I:List (Int × Int)} (hP:P.length≤14) (hL:L.length≤30) (hI:I.length≤30) (hr:rightB P L I=true):(edgR P L I).length≤1000:=by
  rw [(edg_e hr).1]
  have:=edgA_len (L:=L) hP (segL (L++I)) P.length
  have:=seg_len hL hI
  omega
theorem fn_DoneA {P L I:List (Int × Int)} (hP:P.length≤14) (hL:L.length≤30) (hI:I.length≤30) (hr:rightB P L I=false):FnC Tryz.prog 21 [SP.poly P L I] (.tup [.is (.agg #[.slice none 0 0,.slice none 0 0,.slice none 0 0]),bv false]):=by
 refine FnC.of (N:=26) Tryz.func21 rfl rfl (Nat.le_of_ble_eq_true rfl) (fun w0 ok0=>?_)
 refine Tr.rs [] (.k (bxx .k (.b 0 rfl)) (.k (alc .k zM) (.k (asg .k .c) .n))) [] [0,1] rfl rfl ?_
 refine Tr.rs [] (.k (ld .k (.b 0 rfl) tyQ) (.k (cal .k Tryz.func41 rfl (fn_MakeF hP hL hI hr) (.k (.g 0 rfl) .n)) (.k (mv .k (.g 1 rfl)) (.k (exx .k (.g 2 rfl) rfl) (.k (exx .k (.g 2 rfl) rfl) (.k (ala .k zM) (.k (sta .k (.g 5 rfl) (.g 3 rfl) tyM) (.k (asg .k (.g 4 rfl)) .n)))))))) [1] [6,7] rfl rfl ?_
 refine Tr.seq (Tr.rs [] (.k (mv .k (.b 2 rfl)) (.k (ne_ .k (.g 0 rfl) .c (bne_iff_ne.2 (by decide))) .n)) [0,1] [1] rfl rfl ?_)
 refine Tr.cond 2 rfl (fun _=>?_) nofun
 refine Tr.rs [(0,1)] (.k (bld .k .n bM0 rfl) (.k (sto .k (.b 0 rfl) (.g 0 rfl) tyM) (.k (asg .k .c) .n))) [] [1,2] rfl rfl ?_
 refine Tr.ret (end_cell_tmp 0 1 rfl rfl rfl tyM)
theorem fn_DoneB {P L I:List (Int × Int)} (hP:P.length≤14) (hL:L.length≤30) (hI:I.length≤30) (hr:rightB P L I=true) (M:¬ MeshOK P.length (oP P) (mkT P L I) (segL (L++I))):FnC Tryz.prog 21 [SP.poly P L I] (.tup [.is (.agg #[.slice none 0 0,.slice none 0 0,.slice none 0 0]),bv false]):=by
 refine FnC.of (N:=26) Tryz.func21 rfl rfl (Nat.le_of_ble_eq_true rfl) (fun w0 ok0=>?_)
 refine Tr.rs [] (.k (bxx .k (.b 0 rfl)) (.k (alc .k zM) (.k (asg .k .c) .n))) [] [0,1] rfl rfl ?_
 have hle:=edg_len hP hL hI hr
 have hsl:=seg_len hL hI
 have hml:=mkT_len (P:=P) (L:=L) (I:=I) hP
 refine Tr.rs [] (.k (ld .k (.b 0 rfl) tyQ) (.k (cal .k Tryz.func41 rfl (fn_MakeT hP hL hI hr rfl (by omega)) (.k (.g 0 rfl) .n)) (.k (mv .k (.g 1 rfl)) (.k (exx .k (.g 2 rfl) rfl) (.k (exx .k (.g 2 rfl) rfl) (.k (ala .k zM) (.k (sta .k (.g 5 rfl) (.g 3 rfl) tyM) (.k (asg .k (.g 4 rfl)) .n)))))))) [1] [6,7] rfl rfl ?_
 refine Tr.seq (Tr.rs [] (.k (mv .k (.b 2 rfl)) (.k (ne_ .k (.g 0 rfl) .c (bne_eq_false_iff_eq.2 rfl)) .n)) [0,1] [1] rfl rfl ?_)
 refine Tr.cond 2 rfl nofun (fun _=>?_)
 refine Tr.skip (Nx.go (Tr.rs [] (.k (ld .k (.b 1 rfl) tyM) (.k (cal .k Tryz.func42 rfl (fn_DelF (by omega) (by omega) (by omega) M) (.k (.g 0 rfl) .n)) (.k (mv .k (.g 1 rfl)) (.k (exx .k (.g 2 rfl) rfl) (.k (exx .k (.g 2 rfl) rfl) (.k (exx .k (.g 2 rfl) rfl) (.k (ala .k zM) (.k (sta .k (.g 6 rfl) (.g 3 rfl) tyM) (.k (asg .k (.g 4 rfl)) (.k (asg .k (.g 5 rfl)) .n)))))))))) [0] [7,9] rfl rfl ?_))
 refine Tr.rs [(0,3)] (.k (ld .k (.b 1 rfl) tyM) (.k (mv .k (.b 2 rfl)) (.k (eq_ .k (.g 1 rfl) .c (beq_eq_false_iff_ne.2 (by decide))) (.k (sto .k (.b 0 rfl) (.g 0 rfl) tyM) (.k (asg .k (.g 2 rfl)) .n))))) [] [3,4] rfl rfl ?_
 refine Tr.ret (end_cell_tmp 0 1 rfl rfl rfl tyM)
theorem fn_DoneC {P L I:List (Int × Int)} (hP:P.length≤14) (hL:L.length≤30) (hI:I.length≤30) (hr:rightB P L I=true) (M:MeshOK P.length (oP P) (mkT P L I) (segL (L++I))) {m:Int} (hd:delN P (segL (L++I)) (fuel P (mkT P L I)) (mkT P L I) 0=(none,m,130)):FnC Tryz.prog 21 [SP.poly P L I] (.tup [.is (.agg #[.slice none 0 0,.slice none 0 0,.slice none 0 0]),bv false]):=by
 refine FnC.of (N:=26) Tryz.func21 rfl rfl (Nat.le_of_ble_eq_true rfl) (fun w0 ok0=>?_)
 refine Tr.rs [] (.k (bxx .k (.b 0 rfl)) (.k (alc .k zM) (.k (asg .k .c) .n))) [] [0,1] rfl rfl ?_
 have hle:=edg_len hP hL hI hr
 have hsl:=seg_len hL hI
 have hml:=mkT_len (P:=P) (L:=L) (I:=I) hP
 refine Tr.rs [] (.k (ld .k (.b 0 rfl) tyQ) (.k (cal .k Tryz.func41 rfl (fn_MakeT hP hL hI hr rfl (by omega)) (.k (.g 0 rfl) .n)) (.k (mv .k (.g 1 rfl)) (.k (exx .k (.g 2 rfl) rfl) (.k (exx .k (.g 2 rfl) rfl) (.k (ala .k zM) (.k (sta .k (.g 5 rfl) (.g 3 rfl) tyM) (.k (asg .k (.g 4 rfl)) .n)))))))) [1] [6,7] rfl rfl ?_
 refine Tr.seq (Tr.rs [] (.k (mv .k (.b 2 rfl)) (.k (ne_ .k (.g 0 rfl) .c (bne_eq_false_iff_eq.2 rfl)) .n)) [0,1] [1] rfl rfl ?_)
 refine Tr.cond 2 rfl nofun (fun _=>?_)
 refine Tr.skip (Nx.go (Tr.rs [] (.k (ld .k (.b 1 rfl) tyM) (.k (cal .k Tryz.func42 rfl (show FnC _ _ _ (.tup [.is (.agg #[.slice none 0 0,.slice none 0 0,.slice none 0 0]),iv m,iv 130]) from by have h:=(fn_DelT (by omega) (by omega) (by omega) (by omega) (fit_of (right_ok hr).1.1) M);rw [hd] at h;exact h) (.k (.g 0 rfl) .n)) (.k (mv .k (.g 1 rfl)) (.k (exx .k (.g 2 rfl) rfl) (.k (exx .k (.g 2 rfl) rfl) (.k (exx .k (.g 2 rfl) rfl) (.k (ala .k zM) (.k (sta .k (.g 6 rfl) (.g 3 rfl) tyM) (.k (asg .k (.g 4 rfl)) (.k (asg .k (.g 5 rfl)) .n)))))))))) [0] [7,9] rfl rfl ?_))
 refine Tr.rs [(0,3)] (.k (ld .k (.b 1 rfl) tyM) (.k (mv .k (.b 2 rfl)) (.k (eq_ .k (.g 1 rfl) .c (beq_eq_false_iff_ne.2 (by decide))) (.k (sto .k (.b 0 rfl) (.g 0 rfl) tyM) (.k (asg .k (.g 2 rfl)) .n))))) [] [3,4] rfl rfl ?_
 refine Tr.ret (end_cell_tmp 0 1 rfl rfl rfl tyM)
theorem fn_DoneD {P L I:List (Int × Int)} (hP:P.length≤14) (hL:L.length≤30) (hI:I.length≤30) (hr:rightB P L I=true) (M:MeshOK P.length (oP P) (mkT P L I) (segL (L++I))) {m:Int} {T':List (Int × Int × Int)} (hd:delN P (segL (L++I)) (fuel P (mkT P L I)) (mkT P L I) 0=(some T',m,0)):FnC Tryz.prog 21 [SP.poly P L I] (.tup [SP.mesh P T' (segL (L++I)),bv true]):=by
 refine FnC.of (N:=26) Tryz.func21 rfl rfl (Nat.le_of_ble_eq_true rfl) (fun w0 ok0=>?_)
 refine Tr.rs [] (.k (bxx .k (.b 0 rfl)) (.k (alc .k zM) (.k (asg .k .c) .n))) [] [0,1] rfl rfl ?_
 have hle:=edg_len hP hL hI hr
 have hsl:=seg_len hL hI
 have hml:=mkT_len (P:=P) (L:=L) (I:=I) hP
 refine Tr.rs [] (.k (ld .k (.b 0 rfl) tyQ) (.k (cal .k Tryz.func41 rfl (fn_MakeT hP hL hI hr rfl (by omega)) (.k (.g 0 rfl) .n)) (.k (mv .k (.g 1 rfl)) (.k (exx .k (.g 2 rfl) rfl) (.k (exx .k (.g 2 rfl) rfl) (.k (ala .k zM) (.k (sta .k (.g 5 rfl) (.g 3 rfl) tyM) (.k (asg .k (.g 4 rfl)) .n)))))))) [1] [6,7] rfl rfl ?_
 refine Tr.seq (Tr.rs [] (.k (mv .k (.b 2 rfl)) (.k (ne_ .k (.g 0 rfl) .c (bne_eq_false_iff_eq.2 rfl)) .n)) [0,1] [1] rfl rfl ?_)
 refine Tr.cond 2 rfl nofun (fun _=>?_)
 refine Tr.skip (Nx.go (Tr.rs [] (.k (ld .k (.b 1 rfl) tyM) (.k (cal .k Tryz.func42 rfl (show FnC _ _ _ (.tup [SP.mesh P T' (segL (L++I)),iv m,iv 0]) from by have h:=(fn_DelT (by omega) (by omega) (by omega) (by omega) (fit_of (right_ok hr).1.1) M);rw [hd] at h;exact h) (.k (.g 0 rfl) .n)) (.k (mv .k (.g 1 rfl)) (.k (exx .k (.g 2 rfl) rfl) (.k (exx .k (.g 2 rfl) rfl) (.k (exx .k (.g 2 rfl) rfl) (.k (ala .k zM) (.k (sta .k (.g 6 rfl) (.g 3 rfl) tyM) (.k (asg .k (.g 4 rfl)) (.k (asg .k (.g 5 rfl)) .n)))))))))) [0] [7,9] rfl rfl ?_))
 refine Tr.rs [(0,3)] (.k (ld .k (.b 1 rfl) tyM) (.k (mv .k (.b 2 rfl)) (.k (eq_ .k (.g 1 rfl) .c (beq_iff_eq.2 rfl)) (.k (sto .k (.b 0 rfl) (.g 0 rfl) tyM) (.k (asg .k (.g 2 rfl)) .n))))) [] [3,4] rfl rfl ?_
 refine Tr.ret (end_cell_tmp 0 1 rfl rfl rfl tyM)
theorem fn_inner {P:List (Int × Int)} {T:List (Int × Int × Int)} {S:List (Int × Int)} {s:Int × Int} {q:Int} (hT:T.length≤1000000) (hA:InP P s.1) (hB:InP P s.2) (hQ:InP P q):FnC Tryz.prog 23 [SP.mesh P T S,.is (sgv s),iv q] (bv (decide (innP P T s q))):=by
 refine FnC.of (N:=52) Tryz.func23 rfl rfl (Nat.le_of_ble_eq_true rfl) (fun w0 ok0=>?_)
 refine Tr.rs [] (.k (bxx .k (.b 0 rfl)) (.k (bxx .k (.b 1 rfl)) (.k (asg .k .c) .n))) [2] [0,1] rfl rfl ?_
 obtain ⟨ua,pa,ea,ha⟩:=hA
 obtain ⟨ub,pb,eb,hb⟩:=hB
 obtain ⟨uq,pq,eqq,hq⟩:=hQ
 refine Tr.ds hmx [] (.k (faddr .k (.b 1 rfl) rfl fMP) (.k (ldc .k (.g 0 rfl) (.b 1 rfl) tyvP) (.k (faddr .k (.b 2 rfl) rfl fSA) (.k (ldc .k (.g 2 rfl) (.b 2 rfl) tyI) (.k (idx_ .k rwP (.g 1 rfl) (.g 3 rfl) ea (gm ha)) (.k (ld_at .k (.g 4 rfl) tyP rfl (show _=ptv _ _ from rfl)) (.k (faddr .k (.b 1 rfl) rfl fMP) (.k (ldc .k (.g 6 rfl) (.b 1 rfl) tyvP) (.k (faddr .k (.b 2 rfl) rfl fSB) (.k (ldc .k (.g 8 rfl) (.b 2 rfl) tyI) (.k (idx_ .k rwP (.g 7 rfl) (.g 9 rfl) eb (gm hb)) (.k (ld_at .k (.g 10 rfl) tyP rfl (show _=ptv _ _ from rfl)) (.k (faddr .k (.b 1 rfl) rfl fMP) (.k (ldc .k (.g 12 rfl) (.b 1 rfl) tyvP) (.k (mv .k (.b 0 rfl)) (.k (idx_ .k rwP (.g 13 rfl) (.g 14 rfl) eqq (gm hq)) (.k (ld_at .k (.g 15 rfl) tyP rfl (show _=ptv _ _ from rfl)) (.k (cal .k Tryz.func47 rfl (oP_at ea eb eqq ha hb hq ▸ fn_rOrient) (.k (.g 5 rfl) (.k (.g 11 rfl) (.k (.g 16 rfl) .n)))) (.k (asg .k (.g 17 rfl)) .n))))))))))))))))))) [1,2] [18] rfl rfl ?_
 rcases (show (oP P s.1 s.2 q > 0∧leftR T s.1 s.2 ≥ 0)∨(oP P s.1 s.2 q > 0∧¬ leftR T s.1 s.2 ≥ 0)∨(¬ oP P s.1 s.2 q > 0∧oP P s.1 s.2 q < 0)∨(¬ oP P s.1 s.2 q > 0∧¬ oP P s.1 s.2 q < 0) by omega) with ⟨c1,c2⟩|⟨c1,c2⟩|⟨c1,c2⟩|⟨c1,c2⟩
 ·
  rw [decide_eq_true (show innP P T s q from .inl ⟨c1,c2⟩)]
  refine Tr.rs [] (.k (mv .k (.b 2 rfl)) (.k (gt_ .k (.g 0 rfl) .c (decide_eq_true c1)) (.k (mv .k (.g 1 rfl)) (.k (faddr (.o 2 rfl rfl rfl) (.b 0 rfl) rfl fMT) (.k (ldc (.o 2 rfl rfl rfl) (.g 3 rfl) (.b 0 rfl) tyvT) (.k (faddr (.o 2 rfl rfl rfl) (.b 1 rfl) rfl fSA) (.k (ldc (.o 2 rfl rfl rfl) (.g 5 rfl) (.b 1 rfl) tyI) (.k (faddr (.o 2 rfl rfl rfl) (.b 1 rfl) rfl fSB) (.k (ldc (.o 2 rfl rfl rfl) (.g 7 rfl) (.b 1 rfl) tyI) (.k (cal (.o 2 rfl rfl rfl) Tryz.func48 rfl (fn_Left hT) (.k (.g 4 rfl) (.k (.g 6 rfl) (.k (.g 8 rfl) .n)))) (.k (ge_ (.o 2 rfl rfl rfl) (.g 9 rfl) .c (decide_eq_true c2)) (.k (pickT .k (.g 2 rfl) (.g 10 rfl)) (.k (mv .k (.g 11 rfl)) (.k (skp (.o 12 rfl rfl rfl)) (.k (skp (.o 12 rfl rfl rfl)) (.k (skpu (.o 12 rfl rfl rfl)) (.k (skpn (.g 15 rfl) rfl) (.k (skpn (.g 15 rfl) rfl) (.k (skpn (.g 15 rfl) rfl) (.k (skpn (.g 15 rfl) rfl) (.k (skpn (.g 15 rfl) rfl) (.k (skpn (.g 15 rfl) rfl) (.k (skpn (.g 15 rfl) rfl) (.k (skpn (.g 15 rfl) rfl) (.k (skp (.o 12 rfl rfl rfl)) (.k (pickT .k (.g 12 rfl) .c) (.k (asg .k (.g 25 rfl)) .n))))))))))))))))))))))))))) [] [26] rfl rfl ?_
  refine Tr.ret (end_tmp 0 rfl rfl)
 ·
  rw [decide_eq_false (show ¬ innP P T s q from fun h=>by unfold innP at h;omega)]
  refine Tr.rs [] (.k (mv .k (.b 2 rfl)) (.k (gt_ .k (.g 0 rfl) .c (decide_eq_true c1)) (.k (mv .k (.g 1 rfl)) (.k (faddr (.o 2 rfl rfl rfl) (.b 0 rfl) rfl fMT) (.k (ldc (.o 2 rfl rfl rfl) (.g 3 rfl) (.b 0 rfl) tyvT) (.k (faddr (.o 2 rfl rfl rfl) (.b 1 rfl) rfl fSA) (.k (ldc (.o 2 rfl rfl rfl) (.g 5 rfl) (.b 1 rfl) tyI) (.k (faddr (.o 2 rfl rfl rfl) (.b 1 rfl) rfl fSB) (.k (ldc (.o 2 rfl rfl rfl) (.g 7 rfl) (.b 1 rfl) tyI) (.k (cal (.o 2 rfl rfl rfl) Tryz.func48 rfl (fn_Left hT) (.k (.g 4 rfl) (.k (.g 6 rfl) (.k (.g 8 rfl) .n)))) (.k (ge_ (.o 2 rfl rfl rfl) (.g 9 rfl) .c (decide_eq_false c2)) (.k (pickT .k (.g 2 rfl) (.g 10 rfl)) (.k (mv .k (.g 11 rfl)) (.k (mv (.o 12 rfl rfl rfl) (.b 2 rfl)) (.k (lt_ (.o 12 rfl rfl rfl) (.g 13 rfl) .c (dF (by omega))) (.k (mv (.o 12 rfl rfl rfl) (.g 14 rfl)) (.k (skp (.o 15 rfl rfl rfl)) (.k (skp (.o 15 rfl rfl rfl)) (.k (skp (.o 15 rfl rfl rfl)) (.k (skp (.o 15 rfl rfl rfl)) (.k (skp (.o 15 rfl rfl rfl)) (.k (skp (.o 15 rfl rfl rfl)) (.k (skp (.o 15 rfl rfl rfl)) (.k (skp (.o 15 rfl rfl rfl)) (.k (pickF (.o 12 rfl rfl rfl) (.g 15 rfl) .c) (.k (pickF .k (.g 12 rfl) (.g 24 rfl)) (.k (asg .k (.g 25 rfl)) .n))))))))))))))))))))))))))) [] [26] rfl rfl ?_
  refine Tr.ret (end_tmp 0 rfl rfl)
 ·
  rw [show decide (innP P T s q)=decide (leftR T s.2 s.1 ≥ 0) from decide_eq_decide.2 (by unfold innP;omega)]
  refine Tr.rs [] (.k (mv .k (.b 2 rfl)) (.k (gt_ .k (.g 0 rfl) .c (decide_eq_false c1)) (.k (mv .k (.g 1 rfl)) (.k (skp (.o 2 rfl rfl rfl)) (.k (skp (.o 2 rfl rfl rfl)) (.k (skp (.o 2 rfl rfl rfl)) (.k (skp (.o 2 rfl rfl rfl)) (.k (skp (.o 2 rfl rfl rfl)) (.k (skp (.o 2 rfl rfl rfl)) (.k (skp (.o 2 rfl rfl rfl)) (.k (skp (.o 2 rfl rfl rfl)) (.k (pickF .k (.g 2 rfl) .c) (.k (mv .k (.g 11 rfl)) (.k (mv (.o 12 rfl rfl rfl) (.b 2 rfl)) (.k (lt_ (.o 12 rfl rfl rfl) (.g 13 rfl) .c (decide_eq_true c2)) (.k (mv (.o 12 rfl rfl rfl) (.g 14 rfl)) (.k (faddr (.o 15 rfl rfl rfl) (.b 0 rfl) rfl fMT) (.k (ldc (.o 15 rfl rfl rfl) (.g 16 rfl) (.b 0 rfl) tyvT) (.k (faddr (.o 15 rfl rfl rfl) (.b 1 rfl) rfl fSB) (.k (ldc (.o 15 rfl rfl rfl) (.g 18 rfl) (.b 1 rfl) tyI) (.k (faddr (.o 15 rfl rfl rfl) (.b 1 rfl) rfl fSA) (.k (ldc (.o 15 rfl rfl rfl) (.g 20 rfl) (.b 1 rfl) tyI) (.k (cal (.o 15 rfl rfl rfl) Tryz.func48 rfl (fn_Left hT) (.k (.g 17 rfl) (.k (.g 19 rfl) (.k (.g 21 rfl) .n)))) (.k (ge_ (.o 15 rfl rfl rfl) (.g 22 rfl) .c rfl) (.k (pickT (.o 12 rfl rfl rfl) (.g 15 rfl) (.g 23 rfl)) (.k (pickF .k (.g 12 rfl) (.g 24 rfl)) (.k (asg .k (.g 25 rfl)) .n))))))))))))))))))))))))))) [] [26] rfl rfl ?_
  refine Tr.ret (end_tmp 0 rfl rfl)
 ·
  rw [decide_eq_false (show ¬ innP P T s q from fun h=>by unfold innP at h;omega)]
  refine Tr.rs [] (.k (mv .k (.b 2 rfl)) (.k (gt_ .k (.g 0 rfl) .c (decide_eq_false c1)) (.k (mv .k (.g 1 rfl)) (.k (skp (.o 2 rfl rfl rfl)) (.k (skp (.o 2 rfl rfl rfl)) (.k (skp (.o 2 rfl rfl rfl)) (.k (skp (.o 2 rfl rfl rfl)) (.k (skp (.o 2 rfl rfl rfl)) (.k (skp (.o 2 rfl rfl rfl)) (.k (skp (.o 2 rfl rfl rfl)) (.k (skp (.o 2 rfl rfl rfl)) (.k (pickF .k (.g 2 rfl) .c) (.k (mv .k (.g 11 rfl)) (.k (mv (.o 12 rfl rfl rfl) (.b 2 rfl)) (.k (lt_ (.o 12 rfl rfl rfl) (.g 13 rfl) .c (decide_eq_false c2)) (.k (mv (.o 12 rfl rfl rfl) (.g 14 rfl)) (.k (skp (.o 15 rfl rfl rfl)) (.k (skp (.o 15 rfl rfl rfl)) (.k (skp (.o 15 rfl rfl rfl)) (.k (skp (.o 15 rfl rfl rfl)) (.k (skp (.o 15 rfl rfl rfl)) (.k (skp (.o 15 rfl rfl rfl)) (.k (skp (.o 15 rfl rfl rfl)) (.k (skp (.o 15 rfl rfl rfl)) (.k (pickF (.o 12 rfl rfl rfl) (.g 15 rfl) .c) (.k (pickF .k (.g 12 rfl) (.g 24 rfl)) (.k (asg .k (.g 25 rfl)) .n))))))))))))))))))))))))))) [] [26] rfl rfl ?_
  refine Tr.ret (end_tmp 0 rfl rfl)
theorem p20.add {p r:Int × Int} (h:p20 p) (h':p20 r):nea (p.1+r.1) (p.2+r.2):=by
  obtain ⟨h1,h2,h3,h4⟩:=h
  obtain ⟨g1,g2,g3,g4⟩:=h'
  exact ⟨by omega,by omega,by omega,by omega⟩
theorem p20.two {p:Int × Int} (h:p20 p):nea (2 * p.1) (2 * p.2):=h.nk (.inr (.inl rfl))
theorem fn_sees {P:List (Int × Int)} {T:List (Int × Int × Int)} {S:List (Int × Int)} {s:Int × Int} {q:Int} (hP:p20s P) (hSl:S.length≤1000000) (hS:inS P S) (hA:InP P s.1) (hB:InP P s.2) (hQ:InP P q):FnC Tryz.prog 24 [SP.mesh P T S,.is (sgv s),iv q] (bv (decide (seesP P S s q))):=by
 refine FnC.of (N:=136) Tryz.func24 rfl rfl (Nat.le_of_ble_eq_true rfl) (fun w0 ok0=>?_)
 refine Tr.rs [] (.k (bxx .k (.b 0 rfl)) (.k (bxx .k (.b 1 rfl)) (.k (asg .k .c) .n))) [2] [0,1] rfl rfl ?_
 obtain ⟨ua,pa,ea,ha⟩:=hA
 obtain ⟨ub,pb,eb,hb⟩:=hB
 obtain ⟨uq,pq,eqq,hq⟩:=hQ
 have na:=hP.at ha
 have nb:=hP.at hb
 have nq:=hP.at hq
 refine Tr.ds hmx [] (.k (faddr .k (.b 1 rfl) rfl fMP) (.k (ldc .k (.g 0 rfl) (.b 1 rfl) tyvP) (.k (faddr .k (.b 2 rfl) rfl fSA) (.k (ldc .k (.g 2 rfl) (.b 2 rfl) tyI) (.k (idx_ .k rwP (.g 1 rfl) (.g 3 rfl) ea (gm ha)) (.k (fat .k (.g 4 rfl) aPX rfl) (.k (ldc_at .k (.g 5 rfl) tyI) (.k (faddr .k (.b 1 rfl) rfl fMP) (.k (ldc .k (.g 7 rfl) (.b 1 rfl) tyvP) (.k (faddr .k (.b 2 rfl) rfl fSB) (.k (ldc .k (.g 9 rfl) (.b 2 rfl) tyI) (.k (idx_ .k rwP (.g 8 rfl) (.g 10 rfl) eb (gm hb)) (.k (fat .k (.g 11 rfl) aPX rfl) (.k (ldc_at .k (.g 12 rfl) tyI) (.k (add_ .k (.g 6 rfl) (.g 13 rfl) (Bd.wrap (Bd.add na.bx nb.bx) (by decide))) (.k (faddr .k (.b 1 rfl) rfl fMP) (.k (ldc .k (.g 15 rfl) (.b 1 rfl) tyvP) (.k (faddr .k (.b 2 rfl) rfl fSA) (.k (ldc .k (.g 17 rfl) (.b 2 rfl) tyI) (.k (idx_ .k rwP (.g 16 rfl) (.g 18 rfl) ea (gm ha)) (.k (fat .k (.g 19 rfl) aPY rfl) (.k (ldc_at .k (.g 20 rfl) tyI) (.k (faddr .k (.b 1 rfl) rfl fMP) (.k (ldc .k (.g 22 rfl) (.b 1 rfl) tyvP) (.k (faddr .k (.b 2 rfl) rfl fSB) (.k (ldc .k (.g 24 rfl) (.b 2 rfl) tyI) (.k (idx_ .k rwP (.g 23 rfl) (.g 25 rfl) eb (gm hb)) (.k (fat .k (.g 26 rfl) aPY rfl) (.k (ldc_at .k (.g 27 rfl) tyI) (.k (add_ .k (.g 21 rfl) (.g 28 rfl) (Bd.wrap (Bd.add na.by_ nb.by_) (by decide))) (.k (bld .k (.k (.g 14 rfl) (.k (.g 29 rfl) .n)) (bP _ _) (aP _ _)) (.k (ala .k zP) (.k (sta .k (.g 31 rfl) (.g 30 rfl) tyP) .n))))))))))))))))))))))))))))))))) [0,1,2] [32] rfl rfl ?_
 refine Tr.ds hmx [] (.k (faddr .k (.b 1 rfl) rfl fMP) (.k (ldc .k (.g 0 rfl) (.b 1 rfl) tyvP) (.k (mv .k (.b 0 rfl)) (.k (idx_ .k rwP (.g 1 rfl) (.g 2 rfl) eqq (gm hq)) (.k (fat .k (.g 3 rfl) aPX rfl) (.k (ldc_at .k (.g 4 rfl) tyI) (.k (mul_ .k .c (.g 5 rfl) (Bd.wrap (Bd.mul (show Bd 2 (2) by decide) nq.bx) (by decide))) (.k (faddr .k (.b 1 rfl) rfl fMP) (.k (ldc .k (.g 7 rfl) (.b 1 rfl) tyvP) (.k (mv .k (.b 0 rfl)) (.k (idx_ .k rwP (.g 8 rfl) (.g 9 rfl) eqq (gm hq)) (.k (fat .k (.g 10 rfl) aPY rfl) (.k (ldc_at .k (.g 11 rfl) tyI) (.k (mul_ .k .c (.g 12 rfl) (Bd.wrap (Bd.mul (show Bd 2 (2) by decide) nq.by_) (by decide))) (.k (bld .k (.k (.g 6 rfl) (.k (.g 13 rfl) .n)) (bP _ _) (aP _ _)) (.k (ala .k zP) (.k (sta .k (.g 15 rfl) (.g 14 rfl) tyP) .n))))))))))))))))) [0,1,2,3] [16] rfl rfl ?_
 refine Tr.seq (Tr.rs [] (.k (asg .k .c) .n) [0,1,2,3,4] [0] rfl rfl ?_)
 refine Tr.block (?_)
 refine Tr.loop (fun n_ F_=>∃ k:Nat,(k≤S.length∧∀ o∈S.take k,o=s∨o.1=q∨o.2=q∨seenP P s.1 s.2 q o)∧n_=S.length - k∧F_=[.b 3 (SP.mesh P T S) 26 3,.b 4 (.is (sgv s)) 28 2,.s 2 (iv q),.b 7 (.is (ptv (pa.1+pb.1) (pa.2+pb.2))) 30 2,.b 8 (.is (ptv (2 * pq.1) (2 * pq.2))) 30 2,.s 9 (iv ((k:Nat):Int))]) (S.length - 0) (F0:=[.b 3 (SP.mesh P T S) 26 3,.b 4 (.is (sgv s)) 28 2,.s 2 (iv q),.b 7 (.is (ptv (pa.1+pb.1) (pa.2+pb.2))) 30 2,.b 8 (.is (ptv (2 * pq.1) (2 * pq.2))) 30 2,.s 9 (iv ((0:Nat):Int))]) ⟨0,⟨Nat.zero_le _,by simp⟩,rfl,rfl⟩ (Sub.all (.cons 1 rfl (.cons 2 rfl (.cons 0 rfl (.cons 3 rfl (.cons 4 rfl (.cons 5 rfl .nil))))))) (fun n_ F_ hI=>?_)
 obtain ⟨k,hinv,rfl,rfl⟩:=hI
 refine Tr.seq (Tr.rs [] (.k (mv .k (.b 5 rfl)) (.k (faddr .k (.b 0 rfl) rfl fMS) (.k (ldc .k (.g 1 rfl) (.b 0 rfl) tyvS) (.k (len_ .k rwS (.g 2 rfl) (by rw [List.length_map])) (.k (lt_ .k (.g 0 rfl) (.g 3 rfl) rfl) .n))))) [0,1,2,3,4,5] [4] rfl rfl ?_)
 refine Tr.cond 6 rfl (fun e65=>?_) (fun e65=>?_)
 ·
  have hk2:k < S.length:=by have:=of_decide_eq_true e65;omega
  refine Tr.skip (Nx.go (Tr.seq (Tr.block (?_))))
  obtain ⟨o,p1⟩:∃ s,S[k]?=some s:=⟨_,List.getElem?_eq_getElem hk2⟩;obtain ⟨⟨uc,pc_,ec,hc⟩,ud,pd,ed,hd⟩:=hS o (List.mem_of_getElem? p1);have nc:=hP.at hc;have nd:=hP.at hd
  refine Tr.rs [] (.k (faddr .k (.b 0 rfl) rfl fMS) (.k (ldc .k (.g 0 rfl) (.b 0 rfl) tyvS) (.k (mv .k (.b 5 rfl)) (.k (idx_ .k rwS (.g 1 rfl) (.g 2 rfl) rfl (gm p1)) (.k (ld_at .k (.g 3 rfl) tyS rfl (show _=sgv (_,_) from rfl)) (.k (ala .k zS) (.k (sta .k (.g 5 rfl) (.g 4 rfl) tyS) .n))))))) [0,1,2,3,4,5] [6] rfl rfl ?_
  rcases or_ways3 (o=s) (o.1=q) (o.2=q) with c1|⟨c1,c2⟩|⟨c1,c2,c3⟩|⟨c1,c2,c3⟩
  ·
   have hso:o=s∨o.1=q∨o.2=q∨seenP P s.1 s.2 q o := .inl c1
   refine Tr.seq (Tr.rs [] (.k (ld .k (.b 6 rfl) tyS) (.k (ld .k (.b 1 rfl) tyS) (.k (eqS_ .k sG (.g 0 rfl) (.g 1 rfl) (eqSg _ _) (c1 ▸ sg_self _)) (.k (mv .k (.g 2 rfl)) (.k (skp (.o 3 rfl rfl rfl)) (.k (skp (.o 3 rfl rfl rfl)) (.k (skp (.o 3 rfl rfl rfl)) (.k (skp (.o 3 rfl rfl rfl)) (.k (pickT .k (.g 3 rfl) .c) (.k (mv .k (.g 8 rfl)) (.k (skp (.o 9 rfl rfl rfl)) (.k (skp (.o 9 rfl rfl rfl)) (.k (skp (.o 9 rfl rfl rfl)) (.k (skp (.o 9 rfl rfl rfl)) (.k (pickT .k (.g 9 rfl) .c) .n))))))))))))))) [0,1,2,3,4,5,6] [14] rfl rfl ?_)
   refine Tr.cond 7 rfl (fun _=>?_) nofun
   refine Tr.exit (Nx.thX (Nx.bkX (Nx.go (Tr.reg [(5,2)] (.k (mv .k (.b 5 rfl)) (.k (add_ .k (.g 0 rfl) .c (wr1 (by omega))) (.k (asg .k (.g 1 rfl)) .n))) [0,1,2,3,4] [2] rfl rfl (Nx.again (S.length - (k+1)) (by omega) [.b 3 (SP.mesh P T S) 26 3,.b 4 (.is (sgv s)) 28 2,.s 2 (iv q),.b 7 (.is (ptv (pa.1+pb.1) (pa.2+pb.2))) 30 2,.b 8 (.is (ptv (2 * pq.1) (2 * pq.2))) 30 2,.s 9 (iv (((k+1):Nat):Int))] ⟨(k+1),⟨by omega,all_succ p1 hso hinv.2⟩,rfl,rfl⟩ (Sub.all (.cons 0 rfl (.cons 1 rfl (.cons 2 rfl (.cons 3 rfl (.cons 4 rfl (.cons 5 rfl .nil))))))))))))
  ·
   have hso:o=s∨o.1=q∨o.2=q∨seenP P s.1 s.2 q o := .inr (.inl c2)
   refine Tr.seq (Tr.rs [] (.k (ld .k (.b 6 rfl) tyS) (.k (ld .k (.b 1 rfl) tyS) (.k (eqS_ .k sG (.g 0 rfl) (.g 1 rfl) (eqSg _ _) (sg_nq c1)) (.k (mv .k (.g 2 rfl)) (.k (faddr (.o 3 rfl rfl rfl) (.b 6 rfl) rfl fSA) (.k (ldc (.o 3 rfl rfl rfl) (.g 4 rfl) (.b 6 rfl) tyI) (.k (mv (.o 3 rfl rfl rfl) (.b 2 rfl)) (.k (eq_ (.o 3 rfl rfl rfl) (.g 5 rfl) (.g 6 rfl) (beq_iff_eq.2 c2)) (.k (pickF .k (.g 3 rfl) (.g 7 rfl)) (.k (mv .k (.g 8 rfl)) (.k (skp (.o 9 rfl rfl rfl)) (.k (skp (.o 9 rfl rfl rfl)) (.k (skp (.o 9 rfl rfl rfl)) (.k (skp (.o 9 rfl rfl rfl)) (.k (pickT .k (.g 9 rfl) .c) .n))))))))))))))) [0,1,2,3,4,5,6] [14] rfl rfl ?_)
   refine Tr.cond 7 rfl (fun _=>?_) nofun
   refine Tr.exit (Nx.thX (Nx.bkX (Nx.go (Tr.reg [(5,2)] (.k (mv .k (.b 5 rfl)) (.k (add_ .k (.g 0 rfl) .c (wr1 (by omega))) (.k (asg .k (.g 1 rfl)) .n))) [0,1,2,3,4] [2] rfl rfl (Nx.again (S.length - (k+1)) (by omega) [.b 3 (SP.mesh P T S) 26 3,.b 4 (.is (sgv s)) 28 2,.s 2 (iv q),.b 7 (.is (ptv (pa.1+pb.1) (pa.2+pb.2))) 30 2,.b 8 (.is (ptv (2 * pq.1) (2 * pq.2))) 30 2,.s 9 (iv (((k+1):Nat):Int))] ⟨(k+1),⟨by omega,all_succ p1 hso hinv.2⟩,rfl,rfl⟩ (Sub.all (.cons 0 rfl (.cons 1 rfl (.cons 2 rfl (.cons 3 rfl (.cons 4 rfl (.cons 5 rfl .nil))))))))))))
  ·
   have hso:o=s∨o.1=q∨o.2=q∨seenP P s.1 s.2 q o := .inr (.inr (.inl c3))
   refine Tr.seq (Tr.rs [] (.k (ld .k (.b 6 rfl) tyS) (.k (ld .k (.b 1 rfl) tyS) (.k (eqS_ .k sG (.g 0 rfl) (.g 1 rfl) (eqSg _ _) (sg_nq c1)) (.k (mv .k (.g 2 rfl)) (.k (faddr (.o 3 rfl rfl rfl) (.b 6 rfl) rfl fSA) (.k (ldc (.o 3 rfl rfl rfl) (.g 4 rfl) (.b 6 rfl) tyI) (.k (mv (.o 3 rfl rfl rfl) (.b 2 rfl)) (.k (eq_ (.o 3 rfl rfl rfl) (.g 5 rfl) (.g 6 rfl) (beq_eq_false_iff_ne.2 c2)) (.k (pickF .k (.g 3 rfl) (.g 7 rfl)) (.k (mv .k (.g 8 rfl)) (.k (faddr (.o 9 rfl rfl rfl) (.b 6 rfl) rfl fSB) (.k (ldc (.o 9 rfl rfl rfl) (.g 10 rfl) (.b 6 rfl) tyI) (.k (mv (.o 9 rfl rfl rfl) (.b 2 rfl)) (.k (eq_ (.o 9 rfl rfl rfl) (.g 11 rfl) (.g 12 rfl) (beq_iff_eq.2 c3)) (.k (pickF .k (.g 9 rfl) (.g 13 rfl)) .n))))))))))))))) [0,1,2,3,4,5,6] [14] rfl rfl ?_)
   refine Tr.cond 7 rfl (fun _=>?_) nofun
   refine Tr.exit (Nx.thX (Nx.bkX (Nx.go (Tr.reg [(5,2)] (.k (mv .k (.b 5 rfl)) (.k (add_ .k (.g 0 rfl) .c (wr1 (by omega))) (.k (asg .k (.g 1 rfl)) .n))) [0,1,2,3,4] [2] rfl rfl (Nx.again (S.length - (k+1)) (by omega) [.b 3 (SP.mesh P T S) 26 3,.b 4 (.is (sgv s)) 28 2,.s 2 (iv q),.b 7 (.is (ptv (pa.1+pb.1) (pa.2+pb.2))) 30 2,.b 8 (.is (ptv (2 * pq.1) (2 * pq.2))) 30 2,.s 9 (iv (((k+1):Nat):Int))] ⟨(k+1),⟨by omega,all_succ p1 hso hinv.2⟩,rfl,rfl⟩ (Sub.all (.cons 0 rfl (.cons 1 rfl (.cons 2 rfl (.cons 3 rfl (.cons 4 rfl (.cons 5 rfl .nil))))))))))))
  ·
   refine Tr.seq (Tr.rs [] (.k (ld .k (.b 6 rfl) tyS) (.k (ld .k (.b 1 rfl) tyS) (.k (eqS_ .k sG (.g 0 rfl) (.g 1 rfl) (eqSg _ _) (sg_nq c1)) (.k (mv .k (.g 2 rfl)) (.k (faddr (.o 3 rfl rfl rfl) (.b 6 rfl) rfl fSA) (.k (ldc (.o 3 rfl rfl rfl) (.g 4 rfl) (.b 6 rfl) tyI) (.k (mv (.o 3 rfl rfl rfl) (.b 2 rfl)) (.k (eq_ (.o 3 rfl rfl rfl) (.g 5 rfl) (.g 6 rfl) (beq_eq_false_iff_ne.2 c2)) (.k (pickF .k (.g 3 rfl) (.g 7 rfl)) (.k (mv .k (.g 8 rfl)) (.k (faddr (.o 9 rfl rfl rfl) (.b 6 rfl) rfl fSB) (.k (ldc (.o 9 rfl rfl rfl) (.g 10 rfl) (.b 6 rfl) tyI) (.k (mv (.o 9 rfl rfl rfl) (.b 2 rfl)) (.k (eq_ (.o 9 rfl rfl rfl) (.g 11 rfl) (.g 12 rfl) (beq_eq_false_iff_ne.2 c3)) (.k (pickF .k (.g 9 rfl) (.g 13 rfl)) .n))))))))))))))) [0,1,2,3,4,5,6] [14] rfl rfl ?_)
   refine Tr.cond 7 rfl nofun (fun _=>?_)
   refine Tr.skip (Nx.go (Tr.ds hmx [] (.k (faddr .k (.b 0 rfl) rfl fMP) (.k (ldc .k (.g 0 rfl) (.b 0 rfl) tyvP) (.k (faddr .k (.b 6 rfl) rfl fSA) (.k (ldc .k (.g 2 rfl) (.b 6 rfl) tyI) (.k (idx_ .k rwP (.g 1 rfl) (.g 3 rfl) ec (gm hc)) (.k (fat .k (.g 4 rfl) aPX rfl) (.k (ldc_at .k (.g 5 rfl) tyI) (.k (mul_ .k .c (.g 6 rfl) (Bd.wrap (Bd.mul (show Bd 2 (2) by decide) nc.bx) (by decide))) (.k (faddr .k (.b 0 rfl) rfl fMP) (.k (ldc .k (.g 8 rfl) (.b 0 rfl) tyvP) (.k (faddr .k (.b 6 rfl) rfl fSA) (.k (ldc .k (.g 10 rfl) (.b 6 rfl) tyI) (.k (idx_ .k rwP (.g 9 rfl) (.g 11 rfl) ec (gm hc)) (.k (fat .k (.g 12 rfl) aPY rfl) (.k (ldc_at .k (.g 13 rfl) tyI) (.k (mul_ .k .c (.g 14 rfl) (Bd.wrap (Bd.mul (show Bd 2 (2) by decide) nc.by_) (by decide))) (.k (bld .k (.k (.g 7 rfl) (.k (.g 15 rfl) .n)) (bP _ _) (aP _ _)) (.k (ala .k zP) (.k (sta .k (.g 17 rfl) (.g 16 rfl) tyP) .n))))))))))))))))))) [0,1,2,3,4,5,6] [18] rfl rfl ?_))
   refine Tr.ds hmx [] (.k (faddr .k (.b 0 rfl) rfl fMP) (.k (ldc .k (.g 0 rfl) (.b 0 rfl) tyvP) (.k (faddr .k (.b 6 rfl) rfl fSB) (.k (ldc .k (.g 2 rfl) (.b 6 rfl) tyI) (.k (idx_ .k rwP (.g 1 rfl) (.g 3 rfl) ed (gm hd)) (.k (fat .k (.g 4 rfl) aPX rfl) (.k (ldc_at .k (.g 5 rfl) tyI) (.k (mul_ .k .c (.g 6 rfl) (Bd.wrap (Bd.mul (show Bd 2 (2) by decide) nd.bx) (by decide))) (.k (faddr .k (.b 0 rfl) rfl fMP) (.k (ldc .k (.g 8 rfl) (.b 0 rfl) tyvP) (.k (faddr .k (.b 6 rfl) rfl fSB) (.k (ldc .k (.g 10 rfl) (.b 6 rfl) tyI) (.k (idx_ .k rwP (.g 9 rfl) (.g 11 rfl) ed (gm hd)) (.k (fat .k (.g 12 rfl) aPY rfl) (.k (ldc_at .k (.g 13 rfl) tyI) (.k (mul_ .k .c (.g 14 rfl) (Bd.wrap (Bd.mul (show Bd 2 (2) by decide) nd.by_) (by decide))) (.k (bld .k (.k (.g 7 rfl) (.k (.g 15 rfl) .n)) (bP _ _) (aP _ _)) (.k (ala .k zP) (.k (sta .k (.g 17 rfl) (.g 16 rfl) tyP) .n))))))))))))))))))) [0,1,2,3,4,5,7] [18] rfl rfl ?_
   have em:seenP P s.1 s.2 q o↔metR (pa.1+pb.1) (pa.2+pb.2) (2 * pq.1) (2 * pq.2) (2 * pc_.1) (2 * pc_.2) (2 * pd.1) (2 * pd.2)=(0,0):=by unfold seenP sum2 dbl;rw [at_of ea ha,at_of eb hb,at_of eqq hq,at_of ec hc,at_of ed hd]
   have em2:=em.1
   have em3:=em.2
   refine Tr.rs [] (.k (ld .k (.b 3 rfl) tyP) (.k (ld .k (.b 4 rfl) tyP) (.k (ld .k (.b 6 rfl) tyP) (.k (ld .k (.b 7 rfl) tyP) (.k (cal .k Tryz.func49 rfl (fn_rSegs (na.add nb) nq.two nc.two nd.two) (.k (.g 0 rfl) (.k (.g 1 rfl) (.k (.g 2 rfl) (.k (.g 3 rfl) .n))))) (.k (mv .k (.g 4 rfl)) (.k (exx .k (.g 5 rfl) rfl) (.k (exx .k (.g 5 rfl) rfl) (.k (asg .k (.g 6 rfl)) (.k (asg .k (.g 7 rfl)) .n)))))))))) [0,1,2,3,4,5] [8,9] rfl rfl ?_
   rcases or_ways2 ((metR (pa.1+pb.1) (pa.2+pb.2) (2 * pq.1) (2 * pq.2) (2 * pc_.1) (2 * pc_.2) (2 * pd.1) (2 * pd.2)).1≠0) ((metR (pa.1+pb.1) (pa.2+pb.2) (2 * pq.1) (2 * pq.2) (2 * pc_.1) (2 * pc_.2) (2 * pd.1) (2 * pd.2)).2≠0) with d1|⟨d1,d2⟩|⟨d1,d2⟩
   ·
    rw [seesP_no p1 c1 c2 c3 (fun h=>d1 (by rw [em2 h]))]
    refine Tr.rs [] (.k (mv .k (.b 6 rfl)) (.k (ne_ .k (.g 0 rfl) .c (bne_iff_ne.2 d1)) (.k (mv .k (.g 1 rfl)) (.k (skp (.o 2 rfl rfl rfl)) (.k (skp (.o 2 rfl rfl rfl)) (.k (pickT .k (.g 2 rfl) .c) .n)))))) [0,1,2,3,4,5] [5] rfl rfl ?_
    refine Tr.cond 6 rfl (fun _=>?_) nofun
    refine Tr.rs [] (.k (asg .k .c) .n) [] [0] rfl rfl ?_
    refine Tr.ret (end_tmp 0 rfl rfl)
   ·
    rw [seesP_no p1 c1 c2 c3 (fun h=>d2 (by rw [em2 h]))]
    refine Tr.rs [] (.k (mv .k (.b 6 rfl)) (.k (ne_ .k (.g 0 rfl) .c (bne_eq_false_iff_eq.2 (Classical.not_not.1 d1))) (.k (mv .k (.g 1 rfl)) (.k (mv (.o 2 rfl rfl rfl) (.b 7 rfl)) (.k (ne_ (.o 2 rfl rfl rfl) (.g 3 rfl) .c (bne_iff_ne.2 d2)) (.k (pickF .k (.g 2 rfl) (.g 4 rfl)) .n)))))) [0,1,2,3,4,5] [5] rfl rfl ?_
    refine Tr.cond 6 rfl (fun _=>?_) nofun
    refine Tr.rs [] (.k (asg .k .c) .n) [] [0] rfl rfl ?_
    refine Tr.ret (end_tmp 0 rfl rfl)
   ·
    have hso:o=s∨o.1=q∨o.2=q∨seenP P s.1 s.2 q o := .inr (.inr (.inr (em3 (Prod.ext (Classical.not_not.1 d1) (Classical.not_not.1 d2)))))
    refine Tr.rs [] (.k (mv .k (.b 6 rfl)) (.k (ne_ .k (.g 0 rfl) .c (bne_eq_false_iff_eq.2 (Classical.not_not.1 d1))) (.k (mv .k (.g 1 rfl)) (.k (mv (.o 2 rfl rfl rfl) (.b 7 rfl)) (.k (ne_ (.o 2 rfl rfl rfl) (.g 3 rfl) .c (bne_eq_false_iff_eq.2 (Classical.not_not.1 d2))) (.k (pickF .k (.g 2 rfl) (.g 4 rfl)) .n)))))) [0,1,2,3,4,5] [5] rfl rfl ?_
    refine Tr.cond 6 rfl nofun (fun _=>?_)
    refine Tr.skip (Nx.bkN (Nx.go (Tr.reg [(5,2)] (.k (mv .k (.b 5 rfl)) (.k (add_ .k (.g 0 rfl) .c (wr1 (by omega))) (.k (asg .k (.g 1 rfl)) .n))) [0,1,2,3,4] [2] rfl rfl (Nx.again (S.length - (k+1)) (by omega) [.b 3 (SP.mesh P T S) 26 3,.b 4 (.is (sgv s)) 28 2,.s 2 (iv q),.b 7 (.is (ptv (pa.1+pb.1) (pa.2+pb.2))) 30 2,.b 8 (.is (ptv (2 * pq.1) (2 * pq.2))) 30 2,.s 9 (iv (((k+1):Nat):Int))] ⟨(k+1),⟨by omega,all_succ p1 hso hinv.2⟩,rfl,rfl⟩ (Sub.all (.cons 0 rfl (.cons 1 rfl (.cons 2 rfl (.cons 3 rfl (.cons 4 rfl (.cons 5 rfl .nil)))))))))))
 ·
  obtain rfl:k=S.length:=by have:=of_decide_eq_false e65;omega
  refine Tr.exit (Nx.thX (Nx.thX (Nx.bkX (Nx.go (?_)))))
  rw [List.take_length] at hinv
  rw [decide_eq_true (show seesP P S s q from hinv.2)]
  refine Tr.rs [] (.k (asg .k .c) .n) [] [0] rfl rfl ?_
  refine Tr.ret (end_tmp 0 rfl rfl)
end Go.Proofs.YtkgagdjogedoiaaGreat
