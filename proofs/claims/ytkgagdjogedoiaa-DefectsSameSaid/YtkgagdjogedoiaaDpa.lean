/- A mesh turned, and twice as great, has the same defects. -/
import Derived.Test.YtkgagdjogedoiaaDfc
set_option linter.unusedVariables false
set_option linter.unusedSimpArgs false
namespace Go.Proofs.Ytkgagdjogedoiaa
open Go Go.RowKit Go.Proofs.Ytkgagdjogedoiaa.Fx Go.Proofs.YtkgagdjogedoiaaW.PrintWords
def corner (T : List (Int × Int × Int)) (i : Int) : Prop := ∃ t ∈ T, i = t.1 ∨ i = t.2.1 ∨ i = t.2.2
theorem corner_edge {T : List (Int × Int × Int)} {e : Int × Int} (h : e ∈ edgs T) : corner T e.1 ∧ corner T e.2 := by
 obtain ⟨t, ht, he⟩ := mem_edgs.1 h
 unfold edg at he
 simp only [List.mem_cons, List.not_mem_nil, or_false] at he
 rcases he with rfl | rfl | rfl
 ·exact ⟨⟨t, ht, .inl rfl⟩, ⟨t, ht, .inr (.inl rfl)⟩⟩
 ·exact ⟨⟨t, ht, .inr (.inl rfl)⟩, ⟨t, ht, .inr (.inr rfl)⟩⟩
 ·exact ⟨⟨t, ht, .inr (.inr rfl)⟩, ⟨t, ht, .inl rfl⟩⟩
theorem corner_third {T : List (Int × Int × Int)} {a b c : Int} (h : c ∈ crwAll T a b) : corner T c := by
 obtain ⟨t, ht, hc⟩ := List.mem_filterMap.1 h
 exact ⟨t, ht, third_mem hc⟩
section
variable {P : List (Int × Int)} {T : List (Int × Int × Int)} {S : List (Int × Int)}
theorem corner_seg (hM : MeshOK P.length (oP P) T S) {s : Int × Int} (hs : s ∈ S) : corner T s.1 ∧ corner T s.2 := by
 rcases (hM.seg s hs).2 with h | h
 ·exact corner_edge h
 ·exact ⟨(corner_edge h).2, (corner_edge h).1⟩
theorem corner_fit (hM : MeshOK P.length (oP P) T S) {i : Int} (h : corner T i) : (0 ≤ i ∧ i < P.length) ∧ fit (atP P i).1 (atP P i).2 := by
 obtain ⟨t, ht, h⟩ := h
 obtain ⟨h1, h2, h3, _, h5⟩ := hM.tri t ht
 obtain ⟨f1, f2, f3⟩ := ori_fit (show oriZ _ _ _ _ _ _ ≠ 0 from by
  have : oP P t.1 t.2.1 t.2.2 ≠ 0 := by omega
  exact this)
 rcases h with rfl | rfl | rfl
 ·exact ⟨h1, f1⟩
 ·exact ⟨h2, f2⟩
 ·exact ⟨h3, f3⟩
theorem atP_map {i : Int} (h : 0 ≤ i ∧ i < P.length) : atP (P.map twP) i = twP (atP P i) := by
 obtain ⟨u, p, rfl, hu⟩ := inP h
 rw [atP_of hu, atP_of (show (P.map twP)[u]? = some (twP p) by rw [List.getElem?_map, hu]; rfl)]
theorem twP_of {p : Int × Int} (h : fit p.1 p.2) : twP p = (-2 * p.2, 2 * p.1) := by
 unfold fit at h
 unfold twP
 rw [IntWalk.i64_in _ (by omega), IntWalk.i64_in _ (by omega)]
variable (hM : MeshOK P.length (oP P) T S) (hM' : MeshOK (P.map twP).length (oP (P.map twP)) T S)
include hM hM'
theorem corner_tw {i : Int} (h : corner T i) : (atP (P.map twP) i).1 = -2 * (atP P i).2 ∧ (atP (P.map twP) i).2 = 2 * (atP P i).1 ∧ fit (-2 * (atP P i).2) (2 * (atP P i).1) := by
 obtain ⟨h1, h2⟩ := corner_fit hM h
 obtain ⟨_, h4⟩ := corner_fit hM' h
 have e : atP (P.map twP) i = (-2 * (atP P i).2, 2 * (atP P i).1) := by rw [atP_map h1, twP_of h2]
 rw [e] at h4
 rw [e]
 exact ⟨rfl, rfl, h4⟩
theorem dP_tw {a b c : Int} (ha : corner T a) (hb : corner T b) (hc : corner T c) : dP (P.map twP) a b c = dP P a b c := by
 obtain ⟨a1, a2, a3⟩ := corner_tw hM hM' ha
 obtain ⟨b1, b2, b3⟩ := corner_tw hM hM' hb
 obtain ⟨c1, c2, c3⟩ := corner_tw hM hM' hc
 unfold dP
 rw [a1, a2, b1, b2, c1, c2]
 exact dis_tw a3 b3 c3
theorem sP_tw {t : Int × Int × Int} (ht : t ∈ T) : sP (P.map twP) t = sP P t := by
 obtain ⟨a1, a2, a3⟩ := corner_tw hM hM' ⟨t, ht, .inl rfl⟩
 obtain ⟨b1, b2, b3⟩ := corner_tw hM hM' ⟨t, ht, .inr (.inl rfl)⟩
 obtain ⟨c1, c2, c3⟩ := corner_tw hM hM' ⟨t, ht, .inr (.inr rfl)⟩
 unfold sP
 rw [a1, a2, b1, b2, c1, c2]
 exact sk_tw a3 b3 c3
theorem crw_tw {s : Int × Int} (hs : s ∈ S) : crw (P.map twP) T s = crw P T s := by
 obtain ⟨h1, h2⟩ := corner_seg hM hs
 unfold crw crwR
 rw [List.filter_congr fun c hc => dP_tw hM hM' h1 h2 (corner_third hc)]
end
theorem same_defects {P : List (Int × Int)} {T : List (Int × Int × Int)} {S : List (Int × Int)} (h : mC P T S = 0) (h' : mC (P.map twP) T S = 0) : crdL (P.map twP) T S = crdL P T S ∧ sknL (P.map twP) T S = sknL P T S := by
 have hM := mC_ok h
 have hM' := mC_ok h'
 have e1 : crdB (P.map twP) T S = crdB P T S := funext fun i => by
  unfold crdB atB
  split
  ·rename_i s hs
   simp only [crw_tw hM hM' (List.mem_of_getElem? hs)]
  ·rfl
 have e2 : atB T (sP (P.map twP)) = atB T (sP P) := funext fun i => by
  unfold atB
  split
  ·rename_i t ht
   exact sP_tw hM hM' (List.mem_of_getElem? ht)
  ·rfl
 rw [crdL_of h, crdL_of h', sknL_of h, sknL_of h', e1, e2]
 exact ⟨rfl, rfl⟩
end Go.Proofs.Ytkgagdjogedoiaa
