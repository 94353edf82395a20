/- Plain words on sums, differences and products of the program's numbers and of the document's. -/
import Derived.Test.YtmpbbodafenonaaWP6
import Derived.Test.YtmpbbodafenonaaMT0
import Derived.Test.YtmpbbodafenonaaMT30
import Derived.Test.YtmpbbodafenonaaMT32
set_option linter.unusedVariables false
set_option linter.unusedSimpArgs false
namespace Go.Proofs.Ytmpbbodafenonaa
open Go Go.RowKit Go.Proofs.Ytmpbbodafenonaa.MT Go.Proofs.YtmpbbodafenonaaW.PrintWords Go.Proofs.YtmpbbodafenonaaW.PrintLast
theorem add_ev (l : List S27) (hl : l.length ≤ 1000) (hok : ∀ x ∈ l, OkS x) : Ev (fun k => wide_Add.f k l) (resW (goOn (· + ·) (l.map val27) 0)) :=
  Ev.congr (fun k => rfl) (wadd_loop l hl hok l.length 0 (by omega) (by omega) 0 (by decide))
/-- The program's number, its limbs told by its greatness. -/
def mk27 (m : Bool) (v : Int) : S27 := ⟨m, ⟨spl0 v, spl1 v, spl2 v, spl3 v⟩⟩
theorem ok27 (m : Bool) (v : Int) : OkS (mk27 m v) := ⟨spl0_U v, spl1_U v, spl2_U v, spl3_U v⟩
theorem val_mk27 (m : Bool) {v : Int} (h0 : 0 ≤ v) (h1 : v < top4) : val27 (mk27 m v) = sv m v := by
  unfold val27 mk27
  rw [val4_spl h0 h1]
theorem sv_abs (m : Bool) {v : Int} (h0 : 0 ≤ v) : ((sv m v).natAbs : Int) = v := by unfold sv; split <;> omega
theorem sv_neg (m : Bool) {v : Int} (h0 : 0 ≤ v) : decide (-sv m v < 0) = (!m && !decide (v = 0)) := by
  unfold sv
  by_cases h : v = 0
  · subst h; cases m <;> rfl
  · cases m <;> simp [h] <;> omega
theorem sub_ev (m n : Bool) {u v : Int} (hu0 : 0 ≤ u) (hu1 : u < top4) (hv0 : 0 ≤ v) (hv1 : v < top4) :
    Ev (fun k => wide_Sub.f k m (spl0 u) (spl1 u) (spl2 u) (spl3 u) n (spl0 v) (spl1 v) (spl2 v) (spl3 v)) (resW (goOn (· + ·) [sv m u, -sv n v] 0)) := by
  have h := add_ev [mk27 m u, mk27 (!n && !decide (v = 0)) v] (by simp) (fun x hx => by
    simp only [List.mem_cons, List.not_mem_nil, or_false] at hx
    rcases hx with rfl | rfl
    · exact ok27 m u
    · exact ok27 _ v)
  have e : [mk27 m u, mk27 (!n && !decide (v = 0)) v].map val27 = [sv m u, -sv n v] := by
    simp only [List.map_cons, List.map_nil]
    rw [val_mk27 m hu0 hu1, val_mk27 _ hv0 hv1]
    have : sv (!n && !decide (v = 0)) v = -sv n v := by
      unfold sv
      by_cases h : v = 0
      · subst h; cases n <;> rfl
      · cases n <;> simp [h] <;> omega
    rw [this]
  rw [e] at h
  refine Ev.congr (f := fun k => (wide_Add.f k [mk27 m u, mk27 (!n && !decide (v = 0)) v]).bind fun bt => some bt) (fun k => ?_) (Ev.bind h (Ev.now _))
  unfold wide_Sub.f
  rw [neg_spl n hv0 hv1]
  rfl
end Go.Proofs.Ytmpbbodafenonaa
