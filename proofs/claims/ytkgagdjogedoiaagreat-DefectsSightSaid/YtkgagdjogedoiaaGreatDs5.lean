import Derived.Test.YtkgagdjogedoiaaGreatPr6
import Derived.Test.YtkgagdjogedoiaaGreatDp3
set_option linter.unusedVariables false
namespace Go.Proofs.YtkgagdjogedoiaaGreat
abbrev Pt:=Int × Int
def ar (a b c:Pt):Int:=areaZ a.1 a.2 b.1 b.2 c.1 c.2
def fd (a b p:Pt):Int:=(a.1 - p.1) * (b.1 - p.1)+(a.2 - p.2) * (b.2 - p.2)
def inc (a b c d:Pt):Int:=fd a b c * ar a b d - fd a b d * ar a b c
def hgt (a:Pt):Int:=a.1 * a.1+a.2 * a.2
def vol (a b c:Pt):Int:=ar a b c * (hgt a+hgt b+hgt c)
theorem ar_cyc (a b c:Pt):ar b c a=ar a b c:=by unfold ar areaZ;grind
theorem ar_flip (a b c:Pt):ar b a c = -ar a b c:=by unfold ar areaZ;grind
theorem bary (a b c q:Pt) (x y z:Int):ar b c q * (x * a.1+y * a.2+z)+ar c a q * (x * b.1+y * b.2+z)+ar a b q * (x * c.1+y * c.2+z)=ar a b c * (x * q.1+y * q.2+z):=by unfold ar areaZ;grind
theorem bary0 (a b c q:Pt):ar b c q+ar c a q+ar a b q=ar a b c:=by unfold ar areaZ;grind
theorem inc_cyc (a b c d:Pt):inc b c a d=inc a b c d:=by unfold inc fd ar areaZ;grind
theorem inc_flip (a b c d:Pt):inc b a c d = -inc a b c d:=by unfold inc fd ar areaZ;grind
theorem inc_last (a b c d:Pt):inc a b d c = -inc a b c d:=by unfold inc fd ar areaZ;grind
theorem vol_flip (a b c d:Pt):vol a b c+vol b a d - vol a d c - vol b c d=inc a b c d:=by unfold vol hgt inc fd ar areaZ;grind
theorem mul_pos_iff_r {a b:Int} (ha:0 < a) (h:0 < a * b):0 < b:=by
 rcases Int.lt_or_le 0 b with hb|hb
 ·exact hb
 ·have:=Int.mul_nonpos_of_nonneg_of_nonpos (Int.le_of_lt ha) hb;omega
theorem inc_step {a b c e q:Pt} (hc:0 < ar a b c) (he:0 < ar b a e) (hq:0 < ar b a q) (h1:inc a b c e≤0) (h2:0 < inc a b c q):0 < inc b a e q:=by
 have e1:ar b a e = -ar a b e:=ar_flip a b e
 have e2:ar b a q = -ar a b q:=ar_flip a b q
 have k1:=Int.mul_nonneg (Int.le_of_lt hq) (show 0 ≤ -inc a b c e by omega)
 have k2:=Int.mul_pos he h2
 refine mul_pos_iff_r hc ?_
 have e3:ar a b c * inc b a e q=ar b a q * -inc a b c e+ar b a e * inc a b c q:=by
  rw [e1,e2,inc_flip];unfold inc;grind
 omega
theorem inc_disc {a b c q:Pt} (hc:0 < ar a b c) (hq:0 < ar a b q) (h1:0 < fd a b c) (h2:fd a b q≤0):0 < inc a b c q:=by
 unfold inc
 have k1:=Int.mul_pos h1 hq
 have k2:=Int.mul_nonneg (show 0 ≤ -fd a b q by omega) (Int.le_of_lt hc)
 have e : -fd a b q * ar a b c = -(fd a b q * ar a b c):=by grind
 omega
structure Aff where
 x:Int
 y:Int
 z:Int
def Aff.at (L:Aff) (p:Pt):Int:=L.x * p.1+L.y * p.2+L.z
theorem Aff.bary (L:Aff) (a b c q:Pt):ar b c q * L.at a+ar c a q * L.at b+ar a b q * L.at c=ar a b c * L.at q:=Go.Proofs.YtkgagdjogedoiaaGreat.bary a b c q L.x L.y L.z
theorem out_w {u w c q:Pt} {L:Aff} (hq:0 < ar u w q) (h0:L.at q=0) (hu:0 < L.at u) (hw:L.at w < 0) (hc:0 < L.at c) (hin:¬ (0≤ar u w q∧0≤ar w c q∧0≤ar c u q)):ar w c q < 0:=by
 rcases Int.lt_or_le (ar w c q) 0 with h|h
 ·exact h
 ·refine absurd ⟨Int.le_of_lt hq,h,?_⟩ hin
  have e:=L.bary u w c q
  rw [h0,Int.mul_zero] at e
  have k1:=Int.mul_nonneg h (Int.le_of_lt hu)
  have k2:=Int.mul_pos hq hc
  rcases Int.lt_or_le (ar c u q) 0 with h'|h'
  ·have:=Int.mul_pos_of_neg_of_neg h' hw;omega
  ·exact h'
theorem out_u {u w c q:Pt} {L:Aff} (hq:0 < ar u w q) (h0:L.at q=0) (hu:0 < L.at u) (hw:L.at w < 0) (hc:L.at c < 0) (hin:¬ (0≤ar u w q∧0≤ar w c q∧0≤ar c u q)):ar c u q < 0:=by
 rcases Int.lt_or_le (ar c u q) 0 with h|h
 ·exact h
 ·refine absurd ⟨Int.le_of_lt hq,?_,h⟩ hin
  have e:=L.bary u w c q
  rw [h0,Int.mul_zero] at e
  have k1:=Int.mul_nonneg h (show 0 ≤ -L.at w by omega)
  have k2:=Int.mul_pos hq (show 0 < -L.at c by omega)
  have e1:ar c u q * -L.at w = -(ar c u q * L.at w):=by grind
  have e2:ar u w q * -L.at c = -(ar u w q * L.at c):=by grind
  rcases Int.lt_or_le (ar w c q) 0 with h'|h'
  ·have:=Int.mul_neg_of_neg_of_pos h' hu;omega
  ·exact h'
def rr (L:Aff) (u w:Pt):Int:=L.at u - L.at w
def frm (d q:Pt):Aff:=⟨-d.2,d.1,d.2 * q.1 - d.1 * q.2⟩
theorem frm_q (d q:Pt):(frm d q).at q=0:=by unfold frm Aff.at;grind
/-! How far ahead of q the ray comes over u w: ar u w q over L u - L w; it falls from way to way. -/
theorem tau_w (d q u w c:Pt):ar u w q * rr (frm d q) c w - ar c w q * rr (frm d q) u w = -(frm d q).at w * ar u w c:=by
 unfold rr frm Aff.at ar areaZ;grind
theorem tau_u (d q u w c:Pt):ar u w q * rr (frm d q) u c - ar u c q * rr (frm d q) u w=(frm d q).at u * ar u w c:=by
 unfold rr frm Aff.at ar areaZ;grind
def ray (K:Int) (a b q:Pt):Pt:=(K * (2 * q.1 - a.1 - b.1) - (b.1 - a.1),K * (2 * q.2 - a.2 - b.2) - (b.2 - a.2))
def mq (a b q v:Pt):Int:=(2 * q.1 - a.1 - b.1) * (v.2 - q.2) - (2 * q.2 - a.2 - b.2) * (v.1 - q.1)
def tie (a b q v:Pt):Int:=(b.1 - a.1) * (v.2 - q.2) - (b.2 - a.2) * (v.1 - q.1)
theorem ray_at (K:Int) (a b q v:Pt):(frm (ray K a b q) q).at v=K * mq a b q v - tie a b q v:=by unfold frm ray Aff.at mq tie;grind
theorem tau_0 (K:Int) (a b q:Pt):rr (frm (ray K a b q) q) a b=2 * K * ar a b q:=by unfold rr frm ray Aff.at ar areaZ;grind
theorem ray_a (K:Int) (a b q:Pt):(frm (ray K a b q) q).at a=(K+1) * ar a b q:=by unfold frm ray Aff.at ar areaZ;grind
theorem ray_b (K:Int) (a b q:Pt):(frm (ray K a b q) q).at b = -((K - 1) * ar a b q):=by unfold frm ray Aff.at ar areaZ;grind
def mid2 (a b w c:Pt):Int:=(c.1 - w.1) * (a.2+b.2 - 2 * w.2) - (c.2 - w.2) * (a.1+b.1 - 2 * w.1)
theorem mid_at (K:Int) (a b q w c:Pt):K * mid2 a b w c=rr (frm (ray K a b q) q) c w - 2 * K * ar c w q+(tie a b q c - tie a b q w):=by unfold mid2 rr frm ray Aff.at ar areaZ tie;grind
theorem mid_left {K:Int} {a b q w c:Pt} (hK:0 < K) (ht : -K < tie a b q c - tie a b q w) (h:2 * K * ar c w q < rr (frm (ray K a b q) q) c w):0≤mid2 a b w c:=by
 have e:=mid_at K a b q w c
 rcases Int.lt_or_le (mid2 a b w c) 0 with h'|h'
 ·have k:=Int.mul_le_mul_of_nonneg_left (show mid2 a b w c ≤ -1 by omega) (Int.le_of_lt hK)
  have e2:K * -1 = -K:=by omega
  omega
 ·exact h'
theorem mq_tie {a b q v:Pt} (hq:ar a b q≠0) (h1:mq a b q v=0) (h2:tie a b q v=0):v=q:=by
 have e1:ar a b q * (v.1 - q.1) * 2=(2 * q.1 - a.1 - b.1) * tie a b q v - (b.1 - a.1) * mq a b q v:=by unfold ar areaZ mq tie;grind
 have e2:ar a b q * (v.2 - q.2) * 2=(2 * q.2 - a.2 - b.2) * tie a b q v - (b.2 - a.2) * mq a b q v:=by unfold ar areaZ mq tie;grind
 rw [h1,h2,Int.mul_zero,Int.mul_zero] at e1 e2
 have f1:ar a b q * (v.1 - q.1)=0:=by omega
 have f2:ar a b q * (v.2 - q.2)=0:=by omega
 rcases Int.mul_eq_zero.1 f1 with h|h
 ·exact absurd h hq
 rcases Int.mul_eq_zero.1 f2 with h'|h'
 ·exact absurd h' hq
 exact Prod.ext (by omega) (by omega)
theorem ray_pos {K:Int} {a b q v:Pt} (h1 : -K < tie a b q v) (h:0 < (frm (ray K a b q) q).at v) (hK:0 < K):0≤mq a b q v:=by
 rw [ray_at] at h
 rcases Int.lt_or_le (mq a b q v) 0 with h'|h'
 ·have k:=Int.mul_le_mul_of_nonneg_left (show mq a b q v ≤ -1 by omega) (Int.le_of_lt hK)
  have e2:K * -1 = -K:=by omega
  omega
 ·exact h'
theorem ray_neg {K:Int} {a b q v:Pt} (h1:tie a b q v < K) (h:(frm (ray K a b q) q).at v < 0) (hK:0 < K):mq a b q v≤0:=by
 rw [ray_at] at h
 rcases Int.lt_or_le 0 (mq a b q v) with h'|h'
 ·have k:=Int.mul_le_mul_of_nonneg_left (show 1≤mq a b q v by omega) (Int.le_of_lt hK)
  omega
 ·exact h'
theorem ray_ne {K:Int} {a b q v:Pt} (hq:ar a b q≠0) (h1 : -K < tie a b q v) (h2:tie a b q v < K) (hv:v≠q):(frm (ray K a b q) q).at v≠0:=by
 rw [ray_at]
 intro h
 rcases Int.lt_trichotomy (mq a b q v) 0 with h'|h'|h'
 ·have k:=Int.mul_le_mul_of_nonneg_left (show mq a b q v ≤ -1 by omega) (show 0≤K by omega)
  have e2:K * -1 = -K:=by omega
  omega
 ·rw [h',Int.mul_zero] at h
  exact hv (mq_tie hq h' (by omega))
 ·have k:=Int.mul_le_mul_of_nonneg_left (show 1≤mq a b q v by omega) (show 0≤K by omega)
  omega
/-! The flip of a b to c d, in a convex a d b c. -/
def InT (a b c v:Pt):Prop:=0≤ar a b v∧0≤ar b c v∧0≤ar c a v
theorem bary_ar (a b c q x y:Pt):ar b c q * ar x y a+ar c a q * ar x y b+ar a b q * ar x y c=ar a b c * ar x y q:=by unfold ar areaZ;grind
theorem ar_aab (a b:Pt):ar a b b=0:=by unfold ar areaZ;grind
theorem ar_aba (a b:Pt):ar a b a=0:=by unfold ar areaZ;grind
theorem flip_in {a b c d v:Pt} (h1:0 < ar a d b) (h2:0 < ar a d c) (h3:0 < ar a b c) (h4:0 < ar d b c) (hv:InT a d c v):InT a b c v∨InT b a d v:=by
 obtain ⟨v1,v2,v3⟩:=hv
 rcases Int.lt_or_le (ar a b v) 0 with h|h
 ·refine .inr ⟨by rw [ar_flip];omega,v1,?_⟩
  have e:=bary_ar a d c v d b
  rw [ar_aba,show ar d b a=ar a d b from ar_cyc a d b] at e
  have k1:=Int.mul_nonneg v2 (Int.le_of_lt h1)
  have k2:=Int.mul_nonneg v1 (Int.le_of_lt h4)
  rcases Int.lt_or_le (ar d b v) 0 with h'|h'
  ·have:=Int.mul_neg_of_pos_of_neg h2 h';omega
  ·exact h'
 ·refine .inl ⟨h,?_,v3⟩
  have e:=bary_ar a d c v b c
  rw [ar_aab,show ar b c a=ar a b c from ar_cyc a b c,show ar b c d=ar d b c from ar_cyc d b c] at e
  have k1:=Int.mul_nonneg v2 (Int.le_of_lt h3)
  have k2:=Int.mul_nonneg v3 (Int.le_of_lt h4)
  rcases Int.lt_or_le (ar b c v) 0 with h'|h'
  ·have:=Int.mul_neg_of_pos_of_neg h2 h';omega
  ·exact h'
def Cross (a b x y:Pt):Prop:=ar a b x * ar a b y < 0∧ar x y a * ar x y b < 0
theorem cross_c (a d c x y:Pt):ar d c x * ar c a y - ar d c y * ar c a x=ar x y c * ar a d c:=by unfold ar areaZ;grind
theorem cross_d (a d c x y:Pt):ar d c x * ar a d y - ar d c y * ar a d x = -(ar x y d * ar a d c):=by unfold ar areaZ;grind
theorem line_sum (d c x y:Pt):ar d c x - ar d c y=ar x y c - ar x y d:=by unfold ar areaZ;grind
theorem flip_cross {a d c x y:Pt} (ht:0 < ar a d c) (hx:0 < ar d c x) (hy:ar d c y < 0) (hc:0 < ar x y c) (hd:ar x y d < 0) (hin:¬ InT a d c x):Cross c a x y∨Cross a d x y∨ar x y a=0:=by
 have ec:=cross_c a d c x y
 have ed:=cross_d a d c x y
 have e:=bary_ar a d c x x y
 have exx:ar x y x=0:=ar_aba x y
 rw [exx,Int.mul_zero] at e
 rcases Int.lt_trichotomy (ar x y a) 0 with h|h|h
 ·
  refine .inl ?_
  have k1:=Int.mul_pos_of_neg_of_neg (show -(ar d c x) < 0 by omega) h
  have hca:ar c a x < 0:=by
   rcases Int.lt_or_le (ar c a x) 0 with h'|h'
   ·exact h'
   ·refine absurd ⟨?_,Int.le_of_lt hx,h'⟩ hin
    have k2:=Int.mul_nonneg h' (show 0 ≤ -(ar x y d) by omega)
    have k3:ar c a x * -(ar x y d) = -(ar c a x * ar x y d):=by grind
    have k4 : -(ar d c x) * ar x y a = -(ar d c x * ar x y a):=by grind
    rcases Int.lt_or_le (ar a d x) 0 with h''|h''
    ·have:=Int.mul_neg_of_neg_of_pos h'' hc;omega
    ·exact h''
  have k5:=Int.mul_pos hc ht
  have k6:=Int.mul_pos_of_neg_of_neg hy hca
  have hcy:0 < ar c a y:=by
   rcases Int.lt_or_le 0 (ar c a y) with h'|h'
   ·exact h'
   ·have:=Int.mul_nonpos_of_nonneg_of_nonpos (Int.le_of_lt hx) h';omega
  exact ⟨Int.mul_neg_of_neg_of_pos hca hcy,Int.mul_neg_of_pos_of_neg hc h⟩
 ·exact .inr (.inr h)
 ·refine .inr (.inl ?_)
  have k1:=Int.mul_pos hx h
  have had:ar a d x < 0:=by
   rcases Int.lt_or_le (ar a d x) 0 with h'|h'
   ·exact h'
   ·refine absurd ⟨h',Int.le_of_lt hx,?_⟩ hin
    have k2:=Int.mul_nonneg h' (Int.le_of_lt hc)
    rcases Int.lt_or_le (ar c a x) 0 with h''|h''
    ·have:=Int.mul_pos_of_neg_of_neg h'' hd;omega
    ·exact h''
  have k5:=Int.mul_neg_of_neg_of_pos hd ht
  have k6:=Int.mul_pos_of_neg_of_neg hy had
  have hdy:0 < ar a d y:=by
   rcases Int.lt_or_le 0 (ar a d y) with h'|h'
   ·exact h'
   ·have:=Int.mul_nonpos_of_nonneg_of_nonpos (Int.le_of_lt hx) h';omega
  exact ⟨Int.mul_neg_of_neg_of_pos had hdy,Int.mul_neg_of_pos_of_neg h hd⟩
theorem countP_mono {α:Type} {p q:α→Bool}:∀ {l:List α},(∀ x∈l,p x=true→q x=true)→l.countP p≤l.countP q
 | [],_=>Nat.le_refl _
 | x :: l,h=>by
  have ih:=countP_mono (p:=p) (q:=q) (l:=l) (fun y hy=>h y (List.mem_cons_of_mem _ hy))
  have hx:=h x (List.mem_cons_self ..)
  rw [List.countP_cons,List.countP_cons]
  cases hp:p x with
  | false=>simp;omega
  | true=>rw [hx hp];simp;omega
theorem countP_less {α:Type} {p q:α→Bool} {y:α}:∀ {l:List α},(∀ x∈l,p x=true→q x=true)→y∈l→q y=true→p y=false→l.countP p < l.countP q
 | [],_,h,_,_=>by cases h
 | x :: l,h,hy,hq,hp=>by
  rw [List.countP_cons,List.countP_cons]
  rcases List.mem_cons.1 hy with e|hy'
  ·subst e
   have ih:=countP_mono (p:=p) (q:=q) (l:=l) (fun y hy=>h y (List.mem_cons_of_mem _ hy))
   rw [hq,hp];simp;omega
  ·have ih:=countP_less (p:=p) (q:=q) (l:=l) (fun y hy=>h y (List.mem_cons_of_mem _ hy)) hy' hq hp
   have hx:=h x (List.mem_cons_self ..)
   cases hp:p x with
   | false=>simp;omega
   | true=>rw [hx hp];simp;omega
theorem no_descent {α:Type} {l:List α} {R:α→α→Prop} {G:α→Prop} (irr:∀ x,¬ R x x) (tr:∀ x y z,G x→G y→G z→R x y→R y z→R x z) (step:∀ e∈l,G e→∃ e'∈l,G e'∧R e' e):∀ e∈l,¬ G e:=by
 classical
 suffices h:∀ (n:Nat) (e:α),e∈l→G e→l.countP (fun x=>decide (G x∧R x e))≤n→False from fun e he hg=>h _ e he hg (Nat.le_refl _)
 intro n
 induction n with
 | zero =>
  intro e he hg hn
  obtain ⟨e',he',hg',hr⟩:=step e he hg
  have:=(List.countP_pos_iff (p:=fun x=>decide (G x∧R x e))).2 ⟨e',he',decide_eq_true ⟨hg',hr⟩⟩
  omega
 | succ n ih =>
  intro e he hg hn
  obtain ⟨e',he',hg',hr⟩:=step e he hg
  refine ih e' he' hg' (Nat.le_of_lt_succ (Nat.lt_of_lt_of_le ?_ hn))
  refine countP_less (y:=e') (fun x _ hx=>?_) he' (decide_eq_true ⟨hg',hr⟩) (decide_eq_false fun h=>irr _ h.2)
  have hx':=of_decide_eq_true hx
  exact decide_eq_true ⟨hx'.1,tr x e' e hx'.1 hg' hg hx'.2 hr⟩
/-! The mesh, by its corners. -/
def Tr3 (T:List (Int × Int × Int)) (a b c:Int):Prop:=(a,b,c)∈T∨(b,c,a)∈T∨(c,a,b)∈T
theorem Tr3.rot {T:List (Int × Int × Int)} {a b c:Int} (h:Tr3 T a b c):Tr3 T b c a:=by
 rcases h with h|h|h
 ·exact .inr (.inr h)
 ·exact .inl h
 ·exact .inr (.inl h)
structure Geo (pt:Int→Pt) (V:Int→Prop) (T:List (Int × Int × Int)) (C:Int→Int→Prop):Prop where
 num:∀ {a b c},Tr3 T a b c→V a∧V b∧V c
 pos:∀ {a b c},Tr3 T a b c→0 < ar (pt a) (pt b) (pt c)
 emp:∀ {a b c},Tr3 T a b c→∀ v,V v→v≠a→v≠b→v≠c→¬ InT (pt a) (pt b) (pt c) (pt v)
 adj:∀ {a b c},Tr3 T a b c→C a b∨∃ d,Tr3 T b a d
 loc:∀ {a b c d},Tr3 T a b c→Tr3 T b a d→C a b∨inc (pt a) (pt b) (pt c) (pt d)≤0
structure Ent (pt:Int→Pt) (T:List (Int × Int × Int)) (K:Int) (A B q:Int) (e:Int × Int × Int):Prop where
 tri:Tr3 T e.1 e.2.1 e.2.2
 qp:0 < ar (pt e.1) (pt e.2.1) (pt q)
 u:0 < (frm (ray K (pt A) (pt B) (pt q)) (pt q)).at (pt e.1)
 w:(frm (ray K (pt A) (pt B) (pt q)) (pt q)).at (pt e.2.1) < 0
 ic:0 < inc (pt e.1) (pt e.2.1) (pt e.2.2) (pt q)
 st:2 * K * ar (pt e.1) (pt e.2.1) (pt q)≤rr (frm (ray K (pt A) (pt B) (pt q)) (pt q)) (pt e.1) (pt e.2.1)
def Nea (pt:Int→Pt) (K:Int) (A B q:Int) (e' e:Int × Int × Int):Prop :=
 ar (pt e'.1) (pt e'.2.1) (pt q) * rr (frm (ray K (pt A) (pt B) (pt q)) (pt q)) (pt e.1) (pt e.2.1) < ar (pt e.1) (pt e.2.1) (pt q) * rr (frm (ray K (pt A) (pt B) (pt q)) (pt q)) (pt e'.1) (pt e'.2.1)
theorem frac_lt {a b c x y z:Int} (hx:0 < x) (hy:0 < y) (hz:0 < z) (h1:a * y < b * x) (h2:b * z < c * y):a * z < c * x:=by
 have k1:=Int.mul_lt_mul_of_pos_right h1 hz
 have k2:=Int.mul_lt_mul_of_pos_right h2 hx
 have e1:a * y * z=a * z * y:=by grind
 have e2:b * x * z=b * z * x:=by grind
 have e3:c * y * x=c * x * y:=by grind
 have k:a * z * y < c * x * y:=by omega
 exact Int.lt_of_mul_lt_mul_right k (Int.le_of_lt hy)
theorem Ent.rr_pos {pt:Int→Pt} {T:List (Int × Int × Int)} {K A B q:Int} {e:Int × Int × Int} (h:Ent pt T K A B q e):0 < rr (frm (ray K (pt A) (pt B) (pt q)) (pt q)) (pt e.1) (pt e.2.1):=by
 have:=h.u;have:=h.w;unfold rr;omega
theorem inc_qq (a b q:Pt):inc a b q q=0:=by unfold inc;grind
theorem st_next {K x r x' r':Int} (hK:0 < K) (hr:0 < r) (hr':0 < r') (h:2 * K * x≤r) (hn:x' * r < x * r'):2 * K * x' < r':=by
 have k1:=Int.mul_lt_mul_of_pos_left hn (show 0 < 2 * K by omega)
 have k2:=Int.mul_le_mul_of_nonneg_right h (Int.le_of_lt hr')
 have e1:2 * K * (x' * r)=2 * K * x' * r:=by grind
 have e2:2 * K * (x * r')=2 * K * x * r':=by grind
 have e3:r * r'=r' * r:=by grind
 exact Int.lt_of_mul_lt_mul_right (show 2 * K * x' * r < r' * r by omega) (Int.le_of_lt hr)
theorem Ent.step {pt:Int→Pt} {V:Int→Prop} {T:List (Int × Int × Int)} {C:Int→Int→Prop} {K A B q:Int} (g:Geo pt V T C) (hK:0 < K) (hq:V q)
  (ne:∀ v,V v→v≠q→(frm (ray K (pt A) (pt B) (pt q)) (pt q)).at (pt v)≠0)
  (vis:∀ u w,C w u→V u→V w→0 < (frm (ray K (pt A) (pt B) (pt q)) (pt q)).at (pt u)→(frm (ray K (pt A) (pt B) (pt q)) (pt q)).at (pt w) < 0→0 < ar (pt u) (pt w) (pt q)→2 * K * ar (pt u) (pt w) (pt q) < rr (frm (ray K (pt A) (pt B) (pt q)) (pt q)) (pt u) (pt w)→False)
  {e:Int × Int × Int} (h:Ent pt T K A B q e):∃ e',Ent pt T K A B q e'∧Nea pt K A B q e' e:=by
 obtain ⟨u,w,c⟩:=e
 obtain ⟨ht,hqp,hu,hw,hic,hst⟩:=h
 dsimp only at ht hqp hu hw hic hst
 have h0:(frm (ray K (pt A) (pt B) (pt q)) (pt q)).at (pt q)=0:=frm_q _ _
 obtain ⟨nu,nw,nc⟩:=g.num ht
 have cq:c≠q:=fun e=>by rw [e,inc_qq] at hic;omega
 have uq:q≠u:=fun e=>by rw [e,ar_aba] at hqp;omega
 have wq:q≠w:=fun e=>by rw [e,ar_aab] at hqp;omega
 have hin:=g.emp ht q hq uq wq (Ne.symm cq)
 have hp:=g.pos ht
 have hrr:0 < rr (frm (ray K (pt A) (pt B) (pt q)) (pt q)) (pt u) (pt w):=by unfold rr;omega
 rcases Int.lt_trichotomy ((frm (ray K (pt A) (pt B) (pt q)) (pt q)).at (pt c)) 0 with hc|hc|hc
 ·have out:=out_u hqp h0 hu hw hc hin
  have ht':=ht.rot.rot
  have hqp':0 < ar (pt u) (pt c) (pt q):=by rw [ar_flip];omega
  have hrr':0 < rr (frm (ray K (pt A) (pt B) (pt q)) (pt q)) (pt u) (pt c):=by unfold rr;omega
  have tau:=tau_u (ray K (pt A) (pt B) (pt q)) (pt q) (pt u) (pt w) (pt c)
  have k:=Int.mul_pos hu hp
  have hn:ar (pt u) (pt c) (pt q) * rr (frm (ray K (pt A) (pt B) (pt q)) (pt q)) (pt u) (pt w) < ar (pt u) (pt w) (pt q) * rr (frm (ray K (pt A) (pt B) (pt q)) (pt q)) (pt u) (pt c):=by omega
  have hst':=st_next hK hrr hrr' hst hn
  rcases g.adj ht' with hC|⟨d,hd⟩
  ·exact (vis u c hC nu nc hu hc hqp' hst').elim
  rcases g.loc ht' hd with hC|hl
  ·exact (vis u c hC nu nc hu hc hqp' hst').elim
  exact ⟨(u,c,d),⟨hd,hqp',hu,hc,inc_step (g.pos ht') (g.pos hd) hqp' hl (by rw [inc_cyc,inc_cyc];exact hic),Int.le_of_lt hst'⟩,hn⟩
 ·exact absurd hc (ne c nc cq)
 ·have out:=out_w hqp h0 hu hw hc hin
  have ht':=ht.rot
  have hqp':0 < ar (pt c) (pt w) (pt q):=by rw [ar_flip];omega
  have hrr':0 < rr (frm (ray K (pt A) (pt B) (pt q)) (pt q)) (pt c) (pt w):=by unfold rr;omega
  have tau:=tau_w (ray K (pt A) (pt B) (pt q)) (pt q) (pt u) (pt w) (pt c)
  have k:=Int.mul_pos (show 0 < -(frm (ray K (pt A) (pt B) (pt q)) (pt q)).at (pt w) by omega) hp
  have hn:ar (pt c) (pt w) (pt q) * rr (frm (ray K (pt A) (pt B) (pt q)) (pt q)) (pt u) (pt w) < ar (pt u) (pt w) (pt q) * rr (frm (ray K (pt A) (pt B) (pt q)) (pt q)) (pt c) (pt w):=by omega
  have hst':=st_next hK hrr hrr' hst hn
  rcases g.adj ht' with hC|⟨d,hd⟩
  ·exact (vis c w hC nc nw hc hw hqp' hst').elim
  rcases g.loc ht' hd with hC|hl
  ·exact (vis c w hC nc nw hc hw hqp' hst').elim
  exact ⟨(c,w,d),⟨hd,hqp',hc,hw,inc_step (g.pos ht') (g.pos hd) hqp' hl (by rw [inc_cyc];exact hic),Int.le_of_lt hst'⟩,hn⟩
def rots3 (T:List (Int × Int × Int)):List (Int × Int × Int):=T.flatMap fun t=>[t,(t.2.1,t.2.2,t.1),(t.2.2,t.1,t.2.1)]
theorem mem_rots3 {T:List (Int × Int × Int)} {a b c:Int} (h:Tr3 T a b c):(a,b,c)∈rots3 T:=by
 unfold rots3
 rw [List.mem_flatMap]
 rcases h with h|h|h
 ·exact ⟨_,h,by simp⟩
 ·exact ⟨_,h,by simp⟩
 ·exact ⟨_,h,by simp⟩
theorem no_sight {pt:Int→Pt} {V:Int→Prop} {T:List (Int × Int × Int)} {C:Int→Int→Prop} {A B c q M:Int} (g:Geo pt V T C) (hq:V q)
  (hM:∀ v,V v → -M≤tie (pt A) (pt B) (pt q) (pt v)∧tie (pt A) (pt B) (pt q) (pt v)≤M)
  (ht:Tr3 T A B c) (hqp:0 < ar (pt A) (pt B) (pt q)) (hqd:fd (pt A) (pt B) (pt q)≤0) (hc:0 < fd (pt A) (pt B) (pt c))
  (hne:∀ v,V v→v≠q→pt v≠pt q)
  (vis:∀ u w,C w u→V u→V w→¬ (u=A∧w=B)→¬ (u=B∧w=A)→u≠q→w≠q→0≤mq (pt A) (pt B) (pt q) (pt u)→mq (pt A) (pt B) (pt q) (pt w)≤0→0 < ar (pt u) (pt w) (pt q)→0≤mid2 (pt A) (pt B) (pt w) (pt u)→False):False:=by
 have m0:0≤M:=by have:=hM q hq;omega
 have hK:0 < 2 * M+2:=by omega
 obtain ⟨nA,nB,nc⟩:=g.num ht
 have e0:=tau_0 (2 * M+2) (pt A) (pt B) (pt q)
 have ea:=ray_a (2 * M+2) (pt A) (pt B) (pt q)
 have eb:=ray_b (2 * M+2) (pt A) (pt B) (pt q)
 have ka:=Int.mul_pos (show 0 < 2 * M+2+1 by omega) hqp
 have kb:=Int.mul_pos (show 0 < 2 * M+2 - 1 by omega) hqp
 have la:0 < (frm (ray (2 * M+2) (pt A) (pt B) (pt q)) (pt q)).at (pt A):=by omega
 have lb:(frm (ray (2 * M+2) (pt A) (pt B) (pt q)) (pt q)).at (pt B) < 0:=by omega
 have start:Ent pt T (2 * M+2) A B q (A,B,c):=⟨ht,hqp,la,lb,inc_disc (g.pos ht) hqp hc hqd,Int.le_of_eq e0.symm⟩
 refine no_descent (l:=rots3 T) (R:=Nea pt (2 * M+2) A B q) (G:=Ent pt T (2 * M+2) A B q) (fun x h=>Int.lt_irrefl _ h) (fun x y z hx hy hz h1 h2=>?_) (fun e _ he=>?_) (A,B,c) (mem_rots3 ht) start
 ·exact frac_lt hx.rr_pos hy.rr_pos hz.rr_pos h1 h2
 ·obtain ⟨e',he',hn⟩:=he.step g hK hq (fun v hv hvq=>ray_ne (by omega) (by have:=hM v hv;omega) (by have:=hM v hv;omega) (hne v hv hvq)) (fun u w hC hu hw lu lw hqp' hst=>by
   have t1:=hM u hu
   have t2:=hM w hw
   refine vis u w hC hu hw (fun h=>?_) (fun h=>?_) (fun h=>?_) (fun h=>?_) (ray_pos (by omega) lu hK) (ray_neg (by omega) lw hK) hqp' (mid_left hK (by omega) hst)
   ·rw [h.1,h.2] at hst;omega
   ·rw [h.1] at lu;omega
   ·rw [h,ar_aba] at hqp';omega
   ·rw [h,ar_aab] at hqp';omega)
  exact ⟨e',mem_rots3 he'.tri,he',hn⟩
/-! What lies in the circle across a way crosses it. -/
def sq2 (a b:Pt):Int:=(b.1 - a.1) * (b.1 - a.1)+(b.2 - a.2) * (b.2 - a.2)
theorem sq2_nonneg (a b:Pt):0≤sq2 a b:=by
 unfold sq2
 have h (x:Int):0≤x * x:=by
  rcases Int.lt_or_le x 0 with h|h
  ·exact Int.le_of_lt (Int.mul_pos_of_neg_of_neg h h)
  ·exact Int.mul_nonneg h h
 have:=h (b.1 - a.1);have:=h (b.2 - a.2);omega
theorem inc_at (a b c d:Pt):inc a b c d = -(sq2 a d * ar a b c+sq2 a b * ar a c d+sq2 a c * -(ar a b d)):=by unfold inc fd sq2 ar areaZ;grind
theorem inc_turn {a b c d:Pt} (hc:0 < ar a b c) (hd:ar a b d < 0) (h:0 < inc a b c d):0 < ar a d c:=by
 have e:ar a d c = -ar a c d:=by unfold ar areaZ;grind
 rcases Int.lt_or_le (ar a c d) 0 with h'|h'
 ·omega
 ·have k1:=Int.mul_nonneg (sq2_nonneg a d) (Int.le_of_lt hc)
  have k2:=Int.mul_nonneg (sq2_nonneg a b) h'
  have k3:=Int.mul_nonneg (sq2_nonneg a c) (show 0 ≤ -(ar a b d) by omega)
  rw [inc_at] at h
  omega
theorem inc_swap (a b c d:Pt):inc b a d c=inc a b c d:=by rw [inc_flip,inc_last,Int.neg_neg]
theorem inc_cross {a b c d:Pt} (hc:0 < ar a b c) (hd:ar a b d < 0) (h:0 < inc a b c d):Cross a b c d∧0 < ar a d c∧0 < ar b c d:=by
 have h1:=inc_turn hc hd h
 have h2:0 < ar b c d:=inc_turn (a:=b) (b:=a) (c:=d) (d:=c) (by rw [ar_flip];omega) (by rw [ar_flip];omega) (by rw [inc_swap];exact h)
 have e1:ar c d a = -ar a d c:=by unfold ar areaZ;grind
 have e2:ar c d b=ar b c d:=ar_cyc b c d
 exact ⟨⟨Int.mul_neg_of_pos_of_neg hc hd,by rw [e1,e2];exact Int.mul_neg_of_neg_of_pos (by omega) h2⟩,h1,h2⟩
theorem flip_emp {pt:Int→Pt} {V:Int→Prop} {a b c d:Int} (h1:0 < ar (pt a) (pt d) (pt b)) (h2:0 < ar (pt a) (pt d) (pt c)) (h3:0 < ar (pt a) (pt b) (pt c)) (h4:0 < ar (pt d) (pt b) (pt c))
  (e1:∀ v,V v→v≠a→v≠b→v≠c→¬ InT (pt a) (pt b) (pt c) (pt v)) (e2:∀ v,V v→v≠b→v≠a→v≠d→¬ InT (pt b) (pt a) (pt d) (pt v)) :
  ∀ v,V v→v≠a→v≠d→v≠c→¬ InT (pt a) (pt d) (pt c) (pt v):=by
 intro v hv ha hd hc hin
 by_cases hb:v=b
 ·subst hb
  have:=hin.2.1
  have e:ar (pt d) (pt c) (pt v) = -ar (pt d) (pt v) (pt c):=by unfold ar areaZ;grind
  omega
 ·rcases flip_in h1 h2 h3 h4 hin with h|h
  ·exact e1 v hv ha hb hc h
  ·exact e2 v hv hb ha hd h
theorem flip_thru {a d c x y z:Pt} (ht:0 < ar a d c) (hx:0 < ar d c x) (hy:ar d c y < 0) (hc:0 < ar x y c) (hd:ar x y d < 0) (hin:¬ InT a d c x) (ha:ar x y a=0) (hz:0 < ar x y z):InT x y z a:=by
 have ec:=cross_c a d c x y
 have e:=bary_ar a d c x x y
 rw [show ar x y x=0 from ar_aba x y,ha,Int.mul_zero,Int.mul_zero,Int.zero_add] at e
 have hca:ar c a x < 0:=by
  rcases Int.lt_or_le (ar c a x) 0 with h'|h'
  ·exact h'
  ·refine absurd ⟨?_,Int.le_of_lt hx,h'⟩ hin
   have k2:=Int.mul_nonneg h' (show 0 ≤ -(ar x y d) by omega)
   have k3:ar c a x * -(ar x y d) = -(ar c a x * ar x y d):=by grind
   rcases Int.lt_or_le (ar a d x) 0 with h''|h''
   ·have:=Int.mul_neg_of_neg_of_pos h'' hc;omega
   ·exact h''
 have k5:=Int.mul_pos hc ht
 have k6:=Int.mul_pos_of_neg_of_neg hy hca
 have hcy:0 < ar c a y:=by
  rcases Int.lt_or_le 0 (ar c a y) with h'|h'
  ·exact h'
  ·have:=Int.mul_nonpos_of_nonneg_of_nonpos (Int.le_of_lt hx) h';omega
 have f:=bary_ar x y z a c a
 rw [ar_aab,ha,Int.zero_mul,Int.mul_zero,Int.add_zero] at f
 have s:=bary0 x y z a
 rw [ha,Int.add_zero] at s
 have key:0≤ar y z a∧0≤ar z x a:=by
  rcases Int.lt_or_le (ar y z a) 0 with h|h
  ·have p1:=Int.mul_pos_of_neg_of_neg h hca
   have p2:=Int.mul_pos (show 0 < ar z x a by omega) hcy
   omega
  ·refine ⟨h,?_⟩
   rcases Int.lt_or_le (ar z x a) 0 with h'|h'
   ·have p1:=Int.mul_neg_of_pos_of_neg (show 0 < ar y z a by omega) hca
    have p2:=Int.mul_neg_of_neg_of_pos h' hcy
    omega
   ·exact h'
 exact ⟨by omega,key.1,key.2⟩
theorem cross_signs {d c x y:Pt} (h:Cross d c x y):(0 < ar d c x∧ar d c y < 0∧0 < ar x y c∧ar x y d < 0)∨(ar d c x < 0∧0 < ar d c y∧ar x y c < 0∧0 < ar x y d):=by
 have s:=line_sum d c x y
 have neg:∀ {p r:Int},p * r < 0→(0 < p∧r < 0)∨(p < 0∧0 < r):=by
  intro p r h
  rcases Int.lt_trichotomy p 0 with hp|hp|hp
  ·rcases Int.lt_or_le 0 r with hr|hr
   ·exact .inr ⟨hp,hr⟩
   ·have:=Int.mul_nonneg_of_nonpos_of_nonpos (Int.le_of_lt hp) hr;omega
  ·rw [hp,Int.zero_mul] at h;omega
  ·rcases Int.lt_or_le r 0 with hr|hr
   ·exact .inl ⟨hp,hr⟩
   ·have:=Int.mul_nonneg (Int.le_of_lt hp) hr;omega
 rcases neg h.1 with h1|h1<;>rcases neg h.2 with h2|h2
 ·omega
 ·exact .inl ⟨h1.1,h1.2,h2.2,h2.1⟩
 ·exact .inr ⟨h1.1,h1.2,h2.2,h2.1⟩
 ·omega
def allZ' (ax ay bx b_y cx cy dx dy:Int):Int :=
 sqZ (ax - dx) (ay - dy) * tuZ (bx - dx) (b_y - dy) (cx - dx) (cy - dy)+sqZ (bx - dx) (b_y - dy) * tuZ (cx - dx) (cy - dy) (ax - dx) (ay - dy)+sqZ (cx - dx) (cy - dy) * tuZ (ax - dx) (ay - dy) (bx - dx) (b_y - dy)
theorem all_inc (a b c d:Pt):allZ' a.1 a.2 b.1 b.2 c.1 c.2 d.1 d.2=inc a b c d:=by unfold allZ' sqZ tuZ inc fd ar areaZ;grind
def isRot (p q r x y z:Int):Prop:=(x=p∧y=q∧z=r)∨(x=q∧y=r∧z=p)∨(x=r∧y=p∧z=q)
theorem InT.rot {a b c v:Pt} (h:InT b c a v):InT a b c v:=⟨h.2.2,h.1,h.2.1⟩
structure Kept (pt:Int→Pt) (V:Int→Prop) (T:List (Int × Int × Int)):Prop where
 num:∀ {a b c},Tr3 T a b c→V a∧V b∧V c
 pos:∀ {a b c},Tr3 T a b c→0 < ar (pt a) (pt b) (pt c)
 emp:∀ {a b c},Tr3 T a b c→∀ v,V v→v≠a→v≠b→v≠c→¬ InT (pt a) (pt b) (pt c) (pt v)
 non:∀ {x y z u w v},Tr3 T x y z→Tr3 T u w v→¬ Cross (pt x) (pt y) (pt u) (pt w)
theorem new_tri {pt:Int→Pt} {V:Int→Prop} {p q r:Int} (hn:V p∧V q∧V r) (hp:0 < ar (pt p) (pt q) (pt r)) (he:∀ v,V v→v≠p→v≠q→v≠r→¬ InT (pt p) (pt q) (pt r) (pt v)) {x y z:Int} (h:isRot p q r x y z) :
  (V x∧V y∧V z)∧0 < ar (pt x) (pt y) (pt z)∧∀ v,V v→v≠x→v≠y→v≠z→¬ InT (pt x) (pt y) (pt z) (pt v):=by
 rcases h with ⟨rfl,rfl,rfl⟩|⟨rfl,rfl,rfl⟩|⟨rfl,rfl,rfl⟩
 ·exact ⟨hn,hp,he⟩
 ·exact ⟨⟨hn.2.1,hn.2.2,hn.1⟩,by rw [ar_cyc];exact hp,fun v hv h1 h2 h3 hin=>he v hv h3 h1 h2 hin.rot⟩
 ·exact ⟨⟨hn.2.2,hn.1,hn.2.1⟩,by rw [← ar_cyc];exact hp,fun v hv h1 h2 h3 hin=>he v hv h2 h3 h1 hin.rot.rot⟩
theorem cross_comm {a b x y:Pt} (h:Cross a b x y):Cross x y a b:=⟨h.2,h.1⟩
theorem cross_flip {a b x y:Pt} (h:Cross a b x y):Cross b a x y:=by
 refine ⟨?_,by rw [Int.mul_comm];exact h.2⟩
 rw [ar_flip,ar_flip a b y,Int.neg_mul_neg];exact h.1
end Go.Proofs.YtkgagdjogedoiaaGreat

set_option linter.unusedVariables false
namespace Go.Proofs.YtkgagdjogedoiaaGreat
theorem flip_thru' {a d c x y z:Pt} (ht:0 < ar a d c) (hx:0 < ar d c x) (hy:ar d c y < 0) (hc:0 < ar x y c) (hd:ar x y d < 0) (hin:¬ InT a d c x) (ha:ar x y a=0) (hz:0 < ar y x z):InT y x z a:=by
 -- mirrored at the way's middle: z'
 have e:ar x y (x.1+y.1 - z.1,x.2+y.2 - z.2)=ar y x z:=by unfold ar areaZ;grind
 have h:=flip_thru (z:=(x.1+y.1 - z.1,x.2+y.2 - z.2)) ht hx hy hc hd hin ha (by omega)
 obtain ⟨_,h2,h3⟩:=h
 have e2:ar x z a=ar (x.1+y.1 - z.1,x.2+y.2 - z.2) x a+ar x y a:=by unfold ar areaZ;grind
 have e3:ar z y a=ar y (x.1+y.1 - z.1,x.2+y.2 - z.2) a+ar x y a:=by unfold ar areaZ;grind
 exact ⟨by rw [ar_flip];omega,by omega,by omega⟩
def Sd (T:List (Int × Int × Int)) (x y:Int):Prop:=∃ z,Tr3 T x y z
theorem cross_flip2 {a b x y:Pt} (h:Cross a b x y):Cross a b y x:=cross_comm (cross_flip (cross_comm h))
theorem Kept.nonS {pt:Int→Pt} {V:Int→Prop} {T:List (Int × Int × Int)} (k:Kept pt V T) {x y u w:Int} (h1:Sd T x y) (h2:Sd T u w):¬ Cross (pt x) (pt y) (pt u) (pt w):=by
 obtain ⟨z,h1⟩:=h1
 obtain ⟨v,h2⟩:=h2
 exact k.non h1 h2
theorem Kept.no_new {pt:Int→Pt} {V:Int→Prop} {T:List (Int × Int × Int)} {a b c d x y:Int} (k:Kept pt V T) (h1:Tr3 T a b c) (h2:Tr3 T b a d)
  (q1:0 < ar (pt a) (pt d) (pt c)) (hx:Sd T x y∨Sd T y x)
  (e1:∀ v,V v→v≠a→v≠d→v≠c→¬ InT (pt a) (pt d) (pt c) (pt v))
  (s:0 < ar (pt d) (pt c) (pt x)∧ar (pt d) (pt c) (pt y) < 0∧0 < ar (pt x) (pt y) (pt c)∧ar (pt x) (pt y) (pt d) < 0) (xa:x≠a):False:=by
 obtain ⟨s1,s2,s3,s4⟩:=s
 have nx:V x:=by
  rcases hx with ⟨z,h⟩|⟨z,h⟩
  ·exact (k.num h).1
  ·exact (k.num h).2.1
 have xd:x≠d:=fun e=>by rw [e,ar_aba] at s1;omega
 have xc:x≠c:=fun e=>by rw [e,ar_aab] at s1;omega
 have no:∀ u w,Sd T u w→¬ Cross (pt u) (pt w) (pt x) (pt y):=fun u w hu h=>by
  rcases hx with h'|h'
  ·exact k.nonS hu h' h
  ·exact k.nonS hu h' (cross_flip2 h)
 refine flip_cross q1 s1 s2 s3 s4 (e1 x nx xa xd xc) |>.elim (fun h=>no c a ⟨_,h1.rot.rot⟩ h) (fun h=>h.elim (fun h=>no a d ⟨_,h2.rot⟩ h) (fun h=>?_))
 have ya:a≠y:=fun e=>by rw [← e] at s2;have:=ar_cyc (pt a) (pt d) (pt c);omega
 rcases hx with ⟨z,hx⟩|⟨z,hx⟩
 ·have za:a≠z:=fun e=>by have:=k.pos hx;rw [← e,h] at this;omega
  exact k.emp hx a (k.num h1).1 (Ne.symm xa) ya za (flip_thru q1 s1 s2 s3 s4 (e1 x nx xa xd xc) h (k.pos hx))
 ·have za:a≠z:=fun e=>by have:=k.pos hx;rw [← e,ar_flip,h] at this;omega
  exact k.emp hx a (k.num h1).1 ya (Ne.symm xa) za (flip_thru' q1 s1 s2 s3 s4 (e1 x nx xa xd xc) h (k.pos hx))
theorem Kept.no_cross {pt:Int→Pt} {V:Int→Prop} {T:List (Int × Int × Int)} {a b c d x y:Int} (k:Kept pt V T) (h1:Tr3 T a b c) (h2:Tr3 T b a d)
  (q1:0 < ar (pt a) (pt d) (pt c)) (q2:0 < ar (pt b) (pt c) (pt d)) (hx:Sd T x y∨Sd T y x)
  (e1:∀ v,V v→v≠a→v≠d→v≠c→¬ InT (pt a) (pt d) (pt c) (pt v)) (e2:∀ v,V v→v≠b→v≠c→v≠d→¬ InT (pt b) (pt c) (pt d) (pt v))
  (nab:¬ (x=a∧y=b)) (nba:¬ (x=b∧y=a)):¬ Cross (pt d) (pt c) (pt x) (pt y):=by
 have key:∀ {x y:Int},(Sd T x y∨Sd T y x)→¬ (x=a∧y=b)→¬ (0 < ar (pt d) (pt c) (pt x)∧ar (pt d) (pt c) (pt y) < 0∧0 < ar (pt x) (pt y) (pt c)∧ar (pt x) (pt y) (pt d) < 0):=by
  intro x y hx n s
  by_cases xa:x=a
  ·refine k.no_new (x:=y) (y:=x) h2 h1 q2 hx.symm e2 ⟨?_,?_,?_,?_⟩ (fun e=>n ⟨xa,e⟩)
   ·rw [ar_flip];omega
   ·rw [ar_flip];omega
   ·rw [ar_flip];omega
   ·rw [ar_flip];omega
  ·exact k.no_new h1 h2 q1 hx e1 s xa
 intro h
 rcases cross_signs h with h|⟨s1,s2,s3,s4⟩
 ·exact key hx nab h
 ·refine key hx.symm (fun e=>nba ⟨e.2,e.1⟩) ⟨s2,s1,?_,?_⟩
  ·rw [ar_flip];omega
  ·rw [ar_flip];omega
theorem Kept.flip {pt:Int→Pt} {V:Int→Prop} {T T':List (Int × Int × Int)} {a b c d:Int} (k:Kept pt V T) (h1:Tr3 T a b c) (h2:Tr3 T b a d)
  (q1:0 < ar (pt a) (pt d) (pt c)) (q2:0 < ar (pt b) (pt c) (pt d))
  (hT:∀ x y z,Tr3 T' x y z→(Tr3 T x y z∧¬ (x=a∧y=b)∧¬ (x=b∧y=a))∨isRot a d c x y z∨isRot b c d x y z):Kept pt V T':=by
 have p1:=k.pos h1
 have p2:=k.pos h2
 have ab:a≠b:=fun e=>by rw [e,show ar (pt b) (pt b) (pt d)=0 by unfold ar areaZ;grind] at p2;omega
 have ac:a≠c:=fun e=>by rw [← e,ar_aba] at p1;omega
 have ad:a≠d:=fun e=>by rw [← e,ar_aab] at p2;omega
 have bc:b≠c:=fun e=>by rw [← e,ar_aab] at p1;omega
 have bd:b≠d:=fun e=>by rw [← e,ar_aba] at p2;omega
 have q3:0 < ar (pt a) (pt d) (pt b):=by have:=ar_cyc (pt b) (pt a) (pt d);omega
 have q4:0 < ar (pt d) (pt b) (pt c):=by have:=ar_cyc (pt d) (pt b) (pt c);omega
 have q5:0 < ar (pt b) (pt c) (pt a):=by have:=ar_cyc (pt a) (pt b) (pt c);omega
 have q6:0 < ar (pt c) (pt a) (pt d):=by have:=ar_cyc (pt c) (pt a) (pt d);omega
 have e1:=flip_emp q3 q1 p1 q4 (k.emp h1) (k.emp h2)
 have e2:=flip_emp q5 q2 p2 q6 (k.emp h2) (k.emp h1)
 have n1:=k.num h1
 have n2:=k.num h2
 have side:∀ x y,Sd T' x y→(Sd T x y∧¬ (x=a∧y=b)∧¬ (x=b∧y=a))∨(x=d∧y=c)∨(x=c∧y=d):=by
  rintro x y ⟨z,h⟩
  rcases hT x y z h with ⟨h,h'⟩|(⟨rfl,rfl,rfl⟩|⟨rfl,rfl,rfl⟩|⟨rfl,rfl,rfl⟩)|⟨rfl,rfl,rfl⟩|⟨rfl,rfl,rfl⟩|⟨rfl,rfl,rfl⟩
  ·exact .inl ⟨⟨z,h⟩,h'⟩
  ·exact .inl ⟨⟨_,h2.rot⟩,by omega,by omega⟩
  ·exact .inr (.inl ⟨rfl,rfl⟩)
  ·exact .inl ⟨⟨_,h1.rot.rot⟩,by omega,by omega⟩
  ·exact .inl ⟨⟨_,h1.rot⟩,by omega,by omega⟩
  ·exact .inr (.inr ⟨rfl,rfl⟩)
  ·exact .inl ⟨⟨_,h2.rot.rot⟩,by omega,by omega⟩
 have no:∀ x y,(Sd T x y∧¬ (x=a∧y=b)∧¬ (x=b∧y=a))→¬ Cross (pt d) (pt c) (pt x) (pt y):=fun x y h=>k.no_cross h1 h2 q1 q2 (.inl h.1) e1 e2 h.2.1 h.2.2
 have same:∀ p q:Pt,¬ Cross p q p q:=fun p q h=>by have:=h.1;rw [ar_aba,Int.zero_mul] at this;omega
 have nS:∀ x y u w,Sd T' x y→Sd T' u w→¬ Cross (pt x) (pt y) (pt u) (pt w):=by
  intro x y u w hx hu hc
  rcases side x y hx with hx|⟨rfl,rfl⟩|⟨rfl,rfl⟩
  ·rcases side u w hu with hu|⟨rfl,rfl⟩|⟨rfl,rfl⟩
   ·exact k.nonS hx.1 hu.1 hc
   ·exact no x y hx (cross_comm hc)
   ·exact no x y hx (cross_flip (cross_comm hc))
  ·rcases side u w hu with hu|⟨rfl,rfl⟩|⟨rfl,rfl⟩
   ·exact no u w hu hc
   ·exact same _ _ hc
   ·exact same _ _ (cross_flip2 hc)
  ·rcases side u w hu with hu|⟨rfl,rfl⟩|⟨rfl,rfl⟩
   ·exact no u w hu (cross_flip hc)
   ·exact same _ _ (cross_flip hc)
   ·exact same _ _ hc
 have tri:∀ {x y z},Tr3 T' x y z→(V x∧V y∧V z)∧0 < ar (pt x) (pt y) (pt z)∧∀ v,V v→v≠x→v≠y→v≠z→¬ InT (pt x) (pt y) (pt z) (pt v):=by
  intro x y z h
  rcases hT x y z h with ⟨h,_⟩|h|h
  ·exact ⟨k.num h,k.pos h,k.emp h⟩
  ·exact new_tri ⟨n1.1,n2.2.2,n1.2.2⟩ q1 e1 h
  ·exact new_tri ⟨n1.2.1,n1.2.2,n2.2.2⟩ q2 e2 h
 exact ⟨fun h=>(tri h).1,fun h=>(tri h).2.1,fun h=>(tri h).2.2,fun h1 h2=>nS _ _ _ _ ⟨_,h1⟩ ⟨_,h2⟩⟩
end Go.Proofs.YtkgagdjogedoiaaGreat

set_option linter.unusedVariables false
set_option linter.unusedSimpArgs false
namespace Go.Proofs.YtkgagdjogedoiaaGreat
theorem mem_sd {T:List (Int × Int × Int)} {a b:Int}:(a,b)∈edgs T↔Sd T a b:=by
 rw [mem_edgs]
 unfold Sd Tr3 edg
 simp only [List.mem_cons,List.not_mem_nil,or_false,Prod.mk.injEq]
 constructor
 ·rintro ⟨⟨x,y,z⟩,ht,⟨rfl,rfl⟩|⟨rfl,rfl⟩|⟨rfl,rfl⟩⟩
  ·exact ⟨_,.inl ht⟩
  ·exact ⟨_,.inr (.inr ht)⟩
  ·exact ⟨_,.inr (.inl ht)⟩
 ·rintro ⟨c,h|h|h⟩
  ·exact ⟨_,h,by simp⟩
  ·exact ⟨_,h,by simp⟩
  ·exact ⟨_,h,by simp⟩
/-! ### A row without two of its own -/
def rmvTo {α:Type} (l:List α) (i k j:Nat):List α:=(List.range j).filterMap fun x=>if x=i∨x=k then none else l[x]?
theorem rmv_zero {α:Type} (l:List α) (i k:Nat):rmvTo l i k 0=[]:=rfl
theorem rmv_skip {α:Type} {l:List α} {i k j:Nat} (h:j=i∨j=k):rmvTo l i k (j+1)=rmvTo l i k j:=by
 unfold rmvTo
 rw [List.range_succ,List.filterMap_append]
 simp [h]
theorem rmv_succ {α:Type} {l:List α} {i k j:Nat} {x:α} (hx:l[j]?=some x) (h:¬ (j=i∨j=k)):rmvTo l i k (j+1)=rmvTo l i k j++[x]:=by
 unfold rmvTo
 rw [List.range_succ,List.filterMap_append]
 simp [h,hx]
theorem rmv_sub {α:Type} (l:List α) (i k:Nat):∀ j,j≤l.length→(rmvTo l i k j).Sublist (l.take j):=by
 intro j
 induction j with
 | zero=>intro _;exact List.Sublist.slnil
 | succ j ih =>
  intro h
  obtain ⟨x,hx⟩:∃ x,l[j]?=some x:=⟨_,List.getElem?_eq_getElem (by omega)⟩
  rw [take_succ' hx]
  by_cases hh:j=i∨j=k
  ·rw [rmv_skip hh]
   exact (ih (by omega)).trans (List.sublist_append_left _ _)
  ·rw [rmv_succ hx hh]
   exact (ih (by omega)).append (List.Sublist.refl _)
theorem rmv_perm {α:Type} {l:List α} {i k:Nat} {u v:α} (hi:l[i]?=some u) (hk:l[k]?=some v) (ne:i≠k):l.Perm (u :: v :: rmvTo l i k l.length):=by
 have key:∀ j,j≤l.length→(l.take j).Perm ((if i < j then [u] else [])++((if k < j then [v] else [])++rmvTo l i k j)):=by
  intro j
  induction j with
  | zero=>intro _;simp [rmv_zero]
  | succ j ih =>
   intro h
   obtain ⟨x,hx⟩:∃ x,l[j]?=some x:=⟨_,List.getElem?_eq_getElem (by omega)⟩
   rw [take_succ' hx]
   have ih:=(ih (by omega)).append_right [x]
   refine ih.trans ?_
   by_cases e1:j=i
   ·subst e1
    rw [hi] at hx
    cases hx
    rw [rmv_skip (.inl rfl),if_neg (Nat.lt_irrefl _),if_pos (Nat.lt_succ_self _)]
    have e:(if k < j+1 then [v] else [])=if k < j then [v] else []:=by
     by_cases c:k < j
     ·rw [if_pos c,if_pos (by omega)]
     ·rw [if_neg c,if_neg (by omega)]
    rw [e]
    exact List.perm_append_comm
   by_cases e2:j=k
   ·subst e2
    rw [hk] at hx
    cases hx
    rw [rmv_skip (.inr rfl),if_neg (Nat.lt_irrefl _),if_pos (Nat.lt_succ_self _)]
    have e:(if i < j+1 then [u] else [])=if i < j then [u] else []:=by
     by_cases c:i < j
     ·rw [if_pos c,if_pos (by omega)]
     ·rw [if_neg c,if_neg (by omega)]
    rw [e,List.append_assoc]
    exact List.Perm.append_left _ List.perm_append_comm
   ·rw [rmv_succ hx (by omega)]
    have e:(if i < j+1 then [u] else [])=if i < j then [u] else []:=by
     by_cases c:i < j
     ·rw [if_pos c,if_pos (by omega)]
     ·rw [if_neg c,if_neg (by omega)]
    have e':(if k < j+1 then [v] else [])=if k < j then [v] else []:=by
     by_cases c:k < j
     ·rw [if_pos c,if_pos (by omega)]
     ·rw [if_neg c,if_neg (by omega)]
    rw [e,e',List.append_assoc,List.append_assoc]
 have h:=key l.length (Nat.le_refl _)
 rw [List.take_length,if_pos (List.getElem?_eq_some_iff.1 hi).1,if_pos (List.getElem?_eq_some_iff.1 hk).1] at h
 exact h
/-! ### Rising rows -/
theorem ltT_trans {s t u:Int × Int × Int} (h1:ltT s t) (h2:ltT t u):ltT s u:=by unfold ltT at *;omega
theorem ltT_tri (s t:Int × Int × Int):ltT s t∨s=t∨ltT t s:=by
 obtain ⟨a,b,c⟩:=s
 obtain ⟨x,y,z⟩:=t
 simp only [ltT,Prod.mk.injEq]
 omega
def putT (l:List (Int × Int × Int)) (t:Int × Int × Int):List (Int × Int × Int):=l.takeWhile (fun s=>decide (ltT s t))++t :: l.dropWhile (fun s=>decide (ltT s t))
theorem put_perm (l:List (Int × Int × Int)) (t:Int × Int × Int):(putT l t).Perm (t :: l):=by
 unfold putT
 refine List.perm_middle.trans ?_
 rw [List.takeWhile_append_dropWhile]
def ris {α:Type} (R:α→α→Prop) (l:List α):Prop:=∀ (i:Nat) s t,l[i]?=some s→l[i+1]?=some t→R s t
theorem ris_pair {α:Type} {R:α→α→Prop} (tr:∀ a b c,R a b→R b c→R a c):∀ {l:List α},ris R l↔l.Pairwise R
 | []=>by simp [ris]
 | [x]=>by
  constructor
  ·intro _;simp
  ·intro _ i s t hs ht
   simp at ht
 | x :: y :: l=>by
  have ih:=ris_pair tr (l:=y :: l)
  constructor
  ·intro h
   have h1:ris R (y :: l):=fun i s t hs ht=>h (i+1) s t (by rw [List.getElem?_cons_succ];exact hs) (by rw [List.getElem?_cons_succ];exact ht)
   have h2:=ih.1 h1
   have h0:R x y:=h 0 x y rfl rfl
   refine List.pairwise_cons.2 ⟨fun z hz=>?_,h2⟩
   rcases List.mem_cons.1 hz with rfl|hz
   ·exact h0
   ·exact tr _ _ _ h0 ((List.pairwise_cons.1 h2).1 z hz)
  ·intro h i s t hs ht
   cases i with
   | zero=>cases hs;cases ht;exact (List.pairwise_cons.1 h).1 y (by simp)
   | succ i=>exact ih.2 (List.pairwise_cons.1 h).2 i s t (by rw [List.getElem?_cons_succ] at hs;exact hs) (by rw [List.getElem?_cons_succ] at ht;exact ht)
theorem takeW_mem {α:Type} {p:α→Bool}:∀ {l:List α} {x:α},x∈l.takeWhile p→p x=true
 | [],_,h=>by simp at h
 | y :: l,x,h=>by
  cases hp:p y with
  | false=>rw [List.takeWhile_cons_of_neg (by simp [hp])] at h;cases h
  | true =>
   rw [List.takeWhile_cons_of_pos hp] at h
   rcases List.mem_cons.1 h with rfl|h
   ·exact hp
   ·exact takeW_mem h
theorem put_pair {l:List (Int × Int × Int)} {t:Int × Int × Int} (h:l.Pairwise ltT) (ht:t ∉ l):(putT l t).Pairwise ltT:=by
 have hs:(l.takeWhile (fun s=>decide (ltT s t))++l.dropWhile (fun s=>decide (ltT s t))).Pairwise ltT:=by rw [List.takeWhile_append_dropWhile];exact h
 obtain ⟨h1,h2,h3⟩:=List.pairwise_append.1 hs
 have hd:∀ x∈l.dropWhile (fun s=>decide (ltT s t)),ltT t x:=by
  intro x hx
  have hl:x∈l:=(List.dropWhile_suffix _).subset hx
  obtain ⟨y,r,e⟩:∃ y r,l.dropWhile (fun s=>decide (ltT s t))=y :: r:=by
   cases hh:l.dropWhile (fun s=>decide (ltT s t)) with
   | nil=>rw [hh] at hx;cases hx
   | cons y r=>exact ⟨y,r,rfl⟩
  have hy:¬ ltT y t:=by
   have:=List.head?_dropWhile_not (p:=fun s=>decide (ltT s t)) (l:=l)
   rw [e] at this
   simpa using this
  have yl:y∈l:=(List.dropWhile_suffix _).subset (by rw [e];simp)
  have ty:ltT t y:=by
   rcases ltT_tri t y with h|rfl|h
   ·exact h
   ·exact absurd yl ht
   ·exact absurd h hy
  rw [e] at hx h2
  rcases List.mem_cons.1 hx with rfl|hx
  ·exact ty
  ·exact ltT_trans ty ((List.pairwise_cons.1 h2).1 x hx)
 unfold putT
 refine List.pairwise_append.2 ⟨h1,List.pairwise_cons.2 ⟨hd,h2⟩,fun x hx y hy=>?_⟩
 rcases List.mem_cons.1 hy with rfl|hy
 ·exact of_decide_eq_true (takeW_mem (p:=fun s=>decide (ltT s y)) hx)
 ·exact h3 x hx y hy
end Go.Proofs.YtkgagdjogedoiaaGreat

set_option linter.unusedVariables false
set_option linter.unusedSimpArgs false
namespace Go.Proofs.YtkgagdjogedoiaaGreat
def thd (t:Int × Int × Int) (a b:Int):Int:=if t.1≠a∧t.1≠b then t.1 else if t.2.1≠a∧t.2.1≠b then t.2.1 else t.2.2
def atT (T:List (Int × Int × Int)) (i:Int):Int × Int × Int:=(T[i.toNat]?).getD (0,0,0)
def hasP (S:List (Int × Int)) (a b:Int):Prop:=(a,b)∈S∨(b,a)∈S
def acC (T:List (Int × Int × Int)) (a b:Int):Int:=thd (atT T (leftR T a b)) a b
def acD (T:List (Int × Int × Int)) (a b:Int):Int:=thd (atT T (leftR T b a)) a b
def both (T:List (Int × Int × Int)) (a b:Int):Prop:=0≤leftR T a b∧0≤leftR T b a
def joinP (T:List (Int × Int × Int)) (a b:Int):Prop:=0≤leftR T a b∨0≤leftR T b a
def freeP (T:List (Int × Int × Int)) (S:List (Int × Int)) (a b:Int):Prop:=both T a b∧¬ hasP S a b∧¬ joinP T (acC T a b) (acD T a b)
def convP (o:Int→Int→Int→Int) (a d b c:Int):Prop:=o a d b=1∧o a d c=1∧o a b c=1∧o d b c=1
def flipT (n:Nat) (o:Int→Int→Int→Int) (T:List (Int × Int × Int)) (a b:Int):List (Int × Int × Int) :=
 putT (putT (rmvTo T (leftR T a b).toNat (leftR T b a).toNat T.length) (triR n o a (acD T a b) (acC T a b)).1) (triR n o b (acC T a b) (acD T a b)).1
theorem left_at {T:List (Int × Int × Int)} {a b:Int} (h:0≤leftR T a b):∃ (i:Nat) (t:Int × Int × Int),leftR T a b=i∧T[i]?=some t∧(a,b)∈edg t:=by
 obtain ⟨k,e1,e2,e3,e4,e5⟩:=first_pos' (p:=leftB T (a,b)) (n:=T.length) (i:=0) (by unfold leftR at h;omega)
 obtain ⟨t,ht⟩:∃ t,T[k]?=some t:=⟨_,List.getElem?_eq_getElem (by omega)⟩
 refine ⟨k,t,e1,ht,?_⟩
 rw [leftB_at ht] at e4
 exact of_decide_eq_true e4
theorem atT_of {T:List (Int × Int × Int)} {i:Nat} {t:Int × Int × Int} (h:T[i]?=some t):atT T i=t:=by unfold atT;rw [Int.toNat_natCast,h];rfl
def is3 (t:Int × Int × Int) (a b c:Int):Prop:=t=(a,b,c)∨t=(b,c,a)∨t=(c,a,b)
theorem thd_is {t:Int × Int × Int} {a b:Int} (ht:apartT t) (h:(a,b)∈edg t):is3 t a b (thd t a b):=by
 obtain ⟨x,y,z⟩:=t
 unfold apartT at ht
 unfold edg at h
 simp only [List.mem_cons,List.not_mem_nil,or_false,Prod.mk.injEq] at h ht
 unfold thd is3
 simp only [Prod.mk.injEq]
 rcases h with ⟨rfl,rfl⟩|⟨rfl,rfl⟩|⟨rfl,rfl⟩
 ·rw [if_neg (by omega),if_neg (by omega)];omega
 ·rw [if_pos (by omega)];omega
 ·rw [if_neg (by omega),if_pos (by omega)];omega
theorem thd_is' {t:Int × Int × Int} {a b:Int} (ht:apartT t) (h:(b,a)∈edg t):is3 t b a (thd t a b):=by
 have e:thd t a b=thd t b a:=by
  unfold thd
  by_cases h1:t.1=a<;>by_cases h2:t.1=b<;>by_cases h3:t.2.1=a<;>by_cases h4:t.2.1=b<;>simp [h1,h2,h3,h4]
 rw [e]
 exact thd_is ht h
theorem is3_tr {T:List (Int × Int × Int)} {t:Int × Int × Int} {a b c:Int} (h:is3 t a b c) (ht:t∈T):Tr3 T a b c:=by
 rcases h with rfl|rfl|rfl
 ·exact .inl ht
 ·exact .inr (.inl ht)
 ·exact .inr (.inr ht)
theorem is3_rot {t:Int × Int × Int} {a b c x y z:Int} (h:is3 t a b c) (h':is3 t x y z):isRot a b c x y z:=by
 unfold isRot
 rcases h with rfl|rfl|rfl<;>rcases h' with e|e|e<;>simp only [Prod.mk.injEq] at e<;>omega
theorem is3_edg {t:Int × Int × Int} {a b c:Int} (h:is3 t a b c) {e:Int × Int}:e∈edg t↔e=(a,b)∨e=(b,c)∨e=(c,a):=by
 rcases h with rfl|rfl|rfl<;>unfold edg<;>simp only [List.mem_cons,List.not_mem_nil,or_false]<;>constructor<;>rintro (h|h|h)<;>simp [h]
theorem is3_perm {t:Int × Int × Int} {a b c:Int} (h:is3 t a b c):(edg t).Perm [(a,b),(b,c),(c,a)]:=by
 rcases h with rfl|rfl|rfl<;>unfold edg
 ·exact List.Perm.refl _
 ·exact (List.perm_append_comm (l₁:=[(b,c),(c,a)]) (l₂:=[(a,b)]))
 ·exact (List.perm_append_comm (l₁:=[(c,a)]) (l₂:=[(a,b),(b,c)]))
theorem tri_is {n:Nat} {o:Int→Int→Int→Int} {a b c:Int} (ha:0≤a∧a < n) (hb:0≤b∧b < n) (hc:0≤c∧c < n) (h:o a b c=1):is3 (triR n o a b c).1 a b c:=by
 rw [tri_in ⟨ha,hb,hc⟩ (by omega),if_neg (by omega)]
 rcases rot_in a b c with e|e|e<;>rw [e]
 ·exact .inl rfl
 ·exact .inr (.inl rfl)
 ·exact .inr (.inr rfl)
theorem tri_good {n:Nat} {o:Int→Int→Int→Int} (hO:Ori o) {a b c:Int} (ha:0≤a∧a < n) (hb:0≤b∧b < n) (hc:0≤c∧c < n) (h:o a b c=1):goodT n o (triR n o a b c).1:=by
 have e:triR n o a b c=((triR n o a b c).1,true):=by rw [tri_in ⟨ha,hb,hc⟩ (by omega)]
 obtain ⟨h1,h2⟩:=triR_o hO e
 have hi:=tri_is ha hb hc h
 refine ⟨?_,?_,?_,h2,h1⟩<;>rcases hi with e|e|e<;>rw [e]<;>assumption
theorem edgs_perm {T T':List (Int × Int × Int)} (h:T.Perm T'):(edgs T).Perm (edgs T'):=h.flatMap_right _
section
variable {n:Nat} {o:Int→Int→Int→Int} {T:List (Int × Int × Int)} {S:List (Int × Int)} {a b:Int}
structure Flp (n:Nat) (o:Int→Int→Int→Int) (T T':List (Int × Int × Int)) (a b c d:Int) where
 s:Int × Int × Int
 t:Int × Int × Int
 x:Int × Int × Int
 y:Int × Int × Int
 R:List (Int × Int × Int)
 old:T.Perm (s :: t :: R)
 new:T'.Perm (x :: y :: R)
 hs:is3 s a b c
 ht:is3 t b a d
 hx:is3 x a d c
 hy:is3 y b c d
 gx:goodT n o x
 gy:goodT n o y
 ne:a≠b∧a≠c∧a≠d∧b≠c∧b≠d∧c≠d
theorem is3_in {n:Nat} {o:Int→Int→Int→Int} {t:Int × Int × Int} {a b c:Int} (h:is3 t a b c) (g:goodT n o t):(0≤a∧a < n)∧(0≤b∧b < n)∧(0≤c∧c < n):=by
 obtain ⟨g1,g2,g3,_⟩:=g
 rcases h with rfl|rfl|rfl
 ·exact ⟨g1,g2,g3⟩
 ·exact ⟨g3,g1,g2⟩
 ·exact ⟨g2,g3,g1⟩
theorem is3_o {n:Nat} {o:Int→Int→Int→Int} (hO:Ori o) {t:Int × Int × Int} {a b c:Int} (h:is3 t a b c) (g:goodT n o t):o a b c=1:=by
 have g5:=g.2.2.2.2
 have c1:=hO.cyc a b c
 have c2:=hO.cyc b c a
 rcases h with rfl|rfl|rfl<;>simp only at g5<;>omega
def acTri (T:List (Int × Int × Int)) (a b:Int):Prop:=∃ s t,s∈T∧t∈T∧atT T (leftR T a b)=s∧atT T (leftR T b a)=t∧is3 s a b (acC T a b)∧is3 t b a (acD T a b)∧T[(leftR T a b).toNat]?=some s∧T[(leftR T b a).toNat]?=some t
theorem across_tri (hO:Ori o) (M:MeshOK n o T S) (h:both T a b):acTri T a b:=by
 obtain ⟨i,s,h1,h2,h3⟩:=left_at h.1
 obtain ⟨k,t,k1,k2,k3⟩:=left_at h.2
 have hs:=List.mem_of_getElem? h2
 have ht:=List.mem_of_getElem? k2
 have as1:=(M.tri s hs).apart hO
 have at_:=(M.tri t ht).apart hO
 have e1:atT T (leftR T a b)=s:=by rw [h1];exact atT_of h2
 have e2:atT T (leftR T b a)=t:=by rw [k1];exact atT_of k2
 refine ⟨s,t,hs,ht,e1,e2,?_,?_,by rw [h1,Int.toNat_natCast];exact h2,by rw [k1,Int.toNat_natCast];exact k2⟩
 ·unfold acC;rw [e1];exact thd_is as1 h3
 ·unfold acD;rw [e2];exact thd_is' at_ k3
theorem flip_is (hO:Ori o) (M:MeshOK n o T S) (h:both T a b) (cv:convP o a (acD T a b) b (acC T a b)) (hj:¬ joinP T (acC T a b) (acD T a b)) :
  ∃ F:Flp n o T (flipT n o T a b) a b (acC T a b) (acD T a b),flipT n o T a b=putT (putT F.R F.x) F.y∧F.R.Sublist T:=by
 obtain ⟨s,t,hs,ht,e1,e2,i1,i2,g1,g2⟩:=across_tri hO M h
 obtain ⟨cv1,cv2,cv3,cv4⟩:=cv
 have in1:=is3_in i1 (M.tri s hs)
 have in2:=is3_in i2 (M.tri t ht)
 have hl:=M.once
 have ne1:=hO.apart (show o a (acD T a b) b≠0 by omega)
 have ne2:=hO.apart (show o a (acD T a b) (acC T a b)≠0 by omega)
 have ne3:=hO.apart (show o a b (acC T a b)≠0 by omega)
 have ik:(leftR T a b).toNat≠(leftR T b a).toNat:=by
  intro e
  rw [e,g2] at g1
  cases g1
  have m1:=(is3_edg i1 (e:=(a,b))).2 (.inl rfl)
  have m2:=(is3_edg i2 (e:=(b,a))).2 (.inl rfl)
  exact edg_one ((M.tri s hs).apart hO) m1 m2
 have o2:o b (acC T a b) (acD T a b)=1:=by rw [hO.cyc (acD T a b) b (acC T a b)];exact cv4
 have key:(flipT n o T a b)=putT (putT (rmvTo T (leftR T a b).toNat (leftR T b a).toNat T.length) (triR n o a (acD T a b) (acC T a b)).1) (triR n o b (acC T a b) (acD T a b)).1:=rfl
 refine ⟨⟨s,t,(triR n o a (acD T a b) (acC T a b)).1,(triR n o b (acC T a b) (acD T a b)).1,rmvTo T (leftR T a b).toNat (leftR T b a).toNat T.length,rmv_perm g1 g2 ik,?_,i1,i2,tri_is in1.1 in2.2.2 in1.2.2 cv2,tri_is in1.2.1 in1.2.2 in2.2.2 o2,tri_good hO in1.1 in2.2.2 in1.2.2 cv2,tri_good hO in1.2.1 in1.2.2 in2.2.2 o2,?_⟩,rfl,?_⟩
 ·rw [key]
  refine (put_perm _ _).trans (List.Perm.trans (List.Perm.cons _ (put_perm _ _)) (List.Perm.swap _ _ _))
 ·exact ⟨fun e=>ne1.2.2 e.symm,fun e=>ne2.2.2 e.symm,ne1.1,ne3.2.1,fun e=>ne1.2.1 e.symm,fun e=>ne2.2.1 e.symm⟩
 ·have:=rmv_sub T (leftR T a b).toNat (leftR T b a).toNat T.length (Nat.le_refl _)
  rw [List.take_length] at this
  exact this
end
end Go.Proofs.YtkgagdjogedoiaaGreat

set_option linter.unusedVariables false
set_option linter.unusedSimpArgs false
namespace Go.Proofs.YtkgagdjogedoiaaGreat
section
variable {n:Nat} {o:Int→Int→Int→Int} {T T':List (Int × Int × Int)} {S:List (Int × Int)} {a b c d:Int}
theorem Flp.edgs_old (F:Flp n o T T' a b c d):(edgs T).Perm ([(a,b),(b,c),(c,a)]++([(b,a),(a,d),(d,b)]++edgs F.R)):=by
 refine (edgs_perm F.old).trans ?_
 show (edg F.s++(edg F.t++edgs F.R)).Perm _
 exact (is3_perm F.hs).append ((is3_perm F.ht).append (List.Perm.refl _))
theorem Flp.edgs_new (F:Flp n o T T' a b c d):(edgs T').Perm ([(a,d),(d,c),(c,a)]++([(b,c),(c,d),(d,b)]++edgs F.R)):=by
 refine (edgs_perm F.new).trans ?_
 show (edg F.x++(edg F.y++edgs F.R)).Perm _
 exact (is3_perm F.hx).append ((is3_perm F.hy).append (List.Perm.refl _))
theorem Flp.mem (F:Flp n o T T' a b c d) (M:MeshOK n o T S) (hj:(c,d) ∉ edgs T∧(d,c) ∉ edgs T) (e:Int × Int):e∈edgs T'↔(e∈edgs T∧e≠(a,b)∧e≠(b,a))∨e=(c,d)∨e=(d,c):=by
 have ho:=M.once
 rw [F.edgs_old.nodup_iff] at ho
 rw [F.edgs_new.mem_iff,F.edgs_old.mem_iff]
 simp only [List.cons_append,List.nil_append,List.nodup_cons,List.mem_cons,not_or] at ho ⊢
 obtain ⟨ab,ac,ad,bc,bd,cd⟩:=F.ne
 constructor
 ·rintro (rfl|rfl|rfl|rfl|rfl|rfl|h)
  ·left;simp;omega
  ·right;simp
  ·left;simp;omega
  ·left;simp;omega
  ·right;simp
  ·left;simp;omega
  ·left
   refine ⟨.inr (.inr (.inr (.inr (.inr (.inr h))))),fun e=>?_,fun e=>?_⟩
   ·rw [e] at h;exact ho.1.2.2.2.2.2 h
   ·rw [e] at h;exact ho.2.2.2.1.2.2 h
 ·rintro (⟨rfl|rfl|rfl|rfl|rfl|rfl|h,h1,h2⟩|rfl|rfl)
  ·exact absurd rfl h1
  ·simp
  ·simp
  ·exact absurd rfl h2
  ·simp
  ·simp
  ·simp [h]
  ·simp
  ·simp
theorem Flp.once (F:Flp n o T T' a b c d) (M:MeshOK n o T S) (hj:(c,d) ∉ edgs T∧(d,c) ∉ edgs T):(edgs T').Nodup:=by
 have ho:=M.once
 rw [F.edgs_old.nodup_iff] at ho
 rw [F.edgs_old.mem_iff,F.edgs_old.mem_iff] at hj
 rw [F.edgs_new.nodup_iff]
 obtain ⟨ab,ac,ad,bc,bd,cd⟩:=F.ne
 simp only [List.cons_append,List.nil_append,List.nodup_cons,List.mem_cons,not_or,Prod.mk.injEq] at ho hj ⊢
 obtain ⟨o1,o2,o3,o4,o5,o6,o7⟩:=ho
 obtain ⟨j1,j2⟩:=hj
 have m5:=o5.2
 have m2:=j2.2.2.2.2.2.2
 have m3:=o3.2.2.2
 have m4:=o2.2.2.2.2
 have m1:=j1.2.2.2.2.2.2
 clear o1 o2 o3 o4 o5 j1 j2
 exact ⟨⟨by omega,by omega,by omega,by omega,by omega,m5⟩,⟨by omega,by omega,by omega,by omega,m2⟩,⟨by omega,by omega,by omega,m3⟩,⟨by omega,by omega,m4⟩,⟨by omega,m1⟩,o6,o7⟩
theorem Flp.ok (F:Flp n o T T' a b c d) (hO:Ori o) (M:MeshOK n o T S) (hj:(c,d) ∉ edgs T∧(d,c) ∉ edgs T) (hh:¬ hasP S a b) (e:T'=putT (putT F.R F.x) F.y) (hs:F.R.Sublist T):MeshOK n o T' S:=by
 have mem:=F.mem M hj
 refine ⟨fun t ht=>?_,?_,F.once M hj,fun e he=>?_,fun s hs=>?_,M.segs⟩
 ·rw [F.new.mem_iff] at ht
  rcases List.mem_cons.1 ht with rfl|ht
  ·exact F.gx
  rcases List.mem_cons.1 ht with rfl|ht
  ·exact F.gy
  ·exact M.tri t (F.old.mem_iff.2 (List.mem_cons_of_mem _ (List.mem_cons_of_mem _ ht)))
 ·have p0:T.Pairwise ltT:=(ris_pair (R:=ltT) (fun _ _ _=>ltT_trans)).1 M.ris
  have p1:F.R.Pairwise ltT:=p0.sublist hs
  have dcx:(d,c)∈edg F.x:=(is3_edg F.hx).2 (.inr (.inl rfl))
  have cdy:(c,d)∈edg F.y:=(is3_edg F.hy).2 (.inr (.inl rfl))
  have nx:F.x ∉ F.R:=fun h=>hj.2 (mem_edgs.2 ⟨_,hs.subset h,dcx⟩)
  have ny:F.y ∉ F.R:=fun h=>hj.1 (mem_edgs.2 ⟨_,hs.subset h,cdy⟩)
  have nxy:F.y≠F.x:=fun h=>by rw [h] at cdy;exact edg_one (F.gx.apart hO) dcx cdy
  have p2:=put_pair p1 nx
  have p3:(putT (putT F.R F.x) F.y).Pairwise ltT:=put_pair p2 (fun h=>by
   rw [(put_perm _ _).mem_iff] at h
   rcases List.mem_cons.1 h with h|h
   ·exact nxy h
   ·exact ny h)
  rw [← e] at p3
  exact (ris_pair (R:=ltT) (fun _ _ _=>ltT_trans)).2 p3
 ·rcases (mem e).1 he with ⟨h1,h2,h3⟩|rfl|rfl
  ·rcases M.rim e h1 with h|h
   ·left
    refine (mem _).2 (.inl ⟨h,fun hh=>h3 ?_,fun hh=>h2 ?_⟩)
    ·unfold rv at hh;simp only [Prod.mk.injEq] at hh;exact Prod.ext hh.2 hh.1
    ·unfold rv at hh;simp only [Prod.mk.injEq] at hh;exact Prod.ext hh.2 hh.1
   ·exact .inr h
  ·exact .inl ((mem _).2 (.inr (.inr rfl)))
  ·exact .inl ((mem _).2 (.inr (.inl rfl)))
 ·obtain ⟨h1,h2⟩:=M.seg s hs
  refine ⟨h1,?_⟩
  have n1:s≠(a,b):=fun e=>hh (.inl (e ▸ hs))
  have n2:s≠(b,a):=fun e=>hh (.inr (e ▸ hs))
  rcases h2 with h|h
  ·exact .inl ((mem _).2 (.inl ⟨h,n1,n2⟩))
  ·refine .inr ((mem _).2 (.inl ⟨h,fun hh=>n2 ?_,fun hh=>n1 ?_⟩))
   ·unfold rv at hh;simp only [Prod.mk.injEq] at hh;exact Prod.ext hh.2 hh.1
   ·unfold rv at hh;simp only [Prod.mk.injEq] at hh;exact Prod.ext hh.2 hh.1
theorem Flp.tr (F:Flp n o T T' a b c d) (M:MeshOK n o T S) (x y z:Int) (h:Tr3 T' x y z):(Tr3 T x y z∧¬ (x=a∧y=b)∧¬ (x=b∧y=a))∨isRot a d c x y z∨isRot b c d x y z:=by
 obtain ⟨u,hu,hi⟩:∃ u,u∈T'∧is3 u x y z:=by
  rcases h with h|h|h
  ·exact ⟨_,h,.inl rfl⟩
  ·exact ⟨_,h,.inr (.inl rfl)⟩
  ·exact ⟨_,h,.inr (.inr rfl)⟩
 rw [F.new.mem_iff] at hu
 rcases List.mem_cons.1 hu with rfl|hu
 ·exact .inr (.inl (is3_rot F.hx hi))
 rcases List.mem_cons.1 hu with rfl|hu
 ·exact .inr (.inr (is3_rot F.hy hi))
 ·left
  have hT:u∈T:=F.old.mem_iff.2 (List.mem_cons_of_mem _ (List.mem_cons_of_mem _ hu))
  have ho:=M.once
  rw [F.edgs_old.nodup_iff] at ho
  simp only [List.cons_append,List.nil_append,List.nodup_cons,List.mem_cons,not_or] at ho
  have hm:(x,y)∈edgs F.R:=mem_edgs.2 ⟨u,hu,(is3_edg hi).2 (.inl rfl)⟩
  refine ⟨is3_tr hi hT,fun e=>?_,fun e=>?_⟩
  ·rw [e.1,e.2] at hm;exact ho.1.2.2.2.2.2 hm
  ·rw [e.1,e.2] at hm;exact ho.2.2.2.1.2.2 hm
def phi (pt:Int→Pt) (T:List (Int × Int × Int)):Int:=(T.map fun t=>vol (pt t.1) (pt t.2.1) (pt t.2.2)).sum
theorem sum_perm {l l':List Int} (h:l.Perm l'):l.sum=l'.sum:=by
 induction h with
 | nil=>rfl
 | cons x _ ih=>simp only [List.sum_cons];omega
 | swap x y l=>simp only [List.sum_cons];omega
 | trans _ _ h1 h2=>exact h1.trans h2
theorem phi_perm {pt:Int→Pt} {T T':List (Int × Int × Int)} (h:T.Perm T'):phi pt T=phi pt T':=sum_perm (h.map _)
theorem vol_cyc (a b c:Pt):vol b c a=vol a b c:=by unfold vol hgt ar areaZ;grind
theorem vol_is {pt:Int→Pt} {t:Int × Int × Int} (h:is3 t a b c):vol (pt t.1) (pt t.2.1) (pt t.2.2)=vol (pt a) (pt b) (pt c):=by
 have c1:=vol_cyc (pt a) (pt b) (pt c)
 have c2:=vol_cyc (pt b) (pt c) (pt a)
 rcases h with rfl|rfl|rfl<;>simp only<;>omega
theorem Flp.phi (F:Flp n o T T' a b c d) (pt:Int→Pt):phi pt T'=phi pt T - inc (pt a) (pt b) (pt c) (pt d):=by
 have e:=vol_flip (pt a) (pt b) (pt c) (pt d)
 rw [phi_perm F.old,phi_perm F.new]
 unfold YtkgagdjogedoiaaGreat.phi
 simp only [List.map_cons,List.sum_cons]
 rw [vol_is F.hs,vol_is F.ht,vol_is F.hx,vol_is F.hy]
 omega
theorem hgt_nonneg (a:Pt):0≤hgt a:=by
 have:=sq2_nonneg (0,0) a
 unfold sq2 at this
 unfold hgt
 simp only [Int.sub_zero] at this
 exact this
theorem vol_nonneg {a b c:Pt} (h:0 < ar a b c):0≤vol a b c:=by
 have:=hgt_nonneg a;have:=hgt_nonneg b;have:=hgt_nonneg c
 exact Int.mul_nonneg (by omega) (by omega)
theorem phi_nonneg {pt:Int→Pt}:∀ {T:List (Int × Int × Int)},(∀ t∈T,0 < ar (pt t.1) (pt t.2.1) (pt t.2.2))→0≤YtkgagdjogedoiaaGreat.phi pt T
 | [],_=>by unfold YtkgagdjogedoiaaGreat.phi;simp
 | t :: T,h=>by
  have ih:=phi_nonneg (pt:=pt) (T:=T) (fun u hu=>h u (List.mem_cons_of_mem _ hu))
  have:=vol_nonneg (h t (List.mem_cons_self ..))
  unfold YtkgagdjogedoiaaGreat.phi at *
  simp only [List.map_cons,List.sum_cons]
  omega
end
end Go.Proofs.YtkgagdjogedoiaaGreat
