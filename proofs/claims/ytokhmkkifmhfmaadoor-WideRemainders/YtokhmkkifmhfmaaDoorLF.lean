/-
  Walks of chapter 2. The steps are written by program (walk.py).
-/
import Derived.Test.YtokhmkkifmhfmaaDoorRG
import Derived.Test.YtokhmkkifmhfmaaDoorRE
import Derived.Test.YtokhmkkifmhfmaaDoorRD
import Derived.Test.YtokhmkkifmhfmaaDoorRB
import Derived.Test.YtokhmkkifmhfmaaDoorA4
import Derived.Test.YtokhmkkifmhfmaaDoorAw
set_option linter.unusedSimpArgs false
set_option linter.unusedVariables false
set_option maxHeartbeats 1000000
set_option maxRecDepth 20000
namespace Go.Proofs.YtokhmkkifmhfmaaDoor
open Go Go.Am
abbrev lc_wrem_ok (a b c d e f g h i j k m n o p q r s t u : AV) : Env := [(0,a),(1,b),(2,c),(4,d),(5,e),(6,f),(7,g),(8,h),(9,i),(10,j),(11,k),(12,m),(13,n),(14,o),(15,p),(17,q),(26,r),(56,s),(60,t),(70,u)]
theorem wrem_ok (lim : Nat) (H : Heap) (x : Int) (hx : Fw x) (n : Int) (hn : -9223372036854775808 ≤ n ∧ n ≤ 9223372036854775807) : ACall sig lim 7 [wv x, AV.i n] H fun r _ => r = .v (.bool true) := by
 refine ACall_pure (fa := fa7) rfl rfl rfl rfl ?_
 have tr : ∀ a0 a1 : AV, env0 fa7.keep [a0, a1] = [(0,a0),(1,a1),(2,.any),(4,.any),(5,.any),(6,.any),(7,.any),(8,.any),(9,.any),(10,.any),(11,.any),(12,.any),(13,.any),(14,.any),(15,.any),(17,.any),(26,.any),(56,.any),(60,.any),(70,.any)] := fun a0 a1 => rfl
 refine W_to (tr _ _) ?_; clear tr
 refine at_seq rfl ?_
 refine rg rfl ?_
 refine R_box rfl (by simp (disch := first | omega | (simp only [List.length_map, List.length_append, List.length_set, List.length_cons, List.length_nil]; omega)) only [go_sem, ↓reduceIte, Nat.reduceEqDiff, reduceCtorEq]; rfl) rfl rfl ?_
 refine Rq ?_
 have tr : ∀ a b c d e f g h i j k m n o p q r s t u v w : AV, let l := lc_wrem_ok a b c d e f g h i j k m n o p q r s t u; trim ((4,w)::(2,v)::l) l = [(0,a),(1,b),(2,v),(4,w),(5,e),(6,f),(7,g),(8,h),(9,i),(10,j),(11,k),(12,m),(13,n),(14,o),(15,p),(17,q),(26,r),(56,s),(60,t),(70,u)] := by intros; rfl
 refine R_nil (tr ..) ?_; clear tr
 refine then_n ?_
 refine at_seq rfl ?_
 refine at_seq rfl ?_
 refine rg rfl ?_
 refine Rcall ?_
 refine ACall_eval 400 (awake02 _ _) ?_
 refine Rq ?_
 have tr : ∀ a b c d e f g h i j k m n o p q r s t u v w : AV, let l := lc_wrem_ok a b c d e f g h i j k m n o p q r s t u; trim ((17,w)::(16,v)::l) l = [(0,a),(1,b),(2,c),(4,d),(5,e),(6,f),(7,g),(8,h),(9,i),(10,j),(11,k),(12,m),(13,n),(14,o),(15,p),(17,w),(26,r),(56,s),(60,t),(70,u)] := by intros; rfl
 refine R_nil (tr ..) ?_; clear tr
 refine then_n ?_
 refine cdf ?_
 refine at_skip rfl ?_
 refine then_n ?_
 refine at_seq rfl ?_
 refine rg rfl ?_
 refine Rq ?_
 refine Rq ?_
 refine Rcall ?_
 refine ACall_eq (div_ok _ _ _ (by first | assumption | exact fS_F _ | (unfold Fw; omega)) _ (by omega)) ?_
 refine Rq ?_
 refine Rq ?_
 refine Rq ?_
 refine Rq ?_
 refine R_alloc (by simp (disch := first | omega | (simp only [List.length_map, List.length_append, List.length_set, List.length_cons, List.length_nil]; omega)) only [go_sem, ↓reduceIte, Nat.reduceEqDiff, reduceCtorEq]; rfl) rfl (by simp only [List.map_cons, List.map_nil]; rfl) ?_
 refine R_store ty24 (by simp (disch := first | omega | (simp only [List.length_map, List.length_append, List.length_set, List.length_cons, List.length_nil]; omega)) only [go_sem, ↓reduceIte, Nat.reduceEqDiff, reduceCtorEq]; rfl) (by simp (disch := first | omega | (simp only [List.length_map, List.length_append, List.length_set, List.length_cons, List.length_nil]; omega)) only [go_sem, ↓reduceIte, Nat.reduceEqDiff, reduceCtorEq]; rfl) (by simp (disch := first | omega | (simp only [List.length_map, List.length_append, List.length_set, List.length_cons, List.length_nil]; omega)) only [go_sem, ↓reduceIte, Nat.reduceEqDiff, reduceCtorEq]; rfl) (by simp) (by rfl) (by simp (disch := first | omega | (simp only [List.length_map, List.length_append, List.length_set, List.length_cons, List.length_nil]; omega)) only [go_sem, ↓reduceIte, Nat.reduceEqDiff, reduceCtorEq]; rfl) ?_
 refine Rq ?_
 refine Rq ?_
 have tr : ∀ a b c d e f g h i j k m n o p q r s t u v w x y z A B C D E : AV, let l := lc_wrem_ok a b c d e f g h i j k m n o p q r s t u; trim ((7,E)::(6,D)::(5,C)::(24,B)::(23,A)::(22,z)::(18,y)::(21,x)::(20,w)::(19,v)::l) l = [(0,a),(1,b),(2,c),(4,d),(5,C),(6,D),(7,E),(8,h),(9,i),(10,j),(11,k),(12,m),(13,n),(14,o),(15,p),(17,q),(26,r),(56,s),(60,t),(70,u)] := by intros; rfl
 refine R_nil (tr ..) ?_; clear tr
 refine then_n ?_
 refine at_seq rfl ?_
 refine at_seq rfl ?_
 refine rg rfl ?_
 refine Rq ?_
 refine Rq ?_
 have tr : ∀ a b c d e f g h i j k m n o p q r s t u v w : AV, let l := lc_wrem_ok a b c d e f g h i j k m n o p q r s t u; trim ((26,w)::(25,v)::l) l = [(0,a),(1,b),(2,c),(4,d),(5,e),(6,f),(7,g),(8,h),(9,i),(10,j),(11,k),(12,m),(13,n),(14,o),(15,p),(17,q),(26,w),(56,s),(60,t),(70,u)] := by intros; rfl
 refine R_nil (tr ..) ?_; clear tr
 refine then_n ?_
 refine cdd (fun h1 => ?_) (fun h1 => ?_)
 ·
  try simp only [decide_eq_true_eq, decide_eq_false_iff_not, decide_eq_decide, Bool.not_eq_true', Bool.not_eq_false', beq_iff_eq, beq_eq_false_iff_ne, ne_eq, Bool.and_eq_true, Bool.and_eq_false_iff, decide_not] at h1
  refine at_seq rfl ?_
  refine rg rfl ?_
  have h5 : n = 0 ∨ (n = -1 ∧ x = -170141183460469231731687303715884105728) := by
    by_cases hz : n = 0
    · exact .inl hz
    · exact .inr (dv_fit hx hz ((dvS_f (by assumption)).resolve_left hz))
  refine Rq ?_
  refine Rq ?_
  refine Rq ?_
  refine Rp_split (fun h2 => ?_) (fun h2 => ?_)
  ·
   try simp only [decide_eq_true_eq, decide_eq_false_iff_not, decide_eq_decide, Bool.not_eq_true', Bool.not_eq_false', beq_iff_eq, beq_eq_false_iff_ne, ne_eq, Bool.and_eq_true, Bool.and_eq_false_iff, decide_not] at h2
   refine Rn ?_
   refine Rn ?_
   refine Rn ?_
   refine Ru ?_
   refine Ru ?_
   refine Ru ?_
   refine Rn ?_
   refine Rq ?_
   refine Rq ?_
   have tr : ∀ a b c d e f g h i j k m n o p q r s t u v w x y z A B C D E F G : AV, let l := lc_wrem_ok a b c d e f g h i j k m n o p q r s t u; trim ((4,G)::(37,F)::(36,E)::(35,D)::(34,C)::(33,B)::(32,A)::(31,z)::(30,y)::(29,x)::(28,w)::(27,v)::l) l = [(0,a),(1,b),(2,c),(4,G),(5,e),(6,f),(7,g),(8,h),(9,i),(10,j),(11,k),(12,m),(13,n),(14,o),(15,p),(17,q),(26,r),(56,s),(60,t),(70,u)] := by intros; rfl
   refine R_nil (tr ..) ?_; clear tr
   refine then_n ?_
   refine at_ret rfl ?_
   refine then_r ?_
   refine fpure ?_
   first | rfl | (simp; done) | (exfalso; omega) | (simp; omega) | (unfold ab at *; simp; split at hr1 <;> omega)
  ·
   try simp only [decide_eq_true_eq, decide_eq_false_iff_not, decide_eq_decide, Bool.not_eq_true', Bool.not_eq_false', beq_iff_eq, beq_eq_false_iff_ne, ne_eq, Bool.and_eq_true, Bool.and_eq_false_iff, decide_not] at h2
   refine Ry ?_
   refine Rq ?_
   refine Ry ?_
   refine Rq ?_
   refine Ry ?_
   refine Rq ?_
   refine Rp_split (fun h3 => ?_) (fun h3 => ?_)
   ·
    try simp only [decide_eq_true_eq, decide_eq_false_iff_not, decide_eq_decide, Bool.not_eq_true', Bool.not_eq_false', beq_iff_eq, beq_eq_false_iff_ne, ne_eq, Bool.and_eq_true, Bool.and_eq_false_iff, decide_not] at h3
    refine Ry ?_
    refine Rq ?_
    refine Ry ?_
    refine Rq ?_
    refine Ry ?_
    refine Rq ?_
    refine Ry ?_
    refine Rq ?_
    refine Rq ?_
    refine Rq ?_
    have tr : ∀ a b c d e f g h i j k m n o p q r s t u v w x y z A B C D E F G : AV, let l := lc_wrem_ok a b c d e f g h i j k m n o p q r s t u; trim ((4,G)::(37,F)::(36,E)::(35,D)::(34,C)::(33,B)::(32,A)::(31,z)::(30,y)::(29,x)::(28,w)::(27,v)::l) l = [(0,a),(1,b),(2,c),(4,G),(5,e),(6,f),(7,g),(8,h),(9,i),(10,j),(11,k),(12,m),(13,n),(14,o),(15,p),(17,q),(26,r),(56,s),(60,t),(70,u)] := by intros; rfl
    refine R_nil (tr ..) ?_; clear tr
    refine then_n ?_
    refine at_ret rfl ?_
    refine then_r ?_
    refine fpure ?_
    first | rfl | (simp; done) | (exfalso; omega) | (simp; omega) | (unfold ab at *; simp; split at hr1 <;> omega)
   ·
    try simp only [decide_eq_true_eq, decide_eq_false_iff_not, decide_eq_decide, Bool.not_eq_true', Bool.not_eq_false', beq_iff_eq, beq_eq_false_iff_ne, ne_eq, Bool.and_eq_true, Bool.and_eq_false_iff, decide_not] at h3
    first | omega | contradiction | exact absurd rfl (by assumption) | exact absurd trivial (by assumption)
 ·
  try simp only [decide_eq_true_eq, decide_eq_false_iff_not, decide_eq_decide, Bool.not_eq_true', Bool.not_eq_false', beq_iff_eq, beq_eq_false_iff_ne, ne_eq, Bool.and_eq_true, Bool.and_eq_false_iff, decide_not] at h1
  refine at_skip rfl ?_
  refine then_n ?_
  refine at_seq rfl ?_
  refine rg rfl ?_
  obtain ⟨hn0, hF, hdv⟩ := dvS_t (x := x) (n := n) (by assumption)
  rw [hdv]
  obtain ⟨hsub, hr0, hr1⟩ := dv_rest (x := x) hn0 hn
  have hk1 := ab_le hn
  refine Rq ?_
  refine Rcall ?_
  refine ACall_eq (mul_ok _ _ _ (by omega) _ (by omega)) ?_
  refine Rq ?_
  refine Rcall ?_
  refine ACall_eq (div_ok _ _ (n * 1) (by rw [Int.mul_one]; unfold Fw; omega) n hn) ?_
  rw [show dvS (n * 1) n = ((1, 0), true) by rw [Int.mul_one]; exact dv_self hn0]
  refine Rq ?_
  refine Rq ?_
  refine Rq ?_
  refine Rq ?_
  refine R_alloc (by simp (disch := first | omega | (simp only [List.length_map, List.length_append, List.length_set, List.length_cons, List.length_nil]; omega)) only [go_sem, ↓reduceIte, Nat.reduceEqDiff, reduceCtorEq]; rfl) rfl (by simp only [List.map_cons, List.map_nil]; rfl) ?_
  refine R_store ty24 (by simp (disch := first | omega | (simp only [List.length_map, List.length_append, List.length_set, List.length_cons, List.length_nil]; omega)) only [go_sem, ↓reduceIte, Nat.reduceEqDiff, reduceCtorEq]; rfl) (by simp (disch := first | omega | (simp only [List.length_map, List.length_append, List.length_set, List.length_cons, List.length_nil]; omega)) only [go_sem, ↓reduceIte, Nat.reduceEqDiff, reduceCtorEq]; rfl) (by simp (disch := first | omega | (simp only [List.length_map, List.length_append, List.length_set, List.length_cons, List.length_nil]; omega)) only [go_sem, ↓reduceIte, Nat.reduceEqDiff, reduceCtorEq]; rfl) (by simp) (by rfl) (by simp (disch := first | omega | (simp only [List.length_map, List.length_append, List.length_set, List.length_cons, List.length_nil]; omega)) only [go_sem, ↓reduceIte, Nat.reduceEqDiff, reduceCtorEq]; rfl) ?_
  refine Rq ?_
  refine Rq ?_
  have tr : ∀ a b c d e f g h i j k m n o p q r s t u v w x y z A B C D E F : AV, let l := lc_wrem_ok a b c d e f g h i j k m n o p q r s t u; trim ((10,F)::(9,E)::(8,D)::(45,C)::(44,B)::(43,A)::(38,z)::(42,y)::(41,x)::(40,w)::(39,v)::l) l = [(0,a),(1,b),(2,c),(4,d),(5,e),(6,f),(7,g),(8,D),(9,E),(10,F),(11,k),(12,m),(13,n),(14,o),(15,p),(17,q),(26,r),(56,s),(60,t),(70,u)] := by intros; rfl
  refine R_nil (tr ..) ?_; clear tr
  refine then_n ?_
  refine at_seq rfl ?_
  refine at_seq rfl ?_
  refine rl rfl rfl ?_
  refine Lq ?_
  refine Lq ?_
  refine Lq ?_
  refine Lp_split (fun h4 => ?_) (fun h4 => ?_)
  ·
   try simp only [decide_eq_true_eq, decide_eq_false_iff_not, decide_eq_decide, Bool.not_eq_true', Bool.not_eq_false', beq_iff_eq, beq_eq_false_iff_ne, ne_eq, Bool.and_eq_true, Bool.and_eq_false_iff, decide_not] at h4
   first | omega | contradiction | exact absurd rfl (by assumption) | exact absurd trivial (by assumption)
  ·
   try simp only [decide_eq_true_eq, decide_eq_false_iff_not, decide_eq_decide, Bool.not_eq_true', Bool.not_eq_false', beq_iff_eq, beq_eq_false_iff_ne, ne_eq, Bool.and_eq_true, Bool.and_eq_false_iff, decide_not] at h4
   refine Ly ?_
   refine Lq ?_
   refine L_nil ?_
   refine Ms ?_
   refine Ry ?_
   refine Rcall ?_
   refine ACall_eq (of_ok _ _ _ (by omega)) ?_
   refine R_end ?_
   refine M_nil ?_
   refine Ry ?_
   refine Rq ?_
   refine Rq ?_
   refine Rq ?_
   refine Rp_split (fun h5 => ?_) (fun h5 => ?_)
   ·
    try simp only [decide_eq_true_eq, decide_eq_false_iff_not, decide_eq_decide, Bool.not_eq_true', Bool.not_eq_false', beq_iff_eq, beq_eq_false_iff_ne, ne_eq, Bool.and_eq_true, Bool.and_eq_false_iff, decide_not] at h5
    first | omega | contradiction | exact absurd rfl (by assumption) | exact absurd trivial (by assumption)
   ·
    try simp only [decide_eq_true_eq, decide_eq_false_iff_not, decide_eq_decide, Bool.not_eq_true', Bool.not_eq_false', beq_iff_eq, beq_eq_false_iff_ne, ne_eq, Bool.and_eq_true, Bool.and_eq_false_iff, decide_not] at h5
    refine Ry ?_
    refine Rq ?_
    refine Ry ?_
    refine Rq ?_
    refine Rq ?_
    have tr : ∀ a b c d e f g h i j k m n o p q r s t u v w x y z A B C D E F : AV, let l := lc_wrem_ok a b c d e f g h i j k m n o p q r s t u; trim ((56,F)::(55,E)::(54,D)::(53,C)::(52,B)::(51,A)::(50,z)::(49,y)::(48,x)::(47,w)::(46,v)::l) l = [(0,a),(1,b),(2,c),(4,d),(5,e),(6,f),(7,g),(8,h),(9,i),(10,j),(11,k),(12,m),(13,n),(14,o),(15,p),(17,q),(26,r),(56,F),(60,t),(70,u)] := by intros; rfl
    refine R_nil (tr ..) ?_; clear tr
    refine then_n ?_
    refine cdd (fun h6 => ?_) (fun h6 => ?_)
    ·
     try simp only [decide_eq_true_eq, decide_eq_false_iff_not, decide_eq_decide, Bool.not_eq_true', Bool.not_eq_false', beq_iff_eq, beq_eq_false_iff_ne, ne_eq, Bool.and_eq_true, Bool.and_eq_false_iff, decide_not] at h6
     refine at_seq rfl ?_
     refine rg rfl ?_
     exfalso; first | omega | contradiction | simp_all
    ·
     try simp only [decide_eq_true_eq, decide_eq_false_iff_not, decide_eq_decide, Bool.not_eq_true', Bool.not_eq_false', beq_iff_eq, beq_eq_false_iff_ne, ne_eq, Bool.and_eq_true, Bool.and_eq_false_iff, decide_not] at h6
     refine at_skip rfl ?_
     refine then_n ?_
     refine at_seq rfl ?_
     refine rg rfl ?_
     refine Rq ?_
     refine Rq ?_
     refine Rq ?_
     have tr : ∀ a b c d e f g h i j k m n o p q r s t u v w x : AV, let l := lc_wrem_ok a b c d e f g h i j k m n o p q r s t u; trim ((11,x)::(58,w)::(57,v)::l) l = [(0,a),(1,b),(2,c),(4,d),(5,e),(6,f),(7,g),(8,h),(9,i),(10,j),(11,x),(12,m),(13,n),(14,o),(15,p),(17,q),(26,r),(56,s),(60,t),(70,u)] := by intros; rfl
     refine R_nil (tr ..) ?_; clear tr
     refine then_n ?_
     refine at_seq rfl ?_
     refine at_seq rfl ?_
     refine rg rfl ?_
     refine Rq ?_
     refine Rq ?_
     have tr : ∀ a b c d e f g h i j k m n o p q r s t u v w : AV, let l := lc_wrem_ok a b c d e f g h i j k m n o p q r s t u; trim ((60,w)::(59,v)::l) l = [(0,a),(1,b),(2,c),(4,d),(5,e),(6,f),(7,g),(8,h),(9,i),(10,j),(11,k),(12,m),(13,n),(14,o),(15,p),(17,q),(26,r),(56,s),(60,w),(70,u)] := by intros; rfl
     refine R_nil (tr ..) ?_; clear tr
     refine then_n ?_
     refine cdd (fun h7 => ?_) (fun h7 => ?_)
     ·
      try simp only [decide_eq_true_eq, decide_eq_false_iff_not, decide_eq_decide, Bool.not_eq_true', Bool.not_eq_false', beq_iff_eq, beq_eq_false_iff_ne, ne_eq, Bool.and_eq_true, Bool.and_eq_false_iff, decide_not] at h7
      refine rg rfl ?_
      have hab := ab_neg (n := n) (by omega)
      refine Rq ?_
      refine Rq ?_
      refine Rq ?_
      have tr : ∀ a b c d e f g h i j k m n o p q r s t u v w x : AV, let l := lc_wrem_ok a b c d e f g h i j k m n o p q r s t u; trim ((11,x)::(62,w)::(61,v)::l) l = [(0,a),(1,b),(2,c),(4,d),(5,e),(6,f),(7,g),(8,h),(9,i),(10,j),(11,x),(12,m),(13,n),(14,o),(15,p),(17,q),(26,r),(56,s),(60,t),(70,u)] := by intros; rfl
      refine R_nil (tr ..) ?_; clear tr
      refine then_n ?_
      refine at_seq rfl ?_
      refine rg rfl ?_
      refine Rq ?_
      refine Rq ?_
      refine Rcall ?_
      refine ACall_eq (scale_ok _ _ (x / n) hF n hn) ?_
      refine Rq ?_
      refine Rq ?_
      refine Rq ?_
      refine R_alloc (by simp (disch := first | omega | (simp only [List.length_map, List.length_append, List.length_set, List.length_cons, List.length_nil]; omega)) only [go_sem, ↓reduceIte, Nat.reduceEqDiff, reduceCtorEq]; rfl) rfl (by simp only [List.map_cons, List.map_nil]; rfl) ?_
      refine R_store ty24 (by simp (disch := first | omega | (simp only [List.length_map, List.length_append, List.length_set, List.length_cons, List.length_nil]; omega)) only [go_sem, ↓reduceIte, Nat.reduceEqDiff, reduceCtorEq]; rfl) (by simp (disch := first | omega | (simp only [List.length_map, List.length_append, List.length_set, List.length_cons, List.length_nil]; omega)) only [go_sem, ↓reduceIte, Nat.reduceEqDiff, reduceCtorEq]; rfl) (by simp (disch := first | omega | (simp only [List.length_map, List.length_append, List.length_set, List.length_cons, List.length_nil]; omega)) only [go_sem, ↓reduceIte, Nat.reduceEqDiff, reduceCtorEq]; rfl) (by simp) (by rfl) (by simp (disch := first | omega | (simp only [List.length_map, List.length_append, List.length_set, List.length_cons, List.length_nil]; omega)) only [go_sem, ↓reduceIte, Nat.reduceEqDiff, reduceCtorEq]; rfl) ?_
      refine Rq ?_
      have tr : ∀ a b c d e f g h i j k m n o p q r s t u v w x y z A B C : AV, let l := lc_wrem_ok a b c d e f g h i j k m n o p q r s t u; trim ((13,C)::(12,B)::(68,A)::(67,z)::(63,y)::(66,x)::(65,w)::(64,v)::l) l = [(0,a),(1,b),(2,c),(4,d),(5,e),(6,f),(7,g),(8,h),(9,i),(10,j),(11,k),(12,B),(13,C),(14,o),(15,p),(17,q),(26,r),(56,s),(60,t),(70,u)] := by intros; rfl
      refine R_nil (tr ..) ?_; clear tr
      refine then_n ?_
      refine at_seq rfl ?_
      refine at_seq rfl ?_
      refine rg rfl ?_
      refine Rq ?_
      refine Rq ?_
      have tr : ∀ a b c d e f g h i j k m n o p q r s t u v w : AV, let l := lc_wrem_ok a b c d e f g h i j k m n o p q r s t u; trim ((70,w)::(69,v)::l) l = [(0,a),(1,b),(2,c),(4,d),(5,e),(6,f),(7,g),(8,h),(9,i),(10,j),(11,k),(12,m),(13,n),(14,o),(15,p),(17,q),(26,r),(56,s),(60,t),(70,w)] := by intros; rfl
      refine R_nil (tr ..) ?_; clear tr
      refine then_n ?_
      refine cdd (fun h8 => ?_) (fun h8 => ?_)
      ·
       try simp only [decide_eq_true_eq, decide_eq_false_iff_not, decide_eq_decide, Bool.not_eq_true', Bool.not_eq_false', beq_iff_eq, beq_eq_false_iff_ne, ne_eq, Bool.and_eq_true, Bool.and_eq_false_iff, decide_not] at h8
       refine at_seq rfl ?_
       refine rg rfl ?_
       have hne := dv_exact hx hn0 (fS_2f (n := x / n * n) (by assumption))
       refine Rq ?_
       refine Rq ?_
       refine Rq ?_
       have tr : ∀ a b c d e f g h i j k m n o p q r s t u v w x : AV, let l := lc_wrem_ok a b c d e f g h i j k m n o p q r s t u; trim ((4,x)::(72,w)::(71,v)::l) l = [(0,a),(1,b),(2,c),(4,x),(5,e),(6,f),(7,g),(8,h),(9,i),(10,j),(11,k),(12,m),(13,n),(14,o),(15,p),(17,q),(26,r),(56,s),(60,t),(70,u)] := by intros; rfl
       refine R_nil (tr ..) ?_; clear tr
       refine then_n ?_
       refine at_ret rfl ?_
       refine then_r ?_
       refine fpure ?_
       first | rfl | (simp; done) | (exfalso; omega) | (simp; omega) | (unfold ab at *; simp; split at hr1 <;> omega)
      ·
       try simp only [decide_eq_true_eq, decide_eq_false_iff_not, decide_eq_decide, Bool.not_eq_true', Bool.not_eq_false', beq_iff_eq, beq_eq_false_iff_ne, ne_eq, Bool.and_eq_true, Bool.and_eq_false_iff, decide_not] at h8
       refine at_skip rfl ?_
       refine then_n ?_
       refine at_seq rfl ?_
       refine rg rfl ?_
       have hF2 := fS_2t (n := x / n * n) (by assumption)
       rw [fS_y hF2]
       refine Rq ?_
       refine Rq ?_
       refine Rcall ?_
       refine ACall_eq (sub_ok _ _ x hx (x / n * n) hF2) ?_
       rw [hsub]
       refine Rq ?_
       refine Rq ?_
       refine Rq ?_
       refine R_alloc (by simp (disch := first | omega | (simp only [List.length_map, List.length_append, List.length_set, List.length_cons, List.length_nil]; omega)) only [go_sem, ↓reduceIte, Nat.reduceEqDiff, reduceCtorEq]; rfl) rfl (by simp only [List.map_cons, List.map_nil]; rfl) ?_
       refine R_store ty24 (by simp (disch := first | omega | (simp only [List.length_map, List.length_append, List.length_set, List.length_cons, List.length_nil]; omega)) only [go_sem, ↓reduceIte, Nat.reduceEqDiff, reduceCtorEq]; rfl) (by simp (disch := first | omega | (simp only [List.length_map, List.length_append, List.length_set, List.length_cons, List.length_nil]; omega)) only [go_sem, ↓reduceIte, Nat.reduceEqDiff, reduceCtorEq]; rfl) (by simp (disch := first | omega | (simp only [List.length_map, List.length_append, List.length_set, List.length_cons, List.length_nil]; omega)) only [go_sem, ↓reduceIte, Nat.reduceEqDiff, reduceCtorEq]; rfl) (by simp) (by rfl) (by simp (disch := first | omega | (simp only [List.length_map, List.length_append, List.length_set, List.length_cons, List.length_nil]; omega)) only [go_sem, ↓reduceIte, Nat.reduceEqDiff, reduceCtorEq]; rfl) ?_
       refine Rq ?_
       have tr : ∀ a b c d e f g h i j k m n o p q r s t u v w x y z A B C : AV, let l := lc_wrem_ok a b c d e f g h i j k m n o p q r s t u; trim ((15,C)::(14,B)::(78,A)::(77,z)::(73,y)::(76,x)::(75,w)::(74,v)::l) l = [(0,a),(1,b),(2,c),(4,d),(5,e),(6,f),(7,g),(8,h),(9,i),(10,j),(11,k),(12,m),(13,n),(14,B),(15,C),(17,q),(26,r),(56,s),(60,t),(70,u)] := by intros; rfl
       refine R_nil (tr ..) ?_; clear tr
       refine then_n ?_
       refine at_seq rfl ?_
       refine rg rfl ?_
       refine Rq ?_
       refine Rq ?_
       refine Rp_split (fun h9 => ?_) (fun h9 => ?_)
       ·
        try simp only [decide_eq_true_eq, decide_eq_false_iff_not, decide_eq_decide, Bool.not_eq_true', Bool.not_eq_false', beq_iff_eq, beq_eq_false_iff_ne, ne_eq, Bool.and_eq_true, Bool.and_eq_false_iff, decide_not] at h9
        refine Ry ?_
        refine Rq ?_
        refine Ry ?_
        refine Rq ?_
        refine Ry ?_
        refine Rq ?_
        refine Ry ?_
        refine Rq ?_
        refine Rq ?_
        refine Rq ?_
        refine Rp_split (fun h10 => ?_) (fun h10 => ?_)
        ·
         try simp only [decide_eq_true_eq, decide_eq_false_iff_not, decide_eq_decide, Bool.not_eq_true', Bool.not_eq_false', beq_iff_eq, beq_eq_false_iff_ne, ne_eq, Bool.and_eq_true, Bool.and_eq_false_iff, decide_not] at h10
         refine Ry ?_
         refine Rq ?_
         refine Ry ?_
         refine Rq ?_
         refine Ry ?_
         refine Rq ?_
         refine Rq ?_
         refine Rq ?_
         have tr : ∀ a b c d e f g h i j k m n o p q r s t u v w x y z A B C D E F G H : AV, let l := lc_wrem_ok a b c d e f g h i j k m n o p q r s t u; trim ((4,H)::(90,G)::(89,F)::(88,E)::(87,D)::(86,C)::(85,B)::(84,A)::(83,z)::(82,y)::(81,x)::(80,w)::(79,v)::l) l = [(0,a),(1,b),(2,c),(4,H),(5,e),(6,f),(7,g),(8,h),(9,i),(10,j),(11,k),(12,m),(13,n),(14,o),(15,p),(17,q),(26,r),(56,s),(60,t),(70,u)] := by intros; rfl
         refine R_nil (tr ..) ?_; clear tr
         refine then_n ?_
         refine at_ret rfl ?_
         refine fpure ?_
         first | rfl | (simp; done) | (exfalso; omega) | (simp; omega) | (unfold ab at *; simp; split at hr1 <;> omega)
        ·
         try simp only [decide_eq_true_eq, decide_eq_false_iff_not, decide_eq_decide, Bool.not_eq_true', Bool.not_eq_false', beq_iff_eq, beq_eq_false_iff_ne, ne_eq, Bool.and_eq_true, Bool.and_eq_false_iff, decide_not] at h10
         exfalso; first | omega | simp_all | (simp at *; omega)
       ·
        try simp only [decide_eq_true_eq, decide_eq_false_iff_not, decide_eq_decide, Bool.not_eq_true', Bool.not_eq_false', beq_iff_eq, beq_eq_false_iff_ne, ne_eq, Bool.and_eq_true, Bool.and_eq_false_iff, decide_not] at h9
        first | omega | contradiction | exact absurd rfl (by assumption) | exact absurd trivial (by assumption)
     ·
      try simp only [decide_eq_true_eq, decide_eq_false_iff_not, decide_eq_decide, Bool.not_eq_true', Bool.not_eq_false', beq_iff_eq, beq_eq_false_iff_ne, ne_eq, Bool.and_eq_true, Bool.and_eq_false_iff, decide_not] at h7
      refine at_skip rfl ?_
      refine then_n ?_
      refine at_seq rfl ?_
      refine rg rfl ?_
      refine Rq ?_
      refine Rq ?_
      refine Rcall ?_
      refine ACall_eq (scale_ok _ _ (x / n) hF n hn) ?_
      refine Rq ?_
      refine Rq ?_
      refine Rq ?_
      refine R_alloc (by simp (disch := first | omega | (simp only [List.length_map, List.length_append, List.length_set, List.length_cons, List.length_nil]; omega)) only [go_sem, ↓reduceIte, Nat.reduceEqDiff, reduceCtorEq]; rfl) rfl (by simp only [List.map_cons, List.map_nil]; rfl) ?_
      refine R_store ty24 (by simp (disch := first | omega | (simp only [List.length_map, List.length_append, List.length_set, List.length_cons, List.length_nil]; omega)) only [go_sem, ↓reduceIte, Nat.reduceEqDiff, reduceCtorEq]; rfl) (by simp (disch := first | omega | (simp only [List.length_map, List.length_append, List.length_set, List.length_cons, List.length_nil]; omega)) only [go_sem, ↓reduceIte, Nat.reduceEqDiff, reduceCtorEq]; rfl) (by simp (disch := first | omega | (simp only [List.length_map, List.length_append, List.length_set, List.length_cons, List.length_nil]; omega)) only [go_sem, ↓reduceIte, Nat.reduceEqDiff, reduceCtorEq]; rfl) (by simp) (by rfl) (by simp (disch := first | omega | (simp only [List.length_map, List.length_append, List.length_set, List.length_cons, List.length_nil]; omega)) only [go_sem, ↓reduceIte, Nat.reduceEqDiff, reduceCtorEq]; rfl) ?_
      refine Rq ?_
      have tr : ∀ a b c d e f g h i j k m n o p q r s t u v w x y z A B C : AV, let l := lc_wrem_ok a b c d e f g h i j k m n o p q r s t u; trim ((13,C)::(12,B)::(68,A)::(67,z)::(63,y)::(66,x)::(65,w)::(64,v)::l) l = [(0,a),(1,b),(2,c),(4,d),(5,e),(6,f),(7,g),(8,h),(9,i),(10,j),(11,k),(12,B),(13,C),(14,o),(15,p),(17,q),(26,r),(56,s),(60,t),(70,u)] := by intros; rfl
      refine R_nil (tr ..) ?_; clear tr
      refine then_n ?_
      refine at_seq rfl ?_
      refine at_seq rfl ?_
      refine rg rfl ?_
      refine Rq ?_
      refine Rq ?_
      have tr : ∀ a b c d e f g h i j k m n o p q r s t u v w : AV, let l := lc_wrem_ok a b c d e f g h i j k m n o p q r s t u; trim ((70,w)::(69,v)::l) l = [(0,a),(1,b),(2,c),(4,d),(5,e),(6,f),(7,g),(8,h),(9,i),(10,j),(11,k),(12,m),(13,n),(14,o),(15,p),(17,q),(26,r),(56,s),(60,t),(70,w)] := by intros; rfl
      refine R_nil (tr ..) ?_; clear tr
      refine then_n ?_
      refine cdd (fun h11 => ?_) (fun h11 => ?_)
      ·
       try simp only [decide_eq_true_eq, decide_eq_false_iff_not, decide_eq_decide, Bool.not_eq_true', Bool.not_eq_false', beq_iff_eq, beq_eq_false_iff_ne, ne_eq, Bool.and_eq_true, Bool.and_eq_false_iff, decide_not] at h11
       refine at_seq rfl ?_
       refine rg rfl ?_
       have hne := dv_exact hx hn0 (fS_2f (n := x / n * n) (by assumption))
       refine Rq ?_
       refine Rq ?_
       refine Rq ?_
       have tr : ∀ a b c d e f g h i j k m n o p q r s t u v w x : AV, let l := lc_wrem_ok a b c d e f g h i j k m n o p q r s t u; trim ((4,x)::(72,w)::(71,v)::l) l = [(0,a),(1,b),(2,c),(4,x),(5,e),(6,f),(7,g),(8,h),(9,i),(10,j),(11,k),(12,m),(13,n),(14,o),(15,p),(17,q),(26,r),(56,s),(60,t),(70,u)] := by intros; rfl
       refine R_nil (tr ..) ?_; clear tr
       refine then_n ?_
       refine at_ret rfl ?_
       refine then_r ?_
       refine fpure ?_
       first | rfl | (simp; done) | (exfalso; omega) | (simp; omega) | (unfold ab at *; simp; split at hr1 <;> omega)
      ·
       try simp only [decide_eq_true_eq, decide_eq_false_iff_not, decide_eq_decide, Bool.not_eq_true', Bool.not_eq_false', beq_iff_eq, beq_eq_false_iff_ne, ne_eq, Bool.and_eq_true, Bool.and_eq_false_iff, decide_not] at h11
       refine at_skip rfl ?_
       refine then_n ?_
       refine at_seq rfl ?_
       refine rg rfl ?_
       have hF2 := fS_2t (n := x / n * n) (by assumption)
       rw [fS_y hF2]
       refine Rq ?_
       refine Rq ?_
       refine Rcall ?_
       refine ACall_eq (sub_ok _ _ x hx (x / n * n) hF2) ?_
       rw [hsub]
       refine Rq ?_
       refine Rq ?_
       refine Rq ?_
       refine R_alloc (by simp (disch := first | omega | (simp only [List.length_map, List.length_append, List.length_set, List.length_cons, List.length_nil]; omega)) only [go_sem, ↓reduceIte, Nat.reduceEqDiff, reduceCtorEq]; rfl) rfl (by simp only [List.map_cons, List.map_nil]; rfl) ?_
       refine R_store ty24 (by simp (disch := first | omega | (simp only [List.length_map, List.length_append, List.length_set, List.length_cons, List.length_nil]; omega)) only [go_sem, ↓reduceIte, Nat.reduceEqDiff, reduceCtorEq]; rfl) (by simp (disch := first | omega | (simp only [List.length_map, List.length_append, List.length_set, List.length_cons, List.length_nil]; omega)) only [go_sem, ↓reduceIte, Nat.reduceEqDiff, reduceCtorEq]; rfl) (by simp (disch := first | omega | (simp only [List.length_map, List.length_append, List.length_set, List.length_cons, List.length_nil]; omega)) only [go_sem, ↓reduceIte, Nat.reduceEqDiff, reduceCtorEq]; rfl) (by simp) (by rfl) (by simp (disch := first | omega | (simp only [List.length_map, List.length_append, List.length_set, List.length_cons, List.length_nil]; omega)) only [go_sem, ↓reduceIte, Nat.reduceEqDiff, reduceCtorEq]; rfl) ?_
       refine Rq ?_
       have tr : ∀ a b c d e f g h i j k m n o p q r s t u v w x y z A B C : AV, let l := lc_wrem_ok a b c d e f g h i j k m n o p q r s t u; trim ((15,C)::(14,B)::(78,A)::(77,z)::(73,y)::(76,x)::(75,w)::(74,v)::l) l = [(0,a),(1,b),(2,c),(4,d),(5,e),(6,f),(7,g),(8,h),(9,i),(10,j),(11,k),(12,m),(13,n),(14,B),(15,C),(17,q),(26,r),(56,s),(60,t),(70,u)] := by intros; rfl
       refine R_nil (tr ..) ?_; clear tr
       refine then_n ?_
       refine at_seq rfl ?_
       refine rg rfl ?_
       refine Rq ?_
       refine Rq ?_
       refine Rp_split (fun h12 => ?_) (fun h12 => ?_)
       ·
        try simp only [decide_eq_true_eq, decide_eq_false_iff_not, decide_eq_decide, Bool.not_eq_true', Bool.not_eq_false', beq_iff_eq, beq_eq_false_iff_ne, ne_eq, Bool.and_eq_true, Bool.and_eq_false_iff, decide_not] at h12
        refine Ry ?_
        refine Rq ?_
        refine Ry ?_
        refine Rq ?_
        refine Ry ?_
        refine Rq ?_
        refine Ry ?_
        refine Rq ?_
        refine Rq ?_
        refine Rq ?_
        refine Rp_split (fun h13 => ?_) (fun h13 => ?_)
        ·
         try simp only [decide_eq_true_eq, decide_eq_false_iff_not, decide_eq_decide, Bool.not_eq_true', Bool.not_eq_false', beq_iff_eq, beq_eq_false_iff_ne, ne_eq, Bool.and_eq_true, Bool.and_eq_false_iff, decide_not] at h13
         refine Ry ?_
         refine Rq ?_
         refine Ry ?_
         refine Rq ?_
         refine Ry ?_
         refine Rq ?_
         refine Rq ?_
         refine Rq ?_
         have tr : ∀ a b c d e f g h i j k m n o p q r s t u v w x y z A B C D E F G H : AV, let l := lc_wrem_ok a b c d e f g h i j k m n o p q r s t u; trim ((4,H)::(90,G)::(89,F)::(88,E)::(87,D)::(86,C)::(85,B)::(84,A)::(83,z)::(82,y)::(81,x)::(80,w)::(79,v)::l) l = [(0,a),(1,b),(2,c),(4,H),(5,e),(6,f),(7,g),(8,h),(9,i),(10,j),(11,k),(12,m),(13,n),(14,o),(15,p),(17,q),(26,r),(56,s),(60,t),(70,u)] := by intros; rfl
         refine R_nil (tr ..) ?_; clear tr
         refine then_n ?_
         refine at_ret rfl ?_
         refine fpure ?_
         first | rfl | (simp; done) | (exfalso; omega) | (simp; omega) | (unfold ab at *; simp; split at hr1 <;> omega)
        ·
         try simp only [decide_eq_true_eq, decide_eq_false_iff_not, decide_eq_decide, Bool.not_eq_true', Bool.not_eq_false', beq_iff_eq, beq_eq_false_iff_ne, ne_eq, Bool.and_eq_true, Bool.and_eq_false_iff, decide_not] at h13
         exfalso; first | omega | simp_all | (simp at *; omega)
       ·
        try simp only [decide_eq_true_eq, decide_eq_false_iff_not, decide_eq_decide, Bool.not_eq_true', Bool.not_eq_false', beq_iff_eq, beq_eq_false_iff_ne, ne_eq, Bool.and_eq_true, Bool.and_eq_false_iff, decide_not] at h12
        first | omega | contradiction | exact absurd rfl (by assumption) | exact absurd trivial (by assumption)

end Go.Proofs.YtokhmkkifmhfmaaDoor
