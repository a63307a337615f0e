/-
  Walks of chapters 37, 39 and 40. The steps are written by program (walk.py).
-/
import Derived.Test.YtaoondlakhocnaaXA
import Derived.Test.YtaoondlakhocnaaXB
import Derived.Test.YtaoondlakhocnaaXC
import Derived.Test.YtaoondlakhocnaaUA
set_option linter.unusedSimpArgs false
set_option linter.unusedVariables false
set_option maxHeartbeats 40000000
set_option maxRecDepth 4000
namespace Go.Proofs.Ytaoondlakhocnaa
open Go Go.Am

abbrev lc_balls_nil (a b c d e f g h i j k : AV) : Env := [(0,a),(1,b),(4,c),(5,d),(7,e),(15,f),(16,g),(17,h),(18,i),(19,j),(31,k)]
theorem balls_nil (lim : Nat) (H : Heap) (balls : Int) :
    ACall sig lim 46 [AV.i balls, nilS] H fun r H' => r = AV.i (ballsS balls []) ∧ H' = H := by
 refine ACall_pure (fa := fa46) rfl rfl rfl rfl ?_
 have tr : ∀ a0 a1 : AV, env0 fa46.keep [a0, a1] = [(0,a0),(1,a1),(4,.any),(5,.any),(7,.any),(15,.any),(16,.any),(17,.any),(18,.any),(19,.any),(31,.any)] := fun a0 a1 => rfl
 refine W_to (tr _ _) ?_; clear tr
 refine at_seq rfl ?_
 refine rg rfl ?_
 refine Rq ?_
 have tr : ∀ a b c d e f g h i j k m : AV, let l := lc_balls_nil a b c d e f g h i j k; trim ((4,m)::l) l = [(0,a),(1,b),(4,m),(5,d),(7,e),(15,f),(16,g),(17,h),(18,i),(19,j),(31,k)] := by intros; rfl
 refine R_nil (tr ..) ?_; clear tr
 refine then_n ?_
 refine at_seq rfl ?_
 refine rg rfl ?_
 refine Rq ?_
 have tr : ∀ a b c d e f g h i j k m : AV, let l := lc_balls_nil a b c d e f g h i j k; trim ((5,m)::l) l = [(0,a),(1,b),(4,c),(5,m),(7,e),(15,f),(16,g),(17,h),(18,i),(19,j),(31,k)] := by intros; rfl
 refine R_nil (tr ..) ?_; clear tr
 refine then_n ?_
 refine at_seq rfl ?_
 refine at_seq rfl ?_
 refine rg rfl ?_
 refine Rq ?_
 refine Rq ?_
 refine R_callv (by simp (disch := first | omega | (simp only [List.length_map, List.length_append, List.length_set, List.length_cons, List.length_nil]; omega)) only [go_sem, ↓reduceIte, Nat.reduceEqDiff, reduceCtorEq]; rfl) (by simp only [List.map_cons, List.map_nil, List.cons_append, List.nil_append, go_sem, ↓reduceIte, Nat.reduceEqDiff]; rfl) ?_
 refine ACall_eq (outf_ok _ _ _) ?_
 refine Rq ?_
 refine Rp_split (fun h1 => ?_) (fun h1 => ?_)
 ·
  try simp only [decide_eq_true_eq, decide_eq_false_iff_not, Bool.not_eq_true', Bool.not_eq_false', beq_iff_eq, beq_eq_false_iff_ne, ne_eq] at h1
  refine Rn ?_
  refine Rn ?_
  refine Rn ?_
  refine Rq ?_
  have tr : ∀ a b c d e f g h i j k m n o p q r s t : AV, let l := lc_balls_nil a b c d e f g h i j k; trim ((15,t)::(14,s)::(13,r)::(12,q)::(11,p)::(10,o)::(9,n)::(8,m)::l) l = [(0,a),(1,b),(4,c),(5,d),(7,e),(15,t),(16,g),(17,h),(18,i),(19,j),(31,k)] := by intros; rfl
  refine R_nil (tr ..) ?_; clear tr
  refine then_n ?_
  refine cdt ?_
  refine at_seq rfl ?_
  refine rg rfl ?_
  refine Rq ?_
  have tr : ∀ a b c d e f g h i j k m : AV, let l := lc_balls_nil a b c d e f g h i j k; trim ((4,m)::l) l = [(0,a),(1,b),(4,m),(5,d),(7,e),(15,f),(16,g),(17,h),(18,i),(19,j),(31,k)] := by intros; rfl
  refine R_nil (tr ..) ?_; clear tr
  refine then_n ?_
  refine at_ret rfl ?_
  refine then_r ?_
  refine fpure ?_
  refine ⟨?_, rfl⟩
  rw [balls_a (.inl (by assumption))]
 ·
  try simp only [decide_eq_true_eq, decide_eq_false_iff_not, Bool.not_eq_true', Bool.not_eq_false', beq_iff_eq, beq_eq_false_iff_ne, ne_eq] at h1
  refine Ry ?_
  refine Rq ?_
  refine Ry ?_
  refine Rq ?_
  refine Ry ?_
  refine Rq ?_
  refine Rq ?_
  have tr : ∀ a b c d e f g h i j k m n o p q r s t : AV, let l := lc_balls_nil a b c d e f g h i j k; trim ((15,t)::(14,s)::(13,r)::(12,q)::(11,p)::(10,o)::(9,n)::(8,m)::l) l = [(0,a),(1,b),(4,c),(5,d),(7,e),(15,t),(16,g),(17,h),(18,i),(19,j),(31,k)] := by intros; rfl
  refine R_nil (tr ..) ?_; clear tr
  refine then_n ?_
  refine cdd (fun h2 => ?_) (fun h2 => ?_)
  ·
   try simp only [decide_eq_true_eq, decide_eq_false_iff_not, Bool.not_eq_true', Bool.not_eq_false', beq_iff_eq, beq_eq_false_iff_ne, ne_eq] at h2
   refine at_seq rfl ?_
   refine rg rfl ?_
   refine Rq ?_
   have tr : ∀ a b c d e f g h i j k m : AV, let l := lc_balls_nil a b c d e f g h i j k; trim ((4,m)::l) l = [(0,a),(1,b),(4,m),(5,d),(7,e),(15,f),(16,g),(17,h),(18,i),(19,j),(31,k)] := by intros; rfl
   refine R_nil (tr ..) ?_; clear tr
   refine then_n ?_
   refine at_ret rfl ?_
   refine then_r ?_
   exfalso; omega
  ·
   try simp only [decide_eq_true_eq, decide_eq_false_iff_not, Bool.not_eq_true', Bool.not_eq_false', beq_iff_eq, beq_eq_false_iff_ne, ne_eq] at h2
   refine at_skip rfl ?_
   refine then_n ?_
   refine at_seq rfl ?_
   refine at_seq rfl ?_
   refine rg rfl ?_
   refine Rq ?_
   refine Rq ?_
   refine Rq ?_
   have tr : ∀ a b c d e f g h i j k m n o : AV, let l := lc_balls_nil a b c d e f g h i j k; trim ((18,o)::(17,n)::(16,m)::l) l = [(0,a),(1,b),(4,c),(5,d),(7,e),(15,f),(16,m),(17,n),(18,o),(19,j),(31,k)] := by intros; rfl
   refine R_nil (tr ..) ?_; clear tr
   refine then_n ?_
   refine at_block rfl ?_
   refine loop_n rfl (fun mm kv H' => ∃ u : Nat, ∃ n : Int, ∃ x4 x7 x19 x31 : AV, (kv = [(0, AV.i n), (4, x4), (7, x7), (18, AV.i u), (19, x19), (31, x31)]) ∧ (mm = 0) ∧ (H' = H) ∧ (u = 0) ∧ (n = balls)) ⟨0, balls, _, _, _, _, rfl, rfl, rfl, by rfl, by rfl⟩ (by rfl) ?_
   rintro mm kv H' ⟨u, n, x4, x7, x19, x31, rfl, rfl, rfl, hu, hn⟩
   have tr : ∀ a b c d e f g h i j k m n o p q r : AV, upd [(0,a),(1,b),(4,c),(5,d),(7,e),(15,f),(16,g),(17,h),(18,i),(19,j),(31,k)] [(0,m),(4,n),(7,o),(18,p),(19,q),(31,r)] = [(0,m),(1,b),(4,n),(5,d),(7,o),(15,f),(16,g),(17,h),(18,p),(19,q),(31,r)] := by intros; rfl
   refine W_to (tr ..) ?_; clear tr
   refine at_seq rfl ?_
   refine rg rfl ?_
   refine Rq ?_
   have tr : ∀ a b c d e f g h i j k m : AV, let l := lc_balls_nil a b c d e f g h i j k; trim ((19,m)::l) l = [(0,a),(1,b),(4,c),(5,d),(7,e),(15,f),(16,g),(17,h),(18,i),(19,m),(31,k)] := by intros; rfl
   refine R_nil (tr ..) ?_; clear tr
   refine then_n ?_
   refine at_seq rfl ?_
   refine cdd (fun h3 => ?_) (fun h3 => ?_)
   ·
    try simp only [decide_eq_true_eq, decide_eq_false_iff_not, Bool.not_eq_true', Bool.not_eq_false', beq_iff_eq, beq_eq_false_iff_ne, ne_eq] at h3
    exfalso; omega
   ·
    try simp only [decide_eq_true_eq, decide_eq_false_iff_not, Bool.not_eq_true', Bool.not_eq_false', beq_iff_eq, beq_eq_false_iff_ne, ne_eq] at h3
    refine at_exit rfl ?_
    refine then_x ?_
    refine then_x ?_
    refine blk_x ?_
    refine then_n ?_
    refine at_seq rfl ?_
    refine rg rfl ?_
    refine Rq ?_
    refine Rq ?_
    refine Rq ?_
    have tr : ∀ a b c d e f g h i j k m n o : AV, let l := lc_balls_nil a b c d e f g h i j k; trim ((4,o)::(41,n)::(40,m)::l) l = [(0,a),(1,b),(4,o),(5,d),(7,e),(15,f),(16,g),(17,h),(18,i),(19,j),(31,k)] := by intros; rfl
    refine R_nil (tr ..) ?_; clear tr
    refine then_n ?_
    refine at_ret rfl ?_
    refine fpure ?_
    refine ⟨?_, rfl⟩
    rw [balls_c (fun hh => hh.elim (by assumption) (by simp)) (fun i hi => by simp at hi), hn]
    show _ = AV.i (max (balls - 0) 0)
    rw [Int.sub_zero]

abbrev lc_small_ok (a b c d e f g h i j k : AV) : Env := [(0,a),(1,b),(2,c),(4,d),(6,e),(15,f),(17,g),(18,h),(19,i),(20,j),(25,k)]
theorem small_ok (lim : Nat) (H : Heap) (rows : Tb) (l : List Stp) :
    ACall sig lim 35 [.agg [rowsAV rows], stopsAV l] H fun r H' => (∃ b : Bool, r = .v (.bool b) ∧ (b = true → l.length ≤ 60)) ∧ H' = H := by
 refine ACall_pure (fa := fa35) rfl rfl rfl rfl ?_
 have tr : ∀ a0 a1 : AV, env0 fa35.keep [a0, a1] = [(0,a0),(1,a1),(2,.any),(4,.any),(6,.any),(15,.any),(17,.any),(18,.any),(19,.any),(20,.any),(25,.any)] := fun a0 a1 => rfl
 refine W_to (tr _ _) ?_; clear tr
 refine at_seq rfl ?_
 refine rg rfl ?_
 refine R_box rfl (by simp (disch := first | omega | (simp only [List.length_map, List.length_append, List.length_set, List.length_cons, List.length_nil]; omega)) only [go_sem, ↓reduceIte, Nat.reduceEqDiff, reduceCtorEq]; rfl) rfl rfl ?_
 refine Rq ?_
 have tr : ∀ a b c d e f g h i j k m n : AV, let l := lc_small_ok a b c d e f g h i j k; trim ((4,n)::(2,m)::l) l = [(0,a),(1,b),(2,m),(4,n),(6,e),(15,f),(17,g),(18,h),(19,i),(20,j),(25,k)] := by intros; rfl
 refine R_nil (tr ..) ?_; clear tr
 refine then_n ?_
 refine at_seq rfl ?_
 refine at_seq rfl ?_
 refine rg rfl ?_
 refine Rq ?_
 refine Rq ?_
 refine Rq ?_
 refine Rq ?_
 refine Rp_split (fun h1 => ?_) (fun h1 => ?_)
 ·
  try simp only [decide_eq_true_eq, decide_eq_false_iff_not, Bool.not_eq_true', Bool.not_eq_false', beq_iff_eq, beq_eq_false_iff_ne, ne_eq] at h1
  refine Rn ?_
  refine Rn ?_
  refine Rn ?_
  refine Rn ?_
  refine Rq ?_
  have tr : ∀ a b c d e f g h i j k m n o p q r s t u : AV, let l := lc_small_ok a b c d e f g h i j k; trim ((15,u)::(14,t)::(13,s)::(12,r)::(11,q)::(10,p)::(9,o)::(8,n)::(7,m)::l) l = [(0,a),(1,b),(2,c),(4,d),(6,e),(15,u),(17,g),(18,h),(19,i),(20,j),(25,k)] := by intros; rfl
  refine R_nil (tr ..) ?_; clear tr
  refine then_n ?_
  refine cdt ?_
  refine at_seq rfl ?_
  refine rg rfl ?_
  refine Rq ?_
  have tr : ∀ a b c d e f g h i j k m : AV, let l := lc_small_ok a b c d e f g h i j k; trim ((4,m)::l) l = [(0,a),(1,b),(2,c),(4,m),(6,e),(15,f),(17,g),(18,h),(19,i),(20,j),(25,k)] := by intros; rfl
  refine R_nil (tr ..) ?_; clear tr
  refine then_n ?_
  refine at_ret rfl ?_
  refine then_r ?_
  refine fpure ?_
  first | exact ⟨⟨_, rfl, fun _ => by omega⟩, rfl⟩ | exact ⟨⟨_, rfl, fun hh => by cases hh⟩, rfl⟩
 ·
  try simp only [decide_eq_true_eq, decide_eq_false_iff_not, Bool.not_eq_true', Bool.not_eq_false', beq_iff_eq, beq_eq_false_iff_ne, ne_eq] at h1
  refine Ry ?_
  refine Rq ?_
  refine Ry ?_
  refine Rq ?_
  refine Ry ?_
  refine Rq ?_
  refine Ry ?_
  refine Rq ?_
  refine Rq ?_
  have tr : ∀ a b c d e f g h i j k m n o p q r s t u : AV, let l := lc_small_ok a b c d e f g h i j k; trim ((15,u)::(14,t)::(13,s)::(12,r)::(11,q)::(10,p)::(9,o)::(8,n)::(7,m)::l) l = [(0,a),(1,b),(2,c),(4,d),(6,e),(15,u),(17,g),(18,h),(19,i),(20,j),(25,k)] := by intros; rfl
  refine R_nil (tr ..) ?_; clear tr
  refine then_n ?_
  refine cdd (fun h2 => ?_) (fun h2 => ?_)
  ·
   try simp only [decide_eq_true_eq, decide_eq_false_iff_not, Bool.not_eq_true', Bool.not_eq_false', beq_iff_eq, beq_eq_false_iff_ne, ne_eq] at h2
   refine at_seq rfl ?_
   refine rg rfl ?_
   refine Rq ?_
   have tr : ∀ a b c d e f g h i j k m : AV, let l := lc_small_ok a b c d e f g h i j k; trim ((4,m)::l) l = [(0,a),(1,b),(2,c),(4,m),(6,e),(15,f),(17,g),(18,h),(19,i),(20,j),(25,k)] := by intros; rfl
   refine R_nil (tr ..) ?_; clear tr
   refine then_n ?_
   refine at_ret rfl ?_
   refine then_r ?_
   refine fpure ?_
   first | exact ⟨⟨_, rfl, fun _ => by omega⟩, rfl⟩ | exact ⟨⟨_, rfl, fun hh => by cases hh⟩, rfl⟩
  ·
   try simp only [decide_eq_true_eq, decide_eq_false_iff_not, Bool.not_eq_true', Bool.not_eq_false', beq_iff_eq, beq_eq_false_iff_ne, ne_eq] at h2
   refine at_skip rfl ?_
   refine then_n ?_
   refine at_seq rfl ?_
   refine at_seq rfl ?_
   refine rg rfl ?_
   refine Rq ?_
   refine Rq ?_
   refine Rq ?_
   refine Rq ?_
   have tr : ∀ a b c d e f g h i j k m n o p : AV, let l := lc_small_ok a b c d e f g h i j k; trim ((19,p)::(18,o)::(17,n)::(16,m)::l) l = [(0,a),(1,b),(2,c),(4,d),(6,e),(15,f),(17,n),(18,o),(19,p),(20,j),(25,k)] := by intros; rfl
   refine R_nil (tr ..) ?_; clear tr
   refine then_n ?_
   refine at_block rfl ?_
   refine loop_n rfl (fun mm kv H' => ∃ u : Nat, ∃ x4 x6 x20 x25 : AV, (kv = [(4, x4), (6, x6), (19, AV.i u), (20, x20), (25, x25)]) ∧ (mm = rows.length - u) ∧ (H' = H ++ [some [rowsAV rows]]) ∧ (u ≤ rows.length)) ⟨0, _, _, _, _, rfl, rfl, rfl, by omega⟩ (by rfl) ?_
   rintro mm kv H' ⟨u, x4, x6, x20, x25, rfl, rfl, rfl, hu⟩
   have tr : ∀ a b c d e f g h i j k m n o p q : AV, upd [(0,a),(1,b),(2,c),(4,d),(6,e),(15,f),(17,g),(18,h),(19,i),(20,j),(25,k)] [(4,m),(6,n),(19,o),(20,p),(25,q)] = [(0,a),(1,b),(2,c),(4,m),(6,n),(15,f),(17,g),(18,h),(19,o),(20,p),(25,q)] := by intros; rfl
   refine W_to (tr ..) ?_; clear tr
   refine at_seq rfl ?_
   refine rg rfl ?_
   refine Rq ?_
   have tr : ∀ a b c d e f g h i j k m : AV, let l := lc_small_ok a b c d e f g h i j k; trim ((20,m)::l) l = [(0,a),(1,b),(2,c),(4,d),(6,e),(15,f),(17,g),(18,h),(19,i),(20,m),(25,k)] := by intros; rfl
   refine R_nil (tr ..) ?_; clear tr
   refine then_n ?_
   refine at_seq rfl ?_
   refine cdd (fun h3 => ?_) (fun h3 => ?_)
   ·
    try simp only [decide_eq_true_eq, decide_eq_false_iff_not, Bool.not_eq_true', Bool.not_eq_false', beq_iff_eq, beq_eq_false_iff_ne, ne_eq] at h3
    refine at_skip rfl ?_
    refine then_n ?_
    refine at_seq rfl ?_
    refine at_block rfl ?_
    refine at_seq rfl ?_
    refine rg rfl ?_
    refine Rq ?_
    refine Rq ?_
    refine Rq ?_
    have tr : ∀ a b c d e f g h i j k m n o : AV, let l := lc_small_ok a b c d e f g h i j k; trim ((6,o)::(22,n)::(21,m)::l) l = [(0,a),(1,b),(2,c),(4,d),(6,o),(15,f),(17,g),(18,h),(19,i),(20,j),(25,k)] := by intros; rfl
    refine R_nil (tr ..) ?_; clear tr
    refine then_n ?_
    refine at_seq rfl ?_
    refine rg rfl ?_
    refine Rq ?_
    refine Rq ?_
    refine Rq ?_
    have tr : ∀ a b c d e f g h i j k m n o : AV, let l := lc_small_ok a b c d e f g h i j k; trim ((25,o)::(24,n)::(23,m)::l) l = [(0,a),(1,b),(2,c),(4,d),(6,e),(15,f),(17,g),(18,h),(19,i),(20,j),(25,o)] := by intros; rfl
    refine R_nil (tr ..) ?_; clear tr
    refine then_n ?_
    refine cdd (fun h4 => ?_) (fun h4 => ?_)
    ·
     try simp only [decide_eq_true_eq, decide_eq_false_iff_not, Bool.not_eq_true', Bool.not_eq_false', beq_iff_eq, beq_eq_false_iff_ne, ne_eq] at h4
     refine at_seq rfl ?_
     refine rg rfl ?_
     refine Rq ?_
     have tr : ∀ a b c d e f g h i j k m : AV, let l := lc_small_ok a b c d e f g h i j k; trim ((4,m)::l) l = [(0,a),(1,b),(2,c),(4,m),(6,e),(15,f),(17,g),(18,h),(19,i),(20,j),(25,k)] := by intros; rfl
     refine R_nil (tr ..) ?_; clear tr
     refine then_n ?_
     refine at_ret rfl ?_
     refine blk_r ?_
     refine then_r ?_
     refine then_r ?_
     refine blk_r ?_
     refine then_r ?_
     refine fpure ?_
     first | exact ⟨⟨_, rfl, fun _ => by omega⟩, rfl⟩ | exact ⟨⟨_, rfl, fun hh => by cases hh⟩, rfl⟩
    ·
     try simp only [decide_eq_true_eq, decide_eq_false_iff_not, Bool.not_eq_true', Bool.not_eq_false', beq_iff_eq, beq_eq_false_iff_ne, ne_eq] at h4
     refine at_skip rfl ?_
     refine blk_n ?_
     refine then_n ?_
     refine rg rfl ?_
     refine Rq ?_
     refine Rq ?_
     have tr : ∀ a b c d e f g h i j k m n : AV, let l := lc_small_ok a b c d e f g h i j k; trim ((19,n)::(26,m)::l) l = [(0,a),(1,b),(2,c),(4,d),(6,e),(15,f),(17,g),(18,h),(19,n),(20,j),(25,k)] := by intros; rfl
     refine R_nil (tr ..) ?_; clear tr
     refine then_n ?_
     exact ⟨_, _, ⟨u + 1, _, _, _, _, rfl, rfl, rfl, by omega⟩, by rfl, by omega⟩
   ·
    try simp only [decide_eq_true_eq, decide_eq_false_iff_not, Bool.not_eq_true', Bool.not_eq_false', beq_iff_eq, beq_eq_false_iff_ne, ne_eq] at h3
    refine at_exit rfl ?_
    refine then_x ?_
    refine then_x ?_
    refine blk_x ?_
    refine then_n ?_
    refine at_seq rfl ?_
    refine rg rfl ?_
    refine Rq ?_
    have tr : ∀ a b c d e f g h i j k m : AV, let l := lc_small_ok a b c d e f g h i j k; trim ((4,m)::l) l = [(0,a),(1,b),(2,c),(4,m),(6,e),(15,f),(17,g),(18,h),(19,i),(20,j),(25,k)] := by intros; rfl
    refine R_nil (tr ..) ?_; clear tr
    refine then_n ?_
    refine at_ret rfl ?_
    refine fpure ?_
    first | exact ⟨⟨_, rfl, fun _ => by omega⟩, rfl⟩ | exact ⟨⟨_, rfl, fun hh => by cases hh⟩, rfl⟩

abbrev lc_joins_nil (a b c d e f g h i j k : AV) : Env := [(0,a),(1,b),(2,c),(3,d),(4,e),(5,f),(6,g),(7,h),(9,i),(15,j),(37,k)]
theorem joins_nil (lim : Nat) (H : Heap) (rows : Tb) (per balls : Int) (l : List Stp) (hl : l = []) : ACall sig lim 14 [.agg [rowsAV rows, AV.i per, AV.i balls, stopsAV l]] H fun r _ => r = .v (.bool true) := by
 have q0 : True := trivial
 refine ACall_pure (fa := fa14) rfl rfl rfl rfl ?_
 have tr : ∀ a0 : AV, env0 fa14.keep [a0] = [(0,a0),(1,.any),(2,.any),(3,.any),(4,.any),(5,.any),(6,.any),(7,.any),(9,.any),(15,.any),(37,.any)] := fun a0 => rfl
 refine W_to (tr _) ?_; clear tr
 refine at_seq rfl ?_
 refine rg rfl ?_
 refine A_box rfl (by simp (disch := first | omega | (simp only [List.length_map, List.length_append, List.length_set, List.length_cons, List.length_nil]; omega)) only [go_sem, ↓reduceIte, Nat.reduceEqDiff, reduceCtorEq]; rfl) ?_
 intro H1 n0
 have en0 := n0.len
 have q0 := n0.new
 refine Rq ?_
 have tr : ∀ a b c d e f g h i j k m n : AV, let l := lc_joins_nil a b c d e f g h i j k; trim ((2,n)::(1,m)::l) l = [(0,a),(1,m),(2,n),(3,d),(4,e),(5,f),(6,g),(7,h),(9,i),(15,j),(37,k)] := by intros; rfl
 refine R_nil (tr ..) ?_; clear tr
 refine then_n ?_
 refine at_seq rfl ?_
 refine at_seq rfl ?_
 refine rg rfl ?_
 refine Rcall ?_
 refine ACall_eval 300 (awake39 _ _) ?_
 refine Rq ?_
 have tr : ∀ a b c d e f g h i j k m n : AV, let l := lc_joins_nil a b c d e f g h i j k; trim ((9,n)::(8,m)::l) l = [(0,a),(1,b),(2,c),(3,d),(4,e),(5,f),(6,g),(7,h),(9,n),(15,j),(37,k)] := by intros; rfl
 refine R_nil (tr ..) ?_; clear tr
 refine then_n ?_
 refine cdf ?_
 refine at_skip rfl ?_
 refine then_n ?_
 refine at_seq rfl ?_
 refine at_seq rfl ?_
 refine rg rfl ?_
 refine Rq ?_
 refine R_q rfl (by simp (disch := first | omega | (simp only [List.length_map, List.length_append, List.length_set, List.length_cons, List.length_nil]; omega)) only [go_sem, ↓reduceIte, Nat.reduceEqDiff, reduceCtorEq, q0]; rfl) ?_
 refine Rq ?_
 refine R_q rfl (by simp (disch := first | omega | (simp only [List.length_map, List.length_append, List.length_set, List.length_cons, List.length_nil]; omega)) only [go_sem, ↓reduceIte, Nat.reduceEqDiff, reduceCtorEq, q0]; rfl) ?_
 refine Rcall ?_
 refine ACall_mono (small_ok _ _ rows l) ?_
 rintro r H6 ⟨⟨b, rfl, hsb⟩, rfl⟩
 refine Rq ?_
 have tr : ∀ a b c d e f g h i j k m n o p q r : AV, let l := lc_joins_nil a b c d e f g h i j k; trim ((15,r)::(14,q)::(13,p)::(12,o)::(11,n)::(10,m)::l) l = [(0,a),(1,b),(2,c),(3,d),(4,e),(5,f),(6,g),(7,h),(9,i),(15,r),(37,k)] := by intros; rfl
 refine R_nil (tr ..) ?_; clear tr
 refine then_n ?_
 refine cdd (fun h1 => ?_) (fun h1 => ?_)
 ·
  try simp only [decide_eq_true_eq, decide_eq_false_iff_not, Bool.not_eq_true', Bool.not_eq_false', beq_iff_eq, beq_eq_false_iff_ne, ne_eq] at h1
  refine at_seq rfl ?_
  refine rg rfl ?_
  refine Rq ?_
  have tr : ∀ a b c d e f g h i j k m : AV, let l := lc_joins_nil a b c d e f g h i j k; trim ((2,m)::l) l = [(0,a),(1,b),(2,m),(3,d),(4,e),(5,f),(6,g),(7,h),(9,i),(15,j),(37,k)] := by intros; rfl
  refine R_nil (tr ..) ?_; clear tr
  refine then_n ?_
  refine at_ret rfl ?_
  refine then_r ?_
  refine fpure ?_
  first | rfl | simp
 ·
  try simp only [decide_eq_true_eq, decide_eq_false_iff_not, Bool.not_eq_true', Bool.not_eq_false', beq_iff_eq, beq_eq_false_iff_ne, ne_eq] at h1
  refine at_skip rfl ?_
  refine then_n ?_
  refine at_seq rfl ?_
  refine rg rfl ?_
  have hl60 : l.length ≤ 60 := hsb (by simp_all)
  have hjl := jn_len l l.length
  have hje : jn l l.length = [] := by subst hl; rfl
  refine Rq ?_
  refine R_q rfl (by simp (disch := first | omega | (simp only [List.length_map, List.length_append, List.length_set, List.length_cons, List.length_nil]; omega)) only [go_sem, ↓reduceIte, Nat.reduceEqDiff, reduceCtorEq, q0]; rfl) ?_
  refine Rcall ?_
  refine ACall_eq (join_ok _ _ l (by omega)) ?_
  rewrite [show outT (jn l l.length) = nilS by subst hl; rfl]
  refine Rq ?_
  have tr : ∀ a b c d e f g h i j k m n o p : AV, let l := lc_joins_nil a b c d e f g h i j k; trim ((3,p)::(18,o)::(17,n)::(16,m)::l) l = [(0,a),(1,b),(2,c),(3,p),(4,e),(5,f),(6,g),(7,h),(9,i),(15,j),(37,k)] := by intros; rfl
  refine R_nil (tr ..) ?_; clear tr
  refine then_n ?_
  refine at_seq rfl ?_
  refine at_seq rfl ?_
  refine rls3 rfl rfl ?_
  refine Lq ?_
  refine Lq ?_
  refine L_q rfl (by simp (disch := first | omega | (simp only [List.length_map, List.length_append, List.length_set, List.length_cons, List.length_nil]; omega)) only [go_sem, ↓reduceIte, Nat.reduceEqDiff, reduceCtorEq, q0]; rfl) rfl ?_
  refine L_nil ?_
  refine Rcall ?_
  refine ACall_eq (rjoin_ok _ _ l (by omega)) ?_
  rewrite [show outT (jn l l.length) = nilS by subst hl; rfl]
  refine Rcall ?_
  refine ACall_eq (same_nil _ _) ?_
  refine Rq ?_
  refine Rq ?_
  refine R_end ⟨rfl, ?_⟩
  refine Ly ?_
  refine Lq ?_
  refine Ly ?_
  refine L_q rfl (by simp (disch := first | omega | (simp only [List.length_map, List.length_append, List.length_set, List.length_cons, List.length_nil]; omega)) only [go_sem, ↓reduceIte, Nat.reduceEqDiff, reduceCtorEq, q0]; rfl) rfl ?_
  refine Ly ?_
  refine Lq ?_
  refine Ly ?_
  refine L_q rfl (by simp (disch := first | omega | (simp only [List.length_map, List.length_append, List.length_set, List.length_cons, List.length_nil]; omega)) only [go_sem, ↓reduceIte, Nat.reduceEqDiff, reduceCtorEq, q0]; rfl) rfl ?_
  refine Ly ?_
  refine Lq ?_
  refine Ly ?_
  refine L_q rfl (by simp (disch := first | omega | (simp only [List.length_map, List.length_append, List.length_set, List.length_cons, List.length_nil]; omega)) only [go_sem, ↓reduceIte, Nat.reduceEqDiff, reduceCtorEq, q0]; rfl) rfl ?_
  refine Ly ?_
  refine Lq ?_
  refine Ly ?_
  refine L_q rfl (by simp (disch := first | omega | (simp only [List.length_map, List.length_append, List.length_set, List.length_cons, List.length_nil]; omega)) only [go_sem, ↓reduceIte, Nat.reduceEqDiff, reduceCtorEq, q0]; rfl) rfl ?_
  refine L_nil ?_
  refine Ry ?_
  refine Rcall ?_
  refine ACall_eq (balls_ok _ _ balls l) ?_
  refine Ry ?_
  refine Rcall ?_
  refine ACall_eq (rballs_ok _ _ balls l) ?_
  refine R_end ⟨?_, ?_⟩
  ·
   refine ⟨?_, ?_⟩
   ·
    refine Ry ?_
    refine Rcall ?_
    refine ACall_eq (rballs_ok _ _ balls l) ?_
    refine Ry ?_
    refine Rcall ?_
    refine ACall_eq (balls_ok _ _ balls l) ?_
    refine R_end ?_
    refine same_H (H := H6) ?_
    intro t2 ht
    simp only [List.mem_cons, List.not_mem_nil, or_false] at ht
    rcases ht with rfl | rfl | rfl <;> (simp only [get_cons, put_some, ↓reduceIte, Nat.reduceEqDiff]; rfl)
   exact trivial
  rewrite [keep_all (fun i hi => .inl hi)]
  refine Rp_env (e' := [(25, _), (30, _), (35, _), (19, .any), (20, .any), (21, .any), (22, .any), (23, .any), (24, .any), (25, .any), (26, .any), (27, .any), (28, .any), (29, .any), (30, .any), (31, .any), (32, .any), (33, .any), (34, .any), (35, .any), (36, .any), (37, .any), (0, _), (1, _), (2, _), (3, _), (4, _), (5, _), (6, _), (7, _), (9, _), (15, _), (37, _)]) rfl ?_
  simp only [put_some, get_cons, ↓reduceIte, Nat.reduceEqDiff]
  refine Ry ?_
  refine Rq ?_
  refine Rq ?_
  have tr : ∀ a b c d e f g h i j k m n o p q r s t u v w x y z A B C D E F G H I J : AV, let l := lc_joins_nil a b c d e f g h i j k; trim ((37,J)::(36,I)::(25,H)::(30,G)::(35,F)::(19,E)::(20,D)::(21,C)::(22,B)::(23,A)::(24,z)::(25,y)::(26,x)::(27,w)::(28,v)::(29,u)::(30,t)::(31,s)::(32,r)::(33,q)::(34,p)::(35,o)::(36,n)::(37,m)::l) l = [(0,a),(1,b),(2,c),(3,d),(4,e),(5,f),(6,g),(7,h),(9,i),(15,j),(37,J)] := by intros; rfl
  refine R_nil (tr ..) ?_; clear tr
  refine then_n ?_
  refine cdd (fun h2 => ?_) (fun h2 => ?_)
  ·
   try simp only [decide_eq_true_eq, decide_eq_false_iff_not, Bool.not_eq_true', Bool.not_eq_false', beq_iff_eq, beq_eq_false_iff_ne, ne_eq] at h2
   first | omega | contradiction | exact absurd rfl (by assumption) | exact absurd trivial (by assumption)
  ·
   try simp only [decide_eq_true_eq, decide_eq_false_iff_not, Bool.not_eq_true', Bool.not_eq_false', beq_iff_eq, beq_eq_false_iff_ne, ne_eq] at h2
   refine at_skip rfl ?_
   refine then_n ?_
   refine at_seq rfl ?_
   refine rg rfl ?_
   refine Rq ?_
   refine R_q rfl (by simp (disch := first | omega | (simp only [List.length_map, List.length_append, List.length_set, List.length_cons, List.length_nil]; omega)) only [go_sem, ↓reduceIte, Nat.reduceEqDiff, reduceCtorEq, q0]; rfl) ?_
   refine Rq ?_
   refine R_q rfl (by simp (disch := first | omega | (simp only [List.length_map, List.length_append, List.length_set, List.length_cons, List.length_nil]; omega)) only [go_sem, ↓reduceIte, Nat.reduceEqDiff, reduceCtorEq, q0]; rfl) ?_
   refine Rq ?_
   refine R_q rfl (by simp (disch := first | omega | (simp only [List.length_map, List.length_append, List.length_set, List.length_cons, List.length_nil]; omega)) only [go_sem, ↓reduceIte, Nat.reduceEqDiff, reduceCtorEq, q0]; rfl) ?_
   refine Rq ?_
   refine R_q rfl (by simp (disch := first | omega | (simp only [List.length_map, List.length_append, List.length_set, List.length_cons, List.length_nil]; omega)) only [go_sem, ↓reduceIte, Nat.reduceEqDiff, reduceCtorEq, q0]; rfl) ?_
   refine Rcall ?_
   refine ACall_eq (left_ok _ _ rows per balls l) ?_
   refine Rq ?_
   refine Rq ?_
   refine Rq ?_
   refine Rq ?_
   refine Rq ?_
   have tr : ∀ a b c d e f g h i j k m n o p q r s t u v w x y z : AV, let l := lc_joins_nil a b c d e f g h i j k; trim ((5,z)::(4,y)::(49,x)::(48,w)::(38,v)::(47,u)::(46,t)::(45,s)::(44,r)::(43,q)::(42,p)::(41,o)::(40,n)::(39,m)::l) l = [(0,a),(1,b),(2,c),(3,d),(4,y),(5,z),(6,g),(7,h),(9,i),(15,j),(37,k)] := by intros; rfl
   refine R_nil (tr ..) ?_; clear tr
   refine then_n ?_
   refine at_seq rfl ?_
   refine rg rfl ?_
   refine Rq ?_
   refine R_q rfl (by simp (disch := first | omega | (simp only [List.length_map, List.length_append, List.length_set, List.length_cons, List.length_nil]; omega)) only [go_sem, ↓reduceIte, Nat.reduceEqDiff, reduceCtorEq, q0]; rfl) ?_
   refine Rq ?_
   refine R_q rfl (by simp (disch := first | omega | (simp only [List.length_map, List.length_append, List.length_set, List.length_cons, List.length_nil]; omega)) only [go_sem, ↓reduceIte, Nat.reduceEqDiff, reduceCtorEq, q0]; rfl) ?_
   refine Rq ?_
   refine R_q rfl (by simp (disch := first | omega | (simp only [List.length_map, List.length_append, List.length_set, List.length_cons, List.length_nil]; omega)) only [go_sem, ↓reduceIte, Nat.reduceEqDiff, reduceCtorEq, q0]; rfl) ?_
   refine Rq ?_
   refine Rcall ?_
   refine ACall_eq (left_nil _ _ rows per balls) ?_
   rewrite [← hje]
   refine Rq ?_
   refine Rq ?_
   refine Rq ?_
   refine Rq ?_
   refine Rq ?_
   have tr : ∀ a b c d e f g h i j k m n o p q r s t u v w x y : AV, let l := lc_joins_nil a b c d e f g h i j k; trim ((7,y)::(6,x)::(60,w)::(59,v)::(50,u)::(58,t)::(57,s)::(56,r)::(55,q)::(54,p)::(53,o)::(52,n)::(51,m)::l) l = [(0,a),(1,b),(2,c),(3,d),(4,e),(5,f),(6,x),(7,y),(9,i),(15,j),(37,k)] := by intros; rfl
   refine R_nil (tr ..) ?_; clear tr
   refine then_n ?_
   refine at_seq rfl ?_
   refine rd rfl rfl ?_
   refine Qq ?_
   refine Qq ?_
   refine Qq ?_
   refine Qp_split (fun h3 => ?_) (fun h3 => ?_)
   ·
    try simp only [decide_eq_true_eq, decide_eq_false_iff_not, Bool.not_eq_true', Bool.not_eq_false', beq_iff_eq, beq_eq_false_iff_ne, ne_eq] at h3
    refine Qn ?_
    refine Qn ?_
    refine Qn ?_
    refine Qu ?_
    refine Qu ?_
    refine Qu ?_
    refine Qn ?_
    refine Qn ?_
    refine Qu ?_
    refine Qu ?_
    refine Qu ?_
    refine Qu ?_
    refine Qu ?_
    refine Qu ?_
    refine Qu ?_
    refine Qu ?_
    refine Qu ?_
    refine Qu ?_
    refine Qn ?_
    refine Qq ?_
    refine Qq ?_
    refine Q_nil ?_
    have tr : ∀ a b c d e f g h i j k m n o p q r s t u v w x y z A B C D E F G H I J : AV, let l := lc_joins_nil a b c d e f g h i j k; trim ((2,J)::(83,I)::(82,H)::(81,G)::(80,F)::(79,E)::(78,D)::(77,C)::(76,B)::(75,A)::(74,z)::(73,y)::(72,x)::(71,w)::(70,v)::(69,u)::(68,t)::(67,s)::(66,r)::(65,q)::(64,p)::(63,o)::(62,n)::(61,m)::l) l = [(0,a),(1,b),(2,J),(3,d),(4,e),(5,f),(6,g),(7,h),(9,i),(15,j),(37,k)] := by intros; rfl
    refine R_nil (tr ..) ?_; clear tr
    refine then_n ?_
    refine at_ret rfl ?_
    refine fpure ?_
    first | rfl | simp
   ·
    try simp only [decide_eq_true_eq, decide_eq_false_iff_not, Bool.not_eq_true', Bool.not_eq_false', beq_iff_eq, beq_eq_false_iff_ne, ne_eq] at h3
    have hlz : (leftS rows per balls l).2 = 0 := by assumption
    obtain ⟨hc, hle⟩ := left_zero hlz
    have hrl : rows.length ≤ 1000 := by have := (check_shaped hc.tab).most; omega
    rewrite [join_left hc]
    refine Qy ?_
    refine Qq ?_
    refine Qy ?_
    refine Qq ?_
    refine Qy ?_
    refine Qq ?_
    refine Qp_split (fun h4 => ?_) (fun h4 => ?_)
    ·
     try simp only [decide_eq_true_eq, decide_eq_false_iff_not, Bool.not_eq_true', Bool.not_eq_false', beq_iff_eq, beq_eq_false_iff_ne, ne_eq] at h4
     refine Qy ?_
     refine Qq ?_
     refine Qy ?_
     refine Qq ?_
     refine Qy ?_
     refine Qq ?_
     refine Qy ?_
     refine Qq ?_
     refine Qy ?_
     refine Qq ?_
     refine Qp_split (fun h5 => ?_) (fun h5 => ?_)
     ·
      try simp only [decide_eq_true_eq, decide_eq_false_iff_not, Bool.not_eq_true', Bool.not_eq_false', beq_iff_eq, beq_eq_false_iff_ne, ne_eq] at h5
      refine Qy ?_
      refine Qq ?_
      refine Qy ?_
      refine Q_q rfl (by simp (disch := first | omega | (simp only [List.length_map, List.length_append, List.length_set, List.length_cons, List.length_nil]; omega)) only [go_sem, ↓reduceIte, Nat.reduceEqDiff, reduceCtorEq, q0]; rfl) ?_
      refine Qy ?_
      refine Qq ?_
      refine Qy ?_
      refine Qcall ?_
      refine ACall_eq (balls_nil _ _ balls) ?_
      rewrite [← hje]
      refine ⟨rfl, ?_⟩
      rewrite [join_balls hc hrl]
      refine Qy ?_
      refine Qq ?_
      refine Qy ?_
      refine Q_q rfl (by simp (disch := first | omega | (simp only [List.length_map, List.length_append, List.length_set, List.length_cons, List.length_nil]; omega)) only [go_sem, ↓reduceIte, Nat.reduceEqDiff, reduceCtorEq, q0]; rfl) ?_
      refine Qy ?_
      refine Qq ?_
      refine Qy ?_
      refine Q_q rfl (by simp (disch := first | omega | (simp only [List.length_map, List.length_append, List.length_set, List.length_cons, List.length_nil]; omega)) only [go_sem, ↓reduceIte, Nat.reduceEqDiff, reduceCtorEq, q0]; rfl) ?_
      refine Qy ?_
      refine Qcall ?_
      refine ACall_eq (balls_ok _ _ balls l) ?_
      refine ⟨rfl, ?_⟩
      refine Qy ?_
      refine Qq ?_
      refine Qy ?_
      refine Qq ?_
      refine Qq ?_
      refine Qq ?_
      refine Q_nil ?_
      have tr : ∀ a b c d e f g h i j k m n o p q r s t u v w x y z A B C D E F G H I J : AV, let l := lc_joins_nil a b c d e f g h i j k; trim ((2,J)::(83,I)::(82,H)::(81,G)::(80,F)::(79,E)::(78,D)::(77,C)::(76,B)::(75,A)::(74,z)::(73,y)::(72,x)::(71,w)::(70,v)::(69,u)::(68,t)::(67,s)::(66,r)::(65,q)::(64,p)::(63,o)::(62,n)::(61,m)::l) l = [(0,a),(1,b),(2,J),(3,d),(4,e),(5,f),(6,g),(7,h),(9,i),(15,j),(37,k)] := by intros; rfl
      refine R_nil (tr ..) ?_; clear tr
      refine then_n ?_
      refine at_ret rfl ?_
      refine fpure ?_
      first | rfl | simp
     ·
      try simp only [decide_eq_true_eq, decide_eq_false_iff_not, Bool.not_eq_true', Bool.not_eq_false', beq_iff_eq, beq_eq_false_iff_ne, ne_eq] at h5
      first | omega | contradiction | exact absurd rfl (by assumption) | exact absurd trivial (by assumption)
    ·
     try simp only [decide_eq_true_eq, decide_eq_false_iff_not, Bool.not_eq_true', Bool.not_eq_false', beq_iff_eq, beq_eq_false_iff_ne, ne_eq] at h4
     exact absurd hlz (by assumption)

abbrev lc_joins_ne (a b c d e f g h i j k : AV) : Env := [(0,a),(1,b),(2,c),(3,d),(4,e),(5,f),(6,g),(7,h),(9,i),(15,j),(37,k)]
theorem joins_ne (lim : Nat) (H : Heap) (rows : Tb) (per balls : Int) (l : List Stp) (hl : l ≠ []) : ACall sig lim 14 [.agg [rowsAV rows, AV.i per, AV.i balls, stopsAV l]] H fun r _ => r = .v (.bool true) := by
 have q0 : True := trivial
 refine ACall_pure (fa := fa14) rfl rfl rfl rfl ?_
 have tr : ∀ a0 : AV, env0 fa14.keep [a0] = [(0,a0),(1,.any),(2,.any),(3,.any),(4,.any),(5,.any),(6,.any),(7,.any),(9,.any),(15,.any),(37,.any)] := fun a0 => rfl
 refine W_to (tr _) ?_; clear tr
 refine at_seq rfl ?_
 refine rg rfl ?_
 refine A_box rfl (by simp (disch := first | omega | (simp only [List.length_map, List.length_append, List.length_set, List.length_cons, List.length_nil]; omega)) only [go_sem, ↓reduceIte, Nat.reduceEqDiff, reduceCtorEq]; rfl) ?_
 intro H1 n0
 have en0 := n0.len
 have q0 := n0.new
 refine Rq ?_
 have tr : ∀ a b c d e f g h i j k m n : AV, let l := lc_joins_ne a b c d e f g h i j k; trim ((2,n)::(1,m)::l) l = [(0,a),(1,m),(2,n),(3,d),(4,e),(5,f),(6,g),(7,h),(9,i),(15,j),(37,k)] := by intros; rfl
 refine R_nil (tr ..) ?_; clear tr
 refine then_n ?_
 refine at_seq rfl ?_
 refine at_seq rfl ?_
 refine rg rfl ?_
 refine Rcall ?_
 refine ACall_eval 300 (awake39 _ _) ?_
 refine Rq ?_
 have tr : ∀ a b c d e f g h i j k m n : AV, let l := lc_joins_ne a b c d e f g h i j k; trim ((9,n)::(8,m)::l) l = [(0,a),(1,b),(2,c),(3,d),(4,e),(5,f),(6,g),(7,h),(9,n),(15,j),(37,k)] := by intros; rfl
 refine R_nil (tr ..) ?_; clear tr
 refine then_n ?_
 refine cdf ?_
 refine at_skip rfl ?_
 refine then_n ?_
 refine at_seq rfl ?_
 refine at_seq rfl ?_
 refine rg rfl ?_
 refine Rq ?_
 refine R_q rfl (by simp (disch := first | omega | (simp only [List.length_map, List.length_append, List.length_set, List.length_cons, List.length_nil]; omega)) only [go_sem, ↓reduceIte, Nat.reduceEqDiff, reduceCtorEq, q0]; rfl) ?_
 refine Rq ?_
 refine R_q rfl (by simp (disch := first | omega | (simp only [List.length_map, List.length_append, List.length_set, List.length_cons, List.length_nil]; omega)) only [go_sem, ↓reduceIte, Nat.reduceEqDiff, reduceCtorEq, q0]; rfl) ?_
 refine Rcall ?_
 refine ACall_mono (small_ok _ _ rows l) ?_
 rintro r H6 ⟨⟨b, rfl, hsb⟩, rfl⟩
 refine Rq ?_
 have tr : ∀ a b c d e f g h i j k m n o p q r : AV, let l := lc_joins_ne a b c d e f g h i j k; trim ((15,r)::(14,q)::(13,p)::(12,o)::(11,n)::(10,m)::l) l = [(0,a),(1,b),(2,c),(3,d),(4,e),(5,f),(6,g),(7,h),(9,i),(15,r),(37,k)] := by intros; rfl
 refine R_nil (tr ..) ?_; clear tr
 refine then_n ?_
 refine cdd (fun h1 => ?_) (fun h1 => ?_)
 ·
  try simp only [decide_eq_true_eq, decide_eq_false_iff_not, Bool.not_eq_true', Bool.not_eq_false', beq_iff_eq, beq_eq_false_iff_ne, ne_eq] at h1
  refine at_seq rfl ?_
  refine rg rfl ?_
  refine Rq ?_
  have tr : ∀ a b c d e f g h i j k m : AV, let l := lc_joins_ne a b c d e f g h i j k; trim ((2,m)::l) l = [(0,a),(1,b),(2,m),(3,d),(4,e),(5,f),(6,g),(7,h),(9,i),(15,j),(37,k)] := by intros; rfl
  refine R_nil (tr ..) ?_; clear tr
  refine then_n ?_
  refine at_ret rfl ?_
  refine then_r ?_
  refine fpure ?_
  first | rfl | simp
 ·
  try simp only [decide_eq_true_eq, decide_eq_false_iff_not, Bool.not_eq_true', Bool.not_eq_false', beq_iff_eq, beq_eq_false_iff_ne, ne_eq] at h1
  refine at_skip rfl ?_
  refine then_n ?_
  refine at_seq rfl ?_
  refine rg rfl ?_
  have hl60 : l.length ≤ 60 := hsb (by simp_all)
  have hjl := jn_len l l.length
  refine Rq ?_
  refine R_q rfl (by simp (disch := first | omega | (simp only [List.length_map, List.length_append, List.length_set, List.length_cons, List.length_nil]; omega)) only [go_sem, ↓reduceIte, Nat.reduceEqDiff, reduceCtorEq, q0]; rfl) ?_
  refine Rcall ?_
  refine ACall_eq (join_ok _ _ l (by omega)) ?_
  rewrite [outT_ne (jn_ne hl)]
  refine Rq ?_
  have tr : ∀ a b c d e f g h i j k m n o p : AV, let l := lc_joins_ne a b c d e f g h i j k; trim ((3,p)::(18,o)::(17,n)::(16,m)::l) l = [(0,a),(1,b),(2,c),(3,p),(4,e),(5,f),(6,g),(7,h),(9,i),(15,j),(37,k)] := by intros; rfl
  refine R_nil (tr ..) ?_; clear tr
  refine then_n ?_
  refine at_seq rfl ?_
  refine at_seq rfl ?_
  refine rls3 rfl rfl ?_
  refine Lq ?_
  refine Lq ?_
  refine L_q rfl (by simp (disch := first | omega | (simp only [List.length_map, List.length_append, List.length_set, List.length_cons, List.length_nil]; omega)) only [go_sem, ↓reduceIte, Nat.reduceEqDiff, reduceCtorEq, q0]; rfl) rfl ?_
  refine L_nil ?_
  refine Rcall ?_
  refine ACall_eq (rjoin_ok _ _ l (by omega)) ?_
  rewrite [outT_ne (jn_ne hl)]
  refine Rcall ?_
  refine ACall_eq (same_ok _ _ _ (by omega)) ?_
  refine Rq ?_
  refine Rq ?_
  refine R_end ⟨rfl, ?_⟩
  refine Ly ?_
  refine Lq ?_
  refine Ly ?_
  refine L_q rfl (by simp (disch := first | omega | (simp only [List.length_map, List.length_append, List.length_set, List.length_cons, List.length_nil]; omega)) only [go_sem, ↓reduceIte, Nat.reduceEqDiff, reduceCtorEq, q0]; rfl) rfl ?_
  refine Ly ?_
  refine Lq ?_
  refine Ly ?_
  refine L_q rfl (by simp (disch := first | omega | (simp only [List.length_map, List.length_append, List.length_set, List.length_cons, List.length_nil]; omega)) only [go_sem, ↓reduceIte, Nat.reduceEqDiff, reduceCtorEq, q0]; rfl) rfl ?_
  refine Ly ?_
  refine Lq ?_
  refine Ly ?_
  refine L_q rfl (by simp (disch := first | omega | (simp only [List.length_map, List.length_append, List.length_set, List.length_cons, List.length_nil]; omega)) only [go_sem, ↓reduceIte, Nat.reduceEqDiff, reduceCtorEq, q0]; rfl) rfl ?_
  refine Ly ?_
  refine Lq ?_
  refine Ly ?_
  refine L_q rfl (by simp (disch := first | omega | (simp only [List.length_map, List.length_append, List.length_set, List.length_cons, List.length_nil]; omega)) only [go_sem, ↓reduceIte, Nat.reduceEqDiff, reduceCtorEq, q0]; rfl) rfl ?_
  refine L_nil ?_
  refine Ry ?_
  refine Rcall ?_
  refine ACall_eq (balls_ok _ _ balls l) ?_
  refine Ry ?_
  refine Rcall ?_
  refine ACall_eq (rballs_ok _ _ balls l) ?_
  refine R_end ⟨?_, ?_⟩
  ·
   refine ⟨?_, ?_⟩
   ·
    refine Ry ?_
    refine Rcall ?_
    refine ACall_eq (rballs_ok _ _ balls l) ?_
    refine Ry ?_
    refine Rcall ?_
    refine ACall_eq (balls_ok _ _ balls l) ?_
    refine R_end ?_
    refine same_H (H := H6) ?_
    intro t2 ht
    simp only [List.mem_cons, List.not_mem_nil, or_false] at ht
    rcases ht with rfl | rfl | rfl <;> (simp only [get_cons, put_some, ↓reduceIte, Nat.reduceEqDiff]; rfl)
   exact trivial
  rewrite [keep_all (fun i hi => .inl hi)]
  refine Rp_env (e' := [(25, _), (30, _), (35, _), (19, .any), (20, .any), (21, .any), (22, .any), (23, .any), (24, .any), (25, .any), (26, .any), (27, .any), (28, .any), (29, .any), (30, .any), (31, .any), (32, .any), (33, .any), (34, .any), (35, .any), (36, .any), (37, .any), (0, _), (1, _), (2, _), (3, _), (4, _), (5, _), (6, _), (7, _), (9, _), (15, _), (37, _)]) rfl ?_
  simp only [put_some, get_cons, ↓reduceIte, Nat.reduceEqDiff]
  refine Ry ?_
  refine Rq ?_
  refine Rq ?_
  have tr : ∀ a b c d e f g h i j k m n o p q r s t u v w x y z A B C D E F G H I J : AV, let l := lc_joins_ne a b c d e f g h i j k; trim ((37,J)::(36,I)::(25,H)::(30,G)::(35,F)::(19,E)::(20,D)::(21,C)::(22,B)::(23,A)::(24,z)::(25,y)::(26,x)::(27,w)::(28,v)::(29,u)::(30,t)::(31,s)::(32,r)::(33,q)::(34,p)::(35,o)::(36,n)::(37,m)::l) l = [(0,a),(1,b),(2,c),(3,d),(4,e),(5,f),(6,g),(7,h),(9,i),(15,j),(37,J)] := by intros; rfl
  refine R_nil (tr ..) ?_; clear tr
  refine then_n ?_
  refine cdd (fun h2 => ?_) (fun h2 => ?_)
  ·
   try simp only [decide_eq_true_eq, decide_eq_false_iff_not, Bool.not_eq_true', Bool.not_eq_false', beq_iff_eq, beq_eq_false_iff_ne, ne_eq] at h2
   first | omega | contradiction | exact absurd rfl (by assumption) | exact absurd trivial (by assumption)
  ·
   try simp only [decide_eq_true_eq, decide_eq_false_iff_not, Bool.not_eq_true', Bool.not_eq_false', beq_iff_eq, beq_eq_false_iff_ne, ne_eq] at h2
   refine at_skip rfl ?_
   refine then_n ?_
   refine at_seq rfl ?_
   refine rg rfl ?_
   refine Rq ?_
   refine R_q rfl (by simp (disch := first | omega | (simp only [List.length_map, List.length_append, List.length_set, List.length_cons, List.length_nil]; omega)) only [go_sem, ↓reduceIte, Nat.reduceEqDiff, reduceCtorEq, q0]; rfl) ?_
   refine Rq ?_
   refine R_q rfl (by simp (disch := first | omega | (simp only [List.length_map, List.length_append, List.length_set, List.length_cons, List.length_nil]; omega)) only [go_sem, ↓reduceIte, Nat.reduceEqDiff, reduceCtorEq, q0]; rfl) ?_
   refine Rq ?_
   refine R_q rfl (by simp (disch := first | omega | (simp only [List.length_map, List.length_append, List.length_set, List.length_cons, List.length_nil]; omega)) only [go_sem, ↓reduceIte, Nat.reduceEqDiff, reduceCtorEq, q0]; rfl) ?_
   refine Rq ?_
   refine R_q rfl (by simp (disch := first | omega | (simp only [List.length_map, List.length_append, List.length_set, List.length_cons, List.length_nil]; omega)) only [go_sem, ↓reduceIte, Nat.reduceEqDiff, reduceCtorEq, q0]; rfl) ?_
   refine Rcall ?_
   refine ACall_eq (left_ok _ _ rows per balls l) ?_
   refine Rq ?_
   refine Rq ?_
   refine Rq ?_
   refine Rq ?_
   refine Rq ?_
   have tr : ∀ a b c d e f g h i j k m n o p q r s t u v w x y z : AV, let l := lc_joins_ne a b c d e f g h i j k; trim ((5,z)::(4,y)::(49,x)::(48,w)::(38,v)::(47,u)::(46,t)::(45,s)::(44,r)::(43,q)::(42,p)::(41,o)::(40,n)::(39,m)::l) l = [(0,a),(1,b),(2,c),(3,d),(4,y),(5,z),(6,g),(7,h),(9,i),(15,j),(37,k)] := by intros; rfl
   refine R_nil (tr ..) ?_; clear tr
   refine then_n ?_
   refine at_seq rfl ?_
   refine rg rfl ?_
   refine Rq ?_
   refine R_q rfl (by simp (disch := first | omega | (simp only [List.length_map, List.length_append, List.length_set, List.length_cons, List.length_nil]; omega)) only [go_sem, ↓reduceIte, Nat.reduceEqDiff, reduceCtorEq, q0]; rfl) ?_
   refine Rq ?_
   refine R_q rfl (by simp (disch := first | omega | (simp only [List.length_map, List.length_append, List.length_set, List.length_cons, List.length_nil]; omega)) only [go_sem, ↓reduceIte, Nat.reduceEqDiff, reduceCtorEq, q0]; rfl) ?_
   refine Rq ?_
   refine R_q rfl (by simp (disch := first | omega | (simp only [List.length_map, List.length_append, List.length_set, List.length_cons, List.length_nil]; omega)) only [go_sem, ↓reduceIte, Nat.reduceEqDiff, reduceCtorEq, q0]; rfl) ?_
   refine Rq ?_
   refine Rcall ?_
   refine ACall_eq (left_ok _ _ rows per balls (jn l l.length)) ?_
   refine Rq ?_
   refine Rq ?_
   refine Rq ?_
   refine Rq ?_
   refine Rq ?_
   have tr : ∀ a b c d e f g h i j k m n o p q r s t u v w x y : AV, let l := lc_joins_ne a b c d e f g h i j k; trim ((7,y)::(6,x)::(60,w)::(59,v)::(50,u)::(58,t)::(57,s)::(56,r)::(55,q)::(54,p)::(53,o)::(52,n)::(51,m)::l) l = [(0,a),(1,b),(2,c),(3,d),(4,e),(5,f),(6,x),(7,y),(9,i),(15,j),(37,k)] := by intros; rfl
   refine R_nil (tr ..) ?_; clear tr
   refine then_n ?_
   refine at_seq rfl ?_
   refine rd rfl rfl ?_
   refine Qq ?_
   refine Qq ?_
   refine Qq ?_
   refine Qp_split (fun h3 => ?_) (fun h3 => ?_)
   ·
    try simp only [decide_eq_true_eq, decide_eq_false_iff_not, Bool.not_eq_true', Bool.not_eq_false', beq_iff_eq, beq_eq_false_iff_ne, ne_eq] at h3
    refine Qn ?_
    refine Qn ?_
    refine Qn ?_
    refine Qu ?_
    refine Qu ?_
    refine Qu ?_
    refine Qn ?_
    refine Qn ?_
    refine Qu ?_
    refine Qu ?_
    refine Qu ?_
    refine Qu ?_
    refine Qu ?_
    refine Qu ?_
    refine Qu ?_
    refine Qu ?_
    refine Qu ?_
    refine Qu ?_
    refine Qn ?_
    refine Qq ?_
    refine Qq ?_
    refine Q_nil ?_
    have tr : ∀ a b c d e f g h i j k m n o p q r s t u v w x y z A B C D E F G H I J : AV, let l := lc_joins_ne a b c d e f g h i j k; trim ((2,J)::(83,I)::(82,H)::(81,G)::(80,F)::(79,E)::(78,D)::(77,C)::(76,B)::(75,A)::(74,z)::(73,y)::(72,x)::(71,w)::(70,v)::(69,u)::(68,t)::(67,s)::(66,r)::(65,q)::(64,p)::(63,o)::(62,n)::(61,m)::l) l = [(0,a),(1,b),(2,J),(3,d),(4,e),(5,f),(6,g),(7,h),(9,i),(15,j),(37,k)] := by intros; rfl
    refine R_nil (tr ..) ?_; clear tr
    refine then_n ?_
    refine at_ret rfl ?_
    refine fpure ?_
    first | rfl | simp
   ·
    try simp only [decide_eq_true_eq, decide_eq_false_iff_not, Bool.not_eq_true', Bool.not_eq_false', beq_iff_eq, beq_eq_false_iff_ne, ne_eq] at h3
    have hlz : (leftS rows per balls l).2 = 0 := by assumption
    obtain ⟨hc, hle⟩ := left_zero hlz
    have hrl : rows.length ≤ 1000 := by have := (check_shaped hc.tab).most; omega
    rewrite [join_left hc]
    refine Qy ?_
    refine Qq ?_
    refine Qy ?_
    refine Qq ?_
    refine Qy ?_
    refine Qq ?_
    refine Qp_split (fun h4 => ?_) (fun h4 => ?_)
    ·
     try simp only [decide_eq_true_eq, decide_eq_false_iff_not, Bool.not_eq_true', Bool.not_eq_false', beq_iff_eq, beq_eq_false_iff_ne, ne_eq] at h4
     refine Qy ?_
     refine Qq ?_
     refine Qy ?_
     refine Qq ?_
     refine Qy ?_
     refine Qq ?_
     refine Qy ?_
     refine Qq ?_
     refine Qy ?_
     refine Qq ?_
     refine Qp_split (fun h5 => ?_) (fun h5 => ?_)
     ·
      try simp only [decide_eq_true_eq, decide_eq_false_iff_not, Bool.not_eq_true', Bool.not_eq_false', beq_iff_eq, beq_eq_false_iff_ne, ne_eq] at h5
      refine Qy ?_
      refine Qq ?_
      refine Qy ?_
      refine Q_q rfl (by simp (disch := first | omega | (simp only [List.length_map, List.length_append, List.length_set, List.length_cons, List.length_nil]; omega)) only [go_sem, ↓reduceIte, Nat.reduceEqDiff, reduceCtorEq, q0]; rfl) ?_
      refine Qy ?_
      refine Qq ?_
      refine Qy ?_
      refine Qcall ?_
      refine ACall_eq (balls_ok _ _ balls (jn l l.length)) ?_
      refine ⟨rfl, ?_⟩
      rewrite [join_balls hc hrl]
      refine Qy ?_
      refine Qq ?_
      refine Qy ?_
      refine Q_q rfl (by simp (disch := first | omega | (simp only [List.length_map, List.length_append, List.length_set, List.length_cons, List.length_nil]; omega)) only [go_sem, ↓reduceIte, Nat.reduceEqDiff, reduceCtorEq, q0]; rfl) ?_
      refine Qy ?_
      refine Qq ?_
      refine Qy ?_
      refine Q_q rfl (by simp (disch := first | omega | (simp only [List.length_map, List.length_append, List.length_set, List.length_cons, List.length_nil]; omega)) only [go_sem, ↓reduceIte, Nat.reduceEqDiff, reduceCtorEq, q0]; rfl) ?_
      refine Qy ?_
      refine Qcall ?_
      refine ACall_eq (balls_ok _ _ balls l) ?_
      refine ⟨rfl, ?_⟩
      refine Qy ?_
      refine Qq ?_
      refine Qy ?_
      refine Qq ?_
      refine Qq ?_
      refine Qq ?_
      refine Q_nil ?_
      have tr : ∀ a b c d e f g h i j k m n o p q r s t u v w x y z A B C D E F G H I J : AV, let l := lc_joins_ne a b c d e f g h i j k; trim ((2,J)::(83,I)::(82,H)::(81,G)::(80,F)::(79,E)::(78,D)::(77,C)::(76,B)::(75,A)::(74,z)::(73,y)::(72,x)::(71,w)::(70,v)::(69,u)::(68,t)::(67,s)::(66,r)::(65,q)::(64,p)::(63,o)::(62,n)::(61,m)::l) l = [(0,a),(1,b),(2,J),(3,d),(4,e),(5,f),(6,g),(7,h),(9,i),(15,j),(37,k)] := by intros; rfl
      refine R_nil (tr ..) ?_; clear tr
      refine then_n ?_
      refine at_ret rfl ?_
      refine fpure ?_
      first | rfl | simp
     ·
      try simp only [decide_eq_true_eq, decide_eq_false_iff_not, Bool.not_eq_true', Bool.not_eq_false', beq_iff_eq, beq_eq_false_iff_ne, ne_eq] at h5
      first | omega | contradiction | exact absurd rfl (by assumption) | exact absurd trivial (by assumption)
    ·
     try simp only [decide_eq_true_eq, decide_eq_false_iff_not, Bool.not_eq_true', Bool.not_eq_false', beq_iff_eq, beq_eq_false_iff_ne, ne_eq] at h4
     exact absurd hlz (by assumption)

theorem rjoins_ok (rows : Tb) (per balls : Int) (l : List Stp) : ACall sig 0 14 [.agg [rowsAV rows, AV.i per, AV.i balls, stopsAV l]] [] fun r _ => r = .v (.bool true) := by
  by_cases h : l = []
  · exact joins_nil 0 [] rows per balls l h
  · exact joins_ne 0 [] rows per balls l h

end Go.Proofs.Ytaoondlakhocnaa
