/-
  Texts of AttackCosts, part 10 of 17. Walks of chapters 46, 43 and 42. The steps are written by program (walk.py).
-/
import Derived.Test.YtplockpopmaejaaKAttackCosts7
import Derived.Test.YtplockpopmaejaaKAttackCosts8
section
set_option linter.unusedSimpArgs false
set_option linter.unusedVariables false
set_option maxHeartbeats 40000000
set_option maxRecDepth 4000
namespace Go.Proofs.Ytplockpopmaejaa
open Go Go.Am

abbrev lc_chkm10 (a b c d e f g h i j k m n o p q r s t u v w x y : AV) : Env := [(0,a),(1,b),(2,c),(3,d),(4,e),(5,f),(6,g),(7,h),(8,i),(19,j),(31,k),(32,m),(33,n),(34,o),(38,p),(43,q),(54,r),(58,s),(59,t),(60,u),(61,v),(65,w),(70,x),(77,y)]
theorem chkm10 (lim : Nat) (H : Heap) (l : List Bt) (m : List Bw) (hL : ∀ u, u < l.length → (gt l u).nm.size ≤ 9223372036854775807) (hM : ∀ u, u < m.length → (gt m u).nm.size ≤ 9223372036854775807) (h1 : l.length ≤ 100000) (h2 : m.length ≤ 100000) : ACall sig lim 10 [.agg [btsAV l, bwsAV m]] H fun r H' => r = AV.i (chkM l m) ∧ H' = H := by
 refine ACall_pure (fa := fa10) rfl rfl rfl rfl ?_
 have tr : ∀ a0 : AV, env0 fa10.keep [a0] = [(0,a0),(1,.any),(2,.any),(3,.any),(4,.any),(5,.any),(6,.any),(7,.any),(8,.any),(19,.any),(31,.any),(32,.any),(33,.any),(34,.any),(38,.any),(43,.any),(54,.any),(58,.any),(59,.any),(60,.any),(61,.any),(65,.any),(70,.any),(77,.any)] := fun a0 => rfl
 refine W_to (tr _) ?_; clear tr
 refine at_seq rfl ?_
 refine rg rfl ?_
 refine R_box rfl (by simp (disch := first | omega | (simp only [List.length_map, List.length_append, List.length_set, List.length_cons, List.length_nil]; omega)) only [go_sem, ↓reduceIte, Nat.reduceEqDiff, reduceCtorEq] <;> rfl) rfl rfl ?_
 refine Rq ?_
 have tr : ∀ a b c d e f g h i j k m n o p q r s t u v w x y z A : AV, let l := lc_chkm10 a b c d e f g h i j k m n o p q r s t u v w x y; trim ((2,A)::(1,z)::l) l = [(0,a),(1,z),(2,A),(3,d),(4,e),(5,f),(6,g),(7,h),(8,i),(19,j),(31,k),(32,m),(33,n),(34,o),(38,p),(43,q),(54,r),(58,s),(59,t),(60,u),(61,v),(65,w),(70,x),(77,y)] := by intros; rfl
 refine R_nil (tr ..) ?_; clear tr
 refine then_n ?_
 refine at_seq rfl ?_
 refine at_block rfl ?_
 refine at_seq rfl ?_
 refine rg rfl ?_
 refine Rq ?_
 refine Rq ?_
 refine Rq ?_
 refine Rq ?_
 refine Rq ?_
 refine Rp_split (fun h1 => ?_) (fun h1 => ?_)
 ·
  try simp only [decide_eq_true_eq, decide_eq_false_iff_not, Bool.not_eq_true', Bool.not_eq_false', beq_iff_eq, beq_eq_false_iff_ne, ne_eq] at h1
  refine Rn ?_
  refine Rn ?_
  refine Rn ?_
  refine Rn ?_
  refine Rq ?_
  refine Rq ?_
  have tr : ∀ a b c d e f g h i j k m n o p q r s t u v w x y z A B C D E F G H I J : AV, let l := lc_chkm10 a b c d e f g h i j k m n o p q r s t u v w x y; trim ((8,J)::(18,I)::(17,H)::(16,G)::(15,F)::(14,E)::(13,D)::(12,C)::(11,B)::(10,A)::(9,z)::l) l = [(0,a),(1,b),(2,c),(3,d),(4,e),(5,f),(6,g),(7,h),(8,J),(19,j),(31,k),(32,m),(33,n),(34,o),(38,p),(43,q),(54,r),(58,s),(59,t),(60,u),(61,v),(65,w),(70,x),(77,y)] := by intros; rfl
  refine R_nil (tr ..) ?_; clear tr
  refine then_n ?_
  refine cdt ?_
  refine at_seq rfl ?_
  refine rg rfl ?_
  refine Rq ?_
  have tr : ∀ a b c d e f g h i j k m n o p q r s t u v w x y z : AV, let l := lc_chkm10 a b c d e f g h i j k m n o p q r s t u v w x y; trim ((2,z)::l) l = [(0,a),(1,b),(2,z),(3,d),(4,e),(5,f),(6,g),(7,h),(8,i),(19,j),(31,k),(32,m),(33,n),(34,o),(38,p),(43,q),(54,r),(58,s),(59,t),(60,u),(61,v),(65,w),(70,x),(77,y)] := by intros; rfl
  refine R_nil (tr ..) ?_; clear tr
  refine then_n ?_
  refine at_ret rfl ?_
  refine blk_r ?_
  refine then_r ?_
  first | (refine fpure ?_; refine ⟨?_, rfl⟩; rw [chkM, if_pos (by omega)]) | (refine fpure ?_; refine ⟨?_, rfl⟩; rw [chkM, if_neg (by omega), if_pos (by omega)]) | (refine fpure ?_; refine ⟨?_, rfl⟩; have he : btE l u = 5 := (by rw [btE, if_pos (by assumption)]); have hne : btE l u ≠ 0 := (by rw [he]; first | decide | assumption); have hc := ferr_at hf hne l.length (by omega); rw [chkM, if_neg (by omega), if_neg (by omega), if_pos (by rw [hc]; exact hne), hc, he]) | (refine fpure ?_; refine ⟨?_, rfl⟩; have he : btE l u = 7 := (by rw [btE, if_neg (by simp_all), if_pos (by omega)]); have hne : btE l u ≠ 0 := (by rw [he]; first | decide | assumption); have hc := ferr_at hf hne l.length (by omega); rw [chkM, if_neg (by omega), if_neg (by omega), if_pos (by rw [hc]; exact hne), hc, he]) | (refine fpure ?_; refine ⟨?_, rfl⟩; have he : btE l u = chkD (gt l u).ds := (by rw [btE, if_neg (by simp_all), if_neg (by omega)]); have hne : btE l u ≠ 0 := (by rw [he]; first | decide | assumption); have hc := ferr_at hf hne l.length (by omega); rw [chkM, if_neg (by omega), if_neg (by omega), if_pos (by rw [hc]; exact hne), hc, he]) | (refine fpure ?_; refine ⟨?_, rfl⟩; have hub : u = l.length := (by omega); subst hub; have he : bwE m v = 5 := (by rw [bwE, if_pos (by assumption)]); have hc := ferr_at hg (by rw [he]; decide) m.length (by omega); rw [chkM, if_neg (by omega), if_neg (by omega), if_neg (fun hh => hh hf), hc, he]) | (refine fpure ?_; refine ⟨?_, rfl⟩; have hub : u = l.length := (by omega); subst hub; have he : bwE m v = 7 := (by rw [bwE, if_neg (by simp_all), if_pos (by omega)]); have hc := ferr_at hg (by rw [he]; decide) m.length (by omega); rw [chkM, if_neg (by omega), if_neg (by omega), if_neg (fun hh => hh hf), hc, he]) | (refine fpure ?_; refine ⟨?_, rfl⟩; have hub : u = l.length := (by omega); subst hub; have he : bwE m v = 2 := (by rw [bwE, if_neg (by simp_all), if_neg (by omega), if_pos (by omega)]); have hc := ferr_at hg (by rw [he]; decide) m.length (by omega); rw [chkM, if_neg (by omega), if_neg (by omega), if_neg (fun hh => hh hf), hc, he]) | (refine fpure ?_; refine ⟨?_, rfl⟩; have hub : u = l.length := (by omega); have hvb : v = m.length := (by omega); subst hub; subst hvb; rw [chkM, if_neg (by omega), if_neg (by omega), if_neg (fun hh => hh hf), hg])
 ·
  try simp only [decide_eq_true_eq, decide_eq_false_iff_not, Bool.not_eq_true', Bool.not_eq_false', beq_iff_eq, beq_eq_false_iff_ne, ne_eq] at h1
  refine Ry ?_
  refine Rq ?_
  refine Ry ?_
  refine Rq ?_
  refine Ry ?_
  refine Rq ?_
  refine Ry ?_
  refine Rq ?_
  refine Rq ?_
  refine Rq ?_
  have tr : ∀ a b c d e f g h i j k m n o p q r s t u v w x y z A B C D E F G H I J : AV, let l := lc_chkm10 a b c d e f g h i j k m n o p q r s t u v w x y; trim ((8,J)::(18,I)::(17,H)::(16,G)::(15,F)::(14,E)::(13,D)::(12,C)::(11,B)::(10,A)::(9,z)::l) l = [(0,a),(1,b),(2,c),(3,d),(4,e),(5,f),(6,g),(7,h),(8,J),(19,j),(31,k),(32,m),(33,n),(34,o),(38,p),(43,q),(54,r),(58,s),(59,t),(60,u),(61,v),(65,w),(70,x),(77,y)] := by intros; rfl
  refine R_nil (tr ..) ?_; clear tr
  refine then_n ?_
  refine cdd (fun h2 => ?_) (fun h2 => ?_)
  ·
   try simp only [decide_eq_true_eq, decide_eq_false_iff_not, Bool.not_eq_true', Bool.not_eq_false', beq_iff_eq, beq_eq_false_iff_ne, ne_eq] at h2
   refine at_seq rfl ?_
   refine rg rfl ?_
   refine Rq ?_
   have tr : ∀ a b c d e f g h i j k m n o p q r s t u v w x y z : AV, let l := lc_chkm10 a b c d e f g h i j k m n o p q r s t u v w x y; trim ((2,z)::l) l = [(0,a),(1,b),(2,z),(3,d),(4,e),(5,f),(6,g),(7,h),(8,i),(19,j),(31,k),(32,m),(33,n),(34,o),(38,p),(43,q),(54,r),(58,s),(59,t),(60,u),(61,v),(65,w),(70,x),(77,y)] := by intros; rfl
   refine R_nil (tr ..) ?_; clear tr
   refine then_n ?_
   refine at_ret rfl ?_
   refine blk_r ?_
   refine then_r ?_
   first | (refine fpure ?_; refine ⟨?_, rfl⟩; rw [chkM, if_pos (by omega)]) | (refine fpure ?_; refine ⟨?_, rfl⟩; rw [chkM, if_neg (by omega), if_pos (by omega)]) | (refine fpure ?_; refine ⟨?_, rfl⟩; have he : btE l u = 5 := (by rw [btE, if_pos (by assumption)]); have hne : btE l u ≠ 0 := (by rw [he]; first | decide | assumption); have hc := ferr_at hf hne l.length (by omega); rw [chkM, if_neg (by omega), if_neg (by omega), if_pos (by rw [hc]; exact hne), hc, he]) | (refine fpure ?_; refine ⟨?_, rfl⟩; have he : btE l u = 7 := (by rw [btE, if_neg (by simp_all), if_pos (by omega)]); have hne : btE l u ≠ 0 := (by rw [he]; first | decide | assumption); have hc := ferr_at hf hne l.length (by omega); rw [chkM, if_neg (by omega), if_neg (by omega), if_pos (by rw [hc]; exact hne), hc, he]) | (refine fpure ?_; refine ⟨?_, rfl⟩; have he : btE l u = chkD (gt l u).ds := (by rw [btE, if_neg (by simp_all), if_neg (by omega)]); have hne : btE l u ≠ 0 := (by rw [he]; first | decide | assumption); have hc := ferr_at hf hne l.length (by omega); rw [chkM, if_neg (by omega), if_neg (by omega), if_pos (by rw [hc]; exact hne), hc, he]) | (refine fpure ?_; refine ⟨?_, rfl⟩; have hub : u = l.length := (by omega); subst hub; have he : bwE m v = 5 := (by rw [bwE, if_pos (by assumption)]); have hc := ferr_at hg (by rw [he]; decide) m.length (by omega); rw [chkM, if_neg (by omega), if_neg (by omega), if_neg (fun hh => hh hf), hc, he]) | (refine fpure ?_; refine ⟨?_, rfl⟩; have hub : u = l.length := (by omega); subst hub; have he : bwE m v = 7 := (by rw [bwE, if_neg (by simp_all), if_pos (by omega)]); have hc := ferr_at hg (by rw [he]; decide) m.length (by omega); rw [chkM, if_neg (by omega), if_neg (by omega), if_neg (fun hh => hh hf), hc, he]) | (refine fpure ?_; refine ⟨?_, rfl⟩; have hub : u = l.length := (by omega); subst hub; have he : bwE m v = 2 := (by rw [bwE, if_neg (by simp_all), if_neg (by omega), if_pos (by omega)]); have hc := ferr_at hg (by rw [he]; decide) m.length (by omega); rw [chkM, if_neg (by omega), if_neg (by omega), if_neg (fun hh => hh hf), hc, he]) | (refine fpure ?_; refine ⟨?_, rfl⟩; have hub : u = l.length := (by omega); have hvb : v = m.length := (by omega); subst hub; subst hvb; rw [chkM, if_neg (by omega), if_neg (by omega), if_neg (fun hh => hh hf), hg])
  ·
   try simp only [decide_eq_true_eq, decide_eq_false_iff_not, Bool.not_eq_true', Bool.not_eq_false', beq_iff_eq, beq_eq_false_iff_ne, ne_eq] at h2
   refine at_seq rfl ?_
   refine rg rfl ?_
   refine Rq ?_
   refine Rq ?_
   refine Rq ?_
   refine Rq ?_
   refine Rq ?_
   refine Rp_split (fun h3 => ?_) (fun h3 => ?_)
   ·
    try simp only [decide_eq_true_eq, decide_eq_false_iff_not, Bool.not_eq_true', Bool.not_eq_false', beq_iff_eq, beq_eq_false_iff_ne, ne_eq] at h3
    refine Rn ?_
    refine Rn ?_
    refine Rn ?_
    refine Rn ?_
    refine Rq ?_
    refine Rq ?_
    have tr : ∀ a b c d e f g h i j k m n o p q r s t u v w x y z A B C D E F G H I J : AV, let l := lc_chkm10 a b c d e f g h i j k m n o p q r s t u v w x y; trim ((19,J)::(29,I)::(28,H)::(27,G)::(26,F)::(25,E)::(24,D)::(23,C)::(22,B)::(21,A)::(20,z)::l) l = [(0,a),(1,b),(2,c),(3,d),(4,e),(5,f),(6,g),(7,h),(8,i),(19,J),(31,k),(32,m),(33,n),(34,o),(38,p),(43,q),(54,r),(58,s),(59,t),(60,u),(61,v),(65,w),(70,x),(77,y)] := by intros; rfl
    refine R_nil (tr ..) ?_; clear tr
    refine then_n ?_
    refine cdt ?_
    refine at_seq rfl ?_
    refine rg rfl ?_
    refine Rq ?_
    have tr : ∀ a b c d e f g h i j k m n o p q r s t u v w x y z : AV, let l := lc_chkm10 a b c d e f g h i j k m n o p q r s t u v w x y; trim ((2,z)::l) l = [(0,a),(1,b),(2,z),(3,d),(4,e),(5,f),(6,g),(7,h),(8,i),(19,j),(31,k),(32,m),(33,n),(34,o),(38,p),(43,q),(54,r),(58,s),(59,t),(60,u),(61,v),(65,w),(70,x),(77,y)] := by intros; rfl
    refine R_nil (tr ..) ?_; clear tr
    refine then_n ?_
    refine at_ret rfl ?_
    refine blk_r ?_
    refine then_r ?_
    first | (refine fpure ?_; refine ⟨?_, rfl⟩; rw [chkM, if_pos (by omega)]) | (refine fpure ?_; refine ⟨?_, rfl⟩; rw [chkM, if_neg (by omega), if_pos (by omega)]) | (refine fpure ?_; refine ⟨?_, rfl⟩; have he : btE l u = 5 := (by rw [btE, if_pos (by assumption)]); have hne : btE l u ≠ 0 := (by rw [he]; first | decide | assumption); have hc := ferr_at hf hne l.length (by omega); rw [chkM, if_neg (by omega), if_neg (by omega), if_pos (by rw [hc]; exact hne), hc, he]) | (refine fpure ?_; refine ⟨?_, rfl⟩; have he : btE l u = 7 := (by rw [btE, if_neg (by simp_all), if_pos (by omega)]); have hne : btE l u ≠ 0 := (by rw [he]; first | decide | assumption); have hc := ferr_at hf hne l.length (by omega); rw [chkM, if_neg (by omega), if_neg (by omega), if_pos (by rw [hc]; exact hne), hc, he]) | (refine fpure ?_; refine ⟨?_, rfl⟩; have he : btE l u = chkD (gt l u).ds := (by rw [btE, if_neg (by simp_all), if_neg (by omega)]); have hne : btE l u ≠ 0 := (by rw [he]; first | decide | assumption); have hc := ferr_at hf hne l.length (by omega); rw [chkM, if_neg (by omega), if_neg (by omega), if_pos (by rw [hc]; exact hne), hc, he]) | (refine fpure ?_; refine ⟨?_, rfl⟩; have hub : u = l.length := (by omega); subst hub; have he : bwE m v = 5 := (by rw [bwE, if_pos (by assumption)]); have hc := ferr_at hg (by rw [he]; decide) m.length (by omega); rw [chkM, if_neg (by omega), if_neg (by omega), if_neg (fun hh => hh hf), hc, he]) | (refine fpure ?_; refine ⟨?_, rfl⟩; have hub : u = l.length := (by omega); subst hub; have he : bwE m v = 7 := (by rw [bwE, if_neg (by simp_all), if_pos (by omega)]); have hc := ferr_at hg (by rw [he]; decide) m.length (by omega); rw [chkM, if_neg (by omega), if_neg (by omega), if_neg (fun hh => hh hf), hc, he]) | (refine fpure ?_; refine ⟨?_, rfl⟩; have hub : u = l.length := (by omega); subst hub; have he : bwE m v = 2 := (by rw [bwE, if_neg (by simp_all), if_neg (by omega), if_pos (by omega)]); have hc := ferr_at hg (by rw [he]; decide) m.length (by omega); rw [chkM, if_neg (by omega), if_neg (by omega), if_neg (fun hh => hh hf), hc, he]) | (refine fpure ?_; refine ⟨?_, rfl⟩; have hub : u = l.length := (by omega); have hvb : v = m.length := (by omega); subst hub; subst hvb; rw [chkM, if_neg (by omega), if_neg (by omega), if_neg (fun hh => hh hf), hg])
   ·
    try simp only [decide_eq_true_eq, decide_eq_false_iff_not, Bool.not_eq_true', Bool.not_eq_false', beq_iff_eq, beq_eq_false_iff_ne, ne_eq] at h3
    refine Ry ?_
    refine Rq ?_
    refine Ry ?_
    refine Rq ?_
    refine Ry ?_
    refine Rq ?_
    refine Ry ?_
    refine Rq ?_
    refine Rq ?_
    refine Rq ?_
    have tr : ∀ a b c d e f g h i j k m n o p q r s t u v w x y z A B C D E F G H I J : AV, let l := lc_chkm10 a b c d e f g h i j k m n o p q r s t u v w x y; trim ((19,J)::(29,I)::(28,H)::(27,G)::(26,F)::(25,E)::(24,D)::(23,C)::(22,B)::(21,A)::(20,z)::l) l = [(0,a),(1,b),(2,c),(3,d),(4,e),(5,f),(6,g),(7,h),(8,i),(19,J),(31,k),(32,m),(33,n),(34,o),(38,p),(43,q),(54,r),(58,s),(59,t),(60,u),(61,v),(65,w),(70,x),(77,y)] := by intros; rfl
    refine R_nil (tr ..) ?_; clear tr
    refine then_n ?_
    refine cdd (fun h4 => ?_) (fun h4 => ?_)
    ·
     try simp only [decide_eq_true_eq, decide_eq_false_iff_not, Bool.not_eq_true', Bool.not_eq_false', beq_iff_eq, beq_eq_false_iff_ne, ne_eq] at h4
     refine at_seq rfl ?_
     refine rg rfl ?_
     refine Rq ?_
     have tr : ∀ a b c d e f g h i j k m n o p q r s t u v w x y z : AV, let l := lc_chkm10 a b c d e f g h i j k m n o p q r s t u v w x y; trim ((2,z)::l) l = [(0,a),(1,b),(2,z),(3,d),(4,e),(5,f),(6,g),(7,h),(8,i),(19,j),(31,k),(32,m),(33,n),(34,o),(38,p),(43,q),(54,r),(58,s),(59,t),(60,u),(61,v),(65,w),(70,x),(77,y)] := by intros; rfl
     refine R_nil (tr ..) ?_; clear tr
     refine then_n ?_
     refine at_ret rfl ?_
     refine blk_r ?_
     refine then_r ?_
     first | (refine fpure ?_; refine ⟨?_, rfl⟩; rw [chkM, if_pos (by omega)]) | (refine fpure ?_; refine ⟨?_, rfl⟩; rw [chkM, if_neg (by omega), if_pos (by omega)]) | (refine fpure ?_; refine ⟨?_, rfl⟩; have he : btE l u = 5 := (by rw [btE, if_pos (by assumption)]); have hne : btE l u ≠ 0 := (by rw [he]; first | decide | assumption); have hc := ferr_at hf hne l.length (by omega); rw [chkM, if_neg (by omega), if_neg (by omega), if_pos (by rw [hc]; exact hne), hc, he]) | (refine fpure ?_; refine ⟨?_, rfl⟩; have he : btE l u = 7 := (by rw [btE, if_neg (by simp_all), if_pos (by omega)]); have hne : btE l u ≠ 0 := (by rw [he]; first | decide | assumption); have hc := ferr_at hf hne l.length (by omega); rw [chkM, if_neg (by omega), if_neg (by omega), if_pos (by rw [hc]; exact hne), hc, he]) | (refine fpure ?_; refine ⟨?_, rfl⟩; have he : btE l u = chkD (gt l u).ds := (by rw [btE, if_neg (by simp_all), if_neg (by omega)]); have hne : btE l u ≠ 0 := (by rw [he]; first | decide | assumption); have hc := ferr_at hf hne l.length (by omega); rw [chkM, if_neg (by omega), if_neg (by omega), if_pos (by rw [hc]; exact hne), hc, he]) | (refine fpure ?_; refine ⟨?_, rfl⟩; have hub : u = l.length := (by omega); subst hub; have he : bwE m v = 5 := (by rw [bwE, if_pos (by assumption)]); have hc := ferr_at hg (by rw [he]; decide) m.length (by omega); rw [chkM, if_neg (by omega), if_neg (by omega), if_neg (fun hh => hh hf), hc, he]) | (refine fpure ?_; refine ⟨?_, rfl⟩; have hub : u = l.length := (by omega); subst hub; have he : bwE m v = 7 := (by rw [bwE, if_neg (by simp_all), if_pos (by omega)]); have hc := ferr_at hg (by rw [he]; decide) m.length (by omega); rw [chkM, if_neg (by omega), if_neg (by omega), if_neg (fun hh => hh hf), hc, he]) | (refine fpure ?_; refine ⟨?_, rfl⟩; have hub : u = l.length := (by omega); subst hub; have he : bwE m v = 2 := (by rw [bwE, if_neg (by simp_all), if_neg (by omega), if_pos (by omega)]); have hc := ferr_at hg (by rw [he]; decide) m.length (by omega); rw [chkM, if_neg (by omega), if_neg (by omega), if_neg (fun hh => hh hf), hc, he]) | (refine fpure ?_; refine ⟨?_, rfl⟩; have hub : u = l.length := (by omega); have hvb : v = m.length := (by omega); subst hub; subst hvb; rw [chkM, if_neg (by omega), if_neg (by omega), if_neg (fun hh => hh hf), hg])
    ·
     try simp only [decide_eq_true_eq, decide_eq_false_iff_not, Bool.not_eq_true', Bool.not_eq_false', beq_iff_eq, beq_eq_false_iff_ne, ne_eq] at h4
     refine at_skip rfl ?_
     refine blk_n ?_
     refine then_n ?_
     refine at_seq rfl ?_
     refine at_seq rfl ?_
     refine rg rfl ?_
     refine Rq ?_
     refine Rq ?_
     refine Rq ?_
     refine Rq ?_
     have tr : ∀ a b c d e f g h i j k m n o p q r s t u v w x y z A B C : AV, let l := lc_chkm10 a b c d e f g h i j k m n o p q r s t u v w x y; trim ((33,C)::(32,B)::(31,A)::(30,z)::l) l = [(0,a),(1,b),(2,c),(3,d),(4,e),(5,f),(6,g),(7,h),(8,i),(19,j),(31,A),(32,B),(33,C),(34,o),(38,p),(43,q),(54,r),(58,s),(59,t),(60,u),(61,v),(65,w),(70,x),(77,y)] := by intros; rfl
     refine R_nil (tr ..) ?_; clear tr
     refine then_n ?_
     refine at_block rfl ?_
     refine loop_n rfl (fun mm kv H' => ∃ u : Nat, ∃ X : Heap, ∃ x2 x3 x4 x5 x34 x38 x43 x54 : AV, (kv = [(2, x2), (3, x3), (4, x4), (5, x5), (33, AV.i u), (34, x34), (38, x38), (43, x43), (54, x54)]) ∧ (mm = l.length - u) ∧ (H' = H ++ [some [btsAV l, bwsAV m]] ++ X) ∧ (u ≤ l.length) ∧ (ferr (btE l) u = 0)) ⟨0, [], _, _, _, _, _, _, _, _, rfl, rfl, by simp, by omega, by rfl⟩ (by rfl) ?_
     rintro mm kv H1 ⟨u, X, x2, x3, x4, x5, x34, x38, x43, x54, rfl, rfl, hX, hu, hf⟩
     have tr : ∀ a b c d e f g h i j k m n o p q r s t u v w x y z A B C D E F G H : AV, upd [(0,a),(1,b),(2,c),(3,d),(4,e),(5,f),(6,g),(7,h),(8,i),(19,j),(31,k),(32,m),(33,n),(34,o),(38,p),(43,q),(54,r),(58,s),(59,t),(60,u),(61,v),(65,w),(70,x),(77,y)] [(2,z),(3,A),(4,B),(5,C),(33,D),(34,E),(38,F),(43,G),(54,H)] = [(0,a),(1,b),(2,z),(3,A),(4,B),(5,C),(6,g),(7,h),(8,i),(19,j),(31,k),(32,m),(33,D),(34,E),(38,F),(43,G),(54,H),(58,s),(59,t),(60,u),(61,v),(65,w),(70,x),(77,y)] := by intros; rfl
     refine W_to (tr ..) ?_; clear tr
     subst hX
     refine at_seq rfl ?_
     refine rg rfl ?_
     refine Rq ?_
     have tr : ∀ a b c d e f g h i j k m n o p q r s t u v w x y z : AV, let l := lc_chkm10 a b c d e f g h i j k m n o p q r s t u v w x y; trim ((34,z)::l) l = [(0,a),(1,b),(2,c),(3,d),(4,e),(5,f),(6,g),(7,h),(8,i),(19,j),(31,k),(32,m),(33,n),(34,z),(38,p),(43,q),(54,r),(58,s),(59,t),(60,u),(61,v),(65,w),(70,x),(77,y)] := by intros; rfl
     refine R_nil (tr ..) ?_; clear tr
     refine then_n ?_
     refine at_seq rfl ?_
     refine cdd (fun h5 => ?_) (fun h5 => ?_)
     ·
      try simp only [decide_eq_true_eq, decide_eq_false_iff_not, Bool.not_eq_true', Bool.not_eq_false', beq_iff_eq, beq_eq_false_iff_ne, ne_eq] at h5
      refine at_skip rfl ?_
      refine then_n ?_
      refine at_seq rfl ?_
      refine at_block rfl ?_
      refine at_seq rfl ?_
      refine rg rfl ?_
      refine Rq ?_
      refine Rq ?_
      refine Rq ?_
      refine R_alloc (by simp (disch := first | omega | (simp only [List.length_map, List.length_append, List.length_set, List.length_cons, List.length_nil]; omega)) only [go_sem, ↓reduceIte, Nat.reduceEqDiff, reduceCtorEq] <;> rfl) rfl (by simp only [List.map_cons, List.map_nil]; rfl) ?_
      refine Rq ?_
      refine R_store ty31 (by simp (disch := first | omega | (simp only [List.length_map, List.length_append, List.length_set, List.length_cons, List.length_nil]; omega)) only [go_sem, ↓reduceIte, Nat.reduceEqDiff, reduceCtorEq] <;> rfl) (by simp (disch := first | omega | (simp only [List.length_map, List.length_append, List.length_set, List.length_cons, List.length_nil]; omega)) only [go_sem, ↓reduceIte, Nat.reduceEqDiff, reduceCtorEq] <;> rfl) (by simp (disch := first | omega | (simp only [List.length_map, List.length_append, List.length_set, List.length_cons, List.length_nil]; omega)) only [go_sem, ↓reduceIte, Nat.reduceEqDiff, reduceCtorEq] <;> rfl) (by simp) (by rfl) (by simp (disch := first | omega | (simp only [List.length_map, List.length_append, List.length_set, List.length_cons, List.length_nil]; omega)) only [go_sem, ↓reduceIte, Nat.reduceEqDiff, reduceCtorEq] <;> rfl) ?_
      have tr : ∀ a b c d e f g h i j k m n o p q r s t u v w x y z A B C D : AV, let l := lc_chkm10 a b c d e f g h i j k m n o p q r s t u v w x y; trim ((3,D)::(4,C)::(37,B)::(36,A)::(35,z)::l) l = [(0,a),(1,b),(2,c),(3,D),(4,C),(5,f),(6,g),(7,h),(8,i),(19,j),(31,k),(32,m),(33,n),(34,o),(38,p),(43,q),(54,r),(58,s),(59,t),(60,u),(61,v),(65,w),(70,x),(77,y)] := by intros; rfl
      refine R_nil (tr ..) ?_; clear tr
      refine then_n ?_
      refine at_seq rfl ?_
      refine at_block rfl ?_
      refine at_seq rfl ?_
      refine rg rfl ?_
      refine Rq ?_
      refine Rq ?_
      refine Rcall ?_
      refine ACall_eq (name_ok23 _ _ (gt l u).nm (hL u (by omega))) ?_
      refine Rq ?_
      refine Rq ?_
      have tr : ∀ a b c d e f g h i j k m n o p q r s t u v w x y z A B C D : AV, let l := lc_chkm10 a b c d e f g h i j k m n o p q r s t u v w x y; trim ((38,D)::(42,C)::(41,B)::(40,A)::(39,z)::l) l = [(0,a),(1,b),(2,c),(3,d),(4,e),(5,f),(6,g),(7,h),(8,i),(19,j),(31,k),(32,m),(33,n),(34,o),(38,D),(43,q),(54,r),(58,s),(59,t),(60,u),(61,v),(65,w),(70,x),(77,y)] := by intros; rfl
      refine R_nil (tr ..) ?_; clear tr
      refine then_n ?_
      refine cdd (fun h6 => ?_) (fun h6 => ?_)
      ·
       try simp only [decide_eq_true_eq, decide_eq_false_iff_not, Bool.not_eq_true', Bool.not_eq_false', beq_iff_eq, beq_eq_false_iff_ne, ne_eq] at h6
       refine at_seq rfl ?_
       refine rg rfl ?_
       refine Rq ?_
       have tr : ∀ a b c d e f g h i j k m n o p q r s t u v w x y z : AV, let l := lc_chkm10 a b c d e f g h i j k m n o p q r s t u v w x y; trim ((2,z)::l) l = [(0,a),(1,b),(2,z),(3,d),(4,e),(5,f),(6,g),(7,h),(8,i),(19,j),(31,k),(32,m),(33,n),(34,o),(38,p),(43,q),(54,r),(58,s),(59,t),(60,u),(61,v),(65,w),(70,x),(77,y)] := by intros; rfl
       refine R_nil (tr ..) ?_; clear tr
       refine then_n ?_
       refine at_ret rfl ?_
       refine blk_r ?_
       refine then_r ?_
       refine blk_r ?_
       refine then_r ?_
       refine then_r ?_
       refine blk_r ?_
       refine then_r ?_
       first | (refine fpure ?_; refine ⟨?_, rfl⟩; rw [chkM, if_pos (by omega)]) | (refine fpure ?_; refine ⟨?_, rfl⟩; rw [chkM, if_neg (by omega), if_pos (by omega)]) | (refine fpure ?_; refine ⟨?_, rfl⟩; have he : btE l u = 5 := (by rw [btE, if_pos (by assumption)]); have hne : btE l u ≠ 0 := (by rw [he]; first | decide | assumption); have hc := ferr_at hf hne l.length (by omega); rw [chkM, if_neg (by omega), if_neg (by omega), if_pos (by rw [hc]; exact hne), hc, he]) | (refine fpure ?_; refine ⟨?_, rfl⟩; have he : btE l u = 7 := (by rw [btE, if_neg (by simp_all), if_pos (by omega)]); have hne : btE l u ≠ 0 := (by rw [he]; first | decide | assumption); have hc := ferr_at hf hne l.length (by omega); rw [chkM, if_neg (by omega), if_neg (by omega), if_pos (by rw [hc]; exact hne), hc, he]) | (refine fpure ?_; refine ⟨?_, rfl⟩; have he : btE l u = chkD (gt l u).ds := (by rw [btE, if_neg (by simp_all), if_neg (by omega)]); have hne : btE l u ≠ 0 := (by rw [he]; first | decide | assumption); have hc := ferr_at hf hne l.length (by omega); rw [chkM, if_neg (by omega), if_neg (by omega), if_pos (by rw [hc]; exact hne), hc, he]) | (refine fpure ?_; refine ⟨?_, rfl⟩; have hub : u = l.length := (by omega); subst hub; have he : bwE m v = 5 := (by rw [bwE, if_pos (by assumption)]); have hc := ferr_at hg (by rw [he]; decide) m.length (by omega); rw [chkM, if_neg (by omega), if_neg (by omega), if_neg (fun hh => hh hf), hc, he]) | (refine fpure ?_; refine ⟨?_, rfl⟩; have hub : u = l.length := (by omega); subst hub; have he : bwE m v = 7 := (by rw [bwE, if_neg (by simp_all), if_pos (by omega)]); have hc := ferr_at hg (by rw [he]; decide) m.length (by omega); rw [chkM, if_neg (by omega), if_neg (by omega), if_neg (fun hh => hh hf), hc, he]) | (refine fpure ?_; refine ⟨?_, rfl⟩; have hub : u = l.length := (by omega); subst hub; have he : bwE m v = 2 := (by rw [bwE, if_neg (by simp_all), if_neg (by omega), if_pos (by omega)]); have hc := ferr_at hg (by rw [he]; decide) m.length (by omega); rw [chkM, if_neg (by omega), if_neg (by omega), if_neg (fun hh => hh hf), hc, he]) | (refine fpure ?_; refine ⟨?_, rfl⟩; have hub : u = l.length := (by omega); have hvb : v = m.length := (by omega); subst hub; subst hvb; rw [chkM, if_neg (by omega), if_neg (by omega), if_neg (fun hh => hh hf), hg])
      ·
       try simp only [decide_eq_true_eq, decide_eq_false_iff_not, Bool.not_eq_true', Bool.not_eq_false', beq_iff_eq, beq_eq_false_iff_ne, ne_eq] at h6
       refine at_seq rfl ?_
       refine rg rfl ?_
       refine Rq ?_
       refine Rq ?_
       refine Rq ?_
       refine Rcall ?_
       refine ACall_eq (find24 _ _ l m (gt l u).nm (by omega) (by omega)) ?_
       refine Rq ?_
       refine Rq ?_
       refine Rq ?_
       have tr : ∀ a b c d e f g h i j k m n o p q r s t u v w x y z A B C D E F : AV, let l := lc_chkm10 a b c d e f g h i j k m n o p q r s t u v w x y; trim ((43,F)::(49,E)::(48,D)::(47,C)::(46,B)::(45,A)::(44,z)::l) l = [(0,a),(1,b),(2,c),(3,d),(4,e),(5,f),(6,g),(7,h),(8,i),(19,j),(31,k),(32,m),(33,n),(34,o),(38,p),(43,F),(54,r),(58,s),(59,t),(60,u),(61,v),(65,w),(70,x),(77,y)] := by intros; rfl
       refine R_nil (tr ..) ?_; clear tr
       refine then_n ?_
       refine cdd (fun h7 => ?_) (fun h7 => ?_)
       ·
        try simp only [decide_eq_true_eq, decide_eq_false_iff_not, Bool.not_eq_true', Bool.not_eq_false', beq_iff_eq, beq_eq_false_iff_ne, ne_eq] at h7
        refine at_seq rfl ?_
        refine rg rfl ?_
        refine Rq ?_
        have tr : ∀ a b c d e f g h i j k m n o p q r s t u v w x y z : AV, let l := lc_chkm10 a b c d e f g h i j k m n o p q r s t u v w x y; trim ((2,z)::l) l = [(0,a),(1,b),(2,z),(3,d),(4,e),(5,f),(6,g),(7,h),(8,i),(19,j),(31,k),(32,m),(33,n),(34,o),(38,p),(43,q),(54,r),(58,s),(59,t),(60,u),(61,v),(65,w),(70,x),(77,y)] := by intros; rfl
        refine R_nil (tr ..) ?_; clear tr
        refine then_n ?_
        refine at_ret rfl ?_
        refine blk_r ?_
        refine then_r ?_
        refine blk_r ?_
        refine then_r ?_
        refine then_r ?_
        refine blk_r ?_
        refine then_r ?_
        first | (refine fpure ?_; refine ⟨?_, rfl⟩; rw [chkM, if_pos (by omega)]) | (refine fpure ?_; refine ⟨?_, rfl⟩; rw [chkM, if_neg (by omega), if_pos (by omega)]) | (refine fpure ?_; refine ⟨?_, rfl⟩; have he : btE l u = 5 := (by rw [btE, if_pos (by assumption)]); have hne : btE l u ≠ 0 := (by rw [he]; first | decide | assumption); have hc := ferr_at hf hne l.length (by omega); rw [chkM, if_neg (by omega), if_neg (by omega), if_pos (by rw [hc]; exact hne), hc, he]) | (refine fpure ?_; refine ⟨?_, rfl⟩; have he : btE l u = 7 := (by rw [btE, if_neg (by simp_all), if_pos (by omega)]); have hne : btE l u ≠ 0 := (by rw [he]; first | decide | assumption); have hc := ferr_at hf hne l.length (by omega); rw [chkM, if_neg (by omega), if_neg (by omega), if_pos (by rw [hc]; exact hne), hc, he]) | (refine fpure ?_; refine ⟨?_, rfl⟩; have he : btE l u = chkD (gt l u).ds := (by rw [btE, if_neg (by simp_all), if_neg (by omega)]); have hne : btE l u ≠ 0 := (by rw [he]; first | decide | assumption); have hc := ferr_at hf hne l.length (by omega); rw [chkM, if_neg (by omega), if_neg (by omega), if_pos (by rw [hc]; exact hne), hc, he]) | (refine fpure ?_; refine ⟨?_, rfl⟩; have hub : u = l.length := (by omega); subst hub; have he : bwE m v = 5 := (by rw [bwE, if_pos (by assumption)]); have hc := ferr_at hg (by rw [he]; decide) m.length (by omega); rw [chkM, if_neg (by omega), if_neg (by omega), if_neg (fun hh => hh hf), hc, he]) | (refine fpure ?_; refine ⟨?_, rfl⟩; have hub : u = l.length := (by omega); subst hub; have he : bwE m v = 7 := (by rw [bwE, if_neg (by simp_all), if_pos (by omega)]); have hc := ferr_at hg (by rw [he]; decide) m.length (by omega); rw [chkM, if_neg (by omega), if_neg (by omega), if_neg (fun hh => hh hf), hc, he]) | (refine fpure ?_; refine ⟨?_, rfl⟩; have hub : u = l.length := (by omega); subst hub; have he : bwE m v = 2 := (by rw [bwE, if_neg (by simp_all), if_neg (by omega), if_pos (by omega)]); have hc := ferr_at hg (by rw [he]; decide) m.length (by omega); rw [chkM, if_neg (by omega), if_neg (by omega), if_neg (fun hh => hh hf), hc, he]) | (refine fpure ?_; refine ⟨?_, rfl⟩; have hub : u = l.length := (by omega); have hvb : v = m.length := (by omega); subst hub; subst hvb; rw [chkM, if_neg (by omega), if_neg (by omega), if_neg (fun hh => hh hf), hg])
       ·
        try simp only [decide_eq_true_eq, decide_eq_false_iff_not, Bool.not_eq_true', Bool.not_eq_false', beq_iff_eq, beq_eq_false_iff_ne, ne_eq] at h7
        refine at_skip rfl ?_
        refine blk_n ?_
        refine then_n ?_
        refine at_seq rfl ?_
        refine rg rfl ?_
        refine Rq ?_
        refine Rq ?_
        refine Rcall ?_
        refine ACall_eq (chk25 _ _ (gt l u).ds) ?_
        refine Rq ?_
        have tr : ∀ a b c d e f g h i j k m n o p q r s t u v w x y z A B C : AV, let l := lc_chkm10 a b c d e f g h i j k m n o p q r s t u v w x y; trim ((5,C)::(52,B)::(51,A)::(50,z)::l) l = [(0,a),(1,b),(2,c),(3,d),(4,e),(5,C),(6,g),(7,h),(8,i),(19,j),(31,k),(32,m),(33,n),(34,o),(38,p),(43,q),(54,r),(58,s),(59,t),(60,u),(61,v),(65,w),(70,x),(77,y)] := by intros; rfl
        refine R_nil (tr ..) ?_; clear tr
        refine then_n ?_
        refine at_seq rfl ?_
        refine rg rfl ?_
        refine Rq ?_
        refine Rq ?_
        have tr : ∀ a b c d e f g h i j k m n o p q r s t u v w x y z A : AV, let l := lc_chkm10 a b c d e f g h i j k m n o p q r s t u v w x y; trim ((54,A)::(53,z)::l) l = [(0,a),(1,b),(2,c),(3,d),(4,e),(5,f),(6,g),(7,h),(8,i),(19,j),(31,k),(32,m),(33,n),(34,o),(38,p),(43,q),(54,A),(58,s),(59,t),(60,u),(61,v),(65,w),(70,x),(77,y)] := by intros; rfl
        refine R_nil (tr ..) ?_; clear tr
        refine then_n ?_
        refine cdd (fun h8 => ?_) (fun h8 => ?_)
        ·
         try simp only [decide_eq_true_eq, decide_eq_false_iff_not, Bool.not_eq_true', Bool.not_eq_false', beq_iff_eq, beq_eq_false_iff_ne, ne_eq] at h8
         refine at_seq rfl ?_
         refine rg rfl ?_
         refine Rq ?_
         refine Rq ?_
         have tr : ∀ a b c d e f g h i j k m n o p q r s t u v w x y z A : AV, let l := lc_chkm10 a b c d e f g h i j k m n o p q r s t u v w x y; trim ((2,A)::(55,z)::l) l = [(0,a),(1,b),(2,A),(3,d),(4,e),(5,f),(6,g),(7,h),(8,i),(19,j),(31,k),(32,m),(33,n),(34,o),(38,p),(43,q),(54,r),(58,s),(59,t),(60,u),(61,v),(65,w),(70,x),(77,y)] := by intros; rfl
         refine R_nil (tr ..) ?_; clear tr
         refine then_n ?_
         refine at_ret rfl ?_
         refine blk_r ?_
         refine then_r ?_
         refine then_r ?_
         refine blk_r ?_
         refine then_r ?_
         first | (refine fpure ?_; refine ⟨?_, rfl⟩; rw [chkM, if_pos (by omega)]) | (refine fpure ?_; refine ⟨?_, rfl⟩; rw [chkM, if_neg (by omega), if_pos (by omega)]) | (refine fpure ?_; refine ⟨?_, rfl⟩; have he : btE l u = 5 := (by rw [btE, if_pos (by assumption)]); have hne : btE l u ≠ 0 := (by rw [he]; first | decide | assumption); have hc := ferr_at hf hne l.length (by omega); rw [chkM, if_neg (by omega), if_neg (by omega), if_pos (by rw [hc]; exact hne), hc, he]) | (refine fpure ?_; refine ⟨?_, rfl⟩; have he : btE l u = 7 := (by rw [btE, if_neg (by simp_all), if_pos (by omega)]); have hne : btE l u ≠ 0 := (by rw [he]; first | decide | assumption); have hc := ferr_at hf hne l.length (by omega); rw [chkM, if_neg (by omega), if_neg (by omega), if_pos (by rw [hc]; exact hne), hc, he]) | (refine fpure ?_; refine ⟨?_, rfl⟩; have he : btE l u = chkD (gt l u).ds := (by rw [btE, if_neg (by simp_all), if_neg (by omega)]); have hne : btE l u ≠ 0 := (by rw [he]; first | decide | assumption); have hc := ferr_at hf hne l.length (by omega); rw [chkM, if_neg (by omega), if_neg (by omega), if_pos (by rw [hc]; exact hne), hc, he]) | (refine fpure ?_; refine ⟨?_, rfl⟩; have hub : u = l.length := (by omega); subst hub; have he : bwE m v = 5 := (by rw [bwE, if_pos (by assumption)]); have hc := ferr_at hg (by rw [he]; decide) m.length (by omega); rw [chkM, if_neg (by omega), if_neg (by omega), if_neg (fun hh => hh hf), hc, he]) | (refine fpure ?_; refine ⟨?_, rfl⟩; have hub : u = l.length := (by omega); subst hub; have he : bwE m v = 7 := (by rw [bwE, if_neg (by simp_all), if_pos (by omega)]); have hc := ferr_at hg (by rw [he]; decide) m.length (by omega); rw [chkM, if_neg (by omega), if_neg (by omega), if_neg (fun hh => hh hf), hc, he]) | (refine fpure ?_; refine ⟨?_, rfl⟩; have hub : u = l.length := (by omega); subst hub; have he : bwE m v = 2 := (by rw [bwE, if_neg (by simp_all), if_neg (by omega), if_pos (by omega)]); have hc := ferr_at hg (by rw [he]; decide) m.length (by omega); rw [chkM, if_neg (by omega), if_neg (by omega), if_neg (fun hh => hh hf), hc, he]) | (refine fpure ?_; refine ⟨?_, rfl⟩; have hub : u = l.length := (by omega); have hvb : v = m.length := (by omega); subst hub; subst hvb; rw [chkM, if_neg (by omega), if_neg (by omega), if_neg (fun hh => hh hf), hg])
        ·
         try simp only [decide_eq_true_eq, decide_eq_false_iff_not, Bool.not_eq_true', Bool.not_eq_false', beq_iff_eq, beq_eq_false_iff_ne, ne_eq] at h8
         refine at_skip rfl ?_
         refine blk_n ?_
         refine then_n ?_
         refine rg rfl ?_
         refine Rq ?_
         refine Rq ?_
         have tr : ∀ a b c d e f g h i j k m n o p q r s t u v w x y z A : AV, let l := lc_chkm10 a b c d e f g h i j k m n o p q r s t u v w x y; trim ((33,A)::(56,z)::l) l = [(0,a),(1,b),(2,c),(3,d),(4,e),(5,f),(6,g),(7,h),(8,i),(19,j),(31,k),(32,m),(33,A),(34,o),(38,p),(43,q),(54,r),(58,s),(59,t),(60,u),(61,v),(65,w),(70,x),(77,y)] := by intros; rfl
         refine R_nil (tr ..) ?_; clear tr
         refine then_n ?_
         exact ⟨_, _, ⟨u + 1, X ++ [some (btC (gt l u))], _, _, _, _, _, _, _, _, rfl, rfl, by simp; rfl, by omega, by exact ferr_ok hf (by rw [btE, if_neg (by simp_all), if_neg (by omega)]; assumption)⟩, by rfl, by omega⟩
     ·
      try simp only [decide_eq_true_eq, decide_eq_false_iff_not, Bool.not_eq_true', Bool.not_eq_false', beq_iff_eq, beq_eq_false_iff_ne, ne_eq] at h5
      refine at_exit rfl ?_
      refine then_x ?_
      refine then_x ?_
      refine blk_x ?_
      refine then_n ?_
      refine at_seq rfl ?_
      refine at_seq rfl ?_
      refine rg rfl ?_
      refine Rq ?_
      refine Rq ?_
      refine Rq ?_
      refine Rq ?_
      have tr : ∀ a b c d e f g h i j k m n o p q r s t u v w x y z A B C : AV, let l := lc_chkm10 a b c d e f g h i j k m n o p q r s t u v w x y; trim ((60,C)::(59,B)::(58,A)::(57,z)::l) l = [(0,a),(1,b),(2,c),(3,d),(4,e),(5,f),(6,g),(7,h),(8,i),(19,j),(31,k),(32,m),(33,n),(34,o),(38,p),(43,q),(54,r),(58,A),(59,B),(60,C),(61,v),(65,w),(70,x),(77,y)] := by intros; rfl
      refine R_nil (tr ..) ?_; clear tr
      refine then_n ?_
      refine at_block rfl ?_
      refine loop_n rfl (fun mm kv H' => ∃ v : Nat, ∃ Y : Heap, ∃ x2 x6 x7 x61 x65 x70 x77 : AV, (kv = [(2, x2), (6, x6), (7, x7), (60, AV.i v), (61, x61), (65, x65), (70, x70), (77, x77)]) ∧ (mm = m.length - v) ∧ (H' = H ++ [some [btsAV l, bwsAV m]] ++ X ++ Y) ∧ (v ≤ m.length) ∧ (ferr (bwE m) v = 0)) ⟨0, [], _, _, _, _, _, _, _, rfl, rfl, by simp, by omega, by rfl⟩ (by rfl) ?_
      rintro mm kv H2 ⟨v, Y, x2, x6, x7, x61, x65, x70, x77, rfl, rfl, hY, hv, hg⟩
      have tr : ∀ a b c d e f g h i j k m n o p q r s t u v w x y z A B C D E F G : AV, upd [(0,a),(1,b),(2,c),(3,d),(4,e),(5,f),(6,g),(7,h),(8,i),(19,j),(31,k),(32,m),(33,n),(34,o),(38,p),(43,q),(54,r),(58,s),(59,t),(60,u),(61,v),(65,w),(70,x),(77,y)] [(2,z),(6,A),(7,B),(60,C),(61,D),(65,E),(70,F),(77,G)] = [(0,a),(1,b),(2,z),(3,d),(4,e),(5,f),(6,A),(7,B),(8,i),(19,j),(31,k),(32,m),(33,n),(34,o),(38,p),(43,q),(54,r),(58,s),(59,t),(60,C),(61,D),(65,E),(70,F),(77,G)] := by intros; rfl
      refine W_to (tr ..) ?_; clear tr
      subst hY
      refine at_seq rfl ?_
      refine rg rfl ?_
      refine Rq ?_
      have tr : ∀ a b c d e f g h i j k m n o p q r s t u v w x y z : AV, let l := lc_chkm10 a b c d e f g h i j k m n o p q r s t u v w x y; trim ((61,z)::l) l = [(0,a),(1,b),(2,c),(3,d),(4,e),(5,f),(6,g),(7,h),(8,i),(19,j),(31,k),(32,m),(33,n),(34,o),(38,p),(43,q),(54,r),(58,s),(59,t),(60,u),(61,z),(65,w),(70,x),(77,y)] := by intros; rfl
      refine R_nil (tr ..) ?_; clear tr
      refine then_n ?_
      refine at_seq rfl ?_
      refine cdd (fun h9 => ?_) (fun h9 => ?_)
      ·
       try simp only [decide_eq_true_eq, decide_eq_false_iff_not, Bool.not_eq_true', Bool.not_eq_false', beq_iff_eq, beq_eq_false_iff_ne, ne_eq] at h9
       refine at_skip rfl ?_
       refine then_n ?_
       refine at_seq rfl ?_
       refine at_block rfl ?_
       refine at_seq rfl ?_
       refine rg rfl ?_
       refine Rq ?_
       refine Rq ?_
       refine Rq ?_
       refine R_alloc (by simp (disch := first | omega | (simp only [List.length_map, List.length_append, List.length_set, List.length_cons, List.length_nil]; omega)) only [go_sem, ↓reduceIte, Nat.reduceEqDiff, reduceCtorEq] <;> rfl) rfl (by simp only [List.map_cons, List.map_nil]; rfl) ?_
       refine Rq ?_
       refine R_store ty65 (by simp (disch := first | omega | (simp only [List.length_map, List.length_append, List.length_set, List.length_cons, List.length_nil]; omega)) only [go_sem, ↓reduceIte, Nat.reduceEqDiff, reduceCtorEq] <;> rfl) (by simp (disch := first | omega | (simp only [List.length_map, List.length_append, List.length_set, List.length_cons, List.length_nil]; omega)) only [go_sem, ↓reduceIte, Nat.reduceEqDiff, reduceCtorEq] <;> rfl) (by simp (disch := first | omega | (simp only [List.length_map, List.length_append, List.length_set, List.length_cons, List.length_nil]; omega)) only [go_sem, ↓reduceIte, Nat.reduceEqDiff, reduceCtorEq] <;> rfl) (by simp) (by rfl) (by simp (disch := first | omega | (simp only [List.length_map, List.length_append, List.length_set, List.length_cons, List.length_nil]; omega)) only [go_sem, ↓reduceIte, Nat.reduceEqDiff, reduceCtorEq] <;> rfl) ?_
       have tr : ∀ a b c d e f g h i j k m n o p q r s t u v w x y z A B C D : AV, let l := lc_chkm10 a b c d e f g h i j k m n o p q r s t u v w x y; trim ((6,D)::(7,C)::(64,B)::(63,A)::(62,z)::l) l = [(0,a),(1,b),(2,c),(3,d),(4,e),(5,f),(6,D),(7,C),(8,i),(19,j),(31,k),(32,m),(33,n),(34,o),(38,p),(43,q),(54,r),(58,s),(59,t),(60,u),(61,v),(65,w),(70,x),(77,y)] := by intros; rfl
       refine R_nil (tr ..) ?_; clear tr
       refine then_n ?_
       refine at_block rfl ?_
       refine at_seq rfl ?_
       refine rg rfl ?_
       refine Rq ?_
       refine Rq ?_
       refine Rcall ?_
       refine ACall_eq (name_ok23 _ _ (gt m v).nm (hM v (by omega))) ?_
       refine Rq ?_
       refine Rq ?_
       have tr : ∀ a b c d e f g h i j k m n o p q r s t u v w x y z A B C D : AV, let l := lc_chkm10 a b c d e f g h i j k m n o p q r s t u v w x y; trim ((65,D)::(69,C)::(68,B)::(67,A)::(66,z)::l) l = [(0,a),(1,b),(2,c),(3,d),(4,e),(5,f),(6,g),(7,h),(8,i),(19,j),(31,k),(32,m),(33,n),(34,o),(38,p),(43,q),(54,r),(58,s),(59,t),(60,u),(61,v),(65,D),(70,x),(77,y)] := by intros; rfl
       refine R_nil (tr ..) ?_; clear tr
       refine then_n ?_
       refine cdd (fun h10 => ?_) (fun h10 => ?_)
       ·
        try simp only [decide_eq_true_eq, decide_eq_false_iff_not, Bool.not_eq_true', Bool.not_eq_false', beq_iff_eq, beq_eq_false_iff_ne, ne_eq] at h10
        refine at_seq rfl ?_
        refine rg rfl ?_
        refine Rq ?_
        have tr : ∀ a b c d e f g h i j k m n o p q r s t u v w x y z : AV, let l := lc_chkm10 a b c d e f g h i j k m n o p q r s t u v w x y; trim ((2,z)::l) l = [(0,a),(1,b),(2,z),(3,d),(4,e),(5,f),(6,g),(7,h),(8,i),(19,j),(31,k),(32,m),(33,n),(34,o),(38,p),(43,q),(54,r),(58,s),(59,t),(60,u),(61,v),(65,w),(70,x),(77,y)] := by intros; rfl
        refine R_nil (tr ..) ?_; clear tr
        refine then_n ?_
        refine at_ret rfl ?_
        refine blk_r ?_
        refine blk_r ?_
        refine then_r ?_
        refine then_r ?_
        refine blk_r ?_
        refine then_r ?_
        first | (refine fpure ?_; refine ⟨?_, rfl⟩; rw [chkM, if_pos (by omega)]) | (refine fpure ?_; refine ⟨?_, rfl⟩; rw [chkM, if_neg (by omega), if_pos (by omega)]) | (refine fpure ?_; refine ⟨?_, rfl⟩; have he : btE l u = 5 := (by rw [btE, if_pos (by assumption)]); have hne : btE l u ≠ 0 := (by rw [he]; first | decide | assumption); have hc := ferr_at hf hne l.length (by omega); rw [chkM, if_neg (by omega), if_neg (by omega), if_pos (by rw [hc]; exact hne), hc, he]) | (refine fpure ?_; refine ⟨?_, rfl⟩; have he : btE l u = 7 := (by rw [btE, if_neg (by simp_all), if_pos (by omega)]); have hne : btE l u ≠ 0 := (by rw [he]; first | decide | assumption); have hc := ferr_at hf hne l.length (by omega); rw [chkM, if_neg (by omega), if_neg (by omega), if_pos (by rw [hc]; exact hne), hc, he]) | (refine fpure ?_; refine ⟨?_, rfl⟩; have he : btE l u = chkD (gt l u).ds := (by rw [btE, if_neg (by simp_all), if_neg (by omega)]); have hne : btE l u ≠ 0 := (by rw [he]; first | decide | assumption); have hc := ferr_at hf hne l.length (by omega); rw [chkM, if_neg (by omega), if_neg (by omega), if_pos (by rw [hc]; exact hne), hc, he]) | (refine fpure ?_; refine ⟨?_, rfl⟩; have hub : u = l.length := (by omega); subst hub; have he : bwE m v = 5 := (by rw [bwE, if_pos (by assumption)]); have hc := ferr_at hg (by rw [he]; decide) m.length (by omega); rw [chkM, if_neg (by omega), if_neg (by omega), if_neg (fun hh => hh hf), hc, he]) | (refine fpure ?_; refine ⟨?_, rfl⟩; have hub : u = l.length := (by omega); subst hub; have he : bwE m v = 7 := (by rw [bwE, if_neg (by simp_all), if_pos (by omega)]); have hc := ferr_at hg (by rw [he]; decide) m.length (by omega); rw [chkM, if_neg (by omega), if_neg (by omega), if_neg (fun hh => hh hf), hc, he]) | (refine fpure ?_; refine ⟨?_, rfl⟩; have hub : u = l.length := (by omega); subst hub; have he : bwE m v = 2 := (by rw [bwE, if_neg (by simp_all), if_neg (by omega), if_pos (by omega)]); have hc := ferr_at hg (by rw [he]; decide) m.length (by omega); rw [chkM, if_neg (by omega), if_neg (by omega), if_neg (fun hh => hh hf), hc, he]) | (refine fpure ?_; refine ⟨?_, rfl⟩; have hub : u = l.length := (by omega); have hvb : v = m.length := (by omega); subst hub; subst hvb; rw [chkM, if_neg (by omega), if_neg (by omega), if_neg (fun hh => hh hf), hg])
       ·
        try simp only [decide_eq_true_eq, decide_eq_false_iff_not, Bool.not_eq_true', Bool.not_eq_false', beq_iff_eq, beq_eq_false_iff_ne, ne_eq] at h10
        refine at_seq rfl ?_
        refine rg rfl ?_
        refine Rq ?_
        refine Rq ?_
        refine Rq ?_
        refine Rcall ?_
        refine ACall_eq (find26 _ _ l m (gt m v).nm (by omega) (by omega)) ?_
        refine Rq ?_
        refine Rq ?_
        refine Rq ?_
        have tr : ∀ a b c d e f g h i j k m n o p q r s t u v w x y z A B C D E F : AV, let l := lc_chkm10 a b c d e f g h i j k m n o p q r s t u v w x y; trim ((70,F)::(76,E)::(75,D)::(74,C)::(73,B)::(72,A)::(71,z)::l) l = [(0,a),(1,b),(2,c),(3,d),(4,e),(5,f),(6,g),(7,h),(8,i),(19,j),(31,k),(32,m),(33,n),(34,o),(38,p),(43,q),(54,r),(58,s),(59,t),(60,u),(61,v),(65,w),(70,F),(77,y)] := by intros; rfl
        refine R_nil (tr ..) ?_; clear tr
        refine then_n ?_
        refine cdd (fun h11 => ?_) (fun h11 => ?_)
        ·
         try simp only [decide_eq_true_eq, decide_eq_false_iff_not, Bool.not_eq_true', Bool.not_eq_false', beq_iff_eq, beq_eq_false_iff_ne, ne_eq] at h11
         refine at_seq rfl ?_
         refine rg rfl ?_
         refine Rq ?_
         have tr : ∀ a b c d e f g h i j k m n o p q r s t u v w x y z : AV, let l := lc_chkm10 a b c d e f g h i j k m n o p q r s t u v w x y; trim ((2,z)::l) l = [(0,a),(1,b),(2,z),(3,d),(4,e),(5,f),(6,g),(7,h),(8,i),(19,j),(31,k),(32,m),(33,n),(34,o),(38,p),(43,q),(54,r),(58,s),(59,t),(60,u),(61,v),(65,w),(70,x),(77,y)] := by intros; rfl
         refine R_nil (tr ..) ?_; clear tr
         refine then_n ?_
         refine at_ret rfl ?_
         refine blk_r ?_
         refine blk_r ?_
         refine then_r ?_
         refine then_r ?_
         refine blk_r ?_
         refine then_r ?_
         first | (refine fpure ?_; refine ⟨?_, rfl⟩; rw [chkM, if_pos (by omega)]) | (refine fpure ?_; refine ⟨?_, rfl⟩; rw [chkM, if_neg (by omega), if_pos (by omega)]) | (refine fpure ?_; refine ⟨?_, rfl⟩; have he : btE l u = 5 := (by rw [btE, if_pos (by assumption)]); have hne : btE l u ≠ 0 := (by rw [he]; first | decide | assumption); have hc := ferr_at hf hne l.length (by omega); rw [chkM, if_neg (by omega), if_neg (by omega), if_pos (by rw [hc]; exact hne), hc, he]) | (refine fpure ?_; refine ⟨?_, rfl⟩; have he : btE l u = 7 := (by rw [btE, if_neg (by simp_all), if_pos (by omega)]); have hne : btE l u ≠ 0 := (by rw [he]; first | decide | assumption); have hc := ferr_at hf hne l.length (by omega); rw [chkM, if_neg (by omega), if_neg (by omega), if_pos (by rw [hc]; exact hne), hc, he]) | (refine fpure ?_; refine ⟨?_, rfl⟩; have he : btE l u = chkD (gt l u).ds := (by rw [btE, if_neg (by simp_all), if_neg (by omega)]); have hne : btE l u ≠ 0 := (by rw [he]; first | decide | assumption); have hc := ferr_at hf hne l.length (by omega); rw [chkM, if_neg (by omega), if_neg (by omega), if_pos (by rw [hc]; exact hne), hc, he]) | (refine fpure ?_; refine ⟨?_, rfl⟩; have hub : u = l.length := (by omega); subst hub; have he : bwE m v = 5 := (by rw [bwE, if_pos (by assumption)]); have hc := ferr_at hg (by rw [he]; decide) m.length (by omega); rw [chkM, if_neg (by omega), if_neg (by omega), if_neg (fun hh => hh hf), hc, he]) | (refine fpure ?_; refine ⟨?_, rfl⟩; have hub : u = l.length := (by omega); subst hub; have he : bwE m v = 7 := (by rw [bwE, if_neg (by simp_all), if_pos (by omega)]); have hc := ferr_at hg (by rw [he]; decide) m.length (by omega); rw [chkM, if_neg (by omega), if_neg (by omega), if_neg (fun hh => hh hf), hc, he]) | (refine fpure ?_; refine ⟨?_, rfl⟩; have hub : u = l.length := (by omega); subst hub; have he : bwE m v = 2 := (by rw [bwE, if_neg (by simp_all), if_neg (by omega), if_pos (by omega)]); have hc := ferr_at hg (by rw [he]; decide) m.length (by omega); rw [chkM, if_neg (by omega), if_neg (by omega), if_neg (fun hh => hh hf), hc, he]) | (refine fpure ?_; refine ⟨?_, rfl⟩; have hub : u = l.length := (by omega); have hvb : v = m.length := (by omega); subst hub; subst hvb; rw [chkM, if_neg (by omega), if_neg (by omega), if_neg (fun hh => hh hf), hg])
        ·
         try simp only [decide_eq_true_eq, decide_eq_false_iff_not, Bool.not_eq_true', Bool.not_eq_false', beq_iff_eq, beq_eq_false_iff_ne, ne_eq] at h11
         refine at_seq rfl ?_
         refine rg rfl ?_
         refine Rq ?_
         refine Rq ?_
         refine Rq ?_
         refine Rq ?_
         refine Rp_split (fun h12 => ?_) (fun h12 => ?_)
         ·
          try simp only [decide_eq_true_eq, decide_eq_false_iff_not, Bool.not_eq_true', Bool.not_eq_false', beq_iff_eq, beq_eq_false_iff_ne, ne_eq] at h12
          refine Rn ?_
          refine Rn ?_
          refine Rn ?_
          refine Rq ?_
          refine Rq ?_
          have tr : ∀ a b c d e f g h i j k m n o p q r s t u v w x y z A B C D E F G H : AV, let l := lc_chkm10 a b c d e f g h i j k m n o p q r s t u v w x y; trim ((77,H)::(85,G)::(84,F)::(83,E)::(82,D)::(81,C)::(80,B)::(79,A)::(78,z)::l) l = [(0,a),(1,b),(2,c),(3,d),(4,e),(5,f),(6,g),(7,h),(8,i),(19,j),(31,k),(32,m),(33,n),(34,o),(38,p),(43,q),(54,r),(58,s),(59,t),(60,u),(61,v),(65,w),(70,x),(77,H)] := by intros; rfl
          refine R_nil (tr ..) ?_; clear tr
          refine then_n ?_
          refine cdt ?_
          refine at_seq rfl ?_
          refine rg rfl ?_
          refine Rq ?_
          have tr : ∀ a b c d e f g h i j k m n o p q r s t u v w x y z : AV, let l := lc_chkm10 a b c d e f g h i j k m n o p q r s t u v w x y; trim ((2,z)::l) l = [(0,a),(1,b),(2,z),(3,d),(4,e),(5,f),(6,g),(7,h),(8,i),(19,j),(31,k),(32,m),(33,n),(34,o),(38,p),(43,q),(54,r),(58,s),(59,t),(60,u),(61,v),(65,w),(70,x),(77,y)] := by intros; rfl
          refine R_nil (tr ..) ?_; clear tr
          refine then_n ?_
          refine at_ret rfl ?_
          refine blk_r ?_
          refine blk_r ?_
          refine then_r ?_
          refine then_r ?_
          refine blk_r ?_
          refine then_r ?_
          first | (refine fpure ?_; refine ⟨?_, rfl⟩; rw [chkM, if_pos (by omega)]) | (refine fpure ?_; refine ⟨?_, rfl⟩; rw [chkM, if_neg (by omega), if_pos (by omega)]) | (refine fpure ?_; refine ⟨?_, rfl⟩; have he : btE l u = 5 := (by rw [btE, if_pos (by assumption)]); have hne : btE l u ≠ 0 := (by rw [he]; first | decide | assumption); have hc := ferr_at hf hne l.length (by omega); rw [chkM, if_neg (by omega), if_neg (by omega), if_pos (by rw [hc]; exact hne), hc, he]) | (refine fpure ?_; refine ⟨?_, rfl⟩; have he : btE l u = 7 := (by rw [btE, if_neg (by simp_all), if_pos (by omega)]); have hne : btE l u ≠ 0 := (by rw [he]; first | decide | assumption); have hc := ferr_at hf hne l.length (by omega); rw [chkM, if_neg (by omega), if_neg (by omega), if_pos (by rw [hc]; exact hne), hc, he]) | (refine fpure ?_; refine ⟨?_, rfl⟩; have he : btE l u = chkD (gt l u).ds := (by rw [btE, if_neg (by simp_all), if_neg (by omega)]); have hne : btE l u ≠ 0 := (by rw [he]; first | decide | assumption); have hc := ferr_at hf hne l.length (by omega); rw [chkM, if_neg (by omega), if_neg (by omega), if_pos (by rw [hc]; exact hne), hc, he]) | (refine fpure ?_; refine ⟨?_, rfl⟩; have hub : u = l.length := (by omega); subst hub; have he : bwE m v = 5 := (by rw [bwE, if_pos (by assumption)]); have hc := ferr_at hg (by rw [he]; decide) m.length (by omega); rw [chkM, if_neg (by omega), if_neg (by omega), if_neg (fun hh => hh hf), hc, he]) | (refine fpure ?_; refine ⟨?_, rfl⟩; have hub : u = l.length := (by omega); subst hub; have he : bwE m v = 7 := (by rw [bwE, if_neg (by simp_all), if_pos (by omega)]); have hc := ferr_at hg (by rw [he]; decide) m.length (by omega); rw [chkM, if_neg (by omega), if_neg (by omega), if_neg (fun hh => hh hf), hc, he]) | (refine fpure ?_; refine ⟨?_, rfl⟩; have hub : u = l.length := (by omega); subst hub; have he : bwE m v = 2 := (by rw [bwE, if_neg (by simp_all), if_neg (by omega), if_pos (by omega)]); have hc := ferr_at hg (by rw [he]; decide) m.length (by omega); rw [chkM, if_neg (by omega), if_neg (by omega), if_neg (fun hh => hh hf), hc, he]) | (refine fpure ?_; refine ⟨?_, rfl⟩; have hub : u = l.length := (by omega); have hvb : v = m.length := (by omega); subst hub; subst hvb; rw [chkM, if_neg (by omega), if_neg (by omega), if_neg (fun hh => hh hf), hg])
         ·
          try simp only [decide_eq_true_eq, decide_eq_false_iff_not, Bool.not_eq_true', Bool.not_eq_false', beq_iff_eq, beq_eq_false_iff_ne, ne_eq] at h12
          refine Ry ?_
          refine Rq ?_
          refine Ry ?_
          refine Rq ?_
          refine Ry ?_
          refine Rq ?_
          refine Rq ?_
          refine Rq ?_
          have tr : ∀ a b c d e f g h i j k m n o p q r s t u v w x y z A B C D E F G H : AV, let l := lc_chkm10 a b c d e f g h i j k m n o p q r s t u v w x y; trim ((77,H)::(85,G)::(84,F)::(83,E)::(82,D)::(81,C)::(80,B)::(79,A)::(78,z)::l) l = [(0,a),(1,b),(2,c),(3,d),(4,e),(5,f),(6,g),(7,h),(8,i),(19,j),(31,k),(32,m),(33,n),(34,o),(38,p),(43,q),(54,r),(58,s),(59,t),(60,u),(61,v),(65,w),(70,x),(77,H)] := by intros; rfl
          refine R_nil (tr ..) ?_; clear tr
          refine then_n ?_
          refine cdd (fun h13 => ?_) (fun h13 => ?_)
          ·
           try simp only [decide_eq_true_eq, decide_eq_false_iff_not, Bool.not_eq_true', Bool.not_eq_false', beq_iff_eq, beq_eq_false_iff_ne, ne_eq] at h13
           refine at_seq rfl ?_
           refine rg rfl ?_
           refine Rq ?_
           have tr : ∀ a b c d e f g h i j k m n o p q r s t u v w x y z : AV, let l := lc_chkm10 a b c d e f g h i j k m n o p q r s t u v w x y; trim ((2,z)::l) l = [(0,a),(1,b),(2,z),(3,d),(4,e),(5,f),(6,g),(7,h),(8,i),(19,j),(31,k),(32,m),(33,n),(34,o),(38,p),(43,q),(54,r),(58,s),(59,t),(60,u),(61,v),(65,w),(70,x),(77,y)] := by intros; rfl
           refine R_nil (tr ..) ?_; clear tr
           refine then_n ?_
           refine at_ret rfl ?_
           refine blk_r ?_
           refine blk_r ?_
           refine then_r ?_
           refine then_r ?_
           refine blk_r ?_
           refine then_r ?_
           first | (refine fpure ?_; refine ⟨?_, rfl⟩; rw [chkM, if_pos (by omega)]) | (refine fpure ?_; refine ⟨?_, rfl⟩; rw [chkM, if_neg (by omega), if_pos (by omega)]) | (refine fpure ?_; refine ⟨?_, rfl⟩; have he : btE l u = 5 := (by rw [btE, if_pos (by assumption)]); have hne : btE l u ≠ 0 := (by rw [he]; first | decide | assumption); have hc := ferr_at hf hne l.length (by omega); rw [chkM, if_neg (by omega), if_neg (by omega), if_pos (by rw [hc]; exact hne), hc, he]) | (refine fpure ?_; refine ⟨?_, rfl⟩; have he : btE l u = 7 := (by rw [btE, if_neg (by simp_all), if_pos (by omega)]); have hne : btE l u ≠ 0 := (by rw [he]; first | decide | assumption); have hc := ferr_at hf hne l.length (by omega); rw [chkM, if_neg (by omega), if_neg (by omega), if_pos (by rw [hc]; exact hne), hc, he]) | (refine fpure ?_; refine ⟨?_, rfl⟩; have he : btE l u = chkD (gt l u).ds := (by rw [btE, if_neg (by simp_all), if_neg (by omega)]); have hne : btE l u ≠ 0 := (by rw [he]; first | decide | assumption); have hc := ferr_at hf hne l.length (by omega); rw [chkM, if_neg (by omega), if_neg (by omega), if_pos (by rw [hc]; exact hne), hc, he]) | (refine fpure ?_; refine ⟨?_, rfl⟩; have hub : u = l.length := (by omega); subst hub; have he : bwE m v = 5 := (by rw [bwE, if_pos (by assumption)]); have hc := ferr_at hg (by rw [he]; decide) m.length (by omega); rw [chkM, if_neg (by omega), if_neg (by omega), if_neg (fun hh => hh hf), hc, he]) | (refine fpure ?_; refine ⟨?_, rfl⟩; have hub : u = l.length := (by omega); subst hub; have he : bwE m v = 7 := (by rw [bwE, if_neg (by simp_all), if_pos (by omega)]); have hc := ferr_at hg (by rw [he]; decide) m.length (by omega); rw [chkM, if_neg (by omega), if_neg (by omega), if_neg (fun hh => hh hf), hc, he]) | (refine fpure ?_; refine ⟨?_, rfl⟩; have hub : u = l.length := (by omega); subst hub; have he : bwE m v = 2 := (by rw [bwE, if_neg (by simp_all), if_neg (by omega), if_pos (by omega)]); have hc := ferr_at hg (by rw [he]; decide) m.length (by omega); rw [chkM, if_neg (by omega), if_neg (by omega), if_neg (fun hh => hh hf), hc, he]) | (refine fpure ?_; refine ⟨?_, rfl⟩; have hub : u = l.length := (by omega); have hvb : v = m.length := (by omega); subst hub; subst hvb; rw [chkM, if_neg (by omega), if_neg (by omega), if_neg (fun hh => hh hf), hg])
          ·
           try simp only [decide_eq_true_eq, decide_eq_false_iff_not, Bool.not_eq_true', Bool.not_eq_false', beq_iff_eq, beq_eq_false_iff_ne, ne_eq] at h13
           refine at_skip rfl ?_
           refine blk_n ?_
           refine blk_n ?_
           refine then_n ?_
           refine rg rfl ?_
           refine Rq ?_
           refine Rq ?_
           have tr : ∀ a b c d e f g h i j k m n o p q r s t u v w x y z A : AV, let l := lc_chkm10 a b c d e f g h i j k m n o p q r s t u v w x y; trim ((60,A)::(86,z)::l) l = [(0,a),(1,b),(2,c),(3,d),(4,e),(5,f),(6,g),(7,h),(8,i),(19,j),(31,k),(32,m),(33,n),(34,o),(38,p),(43,q),(54,r),(58,s),(59,t),(60,A),(61,v),(65,w),(70,x),(77,y)] := by intros; rfl
           refine R_nil (tr ..) ?_; clear tr
           refine then_n ?_
           exact ⟨_, _, ⟨v + 1, Y ++ [some (bwC (gt m v))], _, _, _, _, _, _, _, rfl, rfl, by simp; rfl, by omega, by exact ferr_ok hg (by rw [bwE, if_neg (by simp_all), if_neg (by omega), if_neg (by omega)])⟩, by rfl, by omega⟩
      ·
       try simp only [decide_eq_true_eq, decide_eq_false_iff_not, Bool.not_eq_true', Bool.not_eq_false', beq_iff_eq, beq_eq_false_iff_ne, ne_eq] at h9
       refine at_exit rfl ?_
       refine then_x ?_
       refine then_x ?_
       refine blk_x ?_
       refine then_n ?_
       refine at_seq rfl ?_
       refine rg rfl ?_
       refine Rq ?_
       have tr : ∀ a b c d e f g h i j k m n o p q r s t u v w x y z : AV, let l := lc_chkm10 a b c d e f g h i j k m n o p q r s t u v w x y; trim ((2,z)::l) l = [(0,a),(1,b),(2,z),(3,d),(4,e),(5,f),(6,g),(7,h),(8,i),(19,j),(31,k),(32,m),(33,n),(34,o),(38,p),(43,q),(54,r),(58,s),(59,t),(60,u),(61,v),(65,w),(70,x),(77,y)] := by intros; rfl
       refine R_nil (tr ..) ?_; clear tr
       refine then_n ?_
       refine at_ret rfl ?_
       first | (refine fpure ?_; refine ⟨?_, rfl⟩; rw [chkM, if_pos (by omega)]) | (refine fpure ?_; refine ⟨?_, rfl⟩; rw [chkM, if_neg (by omega), if_pos (by omega)]) | (refine fpure ?_; refine ⟨?_, rfl⟩; have he : btE l u = 5 := (by rw [btE, if_pos (by assumption)]); have hne : btE l u ≠ 0 := (by rw [he]; first | decide | assumption); have hc := ferr_at hf hne l.length (by omega); rw [chkM, if_neg (by omega), if_neg (by omega), if_pos (by rw [hc]; exact hne), hc, he]) | (refine fpure ?_; refine ⟨?_, rfl⟩; have he : btE l u = 7 := (by rw [btE, if_neg (by simp_all), if_pos (by omega)]); have hne : btE l u ≠ 0 := (by rw [he]; first | decide | assumption); have hc := ferr_at hf hne l.length (by omega); rw [chkM, if_neg (by omega), if_neg (by omega), if_pos (by rw [hc]; exact hne), hc, he]) | (refine fpure ?_; refine ⟨?_, rfl⟩; have he : btE l u = chkD (gt l u).ds := (by rw [btE, if_neg (by simp_all), if_neg (by omega)]); have hne : btE l u ≠ 0 := (by rw [he]; first | decide | assumption); have hc := ferr_at hf hne l.length (by omega); rw [chkM, if_neg (by omega), if_neg (by omega), if_pos (by rw [hc]; exact hne), hc, he]) | (refine fpure ?_; refine ⟨?_, rfl⟩; have hub : u = l.length := (by omega); subst hub; have he : bwE m v = 5 := (by rw [bwE, if_pos (by assumption)]); have hc := ferr_at hg (by rw [he]; decide) m.length (by omega); rw [chkM, if_neg (by omega), if_neg (by omega), if_neg (fun hh => hh hf), hc, he]) | (refine fpure ?_; refine ⟨?_, rfl⟩; have hub : u = l.length := (by omega); subst hub; have he : bwE m v = 7 := (by rw [bwE, if_neg (by simp_all), if_pos (by omega)]); have hc := ferr_at hg (by rw [he]; decide) m.length (by omega); rw [chkM, if_neg (by omega), if_neg (by omega), if_neg (fun hh => hh hf), hc, he]) | (refine fpure ?_; refine ⟨?_, rfl⟩; have hub : u = l.length := (by omega); subst hub; have he : bwE m v = 2 := (by rw [bwE, if_neg (by simp_all), if_neg (by omega), if_pos (by omega)]); have hc := ferr_at hg (by rw [he]; decide) m.length (by omega); rw [chkM, if_neg (by omega), if_neg (by omega), if_neg (fun hh => hh hf), hc, he]) | (refine fpure ?_; refine ⟨?_, rfl⟩; have hub : u = l.length := (by omega); have hvb : v = m.length := (by omega); subst hub; subst hvb; rw [chkM, if_neg (by omega), if_neg (by omega), if_neg (fun hh => hh hf), hg])

abbrev lc_chkm13 (a b c d e f g h i j k m n o p q r s t u v w x y : AV) : Env := [(0,a),(1,b),(2,c),(3,d),(4,e),(5,f),(6,g),(7,h),(17,i),(27,j),(29,k),(30,m),(31,n),(32,o),(39,p),(45,q),(50,r),(54,s),(55,t),(56,u),(57,v),(64,w),(70,x),(78,y)]
theorem chkm13 (lim : Nat) (H : Heap) (l : List Bt) (m : List Bw) (hL : ∀ u, u < l.length → (gt l u).nm.size ≤ 9223372036854775807) (hM : ∀ u, u < m.length → (gt m u).nm.size ≤ 9223372036854775807) (h1 : l.length ≤ 100000) (h2 : m.length ≤ 100000) : ACall sig lim 13 [.agg [btsAV l, bwsAV m]] H fun r H' => r = AV.i (chkM l m) ∧ H' = H := by
 refine ACall_pure (fa := fa13) rfl rfl rfl rfl ?_
 have tr : ∀ a0 : AV, env0 fa13.keep [a0] = [(0,a0),(1,.any),(2,.any),(3,.any),(4,.any),(5,.any),(6,.any),(7,.any),(17,.any),(27,.any),(29,.any),(30,.any),(31,.any),(32,.any),(39,.any),(45,.any),(50,.any),(54,.any),(55,.any),(56,.any),(57,.any),(64,.any),(70,.any),(78,.any)] := fun a0 => rfl
 refine W_to (tr _) ?_; clear tr
 refine at_seq rfl ?_
 refine rg rfl ?_
 refine R_box rfl (by simp (disch := first | omega | (simp only [List.length_map, List.length_append, List.length_set, List.length_cons, List.length_nil]; omega)) only [go_sem, ↓reduceIte, Nat.reduceEqDiff, reduceCtorEq] <;> rfl) rfl rfl ?_
 refine Rq ?_
 have tr : ∀ a b c d e f g h i j k m n o p q r s t u v w x y z A : AV, let l := lc_chkm13 a b c d e f g h i j k m n o p q r s t u v w x y; trim ((2,A)::(1,z)::l) l = [(0,a),(1,z),(2,A),(3,d),(4,e),(5,f),(6,g),(7,h),(17,i),(27,j),(29,k),(30,m),(31,n),(32,o),(39,p),(45,q),(50,r),(54,s),(55,t),(56,u),(57,v),(64,w),(70,x),(78,y)] := by intros; rfl
 refine R_nil (tr ..) ?_; clear tr
 refine then_n ?_
 refine at_seq rfl ?_
 refine at_seq rfl ?_
 refine rg rfl ?_
 refine Rq ?_
 refine Rq ?_
 refine Rq ?_
 refine Rq ?_
 refine Rq ?_
 refine Rp_split (fun h1 => ?_) (fun h1 => ?_)
 ·
  try simp only [decide_eq_true_eq, decide_eq_false_iff_not, Bool.not_eq_true', Bool.not_eq_false', beq_iff_eq, beq_eq_false_iff_ne, ne_eq] at h1
  refine Rn ?_
  refine Rn ?_
  refine Rn ?_
  refine Rn ?_
  refine Rq ?_
  have tr : ∀ a b c d e f g h i j k m n o p q r s t u v w x y z A B C D E F G H I : AV, let l := lc_chkm13 a b c d e f g h i j k m n o p q r s t u v w x y; trim ((17,I)::(16,H)::(15,G)::(14,F)::(13,E)::(12,D)::(11,C)::(10,B)::(9,A)::(8,z)::l) l = [(0,a),(1,b),(2,c),(3,d),(4,e),(5,f),(6,g),(7,h),(17,I),(27,j),(29,k),(30,m),(31,n),(32,o),(39,p),(45,q),(50,r),(54,s),(55,t),(56,u),(57,v),(64,w),(70,x),(78,y)] := by intros; rfl
  refine R_nil (tr ..) ?_; clear tr
  refine then_n ?_
  refine cdt ?_
  refine at_seq rfl ?_
  refine rg rfl ?_
  refine Rq ?_
  have tr : ∀ a b c d e f g h i j k m n o p q r s t u v w x y z : AV, let l := lc_chkm13 a b c d e f g h i j k m n o p q r s t u v w x y; trim ((2,z)::l) l = [(0,a),(1,b),(2,z),(3,d),(4,e),(5,f),(6,g),(7,h),(17,i),(27,j),(29,k),(30,m),(31,n),(32,o),(39,p),(45,q),(50,r),(54,s),(55,t),(56,u),(57,v),(64,w),(70,x),(78,y)] := by intros; rfl
  refine R_nil (tr ..) ?_; clear tr
  refine then_n ?_
  refine at_ret rfl ?_
  refine then_r ?_
  first | (refine fpure ?_; refine ⟨?_, rfl⟩; rw [chkM, if_pos (by omega)]) | (refine fpure ?_; refine ⟨?_, rfl⟩; rw [chkM, if_neg (by omega), if_pos (by omega)]) | (refine fpure ?_; refine ⟨?_, rfl⟩; have he : btE l u = 5 := (by rw [btE, if_pos (by assumption)]); have hne : btE l u ≠ 0 := (by rw [he]; first | decide | assumption); have hc := ferr_at hf hne l.length (by omega); rw [chkM, if_neg (by omega), if_neg (by omega), if_pos (by rw [hc]; exact hne), hc, he]) | (refine fpure ?_; refine ⟨?_, rfl⟩; have he : btE l u = 7 := (by rw [btE, if_neg (by simp_all), if_pos (by omega)]); have hne : btE l u ≠ 0 := (by rw [he]; first | decide | assumption); have hc := ferr_at hf hne l.length (by omega); rw [chkM, if_neg (by omega), if_neg (by omega), if_pos (by rw [hc]; exact hne), hc, he]) | (refine fpure ?_; refine ⟨?_, rfl⟩; have he : btE l u = chkD (gt l u).ds := (by rw [btE, if_neg (by simp_all), if_neg (by omega)]); have hne : btE l u ≠ 0 := (by rw [he]; first | decide | assumption); have hc := ferr_at hf hne l.length (by omega); rw [chkM, if_neg (by omega), if_neg (by omega), if_pos (by rw [hc]; exact hne), hc, he]) | (refine fpure ?_; refine ⟨?_, rfl⟩; have hub : u = l.length := (by omega); subst hub; have he : bwE m v = 5 := (by rw [bwE, if_pos (by assumption)]); have hc := ferr_at hg (by rw [he]; decide) m.length (by omega); rw [chkM, if_neg (by omega), if_neg (by omega), if_neg (fun hh => hh hf), hc, he]) | (refine fpure ?_; refine ⟨?_, rfl⟩; have hub : u = l.length := (by omega); subst hub; have he : bwE m v = 7 := (by rw [bwE, if_neg (by simp_all), if_pos (by omega)]); have hc := ferr_at hg (by rw [he]; decide) m.length (by omega); rw [chkM, if_neg (by omega), if_neg (by omega), if_neg (fun hh => hh hf), hc, he]) | (refine fpure ?_; refine ⟨?_, rfl⟩; have hub : u = l.length := (by omega); subst hub; have he : bwE m v = 2 := (by rw [bwE, if_neg (by simp_all), if_neg (by omega), if_pos (by omega)]); have hc := ferr_at hg (by rw [he]; decide) m.length (by omega); rw [chkM, if_neg (by omega), if_neg (by omega), if_neg (fun hh => hh hf), hc, he]) | (refine fpure ?_; refine ⟨?_, rfl⟩; have hub : u = l.length := (by omega); have hvb : v = m.length := (by omega); subst hub; subst hvb; rw [chkM, if_neg (by omega), if_neg (by omega), if_neg (fun hh => hh hf), hg])
 ·
  try simp only [decide_eq_true_eq, decide_eq_false_iff_not, Bool.not_eq_true', Bool.not_eq_false', beq_iff_eq, beq_eq_false_iff_ne, ne_eq] at h1
  refine Ry ?_
  refine Rq ?_
  refine Ry ?_
  refine Rq ?_
  refine Ry ?_
  refine Rq ?_
  refine Ry ?_
  refine Rq ?_
  refine Rq ?_
  have tr : ∀ a b c d e f g h i j k m n o p q r s t u v w x y z A B C D E F G H I : AV, let l := lc_chkm13 a b c d e f g h i j k m n o p q r s t u v w x y; trim ((17,I)::(16,H)::(15,G)::(14,F)::(13,E)::(12,D)::(11,C)::(10,B)::(9,A)::(8,z)::l) l = [(0,a),(1,b),(2,c),(3,d),(4,e),(5,f),(6,g),(7,h),(17,I),(27,j),(29,k),(30,m),(31,n),(32,o),(39,p),(45,q),(50,r),(54,s),(55,t),(56,u),(57,v),(64,w),(70,x),(78,y)] := by intros; rfl
  refine R_nil (tr ..) ?_; clear tr
  refine then_n ?_
  refine cdd (fun h2 => ?_) (fun h2 => ?_)
  ·
   try simp only [decide_eq_true_eq, decide_eq_false_iff_not, Bool.not_eq_true', Bool.not_eq_false', beq_iff_eq, beq_eq_false_iff_ne, ne_eq] at h2
   refine at_seq rfl ?_
   refine rg rfl ?_
   refine Rq ?_
   have tr : ∀ a b c d e f g h i j k m n o p q r s t u v w x y z : AV, let l := lc_chkm13 a b c d e f g h i j k m n o p q r s t u v w x y; trim ((2,z)::l) l = [(0,a),(1,b),(2,z),(3,d),(4,e),(5,f),(6,g),(7,h),(17,i),(27,j),(29,k),(30,m),(31,n),(32,o),(39,p),(45,q),(50,r),(54,s),(55,t),(56,u),(57,v),(64,w),(70,x),(78,y)] := by intros; rfl
   refine R_nil (tr ..) ?_; clear tr
   refine then_n ?_
   refine at_ret rfl ?_
   refine then_r ?_
   first | (refine fpure ?_; refine ⟨?_, rfl⟩; rw [chkM, if_pos (by omega)]) | (refine fpure ?_; refine ⟨?_, rfl⟩; rw [chkM, if_neg (by omega), if_pos (by omega)]) | (refine fpure ?_; refine ⟨?_, rfl⟩; have he : btE l u = 5 := (by rw [btE, if_pos (by assumption)]); have hne : btE l u ≠ 0 := (by rw [he]; first | decide | assumption); have hc := ferr_at hf hne l.length (by omega); rw [chkM, if_neg (by omega), if_neg (by omega), if_pos (by rw [hc]; exact hne), hc, he]) | (refine fpure ?_; refine ⟨?_, rfl⟩; have he : btE l u = 7 := (by rw [btE, if_neg (by simp_all), if_pos (by omega)]); have hne : btE l u ≠ 0 := (by rw [he]; first | decide | assumption); have hc := ferr_at hf hne l.length (by omega); rw [chkM, if_neg (by omega), if_neg (by omega), if_pos (by rw [hc]; exact hne), hc, he]) | (refine fpure ?_; refine ⟨?_, rfl⟩; have he : btE l u = chkD (gt l u).ds := (by rw [btE, if_neg (by simp_all), if_neg (by omega)]); have hne : btE l u ≠ 0 := (by rw [he]; first | decide | assumption); have hc := ferr_at hf hne l.length (by omega); rw [chkM, if_neg (by omega), if_neg (by omega), if_pos (by rw [hc]; exact hne), hc, he]) | (refine fpure ?_; refine ⟨?_, rfl⟩; have hub : u = l.length := (by omega); subst hub; have he : bwE m v = 5 := (by rw [bwE, if_pos (by assumption)]); have hc := ferr_at hg (by rw [he]; decide) m.length (by omega); rw [chkM, if_neg (by omega), if_neg (by omega), if_neg (fun hh => hh hf), hc, he]) | (refine fpure ?_; refine ⟨?_, rfl⟩; have hub : u = l.length := (by omega); subst hub; have he : bwE m v = 7 := (by rw [bwE, if_neg (by simp_all), if_pos (by omega)]); have hc := ferr_at hg (by rw [he]; decide) m.length (by omega); rw [chkM, if_neg (by omega), if_neg (by omega), if_neg (fun hh => hh hf), hc, he]) | (refine fpure ?_; refine ⟨?_, rfl⟩; have hub : u = l.length := (by omega); subst hub; have he : bwE m v = 2 := (by rw [bwE, if_neg (by simp_all), if_neg (by omega), if_pos (by omega)]); have hc := ferr_at hg (by rw [he]; decide) m.length (by omega); rw [chkM, if_neg (by omega), if_neg (by omega), if_neg (fun hh => hh hf), hc, he]) | (refine fpure ?_; refine ⟨?_, rfl⟩; have hub : u = l.length := (by omega); have hvb : v = m.length := (by omega); subst hub; subst hvb; rw [chkM, if_neg (by omega), if_neg (by omega), if_neg (fun hh => hh hf), hg])
  ·
   try simp only [decide_eq_true_eq, decide_eq_false_iff_not, Bool.not_eq_true', Bool.not_eq_false', beq_iff_eq, beq_eq_false_iff_ne, ne_eq] at h2
   refine at_skip rfl ?_
   refine then_n ?_
   refine at_seq rfl ?_
   refine at_seq rfl ?_
   refine rg rfl ?_
   refine Rq ?_
   refine Rq ?_
   refine Rq ?_
   refine Rq ?_
   refine Rq ?_
   refine Rp_split (fun h3 => ?_) (fun h3 => ?_)
   ·
    try simp only [decide_eq_true_eq, decide_eq_false_iff_not, Bool.not_eq_true', Bool.not_eq_false', beq_iff_eq, beq_eq_false_iff_ne, ne_eq] at h3
    refine Rn ?_
    refine Rn ?_
    refine Rn ?_
    refine Rn ?_
    refine Rq ?_
    have tr : ∀ a b c d e f g h i j k m n o p q r s t u v w x y z A B C D E F G H I : AV, let l := lc_chkm13 a b c d e f g h i j k m n o p q r s t u v w x y; trim ((27,I)::(26,H)::(25,G)::(24,F)::(23,E)::(22,D)::(21,C)::(20,B)::(19,A)::(18,z)::l) l = [(0,a),(1,b),(2,c),(3,d),(4,e),(5,f),(6,g),(7,h),(17,i),(27,I),(29,k),(30,m),(31,n),(32,o),(39,p),(45,q),(50,r),(54,s),(55,t),(56,u),(57,v),(64,w),(70,x),(78,y)] := by intros; rfl
    refine R_nil (tr ..) ?_; clear tr
    refine then_n ?_
    refine cdt ?_
    refine at_seq rfl ?_
    refine rg rfl ?_
    refine Rq ?_
    have tr : ∀ a b c d e f g h i j k m n o p q r s t u v w x y z : AV, let l := lc_chkm13 a b c d e f g h i j k m n o p q r s t u v w x y; trim ((2,z)::l) l = [(0,a),(1,b),(2,z),(3,d),(4,e),(5,f),(6,g),(7,h),(17,i),(27,j),(29,k),(30,m),(31,n),(32,o),(39,p),(45,q),(50,r),(54,s),(55,t),(56,u),(57,v),(64,w),(70,x),(78,y)] := by intros; rfl
    refine R_nil (tr ..) ?_; clear tr
    refine then_n ?_
    refine at_ret rfl ?_
    refine then_r ?_
    first | (refine fpure ?_; refine ⟨?_, rfl⟩; rw [chkM, if_pos (by omega)]) | (refine fpure ?_; refine ⟨?_, rfl⟩; rw [chkM, if_neg (by omega), if_pos (by omega)]) | (refine fpure ?_; refine ⟨?_, rfl⟩; have he : btE l u = 5 := (by rw [btE, if_pos (by assumption)]); have hne : btE l u ≠ 0 := (by rw [he]; first | decide | assumption); have hc := ferr_at hf hne l.length (by omega); rw [chkM, if_neg (by omega), if_neg (by omega), if_pos (by rw [hc]; exact hne), hc, he]) | (refine fpure ?_; refine ⟨?_, rfl⟩; have he : btE l u = 7 := (by rw [btE, if_neg (by simp_all), if_pos (by omega)]); have hne : btE l u ≠ 0 := (by rw [he]; first | decide | assumption); have hc := ferr_at hf hne l.length (by omega); rw [chkM, if_neg (by omega), if_neg (by omega), if_pos (by rw [hc]; exact hne), hc, he]) | (refine fpure ?_; refine ⟨?_, rfl⟩; have he : btE l u = chkD (gt l u).ds := (by rw [btE, if_neg (by simp_all), if_neg (by omega)]); have hne : btE l u ≠ 0 := (by rw [he]; first | decide | assumption); have hc := ferr_at hf hne l.length (by omega); rw [chkM, if_neg (by omega), if_neg (by omega), if_pos (by rw [hc]; exact hne), hc, he]) | (refine fpure ?_; refine ⟨?_, rfl⟩; have hub : u = l.length := (by omega); subst hub; have he : bwE m v = 5 := (by rw [bwE, if_pos (by assumption)]); have hc := ferr_at hg (by rw [he]; decide) m.length (by omega); rw [chkM, if_neg (by omega), if_neg (by omega), if_neg (fun hh => hh hf), hc, he]) | (refine fpure ?_; refine ⟨?_, rfl⟩; have hub : u = l.length := (by omega); subst hub; have he : bwE m v = 7 := (by rw [bwE, if_neg (by simp_all), if_pos (by omega)]); have hc := ferr_at hg (by rw [he]; decide) m.length (by omega); rw [chkM, if_neg (by omega), if_neg (by omega), if_neg (fun hh => hh hf), hc, he]) | (refine fpure ?_; refine ⟨?_, rfl⟩; have hub : u = l.length := (by omega); subst hub; have he : bwE m v = 2 := (by rw [bwE, if_neg (by simp_all), if_neg (by omega), if_pos (by omega)]); have hc := ferr_at hg (by rw [he]; decide) m.length (by omega); rw [chkM, if_neg (by omega), if_neg (by omega), if_neg (fun hh => hh hf), hc, he]) | (refine fpure ?_; refine ⟨?_, rfl⟩; have hub : u = l.length := (by omega); have hvb : v = m.length := (by omega); subst hub; subst hvb; rw [chkM, if_neg (by omega), if_neg (by omega), if_neg (fun hh => hh hf), hg])
   ·
    try simp only [decide_eq_true_eq, decide_eq_false_iff_not, Bool.not_eq_true', Bool.not_eq_false', beq_iff_eq, beq_eq_false_iff_ne, ne_eq] at h3
    refine Ry ?_
    refine Rq ?_
    refine Ry ?_
    refine Rq ?_
    refine Ry ?_
    refine Rq ?_
    refine Ry ?_
    refine Rq ?_
    refine Rq ?_
    have tr : ∀ a b c d e f g h i j k m n o p q r s t u v w x y z A B C D E F G H I : AV, let l := lc_chkm13 a b c d e f g h i j k m n o p q r s t u v w x y; trim ((27,I)::(26,H)::(25,G)::(24,F)::(23,E)::(22,D)::(21,C)::(20,B)::(19,A)::(18,z)::l) l = [(0,a),(1,b),(2,c),(3,d),(4,e),(5,f),(6,g),(7,h),(17,i),(27,I),(29,k),(30,m),(31,n),(32,o),(39,p),(45,q),(50,r),(54,s),(55,t),(56,u),(57,v),(64,w),(70,x),(78,y)] := by intros; rfl
    refine R_nil (tr ..) ?_; clear tr
    refine then_n ?_
    refine cdd (fun h4 => ?_) (fun h4 => ?_)
    ·
     try simp only [decide_eq_true_eq, decide_eq_false_iff_not, Bool.not_eq_true', Bool.not_eq_false', beq_iff_eq, beq_eq_false_iff_ne, ne_eq] at h4
     refine at_seq rfl ?_
     refine rg rfl ?_
     refine Rq ?_
     have tr : ∀ a b c d e f g h i j k m n o p q r s t u v w x y z : AV, let l := lc_chkm13 a b c d e f g h i j k m n o p q r s t u v w x y; trim ((2,z)::l) l = [(0,a),(1,b),(2,z),(3,d),(4,e),(5,f),(6,g),(7,h),(17,i),(27,j),(29,k),(30,m),(31,n),(32,o),(39,p),(45,q),(50,r),(54,s),(55,t),(56,u),(57,v),(64,w),(70,x),(78,y)] := by intros; rfl
     refine R_nil (tr ..) ?_; clear tr
     refine then_n ?_
     refine at_ret rfl ?_
     refine then_r ?_
     first | (refine fpure ?_; refine ⟨?_, rfl⟩; rw [chkM, if_pos (by omega)]) | (refine fpure ?_; refine ⟨?_, rfl⟩; rw [chkM, if_neg (by omega), if_pos (by omega)]) | (refine fpure ?_; refine ⟨?_, rfl⟩; have he : btE l u = 5 := (by rw [btE, if_pos (by assumption)]); have hne : btE l u ≠ 0 := (by rw [he]; first | decide | assumption); have hc := ferr_at hf hne l.length (by omega); rw [chkM, if_neg (by omega), if_neg (by omega), if_pos (by rw [hc]; exact hne), hc, he]) | (refine fpure ?_; refine ⟨?_, rfl⟩; have he : btE l u = 7 := (by rw [btE, if_neg (by simp_all), if_pos (by omega)]); have hne : btE l u ≠ 0 := (by rw [he]; first | decide | assumption); have hc := ferr_at hf hne l.length (by omega); rw [chkM, if_neg (by omega), if_neg (by omega), if_pos (by rw [hc]; exact hne), hc, he]) | (refine fpure ?_; refine ⟨?_, rfl⟩; have he : btE l u = chkD (gt l u).ds := (by rw [btE, if_neg (by simp_all), if_neg (by omega)]); have hne : btE l u ≠ 0 := (by rw [he]; first | decide | assumption); have hc := ferr_at hf hne l.length (by omega); rw [chkM, if_neg (by omega), if_neg (by omega), if_pos (by rw [hc]; exact hne), hc, he]) | (refine fpure ?_; refine ⟨?_, rfl⟩; have hub : u = l.length := (by omega); subst hub; have he : bwE m v = 5 := (by rw [bwE, if_pos (by assumption)]); have hc := ferr_at hg (by rw [he]; decide) m.length (by omega); rw [chkM, if_neg (by omega), if_neg (by omega), if_neg (fun hh => hh hf), hc, he]) | (refine fpure ?_; refine ⟨?_, rfl⟩; have hub : u = l.length := (by omega); subst hub; have he : bwE m v = 7 := (by rw [bwE, if_neg (by simp_all), if_pos (by omega)]); have hc := ferr_at hg (by rw [he]; decide) m.length (by omega); rw [chkM, if_neg (by omega), if_neg (by omega), if_neg (fun hh => hh hf), hc, he]) | (refine fpure ?_; refine ⟨?_, rfl⟩; have hub : u = l.length := (by omega); subst hub; have he : bwE m v = 2 := (by rw [bwE, if_neg (by simp_all), if_neg (by omega), if_pos (by omega)]); have hc := ferr_at hg (by rw [he]; decide) m.length (by omega); rw [chkM, if_neg (by omega), if_neg (by omega), if_neg (fun hh => hh hf), hc, he]) | (refine fpure ?_; refine ⟨?_, rfl⟩; have hub : u = l.length := (by omega); have hvb : v = m.length := (by omega); subst hub; subst hvb; rw [chkM, if_neg (by omega), if_neg (by omega), if_neg (fun hh => hh hf), hg])
    ·
     try simp only [decide_eq_true_eq, decide_eq_false_iff_not, Bool.not_eq_true', Bool.not_eq_false', beq_iff_eq, beq_eq_false_iff_ne, ne_eq] at h4
     refine at_skip rfl ?_
     refine then_n ?_
     refine at_seq rfl ?_
     refine at_seq rfl ?_
     refine rg rfl ?_
     refine Rq ?_
     refine Rq ?_
     refine Rq ?_
     refine Rq ?_
     have tr : ∀ a b c d e f g h i j k m n o p q r s t u v w x y z A B C : AV, let l := lc_chkm13 a b c d e f g h i j k m n o p q r s t u v w x y; trim ((31,C)::(30,B)::(29,A)::(28,z)::l) l = [(0,a),(1,b),(2,c),(3,d),(4,e),(5,f),(6,g),(7,h),(17,i),(27,j),(29,A),(30,B),(31,C),(32,o),(39,p),(45,q),(50,r),(54,s),(55,t),(56,u),(57,v),(64,w),(70,x),(78,y)] := by intros; rfl
     refine R_nil (tr ..) ?_; clear tr
     refine then_n ?_
     refine at_block rfl ?_
     refine loop_n rfl (fun mm kv H' => ∃ u : Nat, ∃ X : Heap, ∃ x2 x3 x4 x5 x32 x39 x45 x50 : AV, (kv = [(2, x2), (3, x3), (4, x4), (5, x5), (31, AV.i u), (32, x32), (39, x39), (45, x45), (50, x50)]) ∧ (mm = l.length - u) ∧ (H' = H ++ [some [btsAV l, bwsAV m]] ++ X) ∧ (u ≤ l.length) ∧ (ferr (btE l) u = 0)) ⟨0, [], _, _, _, _, _, _, _, _, rfl, rfl, by simp, by omega, by rfl⟩ (by rfl) ?_
     rintro mm kv H1 ⟨u, X, x2, x3, x4, x5, x32, x39, x45, x50, rfl, rfl, hX, hu, hf⟩
     have tr : ∀ a b c d e f g h i j k m n o p q r s t u v w x y z A B C D E F G H : AV, upd [(0,a),(1,b),(2,c),(3,d),(4,e),(5,f),(6,g),(7,h),(17,i),(27,j),(29,k),(30,m),(31,n),(32,o),(39,p),(45,q),(50,r),(54,s),(55,t),(56,u),(57,v),(64,w),(70,x),(78,y)] [(2,z),(3,A),(4,B),(5,C),(31,D),(32,E),(39,F),(45,G),(50,H)] = [(0,a),(1,b),(2,z),(3,A),(4,B),(5,C),(6,g),(7,h),(17,i),(27,j),(29,k),(30,m),(31,D),(32,E),(39,F),(45,G),(50,H),(54,s),(55,t),(56,u),(57,v),(64,w),(70,x),(78,y)] := by intros; rfl
     refine W_to (tr ..) ?_; clear tr
     subst hX
     refine at_seq rfl ?_
     refine rg rfl ?_
     refine Rq ?_
     have tr : ∀ a b c d e f g h i j k m n o p q r s t u v w x y z : AV, let l := lc_chkm13 a b c d e f g h i j k m n o p q r s t u v w x y; trim ((32,z)::l) l = [(0,a),(1,b),(2,c),(3,d),(4,e),(5,f),(6,g),(7,h),(17,i),(27,j),(29,k),(30,m),(31,n),(32,z),(39,p),(45,q),(50,r),(54,s),(55,t),(56,u),(57,v),(64,w),(70,x),(78,y)] := by intros; rfl
     refine R_nil (tr ..) ?_; clear tr
     refine then_n ?_
     refine at_seq rfl ?_
     refine cdd (fun h5 => ?_) (fun h5 => ?_)
     ·
      try simp only [decide_eq_true_eq, decide_eq_false_iff_not, Bool.not_eq_true', Bool.not_eq_false', beq_iff_eq, beq_eq_false_iff_ne, ne_eq] at h5
      refine at_skip rfl ?_
      refine then_n ?_
      refine at_seq rfl ?_
      refine at_block rfl ?_
      refine at_seq rfl ?_
      refine rg rfl ?_
      refine Rq ?_
      refine Rq ?_
      refine Rq ?_
      refine R_alloc (by simp (disch := first | omega | (simp only [List.length_map, List.length_append, List.length_set, List.length_cons, List.length_nil]; omega)) only [go_sem, ↓reduceIte, Nat.reduceEqDiff, reduceCtorEq] <;> rfl) rfl (by simp only [List.map_cons, List.map_nil]; rfl) ?_
      refine Rq ?_
      refine R_store ty31 (by simp (disch := first | omega | (simp only [List.length_map, List.length_append, List.length_set, List.length_cons, List.length_nil]; omega)) only [go_sem, ↓reduceIte, Nat.reduceEqDiff, reduceCtorEq] <;> rfl) (by simp (disch := first | omega | (simp only [List.length_map, List.length_append, List.length_set, List.length_cons, List.length_nil]; omega)) only [go_sem, ↓reduceIte, Nat.reduceEqDiff, reduceCtorEq] <;> rfl) (by simp (disch := first | omega | (simp only [List.length_map, List.length_append, List.length_set, List.length_cons, List.length_nil]; omega)) only [go_sem, ↓reduceIte, Nat.reduceEqDiff, reduceCtorEq] <;> rfl) (by simp) (by rfl) (by simp (disch := first | omega | (simp only [List.length_map, List.length_append, List.length_set, List.length_cons, List.length_nil]; omega)) only [go_sem, ↓reduceIte, Nat.reduceEqDiff, reduceCtorEq] <;> rfl) ?_
      have tr : ∀ a b c d e f g h i j k m n o p q r s t u v w x y z A B C D : AV, let l := lc_chkm13 a b c d e f g h i j k m n o p q r s t u v w x y; trim ((3,D)::(4,C)::(35,B)::(34,A)::(33,z)::l) l = [(0,a),(1,b),(2,c),(3,D),(4,C),(5,f),(6,g),(7,h),(17,i),(27,j),(29,k),(30,m),(31,n),(32,o),(39,p),(45,q),(50,r),(54,s),(55,t),(56,u),(57,v),(64,w),(70,x),(78,y)] := by intros; rfl
      refine R_nil (tr ..) ?_; clear tr
      refine then_n ?_
      refine at_seq rfl ?_
      refine at_seq rfl ?_
      refine rg rfl ?_
      refine Rq ?_
      refine Rq ?_
      refine Rcall ?_
      refine ACall_eq (name_ok28 _ _ (gt l u).nm (hL u (by omega))) ?_
      refine Rq ?_
      have tr : ∀ a b c d e f g h i j k m n o p q r s t u v w x y z A B C : AV, let l := lc_chkm13 a b c d e f g h i j k m n o p q r s t u v w x y; trim ((39,C)::(38,B)::(37,A)::(36,z)::l) l = [(0,a),(1,b),(2,c),(3,d),(4,e),(5,f),(6,g),(7,h),(17,i),(27,j),(29,k),(30,m),(31,n),(32,o),(39,C),(45,q),(50,r),(54,s),(55,t),(56,u),(57,v),(64,w),(70,x),(78,y)] := by intros; rfl
      refine R_nil (tr ..) ?_; clear tr
      refine then_n ?_
      refine cdd (fun h6 => ?_) (fun h6 => ?_)
      ·
       try simp only [decide_eq_true_eq, decide_eq_false_iff_not, Bool.not_eq_true', Bool.not_eq_false', beq_iff_eq, beq_eq_false_iff_ne, ne_eq] at h6
       refine at_seq rfl ?_
       refine rg rfl ?_
       refine Rq ?_
       have tr : ∀ a b c d e f g h i j k m n o p q r s t u v w x y z : AV, let l := lc_chkm13 a b c d e f g h i j k m n o p q r s t u v w x y; trim ((2,z)::l) l = [(0,a),(1,b),(2,z),(3,d),(4,e),(5,f),(6,g),(7,h),(17,i),(27,j),(29,k),(30,m),(31,n),(32,o),(39,p),(45,q),(50,r),(54,s),(55,t),(56,u),(57,v),(64,w),(70,x),(78,y)] := by intros; rfl
       refine R_nil (tr ..) ?_; clear tr
       refine then_n ?_
       refine at_ret rfl ?_
       refine then_r ?_
       refine blk_r ?_
       refine then_r ?_
       refine then_r ?_
       refine blk_r ?_
       refine then_r ?_
       first | (refine fpure ?_; refine ⟨?_, rfl⟩; rw [chkM, if_pos (by omega)]) | (refine fpure ?_; refine ⟨?_, rfl⟩; rw [chkM, if_neg (by omega), if_pos (by omega)]) | (refine fpure ?_; refine ⟨?_, rfl⟩; have he : btE l u = 5 := (by rw [btE, if_pos (by assumption)]); have hne : btE l u ≠ 0 := (by rw [he]; first | decide | assumption); have hc := ferr_at hf hne l.length (by omega); rw [chkM, if_neg (by omega), if_neg (by omega), if_pos (by rw [hc]; exact hne), hc, he]) | (refine fpure ?_; refine ⟨?_, rfl⟩; have he : btE l u = 7 := (by rw [btE, if_neg (by simp_all), if_pos (by omega)]); have hne : btE l u ≠ 0 := (by rw [he]; first | decide | assumption); have hc := ferr_at hf hne l.length (by omega); rw [chkM, if_neg (by omega), if_neg (by omega), if_pos (by rw [hc]; exact hne), hc, he]) | (refine fpure ?_; refine ⟨?_, rfl⟩; have he : btE l u = chkD (gt l u).ds := (by rw [btE, if_neg (by simp_all), if_neg (by omega)]); have hne : btE l u ≠ 0 := (by rw [he]; first | decide | assumption); have hc := ferr_at hf hne l.length (by omega); rw [chkM, if_neg (by omega), if_neg (by omega), if_pos (by rw [hc]; exact hne), hc, he]) | (refine fpure ?_; refine ⟨?_, rfl⟩; have hub : u = l.length := (by omega); subst hub; have he : bwE m v = 5 := (by rw [bwE, if_pos (by assumption)]); have hc := ferr_at hg (by rw [he]; decide) m.length (by omega); rw [chkM, if_neg (by omega), if_neg (by omega), if_neg (fun hh => hh hf), hc, he]) | (refine fpure ?_; refine ⟨?_, rfl⟩; have hub : u = l.length := (by omega); subst hub; have he : bwE m v = 7 := (by rw [bwE, if_neg (by simp_all), if_pos (by omega)]); have hc := ferr_at hg (by rw [he]; decide) m.length (by omega); rw [chkM, if_neg (by omega), if_neg (by omega), if_neg (fun hh => hh hf), hc, he]) | (refine fpure ?_; refine ⟨?_, rfl⟩; have hub : u = l.length := (by omega); subst hub; have he : bwE m v = 2 := (by rw [bwE, if_neg (by simp_all), if_neg (by omega), if_pos (by omega)]); have hc := ferr_at hg (by rw [he]; decide) m.length (by omega); rw [chkM, if_neg (by omega), if_neg (by omega), if_neg (fun hh => hh hf), hc, he]) | (refine fpure ?_; refine ⟨?_, rfl⟩; have hub : u = l.length := (by omega); have hvb : v = m.length := (by omega); subst hub; subst hvb; rw [chkM, if_neg (by omega), if_neg (by omega), if_neg (fun hh => hh hf), hg])
      ·
       try simp only [decide_eq_true_eq, decide_eq_false_iff_not, Bool.not_eq_true', Bool.not_eq_false', beq_iff_eq, beq_eq_false_iff_ne, ne_eq] at h6
       refine at_skip rfl ?_
       refine then_n ?_
       refine at_seq rfl ?_
       refine at_seq rfl ?_
       refine rg rfl ?_
       refine Rq ?_
       refine Rq ?_
       refine Rq ?_
       refine Rcall ?_
       refine ACall_eq (find29 _ _ l m (gt l u).nm (by omega) (by omega)) ?_
       refine Rq ?_
       refine Rq ?_
       have tr : ∀ a b c d e f g h i j k m n o p q r s t u v w x y z A B C D E : AV, let l := lc_chkm13 a b c d e f g h i j k m n o p q r s t u v w x y; trim ((45,E)::(44,D)::(43,C)::(42,B)::(41,A)::(40,z)::l) l = [(0,a),(1,b),(2,c),(3,d),(4,e),(5,f),(6,g),(7,h),(17,i),(27,j),(29,k),(30,m),(31,n),(32,o),(39,p),(45,E),(50,r),(54,s),(55,t),(56,u),(57,v),(64,w),(70,x),(78,y)] := by intros; rfl
       refine R_nil (tr ..) ?_; clear tr
       refine then_n ?_
       refine cdd (fun h7 => ?_) (fun h7 => ?_)
       ·
        try simp only [decide_eq_true_eq, decide_eq_false_iff_not, Bool.not_eq_true', Bool.not_eq_false', beq_iff_eq, beq_eq_false_iff_ne, ne_eq] at h7
        refine at_seq rfl ?_
        refine rg rfl ?_
        refine Rq ?_
        have tr : ∀ a b c d e f g h i j k m n o p q r s t u v w x y z : AV, let l := lc_chkm13 a b c d e f g h i j k m n o p q r s t u v w x y; trim ((2,z)::l) l = [(0,a),(1,b),(2,z),(3,d),(4,e),(5,f),(6,g),(7,h),(17,i),(27,j),(29,k),(30,m),(31,n),(32,o),(39,p),(45,q),(50,r),(54,s),(55,t),(56,u),(57,v),(64,w),(70,x),(78,y)] := by intros; rfl
        refine R_nil (tr ..) ?_; clear tr
        refine then_n ?_
        refine at_ret rfl ?_
        refine then_r ?_
        refine blk_r ?_
        refine then_r ?_
        refine then_r ?_
        refine blk_r ?_
        refine then_r ?_
        first | (refine fpure ?_; refine ⟨?_, rfl⟩; rw [chkM, if_pos (by omega)]) | (refine fpure ?_; refine ⟨?_, rfl⟩; rw [chkM, if_neg (by omega), if_pos (by omega)]) | (refine fpure ?_; refine ⟨?_, rfl⟩; have he : btE l u = 5 := (by rw [btE, if_pos (by assumption)]); have hne : btE l u ≠ 0 := (by rw [he]; first | decide | assumption); have hc := ferr_at hf hne l.length (by omega); rw [chkM, if_neg (by omega), if_neg (by omega), if_pos (by rw [hc]; exact hne), hc, he]) | (refine fpure ?_; refine ⟨?_, rfl⟩; have he : btE l u = 7 := (by rw [btE, if_neg (by simp_all), if_pos (by omega)]); have hne : btE l u ≠ 0 := (by rw [he]; first | decide | assumption); have hc := ferr_at hf hne l.length (by omega); rw [chkM, if_neg (by omega), if_neg (by omega), if_pos (by rw [hc]; exact hne), hc, he]) | (refine fpure ?_; refine ⟨?_, rfl⟩; have he : btE l u = chkD (gt l u).ds := (by rw [btE, if_neg (by simp_all), if_neg (by omega)]); have hne : btE l u ≠ 0 := (by rw [he]; first | decide | assumption); have hc := ferr_at hf hne l.length (by omega); rw [chkM, if_neg (by omega), if_neg (by omega), if_pos (by rw [hc]; exact hne), hc, he]) | (refine fpure ?_; refine ⟨?_, rfl⟩; have hub : u = l.length := (by omega); subst hub; have he : bwE m v = 5 := (by rw [bwE, if_pos (by assumption)]); have hc := ferr_at hg (by rw [he]; decide) m.length (by omega); rw [chkM, if_neg (by omega), if_neg (by omega), if_neg (fun hh => hh hf), hc, he]) | (refine fpure ?_; refine ⟨?_, rfl⟩; have hub : u = l.length := (by omega); subst hub; have he : bwE m v = 7 := (by rw [bwE, if_neg (by simp_all), if_pos (by omega)]); have hc := ferr_at hg (by rw [he]; decide) m.length (by omega); rw [chkM, if_neg (by omega), if_neg (by omega), if_neg (fun hh => hh hf), hc, he]) | (refine fpure ?_; refine ⟨?_, rfl⟩; have hub : u = l.length := (by omega); subst hub; have he : bwE m v = 2 := (by rw [bwE, if_neg (by simp_all), if_neg (by omega), if_pos (by omega)]); have hc := ferr_at hg (by rw [he]; decide) m.length (by omega); rw [chkM, if_neg (by omega), if_neg (by omega), if_neg (fun hh => hh hf), hc, he]) | (refine fpure ?_; refine ⟨?_, rfl⟩; have hub : u = l.length := (by omega); have hvb : v = m.length := (by omega); subst hub; subst hvb; rw [chkM, if_neg (by omega), if_neg (by omega), if_neg (fun hh => hh hf), hg])
       ·
        try simp only [decide_eq_true_eq, decide_eq_false_iff_not, Bool.not_eq_true', Bool.not_eq_false', beq_iff_eq, beq_eq_false_iff_ne, ne_eq] at h7
        refine at_skip rfl ?_
        refine then_n ?_
        refine at_seq rfl ?_
        refine rg rfl ?_
        refine Rq ?_
        refine Rq ?_
        refine Rcall ?_
        refine ACall_eq (chk30 _ _ (gt l u).ds) ?_
        refine Rq ?_
        have tr : ∀ a b c d e f g h i j k m n o p q r s t u v w x y z A B C : AV, let l := lc_chkm13 a b c d e f g h i j k m n o p q r s t u v w x y; trim ((5,C)::(48,B)::(47,A)::(46,z)::l) l = [(0,a),(1,b),(2,c),(3,d),(4,e),(5,C),(6,g),(7,h),(17,i),(27,j),(29,k),(30,m),(31,n),(32,o),(39,p),(45,q),(50,r),(54,s),(55,t),(56,u),(57,v),(64,w),(70,x),(78,y)] := by intros; rfl
        refine R_nil (tr ..) ?_; clear tr
        refine then_n ?_
        refine at_seq rfl ?_
        refine rg rfl ?_
        refine Rq ?_
        refine Rq ?_
        have tr : ∀ a b c d e f g h i j k m n o p q r s t u v w x y z A : AV, let l := lc_chkm13 a b c d e f g h i j k m n o p q r s t u v w x y; trim ((50,A)::(49,z)::l) l = [(0,a),(1,b),(2,c),(3,d),(4,e),(5,f),(6,g),(7,h),(17,i),(27,j),(29,k),(30,m),(31,n),(32,o),(39,p),(45,q),(50,A),(54,s),(55,t),(56,u),(57,v),(64,w),(70,x),(78,y)] := by intros; rfl
        refine R_nil (tr ..) ?_; clear tr
        refine then_n ?_
        refine cdd (fun h8 => ?_) (fun h8 => ?_)
        ·
         try simp only [decide_eq_true_eq, decide_eq_false_iff_not, Bool.not_eq_true', Bool.not_eq_false', beq_iff_eq, beq_eq_false_iff_ne, ne_eq] at h8
         refine at_seq rfl ?_
         refine rg rfl ?_
         refine Rq ?_
         refine Rq ?_
         have tr : ∀ a b c d e f g h i j k m n o p q r s t u v w x y z A : AV, let l := lc_chkm13 a b c d e f g h i j k m n o p q r s t u v w x y; trim ((2,A)::(51,z)::l) l = [(0,a),(1,b),(2,A),(3,d),(4,e),(5,f),(6,g),(7,h),(17,i),(27,j),(29,k),(30,m),(31,n),(32,o),(39,p),(45,q),(50,r),(54,s),(55,t),(56,u),(57,v),(64,w),(70,x),(78,y)] := by intros; rfl
         refine R_nil (tr ..) ?_; clear tr
         refine then_n ?_
         refine at_ret rfl ?_
         refine blk_r ?_
         refine then_r ?_
         refine then_r ?_
         refine blk_r ?_
         refine then_r ?_
         first | (refine fpure ?_; refine ⟨?_, rfl⟩; rw [chkM, if_pos (by omega)]) | (refine fpure ?_; refine ⟨?_, rfl⟩; rw [chkM, if_neg (by omega), if_pos (by omega)]) | (refine fpure ?_; refine ⟨?_, rfl⟩; have he : btE l u = 5 := (by rw [btE, if_pos (by assumption)]); have hne : btE l u ≠ 0 := (by rw [he]; first | decide | assumption); have hc := ferr_at hf hne l.length (by omega); rw [chkM, if_neg (by omega), if_neg (by omega), if_pos (by rw [hc]; exact hne), hc, he]) | (refine fpure ?_; refine ⟨?_, rfl⟩; have he : btE l u = 7 := (by rw [btE, if_neg (by simp_all), if_pos (by omega)]); have hne : btE l u ≠ 0 := (by rw [he]; first | decide | assumption); have hc := ferr_at hf hne l.length (by omega); rw [chkM, if_neg (by omega), if_neg (by omega), if_pos (by rw [hc]; exact hne), hc, he]) | (refine fpure ?_; refine ⟨?_, rfl⟩; have he : btE l u = chkD (gt l u).ds := (by rw [btE, if_neg (by simp_all), if_neg (by omega)]); have hne : btE l u ≠ 0 := (by rw [he]; first | decide | assumption); have hc := ferr_at hf hne l.length (by omega); rw [chkM, if_neg (by omega), if_neg (by omega), if_pos (by rw [hc]; exact hne), hc, he]) | (refine fpure ?_; refine ⟨?_, rfl⟩; have hub : u = l.length := (by omega); subst hub; have he : bwE m v = 5 := (by rw [bwE, if_pos (by assumption)]); have hc := ferr_at hg (by rw [he]; decide) m.length (by omega); rw [chkM, if_neg (by omega), if_neg (by omega), if_neg (fun hh => hh hf), hc, he]) | (refine fpure ?_; refine ⟨?_, rfl⟩; have hub : u = l.length := (by omega); subst hub; have he : bwE m v = 7 := (by rw [bwE, if_neg (by simp_all), if_pos (by omega)]); have hc := ferr_at hg (by rw [he]; decide) m.length (by omega); rw [chkM, if_neg (by omega), if_neg (by omega), if_neg (fun hh => hh hf), hc, he]) | (refine fpure ?_; refine ⟨?_, rfl⟩; have hub : u = l.length := (by omega); subst hub; have he : bwE m v = 2 := (by rw [bwE, if_neg (by simp_all), if_neg (by omega), if_pos (by omega)]); have hc := ferr_at hg (by rw [he]; decide) m.length (by omega); rw [chkM, if_neg (by omega), if_neg (by omega), if_neg (fun hh => hh hf), hc, he]) | (refine fpure ?_; refine ⟨?_, rfl⟩; have hub : u = l.length := (by omega); have hvb : v = m.length := (by omega); subst hub; subst hvb; rw [chkM, if_neg (by omega), if_neg (by omega), if_neg (fun hh => hh hf), hg])
        ·
         try simp only [decide_eq_true_eq, decide_eq_false_iff_not, Bool.not_eq_true', Bool.not_eq_false', beq_iff_eq, beq_eq_false_iff_ne, ne_eq] at h8
         refine at_skip rfl ?_
         refine blk_n ?_
         refine then_n ?_
         refine rg rfl ?_
         refine Rq ?_
         refine Rq ?_
         have tr : ∀ a b c d e f g h i j k m n o p q r s t u v w x y z A : AV, let l := lc_chkm13 a b c d e f g h i j k m n o p q r s t u v w x y; trim ((31,A)::(52,z)::l) l = [(0,a),(1,b),(2,c),(3,d),(4,e),(5,f),(6,g),(7,h),(17,i),(27,j),(29,k),(30,m),(31,A),(32,o),(39,p),(45,q),(50,r),(54,s),(55,t),(56,u),(57,v),(64,w),(70,x),(78,y)] := by intros; rfl
         refine R_nil (tr ..) ?_; clear tr
         refine then_n ?_
         exact ⟨_, _, ⟨u + 1, X ++ [some (btC (gt l u))], _, _, _, _, _, _, _, _, rfl, rfl, by simp; rfl, by omega, by exact ferr_ok hf (by rw [btE, if_neg (by simp_all), if_neg (by omega)]; assumption)⟩, by rfl, by omega⟩
     ·
      try simp only [decide_eq_true_eq, decide_eq_false_iff_not, Bool.not_eq_true', Bool.not_eq_false', beq_iff_eq, beq_eq_false_iff_ne, ne_eq] at h5
      refine at_exit rfl ?_
      refine then_x ?_
      refine then_x ?_
      refine blk_x ?_
      refine then_n ?_
      refine at_seq rfl ?_
      refine at_seq rfl ?_
      refine rg rfl ?_
      refine Rq ?_
      refine Rq ?_
      refine Rq ?_
      refine Rq ?_
      have tr : ∀ a b c d e f g h i j k m n o p q r s t u v w x y z A B C : AV, let l := lc_chkm13 a b c d e f g h i j k m n o p q r s t u v w x y; trim ((56,C)::(55,B)::(54,A)::(53,z)::l) l = [(0,a),(1,b),(2,c),(3,d),(4,e),(5,f),(6,g),(7,h),(17,i),(27,j),(29,k),(30,m),(31,n),(32,o),(39,p),(45,q),(50,r),(54,A),(55,B),(56,C),(57,v),(64,w),(70,x),(78,y)] := by intros; rfl
      refine R_nil (tr ..) ?_; clear tr
      refine then_n ?_
      refine at_block rfl ?_
      refine loop_n rfl (fun mm kv H' => ∃ v : Nat, ∃ Y : Heap, ∃ x2 x6 x7 x57 x64 x70 x78 : AV, (kv = [(2, x2), (6, x6), (7, x7), (56, AV.i v), (57, x57), (64, x64), (70, x70), (78, x78)]) ∧ (mm = m.length - v) ∧ (H' = H ++ [some [btsAV l, bwsAV m]] ++ X ++ Y) ∧ (v ≤ m.length) ∧ (ferr (bwE m) v = 0)) ⟨0, [], _, _, _, _, _, _, _, rfl, rfl, by simp, by omega, by rfl⟩ (by rfl) ?_
      rintro mm kv H2 ⟨v, Y, x2, x6, x7, x57, x64, x70, x78, rfl, rfl, hY, hv, hg⟩
      have tr : ∀ a b c d e f g h i j k m n o p q r s t u v w x y z A B C D E F G : AV, upd [(0,a),(1,b),(2,c),(3,d),(4,e),(5,f),(6,g),(7,h),(17,i),(27,j),(29,k),(30,m),(31,n),(32,o),(39,p),(45,q),(50,r),(54,s),(55,t),(56,u),(57,v),(64,w),(70,x),(78,y)] [(2,z),(6,A),(7,B),(56,C),(57,D),(64,E),(70,F),(78,G)] = [(0,a),(1,b),(2,z),(3,d),(4,e),(5,f),(6,A),(7,B),(17,i),(27,j),(29,k),(30,m),(31,n),(32,o),(39,p),(45,q),(50,r),(54,s),(55,t),(56,C),(57,D),(64,E),(70,F),(78,G)] := by intros; rfl
      refine W_to (tr ..) ?_; clear tr
      subst hY
      refine at_seq rfl ?_
      refine rg rfl ?_
      refine Rq ?_
      have tr : ∀ a b c d e f g h i j k m n o p q r s t u v w x y z : AV, let l := lc_chkm13 a b c d e f g h i j k m n o p q r s t u v w x y; trim ((57,z)::l) l = [(0,a),(1,b),(2,c),(3,d),(4,e),(5,f),(6,g),(7,h),(17,i),(27,j),(29,k),(30,m),(31,n),(32,o),(39,p),(45,q),(50,r),(54,s),(55,t),(56,u),(57,z),(64,w),(70,x),(78,y)] := by intros; rfl
      refine R_nil (tr ..) ?_; clear tr
      refine then_n ?_
      refine at_seq rfl ?_
      refine cdd (fun h9 => ?_) (fun h9 => ?_)
      ·
       try simp only [decide_eq_true_eq, decide_eq_false_iff_not, Bool.not_eq_true', Bool.not_eq_false', beq_iff_eq, beq_eq_false_iff_ne, ne_eq] at h9
       refine at_skip rfl ?_
       refine then_n ?_
       refine at_seq rfl ?_
       refine at_block rfl ?_
       refine at_seq rfl ?_
       refine rg rfl ?_
       refine Rq ?_
       refine Rq ?_
       refine Rq ?_
       refine R_alloc (by simp (disch := first | omega | (simp only [List.length_map, List.length_append, List.length_set, List.length_cons, List.length_nil]; omega)) only [go_sem, ↓reduceIte, Nat.reduceEqDiff, reduceCtorEq] <;> rfl) rfl (by simp only [List.map_cons, List.map_nil]; rfl) ?_
       refine Rq ?_
       refine R_store ty65 (by simp (disch := first | omega | (simp only [List.length_map, List.length_append, List.length_set, List.length_cons, List.length_nil]; omega)) only [go_sem, ↓reduceIte, Nat.reduceEqDiff, reduceCtorEq] <;> rfl) (by simp (disch := first | omega | (simp only [List.length_map, List.length_append, List.length_set, List.length_cons, List.length_nil]; omega)) only [go_sem, ↓reduceIte, Nat.reduceEqDiff, reduceCtorEq] <;> rfl) (by simp (disch := first | omega | (simp only [List.length_map, List.length_append, List.length_set, List.length_cons, List.length_nil]; omega)) only [go_sem, ↓reduceIte, Nat.reduceEqDiff, reduceCtorEq] <;> rfl) (by simp) (by rfl) (by simp (disch := first | omega | (simp only [List.length_map, List.length_append, List.length_set, List.length_cons, List.length_nil]; omega)) only [go_sem, ↓reduceIte, Nat.reduceEqDiff, reduceCtorEq] <;> rfl) ?_
       have tr : ∀ a b c d e f g h i j k m n o p q r s t u v w x y z A B C D : AV, let l := lc_chkm13 a b c d e f g h i j k m n o p q r s t u v w x y; trim ((6,D)::(7,C)::(60,B)::(59,A)::(58,z)::l) l = [(0,a),(1,b),(2,c),(3,d),(4,e),(5,f),(6,D),(7,C),(17,i),(27,j),(29,k),(30,m),(31,n),(32,o),(39,p),(45,q),(50,r),(54,s),(55,t),(56,u),(57,v),(64,w),(70,x),(78,y)] := by intros; rfl
       refine R_nil (tr ..) ?_; clear tr
       refine then_n ?_
       refine at_seq rfl ?_
       refine at_seq rfl ?_
       refine rg rfl ?_
       refine Rq ?_
       refine Rq ?_
       refine Rcall ?_
       refine ACall_eq (name_ok28 _ _ (gt m v).nm (hM v (by omega))) ?_
       refine Rq ?_
       have tr : ∀ a b c d e f g h i j k m n o p q r s t u v w x y z A B C : AV, let l := lc_chkm13 a b c d e f g h i j k m n o p q r s t u v w x y; trim ((64,C)::(63,B)::(62,A)::(61,z)::l) l = [(0,a),(1,b),(2,c),(3,d),(4,e),(5,f),(6,g),(7,h),(17,i),(27,j),(29,k),(30,m),(31,n),(32,o),(39,p),(45,q),(50,r),(54,s),(55,t),(56,u),(57,v),(64,C),(70,x),(78,y)] := by intros; rfl
       refine R_nil (tr ..) ?_; clear tr
       refine then_n ?_
       refine cdd (fun h10 => ?_) (fun h10 => ?_)
       ·
        try simp only [decide_eq_true_eq, decide_eq_false_iff_not, Bool.not_eq_true', Bool.not_eq_false', beq_iff_eq, beq_eq_false_iff_ne, ne_eq] at h10
        refine at_seq rfl ?_
        refine rg rfl ?_
        refine Rq ?_
        have tr : ∀ a b c d e f g h i j k m n o p q r s t u v w x y z : AV, let l := lc_chkm13 a b c d e f g h i j k m n o p q r s t u v w x y; trim ((2,z)::l) l = [(0,a),(1,b),(2,z),(3,d),(4,e),(5,f),(6,g),(7,h),(17,i),(27,j),(29,k),(30,m),(31,n),(32,o),(39,p),(45,q),(50,r),(54,s),(55,t),(56,u),(57,v),(64,w),(70,x),(78,y)] := by intros; rfl
        refine R_nil (tr ..) ?_; clear tr
        refine then_n ?_
        refine at_ret rfl ?_
        refine then_r ?_
        refine blk_r ?_
        refine then_r ?_
        refine then_r ?_
        refine blk_r ?_
        refine then_r ?_
        first | (refine fpure ?_; refine ⟨?_, rfl⟩; rw [chkM, if_pos (by omega)]) | (refine fpure ?_; refine ⟨?_, rfl⟩; rw [chkM, if_neg (by omega), if_pos (by omega)]) | (refine fpure ?_; refine ⟨?_, rfl⟩; have he : btE l u = 5 := (by rw [btE, if_pos (by assumption)]); have hne : btE l u ≠ 0 := (by rw [he]; first | decide | assumption); have hc := ferr_at hf hne l.length (by omega); rw [chkM, if_neg (by omega), if_neg (by omega), if_pos (by rw [hc]; exact hne), hc, he]) | (refine fpure ?_; refine ⟨?_, rfl⟩; have he : btE l u = 7 := (by rw [btE, if_neg (by simp_all), if_pos (by omega)]); have hne : btE l u ≠ 0 := (by rw [he]; first | decide | assumption); have hc := ferr_at hf hne l.length (by omega); rw [chkM, if_neg (by omega), if_neg (by omega), if_pos (by rw [hc]; exact hne), hc, he]) | (refine fpure ?_; refine ⟨?_, rfl⟩; have he : btE l u = chkD (gt l u).ds := (by rw [btE, if_neg (by simp_all), if_neg (by omega)]); have hne : btE l u ≠ 0 := (by rw [he]; first | decide | assumption); have hc := ferr_at hf hne l.length (by omega); rw [chkM, if_neg (by omega), if_neg (by omega), if_pos (by rw [hc]; exact hne), hc, he]) | (refine fpure ?_; refine ⟨?_, rfl⟩; have hub : u = l.length := (by omega); subst hub; have he : bwE m v = 5 := (by rw [bwE, if_pos (by assumption)]); have hc := ferr_at hg (by rw [he]; decide) m.length (by omega); rw [chkM, if_neg (by omega), if_neg (by omega), if_neg (fun hh => hh hf), hc, he]) | (refine fpure ?_; refine ⟨?_, rfl⟩; have hub : u = l.length := (by omega); subst hub; have he : bwE m v = 7 := (by rw [bwE, if_neg (by simp_all), if_pos (by omega)]); have hc := ferr_at hg (by rw [he]; decide) m.length (by omega); rw [chkM, if_neg (by omega), if_neg (by omega), if_neg (fun hh => hh hf), hc, he]) | (refine fpure ?_; refine ⟨?_, rfl⟩; have hub : u = l.length := (by omega); subst hub; have he : bwE m v = 2 := (by rw [bwE, if_neg (by simp_all), if_neg (by omega), if_pos (by omega)]); have hc := ferr_at hg (by rw [he]; decide) m.length (by omega); rw [chkM, if_neg (by omega), if_neg (by omega), if_neg (fun hh => hh hf), hc, he]) | (refine fpure ?_; refine ⟨?_, rfl⟩; have hub : u = l.length := (by omega); have hvb : v = m.length := (by omega); subst hub; subst hvb; rw [chkM, if_neg (by omega), if_neg (by omega), if_neg (fun hh => hh hf), hg])
       ·
        try simp only [decide_eq_true_eq, decide_eq_false_iff_not, Bool.not_eq_true', Bool.not_eq_false', beq_iff_eq, beq_eq_false_iff_ne, ne_eq] at h10
        refine at_skip rfl ?_
        refine then_n ?_
        refine at_seq rfl ?_
        refine at_seq rfl ?_
        refine rg rfl ?_
        refine Rq ?_
        refine Rq ?_
        refine Rq ?_
        refine Rcall ?_
        refine ACall_eq (find31 _ _ l m (gt m v).nm (by omega) (by omega)) ?_
        refine Rq ?_
        refine Rq ?_
        have tr : ∀ a b c d e f g h i j k m n o p q r s t u v w x y z A B C D E : AV, let l := lc_chkm13 a b c d e f g h i j k m n o p q r s t u v w x y; trim ((70,E)::(69,D)::(68,C)::(67,B)::(66,A)::(65,z)::l) l = [(0,a),(1,b),(2,c),(3,d),(4,e),(5,f),(6,g),(7,h),(17,i),(27,j),(29,k),(30,m),(31,n),(32,o),(39,p),(45,q),(50,r),(54,s),(55,t),(56,u),(57,v),(64,w),(70,E),(78,y)] := by intros; rfl
        refine R_nil (tr ..) ?_; clear tr
        refine then_n ?_
        refine cdd (fun h11 => ?_) (fun h11 => ?_)
        ·
         try simp only [decide_eq_true_eq, decide_eq_false_iff_not, Bool.not_eq_true', Bool.not_eq_false', beq_iff_eq, beq_eq_false_iff_ne, ne_eq] at h11
         refine at_seq rfl ?_
         refine rg rfl ?_
         refine Rq ?_
         have tr : ∀ a b c d e f g h i j k m n o p q r s t u v w x y z : AV, let l := lc_chkm13 a b c d e f g h i j k m n o p q r s t u v w x y; trim ((2,z)::l) l = [(0,a),(1,b),(2,z),(3,d),(4,e),(5,f),(6,g),(7,h),(17,i),(27,j),(29,k),(30,m),(31,n),(32,o),(39,p),(45,q),(50,r),(54,s),(55,t),(56,u),(57,v),(64,w),(70,x),(78,y)] := by intros; rfl
         refine R_nil (tr ..) ?_; clear tr
         refine then_n ?_
         refine at_ret rfl ?_
         refine then_r ?_
         refine blk_r ?_
         refine then_r ?_
         refine then_r ?_
         refine blk_r ?_
         refine then_r ?_
         first | (refine fpure ?_; refine ⟨?_, rfl⟩; rw [chkM, if_pos (by omega)]) | (refine fpure ?_; refine ⟨?_, rfl⟩; rw [chkM, if_neg (by omega), if_pos (by omega)]) | (refine fpure ?_; refine ⟨?_, rfl⟩; have he : btE l u = 5 := (by rw [btE, if_pos (by assumption)]); have hne : btE l u ≠ 0 := (by rw [he]; first | decide | assumption); have hc := ferr_at hf hne l.length (by omega); rw [chkM, if_neg (by omega), if_neg (by omega), if_pos (by rw [hc]; exact hne), hc, he]) | (refine fpure ?_; refine ⟨?_, rfl⟩; have he : btE l u = 7 := (by rw [btE, if_neg (by simp_all), if_pos (by omega)]); have hne : btE l u ≠ 0 := (by rw [he]; first | decide | assumption); have hc := ferr_at hf hne l.length (by omega); rw [chkM, if_neg (by omega), if_neg (by omega), if_pos (by rw [hc]; exact hne), hc, he]) | (refine fpure ?_; refine ⟨?_, rfl⟩; have he : btE l u = chkD (gt l u).ds := (by rw [btE, if_neg (by simp_all), if_neg (by omega)]); have hne : btE l u ≠ 0 := (by rw [he]; first | decide | assumption); have hc := ferr_at hf hne l.length (by omega); rw [chkM, if_neg (by omega), if_neg (by omega), if_pos (by rw [hc]; exact hne), hc, he]) | (refine fpure ?_; refine ⟨?_, rfl⟩; have hub : u = l.length := (by omega); subst hub; have he : bwE m v = 5 := (by rw [bwE, if_pos (by assumption)]); have hc := ferr_at hg (by rw [he]; decide) m.length (by omega); rw [chkM, if_neg (by omega), if_neg (by omega), if_neg (fun hh => hh hf), hc, he]) | (refine fpure ?_; refine ⟨?_, rfl⟩; have hub : u = l.length := (by omega); subst hub; have he : bwE m v = 7 := (by rw [bwE, if_neg (by simp_all), if_pos (by omega)]); have hc := ferr_at hg (by rw [he]; decide) m.length (by omega); rw [chkM, if_neg (by omega), if_neg (by omega), if_neg (fun hh => hh hf), hc, he]) | (refine fpure ?_; refine ⟨?_, rfl⟩; have hub : u = l.length := (by omega); subst hub; have he : bwE m v = 2 := (by rw [bwE, if_neg (by simp_all), if_neg (by omega), if_pos (by omega)]); have hc := ferr_at hg (by rw [he]; decide) m.length (by omega); rw [chkM, if_neg (by omega), if_neg (by omega), if_neg (fun hh => hh hf), hc, he]) | (refine fpure ?_; refine ⟨?_, rfl⟩; have hub : u = l.length := (by omega); have hvb : v = m.length := (by omega); subst hub; subst hvb; rw [chkM, if_neg (by omega), if_neg (by omega), if_neg (fun hh => hh hf), hg])
        ·
         try simp only [decide_eq_true_eq, decide_eq_false_iff_not, Bool.not_eq_true', Bool.not_eq_false', beq_iff_eq, beq_eq_false_iff_ne, ne_eq] at h11
         refine at_skip rfl ?_
         refine then_n ?_
         refine at_seq rfl ?_
         refine rg rfl ?_
         refine Rq ?_
         refine Rq ?_
         refine Rq ?_
         refine Rq ?_
         refine Rp_split (fun h12 => ?_) (fun h12 => ?_)
         ·
          try simp only [decide_eq_true_eq, decide_eq_false_iff_not, Bool.not_eq_true', Bool.not_eq_false', beq_iff_eq, beq_eq_false_iff_ne, ne_eq] at h12
          refine Rn ?_
          refine Rn ?_
          refine Rn ?_
          refine Rq ?_
          have tr : ∀ a b c d e f g h i j k m n o p q r s t u v w x y z A B C D E F G : AV, let l := lc_chkm13 a b c d e f g h i j k m n o p q r s t u v w x y; trim ((78,G)::(77,F)::(76,E)::(75,D)::(74,C)::(73,B)::(72,A)::(71,z)::l) l = [(0,a),(1,b),(2,c),(3,d),(4,e),(5,f),(6,g),(7,h),(17,i),(27,j),(29,k),(30,m),(31,n),(32,o),(39,p),(45,q),(50,r),(54,s),(55,t),(56,u),(57,v),(64,w),(70,x),(78,G)] := by intros; rfl
          refine R_nil (tr ..) ?_; clear tr
          refine then_n ?_
          refine cdt ?_
          refine at_seq rfl ?_
          refine rg rfl ?_
          refine Rq ?_
          have tr : ∀ a b c d e f g h i j k m n o p q r s t u v w x y z : AV, let l := lc_chkm13 a b c d e f g h i j k m n o p q r s t u v w x y; trim ((2,z)::l) l = [(0,a),(1,b),(2,z),(3,d),(4,e),(5,f),(6,g),(7,h),(17,i),(27,j),(29,k),(30,m),(31,n),(32,o),(39,p),(45,q),(50,r),(54,s),(55,t),(56,u),(57,v),(64,w),(70,x),(78,y)] := by intros; rfl
          refine R_nil (tr ..) ?_; clear tr
          refine then_n ?_
          refine at_ret rfl ?_
          refine blk_r ?_
          refine then_r ?_
          refine then_r ?_
          refine blk_r ?_
          refine then_r ?_
          first | (refine fpure ?_; refine ⟨?_, rfl⟩; rw [chkM, if_pos (by omega)]) | (refine fpure ?_; refine ⟨?_, rfl⟩; rw [chkM, if_neg (by omega), if_pos (by omega)]) | (refine fpure ?_; refine ⟨?_, rfl⟩; have he : btE l u = 5 := (by rw [btE, if_pos (by assumption)]); have hne : btE l u ≠ 0 := (by rw [he]; first | decide | assumption); have hc := ferr_at hf hne l.length (by omega); rw [chkM, if_neg (by omega), if_neg (by omega), if_pos (by rw [hc]; exact hne), hc, he]) | (refine fpure ?_; refine ⟨?_, rfl⟩; have he : btE l u = 7 := (by rw [btE, if_neg (by simp_all), if_pos (by omega)]); have hne : btE l u ≠ 0 := (by rw [he]; first | decide | assumption); have hc := ferr_at hf hne l.length (by omega); rw [chkM, if_neg (by omega), if_neg (by omega), if_pos (by rw [hc]; exact hne), hc, he]) | (refine fpure ?_; refine ⟨?_, rfl⟩; have he : btE l u = chkD (gt l u).ds := (by rw [btE, if_neg (by simp_all), if_neg (by omega)]); have hne : btE l u ≠ 0 := (by rw [he]; first | decide | assumption); have hc := ferr_at hf hne l.length (by omega); rw [chkM, if_neg (by omega), if_neg (by omega), if_pos (by rw [hc]; exact hne), hc, he]) | (refine fpure ?_; refine ⟨?_, rfl⟩; have hub : u = l.length := (by omega); subst hub; have he : bwE m v = 5 := (by rw [bwE, if_pos (by assumption)]); have hc := ferr_at hg (by rw [he]; decide) m.length (by omega); rw [chkM, if_neg (by omega), if_neg (by omega), if_neg (fun hh => hh hf), hc, he]) | (refine fpure ?_; refine ⟨?_, rfl⟩; have hub : u = l.length := (by omega); subst hub; have he : bwE m v = 7 := (by rw [bwE, if_neg (by simp_all), if_pos (by omega)]); have hc := ferr_at hg (by rw [he]; decide) m.length (by omega); rw [chkM, if_neg (by omega), if_neg (by omega), if_neg (fun hh => hh hf), hc, he]) | (refine fpure ?_; refine ⟨?_, rfl⟩; have hub : u = l.length := (by omega); subst hub; have he : bwE m v = 2 := (by rw [bwE, if_neg (by simp_all), if_neg (by omega), if_pos (by omega)]); have hc := ferr_at hg (by rw [he]; decide) m.length (by omega); rw [chkM, if_neg (by omega), if_neg (by omega), if_neg (fun hh => hh hf), hc, he]) | (refine fpure ?_; refine ⟨?_, rfl⟩; have hub : u = l.length := (by omega); have hvb : v = m.length := (by omega); subst hub; subst hvb; rw [chkM, if_neg (by omega), if_neg (by omega), if_neg (fun hh => hh hf), hg])
         ·
          try simp only [decide_eq_true_eq, decide_eq_false_iff_not, Bool.not_eq_true', Bool.not_eq_false', beq_iff_eq, beq_eq_false_iff_ne, ne_eq] at h12
          refine Ry ?_
          refine Rq ?_
          refine Ry ?_
          refine Rq ?_
          refine Ry ?_
          refine Rq ?_
          refine Rq ?_
          have tr : ∀ a b c d e f g h i j k m n o p q r s t u v w x y z A B C D E F G : AV, let l := lc_chkm13 a b c d e f g h i j k m n o p q r s t u v w x y; trim ((78,G)::(77,F)::(76,E)::(75,D)::(74,C)::(73,B)::(72,A)::(71,z)::l) l = [(0,a),(1,b),(2,c),(3,d),(4,e),(5,f),(6,g),(7,h),(17,i),(27,j),(29,k),(30,m),(31,n),(32,o),(39,p),(45,q),(50,r),(54,s),(55,t),(56,u),(57,v),(64,w),(70,x),(78,G)] := by intros; rfl
          refine R_nil (tr ..) ?_; clear tr
          refine then_n ?_
          refine cdd (fun h13 => ?_) (fun h13 => ?_)
          ·
           try simp only [decide_eq_true_eq, decide_eq_false_iff_not, Bool.not_eq_true', Bool.not_eq_false', beq_iff_eq, beq_eq_false_iff_ne, ne_eq] at h13
           refine at_seq rfl ?_
           refine rg rfl ?_
           refine Rq ?_
           have tr : ∀ a b c d e f g h i j k m n o p q r s t u v w x y z : AV, let l := lc_chkm13 a b c d e f g h i j k m n o p q r s t u v w x y; trim ((2,z)::l) l = [(0,a),(1,b),(2,z),(3,d),(4,e),(5,f),(6,g),(7,h),(17,i),(27,j),(29,k),(30,m),(31,n),(32,o),(39,p),(45,q),(50,r),(54,s),(55,t),(56,u),(57,v),(64,w),(70,x),(78,y)] := by intros; rfl
           refine R_nil (tr ..) ?_; clear tr
           refine then_n ?_
           refine at_ret rfl ?_
           refine blk_r ?_
           refine then_r ?_
           refine then_r ?_
           refine blk_r ?_
           refine then_r ?_
           first | (refine fpure ?_; refine ⟨?_, rfl⟩; rw [chkM, if_pos (by omega)]) | (refine fpure ?_; refine ⟨?_, rfl⟩; rw [chkM, if_neg (by omega), if_pos (by omega)]) | (refine fpure ?_; refine ⟨?_, rfl⟩; have he : btE l u = 5 := (by rw [btE, if_pos (by assumption)]); have hne : btE l u ≠ 0 := (by rw [he]; first | decide | assumption); have hc := ferr_at hf hne l.length (by omega); rw [chkM, if_neg (by omega), if_neg (by omega), if_pos (by rw [hc]; exact hne), hc, he]) | (refine fpure ?_; refine ⟨?_, rfl⟩; have he : btE l u = 7 := (by rw [btE, if_neg (by simp_all), if_pos (by omega)]); have hne : btE l u ≠ 0 := (by rw [he]; first | decide | assumption); have hc := ferr_at hf hne l.length (by omega); rw [chkM, if_neg (by omega), if_neg (by omega), if_pos (by rw [hc]; exact hne), hc, he]) | (refine fpure ?_; refine ⟨?_, rfl⟩; have he : btE l u = chkD (gt l u).ds := (by rw [btE, if_neg (by simp_all), if_neg (by omega)]); have hne : btE l u ≠ 0 := (by rw [he]; first | decide | assumption); have hc := ferr_at hf hne l.length (by omega); rw [chkM, if_neg (by omega), if_neg (by omega), if_pos (by rw [hc]; exact hne), hc, he]) | (refine fpure ?_; refine ⟨?_, rfl⟩; have hub : u = l.length := (by omega); subst hub; have he : bwE m v = 5 := (by rw [bwE, if_pos (by assumption)]); have hc := ferr_at hg (by rw [he]; decide) m.length (by omega); rw [chkM, if_neg (by omega), if_neg (by omega), if_neg (fun hh => hh hf), hc, he]) | (refine fpure ?_; refine ⟨?_, rfl⟩; have hub : u = l.length := (by omega); subst hub; have he : bwE m v = 7 := (by rw [bwE, if_neg (by simp_all), if_pos (by omega)]); have hc := ferr_at hg (by rw [he]; decide) m.length (by omega); rw [chkM, if_neg (by omega), if_neg (by omega), if_neg (fun hh => hh hf), hc, he]) | (refine fpure ?_; refine ⟨?_, rfl⟩; have hub : u = l.length := (by omega); subst hub; have he : bwE m v = 2 := (by rw [bwE, if_neg (by simp_all), if_neg (by omega), if_pos (by omega)]); have hc := ferr_at hg (by rw [he]; decide) m.length (by omega); rw [chkM, if_neg (by omega), if_neg (by omega), if_neg (fun hh => hh hf), hc, he]) | (refine fpure ?_; refine ⟨?_, rfl⟩; have hub : u = l.length := (by omega); have hvb : v = m.length := (by omega); subst hub; subst hvb; rw [chkM, if_neg (by omega), if_neg (by omega), if_neg (fun hh => hh hf), hg])
          ·
           try simp only [decide_eq_true_eq, decide_eq_false_iff_not, Bool.not_eq_true', Bool.not_eq_false', beq_iff_eq, beq_eq_false_iff_ne, ne_eq] at h13
           refine at_skip rfl ?_
           refine blk_n ?_
           refine then_n ?_
           refine rg rfl ?_
           refine Rq ?_
           refine Rq ?_
           have tr : ∀ a b c d e f g h i j k m n o p q r s t u v w x y z A : AV, let l := lc_chkm13 a b c d e f g h i j k m n o p q r s t u v w x y; trim ((56,A)::(79,z)::l) l = [(0,a),(1,b),(2,c),(3,d),(4,e),(5,f),(6,g),(7,h),(17,i),(27,j),(29,k),(30,m),(31,n),(32,o),(39,p),(45,q),(50,r),(54,s),(55,t),(56,A),(57,v),(64,w),(70,x),(78,y)] := by intros; rfl
           refine R_nil (tr ..) ?_; clear tr
           refine then_n ?_
           exact ⟨_, _, ⟨v + 1, Y ++ [some (bwC (gt m v))], _, _, _, _, _, _, _, rfl, rfl, by simp; rfl, by omega, by exact ferr_ok hg (by rw [bwE, if_neg (by simp_all), if_neg (by omega), if_neg (by omega)])⟩, by rfl, by omega⟩
      ·
       try simp only [decide_eq_true_eq, decide_eq_false_iff_not, Bool.not_eq_true', Bool.not_eq_false', beq_iff_eq, beq_eq_false_iff_ne, ne_eq] at h9
       refine at_exit rfl ?_
       refine then_x ?_
       refine then_x ?_
       refine blk_x ?_
       refine then_n ?_
       refine at_seq rfl ?_
       refine rg rfl ?_
       refine Rq ?_
       have tr : ∀ a b c d e f g h i j k m n o p q r s t u v w x y z : AV, let l := lc_chkm13 a b c d e f g h i j k m n o p q r s t u v w x y; trim ((2,z)::l) l = [(0,a),(1,b),(2,z),(3,d),(4,e),(5,f),(6,g),(7,h),(17,i),(27,j),(29,k),(30,m),(31,n),(32,o),(39,p),(45,q),(50,r),(54,s),(55,t),(56,u),(57,v),(64,w),(70,x),(78,y)] := by intros; rfl
       refine R_nil (tr ..) ?_; clear tr
       refine then_n ?_
       refine at_ret rfl ?_
       first | (refine fpure ?_; refine ⟨?_, rfl⟩; rw [chkM, if_pos (by omega)]) | (refine fpure ?_; refine ⟨?_, rfl⟩; rw [chkM, if_neg (by omega), if_pos (by omega)]) | (refine fpure ?_; refine ⟨?_, rfl⟩; have he : btE l u = 5 := (by rw [btE, if_pos (by assumption)]); have hne : btE l u ≠ 0 := (by rw [he]; first | decide | assumption); have hc := ferr_at hf hne l.length (by omega); rw [chkM, if_neg (by omega), if_neg (by omega), if_pos (by rw [hc]; exact hne), hc, he]) | (refine fpure ?_; refine ⟨?_, rfl⟩; have he : btE l u = 7 := (by rw [btE, if_neg (by simp_all), if_pos (by omega)]); have hne : btE l u ≠ 0 := (by rw [he]; first | decide | assumption); have hc := ferr_at hf hne l.length (by omega); rw [chkM, if_neg (by omega), if_neg (by omega), if_pos (by rw [hc]; exact hne), hc, he]) | (refine fpure ?_; refine ⟨?_, rfl⟩; have he : btE l u = chkD (gt l u).ds := (by rw [btE, if_neg (by simp_all), if_neg (by omega)]); have hne : btE l u ≠ 0 := (by rw [he]; first | decide | assumption); have hc := ferr_at hf hne l.length (by omega); rw [chkM, if_neg (by omega), if_neg (by omega), if_pos (by rw [hc]; exact hne), hc, he]) | (refine fpure ?_; refine ⟨?_, rfl⟩; have hub : u = l.length := (by omega); subst hub; have he : bwE m v = 5 := (by rw [bwE, if_pos (by assumption)]); have hc := ferr_at hg (by rw [he]; decide) m.length (by omega); rw [chkM, if_neg (by omega), if_neg (by omega), if_neg (fun hh => hh hf), hc, he]) | (refine fpure ?_; refine ⟨?_, rfl⟩; have hub : u = l.length := (by omega); subst hub; have he : bwE m v = 7 := (by rw [bwE, if_neg (by simp_all), if_pos (by omega)]); have hc := ferr_at hg (by rw [he]; decide) m.length (by omega); rw [chkM, if_neg (by omega), if_neg (by omega), if_neg (fun hh => hh hf), hc, he]) | (refine fpure ?_; refine ⟨?_, rfl⟩; have hub : u = l.length := (by omega); subst hub; have he : bwE m v = 2 := (by rw [bwE, if_neg (by simp_all), if_neg (by omega), if_pos (by omega)]); have hc := ferr_at hg (by rw [he]; decide) m.length (by omega); rw [chkM, if_neg (by omega), if_neg (by omega), if_neg (fun hh => hh hf), hc, he]) | (refine fpure ?_; refine ⟨?_, rfl⟩; have hub : u = l.length := (by omega); have hvb : v = m.length := (by omega); subst hub; subst hvb; rw [chkM, if_neg (by omega), if_neg (by omega), if_neg (fun hh => hh hf), hg])

end Go.Proofs.Ytplockpopmaejaa
end
