/-
  Texts of TopRace, part 15 of 16. Walks of chapters 52 and 53. The steps are written by program (walk.py).
-/
import Derived.Test.YtdicnojnkbmdlaaKTopRace8
import Derived.Test.YtdicnojnkbmdlaaKTopRace11
import Derived.Test.YtdicnojnkbmdlaaKTopRace13
import Derived.Test.YtdicnojnkbmdlaaKTopRace9
import Derived.Test.YtdicnojnkbmdlaaKTopRace4
import Derived.Test.YtdicnojnkbmdlaaKTopRace3
import Derived.Test.YtdicnojnkbmdlaaKTopRace10
import Derived.Test.YtdicnojnkbmdlaaKTopRace2
import Derived.ProofKit
import Derived.ChangeArms
import Derived.DataReads
import Derived.OpenShut
import Derived.WideShapes
section
set_option linter.unusedSimpArgs false
set_option linter.unusedVariables false
set_option maxHeartbeats 40000000
set_option maxRecDepth 4000
namespace Go.Proofs.Ytdicnojnkbmdlaa
open Go Go.Am

abbrev lc_first_ok (a b c d e f g h i j k m n o p q r s t u v w x y z A B C D E F : AV) : Env := [(0,a),(1,b),(2,c),(4,d),(5,e),(6,f),(7,g),(8,h),(9,i),(10,j),(11,k),(12,m),(13,n),(15,o),(16,p),(17,q),(18,r),(26,s),(30,t),(31,u),(32,v),(33,w),(39,x),(58,y),(59,z),(60,A),(79,B),(89,C),(90,D),(91,E),(100,F)]
theorem first_ok (lim : Nat) (H : Heap) (P : List Int) (L : List Pr) (t : Int) :
    ACall sig lim 29 [.agg (raceC P L), AV.i t] H fun r H' => FirstP P L t r ∧ H' = H := by
 have q0 : True := trivial
 have q4 : True := trivial
 have qg : True := trivial
 have qv : True := trivial
 have hfe : True := trivial
 have hce : True := trivial
 have hst : True := trivial
 refine ACall_pure (fa := fa29) rfl rfl rfl rfl ?_
 have tr : ∀ a0 a1 : AV, env0 fa29.keep [a0, a1] = [(0,a0),(1,a1),(2,.any),(4,.any),(5,.any),(6,.any),(7,.any),(8,.any),(9,.any),(10,.any),(11,.any),(12,.any),(13,.any),(15,.any),(16,.any),(17,.any),(18,.any),(26,.any),(30,.any),(31,.any),(32,.any),(33,.any),(39,.any),(58,.any),(59,.any),(60,.any),(79,.any),(89,.any),(90,.any),(91,.any),(100,.any)] := fun a0 a1 => rfl
 refine W_to (tr _ _) ?_; clear tr
 refine at_seq rfl ?_
 refine rg rfl ?_
 refine A_box rfl (by simp (disch := first | omega | (simp only [List.length_map, List.length_append, List.length_set, List.length_cons, List.length_nil]; omega)) only [go_sem, ↓reduceIte, Nat.reduceEqDiff, reduceCtorEq] <;> rfl) ?_
 intro H1 n0
 have en0 := n0.len
 have q0 := n0.new
 refine A_alloc rfl ?_
 intro H2 n1
 have en1 := n1.len
 have q0 := (n1.old _ (hget_lt q0)).trans q0
 have q4 := n1.new
 refine Rq ?_
 have tr : ∀ a b c d e f g h i j k m n o p q r s t u v w x y z A B C D E F G H I : AV, let l := lc_first_ok a b c d e f g h i j k m n o p q r s t u v w x y z A B C D E F; trim ((5,I)::(4,H)::(2,G)::l) l = [(0,a),(1,b),(2,G),(4,H),(5,I),(6,f),(7,g),(8,h),(9,i),(10,j),(11,k),(12,m),(13,n),(15,o),(16,p),(17,q),(18,r),(26,s),(30,t),(31,u),(32,v),(33,w),(39,x),(58,y),(59,z),(60,A),(79,B),(89,C),(90,D),(91,E),(100,F)] := by intros; rfl
 refine R_nil (tr ..) ?_; clear tr
 refine then_n ?_
 refine at_seq rfl ?_
 refine rg rfl ?_
 refine R_q rfl (by simp (disch := first | omega | (simp only [List.length_map, List.length_append, List.length_set, List.length_cons, List.length_nil]; omega)) only [go_sem, ↓reduceIte, Nat.reduceEqDiff, reduceCtorEq, q0, q4, qg, qv, hfe, hce, hst] <;> rfl) ?_
 refine Rq ?_
 refine Rcall ?_
 refine ACall_eq (mst_ok _ _ P L t) ?_
 refine Rq ?_
 refine Rq ?_
 refine Rq ?_
 refine Rq ?_
 refine Rq ?_
 have tr : ∀ a b c d e f g h i j k m n o p q r s t u v w x y z A B C D E F G H I J K L M N : AV, let l := lc_first_ok a b c d e f g h i j k m n o p q r s t u v w x y z A B C D E F; trim ((7,N)::(6,M)::(24,L)::(23,K)::(19,J)::(22,I)::(21,H)::(20,G)::l) l = [(0,a),(1,b),(2,c),(4,d),(5,e),(6,M),(7,N),(8,h),(9,i),(10,j),(11,k),(12,m),(13,n),(15,o),(16,p),(17,q),(18,r),(26,s),(30,t),(31,u),(32,v),(33,w),(39,x),(58,y),(59,z),(60,A),(79,B),(89,C),(90,D),(91,E),(100,F)] := by intros; rfl
 refine R_nil (tr ..) ?_; clear tr
 refine then_n ?_
 refine at_seq rfl ?_
 refine at_seq rfl ?_
 refine rg rfl ?_
 refine Rq ?_
 refine Rq ?_
 have tr : ∀ a b c d e f g h i j k m n o p q r s t u v w x y z A B C D E F G H : AV, let l := lc_first_ok a b c d e f g h i j k m n o p q r s t u v w x y z A B C D E F; trim ((26,H)::(25,G)::l) l = [(0,a),(1,b),(2,c),(4,d),(5,e),(6,f),(7,g),(8,h),(9,i),(10,j),(11,k),(12,m),(13,n),(15,o),(16,p),(17,q),(18,r),(26,H),(30,t),(31,u),(32,v),(33,w),(39,x),(58,y),(59,z),(60,A),(79,B),(89,C),(90,D),(91,E),(100,F)] := by intros; rfl
 refine R_nil (tr ..) ?_; clear tr
 refine then_n ?_
 refine cdd (fun h1 => ?_) (fun h1 => ?_)
 ·
  try simp only [decide_eq_true_eq, decide_eq_false_iff_not, Bool.not_eq_true', Bool.not_eq_false', beq_iff_eq, beq_eq_false_iff_ne, ne_eq] at h1
  refine at_seq rfl ?_
  refine rg rfl ?_
  refine Rq ?_
  refine Rq ?_
  have lq0 := hget_lt q0
  have lq4 := hget_lt q4
  refine A_store ty46 (by simp (disch := first | omega | (simp only [List.length_map, List.length_append, List.length_set, List.length_cons, List.length_nil]; omega)) only [go_sem, ↓reduceIte, Nat.reduceEqDiff, reduceCtorEq, q0, q4, qg, qv, hfe, hce, hst] <;> rfl) (by simp (disch := first | omega | (simp only [List.length_map, List.length_append, List.length_set, List.length_cons, List.length_nil]; omega)) only [go_sem, ↓reduceIte, Nat.reduceEqDiff, reduceCtorEq, q0, q4, qg, qv, hfe, hce, hst] <;> rfl) q4 ⟨by omega, rfl, by first | exact Nat.le_refl _ | simp⟩ (show _ = [.v (.bool false), nilP, nilP] from rfl) ?_
  intro HZa wza
  have ewza := wza.len
  have q0 := (wza.old _ (by omega)).trans q0
  have q4 := wza.new
  refine Rq ?_
  have tr : ∀ a b c d e f g h i j k m n o p q r s t u v w x y z A B C D E F G H I : AV, let l := lc_first_ok a b c d e f g h i j k m n o p q r s t u v w x y z A B C D E F; trim ((5,I)::(28,H)::(27,G)::l) l = [(0,a),(1,b),(2,c),(4,d),(5,I),(6,f),(7,g),(8,h),(9,i),(10,j),(11,k),(12,m),(13,n),(15,o),(16,p),(17,q),(18,r),(26,s),(30,t),(31,u),(32,v),(33,w),(39,x),(58,y),(59,z),(60,A),(79,B),(89,C),(90,D),(91,E),(100,F)] := by intros; rfl
  refine R_nil (tr ..) ?_; clear tr
  refine then_n ?_
  refine at_ret rfl ?_
  refine then_r ?_
  refine fin_pure (rs := [.cell 4 46, .tmp 5]) rfl (by simp only [go_sem, ↓reduceIte, Nat.reduceEqDiff, q4]; rfl) rfl ?_
  obtain ⟨fB, fS⟩ := first_e (by assumption : ¬ (mostS P L t).2 = 0)
  refine ⟨⟨[], nilP, ?_, .inl ⟨fB, rfl, rfl⟩⟩, rfl⟩
  rw [fB, fS]
  rfl
 ·
  try simp only [decide_eq_true_eq, decide_eq_false_iff_not, Bool.not_eq_true', Bool.not_eq_false', beq_iff_eq, beq_eq_false_iff_ne, ne_eq] at h1
  refine at_skip rfl ?_
  refine then_n ?_
  refine at_seq rfl ?_
  refine at_seq rfl ?_
  refine rg rfl ?_
  have hm0 : (mostS P L t).2 = 0 := by assumption
  obtain ⟨g, t0, t1⟩ := most_of hm0
  have g20 := g.n20
  have g2 := g.n2
  have gel := g.el
  have gpr := g.pr
  have hme := most_eq hm0
  have hmr := most_rng (L := L) (g.pt t.toNat (by omega)).1 (g.pt t.toNat (by omega)).2 L.length
  rw [← hme] at hmr
  refine Rq ?_
  refine R_q rfl (by simp (disch := first | omega | (simp only [List.length_map, List.length_append, List.length_set, List.length_cons, List.length_nil]; omega)) only [go_sem, ↓reduceIte, Nat.reduceEqDiff, reduceCtorEq, q0, q4, qg, qv, hfe, hce, hst] <;> rfl) ?_
  refine Rq ?_
  refine Rq ?_
  have tr : ∀ a b c d e f g h i j k m n o p q r s t u v w x y z A B C D E F G H I J : AV, let l := lc_first_ok a b c d e f g h i j k m n o p q r s t u v w x y z A B C D E F; trim ((32,J)::(31,I)::(30,H)::(29,G)::l) l = [(0,a),(1,b),(2,c),(4,d),(5,e),(6,f),(7,g),(8,h),(9,i),(10,j),(11,k),(12,m),(13,n),(15,o),(16,p),(17,q),(18,r),(26,s),(30,H),(31,I),(32,J),(33,w),(39,x),(58,y),(59,z),(60,A),(79,B),(89,C),(90,D),(91,E),(100,F)] := by intros; rfl
  refine R_nil (tr ..) ?_; clear tr
  refine then_n ?_
  refine at_block rfl ?_
  refine loop_n rfl (fun mm kv H' => ∃ u : Nat, ∃ x5 x8 x9 x33 x39 : AV, (kv = [(5, x5), (8, x8), (9, x9), (32, AV.i u), (33, x33), (39, x39)]) ∧ (mm = P.length - u) ∧ (H2 = H') ∧ (u ≤ P.length) ∧ (badN P (mostS P L t).1 u = -1)) ⟨0, _, _, _, _, _, rfl, rfl, by rfl, by omega, by rfl⟩ (by rfl) ?_
  rintro mm kv HX ⟨u, x5, x8, x9, x33, x39, rfl, rfl, hX, hu, hq⟩
  have tr : ∀ a b c d e f g h i j k m n o p q r s t u v w x y z A B C D E F G H I J K L : AV, upd [(0,a),(1,b),(2,c),(4,d),(5,e),(6,f),(7,g),(8,h),(9,i),(10,j),(11,k),(12,m),(13,n),(15,o),(16,p),(17,q),(18,r),(26,s),(30,t),(31,u),(32,v),(33,w),(39,x),(58,y),(59,z),(60,A),(79,B),(89,C),(90,D),(91,E),(100,F)] [(5,G),(8,H),(9,I),(32,J),(33,K),(39,L)] = [(0,a),(1,b),(2,c),(4,d),(5,G),(6,f),(7,g),(8,H),(9,I),(10,j),(11,k),(12,m),(13,n),(15,o),(16,p),(17,q),(18,r),(26,s),(30,t),(31,u),(32,J),(33,K),(39,L),(58,y),(59,z),(60,A),(79,B),(89,C),(90,D),(91,E),(100,F)] := by intros; rfl
  refine W_to (tr ..) ?_; clear tr
  subst hX
  refine at_seq rfl ?_
  refine rg rfl ?_
  refine Rq ?_
  have tr : ∀ a b c d e f g h i j k m n o p q r s t u v w x y z A B C D E F G : AV, let l := lc_first_ok a b c d e f g h i j k m n o p q r s t u v w x y z A B C D E F; trim ((33,G)::l) l = [(0,a),(1,b),(2,c),(4,d),(5,e),(6,f),(7,g),(8,h),(9,i),(10,j),(11,k),(12,m),(13,n),(15,o),(16,p),(17,q),(18,r),(26,s),(30,t),(31,u),(32,v),(33,G),(39,x),(58,y),(59,z),(60,A),(79,B),(89,C),(90,D),(91,E),(100,F)] := by intros; rfl
  refine R_nil (tr ..) ?_; clear tr
  refine then_n ?_
  refine at_seq rfl ?_
  refine cdd (fun h2 => ?_) (fun h2 => ?_)
  ·
   try simp only [decide_eq_true_eq, decide_eq_false_iff_not, Bool.not_eq_true', Bool.not_eq_false', beq_iff_eq, beq_eq_false_iff_ne, ne_eq] at h2
   refine at_skip rfl ?_
   refine then_n ?_
   refine at_seq rfl ?_
   refine at_block rfl ?_
   refine at_seq rfl ?_
   refine rg rfl ?_
   have hpu := g.pt u (by omega)
   refine Rq ?_
   refine Rq ?_
   refine R_q rfl (by simp (disch := first | omega | (simp only [List.length_map, List.length_append, List.length_set, List.length_cons, List.length_nil]; omega)) only [go_sem, ↓reduceIte, Nat.reduceEqDiff, reduceCtorEq, q0, q4, qg, qv, hfe, hce, hst] <;> rfl) ?_
   refine Rq ?_
   refine Rq ?_
   have tr : ∀ a b c d e f g h i j k m n o p q r s t u v w x y z A B C D E F G H I J K : AV, let l := lc_first_ok a b c d e f g h i j k m n o p q r s t u v w x y z A B C D E F; trim ((9,K)::(8,J)::(36,I)::(35,H)::(34,G)::l) l = [(0,a),(1,b),(2,c),(4,d),(5,e),(6,f),(7,g),(8,J),(9,K),(10,j),(11,k),(12,m),(13,n),(15,o),(16,p),(17,q),(18,r),(26,s),(30,t),(31,u),(32,v),(33,w),(39,x),(58,y),(59,z),(60,A),(79,B),(89,C),(90,D),(91,E),(100,F)] := by intros; rfl
   refine R_nil (tr ..) ?_; clear tr
   refine then_n ?_
   refine at_seq rfl ?_
   refine rg rfl ?_
   refine Rq ?_
   refine Rq ?_
   refine Rq ?_
   have tr : ∀ a b c d e f g h i j k m n o p q r s t u v w x y z A B C D E F G H I : AV, let l := lc_first_ok a b c d e f g h i j k m n o p q r s t u v w x y z A B C D E F; trim ((39,I)::(38,H)::(37,G)::l) l = [(0,a),(1,b),(2,c),(4,d),(5,e),(6,f),(7,g),(8,h),(9,i),(10,j),(11,k),(12,m),(13,n),(15,o),(16,p),(17,q),(18,r),(26,s),(30,t),(31,u),(32,v),(33,w),(39,I),(58,y),(59,z),(60,A),(79,B),(89,C),(90,D),(91,E),(100,F)] := by intros; rfl
   refine R_nil (tr ..) ?_; clear tr
   refine then_n ?_
   refine cdd (fun h3 => ?_) (fun h3 => ?_)
   ·
    try simp only [decide_eq_true_eq, decide_eq_false_iff_not, Bool.not_eq_true', Bool.not_eq_false', beq_iff_eq, beq_eq_false_iff_ne, ne_eq] at h3
    refine at_seq rfl ?_
    refine rg rfl ?_
    refine Rq ?_
    refine A_buildSlice (bs40' _ _ _ _ (u : Int) (by simp (disch := first | omega | (simp only [List.length_map, List.length_append, List.length_set, List.length_cons, List.length_nil]; omega)) only [go_sem, ↓reduceIte, Nat.reduceEqDiff, reduceCtorEq, q0, q4, qg, qv, hfe, hce, hst])) ?_
    intro H3 n2
    have en2 := n2.len
    have q0 := (n2.old _ (hget_lt q0)).trans q0
    have q4 := (n2.old _ (hget_lt q4)).trans q4
    have qn := n2.new
    refine Rq ?_
    have lq0 := hget_lt q0
    have lq4 := hget_lt q4
    have lqn := hget_lt qn
    refine A_store ty46 (by simp (disch := first | omega | (simp only [List.length_map, List.length_append, List.length_set, List.length_cons, List.length_nil]; omega)) only [go_sem, ↓reduceIte, Nat.reduceEqDiff, reduceCtorEq, q0, q4, qg, qv, hfe, hce, hst] <;> rfl) (by simp (disch := first | omega | (simp only [List.length_map, List.length_append, List.length_set, List.length_cons, List.length_nil]; omega)) only [go_sem, ↓reduceIte, Nat.reduceEqDiff, reduceCtorEq, q0, q4, qg, qv, hfe, hce, hst] <;> rfl) q4 ⟨by omega, rfl, by first | exact Nat.le_refl _ | simp⟩ (show _ = [.v (.bool false), .own 1 H2.length 0 1, nilP] from rfl) ?_
    intro HZb wzb
    have ewzb := wzb.len
    have q0 := (wzb.old _ (by omega)).trans q0
    have qn := (wzb.old _ (by omega)).trans qn
    have q4 := wzb.new
    refine Rq ?_
    have tr : ∀ a b c d e f g h i j k m n o p q r s t u v w x y z A B C D E F G H I J : AV, let l := lc_first_ok a b c d e f g h i j k m n o p q r s t u v w x y z A B C D E F; trim ((5,J)::(42,I)::(41,H)::(40,G)::l) l = [(0,a),(1,b),(2,c),(4,d),(5,J),(6,f),(7,g),(8,h),(9,i),(10,j),(11,k),(12,m),(13,n),(15,o),(16,p),(17,q),(18,r),(26,s),(30,t),(31,u),(32,v),(33,w),(39,x),(58,y),(59,z),(60,A),(79,B),(89,C),(90,D),(91,E),(100,F)] := by intros; rfl
    refine R_nil (tr ..) ?_; clear tr
    refine then_n ?_
    refine at_ret rfl ?_
    refine blk_r ?_
    refine then_r ?_
    refine then_r ?_
    refine blk_r ?_
    refine then_r ?_
    refine fin_pure (rs := [.cell 4 46, .tmp 5]) rfl (by simp only [go_sem, ↓reduceIte, Nat.reduceEqDiff, q4]; rfl) rfl ?_
    have hbk := bad_at hq (by omega) P.length (by omega)
    obtain ⟨fB, fS⟩ := first_b hm0 (by omega)
    refine ⟨⟨[], nilP, ?_, .inl ⟨fB, rfl, rfl⟩⟩, rfl⟩
    rw [fB, fS]
    rw [hbk]
    show AV.tup [AV.agg [_, frz HZb H.length 6 _, _], _] = _
    rw [frz_ownI (n := 1) (l := [(u : Int)]) (by omega) qn rfl]
    rw [hm0]
    rfl
   ·
    try simp only [decide_eq_true_eq, decide_eq_false_iff_not, Bool.not_eq_true', Bool.not_eq_false', beq_iff_eq, beq_eq_false_iff_ne, ne_eq] at h3
    refine at_skip rfl ?_
    refine blk_n ?_
    refine then_n ?_
    refine rg rfl ?_
    refine Rq ?_
    refine Rq ?_
    have tr : ∀ a b c d e f g h i j k m n o p q r s t u v w x y z A B C D E F G H : AV, let l := lc_first_ok a b c d e f g h i j k m n o p q r s t u v w x y z A B C D E F; trim ((32,H)::(43,G)::l) l = [(0,a),(1,b),(2,c),(4,d),(5,e),(6,f),(7,g),(8,h),(9,i),(10,j),(11,k),(12,m),(13,n),(15,o),(16,p),(17,q),(18,r),(26,s),(30,t),(31,u),(32,H),(33,w),(39,x),(58,y),(59,z),(60,A),(79,B),(89,C),(90,D),(91,E),(100,F)] := by intros; rfl
    refine R_nil (tr ..) ?_; clear tr
    refine then_n ?_
    exact ⟨_, _, ⟨u + 1, _, _, _, _, _, rfl, rfl, by rfl, by omega, by exact bad_on hq (by omega)⟩, by rfl, by omega⟩
  ·
   try simp only [decide_eq_true_eq, decide_eq_false_iff_not, Bool.not_eq_true', Bool.not_eq_false', beq_iff_eq, beq_eq_false_iff_ne, ne_eq] at h2
   refine at_exit rfl ?_
   refine then_x ?_
   refine then_x ?_
   refine blk_x ?_
   refine then_n ?_
   refine at_seq rfl ?_
   refine rg rfl ?_
   obtain rfl : u = P.length := by omega
   have hpa := bad_all hq
   have WQ : PQ L t (pQ L t) := (pq_prog L t L.length).to
   have hql := pq_len WQ
   obtain ⟨E, f, sn, e1, e2, e3, hc0, hE1, hE2, hfl, hsl, hEc, hfr, CU⟩ := first_sum hm0 hpa WQ (pb := 2) (tb := (2 + ((pQ L t).length : Int))) (n := (2 + ((pQ L t).length : Int) + (P.length : Int))) ⟨by omega, by omega, by omega, by omega, by omega⟩ (by omega)
   have hqe : (pairsN (othN L t L.length) (othN L t L.length).length).length = (pQ L t).length := rfl
   have hqe2 : (pairsN (othS L t) (othS L t).length).length = (pQ L t).length := rfl
   refine R_q rfl (by simp (disch := first | omega | (simp only [List.length_map, List.length_append, List.length_set, List.length_cons, List.length_nil]; omega)) only [go_sem, ↓reduceIte, Nat.reduceEqDiff, reduceCtorEq, q0, q4, qg, qv, hfe, hce, hst] <;> rfl) ?_
   refine Rq ?_
   refine Rq ?_
   refine Rcall ?_
   refine ACall_eq (graph_ok _ _ P L t _ g t0 t1 (fun k hk => by have := hpa k hk; omega) (by omega)) ?_
   rewrite [e1]
   refine Rq ?_
   refine Rq ?_
   refine Rq ?_
   refine A_alloc rfl ?_
   intro H4 n3
   have en3 := n3.len
   have q0 := (n3.old _ (hget_lt q0)).trans q0
   have q4 := (n3.old _ (hget_lt q4)).trans q4
   have qg := n3.new
   have lq0 := hget_lt q0
   have lq4 := hget_lt q4
   have lqg := hget_lt qg
   refine A_store ty24 (by simp (disch := first | omega | (simp only [List.length_map, List.length_append, List.length_set, List.length_cons, List.length_nil]; omega)) only [go_sem, ↓reduceIte, Nat.reduceEqDiff, reduceCtorEq, q0, q4, qg, qv, hfe, hce, hst] <;> rfl) (by simp (disch := first | omega | (simp only [List.length_map, List.length_append, List.length_set, List.length_cons, List.length_nil]; omega)) only [go_sem, ↓reduceIte, Nat.reduceEqDiff, reduceCtorEq, q0, q4, qg, qv, hfe, hce, hst] <;> rfl) qg ⟨by omega, rfl, by first | exact Nat.le_refl _ | simp⟩ (show _ = graphC (2 + ((pQ L t).length : Int) + (P.length : Int)) 0 1 E from rfl) ?_
   intro H5 w3
   have ew3 := w3.len
   have q0 := (w3.old _ (by omega)).trans q0
   have q4 := (w3.old _ (by omega)).trans q4
   have qg := w3.new
   refine Rq ?_
   have tr : ∀ a b c d e f g h i j k m n o p q r s t u v w x y z A B C D E F G H I J K L M N O : AV, let l := lc_first_ok a b c d e f g h i j k m n o p q r s t u v w x y z A B C D E F; trim ((11,O)::(10,N)::(50,M)::(49,L)::(44,K)::(48,J)::(47,I)::(46,H)::(45,G)::l) l = [(0,a),(1,b),(2,c),(4,d),(5,e),(6,f),(7,g),(8,h),(9,i),(10,N),(11,O),(12,m),(13,n),(15,o),(16,p),(17,q),(18,r),(26,s),(30,t),(31,u),(32,v),(33,w),(39,x),(58,y),(59,z),(60,A),(79,B),(89,C),(90,D),(91,E),(100,F)] := by intros; rfl
   refine R_nil (tr ..) ?_; clear tr
   refine then_n ?_
   refine at_seq rfl ?_
   refine rg rfl ?_
   refine R_q rfl (by simp (disch := first | omega | (simp only [List.length_map, List.length_append, List.length_set, List.length_cons, List.length_nil]; omega)) only [go_sem, ↓reduceIte, Nat.reduceEqDiff, reduceCtorEq, q0, q4, qg, qv, hfe, hce, hst] <;> rfl) ?_
   refine Rcall ?_
   refine ACall_eq (max_ok _ _ _ _ _ _) ?_
   rewrite [maxA_is hc0, maxB_is hc0, e2, e3]
   refine Rq ?_
   refine Rq ?_
   refine Rq ?_
   refine Rq ?_
   refine Rq ?_
   refine Rq ?_
   refine Rq ?_
   have tr : ∀ a b c d e f g h i j k m n o p q r s t u v w x y z A B C D E F G H I J K L M N O : AV, let l := lc_first_ok a b c d e f g h i j k m n o p q r s t u v w x y z A B C D E F; trim ((14,O)::(13,N)::(12,M)::(56,L)::(55,K)::(54,J)::(51,I)::(53,H)::(52,G)::l) l = [(0,a),(1,b),(2,c),(4,d),(5,e),(6,f),(7,g),(8,h),(9,i),(10,j),(11,k),(12,M),(13,N),(15,o),(16,p),(17,q),(18,r),(26,s),(30,t),(31,u),(32,v),(33,w),(39,x),(58,y),(59,z),(60,A),(79,B),(89,C),(90,D),(91,E),(100,F)] := by intros; rfl
   refine R_nil (tr ..) ?_; clear tr
   refine then_n ?_
   refine at_seq rfl ?_
   refine rg rfl ?_
   refine Rq ?_
   have tr : ∀ a b c d e f g h i j k m n o p q r s t u v w x y z A B C D E F G : AV, let l := lc_first_ok a b c d e f g h i j k m n o p q r s t u v w x y z A B C D E F; trim ((15,G)::l) l = [(0,a),(1,b),(2,c),(4,d),(5,e),(6,f),(7,g),(8,h),(9,i),(10,j),(11,k),(12,m),(13,n),(15,G),(16,p),(17,q),(18,r),(26,s),(30,t),(31,u),(32,v),(33,w),(39,x),(58,y),(59,z),(60,A),(79,B),(89,C),(90,D),(91,E),(100,F)] := by intros; rfl
   refine R_nil (tr ..) ?_; clear tr
   refine then_n ?_
   refine at_seq rfl ?_
   refine at_seq rfl ?_
   refine rg rfl ?_
   refine Rq ?_
   refine R_q rfl (by simp (disch := first | omega | (simp only [List.length_map, List.length_append, List.length_set, List.length_cons, List.length_nil]; omega)) only [go_sem, ↓reduceIte, Nat.reduceEqDiff, reduceCtorEq, q0, q4, qg, qv, hfe, hce, hst]; exact pairsA_len _) ?_
   refine Rq ?_
   have tr : ∀ a b c d e f g h i j k m n o p q r s t u v w x y z A B C D E F G H I : AV, let l := lc_first_ok a b c d e f g h i j k m n o p q r s t u v w x y z A B C D E F; trim ((59,I)::(58,H)::(57,G)::l) l = [(0,a),(1,b),(2,c),(4,d),(5,e),(6,f),(7,g),(8,h),(9,i),(10,j),(11,k),(12,m),(13,n),(15,o),(16,p),(17,q),(18,r),(26,s),(30,t),(31,u),(32,v),(33,w),(39,x),(58,H),(59,I),(60,A),(79,B),(89,C),(90,D),(91,E),(100,F)] := by intros; rfl
   refine R_nil (tr ..) ?_; clear tr
   refine then_n ?_
   refine at_block rfl ?_
   refine loop_n rfl (fun mm kv H' => ∃ i : Nat, ∃ full : Bool, ∃ x16 x60 : AV, (kv = [(15, AV.b full), (16, x16), (59, AV.i i), (60, x60)]) ∧ (mm = (pQ L t).length - i) ∧ (H5 = H') ∧ (i ≤ (pQ L t).length) ∧ ((full = true ↔ ∀ k, k < i → gt f (3 * k) = cQ L t (pQ L t) k))) ⟨0, true, _, _, rfl, rfl, by rfl, by omega, by exact ⟨fun _ k hk => by omega, fun _ => rfl⟩⟩ (by rfl) ?_
   rintro mm kv HX ⟨i, full, x16, x60, rfl, rfl, hX, hi, hf⟩
   have tr : ∀ a b c d e f g h i j k m n o p q r s t u v w x y z A B C D E F G H I J : AV, upd [(0,a),(1,b),(2,c),(4,d),(5,e),(6,f),(7,g),(8,h),(9,i),(10,j),(11,k),(12,m),(13,n),(15,o),(16,p),(17,q),(18,r),(26,s),(30,t),(31,u),(32,v),(33,w),(39,x),(58,y),(59,z),(60,A),(79,B),(89,C),(90,D),(91,E),(100,F)] [(15,G),(16,H),(59,I),(60,J)] = [(0,a),(1,b),(2,c),(4,d),(5,e),(6,f),(7,g),(8,h),(9,i),(10,j),(11,k),(12,m),(13,n),(15,G),(16,H),(17,q),(18,r),(26,s),(30,t),(31,u),(32,v),(33,w),(39,x),(58,y),(59,I),(60,J),(79,B),(89,C),(90,D),(91,E),(100,F)] := by intros; rfl
   refine W_to (tr ..) ?_; clear tr
   subst hX
   refine at_seq rfl ?_
   refine rg rfl ?_
   refine Rq ?_
   have tr : ∀ a b c d e f g h i j k m n o p q r s t u v w x y z A B C D E F G : AV, let l := lc_first_ok a b c d e f g h i j k m n o p q r s t u v w x y z A B C D E F; trim ((60,G)::l) l = [(0,a),(1,b),(2,c),(4,d),(5,e),(6,f),(7,g),(8,h),(9,i),(10,j),(11,k),(12,m),(13,n),(15,o),(16,p),(17,q),(18,r),(26,s),(30,t),(31,u),(32,v),(33,w),(39,x),(58,y),(59,z),(60,G),(79,B),(89,C),(90,D),(91,E),(100,F)] := by intros; rfl
   refine R_nil (tr ..) ?_; clear tr
   refine then_n ?_
   refine at_seq rfl ?_
   refine cdd (fun h4 => ?_) (fun h4 => ?_)
   ·
    try simp only [decide_eq_true_eq, decide_eq_false_iff_not, Bool.not_eq_true', Bool.not_eq_false', beq_iff_eq, beq_eq_false_iff_ne, ne_eq] at h4
    refine at_skip rfl ?_
    refine then_n ?_
    refine at_seq rfl ?_
    refine at_block rfl ?_
    refine at_seq rfl ?_
    refine rg rfl ?_
    refine Rq ?_
    refine Rq ?_
    have tr : ∀ a b c d e f g h i j k m n o p q r s t u v w x y z A B C D E F G H : AV, let l := lc_first_ok a b c d e f g h i j k m n o p q r s t u v w x y z A B C D E F; trim ((16,H)::(61,G)::l) l = [(0,a),(1,b),(2,c),(4,d),(5,e),(6,f),(7,g),(8,h),(9,i),(10,j),(11,k),(12,m),(13,n),(15,o),(16,H),(17,q),(18,r),(26,s),(30,t),(31,u),(32,v),(33,w),(39,x),(58,y),(59,z),(60,A),(79,B),(89,C),(90,D),(91,E),(100,F)] := by intros; rfl
    refine R_nil (tr ..) ?_; clear tr
    refine then_n ?_
    refine rd rfl rfl ?_
    have hfi := hfr i (by omega)
    have hfe : gt f (3 * (i : Int)).toNat = gt f (3 * i) := by rw [show (3 * (i : Int)).toNat = 3 * i by omega]
    have hce : (gt E (3 * (i : Int)).toNat).c = cQ L t (pQ L t) i := by rw [show (3 * (i : Int)).toNat = 3 * i by omega]; exact hEc i (by omega)
    refine Qq ?_
    refine Qq ?_
    refine Qp_split (fun h5 => ?_) (fun h5 => ?_)
    ·
     try simp only [decide_eq_true_eq, decide_eq_false_iff_not, Bool.not_eq_true', Bool.not_eq_false', beq_iff_eq, beq_eq_false_iff_ne, ne_eq] at h5
     refine Qy ?_
     refine Qq ?_
     refine Qy ?_
     refine Qq ?_
     refine Qy ?_
     refine Qq ?_
     refine Qy ?_
     refine Qq ?_
     refine Qy ?_
     refine Q_q rfl (by simp (disch := first | omega | (simp only [List.length_map, List.length_append, List.length_set, List.length_cons, List.length_nil]; omega)) only [go_sem, ↓reduceIte, Nat.reduceEqDiff, reduceCtorEq, q0, q4, qg, qv, hfe, hce, hst] <;> rfl) ?_
     refine Qy ?_
     refine Qq ?_
     refine Qy ?_
     refine Q_q rfl (by simp (disch := first | omega | (simp only [List.length_map, List.length_append, List.length_set, List.length_cons, List.length_nil]; omega)) only [go_sem, ↓reduceIte, Nat.reduceEqDiff, reduceCtorEq, q0, q4, qg, qv, hfe, hce, hst] <;> rfl) ?_
     refine Qy ?_
     refine Qq ?_
     refine Qy ?_
     refine Qq ?_
     refine Qy ?_
     refine Qq ?_
     refine Qy ?_
     refine Qq ?_
     refine Qy ?_
     refine Q_q rfl (by simp (disch := first | omega | (simp only [List.length_map, List.length_append, List.length_set, List.length_cons, List.length_nil]; omega)) only [go_sem, ↓reduceIte, Nat.reduceEqDiff, reduceCtorEq, q0, q4, qg, qv, hfe, hce, hst] <;> rfl) ?_
     refine Qy ?_
     refine Qq ?_
     refine Qq ?_
     refine Qq ?_
     refine Q_nil ?_
     have tr : ∀ a b c d e f g h i j k m n o p q r s t u v w x y z A B C D E F G H I J K L M N O P Q R S T U V W : AV, let l := lc_first_ok a b c d e f g h i j k m n o p q r s t u v w x y z A B C D E F; trim ((15,W)::(77,V)::(76,U)::(75,T)::(74,S)::(73,R)::(72,Q)::(71,P)::(70,O)::(69,N)::(68,M)::(67,L)::(66,K)::(65,J)::(64,I)::(63,H)::(62,G)::l) l = [(0,a),(1,b),(2,c),(4,d),(5,e),(6,f),(7,g),(8,h),(9,i),(10,j),(11,k),(12,m),(13,n),(15,W),(16,p),(17,q),(18,r),(26,s),(30,t),(31,u),(32,v),(33,w),(39,x),(58,y),(59,z),(60,A),(79,B),(89,C),(90,D),(91,E),(100,F)] := by intros; rfl
     refine R_nil (tr ..) ?_; clear tr
     refine blk_n ?_
     refine then_n ?_
     refine rg rfl ?_
     refine Rq ?_
     refine Rq ?_
     have tr : ∀ a b c d e f g h i j k m n o p q r s t u v w x y z A B C D E F G H : AV, let l := lc_first_ok a b c d e f g h i j k m n o p q r s t u v w x y z A B C D E F; trim ((59,H)::(78,G)::l) l = [(0,a),(1,b),(2,c),(4,d),(5,e),(6,f),(7,g),(8,h),(9,i),(10,j),(11,k),(12,m),(13,n),(15,o),(16,p),(17,q),(18,r),(26,s),(30,t),(31,u),(32,v),(33,w),(39,x),(58,y),(59,H),(60,A),(79,B),(89,C),(90,D),(91,E),(100,F)] := by intros; rfl
     refine R_nil (tr ..) ?_; clear tr
     refine then_n ?_
     exact ⟨_, _, ⟨i + 1, _, _, _, rfl, rfl, by rfl, by omega, by first | exact full_on hf (by assumption) | exact full_off hf (by assumption)⟩, by rfl, by omega⟩
    ·
     try simp only [decide_eq_true_eq, decide_eq_false_iff_not, Bool.not_eq_true', Bool.not_eq_false', beq_iff_eq, beq_eq_false_iff_ne, ne_eq] at h5
     refine Qn ?_
     refine Qn ?_
     refine Qn ?_
     refine Qn ?_
     refine Qn ?_
     refine Qn ?_
     refine Qn ?_
     refine Qn ?_
     refine Qn ?_
     refine Qn ?_
     refine Qn ?_
     refine Qn ?_
     refine Qn ?_
     refine Qq ?_
     refine Qq ?_
     refine Q_nil ?_
     have tr : ∀ a b c d e f g h i j k m n o p q r s t u v w x y z A B C D E F G H I J K L M N O P Q R S T U V W : AV, let l := lc_first_ok a b c d e f g h i j k m n o p q r s t u v w x y z A B C D E F; trim ((15,W)::(77,V)::(76,U)::(75,T)::(74,S)::(73,R)::(72,Q)::(71,P)::(70,O)::(69,N)::(68,M)::(67,L)::(66,K)::(65,J)::(64,I)::(63,H)::(62,G)::l) l = [(0,a),(1,b),(2,c),(4,d),(5,e),(6,f),(7,g),(8,h),(9,i),(10,j),(11,k),(12,m),(13,n),(15,W),(16,p),(17,q),(18,r),(26,s),(30,t),(31,u),(32,v),(33,w),(39,x),(58,y),(59,z),(60,A),(79,B),(89,C),(90,D),(91,E),(100,F)] := by intros; rfl
     refine R_nil (tr ..) ?_; clear tr
     refine blk_n ?_
     refine then_n ?_
     refine rg rfl ?_
     refine Rq ?_
     refine Rq ?_
     have tr : ∀ a b c d e f g h i j k m n o p q r s t u v w x y z A B C D E F G H : AV, let l := lc_first_ok a b c d e f g h i j k m n o p q r s t u v w x y z A B C D E F; trim ((59,H)::(78,G)::l) l = [(0,a),(1,b),(2,c),(4,d),(5,e),(6,f),(7,g),(8,h),(9,i),(10,j),(11,k),(12,m),(13,n),(15,o),(16,p),(17,q),(18,r),(26,s),(30,t),(31,u),(32,v),(33,w),(39,x),(58,y),(59,H),(60,A),(79,B),(89,C),(90,D),(91,E),(100,F)] := by intros; rfl
     refine R_nil (tr ..) ?_; clear tr
     refine then_n ?_
     exact ⟨_, _, ⟨i + 1, _, _, _, rfl, rfl, by rfl, by omega, by first | exact full_on hf (by assumption) | exact full_off hf (by assumption)⟩, by rfl, by omega⟩
   ·
    try simp only [decide_eq_true_eq, decide_eq_false_iff_not, Bool.not_eq_true', Bool.not_eq_false', beq_iff_eq, beq_eq_false_iff_ne, ne_eq] at h4
    refine at_exit rfl ?_
    refine then_x ?_
    refine then_x ?_
    refine blk_x ?_
    refine then_n ?_
    refine at_seq rfl ?_
    refine at_seq rfl ?_
    refine rg rfl ?_
    refine Rq ?_
    have tr : ∀ a b c d e f g h i j k m n o p q r s t u v w x y z A B C D E F G : AV, let l := lc_first_ok a b c d e f g h i j k m n o p q r s t u v w x y z A B C D E F; trim ((79,G)::l) l = [(0,a),(1,b),(2,c),(4,d),(5,e),(6,f),(7,g),(8,h),(9,i),(10,j),(11,k),(12,m),(13,n),(15,o),(16,p),(17,q),(18,r),(26,s),(30,t),(31,u),(32,v),(33,w),(39,x),(58,y),(59,z),(60,A),(79,G),(89,C),(90,D),(91,E),(100,F)] := by intros; rfl
    refine R_nil (tr ..) ?_; clear tr
    refine then_n ?_
    refine cdd (fun h6 => ?_) (fun h6 => ?_)
    ·
     try simp only [decide_eq_true_eq, decide_eq_false_iff_not, Bool.not_eq_true', Bool.not_eq_false', beq_iff_eq, beq_eq_false_iff_ne, ne_eq] at h6
     refine at_seq rfl ?_
     refine rg rfl ?_
     obtain rfl : i = (pQ L t).length := by omega
     have hpos : posB P L (mostS P L t).1 t = true := CU.full.1 (hf.1 (by assumption))
     obtain ⟨fB, fS⟩ := first_y hm0 hq hpos
     refine R_q rfl (by simp (disch := first | omega | (simp only [List.length_map, List.length_append, List.length_set, List.length_cons, List.length_nil]; omega)) only [go_sem, ↓reduceIte, Nat.reduceEqDiff, reduceCtorEq, q0, q4, qg, qv, hfe, hce, hst] <;> rfl) ?_
     refine Rq ?_
     refine Rq ?_
     refine Rq ?_
     refine Rcall ?_
     refine ACall_eq (results_ok _ _ P L t f g t0 t1 (by omega) (by omega) (fun i hi => (hfr i hi).2)) ?_
     refine R_q rfl (by simp (disch := first | omega | (simp only [List.length_map, List.length_append, List.length_set, List.length_cons, List.length_nil]; omega)) only [go_sem, ↓reduceIte, Nat.reduceEqDiff, reduceCtorEq, q0, q4, qg, qv, hfe, hce, hst]; exact bld46rs _ _ _) ?_
     have lq0 := hget_lt q0
     have lq4 := hget_lt q4
     have lqg := hget_lt qg
     refine A_store ty46 (by simp (disch := first | omega | (simp only [List.length_map, List.length_append, List.length_set, List.length_cons, List.length_nil]; omega)) only [go_sem, ↓reduceIte, Nat.reduceEqDiff, reduceCtorEq, q0, q4, qg, qv, hfe, hce, hst] <;> rfl) (by simp (disch := first | omega | (simp only [List.length_map, List.length_append, List.length_set, List.length_cons, List.length_nil]; omega)) only [go_sem, ↓reduceIte, Nat.reduceEqDiff, reduceCtorEq, q0, q4, qg, qv, hfe, hce, hst] <;> rfl) q4 ⟨by omega, rfl, by first | exact Nat.le_refl _ | simp⟩ (show _ = [.v (.bool true), nilP, intsAV _] from rfl) ?_
     intro HZc wzc
     have ewzc := wzc.len
     have q0 := (wzc.old _ (by omega)).trans q0
     have qg := (wzc.old _ (by omega)).trans qg
     have q4 := wzc.new
     refine Rq ?_
     have tr : ∀ a b c d e f g h i j k m n o p q r s t u v w x y z A B C D E F G H I J K L M : AV, let l := lc_first_ok a b c d e f g h i j k m n o p q r s t u v w x y z A B C D E F; trim ((5,M)::(85,L)::(84,K)::(83,J)::(82,I)::(81,H)::(80,G)::l) l = [(0,a),(1,b),(2,c),(4,d),(5,M),(6,f),(7,g),(8,h),(9,i),(10,j),(11,k),(12,m),(13,n),(15,o),(16,p),(17,q),(18,r),(26,s),(30,t),(31,u),(32,v),(33,w),(39,x),(58,y),(59,z),(60,A),(79,B),(89,C),(90,D),(91,E),(100,F)] := by intros; rfl
     refine R_nil (tr ..) ?_; clear tr
     refine then_n ?_
     refine at_ret rfl ?_
     refine then_r ?_
     refine fin_pure (rs := [.cell 4 46, .tmp 5]) rfl (by simp only [go_sem, ↓reduceIte, Nat.reduceEqDiff, q4]; rfl) rfl ?_
     refine ⟨⟨_, _, ?_, .inr ⟨fB, rfl, vr_of g t0 t1 hme CU hpos⟩⟩, rfl⟩
     rw [fB, fS]
     show AV.tup [AV.agg [_, _, AV.sl _ (List.map (frz HZc H.length 5) _)], _] = _
     rw [frz_ints, hm0]
     rfl
    ·
     try simp only [decide_eq_true_eq, decide_eq_false_iff_not, Bool.not_eq_true', Bool.not_eq_false', beq_iff_eq, beq_eq_false_iff_ne, ne_eq] at h6
     refine at_skip rfl ?_
     refine then_n ?_
     refine at_seq rfl ?_
     refine rg rfl ?_
     obtain rfl : i = (pQ L t).length := by omega
     have hneg : posB P L (mostS P L t).1 t = false := by
       cases hpb : posB P L (mostS P L t).1 t with
       | false => rfl
       | true => have h7 := hf.2 (CU.full.2 hpb); simp_all
     obtain ⟨fB, fS⟩ := first_n hm0 hq hneg
     obtain ⟨hdf, kT, hkT, hkI⟩ := CU.elim hneg
     refine Rq ?_
     refine A_alloc rfl ?_
     intro H6 n6
     have en6 := n6.len
     have q0 := (n6.old _ (hget_lt q0)).trans q0
     have q4 := (n6.old _ (hget_lt q4)).trans q4
     have qg := (n6.old _ (hget_lt qg)).trans qg
     have qv := n6.new
     have lq0 := hget_lt q0
     have lq4 := hget_lt q4
     have lqg := hget_lt qg
     have lqv := hget_lt qv
     refine A_store ty46 (by simp (disch := first | omega | (simp only [List.length_map, List.length_append, List.length_set, List.length_cons, List.length_nil]; omega)) only [go_sem, ↓reduceIte, Nat.reduceEqDiff, reduceCtorEq, q0, q4, qg, qv, hfe, hce, hst] <;> rfl) (by simp (disch := first | omega | (simp only [List.length_map, List.length_append, List.length_set, List.length_cons, List.length_nil]; omega)) only [go_sem, ↓reduceIte, Nat.reduceEqDiff, reduceCtorEq, q0, q4, qg, qv, hfe, hce, hst] <;> rfl) qv ⟨by omega, rfl, by first | exact Nat.le_refl _ | simp⟩ (show _ = [.v (.bool false), nilP, nilP] from rfl) ?_
     intro H7 w6
     have ew6 := w6.len
     have q0 := (w6.old _ (by omega)).trans q0
     have q4 := (w6.old _ (by omega)).trans q4
     have qg := (w6.old _ (by omega)).trans qg
     have qv := w6.new
     have tr : ∀ a b c d e f g h i j k m n o p q r s t u v w x y z A B C D E F G H : AV, let l := lc_first_ok a b c d e f g h i j k m n o p q r s t u v w x y z A B C D E F; trim ((17,H)::(86,G)::l) l = [(0,a),(1,b),(2,c),(4,d),(5,e),(6,f),(7,g),(8,h),(9,i),(10,j),(11,k),(12,m),(13,n),(15,o),(16,p),(17,H),(18,r),(26,s),(30,t),(31,u),(32,v),(33,w),(39,x),(58,y),(59,z),(60,A),(79,B),(89,C),(90,D),(91,E),(100,F)] := by intros; rfl
     refine R_nil (tr ..) ?_; clear tr
     refine then_n ?_
     refine at_seq rfl ?_
     refine at_seq rfl ?_
     refine rg rfl ?_
     refine Rq ?_
     refine R_q rfl (by simp (disch := first | omega | (simp only [List.length_map, List.length_append, List.length_set, List.length_cons, List.length_nil]; omega)) only [go_sem, ↓reduceIte, Nat.reduceEqDiff, reduceCtorEq, q0, q4, qg, qv, hfe, hce, hst] <;> rfl) ?_
     refine Rq ?_
     refine Rq ?_
     have tr : ∀ a b c d e f g h i j k m n o p q r s t u v w x y z A B C D E F G H I J : AV, let l := lc_first_ok a b c d e f g h i j k m n o p q r s t u v w x y z A B C D E F; trim ((90,J)::(89,I)::(88,H)::(87,G)::l) l = [(0,a),(1,b),(2,c),(4,d),(5,e),(6,f),(7,g),(8,h),(9,i),(10,j),(11,k),(12,m),(13,n),(15,o),(16,p),(17,q),(18,r),(26,s),(30,t),(31,u),(32,v),(33,w),(39,x),(58,y),(59,z),(60,A),(79,B),(89,I),(90,J),(91,E),(100,F)] := by intros; rfl
     refine R_nil (tr ..) ?_; clear tr
     refine then_n ?_
     refine at_block rfl ?_
     refine loop_n rfl (fun mm kv H' => ∃ j : Nat, ∃ oS : AV, ∃ x18 x91 x100 : AV, (kv = [(18, x18), (90, AV.i j), (91, x91), (100, x100)]) ∧ (mm = P.length - j) ∧ (hget H' H.length = some (raceC P L)) ∧ (hget H' H1.length = some [.v (.bool false), nilP, nilP]) ∧ (hget H' H2.length = some (graphC (2 + ((pQ L t).length : Int) + (P.length : Int)) 0 1 E)) ∧ (hget H' H5.length = some [.v (.bool false), oS, nilP]) ∧ (H7.length ≤ H'.length) ∧ (j ≤ P.length) ∧ (OutI H7.length H' oS (setN P L (mostS P L t).1 t j))) ⟨0, nilP, _, _, _, rfl, rfl, by exact q0, by exact q4, by exact qg, by exact qv, by exact Nat.le_refl _, by omega, by exact .inl ⟨rfl, rfl⟩⟩ (by rfl) ?_
     rintro mm kv HB ⟨j, oS, x18, x91, x100, rfl, rfl, q0, q4, qg, qv, hHB, hj, hO⟩
     have tr : ∀ a b c d e f g h i j k m n o p q r s t u v w x y z A B C D E F G H I J : AV, upd [(0,a),(1,b),(2,c),(4,d),(5,e),(6,f),(7,g),(8,h),(9,i),(10,j),(11,k),(12,m),(13,n),(15,o),(16,p),(17,q),(18,r),(26,s),(30,t),(31,u),(32,v),(33,w),(39,x),(58,y),(59,z),(60,A),(79,B),(89,C),(90,D),(91,E),(100,F)] [(18,G),(90,H),(91,I),(100,J)] = [(0,a),(1,b),(2,c),(4,d),(5,e),(6,f),(7,g),(8,h),(9,i),(10,j),(11,k),(12,m),(13,n),(15,o),(16,p),(17,q),(18,G),(26,s),(30,t),(31,u),(32,v),(33,w),(39,x),(58,y),(59,z),(60,A),(79,B),(89,C),(90,H),(91,I),(100,J)] := by intros; rfl
     refine W_to (tr ..) ?_; clear tr
     refine at_seq rfl ?_
     refine rg rfl ?_
     refine Rq ?_
     have tr : ∀ a b c d e f g h i j k m n o p q r s t u v w x y z A B C D E F G : AV, let l := lc_first_ok a b c d e f g h i j k m n o p q r s t u v w x y z A B C D E F; trim ((91,G)::l) l = [(0,a),(1,b),(2,c),(4,d),(5,e),(6,f),(7,g),(8,h),(9,i),(10,j),(11,k),(12,m),(13,n),(15,o),(16,p),(17,q),(18,r),(26,s),(30,t),(31,u),(32,v),(33,w),(39,x),(58,y),(59,z),(60,A),(79,B),(89,C),(90,D),(91,G),(100,F)] := by intros; rfl
     refine R_nil (tr ..) ?_; clear tr
     refine then_n ?_
     refine at_seq rfl ?_
     refine cdd (fun h7 => ?_) (fun h7 => ?_)
     ·
      try simp only [decide_eq_true_eq, decide_eq_false_iff_not, Bool.not_eq_true', Bool.not_eq_false', beq_iff_eq, beq_eq_false_iff_ne, ne_eq] at h7
      refine at_skip rfl ?_
      refine then_n ?_
      refine at_seq rfl ?_
      refine at_block rfl ?_
      refine at_seq rfl ?_
      refine rg rfl ?_
      have hsj := setN_len P L (mostS P L t).1 t j
      refine Rq ?_
      refine Rq ?_
      have tr : ∀ a b c d e f g h i j k m n o p q r s t u v w x y z A B C D E F G H : AV, let l := lc_first_ok a b c d e f g h i j k m n o p q r s t u v w x y z A B C D E F; trim ((18,H)::(92,G)::l) l = [(0,a),(1,b),(2,c),(4,d),(5,e),(6,f),(7,g),(8,h),(9,i),(10,j),(11,k),(12,m),(13,n),(15,o),(16,p),(17,q),(18,H),(26,s),(30,t),(31,u),(32,v),(33,w),(39,x),(58,y),(59,z),(60,A),(79,B),(89,C),(90,D),(91,E),(100,F)] := by intros; rfl
      refine R_nil (tr ..) ?_; clear tr
      refine then_n ?_
      refine at_seq rfl ?_
      refine rg rfl ?_
      have hst : gt sn (2 + ((pQ L t).length : Int) + (j : Int)).toNat = inT P L (mostS P L t).1 t j := by
        have h7 := CU.set j (by omega)
        rwa [show (2 + ((pQ L t).length : Int)).toNat + j = (2 + ((pQ L t).length : Int) + (j : Int)).toNat by omega] at h7
      refine Rq ?_
      refine Rq ?_
      refine R_q rfl (by simp (disch := first | omega | (simp only [List.length_map, List.length_append, List.length_set, List.length_cons, List.length_nil]; omega)) only [go_sem, ↓reduceIte, Nat.reduceEqDiff, reduceCtorEq, q0, q4, qg, qv, hfe, hce, hst]; exact pairsA_len _) ?_
      refine Rq ?_
      refine Rq ?_
      refine Rq ?_
      refine Rq ?_
      refine R_q rfl (by simp (disch := first | omega | (simp only [List.length_map, List.length_append, List.length_set, List.length_cons, List.length_nil]; omega)) only [go_sem, ↓reduceIte, Nat.reduceEqDiff, reduceCtorEq, q0, q4, qg, qv, hfe, hce, hst] <;> rfl) ?_
      have tr : ∀ a b c d e f g h i j k m n o p q r s t u v w x y z A B C D E F G H I J K L M N : AV, let l := lc_first_ok a b c d e f g h i j k m n o p q r s t u v w x y z A B C D E F; trim ((100,N)::(99,M)::(98,L)::(97,K)::(96,J)::(95,I)::(94,H)::(93,G)::l) l = [(0,a),(1,b),(2,c),(4,d),(5,e),(6,f),(7,g),(8,h),(9,i),(10,j),(11,k),(12,m),(13,n),(15,o),(16,p),(17,q),(18,r),(26,s),(30,t),(31,u),(32,v),(33,w),(39,x),(58,y),(59,z),(60,A),(79,B),(89,C),(90,D),(91,E),(100,N)] := by intros; rfl
      refine R_nil (tr ..) ?_; clear tr
      refine then_n ?_
      refine cdd (fun h8 => ?_) (fun h8 => ?_)
      ·
       try simp only [decide_eq_true_eq, decide_eq_false_iff_not, Bool.not_eq_true', Bool.not_eq_false', beq_iff_eq, beq_eq_false_iff_ne, ne_eq] at h8
       refine rg rfl ?_
       refine Rq ?_
       refine R_q rfl (by simp (disch := first | omega | (simp only [List.length_map, List.length_append, List.length_set, List.length_cons, List.length_nil]; omega)) only [go_sem, ↓reduceIte, Nat.reduceEqDiff, reduceCtorEq, q0, q4, qg, qv, hfe, hce, hst] <;> rfl) ?_
       refine Rq ?_
       refine A_buildSlice (bs40' _ _ _ _ (j : Int) (by simp (disch := first | omega | (simp only [List.length_map, List.length_append, List.length_set, List.length_cons, List.length_nil]; omega)) only [go_sem, ↓reduceIte, Nat.reduceEqDiff, reduceCtorEq, q0, q4, qg, qv, hfe, hce, hst])) ?_
       intro HE n8
       have en8 := n8.len
       have q0 := (n8.old _ (hget_lt q0)).trans q0
       have q4 := (n8.old _ (hget_lt q4)).trans q4
       have qg := (n8.old _ (hget_lt qg)).trans qg
       have qv := (n8.old _ (hget_lt qv)).trans qv
       have qn := n8.new
       have hO := hO.mono fun b hb k hk => (n8.old _ (hget_lt hk)).trans hk
       have lq0 := hget_lt q0
       have lq4 := hget_lt q4
       have lqg := hget_lt qg
       have lqv := hget_lt qv
       obtain ⟨b, hbl, hbl2, hap⟩ := outI_append' (lim := H.length) hO qn (by omega) (by omega) (by omega)
       refine A_append (by simp (disch := first | omega | (simp only [List.length_map, List.length_append, List.length_set, List.length_cons, List.length_nil]; omega)) only [go_sem, ↓reduceIte, Nat.reduceEqDiff, reduceCtorEq, q0, q4, qg, qv, hfe, hce, hst]; exact hap) ?_
       intro HF g8
       have eg8 := g8.len
       have q0 := (g8.old _ (by omega) lq0).trans q0
       have q4 := (g8.old _ (by omega) lq4).trans q4
       have qg := (g8.old _ (by omega) lqg).trans qg
       have qv := (g8.old _ (by omega) lqv).trans qv
       have qq := g8.new
       have hO := inT_new (lo := H7.length) g8 (by omega) (by assumption) rfl
       refine Rq ?_
       have lq0 := hget_lt q0
       have lq4 := hget_lt q4
       have lqg := hget_lt qg
       have lqv := hget_lt qv
       refine A_store ty40 (by simp (disch := first | omega | (simp only [List.length_map, List.length_append, List.length_set, List.length_cons, List.length_nil]; omega)) only [go_sem, ↓reduceIte, Nat.reduceEqDiff, reduceCtorEq, q0, q4, qg, qv, hfe, hce, hst] <;> rfl) (by simp (disch := first | omega | (simp only [List.length_map, List.length_append, List.length_set, List.length_cons, List.length_nil]; omega)) only [go_sem, ↓reduceIte, Nat.reduceEqDiff, reduceCtorEq, q0, q4, qg, qv, hfe, hce, hst] <;> rfl) qv ⟨by omega, rfl, by first | exact Nat.le_refl _ | simp⟩ (show _ = [.v (.bool false), (.own 1 HE.length 0 ((setN P L (mostS P L t).1 t j).length + 1)), nilP] from rfl) ?_
       intro HJ w8
       have ew8 := w8.len
       have q0 := (w8.old _ (by omega)).trans q0
       have q4 := (w8.old _ (by omega)).trans q4
       have qg := (w8.old _ (by omega)).trans qg
       have qv := w8.new
       have hO := hO.mono fun b hb k hk => (w8.old _ (by omega)).trans hk
       have tr : ∀ a b c d e f g h i j k m n o p q r s t u v w x y z A B C D E F G H I J K L : AV, let l := lc_first_ok a b c d e f g h i j k m n o p q r s t u v w x y z A B C D E F; trim ((106,L)::(105,K)::(104,J)::(103,I)::(102,H)::(101,G)::l) l = [(0,a),(1,b),(2,c),(4,d),(5,e),(6,f),(7,g),(8,h),(9,i),(10,j),(11,k),(12,m),(13,n),(15,o),(16,p),(17,q),(18,r),(26,s),(30,t),(31,u),(32,v),(33,w),(39,x),(58,y),(59,z),(60,A),(79,B),(89,C),(90,D),(91,E),(100,F)] := by intros; rfl
       refine R_nil (tr ..) ?_; clear tr
       refine blk_n ?_
       refine then_n ?_
       refine rg rfl ?_
       refine Rq ?_
       refine Rq ?_
       have tr : ∀ a b c d e f g h i j k m n o p q r s t u v w x y z A B C D E F G H : AV, let l := lc_first_ok a b c d e f g h i j k m n o p q r s t u v w x y z A B C D E F; trim ((90,H)::(107,G)::l) l = [(0,a),(1,b),(2,c),(4,d),(5,e),(6,f),(7,g),(8,h),(9,i),(10,j),(11,k),(12,m),(13,n),(15,o),(16,p),(17,q),(18,r),(26,s),(30,t),(31,u),(32,v),(33,w),(39,x),(58,y),(59,z),(60,A),(79,B),(89,C),(90,H),(91,E),(100,F)] := by intros; rfl
       refine R_nil (tr ..) ?_; clear tr
       refine then_n ?_
       exact ⟨_, _, ⟨j + 1, (.own 1 HE.length 0 ((setN P L (mostS P L t).1 t j).length + 1)), _, _, _, rfl, rfl, by exact q0, by exact q4, by exact qg, by exact qv, by first | (show H7.length ≤ HJ.length; omega) | (show H7.length ≤ HB.length; omega), by omega, by first | exact hO | exact inT_old hO (by first | assumption | exact in_not CU.not t0 (by omega))⟩, by rfl, by omega⟩
      ·
       try simp only [decide_eq_true_eq, decide_eq_false_iff_not, Bool.not_eq_true', Bool.not_eq_false', beq_iff_eq, beq_eq_false_iff_ne, ne_eq] at h8
       refine at_skip rfl ?_
       refine blk_n ?_
       refine then_n ?_
       refine rg rfl ?_
       refine Rq ?_
       refine Rq ?_
       have tr : ∀ a b c d e f g h i j k m n o p q r s t u v w x y z A B C D E F G H : AV, let l := lc_first_ok a b c d e f g h i j k m n o p q r s t u v w x y z A B C D E F; trim ((90,H)::(107,G)::l) l = [(0,a),(1,b),(2,c),(4,d),(5,e),(6,f),(7,g),(8,h),(9,i),(10,j),(11,k),(12,m),(13,n),(15,o),(16,p),(17,q),(18,r),(26,s),(30,t),(31,u),(32,v),(33,w),(39,x),(58,y),(59,z),(60,A),(79,B),(89,C),(90,H),(91,E),(100,F)] := by intros; rfl
       refine R_nil (tr ..) ?_; clear tr
       refine then_n ?_
       exact ⟨_, _, ⟨j + 1, oS, _, _, _, rfl, rfl, by exact q0, by exact q4, by exact qg, by exact qv, by first | (show H7.length ≤ HJ.length; omega) | (show H7.length ≤ HB.length; omega), by omega, by first | exact hO | exact inT_old hO (by first | assumption | exact in_not CU.not t0 (by omega))⟩, by rfl, by omega⟩
     ·
      try simp only [decide_eq_true_eq, decide_eq_false_iff_not, Bool.not_eq_true', Bool.not_eq_false', beq_iff_eq, beq_eq_false_iff_ne, ne_eq] at h7
      refine at_exit rfl ?_
      refine then_x ?_
      refine then_x ?_
      refine blk_x ?_
      refine then_n ?_
      refine at_seq rfl ?_
      refine rg rfl ?_
      obtain rfl : j = P.length := by omega
      obtain ⟨hO7, bS, rfl, hbS, qS⟩ := hO.resolve_left (fun hh => set_ne CU.not t0 hkT hkI hh.1)
      refine R_q rfl (by simp (disch := first | omega | (simp only [List.length_map, List.length_append, List.length_set, List.length_cons, List.length_nil]; omega)) only [go_sem, ↓reduceIte, Nat.reduceEqDiff, reduceCtorEq, q0, q4, qg, qv, hfe, hce, hst] <;> rfl) ?_
      have lq0 := hget_lt q0
      have lq4 := hget_lt q4
      have lqg := hget_lt qg
      refine A_store ty46 (by simp (disch := first | omega | (simp only [List.length_map, List.length_append, List.length_set, List.length_cons, List.length_nil]; omega)) only [go_sem, ↓reduceIte, Nat.reduceEqDiff, reduceCtorEq, q0, q4, qg, qv, hfe, hce, hst] <;> rfl) (by simp (disch := first | omega | (simp only [List.length_map, List.length_append, List.length_set, List.length_cons, List.length_nil]; omega)) only [go_sem, ↓reduceIte, Nat.reduceEqDiff, reduceCtorEq, q0, q4, qg, qv, hfe, hce, hst] <;> rfl) q4 ⟨by omega, rfl, by first | exact Nat.le_refl _ | simp⟩ (show _ = [.v (.bool false), .own 1 bS 0 (setN P L (mostS P L t).1 t P.length).length, nilP] from rfl) ?_
      intro HZd wzd
      have ewzd := wzd.len
      have q0 := (wzd.old _ (by omega)).trans q0
      have qg := (wzd.old _ (by omega)).trans qg
      have q4 := wzd.new
      have hO := hO.mono fun b hb k hk => (wzd.old _ (by omega)).trans hk
      refine Rq ?_
      have tr : ∀ a b c d e f g h i j k m n o p q r s t u v w x y z A B C D E F G H : AV, let l := lc_first_ok a b c d e f g h i j k m n o p q r s t u v w x y z A B C D E F; trim ((5,H)::(108,G)::l) l = [(0,a),(1,b),(2,c),(4,d),(5,H),(6,f),(7,g),(8,h),(9,i),(10,j),(11,k),(12,m),(13,n),(15,o),(16,p),(17,q),(18,r),(26,s),(30,t),(31,u),(32,v),(33,w),(39,x),(58,y),(59,z),(60,A),(79,B),(89,C),(90,D),(91,E),(100,F)] := by intros; rfl
      refine R_nil (tr ..) ?_; clear tr
      refine then_n ?_
      refine at_ret rfl ?_
      refine fin_pure (rs := [.cell 4 46, .tmp 5]) rfl (by simp only [go_sem, ↓reduceIte, Nat.reduceEqDiff, q4]; rfl) rfl ?_
      refine ⟨⟨[], nilP, ?_, .inl ⟨fB, rfl, rfl⟩⟩, rfl⟩
      rw [fB, fS]
      show AV.tup [AV.agg [_, frz HZd H.length 6 _, _], _] = _
      rw [(hO.lo (by omega : H.length ≤ H7.length)).frz, hm0]
      rfl

end Go.Proofs.Ytdicnojnkbmdlaa
end
section
set_option linter.unusedSimpArgs false
set_option linter.unusedVariables false
set_option maxHeartbeats 40000000
set_option maxRecDepth 4000
namespace Go.Proofs.Ytdicnojnkbmdlaa
open Go Go.Am

abbrev lc_thr_ok (a b c d e f g h i j k m n : AV) : Env := [(0,a),(1,b),(2,c),(4,d),(5,e),(6,f),(8,g),(9,h),(17,i),(21,j),(22,k),(23,m),(38,n)]
theorem thr_x (lim : Nat) (H : Heap) (P : List Int) (L : List Pr) (t : Int) (x : AV) (hx : frz H 0 8 x = .agg (raceC P L)) :
    ACall sig lim 30 [x, AV.i t] H fun r H' => r = .tup [.v (.bool (thruS P L t).1), AV.i (thruS P L t).2.1, AV.i (thruS P L t).2.2] ∧ H' = H := by
 have hargs : [x, AV.i t].map (frz H 0 8) = [.agg (raceC P L), AV.i t] := by
  show [frz H 0 8 x, AV.i t] = _
  rw [hx]
 refine ACall_data (fa := fa30) rfl rfl rfl rfl hargs ?_
 have tr : ∀ a0 a1 : AV, env0 fa30.keep [a0, a1] = [(0,a0),(1,a1),(2,.any),(4,.any),(5,.any),(6,.any),(8,.any),(9,.any),(17,.any),(21,.any),(22,.any),(23,.any),(38,.any)] := fun a0 a1 => rfl
 refine W_to (tr _ _) ?_; clear tr
 refine at_seq rfl ?_
 refine rg rfl ?_
 refine R_box rfl (by simp (disch := first | omega | (simp only [List.length_map, List.length_append, List.length_set, List.length_cons, List.length_nil]; omega)) only [go_sem, ↓reduceIte, Nat.reduceEqDiff, reduceCtorEq] <;> rfl) rfl rfl ?_
 refine Rq ?_
 refine Rq ?_
 refine Rq ?_
 have tr : ∀ a b c d e f g h i j k m n o p q r : AV, let l := lc_thr_ok a b c d e f g h i j k m n; trim ((6,r)::(5,q)::(4,p)::(2,o)::l) l = [(0,a),(1,b),(2,o),(4,p),(5,q),(6,r),(8,g),(9,h),(17,i),(21,j),(22,k),(23,m),(38,n)] := by intros; rfl
 refine R_nil (tr ..) ?_; clear tr
 refine then_n ?_
 refine at_seq rfl ?_
 refine at_seq rfl ?_
 refine rg rfl ?_
 refine Rq ?_
 refine Rq ?_
 refine Rcall ?_
 refine ACall_eq (mst_ok _ _ P L t) ?_
 refine Rq ?_
 refine Rq ?_
 refine Rq ?_
 refine Rq ?_
 refine Rq ?_
 have tr : ∀ a b c d e f g h i j k m n o p q r s t u v : AV, let l := lc_thr_ok a b c d e f g h i j k m n; trim ((8,v)::(7,u)::(15,t)::(14,s)::(10,r)::(13,q)::(12,p)::(11,o)::l) l = [(0,a),(1,b),(2,c),(4,d),(5,e),(6,f),(8,v),(9,h),(17,i),(21,j),(22,k),(23,m),(38,n)] := by intros; rfl
 refine R_nil (tr ..) ?_; clear tr
 refine then_n ?_
 refine at_seq rfl ?_
 refine rg rfl ?_
 refine Rq ?_
 refine Rq ?_
 have tr : ∀ a b c d e f g h i j k m n o p : AV, let l := lc_thr_ok a b c d e f g h i j k m n; trim ((17,p)::(16,o)::l) l = [(0,a),(1,b),(2,c),(4,d),(5,e),(6,f),(8,g),(9,h),(17,p),(21,j),(22,k),(23,m),(38,n)] := by intros; rfl
 refine R_nil (tr ..) ?_; clear tr
 refine then_n ?_
 refine cdd (fun h1 => ?_) (fun h1 => ?_)
 ·
  try simp only [decide_eq_true_eq, decide_eq_false_iff_not, Bool.not_eq_true', Bool.not_eq_false', beq_iff_eq, beq_eq_false_iff_ne, ne_eq] at h1
  refine at_seq rfl ?_
  refine rg rfl ?_
  refine Rq ?_
  refine Rq ?_
  refine Rq ?_
  refine Rq ?_
  have tr : ∀ a b c d e f g h i j k m n o p q r : AV, let l := lc_thr_ok a b c d e f g h i j k m n; trim ((6,r)::(5,q)::(4,p)::(18,o)::l) l = [(0,a),(1,b),(2,c),(4,p),(5,q),(6,r),(8,g),(9,h),(17,i),(21,j),(22,k),(23,m),(38,n)] := by intros; rfl
  refine R_nil (tr ..) ?_; clear tr
  refine then_n ?_
  refine at_ret rfl ?_
  refine then_r ?_
  refine fpure ?_
  refine ⟨rfl, ?_, rfl⟩
  rw [thruS, if_pos (by assumption)]
 ·
  try simp only [decide_eq_true_eq, decide_eq_false_iff_not, Bool.not_eq_true', Bool.not_eq_false', beq_iff_eq, beq_eq_false_iff_ne, ne_eq] at h1
  refine at_skip rfl ?_
  refine then_n ?_
  refine at_seq rfl ?_
  refine at_seq rfl ?_
  refine rg rfl ?_
  have hm0 : (mostS P L t).2 = 0 := by assumption
  obtain ⟨g, ht0, ht1⟩ := most_of hm0
  have g20 := g.n20
  refine Rq ?_
  refine Rq ?_
  refine Rq ?_
  refine Rq ?_
  have tr : ∀ a b c d e f g h i j k m n o p q r : AV, let l := lc_thr_ok a b c d e f g h i j k m n; trim ((22,r)::(21,q)::(20,p)::(19,o)::l) l = [(0,a),(1,b),(2,c),(4,d),(5,e),(6,f),(8,g),(9,h),(17,i),(21,q),(22,r),(23,m),(38,n)] := by intros; rfl
  refine R_nil (tr ..) ?_; clear tr
  refine then_n ?_
  refine at_block rfl ?_
  refine loop_n rfl (fun mm kv H' => ∃ u : Nat, ∃ x4 x5 x6 x9 x23 x38 : AV, (kv = [(4, x4), (5, x5), (6, x6), (9, x9), (22, AV.i u), (23, x23), (38, x38)]) ∧ (mm = P.length - u) ∧ (H' = [] ++ [some (raceC P L)]) ∧ (u ≤ P.length) ∧ (passN P L t u = -1)) ⟨0, _, _, _, _, _, _, rfl, rfl, rfl, by omega, by rfl⟩ (by rfl) ?_
  rintro mm kv H' ⟨u, x4, x5, x6, x9, x23, x38, rfl, rfl, rfl, hu, hq⟩
  have tr : ∀ a b c d e f g h i j k m n o p q r s t u : AV, upd [(0,a),(1,b),(2,c),(4,d),(5,e),(6,f),(8,g),(9,h),(17,i),(21,j),(22,k),(23,m),(38,n)] [(4,o),(5,p),(6,q),(9,r),(22,s),(23,t),(38,u)] = [(0,a),(1,b),(2,c),(4,o),(5,p),(6,q),(8,g),(9,r),(17,i),(21,j),(22,s),(23,t),(38,u)] := by intros; rfl
  refine W_to (tr ..) ?_; clear tr
  refine at_seq rfl ?_
  refine rg rfl ?_
  refine Rq ?_
  have tr : ∀ a b c d e f g h i j k m n o : AV, let l := lc_thr_ok a b c d e f g h i j k m n; trim ((23,o)::l) l = [(0,a),(1,b),(2,c),(4,d),(5,e),(6,f),(8,g),(9,h),(17,i),(21,j),(22,k),(23,o),(38,n)] := by intros; rfl
  refine R_nil (tr ..) ?_; clear tr
  refine then_n ?_
  refine at_seq rfl ?_
  refine cdd (fun h2 => ?_) (fun h2 => ?_)
  ·
   try simp only [decide_eq_true_eq, decide_eq_false_iff_not, Bool.not_eq_true', Bool.not_eq_false', beq_iff_eq, beq_eq_false_iff_ne, ne_eq] at h2
   refine at_skip rfl ?_
   refine then_n ?_
   refine at_seq rfl ?_
   refine at_block rfl ?_
   refine at_seq rfl ?_
   refine rg rfl ?_
   refine Rq ?_
   refine Rq ?_
   have tr : ∀ a b c d e f g h i j k m n o p : AV, let l := lc_thr_ok a b c d e f g h i j k m n; trim ((9,p)::(24,o)::l) l = [(0,a),(1,b),(2,c),(4,d),(5,e),(6,f),(8,g),(9,p),(17,i),(21,j),(22,k),(23,m),(38,n)] := by intros; rfl
   refine R_nil (tr ..) ?_; clear tr
   refine then_n ?_
   refine at_seq rfl ?_
   refine rd rfl rfl ?_
   refine Qq ?_
   refine Qq ?_
   refine Qq ?_
   refine Qq ?_
   refine Qp_split (fun h3 => ?_) (fun h3 => ?_)
   ·
    try simp only [decide_eq_true_eq, decide_eq_false_iff_not, Bool.not_eq_true', Bool.not_eq_false', beq_iff_eq, beq_eq_false_iff_ne, ne_eq] at h3
    refine Qy ?_
    refine Qq ?_
    refine Qy ?_
    refine Qq ?_
    refine Qy ?_
    refine Qcall ?_
    refine ACall_eq (most_ok _ _ P L u g (by omega) (by omega)) ?_
    refine ⟨rfl, ?_⟩
    refine Qy ?_
    refine Qq ?_
    refine Qy ?_
    refine Qq ?_
    refine Qy ?_
    refine Qq ?_
    refine Qy ?_
    refine Qq ?_
    refine Qy ?_
    refine Qq ?_
    refine Qy ?_
    refine Qq ?_
    refine Qq ?_
    refine Q_nil ?_
    have tr : ∀ a b c d e f g h i j k m n o p q r s t u v w x y z A B : AV, let l := lc_thr_ok a b c d e f g h i j k m n; trim ((38,B)::(37,A)::(36,z)::(35,y)::(34,x)::(33,w)::(32,v)::(31,u)::(30,t)::(29,s)::(28,r)::(27,q)::(26,p)::(25,o)::l) l = [(0,a),(1,b),(2,c),(4,d),(5,e),(6,f),(8,g),(9,h),(17,i),(21,j),(22,k),(23,m),(38,B)] := by intros; rfl
    refine R_nil (tr ..) ?_; clear tr
    refine then_n ?_
    refine cdd (fun h4 => ?_) (fun h4 => ?_)
    ·
     try simp only [decide_eq_true_eq, decide_eq_false_iff_not, Bool.not_eq_true', Bool.not_eq_false', beq_iff_eq, beq_eq_false_iff_ne, ne_eq] at h4
     refine at_seq rfl ?_
     refine rg rfl ?_
     refine Rq ?_
     refine Rq ?_
     refine Rq ?_
     refine Rq ?_
     have tr : ∀ a b c d e f g h i j k m n o p q r : AV, let l := lc_thr_ok a b c d e f g h i j k m n; trim ((6,r)::(5,q)::(4,p)::(39,o)::l) l = [(0,a),(1,b),(2,c),(4,p),(5,q),(6,r),(8,g),(9,h),(17,i),(21,j),(22,k),(23,m),(38,n)] := by intros; rfl
     refine R_nil (tr ..) ?_; clear tr
     refine then_n ?_
     refine at_ret rfl ?_
     refine blk_r ?_
     refine then_r ?_
     refine then_r ?_
     refine blk_r ?_
     refine then_r ?_
     refine fpure ?_
     refine ⟨rfl, ?_, rfl⟩
     have e := pass_at hq (by omega) (by omega) P.length (by omega)
     rw [thruS, if_neg (fun hh => hh hm0), e, decide_eq_false (by omega)]
    ·
     try simp only [decide_eq_true_eq, decide_eq_false_iff_not, Bool.not_eq_true', Bool.not_eq_false', beq_iff_eq, beq_eq_false_iff_ne, ne_eq] at h4
     refine at_skip rfl ?_
     refine blk_n ?_
     refine then_n ?_
     refine rg rfl ?_
     refine Rq ?_
     refine Rq ?_
     have tr : ∀ a b c d e f g h i j k m n o p : AV, let l := lc_thr_ok a b c d e f g h i j k m n; trim ((22,p)::(40,o)::l) l = [(0,a),(1,b),(2,c),(4,d),(5,e),(6,f),(8,g),(9,h),(17,i),(21,j),(22,p),(23,m),(38,n)] := by intros; rfl
     refine R_nil (tr ..) ?_; clear tr
     refine then_n ?_
     exact ⟨_, _, ⟨u + 1, _, _, _, _, _, _, rfl, rfl, rfl, by omega, by exact pass_on hq (by omega)⟩, by rfl, by omega⟩
   ·
    try simp only [decide_eq_true_eq, decide_eq_false_iff_not, Bool.not_eq_true', Bool.not_eq_false', beq_iff_eq, beq_eq_false_iff_ne, ne_eq] at h3
    refine Qn ?_
    refine Qn ?_
    refine Qn ?_
    refine Qn ?_
    refine Qn ?_
    refine Qn ?_
    refine Qn ?_
    refine Qn ?_
    refine Qn ?_
    refine Qq ?_
    refine Q_nil ?_
    have tr : ∀ a b c d e f g h i j k m n o p q r s t u v w x y z A B : AV, let l := lc_thr_ok a b c d e f g h i j k m n; trim ((38,B)::(37,A)::(36,z)::(35,y)::(34,x)::(33,w)::(32,v)::(31,u)::(30,t)::(29,s)::(28,r)::(27,q)::(26,p)::(25,o)::l) l = [(0,a),(1,b),(2,c),(4,d),(5,e),(6,f),(8,g),(9,h),(17,i),(21,j),(22,k),(23,m),(38,B)] := by intros; rfl
    refine R_nil (tr ..) ?_; clear tr
    refine then_n ?_
    refine cdf ?_
    refine at_skip rfl ?_
    refine blk_n ?_
    refine then_n ?_
    refine rg rfl ?_
    refine Rq ?_
    refine Rq ?_
    have tr : ∀ a b c d e f g h i j k m n o p : AV, let l := lc_thr_ok a b c d e f g h i j k m n; trim ((22,p)::(40,o)::l) l = [(0,a),(1,b),(2,c),(4,d),(5,e),(6,f),(8,g),(9,h),(17,i),(21,j),(22,p),(23,m),(38,n)] := by intros; rfl
    refine R_nil (tr ..) ?_; clear tr
    refine then_n ?_
    exact ⟨_, _, ⟨u + 1, _, _, _, _, _, _, rfl, rfl, rfl, by omega, by exact pass_on hq (by omega)⟩, by rfl, by omega⟩
  ·
   try simp only [decide_eq_true_eq, decide_eq_false_iff_not, Bool.not_eq_true', Bool.not_eq_false', beq_iff_eq, beq_eq_false_iff_ne, ne_eq] at h2
   refine at_exit rfl ?_
   refine then_x ?_
   refine then_x ?_
   refine blk_x ?_
   refine then_n ?_
   refine at_seq rfl ?_
   refine rg rfl ?_
   refine Rq ?_
   refine Rq ?_
   refine Rq ?_
   have tr : ∀ a b c d e f g h i j k m n o p q : AV, let l := lc_thr_ok a b c d e f g h i j k m n; trim ((6,q)::(5,p)::(4,o)::l) l = [(0,a),(1,b),(2,c),(4,o),(5,p),(6,q),(8,g),(9,h),(17,i),(21,j),(22,k),(23,m),(38,n)] := by intros; rfl
   refine R_nil (tr ..) ?_; clear tr
   refine then_n ?_
   refine at_ret rfl ?_
   refine fpure ?_
   refine ⟨rfl, ?_, rfl⟩
   have e : passN P L t P.length = -1 := by rw [show P.length = u by omega]; exact hq
   rw [thruS, if_neg (fun hh => hh hm0), e]
   rfl

theorem thr_ok (lim : Nat) (H : Heap) (P : List Int) (L : List Pr) (t : Int) :
    ACall sig lim 30 [.agg (raceC P L), AV.i t] H fun r H' => r = .tup [.v (.bool (thruS P L t).1), AV.i (thruS P L t).2.1, AV.i (thruS P L t).2.2] ∧ H' = H :=
  thr_x lim H P L t _ (frz_race H P L)

abbrev lc_rthr_ok (a b c d e f g h i j k m n : AV) : Env := [(0,a),(1,b),(2,c),(4,d),(5,e),(6,f),(8,g),(9,h),(17,i),(21,j),(22,k),(23,m),(38,n)]
theorem rthr_ok (lim : Nat) (H : Heap) (P : List Int) (L : List Pr) (t : Int) :
    ACall sig lim 42 [.agg (raceC P L), AV.i t] H fun r H' => r = .tup [.v (.bool (thruS P L t).1), AV.i (thruS P L t).2.1, AV.i (thruS P L t).2.2] ∧ H' = H := by
 refine ACall_pure (fa := fa42) rfl rfl rfl rfl ?_
 have tr : ∀ a0 a1 : AV, env0 fa42.keep [a0, a1] = [(0,a0),(1,a1),(2,.any),(4,.any),(5,.any),(6,.any),(8,.any),(9,.any),(17,.any),(21,.any),(22,.any),(23,.any),(38,.any)] := fun a0 a1 => rfl
 refine W_to (tr _ _) ?_; clear tr
 refine at_seq rfl ?_
 refine rg rfl ?_
 refine R_box rfl (by simp (disch := first | omega | (simp only [List.length_map, List.length_append, List.length_set, List.length_cons, List.length_nil]; omega)) only [go_sem, ↓reduceIte, Nat.reduceEqDiff, reduceCtorEq] <;> rfl) rfl rfl ?_
 refine Rq ?_
 refine Rq ?_
 refine Rq ?_
 have tr : ∀ a b c d e f g h i j k m n o p q r : AV, let l := lc_rthr_ok a b c d e f g h i j k m n; trim ((6,r)::(5,q)::(4,p)::(2,o)::l) l = [(0,a),(1,b),(2,o),(4,p),(5,q),(6,r),(8,g),(9,h),(17,i),(21,j),(22,k),(23,m),(38,n)] := by intros; rfl
 refine R_nil (tr ..) ?_; clear tr
 refine then_n ?_
 refine at_seq rfl ?_
 refine at_seq rfl ?_
 refine rg rfl ?_
 refine Rq ?_
 refine Rq ?_
 refine Rcall ?_
 refine ACall_eq (rmst_ok _ _ P L t) ?_
 refine Rq ?_
 refine Rq ?_
 refine Rq ?_
 refine Rq ?_
 refine Rq ?_
 have tr : ∀ a b c d e f g h i j k m n o p q r s t u v : AV, let l := lc_rthr_ok a b c d e f g h i j k m n; trim ((8,v)::(7,u)::(15,t)::(14,s)::(10,r)::(13,q)::(12,p)::(11,o)::l) l = [(0,a),(1,b),(2,c),(4,d),(5,e),(6,f),(8,v),(9,h),(17,i),(21,j),(22,k),(23,m),(38,n)] := by intros; rfl
 refine R_nil (tr ..) ?_; clear tr
 refine then_n ?_
 refine at_seq rfl ?_
 refine rg rfl ?_
 refine Rq ?_
 refine Rq ?_
 have tr : ∀ a b c d e f g h i j k m n o p : AV, let l := lc_rthr_ok a b c d e f g h i j k m n; trim ((17,p)::(16,o)::l) l = [(0,a),(1,b),(2,c),(4,d),(5,e),(6,f),(8,g),(9,h),(17,p),(21,j),(22,k),(23,m),(38,n)] := by intros; rfl
 refine R_nil (tr ..) ?_; clear tr
 refine then_n ?_
 refine cdd (fun h1 => ?_) (fun h1 => ?_)
 ·
  try simp only [decide_eq_true_eq, decide_eq_false_iff_not, Bool.not_eq_true', Bool.not_eq_false', beq_iff_eq, beq_eq_false_iff_ne, ne_eq] at h1
  refine at_seq rfl ?_
  refine rg rfl ?_
  refine Rq ?_
  refine Rq ?_
  refine Rq ?_
  refine Rq ?_
  have tr : ∀ a b c d e f g h i j k m n o p q r : AV, let l := lc_rthr_ok a b c d e f g h i j k m n; trim ((6,r)::(5,q)::(4,p)::(18,o)::l) l = [(0,a),(1,b),(2,c),(4,p),(5,q),(6,r),(8,g),(9,h),(17,i),(21,j),(22,k),(23,m),(38,n)] := by intros; rfl
  refine R_nil (tr ..) ?_; clear tr
  refine then_n ?_
  refine at_ret rfl ?_
  refine then_r ?_
  refine fpure ?_
  refine ⟨?_, rfl⟩
  rw [thruS, if_pos (by assumption)]
 ·
  try simp only [decide_eq_true_eq, decide_eq_false_iff_not, Bool.not_eq_true', Bool.not_eq_false', beq_iff_eq, beq_eq_false_iff_ne, ne_eq] at h1
  refine at_skip rfl ?_
  refine then_n ?_
  refine at_seq rfl ?_
  refine at_seq rfl ?_
  refine rg rfl ?_
  have hm0 : (mostS P L t).2 = 0 := by assumption
  obtain ⟨g, ht0, ht1⟩ := most_of hm0
  have g20 := g.n20
  refine Rq ?_
  refine Rq ?_
  refine Rq ?_
  refine Rq ?_
  have tr : ∀ a b c d e f g h i j k m n o p q r : AV, let l := lc_rthr_ok a b c d e f g h i j k m n; trim ((22,r)::(21,q)::(20,p)::(19,o)::l) l = [(0,a),(1,b),(2,c),(4,d),(5,e),(6,f),(8,g),(9,h),(17,i),(21,q),(22,r),(23,m),(38,n)] := by intros; rfl
  refine R_nil (tr ..) ?_; clear tr
  refine then_n ?_
  refine at_block rfl ?_
  refine loop_n rfl (fun mm kv H' => ∃ u : Nat, ∃ x4 x5 x6 x9 x23 x38 : AV, (kv = [(4, x4), (5, x5), (6, x6), (9, x9), (22, AV.i u), (23, x23), (38, x38)]) ∧ (mm = P.length - u) ∧ (H' = H ++ [some (raceC P L)]) ∧ (u ≤ P.length) ∧ (passN P L t u = -1)) ⟨0, _, _, _, _, _, _, rfl, rfl, rfl, by omega, by rfl⟩ (by rfl) ?_
  rintro mm kv H' ⟨u, x4, x5, x6, x9, x23, x38, rfl, rfl, rfl, hu, hq⟩
  have tr : ∀ a b c d e f g h i j k m n o p q r s t u : AV, upd [(0,a),(1,b),(2,c),(4,d),(5,e),(6,f),(8,g),(9,h),(17,i),(21,j),(22,k),(23,m),(38,n)] [(4,o),(5,p),(6,q),(9,r),(22,s),(23,t),(38,u)] = [(0,a),(1,b),(2,c),(4,o),(5,p),(6,q),(8,g),(9,r),(17,i),(21,j),(22,s),(23,t),(38,u)] := by intros; rfl
  refine W_to (tr ..) ?_; clear tr
  refine at_seq rfl ?_
  refine rg rfl ?_
  refine Rq ?_
  have tr : ∀ a b c d e f g h i j k m n o : AV, let l := lc_rthr_ok a b c d e f g h i j k m n; trim ((23,o)::l) l = [(0,a),(1,b),(2,c),(4,d),(5,e),(6,f),(8,g),(9,h),(17,i),(21,j),(22,k),(23,o),(38,n)] := by intros; rfl
  refine R_nil (tr ..) ?_; clear tr
  refine then_n ?_
  refine at_seq rfl ?_
  refine cdd (fun h2 => ?_) (fun h2 => ?_)
  ·
   try simp only [decide_eq_true_eq, decide_eq_false_iff_not, Bool.not_eq_true', Bool.not_eq_false', beq_iff_eq, beq_eq_false_iff_ne, ne_eq] at h2
   refine at_skip rfl ?_
   refine then_n ?_
   refine at_seq rfl ?_
   refine at_block rfl ?_
   refine at_seq rfl ?_
   refine rg rfl ?_
   refine Rq ?_
   refine Rq ?_
   have tr : ∀ a b c d e f g h i j k m n o p : AV, let l := lc_rthr_ok a b c d e f g h i j k m n; trim ((9,p)::(24,o)::l) l = [(0,a),(1,b),(2,c),(4,d),(5,e),(6,f),(8,g),(9,p),(17,i),(21,j),(22,k),(23,m),(38,n)] := by intros; rfl
   refine R_nil (tr ..) ?_; clear tr
   refine then_n ?_
   refine at_seq rfl ?_
   refine rd rfl rfl ?_
   refine Qq ?_
   refine Qq ?_
   refine Qq ?_
   refine Qq ?_
   refine Qp_split (fun h3 => ?_) (fun h3 => ?_)
   ·
    try simp only [decide_eq_true_eq, decide_eq_false_iff_not, Bool.not_eq_true', Bool.not_eq_false', beq_iff_eq, beq_eq_false_iff_ne, ne_eq] at h3
    refine Qy ?_
    refine Qq ?_
    refine Qy ?_
    refine Qq ?_
    refine Qy ?_
    refine Qcall ?_
    refine ACall_eq (rmost_ok _ _ P L u g (by omega) (by omega)) ?_
    refine ⟨rfl, ?_⟩
    refine Qy ?_
    refine Qq ?_
    refine Qy ?_
    refine Qq ?_
    refine Qy ?_
    refine Qq ?_
    refine Qy ?_
    refine Qq ?_
    refine Qy ?_
    refine Qq ?_
    refine Qy ?_
    refine Qq ?_
    refine Qq ?_
    refine Q_nil ?_
    have tr : ∀ a b c d e f g h i j k m n o p q r s t u v w x y z A B : AV, let l := lc_rthr_ok a b c d e f g h i j k m n; trim ((38,B)::(37,A)::(36,z)::(35,y)::(34,x)::(33,w)::(32,v)::(31,u)::(30,t)::(29,s)::(28,r)::(27,q)::(26,p)::(25,o)::l) l = [(0,a),(1,b),(2,c),(4,d),(5,e),(6,f),(8,g),(9,h),(17,i),(21,j),(22,k),(23,m),(38,B)] := by intros; rfl
    refine R_nil (tr ..) ?_; clear tr
    refine then_n ?_
    refine cdd (fun h4 => ?_) (fun h4 => ?_)
    ·
     try simp only [decide_eq_true_eq, decide_eq_false_iff_not, Bool.not_eq_true', Bool.not_eq_false', beq_iff_eq, beq_eq_false_iff_ne, ne_eq] at h4
     refine at_seq rfl ?_
     refine rg rfl ?_
     refine Rq ?_
     refine Rq ?_
     refine Rq ?_
     refine Rq ?_
     have tr : ∀ a b c d e f g h i j k m n o p q r : AV, let l := lc_rthr_ok a b c d e f g h i j k m n; trim ((6,r)::(5,q)::(4,p)::(39,o)::l) l = [(0,a),(1,b),(2,c),(4,p),(5,q),(6,r),(8,g),(9,h),(17,i),(21,j),(22,k),(23,m),(38,n)] := by intros; rfl
     refine R_nil (tr ..) ?_; clear tr
     refine then_n ?_
     refine at_ret rfl ?_
     refine blk_r ?_
     refine then_r ?_
     refine then_r ?_
     refine blk_r ?_
     refine then_r ?_
     refine fpure ?_
     refine ⟨?_, rfl⟩
     have e := pass_at hq (by omega) (by omega) P.length (by omega)
     rw [thruS, if_neg (fun hh => hh hm0), e, decide_eq_false (by omega)]
    ·
     try simp only [decide_eq_true_eq, decide_eq_false_iff_not, Bool.not_eq_true', Bool.not_eq_false', beq_iff_eq, beq_eq_false_iff_ne, ne_eq] at h4
     refine at_skip rfl ?_
     refine blk_n ?_
     refine then_n ?_
     refine rg rfl ?_
     refine Rq ?_
     refine Rq ?_
     have tr : ∀ a b c d e f g h i j k m n o p : AV, let l := lc_rthr_ok a b c d e f g h i j k m n; trim ((22,p)::(40,o)::l) l = [(0,a),(1,b),(2,c),(4,d),(5,e),(6,f),(8,g),(9,h),(17,i),(21,j),(22,p),(23,m),(38,n)] := by intros; rfl
     refine R_nil (tr ..) ?_; clear tr
     refine then_n ?_
     exact ⟨_, _, ⟨u + 1, _, _, _, _, _, _, rfl, rfl, rfl, by omega, by exact pass_on hq (by omega)⟩, by rfl, by omega⟩
   ·
    try simp only [decide_eq_true_eq, decide_eq_false_iff_not, Bool.not_eq_true', Bool.not_eq_false', beq_iff_eq, beq_eq_false_iff_ne, ne_eq] at h3
    refine Qn ?_
    refine Qn ?_
    refine Qn ?_
    refine Qn ?_
    refine Qn ?_
    refine Qn ?_
    refine Qn ?_
    refine Qn ?_
    refine Qn ?_
    refine Qq ?_
    refine Q_nil ?_
    have tr : ∀ a b c d e f g h i j k m n o p q r s t u v w x y z A B : AV, let l := lc_rthr_ok a b c d e f g h i j k m n; trim ((38,B)::(37,A)::(36,z)::(35,y)::(34,x)::(33,w)::(32,v)::(31,u)::(30,t)::(29,s)::(28,r)::(27,q)::(26,p)::(25,o)::l) l = [(0,a),(1,b),(2,c),(4,d),(5,e),(6,f),(8,g),(9,h),(17,i),(21,j),(22,k),(23,m),(38,B)] := by intros; rfl
    refine R_nil (tr ..) ?_; clear tr
    refine then_n ?_
    refine cdf ?_
    refine at_skip rfl ?_
    refine blk_n ?_
    refine then_n ?_
    refine rg rfl ?_
    refine Rq ?_
    refine Rq ?_
    have tr : ∀ a b c d e f g h i j k m n o p : AV, let l := lc_rthr_ok a b c d e f g h i j k m n; trim ((22,p)::(40,o)::l) l = [(0,a),(1,b),(2,c),(4,d),(5,e),(6,f),(8,g),(9,h),(17,i),(21,j),(22,p),(23,m),(38,n)] := by intros; rfl
    refine R_nil (tr ..) ?_; clear tr
    refine then_n ?_
    exact ⟨_, _, ⟨u + 1, _, _, _, _, _, _, rfl, rfl, rfl, by omega, by exact pass_on hq (by omega)⟩, by rfl, by omega⟩
  ·
   try simp only [decide_eq_true_eq, decide_eq_false_iff_not, Bool.not_eq_true', Bool.not_eq_false', beq_iff_eq, beq_eq_false_iff_ne, ne_eq] at h2
   refine at_exit rfl ?_
   refine then_x ?_
   refine then_x ?_
   refine blk_x ?_
   refine then_n ?_
   refine at_seq rfl ?_
   refine rg rfl ?_
   refine Rq ?_
   refine Rq ?_
   refine Rq ?_
   have tr : ∀ a b c d e f g h i j k m n o p q : AV, let l := lc_rthr_ok a b c d e f g h i j k m n; trim ((6,q)::(5,p)::(4,o)::l) l = [(0,a),(1,b),(2,c),(4,o),(5,p),(6,q),(8,g),(9,h),(17,i),(21,j),(22,k),(23,m),(38,n)] := by intros; rfl
   refine R_nil (tr ..) ?_; clear tr
   refine then_n ?_
   refine at_ret rfl ?_
   refine fpure ?_
   refine ⟨?_, rfl⟩
   have e : passN P L t P.length = -1 := by rw [show P.length = u by omega]; exact hq
   rw [thruS, if_neg (fun hh => hh hm0), e]
   rfl

end Go.Proofs.Ytdicnojnkbmdlaa
end
section
namespace Go.Proofs.Ytdicnojnkbmdlaa
open Go Go.Am
set_option maxRecDepth 100000
theorem season_ok (lim : Nat) (H : Heap) : acall sig 400 lim 27 [] H = some (.v (.bool true), H) := by kernel_rfl
end Go.Proofs.Ytdicnojnkbmdlaa
end
section
set_option linter.unusedSimpArgs false
set_option linter.unusedVariables false
set_option maxHeartbeats 40000000
set_option maxRecDepth 4000
namespace Go.Proofs.Ytdicnojnkbmdlaa
open Go Go.Am

abbrev lc_toprace_gen (a b c d e f g h i j k m : AV) : Env := [(0,a),(1,b),(2,c),(4,d),(5,e),(6,f),(7,g),(9,h),(10,i),(11,j),(13,k),(33,m)]
theorem toprace_gen (lim : Nat) (H : Heap) (P : List Int) (L : List Pr) (t : Int) : ACall sig lim 6 [.agg (raceC P L), AV.i t] H fun r _ => r = .v (.bool true) := by
 have q0 : True := trivial
 have q5 : True := trivial
 refine ACall_pure (fa := fa6) rfl rfl rfl rfl ?_
 have tr : ∀ a0 a1 : AV, env0 fa6.keep [a0, a1] = [(0,a0),(1,a1),(2,.any),(4,.any),(5,.any),(6,.any),(7,.any),(9,.any),(10,.any),(11,.any),(13,.any),(33,.any)] := fun a0 a1 => rfl
 refine W_to (tr _ _) ?_; clear tr
 refine at_seq rfl ?_
 refine rg rfl ?_
 refine A_box rfl (by simp (disch := first | omega | (simp only [List.length_map, List.length_append, List.length_set, List.length_cons, List.length_nil]; omega)) only [go_sem, ↓reduceIte, Nat.reduceEqDiff, reduceCtorEq] <;> rfl) ?_
 intro H1 n0
 have en0 := n0.len
 have q0 := n0.new
 refine Rq ?_
 have tr : ∀ a b c d e f g h i j k m n o : AV, let l := lc_toprace_gen a b c d e f g h i j k m; trim ((4,o)::(2,n)::l) l = [(0,a),(1,b),(2,n),(4,o),(5,e),(6,f),(7,g),(9,h),(10,i),(11,j),(13,k),(33,m)] := by intros; rfl
 refine R_nil (tr ..) ?_; clear tr
 refine then_n ?_
 refine at_seq rfl ?_
 refine at_seq rfl ?_
 refine rg rfl ?_
 refine Rcall ?_
 refine ACall_eval 400 (season_ok _ _) ?_
 refine Rq ?_
 have tr : ∀ a b c d e f g h i j k m n o : AV, let l := lc_toprace_gen a b c d e f g h i j k m; trim ((13,o)::(12,n)::l) l = [(0,a),(1,b),(2,c),(4,d),(5,e),(6,f),(7,g),(9,h),(10,i),(11,j),(13,o),(33,m)] := by intros; rfl
 refine R_nil (tr ..) ?_; clear tr
 refine then_n ?_
 refine cdf ?_
 refine at_skip rfl ?_
 refine then_n ?_
 refine at_seq rfl ?_
 refine at_seq rfl ?_
 refine rg rfl ?_
 refine Rq ?_
 refine R_q rfl (by simp (disch := first | omega | (simp only [List.length_map, List.length_append, List.length_set, List.length_cons, List.length_nil]; omega)) only [go_sem, ↓reduceIte, Nat.reduceEqDiff, reduceCtorEq, q0, q5] <;> rfl) ?_
 refine Rq ?_
 refine Rq ?_
 refine Rq ?_
 refine Rp_split (fun h1 => ?_) (fun h1 => ?_)
 ·
  try simp only [decide_eq_true_eq, decide_eq_false_iff_not, Bool.not_eq_true', Bool.not_eq_false', beq_iff_eq, beq_eq_false_iff_ne, ne_eq] at h1
  refine Rn ?_
  refine Rn ?_
  refine Rn ?_
  refine Rq ?_
  refine Rq ?_
  refine Rn ?_
  refine Rn ?_
  refine Rq ?_
  refine Rq ?_
  refine Rn ?_
  refine Rn ?_
  refine Rn ?_
  refine Rn ?_
  refine Rn ?_
  refine Rq ?_
  have tr : ∀ a b c d e f g h i j k m n o p q r s t u v w x y z A B C D E F G : AV, let l := lc_toprace_gen a b c d e f g h i j k m; trim ((33,G)::(32,F)::(31,E)::(30,D)::(29,C)::(28,B)::(27,A)::(26,z)::(25,y)::(24,x)::(23,w)::(22,v)::(21,u)::(20,t)::(19,s)::(18,r)::(17,q)::(16,p)::(15,o)::(14,n)::l) l = [(0,a),(1,b),(2,c),(4,d),(5,e),(6,f),(7,g),(9,h),(10,i),(11,j),(13,k),(33,G)] := by intros; rfl
  refine R_nil (tr ..) ?_; clear tr
  refine then_n ?_
  refine cdt ?_
  refine at_seq rfl ?_
  refine rg rfl ?_
  refine Rq ?_
  have tr : ∀ a b c d e f g h i j k m n : AV, let l := lc_toprace_gen a b c d e f g h i j k m; trim ((4,n)::l) l = [(0,a),(1,b),(2,c),(4,n),(5,e),(6,f),(7,g),(9,h),(10,i),(11,j),(13,k),(33,m)] := by intros; rfl
  refine R_nil (tr ..) ?_; clear tr
  refine then_n ?_
  refine at_ret rfl ?_
  refine then_r ?_
  refine fpure ?_
  first | rfl | simp
 ·
  try simp only [decide_eq_true_eq, decide_eq_false_iff_not, Bool.not_eq_true', Bool.not_eq_false', beq_iff_eq, beq_eq_false_iff_ne, ne_eq] at h1
  refine Ry ?_
  refine R_q rfl (by simp (disch := first | omega | (simp only [List.length_map, List.length_append, List.length_set, List.length_cons, List.length_nil]; omega)) only [go_sem, ↓reduceIte, Nat.reduceEqDiff, reduceCtorEq, q0, q5] <;> rfl) ?_
  refine Ry ?_
  refine Rcall ?_
  refine ACall_eq (chk53_ok _ _ P L) ?_
  refine Ry ?_
  refine Rq ?_
  refine Rq ?_
  refine Rq ?_
  refine Rp_split (fun h2 => ?_) (fun h2 => ?_)
  ·
   try simp only [decide_eq_true_eq, decide_eq_false_iff_not, Bool.not_eq_true', Bool.not_eq_false', beq_iff_eq, beq_eq_false_iff_ne, ne_eq] at h2
   refine Rn ?_
   refine Rn ?_
   refine Rq ?_
   refine Rq ?_
   refine Rn ?_
   refine Rn ?_
   refine Rn ?_
   refine Rn ?_
   refine Rn ?_
   refine Rq ?_
   have tr : ∀ a b c d e f g h i j k m n o p q r s t u v w x y z A B C D E F G : AV, let l := lc_toprace_gen a b c d e f g h i j k m; trim ((33,G)::(32,F)::(31,E)::(30,D)::(29,C)::(28,B)::(27,A)::(26,z)::(25,y)::(24,x)::(23,w)::(22,v)::(21,u)::(20,t)::(19,s)::(18,r)::(17,q)::(16,p)::(15,o)::(14,n)::l) l = [(0,a),(1,b),(2,c),(4,d),(5,e),(6,f),(7,g),(9,h),(10,i),(11,j),(13,k),(33,G)] := by intros; rfl
   refine R_nil (tr ..) ?_; clear tr
   refine then_n ?_
   refine cdt ?_
   refine at_seq rfl ?_
   refine rg rfl ?_
   refine Rq ?_
   have tr : ∀ a b c d e f g h i j k m n : AV, let l := lc_toprace_gen a b c d e f g h i j k m; trim ((4,n)::l) l = [(0,a),(1,b),(2,c),(4,n),(5,e),(6,f),(7,g),(9,h),(10,i),(11,j),(13,k),(33,m)] := by intros; rfl
   refine R_nil (tr ..) ?_; clear tr
   refine then_n ?_
   refine at_ret rfl ?_
   refine then_r ?_
   refine fpure ?_
   first | rfl | simp
  ·
   try simp only [decide_eq_true_eq, decide_eq_false_iff_not, Bool.not_eq_true', Bool.not_eq_false', beq_iff_eq, beq_eq_false_iff_ne, ne_eq] at h2
   refine Ry ?_
   refine Rq ?_
   refine Ry ?_
   refine Rq ?_
   refine Rq ?_
   refine Rq ?_
   refine Rp_split (fun h3 => ?_) (fun h3 => ?_)
   ·
    try simp only [decide_eq_true_eq, decide_eq_false_iff_not, Bool.not_eq_true', Bool.not_eq_false', beq_iff_eq, beq_eq_false_iff_ne, ne_eq] at h3
    refine Rn ?_
    refine Rn ?_
    refine Rn ?_
    refine Rn ?_
    refine Rn ?_
    refine Rq ?_
    have tr : ∀ a b c d e f g h i j k m n o p q r s t u v w x y z A B C D E F G : AV, let l := lc_toprace_gen a b c d e f g h i j k m; trim ((33,G)::(32,F)::(31,E)::(30,D)::(29,C)::(28,B)::(27,A)::(26,z)::(25,y)::(24,x)::(23,w)::(22,v)::(21,u)::(20,t)::(19,s)::(18,r)::(17,q)::(16,p)::(15,o)::(14,n)::l) l = [(0,a),(1,b),(2,c),(4,d),(5,e),(6,f),(7,g),(9,h),(10,i),(11,j),(13,k),(33,G)] := by intros; rfl
    refine R_nil (tr ..) ?_; clear tr
    refine then_n ?_
    refine cdt ?_
    refine at_seq rfl ?_
    refine rg rfl ?_
    refine Rq ?_
    have tr : ∀ a b c d e f g h i j k m n : AV, let l := lc_toprace_gen a b c d e f g h i j k m; trim ((4,n)::l) l = [(0,a),(1,b),(2,c),(4,n),(5,e),(6,f),(7,g),(9,h),(10,i),(11,j),(13,k),(33,m)] := by intros; rfl
    refine R_nil (tr ..) ?_; clear tr
    refine then_n ?_
    refine at_ret rfl ?_
    refine then_r ?_
    refine fpure ?_
    first | rfl | simp
   ·
    try simp only [decide_eq_true_eq, decide_eq_false_iff_not, Bool.not_eq_true', Bool.not_eq_false', beq_iff_eq, beq_eq_false_iff_ne, ne_eq] at h3
    refine Ry ?_
    refine Rq ?_
    refine Ry ?_
    refine Rq ?_
    refine Ry ?_
    refine R_q rfl (by simp (disch := first | omega | (simp only [List.length_map, List.length_append, List.length_set, List.length_cons, List.length_nil]; omega)) only [go_sem, ↓reduceIte, Nat.reduceEqDiff, reduceCtorEq, q0, q5] <;> rfl) ?_
    refine Ry ?_
    refine Rq ?_
    refine Ry ?_
    refine Rq ?_
    refine Rq ?_
    have tr : ∀ a b c d e f g h i j k m n o p q r s t u v w x y z A B C D E F G : AV, let l := lc_toprace_gen a b c d e f g h i j k m; trim ((33,G)::(32,F)::(31,E)::(30,D)::(29,C)::(28,B)::(27,A)::(26,z)::(25,y)::(24,x)::(23,w)::(22,v)::(21,u)::(20,t)::(19,s)::(18,r)::(17,q)::(16,p)::(15,o)::(14,n)::l) l = [(0,a),(1,b),(2,c),(4,d),(5,e),(6,f),(7,g),(9,h),(10,i),(11,j),(13,k),(33,G)] := by intros; rfl
    refine R_nil (tr ..) ?_; clear tr
    refine then_n ?_
    refine cdd (fun h4 => ?_) (fun h4 => ?_)
    ·
     try simp only [decide_eq_true_eq, decide_eq_false_iff_not, Bool.not_eq_true', Bool.not_eq_false', beq_iff_eq, beq_eq_false_iff_ne, ne_eq] at h4
     refine at_seq rfl ?_
     refine rg rfl ?_
     refine Rq ?_
     have tr : ∀ a b c d e f g h i j k m n : AV, let l := lc_toprace_gen a b c d e f g h i j k m; trim ((4,n)::l) l = [(0,a),(1,b),(2,c),(4,n),(5,e),(6,f),(7,g),(9,h),(10,i),(11,j),(13,k),(33,m)] := by intros; rfl
     refine R_nil (tr ..) ?_; clear tr
     refine then_n ?_
     refine at_ret rfl ?_
     refine then_r ?_
     refine fpure ?_
     first | rfl | simp
    ·
     try simp only [decide_eq_true_eq, decide_eq_false_iff_not, Bool.not_eq_true', Bool.not_eq_false', beq_iff_eq, beq_eq_false_iff_ne, ne_eq] at h4
     refine at_skip rfl ?_
     refine then_n ?_
     refine at_seq rfl ?_
     refine rg rfl ?_
     have hgc : rchkS P L = 0 := by assumption
     have g := rok_of hgc
     have g20 := g.n20
     have hm0 : (mostS P L t).2 = 0 := by rw [mostS, if_neg (fun hh => hh hgc), if_neg (by omega)]
     have e_thr : (thruS P L t).2.2 = 0 := by rw [thruS, if_neg (fun hh => hh hm0)]
     have e2 : (thruS P L t).1 = allB P L t := by
       rw [thruS, if_neg (fun hh => hh hm0), Bool.eq_iff_iff, decide_eq_true_eq, allB_iff]
       exact thru_all g (by omega) (by omega)
     refine R_q rfl (by simp (disch := first | omega | (simp only [List.length_map, List.length_append, List.length_set, List.length_cons, List.length_nil]; omega)) only [go_sem, ↓reduceIte, Nat.reduceEqDiff, reduceCtorEq, q0, q5] <;> rfl) ?_
     refine Rq ?_
     refine Rcall ?_
     refine ACall_mono (first_ok _ _ P L t) ?_
     rintro r H6 ⟨⟨R1, o1, rfl, hv1⟩, rfl⟩
     obtain ⟨ho1, hl1⟩ := firstP_o hv1
     have e1 : firstB P L t = canB P L t := by rw [Bool.eq_iff_iff, canB_iff]; exact first_can hm0 hv1
     refine Rq ?_
     refine Rq ?_
     refine Rq ?_
     refine A_alloc rfl ?_
     intro H2 n1
     have en1 := n1.len
     have q0 := (n1.old _ (hget_lt q0)).trans q0
     have q5 := n1.new
     have lq0 := hget_lt q0
     have lq5 := hget_lt q5
     refine A_store ty46 (by simp (disch := first | omega | (simp only [List.length_map, List.length_append, List.length_set, List.length_cons, List.length_nil]; omega)) only [go_sem, ↓reduceIte, Nat.reduceEqDiff, reduceCtorEq, q0, q5] <;> rfl) (by simp (disch := first | omega | (simp only [List.length_map, List.length_append, List.length_set, List.length_cons, List.length_nil]; omega)) only [go_sem, ↓reduceIte, Nat.reduceEqDiff, reduceCtorEq, q0, q5, Bool.and_self, storA (firstS P L t), ho1.stor] <;> rfl) q5 ⟨by omega, rfl, by first | exact Nat.le_refl _ | simp⟩ (show _ = [.v (.bool (firstB P L t)), outA (firstS P L t), o1] from rfl) ?_
     intro H3 w1
     have ew1 := w1.len
     have q0 := (w1.old _ (by omega)).trans q0
     have q5 := w1.new
     refine Rq ?_
     have tr : ∀ a b c d e f g h i j k m n o p q r s t u : AV, let l := lc_toprace_gen a b c d e f g h i j k m; trim ((6,u)::(5,t)::(39,s)::(38,r)::(34,q)::(37,p)::(36,o)::(35,n)::l) l = [(0,a),(1,b),(2,c),(4,d),(5,t),(6,u),(7,g),(9,h),(10,i),(11,j),(13,k),(33,m)] := by intros; rfl
     refine R_nil (tr ..) ?_; clear tr
     refine then_n ?_
     refine at_seq rfl ?_
     refine rg rfl ?_
     refine R_q rfl (by simp (disch := first | omega | (simp only [List.length_map, List.length_append, List.length_set, List.length_cons, List.length_nil]; omega)) only [go_sem, ↓reduceIte, Nat.reduceEqDiff, reduceCtorEq, q0, q5] <;> rfl) ?_
     refine Rq ?_
     refine Rcall ?_
     refine ACall_eq (thr_ok _ _ P L t) ?_
     refine Rq ?_
     refine Rq ?_
     refine Rq ?_
     refine Rq ?_
     refine Rq ?_
     refine Rq ?_
     refine Rq ?_
     have tr : ∀ a b c d e f g h i j k m n o p q r s t u v w : AV, let l := lc_toprace_gen a b c d e f g h i j k m; trim ((9,w)::(8,v)::(7,u)::(46,t)::(45,s)::(44,r)::(40,q)::(43,p)::(42,o)::(41,n)::l) l = [(0,a),(1,b),(2,c),(4,d),(5,e),(6,f),(7,u),(9,w),(10,i),(11,j),(13,k),(33,m)] := by intros; rfl
     refine R_nil (tr ..) ?_; clear tr
     refine then_n ?_
     refine at_seq rfl ?_
     refine rg rfl ?_
     refine Rq ?_
     refine R_q rfl (by simp (disch := first | omega | (simp only [List.length_map, List.length_append, List.length_set, List.length_cons, List.length_nil]; omega)) only [go_sem, ↓reduceIte, Nat.reduceEqDiff, reduceCtorEq, q0, q5] <;> rfl) ?_
     refine Rq ?_
     refine R_q rfl (by simp (disch := first | omega | (simp only [List.length_map, List.length_append, List.length_set, List.length_cons, List.length_nil]; omega)) only [go_sem, ↓reduceIte, Nat.reduceEqDiff, reduceCtorEq, q0, q5] <;> rfl) ?_
     refine Rq ?_
     refine Rcall ?_
     refine ACall_eq (ends_x t (by omega) L _ _ P _ (congrArg (AV.sl _) (frz_ints _ _ _ _)) g20 (by omega) (fun i hi => by have := g.ed i hi; omega) (fun i => by by_cases hi : i < P.length; (have := g.pt i hi; omega); (rw [gtn_out (by omega)]; omega))) ?_
     refine Rq ?_
     refine Rq ?_
     refine Rq ?_
     refine Rq ?_
     refine Rq ?_
     have tr : ∀ a b c d e f g h i j k m n o p q r s t u v w x : AV, let l := lc_toprace_gen a b c d e f g h i j k m; trim ((11,x)::(10,w)::(55,v)::(54,u)::(47,t)::(53,s)::(52,r)::(51,q)::(50,p)::(49,o)::(48,n)::l) l = [(0,a),(1,b),(2,c),(4,d),(5,e),(6,f),(7,g),(9,h),(10,w),(11,x),(13,k),(33,m)] := by intros; rfl
     refine R_nil (tr ..) ?_; clear tr
     refine then_n ?_
     refine at_seq rfl ?_
     refine rg rfl ?_
     refine Rq ?_
     refine Rq ?_
     refine Rq ?_
     refine Rp_split (fun h5 => ?_) (fun h5 => ?_)
     ·
      try simp only [decide_eq_true_eq, decide_eq_false_iff_not, Bool.not_eq_true', Bool.not_eq_false', beq_iff_eq, beq_eq_false_iff_ne, ne_eq] at h5
      refine Ry ?_
      refine Rq ?_
      refine Ry ?_
      refine Rq ?_
      refine Rq ?_
      refine Rq ?_
      refine Rp_split (fun h6 => ?_) (fun h6 => ?_)
      ·
       try simp only [decide_eq_true_eq, decide_eq_false_iff_not, Bool.not_eq_true', Bool.not_eq_false', beq_iff_eq, beq_eq_false_iff_ne, ne_eq] at h6
       refine Ry ?_
       refine Rq ?_
       refine Ry ?_
       refine R_q rfl (by simp (disch := first | omega | (simp only [List.length_map, List.length_append, List.length_set, List.length_cons, List.length_nil]; omega)) only [go_sem, ↓reduceIte, Nat.reduceEqDiff, reduceCtorEq, q0, q5] <;> rfl) ?_
       refine Ry ?_
       refine Rq ?_
       refine Ry ?_
       refine Rq ?_
       refine Rq ?_
       refine Rq ?_
       refine Rp_split (fun h7 => ?_) (fun h7 => ?_)
       ·
        try simp only [decide_eq_true_eq, decide_eq_false_iff_not, Bool.not_eq_true', Bool.not_eq_false', beq_iff_eq, beq_eq_false_iff_ne, ne_eq] at h7
        refine Ry ?_
        refine Rq ?_
        refine Ry ?_
        refine Rq ?_
        refine Ry ?_
        refine Rq ?_
        refine Rq ?_
        refine Rq ?_
        refine Rp_split (fun h8 => ?_) (fun h8 => ?_)
        ·
         try simp only [decide_eq_true_eq, decide_eq_false_iff_not, Bool.not_eq_true', Bool.not_eq_false', beq_iff_eq, beq_eq_false_iff_ne, ne_eq] at h8
         refine Ry ?_
         refine R_q rfl (by simp (disch := first | omega | (simp only [List.length_map, List.length_append, List.length_set, List.length_cons, List.length_nil]; omega)) only [go_sem, ↓reduceIte, Nat.reduceEqDiff, reduceCtorEq, q0, q5] <;> rfl) ?_
         refine Ry ?_
         refine Rq ?_
         refine Ry ?_
         refine R_q rfl (by simp (disch := first | omega | (simp only [List.length_map, List.length_append, List.length_set, List.length_cons, List.length_nil]; omega)) only [go_sem, ↓reduceIte, Nat.reduceEqDiff, reduceCtorEq, q0, q5, storA (firstS P L t), ho1.stor, Bool.and_self] <;> rfl) ?_
         refine Ry ?_
         refine Rcall ?_
         refine ACall_eq (accept_first _ _ P L t hm0 hv1) ?_
         refine Ry ?_
         refine Rq ?_
         refine Rq ?_
         refine Rq ?_
         have tr : ∀ a b c d e f g h i j k m n o p q r s t u v w x y z A B C D E F G H I J K L : AV, let l := lc_toprace_gen a b c d e f g h i j k m; trim ((4,L)::(79,K)::(78,J)::(77,I)::(76,H)::(75,G)::(74,F)::(73,E)::(72,D)::(71,C)::(70,B)::(69,A)::(68,z)::(67,y)::(66,x)::(65,w)::(64,v)::(63,u)::(62,t)::(61,s)::(60,r)::(59,q)::(58,p)::(57,o)::(56,n)::l) l = [(0,a),(1,b),(2,c),(4,L),(5,e),(6,f),(7,g),(9,h),(10,i),(11,j),(13,k),(33,m)] := by intros; rfl
         refine R_nil (tr ..) ?_; clear tr
         refine then_n ?_
         refine at_ret rfl ?_
         refine fpure ?_
         first | rfl | simp
        ·
         try simp only [decide_eq_true_eq, decide_eq_false_iff_not, Bool.not_eq_true', Bool.not_eq_false', beq_iff_eq, beq_eq_false_iff_ne, ne_eq] at h8
         first | exact absurd hm0 (by assumption) | exact absurd e_thr (by assumption) | exact absurd e1 (by assumption) | exact absurd e2 (by assumption) | omega
       ·
        try simp only [decide_eq_true_eq, decide_eq_false_iff_not, Bool.not_eq_true', Bool.not_eq_false', beq_iff_eq, beq_eq_false_iff_ne, ne_eq] at h7
        first | exact absurd hm0 (by assumption) | exact absurd e_thr (by assumption) | exact absurd e1 (by assumption) | exact absurd e2 (by assumption) | omega
      ·
       try simp only [decide_eq_true_eq, decide_eq_false_iff_not, Bool.not_eq_true', Bool.not_eq_false', beq_iff_eq, beq_eq_false_iff_ne, ne_eq] at h6
       first | exact absurd hm0 (by assumption) | exact absurd e_thr (by assumption) | exact absurd e1 (by assumption) | exact absurd e2 (by assumption) | omega
     ·
      try simp only [decide_eq_true_eq, decide_eq_false_iff_not, Bool.not_eq_true', Bool.not_eq_false', beq_iff_eq, beq_eq_false_iff_ne, ne_eq] at h5
      first | exact absurd hm0 (by assumption) | exact absurd e_thr (by assumption) | exact absurd e1 (by assumption) | exact absurd e2 (by assumption) | omega

end Go.Proofs.Ytdicnojnkbmdlaa
end
section
namespace Go.Am
open Go
section
variable {H : Type} {enc : TypeId × Value → H} {P : Program} {w : World} {held : Bool}

abbrev In (w : World) : Nat → Prop := fun k => k < w.heap.size

theorem cell_lt {w : World} {a : Addr} {v : Value} (h : w.cell? a = some v) : a.block < w.heap.size := by
  unfold World.cell? at h
  by_cases hb : a.block < w.heap.size
  · exact hb
  · rw [Array.getElem?_eq_none (by omega)] at h
    simp at h

theorem den_slice {α : Type} (f : α → AV) {t e : TypeId} {fuel : Nat} {cs : List Value} {x : DataW H × List MemPlace} (ht : P.underlying t = some (.slice e)) (hc : P.cellsOf e = 1)
    (each : ∀ n cs x, DataW.trod enc P w 0 (fun _ => true) held n e cs = some x → ∃ d v, cs = [v] ∧ Den [] (In w) w (f d) v)
    (h : DataW.trod enc P w 0 (fun _ => true) held fuel t cs = some x) : ∃ (l : List α) (v : Value), cs = [v] ∧ Den [] (In w) w (.sl l.length (l.map f)) v := by
  rcases DataW.trod_slice ht h with ⟨rfl, _⟩ | ⟨a, len, cap, elems, rest, n, _, rfl, _, _, hl, hm, hlen, hel, hsp, _⟩
  · exact ⟨[], _, rfl, .sl0 _ _⟩
  · have get : ∀ i, i < cap → ∃ c d, w.cell? (a.add i) = some c ∧ Den [] (In w) w (f d) c := by
      intro i hi
      have hb : ∃ y, (w.cells? 0 (a.add (i * P.cellsOf e)) (P.cellsOf e)).bind (DataW.trod enc P w 0 (fun _ => true) held n e) = some y := by
        by_cases h1 : i < len
        · exact ⟨elems[i]'(by omega), by rw [hel i h1, List.getElem?_eq_getElem (by omega)]⟩
        · obtain ⟨hr, hrr⟩ := hsp rfl
          have := hrr (i - len) (by omega)
          rw [show len + (i - len) = i by omega] at this
          exact ⟨rest[i - len]'(by omega), by rw [this, List.getElem?_eq_getElem (by omega)]⟩
      obtain ⟨y, hy⟩ := hb
      rw [hc, Nat.mul_one, Option.bind_eq_some_iff] at hy
      obtain ⟨cs', hcs, hy'⟩ := hy
      obtain ⟨d, v, rfl, hd⟩ := each _ _ _ hy'
      have e0 : (a.add i).add 0 = a.add i := by simp [Addr.add]
      unfold World.cells? at hcs
      rw [if_pos (Nat.zero_le _)] at hcs
      simp only [List.range_succ, List.range_zero, List.nil_append, List.mapM_cons, List.mapM_nil, e0] at hcs
      cases hcc : w.cell? (a.add i) with
      | none => simp [hcc] at hcs
      | some c =>
        simp [hcc] at hcs
        exact ⟨c, d, rfl, by rw [hcs]; exact hd⟩
    by_cases h0 : cap = 0
    · subst h0
      have : len = 0 := by omega
      subst this
      exact ⟨[], _, rfl, .sl0 _ _⟩
    · obtain ⟨c0, d0, hc0, _⟩ := get 0 (by omega)
      have hs : a.spot = none := by have := World.cell?_spot hc0; simpa [Addr.add] using this
      have hb : a.block < w.heap.size := by have := cell_lt hc0; simpa [Addr.add] using this
      have ad : ∀ i, a.add i = ⟨a.block, a.off + i, none⟩ := by
        intro i
        obtain ⟨ab, ao, asp⟩ := a
        simp only at hs
        subst hs
        simp only [Addr.add]
        split
        · rename_i hi; rw [hi]; rfl
        · rfl
      have pick : ∀ i, ∃ d : α, i < len → ∃ c, w.cell? (a.add i) = some c ∧ Den [] (In w) w (f d) c := by
        intro i
        by_cases hi : i < len
        · obtain ⟨c, d, h1, h2⟩ := get i (by omega)
          exact ⟨d, fun _ => ⟨c, h1, h2⟩⟩
        · exact ⟨d0, fun h => absurd h hi⟩
      let D : Nat → α := fun i => (pick i).choose
      have hD : ∀ i, i < len → ∃ c, w.cell? (a.add i) = some c ∧ Den [] (In w) w (f (D i)) c := fun i => (pick i).choose_spec
      refine ⟨(List.range len).map D, _, rfl, ?_⟩
      have hlen2 : ((List.range len).map D).length = len := by simp
      rw [hlen2]
      have gx : ∀ (j : Nat) (x : AV), (((List.range len).map D).map f)[j]? = some x → j < len ∧ x = f (D j) := by
        intro j x hx
        simp only [List.map_map, List.getElem?_map, Option.map_eq_some_iff, Function.comp] at hx
        obtain ⟨k, hk, rfl⟩ := hx
        obtain ⟨hj, hk⟩ := List.getElem?_eq_some_iff.1 hk
        simp at hj hk
        subst hk
        exact ⟨hj, rfl⟩
      refine .sl len _ cap a (fun j => (w.cell? (a.add j)).getD undef) hl hm hs hb ?_ ?_
      · intro j x hx
        obtain ⟨hj, _⟩ := gx j x hx
        obtain ⟨c, h1, _⟩ := hD j hj
        rw [← ad j, h1]; rfl
      · intro j x hx
        obtain ⟨hj, rfl⟩ := gx j x hx
        obtain ⟨c, h1, h2⟩ := hD j hj
        rw [h1]; exact h2

theorem den_int {e : TypeId} (he : P.underlying e = some (.int .i64)) : ∀ n cs (x : DataW H × List MemPlace), DataW.trod enc P w 0 (fun _ => true) held n e cs = some x → ∃ d v, cs = [v] ∧ Den [] (In w) w (AV.i d) v := by
  intro n cs x h
  obtain ⟨m, rfl, _, _⟩ := DataW.trod_int he h
  exact ⟨m, _, rfl, .v _⟩
end
end Go.Am
end
section
namespace Go.Am
open Go Go.WideShapes
section
variable {P : Program} {w : World}

def DLs (w : World) (l : List AV) (cs : List Value) : Prop := cs.length = l.length ∧ ∀ (j : Nat) (a : AV) (v : Value), l[j]? = some a → cs[j]? = some v → Den [] (In w) w a v

def Opens (P : Program) (t : TypeId) {α : Type} (f : α → List AV) : Prop :=
  ∀ (H : Type) (enc : TypeId × Value → H) (w : World) (held : Bool) (n : Nat) (cs : List Value) (x : DataW H × List MemPlace), DataW.trod enc P w 0 (fun _ => true) held n t cs = some x → ∃ d : α, DLs w (f d) cs

theorem dls_one {a : AV} {v : Value} (h : Den [] (In w) w a v) : DLs w [a] [v] := ⟨rfl, fun j x y hx hy => by
  match j, hx, hy with
  | 0, hx, hy => cases hx; cases hy; exact h⟩

abbrev I64 := {x : Int // -9223372036854775808 ≤ x ∧ x ≤ 9223372036854775807}
abbrev U16 := {x : Int // 0 ≤ x ∧ x ≤ 65535}
theorem opens_i64 {t : TypeId} (ht : P.underlying t = some (.int .i64)) : Opens P t (fun d : I64 => [AV.i d.val]) := by
  intro H enc w held n cs x h
  obtain ⟨m, rfl, _, hw⟩ := DataW.trod_int ht h
  simp only [Lit.wf, decide_eq_true_eq, Bool.and_eq_true] at hw
  exact ⟨⟨m, hw⟩, dls_one (.v _)⟩
theorem opens_u16 {t : TypeId} (ht : P.underlying t = some (.int .u16)) : Opens P t (fun d : U16 => [.v (.int .u16 d.val)]) := by
  intro H enc w held n cs x h
  obtain ⟨m, rfl, _, hw⟩ := DataW.trod_int ht h
  simp only [Lit.wf, decide_eq_true_eq, Bool.and_eq_true] at hw
  exact ⟨⟨m, hw⟩, dls_one (.v _)⟩
theorem opens_bool {t : TypeId} (ht : P.underlying t = some .bool) : Opens P t (fun d : Bool => [.v (.bool d)]) := by
  intro H enc w held n cs x h
  obtain ⟨m, rfl, _⟩ := DataW.trod_bool ht h
  exact ⟨m, dls_one (.v _)⟩

theorem flat_uni {α : Type} {f : α → List AV} {z : Nat} (hf : ∀ d, (f d).length = z) : ∀ (l : List α) (i k : Nat) (hi : i < l.length), k < z → (l.map f).flatten[i * z + k]? = (f l[i])[k]?
  | [], i, k, hi, _ => by simp at hi
  | d :: l, 0, k, _, hk => by
    rw [List.map_cons, List.flatten_cons, Nat.zero_mul, Nat.zero_add, List.getElem?_append_left (by rw [hf]; exact hk)]
    rfl
  | d :: l, i + 1, k, hi, hk => by
    rw [List.map_cons, List.flatten_cons, List.getElem?_append_right (by rw [hf, Nat.succ_mul]; omega), hf]
    rw [show (i + 1) * z + k - z = i * z + k by rw [Nat.succ_mul]; omega, flat_uni hf l i k (by simpa using hi) hk]
    rfl
theorem flat_unilen {α : Type} {f : α → List AV} {z : Nat} (hf : ∀ d, (f d).length = z) (l : List α) : (l.map f).flatten.length = l.length * z := by
  induction l with
  | nil => simp
  | cons d l ih => rw [List.map_cons, List.flatten_cons, List.length_append, ih, hf, List.length_cons, Nat.succ_mul]; omega

theorem opens_slice {α : Type} {f : α → List AV} {t e : TypeId} {z : Nat} (ht : P.underlying t = some (.slice e)) (hc : P.cellsOf e = z) (hz : 0 < z) (he : Opens P e f) (hf : ∀ d, (f d).length = z) :
    Opens P t (fun l : List α => [.sl l.length (l.map f).flatten]) := by
  intro H enc w held n cs x h
  rcases DataW.trod_slice ht h with ⟨rfl, _⟩ | ⟨a, len, cap, elems, rest, n, _, rfl, _, _, hl, hm, hlen, hel, hsp, _⟩
  · exact ⟨[], dls_one (.sl0 _ _)⟩
  · have get : ∀ i, i < cap → ∃ d cs', (∀ k, k < z → ∃ c, cs'[k]? = some c ∧ w.cell? ((a.add (i * z)).add k) = some c) ∧ DLs w (f d) cs' := by
      intro i hi
      have hb : ∃ y, (w.cells? 0 (a.add (i * P.cellsOf e)) (P.cellsOf e)).bind (DataW.trod enc P w 0 (fun _ => true) held n e) = some y := by
        by_cases h1 : i < len
        · exact ⟨elems[i]'(by omega), by rw [hel i h1, List.getElem?_eq_getElem (by omega)]⟩
        · obtain ⟨hr, hrr⟩ := hsp rfl
          have := hrr (i - len) (by omega)
          rw [show len + (i - len) = i by omega] at this
          exact ⟨rest[i - len]'(by omega), by rw [this, List.getElem?_eq_getElem (by omega)]⟩
      obtain ⟨y, hy⟩ := hb
      rw [hc, Option.bind_eq_some_iff] at hy
      obtain ⟨cs', hcs, hy'⟩ := hy
      obtain ⟨d, hd⟩ := he H enc w held _ _ _ hy'
      refine ⟨d, cs', fun k hk => ?_, hd⟩
      unfold World.cells? at hcs
      rw [if_pos (Nat.zero_le _)] at hcs
      have hk1 := mapM_some_length hcs
      rw [List.length_range] at hk1
      have := mapM_some_get hcs k k (by simp [hk])
      exact ⟨cs'[k]'(by omega), List.getElem?_eq_getElem (by omega), by rw [this, List.getElem?_eq_getElem (by omega)]⟩
    by_cases h0 : cap = 0
    · subst h0
      have : len = 0 := by omega
      subst this
      exact ⟨[], dls_one (.sl0 _ _)⟩
    · obtain ⟨d0, cs0, hc0, _⟩ := get 0 (by omega)
      obtain ⟨c0, _, hcc⟩ := hc0 0 hz
      have e00 : (a.add (0 * z)).add 0 = a := by simp [Addr.add]
      rw [e00] at hcc
      have hs : a.spot = none := World.cell?_spot hcc
      have hb : a.block < w.heap.size := cell_lt hcc
      have ad : ∀ i, a.add i = ⟨a.block, a.off + i, none⟩ := by
        intro i
        obtain ⟨ab, ao, asp⟩ := a
        simp only at hs
        subst hs
        simp only [Addr.add]
        split
        · rename_i hi; rw [hi]; rfl
        · rfl
      have ad2 : ∀ i k, (a.add i).add k = ⟨a.block, a.off + (i + k), none⟩ := by
        intro i k
        rw [ad i]
        simp only [Addr.add]
        split
        · rename_i hi; rw [hi]; simp
        · simp
      have pick : ∀ i, ∃ d : α, i < len → ∃ cs', (∀ k, k < z → ∃ c, cs'[k]? = some c ∧ w.cell? ⟨a.block, a.off + (i * z + k), none⟩ = some c) ∧ DLs w (f d) cs' := by
        intro i
        by_cases hi : i < len
        · obtain ⟨d, cs', h1, h2⟩ := get i (by omega)
          exact ⟨d, fun _ => ⟨cs', fun k hk => by obtain ⟨c, h3, h4⟩ := h1 k hk; exact ⟨c, h3, by rw [← ad2]; exact h4⟩, h2⟩⟩
        · exact ⟨d0, fun h => absurd h hi⟩
      let D : Nat → α := fun i => (pick i).choose
      have hD : ∀ i, i < len → ∃ cs', (∀ k, k < z → ∃ c, cs'[k]? = some c ∧ w.cell? ⟨a.block, a.off + (i * z + k), none⟩ = some c) ∧ DLs w (f (D i)) cs' := fun i => (pick i).choose_spec
      refine ⟨(List.range len).map D, dls_one ?_⟩
      have hlen2 : ((List.range len).map D).length = len := by simp
      have key : ∀ (j : Nat) (x : AV), (((List.range len).map D).map f).flatten[j]? = some x → ∃ c, w.cell? ⟨a.block, a.off + j, none⟩ = some c ∧ Den [] (In w) w x c := by
        intro j x hx
        have hj : j < len * z := by
          have h1 := (List.getElem?_eq_some_iff.1 hx).1
          rw [flat_unilen hf, hlen2] at h1
          exact h1
        have hdiv : j / z < len := Nat.div_lt_of_lt_mul (by rw [Nat.mul_comm]; exact hj)
        have hmod : j % z < z := Nat.mod_lt _ hz
        have hjj : j / z * z + j % z = j := by rw [Nat.mul_comm]; exact Nat.div_add_mod j z
        have h2 := flat_uni hf ((List.range len).map D) (j / z) (j % z) (by rw [hlen2]; exact hdiv) hmod
        rw [hjj] at h2
        rw [h2] at hx
        simp only [List.getElem_map, List.getElem_range] at hx
        obtain ⟨cs', h3, h4⟩ := hD (j / z) hdiv
        obtain ⟨c, h5, h6⟩ := h3 (j % z) hmod
        rw [hjj] at h6
        exact ⟨c, h6, h4.2 _ _ _ hx h5⟩
      have ha : a = ⟨a.block, a.off, none⟩ := by obtain ⟨ab, ao, asp⟩ := a; simp only at hs; subst hs; rfl
      rw [hlen2]
      refine Den.sl (I := In w) _ _ cap a (fun j => (w.cell? ⟨a.block, a.off + j, none⟩).getD undef) hl hm hs hb ?_ ?_
      · intro j x hx
        obtain ⟨c, h1, _⟩ := key j x hx
        rw [h1]; rfl
      · intro j x hx
        obtain ⟨c, h1, h2⟩ := key j x hx
        rw [h1]; exact h2

theorem dls_split {cs : List Value} {o z : Nat} {l l' : List AV} (h1 : DLs w l ((cs.drop o).take z)) (hz : l.length = z) (h2 : DLs w l' (cs.drop (o + z))) : DLs w (l ++ l') (cs.drop o) := by
  subst hz
  have e : cs.drop o = (cs.drop o).take l.length ++ cs.drop (o + l.length) := by rw [← List.drop_drop]; exact (List.take_append_drop _ _).symm
  have hl := h1.1
  refine ⟨by rw [e, List.length_append, List.length_append, h1.1, h2.1], fun j a v ha hv => ?_⟩
  rw [e] at hv
  rw [List.getElem?_append] at ha hv
  by_cases hj : j < l.length
  · rw [if_pos hj] at ha
    rw [if_pos (by rw [hl]; exact hj)] at hv
    exact h1.2 j a v ha hv
  · rw [if_neg hj] at ha
    rw [if_neg (by rw [hl]; exact hj), hl] at hv
    exact h2.2 _ a v ha hv
theorem dls_end {cs : List Value} {o : Nat} (h : cs.length = o) : DLs w [] (cs.drop o) := ⟨by rw [List.drop_of_length_le (by omega)]; rfl, fun j a v ha _ => by simp at ha⟩

theorem opens_array {α : Type} {f : α → List AV} {t e : TypeId} {z m : Nat} [Inhabited α] (ht : P.underlying t = some (.array m e)) (hc : P.cellsOf e = z) (hct : P.cellsOf t = m * z) (he : Opens P e f) (hf : ∀ d, (f d).length = z) :
    Opens P t (fun l : {l : List α // l.length = m} => (l.val.map f).flatten) := by
  intro H enc w held n cs x h
  obtain ⟨xs, k, _, rfl, hl, hlen, hg⟩ := DataW.trod_array ht h
  have pick : ∀ i, ∃ d : α, i < m → DLs w (f d) ((cs.drop (i * z)).take z) := by
    intro i
    by_cases hi : i < m
    · have h1 := hg i hi
      rw [hc, List.getElem?_eq_getElem (by omega)] at h1
      obtain ⟨d, hd⟩ := he H enc w held _ _ _ h1
      exact ⟨d, fun _ => hd⟩
    · exact ⟨default, fun h => absurd h hi⟩
  let D : Nat → α := fun i => (pick i).choose
  have hD : ∀ i, i < m → DLs w (f (D i)) ((cs.drop (i * z)).take z) := fun i => (pick i).choose_spec
  have key : ∀ k, k ≤ m → DLs w (((List.range m).drop (m - k)).map fun i => f (D i)).flatten (cs.drop ((m - k) * z)) := by
    intro k
    induction k with
    | zero =>
      intro _
      rw [Nat.sub_zero, List.drop_of_length_le (by simp)]
      exact dls_end (by rw [hl, hct])
    | succ k ih =>
      intro hk
      have e : (List.range m).drop (m - (k + 1)) = (m - (k + 1)) :: (List.range m).drop (m - k) := by
        rw [List.drop_eq_getElem_cons (by simp; omega)]
        simp only [List.getElem_range]
        congr 1
        congr 1
        omega
      rw [e, List.map_cons, List.flatten_cons]
      refine dls_split (z := z) (hD _ (by omega)) (hf _) ?_
      have := ih (by omega)
      rwa [show (m - (k + 1)) * z + z = (m - k) * z by rw [← Nat.succ_mul]; congr 1; omega]
  refine ⟨⟨(List.range m).map D, by simp⟩, ?_⟩
  have := key m (Nat.le_refl _)
  rw [Nat.sub_self, Nat.zero_mul, List.drop_zero, List.drop_zero] at this
  simpa [List.map_map, Function.comp_def] using this

/-- A struct or array that came in. -/
theorem open_agg {α : Type} {f : α → List AV} {t : TypeId} (h : Opens P t f) {H : Type} {enc : TypeId × Value → H} {cs : Array Value} {d : DataW H} {p : List MemPlace}
    (ht : DataW.Trod enc P w 0 (fun _ => true) true t (.agg cs) d p) : ∃ d : α, Den [] (In w) w (.agg (f d)) (.agg cs) := by
  obtain ⟨fuel, hf⟩ := ht
  obtain ⟨d, h1, h2⟩ := h _ _ _ _ _ _ _ hf
  have e : (Value.agg cs).cells.toList = cs.toList := rfl
  rw [e] at h1 h2
  exact ⟨d, .agg _ _ (by simpa using h1) fun j a v ha hv => h2 j a v ha (by simpa using hv)⟩
end
end Go.Am
end
