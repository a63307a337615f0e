/-
  Texts of RaceStays, part 14 of 16. Walks of chapters 52 and 53. The steps are written by program (walk.py).
-/
import Derived.Test.YtdicnojnkbmdlaaKRaceStays12
import Derived.Test.YtdicnojnkbmdlaaKRaceStays7
section
set_option linter.unusedSimpArgs false
set_option linter.unusedVariables false
set_option maxHeartbeats 40000000
set_option maxRecDepth 4000
namespace Go.Proofs.Ytdicnojnkbmdlaa
open Go Go.Am

abbrev lc_graphO_ok (a b c d e f g h i j k m n o p q r s t u v w x y z A B C D E F G H I J K : AV) : Env := [(0,a),(1,b),(2,c),(3,d),(6,e),(7,f),(8,g),(10,h),(11,i),(12,j),(13,k),(14,m),(15,n),(17,o),(18,p),(19,q),(20,r),(22,s),(23,t),(24,u),(25,v),(37,w),(53,x),(54,y),(55,z),(56,A),(60,B),(61,C),(62,D),(63,E),(69,F),(103,G),(104,H),(105,I),(106,J),(112,K)]
theorem graphO_ok (lim : Nat) (H : Heap) (P : List Int) (L : List Pr) (t goal : Int) (g : ROK P L) (t0 : 0 ≤ t) (t1 : t < P.length) (hg0 : ∀ k, k < P.length → 0 ≤ goal - gt P k) (hg1 : goal ≤ 2000) (b0 : Nat) (qP : hget H b0 = some (P.map AV.i)) :
    ACall sig lim 54 [.agg (raceO b0 P L), AV.i t, AV.i goal] H fun r H' => r = .tup [.agg (graphC (2 + ((pQ L t).length : Int) + (P.length : Int)) 0 1 (gE 2 (2 + ((pQ L t).length : Int)) (cQ L t (pQ L t)) (pQ L t) P t goal)), pairsA (othS L t)] ∧ H' = H := by
 have q0 : True := trivial
 have q6 : True := trivial
 have qx : True := trivial
 have qg : True := trivial
 have qp : True := trivial
 have hpa : True := trivial
 have g20 := g.n20
 have g2 := g.n2
 have gel := g.el
 have gpr := g.pr
 have WQ : PQ L t (pQ L t) := (pq_prog L t L.length).to
 have hql := pq_len WQ
 have hqr := pq_rng g WQ
 have lP0 := hget_lt qP
 refine ACall_pure (fa := fa54) rfl rfl rfl rfl ?_
 have tr : ∀ a0 a1 a2 : AV, env0 fa54.keep [a0, a1, a2] = [(0,a0),(1,a1),(2,a2),(3,.any),(6,.any),(7,.any),(8,.any),(10,.any),(11,.any),(12,.any),(13,.any),(14,.any),(15,.any),(17,.any),(18,.any),(19,.any),(20,.any),(22,.any),(23,.any),(24,.any),(25,.any),(37,.any),(53,.any),(54,.any),(55,.any),(56,.any),(60,.any),(61,.any),(62,.any),(63,.any),(69,.any),(103,.any),(104,.any),(105,.any),(106,.any),(112,.any)] := fun a0 a1 a2 => rfl
 refine W_to (tr _ _ _) ?_; clear tr
 refine at_seq rfl ?_
 refine rg rfl ?_
 refine A_box rfl (by simp (disch := first | omega | (simp only [List.length_map, List.length_append, List.length_set, List.length_cons, List.length_nil]; omega)) only [go_sem, ↓reduceIte, Nat.reduceEqDiff, reduceCtorEq] <;> rfl) ?_
 intro H1 n0
 have en0 := n0.len
 have qP := (n0.old _ (hget_lt qP)).trans qP
 have q0 := n0.new
 refine A_alloc rfl ?_
 intro H2 n1
 have en1 := n1.len
 have q0 := (n1.old _ (hget_lt q0)).trans q0
 have qP := (n1.old _ (hget_lt qP)).trans qP
 have q6 := n1.new
 refine Rq ?_
 have tr : ∀ a b c d e f g h i j k m n o p q r s t u v w x y z A B C D E F G H I J K L M N : AV, let l := lc_graphO_ok a b c d e f g h i j k m n o p q r s t u v w x y z A B C D E F G H I J K; trim ((7,N)::(6,M)::(3,L)::l) l = [(0,a),(1,b),(2,c),(3,L),(6,M),(7,N),(8,g),(10,h),(11,i),(12,j),(13,k),(14,m),(15,n),(17,o),(18,p),(19,q),(20,r),(22,s),(23,t),(24,u),(25,v),(37,w),(53,x),(54,y),(55,z),(56,A),(60,B),(61,C),(62,D),(63,E),(69,F),(103,G),(104,H),(105,I),(106,J),(112,K)] := by intros; rfl
 refine R_nil (tr ..) ?_; clear tr
 refine then_n ?_
 refine at_seq rfl ?_
 refine rg rfl ?_
 refine Rq ?_
 have tr : ∀ a b c d e f g h i j k m n o p q r s t u v w x y z A B C D E F G H I J K L : AV, let l := lc_graphO_ok a b c d e f g h i j k m n o p q r s t u v w x y z A B C D E F G H I J K; trim ((8,L)::l) l = [(0,a),(1,b),(2,c),(3,d),(6,e),(7,f),(8,L),(10,h),(11,i),(12,j),(13,k),(14,m),(15,n),(17,o),(18,p),(19,q),(20,r),(22,s),(23,t),(24,u),(25,v),(37,w),(53,x),(54,y),(55,z),(56,A),(60,B),(61,C),(62,D),(63,E),(69,F),(103,G),(104,H),(105,I),(106,J),(112,K)] := by intros; rfl
 refine R_nil (tr ..) ?_; clear tr
 refine then_n ?_
 refine at_seq rfl ?_
 refine at_seq rfl ?_
 refine rg rfl ?_
 refine Rq ?_
 refine R_q rfl (by simp (disch := first | omega | (simp only [List.length_map, List.length_append, List.length_set, List.length_cons, List.length_nil]; omega)) only [go_sem, ↓reduceIte, Nat.reduceEqDiff, reduceCtorEq, q0, q6, qx, qg, qp, hpa, qP] <;> rfl) ?_
 refine Rq ?_
 refine Rq ?_
 have tr : ∀ a b c d e f g h i j k m n o p q r s t u v w x y z A B C D E F G H I J K L M N O : AV, let l := lc_graphO_ok a b c d e f g h i j k m n o p q r s t u v w x y z A B C D E F G H I J K; trim ((24,O)::(23,N)::(22,M)::(21,L)::l) l = [(0,a),(1,b),(2,c),(3,d),(6,e),(7,f),(8,g),(10,h),(11,i),(12,j),(13,k),(14,m),(15,n),(17,o),(18,p),(19,q),(20,r),(22,M),(23,N),(24,O),(25,v),(37,w),(53,x),(54,y),(55,z),(56,A),(60,B),(61,C),(62,D),(63,E),(69,F),(103,G),(104,H),(105,I),(106,J),(112,K)] := by intros; rfl
 refine R_nil (tr ..) ?_; clear tr
 refine then_n ?_
 refine at_block rfl ?_
 refine loop_n rfl (fun mm kv H' => ∃ u : Nat, ∃ o : AV, ∃ x10 x25 x37 : AV, (kv = [(8, o), (10, x10), (24, AV.i u), (25, x25), (37, x37)]) ∧ (mm = L.length - u) ∧ (hget H' b0 = some (P.map AV.i)) ∧ (hget H' H.length = some (raceO b0 P L)) ∧ (hget H' H1.length = some [AV.i 0, AV.i 0, AV.i 0, nilP]) ∧ (H2.length ≤ H'.length) ∧ (u ≤ L.length) ∧ (OutP H2.length H' o (othN L t u))) ⟨0, _, _, _, _, rfl, rfl, by exact qP, by exact q0, by exact q6, by exact Nat.le_refl _, by omega, by exact .inl ⟨rfl, rfl⟩⟩ (by rfl) ?_
 rintro mm kv HB ⟨u, o, x10, x25, x37, rfl, rfl, qP, q0, q6, hHB, hu, hO⟩
 have tr : ∀ a b c d e f g h i j k m n o p q r s t u v w x y z A B C D E F G H I J K L M N O P : AV, upd [(0,a),(1,b),(2,c),(3,d),(6,e),(7,f),(8,g),(10,h),(11,i),(12,j),(13,k),(14,m),(15,n),(17,o),(18,p),(19,q),(20,r),(22,s),(23,t),(24,u),(25,v),(37,w),(53,x),(54,y),(55,z),(56,A),(60,B),(61,C),(62,D),(63,E),(69,F),(103,G),(104,H),(105,I),(106,J),(112,K)] [(8,L),(10,M),(24,N),(25,O),(37,P)] = [(0,a),(1,b),(2,c),(3,d),(6,e),(7,f),(8,L),(10,M),(11,i),(12,j),(13,k),(14,m),(15,n),(17,o),(18,p),(19,q),(20,r),(22,s),(23,t),(24,N),(25,O),(37,P),(53,x),(54,y),(55,z),(56,A),(60,B),(61,C),(62,D),(63,E),(69,F),(103,G),(104,H),(105,I),(106,J),(112,K)] := by intros; rfl
 refine W_to (tr ..) ?_; clear tr
 have hpl := oth_len L t u
 refine at_seq rfl ?_
 refine rg rfl ?_
 refine Rq ?_
 have tr : ∀ a b c d e f g h i j k m n o p q r s t u v w x y z A B C D E F G H I J K L : AV, let l := lc_graphO_ok a b c d e f g h i j k m n o p q r s t u v w x y z A B C D E F G H I J K; trim ((25,L)::l) l = [(0,a),(1,b),(2,c),(3,d),(6,e),(7,f),(8,g),(10,h),(11,i),(12,j),(13,k),(14,m),(15,n),(17,o),(18,p),(19,q),(20,r),(22,s),(23,t),(24,u),(25,L),(37,w),(53,x),(54,y),(55,z),(56,A),(60,B),(61,C),(62,D),(63,E),(69,F),(103,G),(104,H),(105,I),(106,J),(112,K)] := by intros; rfl
 refine R_nil (tr ..) ?_; clear tr
 refine then_n ?_
 refine at_seq rfl ?_
 refine cdd (fun h1 => ?_) (fun h1 => ?_)
 ·
  try simp only [decide_eq_true_eq, decide_eq_false_iff_not, Bool.not_eq_true', Bool.not_eq_false', beq_iff_eq, beq_eq_false_iff_ne, ne_eq] at h1
  refine at_skip rfl ?_
  refine then_n ?_
  refine at_seq rfl ?_
  refine at_block rfl ?_
  refine at_seq rfl ?_
  refine rg rfl ?_
  refine Rq ?_
  refine R_q rfl (by simp (disch := first | omega | (simp only [List.length_map, List.length_append, List.length_set, List.length_cons, List.length_nil]; omega)) only [go_sem, ↓reduceIte, Nat.reduceEqDiff, reduceCtorEq, q0, q6, qx, qg, qp, hpa, qP] <;> rfl) ?_
  have hO1 := hO
  refine A_alloc rfl ?_
  intro HC n4
  have en4 := n4.len
  have q0 := (n4.old _ (hget_lt q0)).trans q0
  have q6 := (n4.old _ (hget_lt q6)).trans q6
  have qP := (n4.old _ (hget_lt qP)).trans qP
  have qx := n4.new
  have lq0 := hget_lt q0
  have lq6 := hget_lt q6
  have lqx := hget_lt qx
  have lqP := hget_lt qP
  refine A_store ty58 (by simp (disch := first | omega | (simp only [List.length_map, List.length_append, List.length_set, List.length_cons, List.length_nil]; omega)) only [go_sem, ↓reduceIte, Nat.reduceEqDiff, reduceCtorEq, q0, q6, qx, qg, qp, hpa] <;> rfl) (by simp (disch := first | omega | (simp only [List.length_map, List.length_append, List.length_set, List.length_cons, List.length_nil]; omega)) only [go_sem, ↓reduceIte, Nat.reduceEqDiff, reduceCtorEq, q0, q6, qx, qg, qp, hpa] <;> rfl) qx ⟨by omega, rfl, by first | exact Nat.le_refl _ | simp⟩ (show _ = prC (gt L u) from rfl) ?_
  intro HD w4
  have ew4 := w4.len
  have q0 := (w4.old _ (by omega)).trans q0
  have q6 := (w4.old _ (by omega)).trans q6
  have qP := (w4.old _ (by omega)).trans qP
  have qx := w4.new
  have hO := hO1.mono fun b hb k hk => (w4.old _ (by have := hget_lt hk; omega)).trans ((n4.old _ (hget_lt hk)).trans hk)
  have tr : ∀ a b c d e f g h i j k m n o p q r s t u v w x y z A B C D E F G H I J K L M N : AV, let l := lc_graphO_ok a b c d e f g h i j k m n o p q r s t u v w x y z A B C D E F G H I J K; trim ((10,N)::(27,M)::(26,L)::l) l = [(0,a),(1,b),(2,c),(3,d),(6,e),(7,f),(8,g),(10,N),(11,i),(12,j),(13,k),(14,m),(15,n),(17,o),(18,p),(19,q),(20,r),(22,s),(23,t),(24,u),(25,v),(37,w),(53,x),(54,y),(55,z),(56,A),(60,B),(61,C),(62,D),(63,E),(69,F),(103,G),(104,H),(105,I),(106,J),(112,K)] := by intros; rfl
  refine R_nil (tr ..) ?_; clear tr
  refine then_n ?_
  refine at_seq rfl ?_
  refine rg rfl ?_
  refine Rq ?_
  refine R_q rfl (by simp (disch := first | omega | (simp only [List.length_map, List.length_append, List.length_set, List.length_cons, List.length_nil]; omega)) only [go_sem, ↓reduceIte, Nat.reduceEqDiff, reduceCtorEq, q0, q6, qx, qg, qp, hpa, qP] <;> rfl) ?_
  refine Rq ?_
  refine Rq ?_
  refine Rq ?_
  refine Rp_split (fun h2 => ?_) (fun h2 => ?_)
  ·
   try simp only [decide_eq_true_eq, decide_eq_false_iff_not, Bool.not_eq_true', Bool.not_eq_false', beq_iff_eq, beq_eq_false_iff_ne, ne_eq] at h2
   refine Ry ?_
   refine Rq ?_
   refine Ry ?_
   refine R_q rfl (by simp (disch := first | omega | (simp only [List.length_map, List.length_append, List.length_set, List.length_cons, List.length_nil]; omega)) only [go_sem, ↓reduceIte, Nat.reduceEqDiff, reduceCtorEq, q0, q6, qx, qg, qp, hpa, qP] <;> rfl) ?_
   refine Ry ?_
   refine Rq ?_
   refine Ry ?_
   refine Rq ?_
   refine Rq ?_
   have tr : ∀ a b c d e f g h i j k m n o p q r s t u v w x y z A B C D E F G H I J K L M N O P Q R S T U : AV, let l := lc_graphO_ok a b c d e f g h i j k m n o p q r s t u v w x y z A B C D E F G H I J K; trim ((37,U)::(36,T)::(35,S)::(34,R)::(33,Q)::(32,P)::(31,O)::(30,N)::(29,M)::(28,L)::l) l = [(0,a),(1,b),(2,c),(3,d),(6,e),(7,f),(8,g),(10,h),(11,i),(12,j),(13,k),(14,m),(15,n),(17,o),(18,p),(19,q),(20,r),(22,s),(23,t),(24,u),(25,v),(37,U),(53,x),(54,y),(55,z),(56,A),(60,B),(61,C),(62,D),(63,E),(69,F),(103,G),(104,H),(105,I),(106,J),(112,K)] := by intros; rfl
   refine R_nil (tr ..) ?_; clear tr
   refine then_n ?_
   refine cdd (fun h3 => ?_) (fun h3 => ?_)
   ·
    try simp only [decide_eq_true_eq, decide_eq_false_iff_not, Bool.not_eq_true', Bool.not_eq_false', beq_iff_eq, beq_eq_false_iff_ne, ne_eq] at h3
    refine rg rfl ?_
    refine Rq ?_
    refine R_q rfl (by simp (disch := first | omega | (simp only [List.length_map, List.length_append, List.length_set, List.length_cons, List.length_nil]; omega)) only [go_sem, ↓reduceIte, Nat.reduceEqDiff, reduceCtorEq, q0, q6, qx, qg, qp, hpa, qP] <;> rfl) ?_
    have hob := fun b hb => hO.lt (b := b) hb
    refine A_buildSlice (bs41 _ _ _ _ (gt L u) (by simp (disch := first | omega | (simp only [List.length_map, List.length_append, List.length_set, List.length_cons, List.length_nil]; omega)) only [go_sem, ↓reduceIte, Nat.reduceEqDiff, reduceCtorEq, q0, q6, qx, qg, qp, hpa])) ?_
    intro HE n5
    have en5 := n5.len
    have q0 := (n5.old _ (hget_lt q0)).trans q0
    have q6 := (n5.old _ (hget_lt q6)).trans q6
    have qx := (n5.old _ (hget_lt qx)).trans qx
    have qP := (n5.old _ (hget_lt qP)).trans qP
    have qn := n5.new
    have hO := hO.mono fun b hb k hk => (n5.old _ (hget_lt hk)).trans hk
    have lq0 := hget_lt q0
    have lq6 := hget_lt q6
    have lqP := hget_lt qP
    obtain ⟨b, hbl, hbl2, hap⟩ := outP_append (lim := H.length) hO hob qn (by omega) (by omega) (by omega)
    refine A_append (by simp (disch := first | omega | (simp only [List.length_map, List.length_append, List.length_set, List.length_cons, List.length_nil]; omega)) only [go_sem, ↓reduceIte, Nat.reduceEqDiff, reduceCtorEq, q0, q6, qx, qg, qp, hpa]; exact hap) ?_
    intro HF g5
    have eg5 := g5.len
    have q0 := (g5.old _ (by omega) lq0).trans q0
    have q6 := (g5.old _ (by omega) lq6).trans q6
    have qP := (g5.old _ (by omega) lqP).trans qP
    have qq := g5.new
    refine Rq ?_
    have tr : ∀ a b c d e f g h i j k m n o p q r s t u v w x y z A B C D E F G H I J K L M N O P : AV, let l := lc_graphO_ok a b c d e f g h i j k m n o p q r s t u v w x y z A B C D E F G H I J K; trim ((8,P)::(41,O)::(40,N)::(39,M)::(38,L)::l) l = [(0,a),(1,b),(2,c),(3,d),(6,e),(7,f),(8,P),(10,h),(11,i),(12,j),(13,k),(14,m),(15,n),(17,o),(18,p),(19,q),(20,r),(22,s),(23,t),(24,u),(25,v),(37,w),(53,x),(54,y),(55,z),(56,A),(60,B),(61,C),(62,D),(63,E),(69,F),(103,G),(104,H),(105,I),(106,J),(112,K)] := by intros; rfl
    refine R_nil (tr ..) ?_; clear tr
    refine blk_n ?_
    refine then_n ?_
    refine rg rfl ?_
    refine Rq ?_
    refine Rq ?_
    have tr : ∀ a b c d e f g h i j k m n o p q r s t u v w x y z A B C D E F G H I J K L M : AV, let l := lc_graphO_ok a b c d e f g h i j k m n o p q r s t u v w x y z A B C D E F G H I J K; trim ((24,M)::(42,L)::l) l = [(0,a),(1,b),(2,c),(3,d),(6,e),(7,f),(8,g),(10,h),(11,i),(12,j),(13,k),(14,m),(15,n),(17,o),(18,p),(19,q),(20,r),(22,s),(23,t),(24,M),(25,v),(37,w),(53,x),(54,y),(55,z),(56,A),(60,B),(61,C),(62,D),(63,E),(69,F),(103,G),(104,H),(105,I),(106,J),(112,K)] := by intros; rfl
    refine R_nil (tr ..) ?_; clear tr
    refine then_n ?_
    exact ⟨_, _, ⟨u + 1, (.own 2 HE.length 0 ((othN L t u).length + 1)), _, _, _, rfl, rfl, by exact qP, by exact q0, by exact q6, by first | (show H2.length ≤ HF.length; omega) | (show H2.length ≤ HD.length; omega), by omega, by first | exact oth_new g5 (by omega) (by omega) rfl | exact oth_old hO (by omega)⟩, by rfl, by omega⟩
   ·
    try simp only [decide_eq_true_eq, decide_eq_false_iff_not, Bool.not_eq_true', Bool.not_eq_false', beq_iff_eq, beq_eq_false_iff_ne, ne_eq] at h3
    refine at_skip rfl ?_
    refine blk_n ?_
    refine then_n ?_
    refine rg rfl ?_
    refine Rq ?_
    refine Rq ?_
    have tr : ∀ a b c d e f g h i j k m n o p q r s t u v w x y z A B C D E F G H I J K L M : AV, let l := lc_graphO_ok a b c d e f g h i j k m n o p q r s t u v w x y z A B C D E F G H I J K; trim ((24,M)::(42,L)::l) l = [(0,a),(1,b),(2,c),(3,d),(6,e),(7,f),(8,g),(10,h),(11,i),(12,j),(13,k),(14,m),(15,n),(17,o),(18,p),(19,q),(20,r),(22,s),(23,t),(24,M),(25,v),(37,w),(53,x),(54,y),(55,z),(56,A),(60,B),(61,C),(62,D),(63,E),(69,F),(103,G),(104,H),(105,I),(106,J),(112,K)] := by intros; rfl
    refine R_nil (tr ..) ?_; clear tr
    refine then_n ?_
    exact ⟨_, _, ⟨u + 1, o, _, _, _, rfl, rfl, by exact qP, by exact q0, by exact q6, by first | (show H2.length ≤ HF.length; omega) | (show H2.length ≤ HD.length; omega), by omega, by first | exact oth_new g5 (by omega) (by omega) rfl | exact oth_old hO (by omega)⟩, by rfl, by omega⟩
  ·
   try simp only [decide_eq_true_eq, decide_eq_false_iff_not, Bool.not_eq_true', Bool.not_eq_false', beq_iff_eq, beq_eq_false_iff_ne, ne_eq] at h2
   refine Rn ?_
   refine Rn ?_
   refine Rn ?_
   refine Rn ?_
   refine Rq ?_
   have tr : ∀ a b c d e f g h i j k m n o p q r s t u v w x y z A B C D E F G H I J K L M N O P Q R S T U : AV, let l := lc_graphO_ok a b c d e f g h i j k m n o p q r s t u v w x y z A B C D E F G H I J K; trim ((37,U)::(36,T)::(35,S)::(34,R)::(33,Q)::(32,P)::(31,O)::(30,N)::(29,M)::(28,L)::l) l = [(0,a),(1,b),(2,c),(3,d),(6,e),(7,f),(8,g),(10,h),(11,i),(12,j),(13,k),(14,m),(15,n),(17,o),(18,p),(19,q),(20,r),(22,s),(23,t),(24,u),(25,v),(37,U),(53,x),(54,y),(55,z),(56,A),(60,B),(61,C),(62,D),(63,E),(69,F),(103,G),(104,H),(105,I),(106,J),(112,K)] := by intros; rfl
   refine R_nil (tr ..) ?_; clear tr
   refine then_n ?_
   refine cdf ?_
   refine at_skip rfl ?_
   refine blk_n ?_
   refine then_n ?_
   refine rg rfl ?_
   refine Rq ?_
   refine Rq ?_
   have tr : ∀ a b c d e f g h i j k m n o p q r s t u v w x y z A B C D E F G H I J K L M : AV, let l := lc_graphO_ok a b c d e f g h i j k m n o p q r s t u v w x y z A B C D E F G H I J K; trim ((24,M)::(42,L)::l) l = [(0,a),(1,b),(2,c),(3,d),(6,e),(7,f),(8,g),(10,h),(11,i),(12,j),(13,k),(14,m),(15,n),(17,o),(18,p),(19,q),(20,r),(22,s),(23,t),(24,M),(25,v),(37,w),(53,x),(54,y),(55,z),(56,A),(60,B),(61,C),(62,D),(63,E),(69,F),(103,G),(104,H),(105,I),(106,J),(112,K)] := by intros; rfl
   refine R_nil (tr ..) ?_; clear tr
   refine then_n ?_
   exact ⟨_, _, ⟨u + 1, o, _, _, _, rfl, rfl, by exact qP, by exact q0, by exact q6, by first | (show H2.length ≤ HF.length; omega) | (show H2.length ≤ HD.length; omega), by omega, by first | exact oth_new g5 (by omega) (by omega) rfl | exact oth_old hO (by omega)⟩, by rfl, by omega⟩
 ·
  try simp only [decide_eq_true_eq, decide_eq_false_iff_not, Bool.not_eq_true', Bool.not_eq_false', beq_iff_eq, beq_eq_false_iff_ne, ne_eq] at h1
  refine at_exit rfl ?_
  refine then_x ?_
  refine then_x ?_
  refine blk_x ?_
  refine then_n ?_
  refine at_seq rfl ?_
  refine rg rfl ?_
  obtain rfl : u = L.length := by omega
  have hol := oth_len L t L.length
  have hql2 : (pairsN (othN L t L.length) (othN L t L.length).length).length ≤ 40 := Nat.le_trans hql gpr
  have hqe : (pairsN (othN L t L.length) (othN L t L.length).length).length = (pQ L t).length := rfl
  have hoe : (othN L t L.length).length = (othS L t).length := rfl
  refine Rq ?_
  refine Rcall ?_
  refine ACall_eq (pairs_any _ H2.length _ o _ hO (by omega)) ?_
  refine Rq ?_
  have tr : ∀ a b c d e f g h i j k m n o p q r s t u v w x y z A B C D E F G H I J K L M N : AV, let l := lc_graphO_ok a b c d e f g h i j k m n o p q r s t u v w x y z A B C D E F G H I J K; trim ((11,N)::(44,M)::(43,L)::l) l = [(0,a),(1,b),(2,c),(3,d),(6,e),(7,f),(8,g),(10,h),(11,N),(12,j),(13,k),(14,m),(15,n),(17,o),(18,p),(19,q),(20,r),(22,s),(23,t),(24,u),(25,v),(37,w),(53,x),(54,y),(55,z),(56,A),(60,B),(61,C),(62,D),(63,E),(69,F),(103,G),(104,H),(105,I),(106,J),(112,K)] := by intros; rfl
  refine R_nil (tr ..) ?_; clear tr
  refine then_n ?_
  refine at_seq rfl ?_
  refine rg rfl ?_
  refine Rq ?_
  refine R_q rfl (by simp (disch := first | omega | (simp only [List.length_map, List.length_append, List.length_set, List.length_cons, List.length_nil]; omega)) only [go_sem, ↓reduceIte, Nat.reduceEqDiff, reduceCtorEq, q0, q6, qx, qg, qp, hpa]; exact pairsA_len _) ?_
  refine Rq ?_
  refine Rq ?_
  refine R_q rfl (by simp (disch := first | omega | (simp only [List.length_map, List.length_append, List.length_set, List.length_cons, List.length_nil]; omega)) only [go_sem, ↓reduceIte, Nat.reduceEqDiff, reduceCtorEq, q0, q6, qx, qg, qp, hpa, qP] <;> rfl) ?_
  refine Rq ?_
  refine Rq ?_
  refine Rq ?_
  have hA : AtP HB.length HB o (othS L t) := AtP.of hO (Nat.le_refl _)
  refine A_alloc rfl ?_
  intro HG n6
  have en6 := n6.len
  have q0 := (n6.old _ (hget_lt q0)).trans q0
  have q6 := (n6.old _ (hget_lt q6)).trans q6
  have qP := (n6.old _ (hget_lt qP)).trans qP
  have qg := n6.new
  have lq0 := hget_lt q0
  have lq6 := hget_lt q6
  have lqg := hget_lt qg
  have lqP := hget_lt qP
  refine A_store ty24 (by simp (disch := first | omega | (simp only [List.length_map, List.length_append, List.length_set, List.length_cons, List.length_nil]; omega)) only [go_sem, ↓reduceIte, Nat.reduceEqDiff, reduceCtorEq, q0, q6, qx, qg, qp, hpa] <;> rfl) (by simp (disch := first | omega | (simp only [List.length_map, List.length_append, List.length_set, List.length_cons, List.length_nil]; omega)) only [go_sem, ↓reduceIte, Nat.reduceEqDiff, reduceCtorEq, q0, q6, qx, qg, qp, hpa] <;> rfl) qg ⟨by omega, rfl, by first | exact Nat.le_refl _ | simp⟩ (show _ = [AV.i (2 + ((pQ L t).length : Int) + (P.length : Int)), AV.i 0, AV.i 1, nilP] from rfl) ?_
  intro HI w6
  have ew6 := w6.len
  have q0 := (w6.old _ (by omega)).trans q0
  have q6 := (w6.old _ (by omega)).trans q6
  have qP := (w6.old _ (by omega)).trans qP
  have qg := w6.new
  have hA : AtP HB.length HI o (othS L t) := (hA.mono fun b hb k hk => (n6.old _ (hget_lt hk)).trans hk).mono fun b hb k hk => (w6.old _ (by omega)).trans hk
  have tr : ∀ a b c d e f g h i j k m n o p q r s t u v w x y z A B C D E F G H I J K L M N O P Q R S T : AV, let l := lc_graphO_ok a b c d e f g h i j k m n o p q r s t u v w x y z A B C D E F G H I J K; trim ((12,T)::(52,S)::(51,R)::(50,Q)::(49,P)::(48,O)::(47,N)::(46,M)::(45,L)::l) l = [(0,a),(1,b),(2,c),(3,d),(6,e),(7,f),(8,g),(10,h),(11,i),(12,T),(13,k),(14,m),(15,n),(17,o),(18,p),(19,q),(20,r),(22,s),(23,t),(24,u),(25,v),(37,w),(53,x),(54,y),(55,z),(56,A),(60,B),(61,C),(62,D),(63,E),(69,F),(103,G),(104,H),(105,I),(106,J),(112,K)] := by intros; rfl
  refine R_nil (tr ..) ?_; clear tr
  refine then_n ?_
  refine at_seq rfl ?_
  refine at_seq rfl ?_
  refine rg rfl ?_
  refine Rq ?_
  refine R_q rfl (by simp (disch := first | omega | (simp only [List.length_map, List.length_append, List.length_set, List.length_cons, List.length_nil]; omega)) only [go_sem, ↓reduceIte, Nat.reduceEqDiff, reduceCtorEq, q0, q6, qx, qg, qp, hpa]; exact pairsA_len _) ?_
  refine Rq ?_
  have tr : ∀ a b c d e f g h i j k m n o p q r s t u v w x y z A B C D E F G H I J K L M N : AV, let l := lc_graphO_ok a b c d e f g h i j k m n o p q r s t u v w x y z A B C D E F G H I J K; trim ((55,N)::(54,M)::(53,L)::l) l = [(0,a),(1,b),(2,c),(3,d),(6,e),(7,f),(8,g),(10,h),(11,i),(12,j),(13,k),(14,m),(15,n),(17,o),(18,p),(19,q),(20,r),(22,s),(23,t),(24,u),(25,v),(37,w),(53,L),(54,M),(55,N),(56,A),(60,B),(61,C),(62,D),(63,E),(69,F),(103,G),(104,H),(105,I),(106,J),(112,K)] := by intros; rfl
  refine R_nil (tr ..) ?_; clear tr
  refine then_n ?_
  refine at_block rfl ?_
  refine loop_n rfl (fun mm kv H' => ∃ i : Nat, ∃ oE : AV, ∃ x13 x14 x15 x17 x18 x56 x60 x61 x62 x63 x69 : AV, (kv = [(13, x13), (14, x14), (15, x15), (17, x17), (18, x18), (55, AV.i i), (56, x56), (60, x60), (61, x61), (62, x62), (63, x63), (69, x69)]) ∧ (mm = (pQ L t).length - i) ∧ (hget H' b0 = some (P.map AV.i)) ∧ (hget H' H.length = some (raceO b0 P L)) ∧ (hget H' H1.length = some [AV.i 0, AV.i 0, AV.i 0, nilP]) ∧ (hget H' HB.length = some [AV.i (2 + ((pQ L t).length : Int) + (P.length : Int)), AV.i 0, AV.i 1, oE]) ∧ (HI.length ≤ H'.length) ∧ (AtP HB.length H' o (othS L t)) ∧ (i ≤ (pQ L t).length) ∧ (OutE HI.length H' oE (gEa 2 (2 + ((pQ L t).length : Int)) (cQ L t (pQ L t)) (pQ L t) i))) ⟨0, nilP, _, _, _, _, _, _, _, _, _, _, _, rfl, rfl, by exact qP, by exact q0, by exact q6, by exact qg, by exact Nat.le_refl _, by exact hA, by omega, by exact .inl ⟨rfl, rfl⟩⟩ (by rfl) ?_
  rintro mm kv HN ⟨i, oE, x13, x14, x15, x17, x18, x56, x60, x61, x62, x63, x69, rfl, rfl, qP, q0, q6, qg, hHI, hA, hi, hE⟩
  have tr : ∀ a b c d e f g h i j k m n o p q r s t u v w x y z A B C D E F G H I J K L M N O P Q R S T U V W : AV, upd [(0,a),(1,b),(2,c),(3,d),(6,e),(7,f),(8,g),(10,h),(11,i),(12,j),(13,k),(14,m),(15,n),(17,o),(18,p),(19,q),(20,r),(22,s),(23,t),(24,u),(25,v),(37,w),(53,x),(54,y),(55,z),(56,A),(60,B),(61,C),(62,D),(63,E),(69,F),(103,G),(104,H),(105,I),(106,J),(112,K)] [(13,L),(14,M),(15,N),(17,O),(18,P),(55,Q),(56,R),(60,S),(61,T),(62,U),(63,V),(69,W)] = [(0,a),(1,b),(2,c),(3,d),(6,e),(7,f),(8,g),(10,h),(11,i),(12,j),(13,L),(14,M),(15,N),(17,O),(18,P),(19,q),(20,r),(22,s),(23,t),(24,u),(25,v),(37,w),(53,x),(54,y),(55,Q),(56,R),(60,S),(61,T),(62,U),(63,V),(69,W),(103,G),(104,H),(105,I),(106,J),(112,K)] := by intros; rfl
  refine W_to (tr ..) ?_; clear tr
  refine at_seq rfl ?_
  refine rg rfl ?_
  refine Rq ?_
  have tr : ∀ a b c d e f g h i j k m n o p q r s t u v w x y z A B C D E F G H I J K L : AV, let l := lc_graphO_ok a b c d e f g h i j k m n o p q r s t u v w x y z A B C D E F G H I J K; trim ((56,L)::l) l = [(0,a),(1,b),(2,c),(3,d),(6,e),(7,f),(8,g),(10,h),(11,i),(12,j),(13,k),(14,m),(15,n),(17,o),(18,p),(19,q),(20,r),(22,s),(23,t),(24,u),(25,v),(37,w),(53,x),(54,y),(55,z),(56,L),(60,B),(61,C),(62,D),(63,E),(69,F),(103,G),(104,H),(105,I),(106,J),(112,K)] := by intros; rfl
  refine R_nil (tr ..) ?_; clear tr
  refine then_n ?_
  refine at_seq rfl ?_
  refine cdd (fun h4 => ?_) (fun h4 => ?_)
  ·
   try simp only [decide_eq_true_eq, decide_eq_false_iff_not, Bool.not_eq_true', Bool.not_eq_false', beq_iff_eq, beq_eq_false_iff_ne, ne_eq] at h4
   refine at_skip rfl ?_
   refine then_n ?_
   refine at_seq rfl ?_
   refine at_block rfl ?_
   refine at_seq rfl ?_
   refine rg rfl ?_
   have hpa : pairsA (othS L t) = prsAV (pQ L t) := pairsA_at (show 0 < (pQ L t).length by omega)
   have hqi := hqr i (by omega)
   have hA1 := trivial
   have hE1 := hE
   refine Rq ?_
   refine R_q rfl (by simp (disch := first | omega | (simp only [List.length_map, List.length_append, List.length_set, List.length_cons, List.length_nil]; omega)) only [go_sem, ↓reduceIte, Nat.reduceEqDiff, reduceCtorEq, hpa] <;> rfl) ?_
   refine R_q rfl (by simp (disch := first | omega | (simp only [List.length_map, List.length_append, List.length_set, List.length_cons, List.length_nil]; omega)) only [go_sem, ↓reduceIte, Nat.reduceEqDiff, reduceCtorEq, q0, q6, qx, qg, qp, hpa, qP] <;> rfl) ?_
   refine A_alloc rfl ?_
   intro HJ n7
   have en7 := n7.len
   have q0 := (n7.old _ (hget_lt q0)).trans q0
   have q6 := (n7.old _ (hget_lt q6)).trans q6
   have qg := (n7.old _ (hget_lt qg)).trans qg
   have qP := (n7.old _ (hget_lt qP)).trans qP
   have qp := n7.new
   have hA := hA.mono fun b hb k hk => (n7.old _ (hget_lt hk)).trans hk
   have hE := hE.mono fun b hb k hk => (n7.old _ (hget_lt hk)).trans hk
   refine Rq ?_
   have hE2 := hE1.mono fun b hb k hk => (n7.old _ (hget_lt hk)).trans hk
   have lq0 := hget_lt q0
   have lq6 := hget_lt q6
   have lqg := hget_lt qg
   have lqp := hget_lt qp
   have lqP := hget_lt qP
   refine A_store ty58 (by simp (disch := first | omega | (simp only [List.length_map, List.length_append, List.length_set, List.length_cons, List.length_nil]; omega)) only [go_sem, ↓reduceIte, Nat.reduceEqDiff, reduceCtorEq, q0, q6, qx, qg, qp, hpa] <;> rfl) (by simp (disch := first | omega | (simp only [List.length_map, List.length_append, List.length_set, List.length_cons, List.length_nil]; omega)) only [go_sem, ↓reduceIte, Nat.reduceEqDiff, reduceCtorEq, q0, q6, qx, qg, qp, hpa] <;> rfl) qp ⟨by omega, rfl, by first | exact Nat.le_refl _ | simp⟩ (show _ = prC (gt (pQ L t) i) from rfl) ?_
   intro HK w7
   have ew7 := w7.len
   have q0 := (w7.old _ (by omega)).trans q0
   have q6 := (w7.old _ (by omega)).trans q6
   have qg := (w7.old _ (by omega)).trans qg
   have qP := (w7.old _ (by omega)).trans qP
   have qp := w7.new
   have hA := hA.mono fun b hb k hk => (w7.old _ (by omega)).trans hk
   have hE := hE1.mono fun b hb k hk => (w7.old _ (by have := hget_lt hk; omega)).trans ((n7.old _ (hget_lt hk)).trans hk)
   have tr : ∀ a b c d e f g h i j k m n o p q r s t u v w x y z A B C D E F G H I J K L M N O P : AV, let l := lc_graphO_ok a b c d e f g h i j k m n o p q r s t u v w x y z A B C D E F G H I J K; trim ((13,P)::(14,O)::(59,N)::(58,M)::(57,L)::l) l = [(0,a),(1,b),(2,c),(3,d),(6,e),(7,f),(8,g),(10,h),(11,i),(12,j),(13,P),(14,O),(15,n),(17,o),(18,p),(19,q),(20,r),(22,s),(23,t),(24,u),(25,v),(37,w),(53,x),(54,y),(55,z),(56,A),(60,B),(61,C),(62,D),(63,E),(69,F),(103,G),(104,H),(105,I),(106,J),(112,K)] := by intros; rfl
   refine R_nil (tr ..) ?_; clear tr
   refine then_n ?_
   refine at_seq rfl ?_
   refine rg rfl ?_
   refine Rq ?_
   have tr : ∀ a b c d e f g h i j k m n o p q r s t u v w x y z A B C D E F G H I J K L : AV, let l := lc_graphO_ok a b c d e f g h i j k m n o p q r s t u v w x y z A B C D E F G H I J K; trim ((15,L)::l) l = [(0,a),(1,b),(2,c),(3,d),(6,e),(7,f),(8,g),(10,h),(11,i),(12,j),(13,k),(14,m),(15,L),(17,o),(18,p),(19,q),(20,r),(22,s),(23,t),(24,u),(25,v),(37,w),(53,x),(54,y),(55,z),(56,A),(60,B),(61,C),(62,D),(63,E),(69,F),(103,G),(104,H),(105,I),(106,J),(112,K)] := by intros; rfl
   refine R_nil (tr ..) ?_; clear tr
   refine then_n ?_
   refine at_seq rfl ?_
   refine at_seq rfl ?_
   refine rg rfl ?_
   refine Rq ?_
   refine R_q rfl (by simp (disch := first | omega | (simp only [List.length_map, List.length_append, List.length_set, List.length_cons, List.length_nil]; omega)) only [go_sem, ↓reduceIte, Nat.reduceEqDiff, reduceCtorEq, q0, q6, qx, qg, qp, hpa]; exact hA.len) ?_
   refine Rq ?_
   have tr : ∀ a b c d e f g h i j k m n o p q r s t u v w x y z A B C D E F G H I J K L M N : AV, let l := lc_graphO_ok a b c d e f g h i j k m n o p q r s t u v w x y z A B C D E F G H I J K; trim ((62,N)::(61,M)::(60,L)::l) l = [(0,a),(1,b),(2,c),(3,d),(6,e),(7,f),(8,g),(10,h),(11,i),(12,j),(13,k),(14,m),(15,n),(17,o),(18,p),(19,q),(20,r),(22,s),(23,t),(24,u),(25,v),(37,w),(53,x),(54,y),(55,z),(56,A),(60,L),(61,M),(62,N),(63,E),(69,F),(103,G),(104,H),(105,I),(106,J),(112,K)] := by intros; rfl
   refine R_nil (tr ..) ?_; clear tr
   refine then_n ?_
   refine at_block rfl ?_
   refine loop_n rfl (fun mm kv H' => ∃ w : Nat, ∃ c : Int, ∃ x17 x63 x69 : AV, (kv = [(15, AV.i c), (17, x17), (62, AV.i w), (63, x63), (69, x69)]) ∧ (mm = (othS L t).length - w) ∧ (hget H' b0 = some (P.map AV.i)) ∧ (hget H' H.length = some (raceO b0 P L)) ∧ (hget H' H1.length = some [AV.i 0, AV.i 0, AV.i 0, nilP]) ∧ (hget H' HB.length = some [AV.i (2 + ((pQ L t).length : Int) + (P.length : Int)), AV.i 0, AV.i 1, oE]) ∧ (HI.length ≤ H'.length) ∧ (AtP HB.length H' o (othS L t)) ∧ (hget H' HN.length = some (prC (gt (pQ L t) i))) ∧ (OutE HI.length H' oE (gEa 2 (2 + ((pQ L t).length : Int)) (cQ L t (pQ L t)) (pQ L t) i)) ∧ (HN.length < H'.length) ∧ (w ≤ (othS L t).length) ∧ (c = cntN (othS L t) (gt (pQ L t) i) w)) ⟨0, 0, _, _, _, rfl, rfl, by exact qP, by exact q0, by exact q6, by exact qg, by (show HI.length ≤ HK.length; omega), by exact hA, by exact qp, by exact hE, by omega, by omega, by rfl⟩ (by rfl) ?_
   rintro mm kv HX ⟨w, c, x17, x63, x69, rfl, rfl, qP, q0, q6, qg, hHI, hA, qp, hE, hHN, hww, hcc⟩
   have tr : ∀ a b c d e f g h i j k m n o p q r s t u v w x y z A B C D E F G H I J K L M N O P : AV, upd [(0,a),(1,b),(2,c),(3,d),(6,e),(7,f),(8,g),(10,h),(11,i),(12,j),(13,k),(14,m),(15,n),(17,o),(18,p),(19,q),(20,r),(22,s),(23,t),(24,u),(25,v),(37,w),(53,x),(54,y),(55,z),(56,A),(60,B),(61,C),(62,D),(63,E),(69,F),(103,G),(104,H),(105,I),(106,J),(112,K)] [(15,L),(17,M),(62,N),(63,O),(69,P)] = [(0,a),(1,b),(2,c),(3,d),(6,e),(7,f),(8,g),(10,h),(11,i),(12,j),(13,k),(14,m),(15,L),(17,M),(18,p),(19,q),(20,r),(22,s),(23,t),(24,u),(25,v),(37,w),(53,x),(54,y),(55,z),(56,A),(60,B),(61,C),(62,N),(63,O),(69,P),(103,G),(104,H),(105,I),(106,J),(112,K)] := by intros; rfl
   refine W_to (tr ..) ?_; clear tr
   have hcr := cnt_rng (othS L t) (gt (pQ L t) i) w
   have hww : w ≤ (othS L t).length := hww
   refine at_seq rfl ?_
   refine rg rfl ?_
   refine Rq ?_
   have tr : ∀ a b c d e f g h i j k m n o p q r s t u v w x y z A B C D E F G H I J K L : AV, let l := lc_graphO_ok a b c d e f g h i j k m n o p q r s t u v w x y z A B C D E F G H I J K; trim ((63,L)::l) l = [(0,a),(1,b),(2,c),(3,d),(6,e),(7,f),(8,g),(10,h),(11,i),(12,j),(13,k),(14,m),(15,n),(17,o),(18,p),(19,q),(20,r),(22,s),(23,t),(24,u),(25,v),(37,w),(53,x),(54,y),(55,z),(56,A),(60,B),(61,C),(62,D),(63,L),(69,F),(103,G),(104,H),(105,I),(106,J),(112,K)] := by intros; rfl
   refine R_nil (tr ..) ?_; clear tr
   refine then_n ?_
   refine at_seq rfl ?_
   refine cdd (fun h5 => ?_) (fun h5 => ?_)
   ·
    try simp only [decide_eq_true_eq, decide_eq_false_iff_not, Bool.not_eq_true', Bool.not_eq_false', beq_iff_eq, beq_eq_false_iff_ne, ne_eq] at h5
    refine at_skip rfl ?_
    refine then_n ?_
    refine at_seq rfl ?_
    refine at_block rfl ?_
    refine at_seq rfl ?_
    refine rg rfl ?_
    obtain ⟨hO0, bO, rfl, hbO, qO⟩ := hA.resolve_left (fun hh => by have h7 := congrArg List.length hh.1; simp only [List.length_nil] at h7; omega)
    have lqO := hget_lt qO
    have hE1 := hE
    refine Rq ?_
    refine R_q rfl (by simp (disch := first | omega | (simp only [List.length_map, List.length_append, List.length_set, List.length_cons, List.length_nil]; omega)) only [go_sem, ↓reduceIte, Nat.reduceEqDiff, reduceCtorEq, q0, q6, qx, qg, qp, hpa, qO] <;> rfl) ?_
    refine A_alloc rfl ?_
    intro HL n8
    have en8 := n8.len
    have q0 := (n8.old _ (hget_lt q0)).trans q0
    have q6 := (n8.old _ (hget_lt q6)).trans q6
    have qg := (n8.old _ (hget_lt qg)).trans qg
    have qp := (n8.old _ (hget_lt qp)).trans qp
    have qO := (n8.old _ (hget_lt qO)).trans qO
    have qP := (n8.old _ (hget_lt qP)).trans qP
    have qx := n8.new
    have lq0 := hget_lt q0
    have lq6 := hget_lt q6
    have lqg := hget_lt qg
    have lqp := hget_lt qp
    have lqx := hget_lt qx
    have lqP := hget_lt qP
    refine A_store ty58 (by simp (disch := first | omega | (simp only [List.length_map, List.length_append, List.length_set, List.length_cons, List.length_nil]; omega)) only [go_sem, ↓reduceIte, Nat.reduceEqDiff, reduceCtorEq, q0, q6, qx, qg, qp, hpa, qO] <;> rfl) (by simp (disch := first | omega | (simp only [List.length_map, List.length_append, List.length_set, List.length_cons, List.length_nil]; omega)) only [go_sem, ↓reduceIte, Nat.reduceEqDiff, reduceCtorEq, q0, q6, qx, qg, qp, hpa, qO] <;> rfl) qx ⟨by omega, rfl, by first | exact Nat.le_refl _ | simp⟩ (show _ = prC (gt (othS L t) w) from rfl) ?_
    intro HM w8
    have ew8 := w8.len
    have q0 := (w8.old _ (by omega)).trans q0
    have q6 := (w8.old _ (by omega)).trans q6
    have qg := (w8.old _ (by omega)).trans qg
    have qp := (w8.old _ (by omega)).trans qp
    have qO := (w8.old _ (by omega)).trans qO
    have qP := (w8.old _ (by omega)).trans qP
    have qx := w8.new
    have hE := hE1.mono fun b hb k hk => (w8.old _ (by have := hget_lt hk; omega)).trans ((n8.old _ (hget_lt hk)).trans hk)
    have tr : ∀ a b c d e f g h i j k m n o p q r s t u v w x y z A B C D E F G H I J K L M N : AV, let l := lc_graphO_ok a b c d e f g h i j k m n o p q r s t u v w x y z A B C D E F G H I J K; trim ((17,N)::(65,M)::(64,L)::l) l = [(0,a),(1,b),(2,c),(3,d),(6,e),(7,f),(8,g),(10,h),(11,i),(12,j),(13,k),(14,m),(15,n),(17,N),(18,p),(19,q),(20,r),(22,s),(23,t),(24,u),(25,v),(37,w),(53,x),(54,y),(55,z),(56,A),(60,B),(61,C),(62,D),(63,E),(69,F),(103,G),(104,H),(105,I),(106,J),(112,K)] := by intros; rfl
    refine R_nil (tr ..) ?_; clear tr
    refine then_n ?_
    refine at_seq rfl ?_
    refine rl rfl rfl ?_
    refine L_q rfl (by simp (disch := first | omega | (simp only [List.length_map, List.length_append, List.length_set, List.length_cons, List.length_nil]; omega)) only [go_sem, ↓reduceIte, Nat.reduceEqDiff, reduceCtorEq, q0, q6, qx, qg, qp, hpa, qP] <;> rfl) rfl ?_
    refine L_q rfl (by simp (disch := first | omega | (simp only [List.length_map, List.length_append, List.length_set, List.length_cons, List.length_nil]; omega)) only [go_sem, ↓reduceIte, Nat.reduceEqDiff, reduceCtorEq, q0, q6, qx, qg, qp, hpa, qP] <;> rfl) rfl ?_
    refine L_nil ?_
    refine Ms ?_
    refine Rcall ?_
    refine ACall_eq (pair_ok _ _ _) ?_
    refine R_end ?_
    refine M_nil ?_
    refine Rq ?_
    have tr : ∀ a b c d e f g h i j k m n o p q r s t u v w x y z A B C D E F G H I J K L M N O : AV, let l := lc_graphO_ok a b c d e f g h i j k m n o p q r s t u v w x y z A B C D E F G H I J K; trim ((69,O)::(67,N)::(68,M)::(66,L)::l) l = [(0,a),(1,b),(2,c),(3,d),(6,e),(7,f),(8,g),(10,h),(11,i),(12,j),(13,k),(14,m),(15,n),(17,o),(18,p),(19,q),(20,r),(22,s),(23,t),(24,u),(25,v),(37,w),(53,x),(54,y),(55,z),(56,A),(60,B),(61,C),(62,D),(63,E),(69,O),(103,G),(104,H),(105,I),(106,J),(112,K)] := by intros; rfl
    refine R_nil (tr ..) ?_; clear tr
    refine then_n ?_
    refine cdd (fun h6 => ?_) (fun h6 => ?_)
    ·
     try simp only [decide_eq_true_eq, decide_eq_false_iff_not, Bool.not_eq_true', Bool.not_eq_false', beq_iff_eq, beq_eq_false_iff_ne, ne_eq] at h6
     refine rg rfl ?_
     refine Rq ?_
     refine Rq ?_
     refine Rq ?_
     have tr : ∀ a b c d e f g h i j k m n o p q r s t u v w x y z A B C D E F G H I J K L M N : AV, let l := lc_graphO_ok a b c d e f g h i j k m n o p q r s t u v w x y z A B C D E F G H I J K; trim ((15,N)::(71,M)::(70,L)::l) l = [(0,a),(1,b),(2,c),(3,d),(6,e),(7,f),(8,g),(10,h),(11,i),(12,j),(13,k),(14,m),(15,N),(17,o),(18,p),(19,q),(20,r),(22,s),(23,t),(24,u),(25,v),(37,w),(53,x),(54,y),(55,z),(56,A),(60,B),(61,C),(62,D),(63,E),(69,F),(103,G),(104,H),(105,I),(106,J),(112,K)] := by intros; rfl
     refine R_nil (tr ..) ?_; clear tr
     refine blk_n ?_
     refine then_n ?_
     refine rg rfl ?_
     refine Rq ?_
     refine Rq ?_
     have tr : ∀ a b c d e f g h i j k m n o p q r s t u v w x y z A B C D E F G H I J K L M : AV, let l := lc_graphO_ok a b c d e f g h i j k m n o p q r s t u v w x y z A B C D E F G H I J K; trim ((62,M)::(72,L)::l) l = [(0,a),(1,b),(2,c),(3,d),(6,e),(7,f),(8,g),(10,h),(11,i),(12,j),(13,k),(14,m),(15,n),(17,o),(18,p),(19,q),(20,r),(22,s),(23,t),(24,u),(25,v),(37,w),(53,x),(54,y),(55,z),(56,A),(60,B),(61,C),(62,M),(63,E),(69,F),(103,G),(104,H),(105,I),(106,J),(112,K)] := by intros; rfl
     refine R_nil (tr ..) ?_; clear tr
     refine then_n ?_
     exact ⟨_, _, ⟨w + 1, (c + 2), _, _, _, rfl, rfl, by exact qP, by exact q0, by exact q6, by exact qg, by (show HI.length ≤ HM.length; omega), by exact .inr ⟨hO0, bO, rfl, hbO, qO⟩, by exact qp, by exact hE, by (show HN.length < HM.length; omega), by omega, by first | exact cnt_hit hcc (by assumption) | exact cnt_miss hcc (by assumption)⟩, by rfl, by omega⟩
    ·
     try simp only [decide_eq_true_eq, decide_eq_false_iff_not, Bool.not_eq_true', Bool.not_eq_false', beq_iff_eq, beq_eq_false_iff_ne, ne_eq] at h6
     refine at_skip rfl ?_
     refine blk_n ?_
     refine then_n ?_
     refine rg rfl ?_
     refine Rq ?_
     refine Rq ?_
     have tr : ∀ a b c d e f g h i j k m n o p q r s t u v w x y z A B C D E F G H I J K L M : AV, let l := lc_graphO_ok a b c d e f g h i j k m n o p q r s t u v w x y z A B C D E F G H I J K; trim ((62,M)::(72,L)::l) l = [(0,a),(1,b),(2,c),(3,d),(6,e),(7,f),(8,g),(10,h),(11,i),(12,j),(13,k),(14,m),(15,n),(17,o),(18,p),(19,q),(20,r),(22,s),(23,t),(24,u),(25,v),(37,w),(53,x),(54,y),(55,z),(56,A),(60,B),(61,C),(62,M),(63,E),(69,F),(103,G),(104,H),(105,I),(106,J),(112,K)] := by intros; rfl
     refine R_nil (tr ..) ?_; clear tr
     refine then_n ?_
     exact ⟨_, _, ⟨w + 1, c, _, _, _, rfl, rfl, by exact qP, by exact q0, by exact q6, by exact qg, by (show HI.length ≤ HM.length; omega), by exact .inr ⟨hO0, bO, rfl, hbO, qO⟩, by exact qp, by exact hE, by (show HN.length < HM.length; omega), by omega, by first | exact cnt_hit hcc (by assumption) | exact cnt_miss hcc (by assumption)⟩, by rfl, by omega⟩
   ·
    try simp only [decide_eq_true_eq, decide_eq_false_iff_not, Bool.not_eq_true', Bool.not_eq_false', beq_iff_eq, beq_eq_false_iff_ne, ne_eq] at h5
    refine at_exit rfl ?_
    refine then_x ?_
    refine then_x ?_
    refine blk_x ?_
    refine then_n ?_
    refine at_seq rfl ?_
    refine rg rfl ?_
    obtain rfl : w = (othS L t).length := by omega
    have hcr := cnl_rng L t (norm (gt (pQ L t) i)) L.length
    rw [cnt_all (by omega)] at hcc
    subst hcc
    refine Rq ?_
    refine R_q rfl (by simp (disch := first | omega | (simp only [List.length_map, List.length_append, List.length_set, List.length_cons, List.length_nil]; omega)) only [go_sem, ↓reduceIte, Nat.reduceEqDiff, reduceCtorEq, q0, q6, qx, qg, qp, hpa] <;> rfl) ?_
    refine Rq ?_
    refine Rq ?_
    have tr : ∀ a b c d e f g h i j k m n o p q r s t u v w x y z A B C D E F G H I J K L M N O : AV, let l := lc_graphO_ok a b c d e f g h i j k m n o p q r s t u v w x y z A B C D E F G H I J K; trim ((18,O)::(75,N)::(74,M)::(73,L)::l) l = [(0,a),(1,b),(2,c),(3,d),(6,e),(7,f),(8,g),(10,h),(11,i),(12,j),(13,k),(14,m),(15,n),(17,o),(18,O),(19,q),(20,r),(22,s),(23,t),(24,u),(25,v),(37,w),(53,x),(54,y),(55,z),(56,A),(60,B),(61,C),(62,D),(63,E),(69,F),(103,G),(104,H),(105,I),(106,J),(112,K)] := by intros; rfl
    refine R_nil (tr ..) ?_; clear tr
    refine then_n ?_
    refine rg rfl ?_
    refine Rq ?_
    refine R_q rfl (by simp (disch := first | omega | (simp only [List.length_map, List.length_append, List.length_set, List.length_cons, List.length_nil]; omega)) only [go_sem, ↓reduceIte, Nat.reduceEqDiff, reduceCtorEq, q0, q6, qx, qg, qp, hpa, qP] <;> rfl) ?_
    refine Rq ?_
    refine Rq ?_
    refine Rq ?_
    refine Rq ?_
    refine Rq ?_
    refine Rq ?_
    refine Rq ?_
    refine Rq ?_
    refine R_q rfl (by simp (disch := first | omega | (simp only [List.length_map, List.length_append, List.length_set, List.length_cons, List.length_nil]; omega)) only [go_sem, ↓reduceIte, Nat.reduceEqDiff, reduceCtorEq, q0, q6, qx, qg, qp, hpa, qP] <;> rfl) ?_
    refine Rq ?_
    refine Rq ?_
    refine Rq ?_
    refine Rq ?_
    refine Rq ?_
    refine Rq ?_
    refine Rq ?_
    refine R_q rfl (by simp (disch := first | omega | (simp only [List.length_map, List.length_append, List.length_set, List.length_cons, List.length_nil]; omega)) only [go_sem, ↓reduceIte, Nat.reduceEqDiff, reduceCtorEq, q0, q6, qx, qg, qp, hpa, qP] <;> rfl) ?_
    refine Rq ?_
    refine Rq ?_
    refine Rq ?_
    have hob := fun b hb => hE.lt (b := b) hb
    have hgl := gEa_len 2 (2 + ((pQ L t).length : Int)) (cQ L t (pQ L t)) (pQ L t) i
    refine A_buildSlice (bs22_3 _ _ _ _ _ _ ⟨0, 2 + i, cQ L t (pQ L t) i⟩ ⟨2 + i, (2 + ((pQ L t).length : Int)) + (gt (pQ L t) i).a, cQ L t (pQ L t) i⟩ ⟨2 + i, (2 + ((pQ L t).length : Int)) + (gt (pQ L t) i).b, cQ L t (pQ L t) i⟩ (by simp (disch := first | omega | (simp only [List.length_map, List.length_append, List.length_set, List.length_cons, List.length_nil]; omega)) only [go_sem, ↓reduceIte, Nat.reduceEqDiff, reduceCtorEq, q0, q6, qx, qg, qp, hpa]) (by simp (disch := first | omega | (simp only [List.length_map, List.length_append, List.length_set, List.length_cons, List.length_nil]; omega)) only [go_sem, ↓reduceIte, Nat.reduceEqDiff, reduceCtorEq, q0, q6, qx, qg, qp, hpa]) (by simp (disch := first | omega | (simp only [List.length_map, List.length_append, List.length_set, List.length_cons, List.length_nil]; omega)) only [go_sem, ↓reduceIte, Nat.reduceEqDiff, reduceCtorEq, q0, q6, qx, qg, qp, hpa])) ?_
    intro HP n9
    have en9 := n9.len
    have q0 := (n9.old _ (hget_lt q0)).trans q0
    have q6 := (n9.old _ (hget_lt q6)).trans q6
    have qg := (n9.old _ (hget_lt qg)).trans qg
    have qP := (n9.old _ (hget_lt qP)).trans qP
    have qn := n9.new
    have hA := hA.mono fun b hb k hk => (n9.old _ (hget_lt hk)).trans hk
    have hE := hE.mono fun b hb k hk => (n9.old _ (hget_lt hk)).trans hk
    have lq0 := hget_lt q0
    have lq6 := hget_lt q6
    have lqg := hget_lt qg
    have lqP := hget_lt qP
    obtain ⟨b, hbl, hbl2, hap⟩ := outE_append (lim := H.length) (X := gE1 2 (2 + ((pQ L t).length : Int)) (cQ L t (pQ L t)) (pQ L t) i) (m := 3) hE hob qn rfl (by simp [gE1]) (by omega) (by omega) (by omega)
    refine A_append (by simp (disch := first | omega | (simp only [List.length_map, List.length_append, List.length_set, List.length_cons, List.length_nil]; omega)) only [go_sem, ↓reduceIte, Nat.reduceEqDiff, reduceCtorEq, q0, q6, qx, qg, qp, hpa]; exact hap) ?_
    intro HQ g9
    have eg9 := g9.len
    have q0 := (g9.old _ (by omega) lq0).trans q0
    have q6 := (g9.old _ (by omega) lq6).trans q6
    have qg := (g9.old _ (by omega) lqg).trans qg
    have qP := (g9.old _ (by omega) lqP).trans qP
    have qq := g9.new
    have hA := hA.mono fun b7 hb k hk => (g9.old _ (by omega) (hget_lt hk)).trans hk
    have hE := outE_a (lo := HI.length) g9 (by omega) rfl
    refine Rq ?_
    have lq0 := hget_lt q0
    have lq6 := hget_lt q6
    have lqg := hget_lt qg
    have lqP := hget_lt qP
    refine A_store ty22 (by simp (disch := first | omega | (simp only [List.length_map, List.length_append, List.length_set, List.length_cons, List.length_nil]; omega)) only [go_sem, ↓reduceIte, Nat.reduceEqDiff, reduceCtorEq, q0, q6, qx, qg, qp, hpa] <;> rfl) (by simp (disch := first | omega | (simp only [List.length_map, List.length_append, List.length_set, List.length_cons, List.length_nil]; omega)) only [go_sem, ↓reduceIte, Nat.reduceEqDiff, reduceCtorEq, q0, q6, qx, qg, qp, hpa] <;> rfl) qg ⟨by omega, rfl, by first | exact Nat.le_refl _ | simp⟩ (show _ = [AV.i (2 + ((pQ L t).length : Int) + (P.length : Int)), AV.i 0, AV.i 1, (.own 3 HP.length 0 ((gEa 2 (2 + ((pQ L t).length : Int)) (cQ L t (pQ L t)) (pQ L t) i).length + 3))] from rfl) ?_
    intro HR w9
    have ew9 := w9.len
    have q0 := (w9.old _ (by omega)).trans q0
    have q6 := (w9.old _ (by omega)).trans q6
    have qP := (w9.old _ (by omega)).trans qP
    have qg := w9.new
    have hE := hE.mono fun b hb k hk => (w9.old _ (by omega)).trans hk
    have hA := hA.mono fun b hb k hk => (w9.old _ (by omega)).trans hk
    have tr : ∀ a b c d e f g h i j k m n o p q r s t u v w x y z A B C D E F G H I J K L M N O P Q R S T U V W X Y Z a1 b1 c1 d1 e1 f1 g1 h1 i1 j1 : AV, let l := lc_graphO_ok a b c d e f g h i j k m n o p q r s t u v w x y z A B C D E F G H I J K; trim ((100,j1)::(99,i1)::(98,h1)::(97,g1)::(96,f1)::(95,e1)::(94,d1)::(93,c1)::(92,b1)::(91,a1)::(90,Z)::(89,Y)::(88,X)::(87,W)::(86,V)::(85,U)::(84,T)::(83,S)::(82,R)::(81,Q)::(80,P)::(79,O)::(78,N)::(77,M)::(76,L)::l) l = [(0,a),(1,b),(2,c),(3,d),(6,e),(7,f),(8,g),(10,h),(11,i),(12,j),(13,k),(14,m),(15,n),(17,o),(18,p),(19,q),(20,r),(22,s),(23,t),(24,u),(25,v),(37,w),(53,x),(54,y),(55,z),(56,A),(60,B),(61,C),(62,D),(63,E),(69,F),(103,G),(104,H),(105,I),(106,J),(112,K)] := by intros; rfl
    refine R_nil (tr ..) ?_; clear tr
    refine blk_n ?_
    refine then_n ?_
    refine rg rfl ?_
    refine Rq ?_
    refine Rq ?_
    have tr : ∀ a b c d e f g h i j k m n o p q r s t u v w x y z A B C D E F G H I J K L M : AV, let l := lc_graphO_ok a b c d e f g h i j k m n o p q r s t u v w x y z A B C D E F G H I J K; trim ((55,M)::(101,L)::l) l = [(0,a),(1,b),(2,c),(3,d),(6,e),(7,f),(8,g),(10,h),(11,i),(12,j),(13,k),(14,m),(15,n),(17,o),(18,p),(19,q),(20,r),(22,s),(23,t),(24,u),(25,v),(37,w),(53,x),(54,y),(55,M),(56,A),(60,B),(61,C),(62,D),(63,E),(69,F),(103,G),(104,H),(105,I),(106,J),(112,K)] := by intros; rfl
    refine R_nil (tr ..) ?_; clear tr
    refine then_n ?_
    exact ⟨_, _, ⟨i + 1, (.own 3 HP.length 0 ((gEa 2 (2 + ((pQ L t).length : Int)) (cQ L t (pQ L t)) (pQ L t) i).length + 3)), _, _, _, _, _, _, _, _, _, _, _, rfl, rfl, by exact qP, by exact q0, by exact q6, by exact qg, by first | (show HI.length ≤ HR.length; omega) | omega, by exact hA, by omega, by exact hE⟩, by rfl, by omega⟩
  ·
   try simp only [decide_eq_true_eq, decide_eq_false_iff_not, Bool.not_eq_true', Bool.not_eq_false', beq_iff_eq, beq_eq_false_iff_ne, ne_eq] at h4
   refine at_exit rfl ?_
   refine then_x ?_
   refine then_x ?_
   refine blk_x ?_
   refine then_n ?_
   refine at_seq rfl ?_
   refine at_seq rfl ?_
   refine rg rfl ?_
   obtain rfl : i = (pQ L t).length := by omega
   refine Rq ?_
   refine R_q rfl (by simp (disch := first | omega | (simp only [List.length_map, List.length_append, List.length_set, List.length_cons, List.length_nil]; omega)) only [go_sem, ↓reduceIte, Nat.reduceEqDiff, reduceCtorEq, q0, q6, qx, qg, qp, hpa, qP] <;> rfl) ?_
   refine Rq ?_
   refine Rq ?_
   have tr : ∀ a b c d e f g h i j k m n o p q r s t u v w x y z A B C D E F G H I J K L M N O : AV, let l := lc_graphO_ok a b c d e f g h i j k m n o p q r s t u v w x y z A B C D E F G H I J K; trim ((105,O)::(104,N)::(103,M)::(102,L)::l) l = [(0,a),(1,b),(2,c),(3,d),(6,e),(7,f),(8,g),(10,h),(11,i),(12,j),(13,k),(14,m),(15,n),(17,o),(18,p),(19,q),(20,r),(22,s),(23,t),(24,u),(25,v),(37,w),(53,x),(54,y),(55,z),(56,A),(60,B),(61,C),(62,D),(63,E),(69,F),(103,M),(104,N),(105,O),(106,J),(112,K)] := by intros; rfl
   refine R_nil (tr ..) ?_; clear tr
   refine then_n ?_
   refine at_block rfl ?_
   refine loop_n rfl (fun mm kv H' => ∃ j : Nat, ∃ oF : AV, ∃ x19 x20 x106 x112 : AV, (kv = [(19, x19), (20, x20), (105, AV.i j), (106, x106), (112, x112)]) ∧ (mm = P.length - j) ∧ (hget H' b0 = some (P.map AV.i)) ∧ (hget H' H.length = some (raceO b0 P L)) ∧ (hget H' H1.length = some [AV.i 0, AV.i 0, AV.i 0, nilP]) ∧ (hget H' HB.length = some [AV.i (2 + ((pQ L t).length : Int) + (P.length : Int)), AV.i 0, AV.i 1, oF]) ∧ (HI.length ≤ H'.length) ∧ (j ≤ P.length) ∧ (OutE HI.length H' oF (gEb (2 + ((pQ L t).length : Int)) P t goal (gEa 2 (2 + ((pQ L t).length : Int)) (cQ L t (pQ L t)) (pQ L t) (pQ L t).length) j))) ⟨0, oE, _, _, _, _, rfl, rfl, by exact qP, by exact q0, by exact q6, by exact qg, by exact hHI, by omega, by exact hE⟩ (by rfl) ?_
   rintro mm kv HS ⟨j, oF, x19, x20, x106, x112, rfl, rfl, qP, q0, q6, qg, hHI2, hj, hE⟩
   have tr : ∀ a b c d e f g h i j k m n o p q r s t u v w x y z A B C D E F G H I J K L M N O P : AV, upd [(0,a),(1,b),(2,c),(3,d),(6,e),(7,f),(8,g),(10,h),(11,i),(12,j),(13,k),(14,m),(15,n),(17,o),(18,p),(19,q),(20,r),(22,s),(23,t),(24,u),(25,v),(37,w),(53,x),(54,y),(55,z),(56,A),(60,B),(61,C),(62,D),(63,E),(69,F),(103,G),(104,H),(105,I),(106,J),(112,K)] [(19,L),(20,M),(105,N),(106,O),(112,P)] = [(0,a),(1,b),(2,c),(3,d),(6,e),(7,f),(8,g),(10,h),(11,i),(12,j),(13,k),(14,m),(15,n),(17,o),(18,p),(19,L),(20,M),(22,s),(23,t),(24,u),(25,v),(37,w),(53,x),(54,y),(55,z),(56,A),(60,B),(61,C),(62,D),(63,E),(69,F),(103,G),(104,H),(105,N),(106,O),(112,P)] := by intros; rfl
   refine W_to (tr ..) ?_; clear tr
   refine at_seq rfl ?_
   refine rg rfl ?_
   refine Rq ?_
   have tr : ∀ a b c d e f g h i j k m n o p q r s t u v w x y z A B C D E F G H I J K L : AV, let l := lc_graphO_ok a b c d e f g h i j k m n o p q r s t u v w x y z A B C D E F G H I J K; trim ((106,L)::l) l = [(0,a),(1,b),(2,c),(3,d),(6,e),(7,f),(8,g),(10,h),(11,i),(12,j),(13,k),(14,m),(15,n),(17,o),(18,p),(19,q),(20,r),(22,s),(23,t),(24,u),(25,v),(37,w),(53,x),(54,y),(55,z),(56,A),(60,B),(61,C),(62,D),(63,E),(69,F),(103,G),(104,H),(105,I),(106,L),(112,K)] := by intros; rfl
   refine R_nil (tr ..) ?_; clear tr
   refine then_n ?_
   refine at_seq rfl ?_
   refine cdd (fun h7 => ?_) (fun h7 => ?_)
   ·
    try simp only [decide_eq_true_eq, decide_eq_false_iff_not, Bool.not_eq_true', Bool.not_eq_false', beq_iff_eq, beq_eq_false_iff_ne, ne_eq] at h7
    refine at_skip rfl ?_
    refine then_n ?_
    refine at_seq rfl ?_
    refine at_block rfl ?_
    refine at_seq rfl ?_
    refine rg rfl ?_
    have hgk := hg0 j (by omega)
    have hpk := g.pt j (by omega)
    have hgbl := gEb_len (2 + ((pQ L t).length : Int)) P t goal (gEa 2 (2 + ((pQ L t).length : Int)) (cQ L t (pQ L t)) (pQ L t) (pQ L t).length) j
    have hgal := gEa_len 2 (2 + ((pQ L t).length : Int)) (cQ L t (pQ L t)) (pQ L t) (pQ L t).length
    refine Rq ?_
    refine Rq ?_
    refine R_q rfl (by simp (disch := first | omega | (simp only [List.length_map, List.length_append, List.length_set, List.length_cons, List.length_nil]; omega)) only [go_sem, ↓reduceIte, Nat.reduceEqDiff, reduceCtorEq, q0, q6, qx, qg, qp, hpa, qP] <;> rfl) ?_
    refine Rq ?_
    refine Rq ?_
    have tr : ∀ a b c d e f g h i j k m n o p q r s t u v w x y z A B C D E F G H I J K L M N O P : AV, let l := lc_graphO_ok a b c d e f g h i j k m n o p q r s t u v w x y z A B C D E F G H I J K; trim ((20,P)::(19,O)::(109,N)::(108,M)::(107,L)::l) l = [(0,a),(1,b),(2,c),(3,d),(6,e),(7,f),(8,g),(10,h),(11,i),(12,j),(13,k),(14,m),(15,n),(17,o),(18,p),(19,O),(20,P),(22,s),(23,t),(24,u),(25,v),(37,w),(53,x),(54,y),(55,z),(56,A),(60,B),(61,C),(62,D),(63,E),(69,F),(103,G),(104,H),(105,I),(106,J),(112,K)] := by intros; rfl
    refine R_nil (tr ..) ?_; clear tr
    refine then_n ?_
    refine at_seq rfl ?_
    refine rg rfl ?_
    refine Rq ?_
    refine Rq ?_
    refine Rq ?_
    have tr : ∀ a b c d e f g h i j k m n o p q r s t u v w x y z A B C D E F G H I J K L M N : AV, let l := lc_graphO_ok a b c d e f g h i j k m n o p q r s t u v w x y z A B C D E F G H I J K; trim ((112,N)::(111,M)::(110,L)::l) l = [(0,a),(1,b),(2,c),(3,d),(6,e),(7,f),(8,g),(10,h),(11,i),(12,j),(13,k),(14,m),(15,n),(17,o),(18,p),(19,q),(20,r),(22,s),(23,t),(24,u),(25,v),(37,w),(53,x),(54,y),(55,z),(56,A),(60,B),(61,C),(62,D),(63,E),(69,F),(103,G),(104,H),(105,I),(106,J),(112,N)] := by intros; rfl
    refine R_nil (tr ..) ?_; clear tr
    refine then_n ?_
    refine cdd (fun h8 => ?_) (fun h8 => ?_)
    ·
     try simp only [decide_eq_true_eq, decide_eq_false_iff_not, Bool.not_eq_true', Bool.not_eq_false', beq_iff_eq, beq_eq_false_iff_ne, ne_eq] at h8
     refine rg rfl ?_
     refine Rq ?_
     refine R_q rfl (by simp (disch := first | omega | (simp only [List.length_map, List.length_append, List.length_set, List.length_cons, List.length_nil]; omega)) only [go_sem, ↓reduceIte, Nat.reduceEqDiff, reduceCtorEq, q0, q6, qx, qg, qp, hpa, qP] <;> rfl) ?_
     refine Rq ?_
     refine R_q rfl (by simp (disch := first | omega | (simp only [List.length_map, List.length_append, List.length_set, List.length_cons, List.length_nil]; omega)) only [go_sem, ↓reduceIte, Nat.reduceEqDiff, reduceCtorEq, q0, q6, qx, qg, qp, hpa]; exact pairsA_len _) ?_
     refine Rq ?_
     refine Rq ?_
     refine Rq ?_
     refine Rq ?_
     refine Rq ?_
     refine Rq ?_
     refine Rq ?_
     have hob := fun b hb => hE.lt (b := b) hb
     refine A_buildSlice (bs22_1 _ _ _ _ ⟨(2 + ((pQ L t).length : Int)) + j, 1, goal - gt P j⟩ (by simp (disch := first | omega | (simp only [List.length_map, List.length_append, List.length_set, List.length_cons, List.length_nil]; omega)) only [go_sem, ↓reduceIte, Nat.reduceEqDiff, reduceCtorEq, q0, q6, qx, qg, qp, hpa])) ?_
     intro HT n2
     have en2 := n2.len
     have q0 := (n2.old _ (hget_lt q0)).trans q0
     have q6 := (n2.old _ (hget_lt q6)).trans q6
     have qg := (n2.old _ (hget_lt qg)).trans qg
     have qP := (n2.old _ (hget_lt qP)).trans qP
     have qn := n2.new
     have hE := hE.mono fun b hb k hk => (n2.old _ (hget_lt hk)).trans hk
     have lq0 := hget_lt q0
     have lq6 := hget_lt q6
     have lqg := hget_lt qg
     have lqP := hget_lt qP
     obtain ⟨b, hbl, hbl2, hap⟩ := outE_append (lim := H.length) (X := [⟨(2 + ((pQ L t).length : Int)) + j, 1, goal - gt P j⟩]) (m := 1) hE hob qn rfl (by simp) (by omega) (by omega) (by omega)
     refine A_append (by simp (disch := first | omega | (simp only [List.length_map, List.length_append, List.length_set, List.length_cons, List.length_nil]; omega)) only [go_sem, ↓reduceIte, Nat.reduceEqDiff, reduceCtorEq, q0, q6, qx, qg, qp, hpa]; exact hap) ?_
     intro HU g2_
     have eg2_ := g2_.len
     have q0 := (g2_.old _ (by omega) lq0).trans q0
     have q6 := (g2_.old _ (by omega) lq6).trans q6
     have qg := (g2_.old _ (by omega) lqg).trans qg
     have qP := (g2_.old _ (by omega) lqP).trans qP
     have qq := g2_.new
     have hE := outE_b (lo := HI.length) g2_ (by omega) (by omega) rfl
     refine Rq ?_
     have lq0 := hget_lt q0
     have lq6 := hget_lt q6
     have lqg := hget_lt qg
     have lqP := hget_lt qP
     refine A_store ty22 (by simp (disch := first | omega | (simp only [List.length_map, List.length_append, List.length_set, List.length_cons, List.length_nil]; omega)) only [go_sem, ↓reduceIte, Nat.reduceEqDiff, reduceCtorEq, q0, q6, qx, qg, qp, hpa] <;> rfl) (by simp (disch := first | omega | (simp only [List.length_map, List.length_append, List.length_set, List.length_cons, List.length_nil]; omega)) only [go_sem, ↓reduceIte, Nat.reduceEqDiff, reduceCtorEq, q0, q6, qx, qg, qp, hpa] <;> rfl) qg ⟨by omega, rfl, by first | exact Nat.le_refl _ | simp⟩ (show _ = [AV.i (2 + ((pQ L t).length : Int) + (P.length : Int)), AV.i 0, AV.i 1, (.own 3 HT.length 0 ((gEb (2 + ((pQ L t).length : Int)) P t goal (gEa 2 (2 + ((pQ L t).length : Int)) (cQ L t (pQ L t)) (pQ L t) (pQ L t).length) j).length + 1))] from rfl) ?_
     intro HV w2
     have ew2 := w2.len
     have q0 := (w2.old _ (by omega)).trans q0
     have q6 := (w2.old _ (by omega)).trans q6
     have qP := (w2.old _ (by omega)).trans qP
     have qg := w2.new
     have hE := hE.mono fun b hb k hk => (w2.old _ (by omega)).trans hk
     have tr : ∀ a b c d e f g h i j k m n o p q r s t u v w x y z A B C D E F G H I J K L M N O P Q R S T U V W X Y : AV, let l := lc_graphO_ok a b c d e f g h i j k m n o p q r s t u v w x y z A B C D E F G H I J K; trim ((126,Y)::(125,X)::(124,W)::(123,V)::(122,U)::(121,T)::(120,S)::(119,R)::(118,Q)::(117,P)::(116,O)::(115,N)::(114,M)::(113,L)::l) l = [(0,a),(1,b),(2,c),(3,d),(6,e),(7,f),(8,g),(10,h),(11,i),(12,j),(13,k),(14,m),(15,n),(17,o),(18,p),(19,q),(20,r),(22,s),(23,t),(24,u),(25,v),(37,w),(53,x),(54,y),(55,z),(56,A),(60,B),(61,C),(62,D),(63,E),(69,F),(103,G),(104,H),(105,I),(106,J),(112,K)] := by intros; rfl
     refine R_nil (tr ..) ?_; clear tr
     refine blk_n ?_
     refine then_n ?_
     refine rg rfl ?_
     refine Rq ?_
     refine Rq ?_
     have tr : ∀ a b c d e f g h i j k m n o p q r s t u v w x y z A B C D E F G H I J K L M : AV, let l := lc_graphO_ok a b c d e f g h i j k m n o p q r s t u v w x y z A B C D E F G H I J K; trim ((105,M)::(127,L)::l) l = [(0,a),(1,b),(2,c),(3,d),(6,e),(7,f),(8,g),(10,h),(11,i),(12,j),(13,k),(14,m),(15,n),(17,o),(18,p),(19,q),(20,r),(22,s),(23,t),(24,u),(25,v),(37,w),(53,x),(54,y),(55,z),(56,A),(60,B),(61,C),(62,D),(63,E),(69,F),(103,G),(104,H),(105,M),(106,J),(112,K)] := by intros; rfl
     refine R_nil (tr ..) ?_; clear tr
     refine then_n ?_
     exact ⟨_, _, ⟨j + 1, (.own 3 HT.length 0 ((gEb (2 + ((pQ L t).length : Int)) P t goal (gEa 2 (2 + ((pQ L t).length : Int)) (cQ L t (pQ L t)) (pQ L t) (pQ L t).length) j).length + 1)), _, _, _, _, rfl, rfl, by exact qP, by exact q0, by exact q6, by exact qg, by first | (show HI.length ≤ HV.length; omega) | omega, by omega, by first | exact hE | exact outE_k hE (by omega)⟩, by rfl, by omega⟩
    ·
     try simp only [decide_eq_true_eq, decide_eq_false_iff_not, Bool.not_eq_true', Bool.not_eq_false', beq_iff_eq, beq_eq_false_iff_ne, ne_eq] at h8
     refine at_skip rfl ?_
     refine blk_n ?_
     refine then_n ?_
     refine rg rfl ?_
     refine Rq ?_
     refine Rq ?_
     have tr : ∀ a b c d e f g h i j k m n o p q r s t u v w x y z A B C D E F G H I J K L M : AV, let l := lc_graphO_ok a b c d e f g h i j k m n o p q r s t u v w x y z A B C D E F G H I J K; trim ((105,M)::(127,L)::l) l = [(0,a),(1,b),(2,c),(3,d),(6,e),(7,f),(8,g),(10,h),(11,i),(12,j),(13,k),(14,m),(15,n),(17,o),(18,p),(19,q),(20,r),(22,s),(23,t),(24,u),(25,v),(37,w),(53,x),(54,y),(55,z),(56,A),(60,B),(61,C),(62,D),(63,E),(69,F),(103,G),(104,H),(105,M),(106,J),(112,K)] := by intros; rfl
     refine R_nil (tr ..) ?_; clear tr
     refine then_n ?_
     exact ⟨_, _, ⟨j + 1, oF, _, _, _, _, rfl, rfl, by exact qP, by exact q0, by exact q6, by exact qg, by first | (show HI.length ≤ HV.length; omega) | omega, by omega, by first | exact hE | exact outE_k hE (by omega)⟩, by rfl, by omega⟩
   ·
    try simp only [decide_eq_true_eq, decide_eq_false_iff_not, Bool.not_eq_true', Bool.not_eq_false', beq_iff_eq, beq_eq_false_iff_ne, ne_eq] at h7
    refine at_exit rfl ?_
    refine then_x ?_
    refine then_x ?_
    refine blk_x ?_
    refine then_n ?_
    refine at_seq rfl ?_
    refine rg rfl ?_
    obtain rfl : j = P.length := by omega
    have hgne := gE_ne 2 (2 + ((pQ L t).length : Int)) (cQ L t (pQ L t)) (pQ L t) (t := t) goal g2
    obtain ⟨hE7, bE, rfl, hbE, qE⟩ := hE.resolve_left (fun hh => hgne hh.1)
    refine R_q rfl (by simp (disch := first | omega | (simp only [List.length_map, List.length_append, List.length_set, List.length_cons, List.length_nil]; omega)) only [go_sem, ↓reduceIte, Nat.reduceEqDiff, reduceCtorEq, q0, q6, qx, qg, qp, hpa, qP] <;> rfl) ?_
    refine Rq ?_
    have lq0 := hget_lt q0
    have lq6 := hget_lt q6
    have lqg := hget_lt qg
    have lqP := hget_lt qP
    refine A_store ty24 (by simp (disch := first | omega | (simp only [List.length_map, List.length_append, List.length_set, List.length_cons, List.length_nil]; omega)) only [go_sem, ↓reduceIte, Nat.reduceEqDiff, reduceCtorEq, q0, q6, qx, qg, qp, hpa] <;> rfl) (by simp (disch := first | omega | (simp only [List.length_map, List.length_append, List.length_set, List.length_cons, List.length_nil]; omega)) only [go_sem, ↓reduceIte, Nat.reduceEqDiff, reduceCtorEq, q0, q6, qx, qg, qp, hpa] <;> rfl) q6 ⟨by omega, rfl, by first | exact Nat.le_refl _ | simp⟩ (show _ = [AV.i (2 + ((pQ L t).length : Int) + (P.length : Int)), AV.i 0, AV.i 1, _] from rfl) ?_
    intro HZ wz
    have ewz := wz.len
    have q0 := (wz.old _ (by omega)).trans q0
    have qg := (wz.old _ (by omega)).trans qg
    have qP := (wz.old _ (by omega)).trans qP
    have q6 := wz.new
    have hE := hE.mono fun b hb k hk => (wz.old _ (by omega)).trans hk
    refine Rq ?_
    have tr : ∀ a b c d e f g h i j k m n o p q r s t u v w x y z A B C D E F G H I J K L M N : AV, let l := lc_graphO_ok a b c d e f g h i j k m n o p q r s t u v w x y z A B C D E F G H I J K; trim ((7,N)::(129,M)::(128,L)::l) l = [(0,a),(1,b),(2,c),(3,d),(6,e),(7,N),(8,g),(10,h),(11,i),(12,j),(13,k),(14,m),(15,n),(17,o),(18,p),(19,q),(20,r),(22,s),(23,t),(24,u),(25,v),(37,w),(53,x),(54,y),(55,z),(56,A),(60,B),(61,C),(62,D),(63,E),(69,F),(103,G),(104,H),(105,I),(106,J),(112,K)] := by intros; rfl
    refine R_nil (tr ..) ?_; clear tr
    refine then_n ?_
    refine at_ret rfl ?_
    refine fin_pure (rs := [.cell 6 24, .tmp 7]) rfl (by simp only [go_sem, ↓reduceIte, Nat.reduceEqDiff, q6]; rfl) rfl ?_
    refine ⟨?_, rfl⟩
    show AV.tup [AV.agg [AV.i _, AV.i _, AV.i _, frz HZ H.length 6 _], frz HZ H.length 7 _] = _
    rw [hE.frz (by omega) hgne, frz_pairsA]

abbrev lc_resultsO_ok (a b c d e f g h i j k m n o p q r s t u v w x : AV) : Env := [(0,a),(1,b),(2,c),(3,d),(4,e),(8,f),(9,g),(10,h),(11,i),(12,j),(13,k),(14,m),(15,n),(20,o),(21,p),(22,q),(39,r),(40,s),(41,t),(42,u),(46,v),(54,w),(86,x)]
theorem resultsO_ok (lim : Nat) (H : Heap) (P : List Int) (L : List Pr) (t : Int) (f : List Int) (g : ROK P L) (t0 : 0 ≤ t) (t1 : t < P.length) (hf : 3 * (pQ L t).length ≤ f.length) (hfl : f.length ≤ 1000) (hfr : ∀ i, i < (pQ L t).length → 0 ≤ gt f (3 * i + 1) ∧ gt f (3 * i + 1) ≤ 1073741824) (b0 : Nat) (qP : hget H b0 = some (P.map AV.i)) :
    ACall sig lim 55 [.agg (raceO b0 P L), AV.i t, pairsA (othN L t L.length), intsAV f] H fun r H' => r = intsAV (resN (pQ L t) t L (yN f (pQ L t).length (pQ L t).length) L.length).2 ∧ H' = H := by
 have q0 : True := trivial
 have qy : True := trivial
 have qw : True := trivial
 have qx : True := trivial
 have hpa : True := trivial
 have g20 := g.n20
 have gel := g.el
 have gpr := g.pr
 have WQ : PQ L t (pQ L t) := (pq_prog L t L.length).to
 have hNQ := pQ_nq L t
 have hql := pq_len WQ
 have hqr := pq_rng g WQ
 have hqe : (pairsN (othN L t L.length) (othN L t L.length).length).length = (pQ L t).length := rfl
 have hY : ∀ i, 0 ≤ gt (yN f (pQ L t).length (pQ L t).length) i := fun i => by
   rw [yN_gt _ _ _ (Nat.le_refl _)]
   split
   · exact (hfr i (by assumption)).1
   · exact Int.le_refl _
 have lP0 := hget_lt qP
 refine ACall_pure (fa := fa55) rfl rfl rfl rfl ?_
 have tr : ∀ a0 a1 a2 a3 : AV, env0 fa55.keep [a0, a1, a2, a3] = [(0,a0),(1,a1),(2,a2),(3,a3),(4,.any),(8,.any),(9,.any),(10,.any),(11,.any),(12,.any),(13,.any),(14,.any),(15,.any),(20,.any),(21,.any),(22,.any),(39,.any),(40,.any),(41,.any),(42,.any),(46,.any),(54,.any),(86,.any)] := fun a0 a1 a2 a3 => rfl
 refine W_to (tr _ _ _ _) ?_; clear tr
 refine at_seq rfl ?_
 refine rg rfl ?_
 refine A_box rfl (by simp (disch := first | omega | (simp only [List.length_map, List.length_append, List.length_set, List.length_cons, List.length_nil]; omega)) only [go_sem, ↓reduceIte, Nat.reduceEqDiff, reduceCtorEq] <;> rfl) ?_
 intro H1 n0
 have en0 := n0.len
 have qP := (n0.old _ (hget_lt qP)).trans qP
 have q0 := n0.new
 refine Rq ?_
 have tr : ∀ a b c d e f g h i j k m n o p q r s t u v w x y z : AV, let l := lc_resultsO_ok a b c d e f g h i j k m n o p q r s t u v w x; trim ((8,z)::(4,y)::l) l = [(0,a),(1,b),(2,c),(3,d),(4,y),(8,z),(9,g),(10,h),(11,i),(12,j),(13,k),(14,m),(15,n),(20,o),(21,p),(22,q),(39,r),(40,s),(41,t),(42,u),(46,v),(54,w),(86,x)] := by intros; rfl
 refine R_nil (tr ..) ?_; clear tr
 refine then_n ?_
 refine at_seq rfl ?_
 refine rg rfl ?_
 refine Rq ?_
 refine R_q rfl (by simp (disch := first | omega | (simp only [List.length_map, List.length_append, List.length_set, List.length_cons, List.length_nil]; omega)) only [go_sem, ↓reduceIte, Nat.reduceEqDiff, reduceCtorEq, q0, qy, qw, qx, hpa]; exact pairsA_len _) ?_
 refine A_makeSlice (ms27n _ _ (pQ L t).length _ _ _ (by omega) (by simp (disch := first | omega | (simp only [List.length_map, List.length_append, List.length_set, List.length_cons, List.length_nil]; omega)) only [go_sem, ↓reduceIte, Nat.reduceEqDiff, reduceCtorEq, q0, qy, qw, qx, hpa]) (by simp (disch := first | omega | (simp only [List.length_map, List.length_append, List.length_set, List.length_cons, List.length_nil]; omega)) only [go_sem, ↓reduceIte, Nat.reduceEqDiff, reduceCtorEq, q0, qy, qw, qx, hpa])) ?_
 intro H2 n1
 have en1 := n1.len
 have q0 := (n1.old _ (hget_lt q0)).trans q0
 have qP := (n1.old _ (hget_lt qP)).trans qP
 have qy := n1.new
 refine Rq ?_
 have tr : ∀ a b c d e f g h i j k m n o p q r s t u v w x y z A B : AV, let l := lc_resultsO_ok a b c d e f g h i j k m n o p q r s t u v w x; trim ((9,B)::(18,A)::(17,z)::(16,y)::l) l = [(0,a),(1,b),(2,c),(3,d),(4,e),(8,f),(9,B),(10,h),(11,i),(12,j),(13,k),(14,m),(15,n),(20,o),(21,p),(22,q),(39,r),(40,s),(41,t),(42,u),(46,v),(54,w),(86,x)] := by intros; rfl
 refine R_nil (tr ..) ?_; clear tr
 refine then_n ?_
 refine at_seq rfl ?_
 refine at_seq rfl ?_
 refine rg rfl ?_
 refine Rq ?_
 refine R_q rfl (by simp (disch := first | omega | (simp only [List.length_map, List.length_append, List.length_set, List.length_cons, List.length_nil]; omega)) only [go_sem, ↓reduceIte, Nat.reduceEqDiff, reduceCtorEq, q0, qy, qw, qx, hpa]; exact pairsA_len _) ?_
 refine Rq ?_
 have tr : ∀ a b c d e f g h i j k m n o p q r s t u v w x y z A : AV, let l := lc_resultsO_ok a b c d e f g h i j k m n o p q r s t u v w x; trim ((21,A)::(20,z)::(19,y)::l) l = [(0,a),(1,b),(2,c),(3,d),(4,e),(8,f),(9,g),(10,h),(11,i),(12,j),(13,k),(14,m),(15,n),(20,z),(21,A),(22,q),(39,r),(40,s),(41,t),(42,u),(46,v),(54,w),(86,x)] := by intros; rfl
 refine R_nil (tr ..) ?_; clear tr
 refine then_n ?_
 refine at_block rfl ?_
 refine loop_n rfl (fun mm kv H' => ∃ i : Nat, ∃ x10 x22 : AV, (kv = [(10, x10), (21, AV.i i), (22, x22)]) ∧ (mm = (pQ L t).length - i) ∧ (hget H' b0 = some (P.map AV.i)) ∧ (hget H' H.length = some (raceO b0 P L)) ∧ (hget H' H1.length = some ((yN f (pQ L t).length i).map AV.i)) ∧ (H'.length = H2.length) ∧ (i ≤ (pQ L t).length)) ⟨0, _, _, rfl, rfl, by exact qP, by exact q0, by exact qy, by rfl, by omega⟩ (by rfl) ?_
 rintro mm kv HA ⟨i, x10, x22, rfl, rfl, qP, q0, qy, hHA, hi⟩
 have tr : ∀ a b c d e f g h i j k m n o p q r s t u v w x y z A : AV, upd [(0,a),(1,b),(2,c),(3,d),(4,e),(8,f),(9,g),(10,h),(11,i),(12,j),(13,k),(14,m),(15,n),(20,o),(21,p),(22,q),(39,r),(40,s),(41,t),(42,u),(46,v),(54,w),(86,x)] [(10,y),(21,z),(22,A)] = [(0,a),(1,b),(2,c),(3,d),(4,e),(8,f),(9,g),(10,y),(11,i),(12,j),(13,k),(14,m),(15,n),(20,o),(21,z),(22,A),(39,r),(40,s),(41,t),(42,u),(46,v),(54,w),(86,x)] := by intros; rfl
 refine W_to (tr ..) ?_; clear tr
 refine at_seq rfl ?_
 refine rg rfl ?_
 refine Rq ?_
 have tr : ∀ a b c d e f g h i j k m n o p q r s t u v w x y : AV, let l := lc_resultsO_ok a b c d e f g h i j k m n o p q r s t u v w x; trim ((22,y)::l) l = [(0,a),(1,b),(2,c),(3,d),(4,e),(8,f),(9,g),(10,h),(11,i),(12,j),(13,k),(14,m),(15,n),(20,o),(21,p),(22,y),(39,r),(40,s),(41,t),(42,u),(46,v),(54,w),(86,x)] := by intros; rfl
 refine R_nil (tr ..) ?_; clear tr
 refine then_n ?_
 refine at_seq rfl ?_
 refine cdd (fun h1 => ?_) (fun h1 => ?_)
 ·
  try simp only [decide_eq_true_eq, decide_eq_false_iff_not, Bool.not_eq_true', Bool.not_eq_false', beq_iff_eq, beq_eq_false_iff_ne, ne_eq] at h1
  refine at_skip rfl ?_
  refine then_n ?_
  refine at_seq rfl ?_
  refine at_block rfl ?_
  refine at_seq rfl ?_
  refine rg rfl ?_
  refine Rq ?_
  refine Rq ?_
  have tr : ∀ a b c d e f g h i j k m n o p q r s t u v w x y z : AV, let l := lc_resultsO_ok a b c d e f g h i j k m n o p q r s t u v w x; trim ((10,z)::(23,y)::l) l = [(0,a),(1,b),(2,c),(3,d),(4,e),(8,f),(9,g),(10,z),(11,i),(12,j),(13,k),(14,m),(15,n),(20,o),(21,p),(22,q),(39,r),(40,s),(41,t),(42,u),(46,v),(54,w),(86,x)] := by intros; rfl
  refine R_nil (tr ..) ?_; clear tr
  refine then_n ?_
  refine rg rfl ?_
  have hfi := hfr i (by omega)
  have hyl := yN_len f (pQ L t).length i
  refine Rq ?_
  refine Rq ?_
  refine Rq ?_
  refine Rq ?_
  refine Rq ?_
  refine Rq ?_
  refine Rq ?_
  refine R_q rfl (by simp (disch := first | omega | (simp only [List.length_map, List.length_append, List.length_set, List.length_cons, List.length_nil]; omega)) only [go_sem, ↓reduceIte, Nat.reduceEqDiff, reduceCtorEq, q0, qy, qw, qx, hpa, qP] <;> rfl) ?_
  refine Rq ?_
  have lq0 := hget_lt q0
  have lqy := hget_lt qy
  have lqP := hget_lt qP
  refine A_store ty2 (by simp (disch := first | omega | (simp only [List.length_map, List.length_append, List.length_set, List.length_cons, List.length_nil]; omega)) only [go_sem, ↓reduceIte, Nat.reduceEqDiff, reduceCtorEq, q0, qy, qw, qx, hpa] <;> rfl) (by simp (disch := first | omega | (simp only [List.length_map, List.length_append, List.length_set, List.length_cons, List.length_nil]; omega)) only [go_sem, ↓reduceIte, Nat.reduceEqDiff, reduceCtorEq, q0, qy, qw, qx, hpa] <;> rfl) qy ⟨by omega, rfl, by simp only [List.length_map, List.length_set]; omega⟩ (k' := (yN f (pQ L t).length (i + 1)).map AV.i) (by rw [setL_map]; rfl) ?_
  intro HA1 wA1
  have ewA1 := wA1.len
  have q0 := (wA1.old _ (by omega)).trans q0
  have qP := (wA1.old _ (by omega)).trans qP
  have qy := wA1.new
  have tr : ∀ a b c d e f g h i j k m n o p q r s t u v w x y z A B C D E F G : AV, let l := lc_resultsO_ok a b c d e f g h i j k m n o p q r s t u v w x; trim ((32,G)::(31,F)::(30,E)::(29,D)::(28,C)::(27,B)::(26,A)::(25,z)::(24,y)::l) l = [(0,a),(1,b),(2,c),(3,d),(4,e),(8,f),(9,g),(10,h),(11,i),(12,j),(13,k),(14,m),(15,n),(20,o),(21,p),(22,q),(39,r),(40,s),(41,t),(42,u),(46,v),(54,w),(86,x)] := by intros; rfl
  refine R_nil (tr ..) ?_; clear tr
  refine blk_n ?_
  refine then_n ?_
  refine rg rfl ?_
  refine Rq ?_
  refine Rq ?_
  have tr : ∀ a b c d e f g h i j k m n o p q r s t u v w x y z : AV, let l := lc_resultsO_ok a b c d e f g h i j k m n o p q r s t u v w x; trim ((21,z)::(33,y)::l) l = [(0,a),(1,b),(2,c),(3,d),(4,e),(8,f),(9,g),(10,h),(11,i),(12,j),(13,k),(14,m),(15,n),(20,o),(21,z),(22,q),(39,r),(40,s),(41,t),(42,u),(46,v),(54,w),(86,x)] := by intros; rfl
  refine R_nil (tr ..) ?_; clear tr
  refine then_n ?_
  exact ⟨_, _, ⟨i + 1, _, _, rfl, rfl, by exact qP, by exact q0, by exact qy, by (show HA1.length = H2.length; omega), by omega⟩, by rfl, by omega⟩
 ·
  try simp only [decide_eq_true_eq, decide_eq_false_iff_not, Bool.not_eq_true', Bool.not_eq_false', beq_iff_eq, beq_eq_false_iff_ne, ne_eq] at h1
  refine at_exit rfl ?_
  refine then_x ?_
  refine then_x ?_
  refine blk_x ?_
  refine then_n ?_
  refine at_seq rfl ?_
  refine rg rfl ?_
  obtain rfl : i = (pQ L t).length := by omega
  refine Rq ?_
  refine R_q rfl (by simp (disch := first | omega | (simp only [List.length_map, List.length_append, List.length_set, List.length_cons, List.length_nil]; omega)) only [go_sem, ↓reduceIte, Nat.reduceEqDiff, reduceCtorEq, q0, qy, qw, qx, hpa, qP] <;> rfl) ?_
  refine Rq ?_
  refine A_makeSlice (ms40n _ _ L.length _ _ _ (by omega) (by simp (disch := first | omega | (simp only [List.length_map, List.length_append, List.length_set, List.length_cons, List.length_nil]; omega)) only [go_sem, ↓reduceIte, Nat.reduceEqDiff, reduceCtorEq, q0, qy, qw, qx, hpa]) (by simp (disch := first | omega | (simp only [List.length_map, List.length_append, List.length_set, List.length_cons, List.length_nil]; omega)) only [go_sem, ↓reduceIte, Nat.reduceEqDiff, reduceCtorEq, q0, qy, qw, qx, hpa])) ?_
  intro H4 n2
  have en2 := n2.len
  have q0 := (n2.old _ (hget_lt q0)).trans q0
  have qy := (n2.old _ (hget_lt qy)).trans qy
  have qP := (n2.old _ (hget_lt qP)).trans qP
  have qw := n2.new
  refine Rq ?_
  have tr : ∀ a b c d e f g h i j k m n o p q r s t u v w x y z A B C : AV, let l := lc_resultsO_ok a b c d e f g h i j k m n o p q r s t u v w x; trim ((11,C)::(37,B)::(36,A)::(35,z)::(34,y)::l) l = [(0,a),(1,b),(2,c),(3,d),(4,e),(8,f),(9,g),(10,h),(11,C),(12,j),(13,k),(14,m),(15,n),(20,o),(21,p),(22,q),(39,r),(40,s),(41,t),(42,u),(46,v),(54,w),(86,x)] := by intros; rfl
  refine R_nil (tr ..) ?_; clear tr
  refine then_n ?_
  refine at_seq rfl ?_
  refine at_seq rfl ?_
  refine rg rfl ?_
  refine Rq ?_
  refine R_q rfl (by simp (disch := first | omega | (simp only [List.length_map, List.length_append, List.length_set, List.length_cons, List.length_nil]; omega)) only [go_sem, ↓reduceIte, Nat.reduceEqDiff, reduceCtorEq, q0, qy, qw, qx, hpa, qP] <;> rfl) ?_
  refine Rq ?_
  refine Rq ?_
  have tr : ∀ a b c d e f g h i j k m n o p q r s t u v w x y z A B : AV, let l := lc_resultsO_ok a b c d e f g h i j k m n o p q r s t u v w x; trim ((41,B)::(40,A)::(39,z)::(38,y)::l) l = [(0,a),(1,b),(2,c),(3,d),(4,e),(8,f),(9,g),(10,h),(11,i),(12,j),(13,k),(14,m),(15,n),(20,o),(21,p),(22,q),(39,z),(40,A),(41,B),(42,u),(46,v),(54,w),(86,x)] := by intros; rfl
  refine R_nil (tr ..) ?_; clear tr
  refine then_n ?_
  refine at_block rfl ?_
  refine loop_n rfl (fun mm kv H' => ∃ u : Nat, ∃ x12 x13 x14 x15 x42 x46 x54 x86 : AV, (kv = [(12, x12), (13, x13), (14, x14), (15, x15), (41, AV.i u), (42, x42), (46, x46), (54, x54), (86, x86)]) ∧ (mm = L.length - u) ∧ (hget H' b0 = some (P.map AV.i)) ∧ (hget H' H.length = some (raceO b0 P L)) ∧ (hget H' H1.length = some ((resN (pQ L t) t L (yN f (pQ L t).length (pQ L t).length) u).1.map AV.i)) ∧ (hget H' HA.length = some ((resN (pQ L t) t L (yN f (pQ L t).length (pQ L t).length) u).2.map AV.i)) ∧ (H4.length ≤ H'.length) ∧ (u ≤ L.length)) ⟨0, _, _, _, _, _, _, _, _, rfl, rfl, by exact qP, by exact q0, by exact qy, by exact qw, by exact Nat.le_refl _, by omega⟩ (by rfl) ?_
  rintro mm kv HB ⟨u, x12, x13, x14, x15, x42, x46, x54, x86, rfl, rfl, qP, q0, qy, qw, hHB, hu⟩
  have tr : ∀ a b c d e f g h i j k m n o p q r s t u v w x y z A B C D E F G : AV, upd [(0,a),(1,b),(2,c),(3,d),(4,e),(8,f),(9,g),(10,h),(11,i),(12,j),(13,k),(14,m),(15,n),(20,o),(21,p),(22,q),(39,r),(40,s),(41,t),(42,u),(46,v),(54,w),(86,x)] [(12,y),(13,z),(14,A),(15,B),(41,C),(42,D),(46,E),(54,F),(86,G)] = [(0,a),(1,b),(2,c),(3,d),(4,e),(8,f),(9,g),(10,h),(11,i),(12,y),(13,z),(14,A),(15,B),(20,o),(21,p),(22,q),(39,r),(40,s),(41,C),(42,D),(46,E),(54,F),(86,G)] := by intros; rfl
  refine W_to (tr ..) ?_; clear tr
  have hrl := res_len (pQ L t) t L (yN f (pQ L t).length (pQ L t).length) u
  rw [yN_len] at hrl
  obtain ⟨hrl1, hrl2⟩ := hrl
  refine at_seq rfl ?_
  refine rg rfl ?_
  refine Rq ?_
  have tr : ∀ a b c d e f g h i j k m n o p q r s t u v w x y : AV, let l := lc_resultsO_ok a b c d e f g h i j k m n o p q r s t u v w x; trim ((42,y)::l) l = [(0,a),(1,b),(2,c),(3,d),(4,e),(8,f),(9,g),(10,h),(11,i),(12,j),(13,k),(14,m),(15,n),(20,o),(21,p),(22,q),(39,r),(40,s),(41,t),(42,y),(46,v),(54,w),(86,x)] := by intros; rfl
  refine R_nil (tr ..) ?_; clear tr
  refine then_n ?_
  refine at_seq rfl ?_
  refine cdd (fun h2 => ?_) (fun h2 => ?_)
  ·
   try simp only [decide_eq_true_eq, decide_eq_false_iff_not, Bool.not_eq_true', Bool.not_eq_false', beq_iff_eq, beq_eq_false_iff_ne, ne_eq] at h2
   refine at_skip rfl ?_
   refine then_n ?_
   refine at_seq rfl ?_
   refine at_block rfl ?_
   refine at_seq rfl ?_
   refine rg rfl ?_
   refine Rq ?_
   refine Rq ?_
   refine R_q rfl (by simp (disch := first | omega | (simp only [List.length_map, List.length_append, List.length_set, List.length_cons, List.length_nil]; omega)) only [go_sem, ↓reduceIte, Nat.reduceEqDiff, reduceCtorEq, q0, qy, qw, qx, hpa, qP] <;> rfl) ?_
   refine A_alloc rfl ?_
   intro HC n4
   have en4 := n4.len
   have q0 := (n4.old _ (hget_lt q0)).trans q0
   have qy := (n4.old _ (hget_lt qy)).trans qy
   have qw := (n4.old _ (hget_lt qw)).trans qw
   have qP := (n4.old _ (hget_lt qP)).trans qP
   have qx := n4.new
   refine Rq ?_
   have lq0 := hget_lt q0
   have lqy := hget_lt qy
   have lqw := hget_lt qw
   have lqx := hget_lt qx
   have lqP := hget_lt qP
   refine A_store ty58 (by simp (disch := first | omega | (simp only [List.length_map, List.length_append, List.length_set, List.length_cons, List.length_nil]; omega)) only [go_sem, ↓reduceIte, Nat.reduceEqDiff, reduceCtorEq, q0, qy, qw, qx, hpa] <;> rfl) (by simp (disch := first | omega | (simp only [List.length_map, List.length_append, List.length_set, List.length_cons, List.length_nil]; omega)) only [go_sem, ↓reduceIte, Nat.reduceEqDiff, reduceCtorEq, q0, qy, qw, qx, hpa] <;> rfl) qx ⟨by omega, rfl, by first | exact Nat.le_refl _ | simp⟩ (show _ = prC (gt L u) from rfl) ?_
   intro HD w4
   have ew4 := w4.len
   have q0 := (w4.old _ (by omega)).trans q0
   have qy := (w4.old _ (by omega)).trans qy
   have qw := (w4.old _ (by omega)).trans qw
   have qP := (w4.old _ (by omega)).trans qP
   have qx := w4.new
   have tr : ∀ a b c d e f g h i j k m n o p q r s t u v w x y z A B C : AV, let l := lc_resultsO_ok a b c d e f g h i j k m n o p q r s t u v w x; trim ((12,C)::(13,B)::(45,A)::(44,z)::(43,y)::l) l = [(0,a),(1,b),(2,c),(3,d),(4,e),(8,f),(9,g),(10,h),(11,i),(12,C),(13,B),(14,m),(15,n),(20,o),(21,p),(22,q),(39,r),(40,s),(41,t),(42,u),(46,v),(54,w),(86,x)] := by intros; rfl
   refine R_nil (tr ..) ?_; clear tr
   refine then_n ?_
   refine at_block rfl ?_
   refine at_seq rfl ?_
   refine rg rfl ?_
   refine Rq ?_
   refine R_q rfl (by simp (disch := first | omega | (simp only [List.length_map, List.length_append, List.length_set, List.length_cons, List.length_nil]; omega)) only [go_sem, ↓reduceIte, Nat.reduceEqDiff, reduceCtorEq, q0, qy, qw, qx, hpa, qP] <;> rfl) ?_
   refine Rq ?_
   refine Rq ?_
   refine Rq ?_
   have tr : ∀ a b c d e f g h i j k m n o p q r s t u v w x y z A B C : AV, let l := lc_resultsO_ok a b c d e f g h i j k m n o p q r s t u v w x; trim ((46,C)::(50,B)::(49,A)::(48,z)::(47,y)::l) l = [(0,a),(1,b),(2,c),(3,d),(4,e),(8,f),(9,g),(10,h),(11,i),(12,j),(13,k),(14,m),(15,n),(20,o),(21,p),(22,q),(39,r),(40,s),(41,t),(42,u),(46,C),(54,w),(86,x)] := by intros; rfl
   refine R_nil (tr ..) ?_; clear tr
   refine then_n ?_
   refine cdd (fun h3 => ?_) (fun h3 => ?_)
   ·
    try simp only [decide_eq_true_eq, decide_eq_false_iff_not, Bool.not_eq_true', Bool.not_eq_false', beq_iff_eq, beq_eq_false_iff_ne, ne_eq] at h3
    refine rg rfl ?_
    refine Rq ?_
    refine Rq ?_
    refine Rq ?_
    have lq0 := hget_lt q0
    have lqy := hget_lt qy
    have lqw := hget_lt qw
    have lqx := hget_lt qx
    have lqP := hget_lt qP
    refine A_store ty3 (by simp (disch := first | omega | (simp only [List.length_map, List.length_append, List.length_set, List.length_cons, List.length_nil]; omega)) only [go_sem, ↓reduceIte, Nat.reduceEqDiff, reduceCtorEq, q0, qy, qw, qx, hpa] <;> rfl) (by simp (disch := first | omega | (simp only [List.length_map, List.length_append, List.length_set, List.length_cons, List.length_nil]; omega)) only [go_sem, ↓reduceIte, Nat.reduceEqDiff, reduceCtorEq, q0, qy, qw, qx, hpa] <;> rfl) qw ⟨by omega, rfl, by simp only [List.length_map, List.length_set]; omega⟩ (k' := ((resN (pQ L t) t L (yN f (pQ L t).length (pQ L t).length) u).2.set u 2).map AV.i) (by rw [setL_map]) ?_
    intro HE1 wE1
    have ewE1 := wE1.len
    have q0 := (wE1.old _ (by omega)).trans q0
    have qy := (wE1.old _ (by omega)).trans qy
    have qx := (wE1.old _ (by omega)).trans qx
    have qP := (wE1.old _ (by omega)).trans qP
    have qw := wE1.new
    have tr : ∀ a b c d e f g h i j k m n o p q r s t u v w x y z A : AV, let l := lc_resultsO_ok a b c d e f g h i j k m n o p q r s t u v w x; trim ((53,A)::(52,z)::(51,y)::l) l = [(0,a),(1,b),(2,c),(3,d),(4,e),(8,f),(9,g),(10,h),(11,i),(12,j),(13,k),(14,m),(15,n),(20,o),(21,p),(22,q),(39,r),(40,s),(41,t),(42,u),(46,v),(54,w),(86,x)] := by intros; rfl
    refine R_nil (tr ..) ?_; clear tr
    refine blk_n ?_
    refine blk_n ?_
    refine then_n ?_
    refine rg rfl ?_
    refine Rq ?_
    refine Rq ?_
    have tr : ∀ a b c d e f g h i j k m n o p q r s t u v w x y z : AV, let l := lc_resultsO_ok a b c d e f g h i j k m n o p q r s t u v w x; trim ((41,z)::(92,y)::l) l = [(0,a),(1,b),(2,c),(3,d),(4,e),(8,f),(9,g),(10,h),(11,i),(12,j),(13,k),(14,m),(15,n),(20,o),(21,p),(22,q),(39,r),(40,s),(41,z),(42,u),(46,v),(54,w),(86,x)] := by intros; rfl
    refine R_nil (tr ..) ?_; clear tr
    refine then_n ?_
    exact ⟨_, _, ⟨u + 1, _, _, _, _, _, _, _, _, rfl, rfl, by exact qP, by exact q0, by first | (rw [res_a (by assumption)]; exact qy) | (rw [res_b (by assumption) (by assumption)]; exact qy) | (rw [res_c (by assumption) (by assumption) hji]; exact qy), by first | (rw [res_a (by assumption)]; exact qw) | (rw [res_b (by assumption) (by assumption)]; exact qw) | (rw [res_c (by assumption) (by assumption) hji, if_pos (by assumption)]; exact qw) | (rw [res_c (by assumption) (by assumption) hji, if_neg (fun hh => hh (by assumption))]; exact qw), by first | (show H4.length ≤ HE4.length; omega) | (show H4.length ≤ HE3.length; omega) | (show H4.length ≤ HE1.length; omega) | (show H4.length ≤ HD.length; omega), by omega⟩, by rfl, by omega⟩
   ·
    try simp only [decide_eq_true_eq, decide_eq_false_iff_not, Bool.not_eq_true', Bool.not_eq_false', beq_iff_eq, beq_eq_false_iff_ne, ne_eq] at h3
    refine at_seq rfl ?_
    refine rg rfl ?_
    refine Rq ?_
    refine R_q rfl (by simp (disch := first | omega | (simp only [List.length_map, List.length_append, List.length_set, List.length_cons, List.length_nil]; omega)) only [go_sem, ↓reduceIte, Nat.reduceEqDiff, reduceCtorEq, q0, qy, qw, qx, hpa, qP] <;> rfl) ?_
    refine Rq ?_
    refine Rq ?_
    refine Rq ?_
    have tr : ∀ a b c d e f g h i j k m n o p q r s t u v w x y z A B C : AV, let l := lc_resultsO_ok a b c d e f g h i j k m n o p q r s t u v w x; trim ((54,C)::(58,B)::(57,A)::(56,z)::(55,y)::l) l = [(0,a),(1,b),(2,c),(3,d),(4,e),(8,f),(9,g),(10,h),(11,i),(12,j),(13,k),(14,m),(15,n),(20,o),(21,p),(22,q),(39,r),(40,s),(41,t),(42,u),(46,v),(54,C),(86,x)] := by intros; rfl
    refine R_nil (tr ..) ?_; clear tr
    refine then_n ?_
    refine cdd (fun h4 => ?_) (fun h4 => ?_)
    ·
     try simp only [decide_eq_true_eq, decide_eq_false_iff_not, Bool.not_eq_true', Bool.not_eq_false', beq_iff_eq, beq_eq_false_iff_ne, ne_eq] at h4
     refine at_seq rfl ?_
     refine rg rfl ?_
     refine Rq ?_
     refine R_q rfl (by simp (disch := first | omega | (simp only [List.length_map, List.length_append, List.length_set, List.length_cons, List.length_nil]; omega)) only [go_sem, ↓reduceIte, Nat.reduceEqDiff, reduceCtorEq, q0, qy, qw, qx, hpa, qP] <;> rfl) ?_
     refine Rcall ?_
     refine ACall_eq (pair_ok _ _ _) ?_
     refine Rcall ?_
     have hq0 : 0 < (pQ L t).length := by
       obtain ⟨j0, hj0, _⟩ := WQ.all u (by omega) ⟨by omega, by omega⟩
       omega
     have hpa : pairsA (othN L t L.length) = prsAV (pQ L t) := pairsA_at hq0
     refine ACall_mono (idxA_ok (indexsl_ok _ _ (pQ L t) _ (by omega)) hq0) ?_
     rintro r H6 ⟨⟨k, rfl, hk⟩, rfl⟩
     obtain ⟨j, rfl, hj, hjn, hji⟩ := idx_is WQ hNQ (by omega) (by omega) (by omega) hk
     refine Rq ?_
     have tr : ∀ a b c d e f g h i j k m n o p q r s t u v w x y z A B C : AV, let l := lc_resultsO_ok a b c d e f g h i j k m n o p q r s t u v w x; trim ((14,C)::(62,B)::(61,A)::(60,z)::(59,y)::l) l = [(0,a),(1,b),(2,c),(3,d),(4,e),(8,f),(9,g),(10,h),(11,i),(12,j),(13,k),(14,C),(15,n),(20,o),(21,p),(22,q),(39,r),(40,s),(41,t),(42,u),(46,v),(54,w),(86,x)] := by intros; rfl
     refine R_nil (tr ..) ?_; clear tr
     refine then_n ?_
     refine at_seq rfl ?_
     refine rg rfl ?_
     have hjr := (res_ok hY (Q := pQ L t) (t := t) (L := L) u (by omega)).1 j
     rw [yN_gt _ _ _ (Nat.le_refl _), if_pos hj] at hjr
     have hfj := hfr j hj
     have hqj := hqr j hj
     refine Rq ?_
     refine Rq ?_
     refine Rq ?_
     refine R_q rfl (by simp (disch := first | omega | (simp only [List.length_map, List.length_append, List.length_set, List.length_cons, List.length_nil]; omega)) only [go_sem, ↓reduceIte, Nat.reduceEqDiff, reduceCtorEq, q0, qy, qw, qx, hpa, qP] <;> rfl) ?_
     refine Rq ?_
     refine Rq ?_
     have tr : ∀ a b c d e f g h i j k m n o p q r s t u v w x y z A B C D : AV, let l := lc_resultsO_ok a b c d e f g h i j k m n o p q r s t u v w x; trim ((15,D)::(67,C)::(66,B)::(65,A)::(64,z)::(63,y)::l) l = [(0,a),(1,b),(2,c),(3,d),(4,e),(8,f),(9,g),(10,h),(11,i),(12,j),(13,k),(14,m),(15,D),(20,o),(21,p),(22,q),(39,r),(40,s),(41,t),(42,u),(46,v),(54,w),(86,x)] := by intros; rfl
     refine R_nil (tr ..) ?_; clear tr
     refine then_n ?_
     refine at_seq rfl ?_
     refine rg rfl ?_
     refine Rq ?_
     refine Rq ?_
     refine Rq ?_
     refine R_q rfl (by simp (disch := first | omega | (simp only [List.length_map, List.length_append, List.length_set, List.length_cons, List.length_nil]; omega)) only [go_sem, ↓reduceIte, Nat.reduceEqDiff, reduceCtorEq, q0, qy, qw, qx, hpa, qP] <;> rfl) ?_
     refine Rq ?_
     refine Rq ?_
     refine Rq ?_
     have lq0 := hget_lt q0
     have lqy := hget_lt qy
     have lqw := hget_lt qw
     have lqx := hget_lt qx
     have lqP := hget_lt qP
     refine A_store ty2 (by simp (disch := first | omega | (simp only [List.length_map, List.length_append, List.length_set, List.length_cons, List.length_nil]; omega)) only [go_sem, ↓reduceIte, Nat.reduceEqDiff, reduceCtorEq, q0, qy, qw, qx, hpa] <;> rfl) (by simp (disch := first | omega | (simp only [List.length_map, List.length_append, List.length_set, List.length_cons, List.length_nil]; omega)) only [go_sem, ↓reduceIte, Nat.reduceEqDiff, reduceCtorEq, q0, qy, qw, qx, hpa] <;> rfl) qy ⟨by omega, rfl, by simp only [List.length_map, List.length_set]; omega⟩ (k' := ((resN (pQ L t) t L (yN f (pQ L t).length (pQ L t).length) u).1.set j (gt (resN (pQ L t) t L (yN f (pQ L t).length (pQ L t).length) u).1 j - (min (gt (resN (pQ L t) t L (yN f (pQ L t).length (pQ L t).length) u).1 j) 2))).map AV.i) (by rw [setL_map]) ?_
     intro HE2 wE2
     have ewE2 := wE2.len
     have q0 := (wE2.old _ (by omega)).trans q0
     have qw := (wE2.old _ (by omega)).trans qw
     have qx := (wE2.old _ (by omega)).trans qx
     have qP := (wE2.old _ (by omega)).trans qP
     have qy := wE2.new
     have tr : ∀ a b c d e f g h i j k m n o p q r s t u v w x y z A B C D E : AV, let l := lc_resultsO_ok a b c d e f g h i j k m n o p q r s t u v w x; trim ((74,E)::(73,D)::(72,C)::(71,B)::(70,A)::(69,z)::(68,y)::l) l = [(0,a),(1,b),(2,c),(3,d),(4,e),(8,f),(9,g),(10,h),(11,i),(12,j),(13,k),(14,m),(15,n),(20,o),(21,p),(22,q),(39,r),(40,s),(41,t),(42,u),(46,v),(54,w),(86,x)] := by intros; rfl
     refine R_nil (tr ..) ?_; clear tr
     refine then_n ?_
     refine at_seq rfl ?_
     refine rg rfl ?_
     refine Rq ?_
     refine Rq ?_
     refine Rq ?_
     refine Rq ?_
     have lq0 := hget_lt q0
     have lqy := hget_lt qy
     have lqw := hget_lt qw
     have lqx := hget_lt qx
     have lqP := hget_lt qP
     refine A_store ty3 (by simp (disch := first | omega | (simp only [List.length_map, List.length_append, List.length_set, List.length_cons, List.length_nil]; omega)) only [go_sem, ↓reduceIte, Nat.reduceEqDiff, reduceCtorEq, q0, qy, qw, qx, hpa] <;> rfl) (by simp (disch := first | omega | (simp only [List.length_map, List.length_append, List.length_set, List.length_cons, List.length_nil]; omega)) only [go_sem, ↓reduceIte, Nat.reduceEqDiff, reduceCtorEq, q0, qy, qw, qx, hpa] <;> rfl) qw ⟨by omega, rfl, by simp only [List.length_map, List.length_set]; omega⟩ (k' := ((resN (pQ L t) t L (yN f (pQ L t).length (pQ L t).length) u).2.set u (min (gt (resN (pQ L t) t L (yN f (pQ L t).length (pQ L t).length) u).1 j) 2)).map AV.i) (by rw [setL_map]) ?_
     intro HE3 wE3
     have ewE3 := wE3.len
     have q0 := (wE3.old _ (by omega)).trans q0
     have qy := (wE3.old _ (by omega)).trans qy
     have qx := (wE3.old _ (by omega)).trans qx
     have qP := (wE3.old _ (by omega)).trans qP
     have qw := wE3.new
     have tr : ∀ a b c d e f g h i j k m n o p q r s t u v w x y z A B : AV, let l := lc_resultsO_ok a b c d e f g h i j k m n o p q r s t u v w x; trim ((78,B)::(77,A)::(76,z)::(75,y)::l) l = [(0,a),(1,b),(2,c),(3,d),(4,e),(8,f),(9,g),(10,h),(11,i),(12,j),(13,k),(14,m),(15,n),(20,o),(21,p),(22,q),(39,r),(40,s),(41,t),(42,u),(46,v),(54,w),(86,x)] := by intros; rfl
     refine R_nil (tr ..) ?_; clear tr
     refine then_n ?_
     refine at_seq rfl ?_
     refine rd rfl rfl ?_
     refine Qq ?_
     refine Q_q rfl (by simp (disch := first | omega | (simp only [List.length_map, List.length_append, List.length_set, List.length_cons, List.length_nil]; omega)) only [go_sem, ↓reduceIte, Nat.reduceEqDiff, reduceCtorEq, q0, qy, qw, qx, hpa, qP] <;> rfl) ?_
     refine Qq ?_
     refine Qq ?_
     refine Q_q rfl (by simp (disch := first | omega | (simp only [List.length_map, List.length_append, List.length_set, List.length_cons, List.length_nil]; omega)) only [go_sem, ↓reduceIte, Nat.reduceEqDiff, reduceCtorEq, q0, qy, qw, qx, hpa] <;> rfl) ?_
     refine Qq ?_
     refine Q_q rfl (by simp (disch := first | omega | (simp only [List.length_map, List.length_append, List.length_set, List.length_cons, List.length_nil]; omega)) only [go_sem, ↓reduceIte, Nat.reduceEqDiff, reduceCtorEq, Nat.zero_mul, Nat.add_zero, flatP0 (pQ L t) j hj] <;> rfl) ?_
     refine Qq ?_
     refine Q_nil ?_
     have tr : ∀ a b c d e f g h i j k m n o p q r s t u v w x y z A B C D E F : AV, let l := lc_resultsO_ok a b c d e f g h i j k m n o p q r s t u v w x; trim ((86,F)::(85,E)::(84,D)::(83,C)::(82,B)::(81,A)::(80,z)::(79,y)::l) l = [(0,a),(1,b),(2,c),(3,d),(4,e),(8,f),(9,g),(10,h),(11,i),(12,j),(13,k),(14,m),(15,n),(20,o),(21,p),(22,q),(39,r),(40,s),(41,t),(42,u),(46,v),(54,w),(86,F)] := by intros; rfl
     refine R_nil (tr ..) ?_; clear tr
     refine then_n ?_
     refine cdd (fun h5 => ?_) (fun h5 => ?_)
     ·
      try simp only [decide_eq_true_eq, decide_eq_false_iff_not, Bool.not_eq_true', Bool.not_eq_false', beq_iff_eq, beq_eq_false_iff_ne, ne_eq] at h5
      refine rg rfl ?_
      refine Rq ?_
      refine Rq ?_
      refine Rq ?_
      refine Rq ?_
      refine Rq ?_
      have lq0 := hget_lt q0
      have lqy := hget_lt qy
      have lqw := hget_lt qw
      have lqx := hget_lt qx
      have lqP := hget_lt qP
      refine A_store ty3 (by simp (disch := first | omega | (simp only [List.length_map, List.length_append, List.length_set, List.length_cons, List.length_nil]; omega)) only [go_sem, ↓reduceIte, Nat.reduceEqDiff, reduceCtorEq, q0, qy, qw, qx, hpa] <;> rfl) (by simp (disch := first | omega | (simp only [List.length_map, List.length_append, List.length_set, List.length_cons, List.length_nil]; omega)) only [go_sem, ↓reduceIte, Nat.reduceEqDiff, reduceCtorEq, q0, qy, qw, qx, hpa] <;> rfl) qw ⟨by omega, rfl, by simp only [List.length_map, List.length_set]; omega⟩ (k' := ((resN (pQ L t) t L (yN f (pQ L t).length (pQ L t).length) u).2.set u (2 - (min (gt (resN (pQ L t) t L (yN f (pQ L t).length (pQ L t).length) u).1 j) 2))).map AV.i) (by rw [setL_map, List.set_set]) ?_
      intro HE4 wE4
      have ewE4 := wE4.len
      have q0 := (wE4.old _ (by omega)).trans q0
      have qy := (wE4.old _ (by omega)).trans qy
      have qx := (wE4.old _ (by omega)).trans qx
      have qP := (wE4.old _ (by omega)).trans qP
      have qw := wE4.new
      have tr : ∀ a b c d e f g h i j k m n o p q r s t u v w x y z A B C : AV, let l := lc_resultsO_ok a b c d e f g h i j k m n o p q r s t u v w x; trim ((91,C)::(90,B)::(89,A)::(88,z)::(87,y)::l) l = [(0,a),(1,b),(2,c),(3,d),(4,e),(8,f),(9,g),(10,h),(11,i),(12,j),(13,k),(14,m),(15,n),(20,o),(21,p),(22,q),(39,r),(40,s),(41,t),(42,u),(46,v),(54,w),(86,x)] := by intros; rfl
      refine R_nil (tr ..) ?_; clear tr
      refine blk_n ?_
      refine blk_n ?_
      refine then_n ?_
      refine rg rfl ?_
      refine Rq ?_
      refine Rq ?_
      have tr : ∀ a b c d e f g h i j k m n o p q r s t u v w x y z : AV, let l := lc_resultsO_ok a b c d e f g h i j k m n o p q r s t u v w x; trim ((41,z)::(92,y)::l) l = [(0,a),(1,b),(2,c),(3,d),(4,e),(8,f),(9,g),(10,h),(11,i),(12,j),(13,k),(14,m),(15,n),(20,o),(21,p),(22,q),(39,r),(40,s),(41,z),(42,u),(46,v),(54,w),(86,x)] := by intros; rfl
      refine R_nil (tr ..) ?_; clear tr
      refine then_n ?_
      exact ⟨_, _, ⟨u + 1, _, _, _, _, _, _, _, _, rfl, rfl, by exact qP, by exact q0, by first | (rw [res_a (by assumption)]; exact qy) | (rw [res_b (by assumption) (by assumption)]; exact qy) | (rw [res_c (by assumption) (by assumption) hji]; exact qy), by first | (rw [res_a (by assumption)]; exact qw) | (rw [res_b (by assumption) (by assumption)]; exact qw) | (rw [res_c (by assumption) (by assumption) hji, if_pos (by assumption)]; exact qw) | (rw [res_c (by assumption) (by assumption) hji, if_neg (fun hh => hh (by assumption))]; exact qw), by first | (show H4.length ≤ HE4.length; omega) | (show H4.length ≤ HE3.length; omega) | (show H4.length ≤ HE1.length; omega) | (show H4.length ≤ HD.length; omega), by omega⟩, by rfl, by omega⟩
     ·
      try simp only [decide_eq_true_eq, decide_eq_false_iff_not, Bool.not_eq_true', Bool.not_eq_false', beq_iff_eq, beq_eq_false_iff_ne, ne_eq] at h5
      refine at_skip rfl ?_
      refine blk_n ?_
      refine blk_n ?_
      refine then_n ?_
      refine rg rfl ?_
      refine Rq ?_
      refine Rq ?_
      have tr : ∀ a b c d e f g h i j k m n o p q r s t u v w x y z : AV, let l := lc_resultsO_ok a b c d e f g h i j k m n o p q r s t u v w x; trim ((41,z)::(92,y)::l) l = [(0,a),(1,b),(2,c),(3,d),(4,e),(8,f),(9,g),(10,h),(11,i),(12,j),(13,k),(14,m),(15,n),(20,o),(21,p),(22,q),(39,r),(40,s),(41,z),(42,u),(46,v),(54,w),(86,x)] := by intros; rfl
      refine R_nil (tr ..) ?_; clear tr
      refine then_n ?_
      exact ⟨_, _, ⟨u + 1, _, _, _, _, _, _, _, _, rfl, rfl, by exact qP, by exact q0, by first | (rw [res_a (by assumption)]; exact qy) | (rw [res_b (by assumption) (by assumption)]; exact qy) | (rw [res_c (by assumption) (by assumption) hji]; exact qy), by first | (rw [res_a (by assumption)]; exact qw) | (rw [res_b (by assumption) (by assumption)]; exact qw) | (rw [res_c (by assumption) (by assumption) hji, if_pos (by assumption)]; exact qw) | (rw [res_c (by assumption) (by assumption) hji, if_neg (fun hh => hh (by assumption))]; exact qw), by first | (show H4.length ≤ HE4.length; omega) | (show H4.length ≤ HE3.length; omega) | (show H4.length ≤ HE1.length; omega) | (show H4.length ≤ HD.length; omega), by omega⟩, by rfl, by omega⟩
    ·
     try simp only [decide_eq_true_eq, decide_eq_false_iff_not, Bool.not_eq_true', Bool.not_eq_false', beq_iff_eq, beq_eq_false_iff_ne, ne_eq] at h4
     refine at_skip rfl ?_
     refine blk_n ?_
     refine blk_n ?_
     refine then_n ?_
     refine rg rfl ?_
     refine Rq ?_
     refine Rq ?_
     have tr : ∀ a b c d e f g h i j k m n o p q r s t u v w x y z : AV, let l := lc_resultsO_ok a b c d e f g h i j k m n o p q r s t u v w x; trim ((41,z)::(92,y)::l) l = [(0,a),(1,b),(2,c),(3,d),(4,e),(8,f),(9,g),(10,h),(11,i),(12,j),(13,k),(14,m),(15,n),(20,o),(21,p),(22,q),(39,r),(40,s),(41,z),(42,u),(46,v),(54,w),(86,x)] := by intros; rfl
     refine R_nil (tr ..) ?_; clear tr
     refine then_n ?_
     exact ⟨_, _, ⟨u + 1, _, _, _, _, _, _, _, _, rfl, rfl, by exact qP, by exact q0, by first | (rw [res_a (by assumption)]; exact qy) | (rw [res_b (by assumption) (by assumption)]; exact qy) | (rw [res_c (by assumption) (by assumption) hji]; exact qy), by first | (rw [res_a (by assumption)]; exact qw) | (rw [res_b (by assumption) (by assumption)]; exact qw) | (rw [res_c (by assumption) (by assumption) hji, if_pos (by assumption)]; exact qw) | (rw [res_c (by assumption) (by assumption) hji, if_neg (fun hh => hh (by assumption))]; exact qw), by first | (show H4.length ≤ HE4.length; omega) | (show H4.length ≤ HE3.length; omega) | (show H4.length ≤ HE1.length; omega) | (show H4.length ≤ HD.length; omega), by omega⟩, by rfl, by omega⟩
  ·
   try simp only [decide_eq_true_eq, decide_eq_false_iff_not, Bool.not_eq_true', Bool.not_eq_false', beq_iff_eq, beq_eq_false_iff_ne, ne_eq] at h2
   refine at_exit rfl ?_
   refine then_x ?_
   refine then_x ?_
   refine blk_x ?_
   refine then_n ?_
   refine at_seq rfl ?_
   refine rg rfl ?_
   refine Rq ?_
   refine Rq ?_
   have tr : ∀ a b c d e f g h i j k m n o p q r s t u v w x y z : AV, let l := lc_resultsO_ok a b c d e f g h i j k m n o p q r s t u v w x; trim ((8,z)::(93,y)::l) l = [(0,a),(1,b),(2,c),(3,d),(4,e),(8,z),(9,g),(10,h),(11,i),(12,j),(13,k),(14,m),(15,n),(20,o),(21,p),(22,q),(39,r),(40,s),(41,t),(42,u),(46,v),(54,w),(86,x)] := by intros; rfl
   refine R_nil (tr ..) ?_; clear tr
   refine then_n ?_
   refine at_ret rfl ?_
   obtain rfl : u = L.length := by omega
   refine fpure ?_
   exact ⟨frz_ownI (by omega) qw (by omega), rfl⟩

abbrev lc_firstO_ok (a b c d e f g h i j k m n o p q r s t u v w x y z A B C D E F : AV) : Env := [(0,a),(1,b),(2,c),(4,d),(5,e),(6,f),(7,g),(8,h),(9,i),(10,j),(11,k),(12,m),(13,n),(15,o),(16,p),(17,q),(18,r),(26,s),(30,t),(31,u),(32,v),(33,w),(39,x),(58,y),(59,z),(60,A),(79,B),(89,C),(90,D),(91,E),(100,F)]
theorem firstO_ok (lim : Nat) (H : Heap) (P : List Int) (L : List Pr) (t : Int) (b0 : Nat) (qP : hget H b0 = some (P.map AV.i)) :
    ACall sig lim 29 [.agg (raceO b0 P L), AV.i t] H fun r H' => FirstP P L t r ∧ H' = H := by
 have q0 : True := trivial
 have q4 : True := trivial
 have qg : True := trivial
 have qv : True := trivial
 have hfe : True := trivial
 have hce : True := trivial
 have hst : True := trivial
 have lP0 := hget_lt qP
 refine ACall_pure (fa := fa29) rfl rfl rfl rfl ?_
 have tr : ∀ a0 a1 : AV, env0 fa29.keep [a0, a1] = [(0,a0),(1,a1),(2,.any),(4,.any),(5,.any),(6,.any),(7,.any),(8,.any),(9,.any),(10,.any),(11,.any),(12,.any),(13,.any),(15,.any),(16,.any),(17,.any),(18,.any),(26,.any),(30,.any),(31,.any),(32,.any),(33,.any),(39,.any),(58,.any),(59,.any),(60,.any),(79,.any),(89,.any),(90,.any),(91,.any),(100,.any)] := fun a0 a1 => rfl
 refine W_to (tr _ _) ?_; clear tr
 refine at_seq rfl ?_
 refine rg rfl ?_
 refine A_box rfl (by simp (disch := first | omega | (simp only [List.length_map, List.length_append, List.length_set, List.length_cons, List.length_nil]; omega)) only [go_sem, ↓reduceIte, Nat.reduceEqDiff, reduceCtorEq] <;> rfl) ?_
 intro H1 n0
 have en0 := n0.len
 have qP := (n0.old _ (hget_lt qP)).trans qP
 have q0 := n0.new
 refine A_alloc rfl ?_
 intro H2 n1
 have en1 := n1.len
 have q0 := (n1.old _ (hget_lt q0)).trans q0
 have qP := (n1.old _ (hget_lt qP)).trans qP
 have q4 := n1.new
 refine Rq ?_
 have tr : ∀ a b c d e f g h i j k m n o p q r s t u v w x y z A B C D E F G H I : AV, let l := lc_firstO_ok a b c d e f g h i j k m n o p q r s t u v w x y z A B C D E F; trim ((5,I)::(4,H)::(2,G)::l) l = [(0,a),(1,b),(2,G),(4,H),(5,I),(6,f),(7,g),(8,h),(9,i),(10,j),(11,k),(12,m),(13,n),(15,o),(16,p),(17,q),(18,r),(26,s),(30,t),(31,u),(32,v),(33,w),(39,x),(58,y),(59,z),(60,A),(79,B),(89,C),(90,D),(91,E),(100,F)] := by intros; rfl
 refine R_nil (tr ..) ?_; clear tr
 refine then_n ?_
 refine at_seq rfl ?_
 refine rg rfl ?_
 refine R_q rfl (by simp (disch := first | omega | (simp only [List.length_map, List.length_append, List.length_set, List.length_cons, List.length_nil]; omega)) only [go_sem, ↓reduceIte, Nat.reduceEqDiff, reduceCtorEq, q0, q4, qg, qv, hfe, hce, hst, qP] <;> rfl) ?_
 refine Rq ?_
 refine Rcall ?_
 refine ACall_eq (mst_x _ _ P L t _ (frz_raceO L qP)) ?_
 refine Rq ?_
 refine Rq ?_
 refine Rq ?_
 refine Rq ?_
 refine Rq ?_
 have tr : ∀ a b c d e f g h i j k m n o p q r s t u v w x y z A B C D E F G H I J K L M N : AV, let l := lc_firstO_ok a b c d e f g h i j k m n o p q r s t u v w x y z A B C D E F; trim ((7,N)::(6,M)::(24,L)::(23,K)::(19,J)::(22,I)::(21,H)::(20,G)::l) l = [(0,a),(1,b),(2,c),(4,d),(5,e),(6,M),(7,N),(8,h),(9,i),(10,j),(11,k),(12,m),(13,n),(15,o),(16,p),(17,q),(18,r),(26,s),(30,t),(31,u),(32,v),(33,w),(39,x),(58,y),(59,z),(60,A),(79,B),(89,C),(90,D),(91,E),(100,F)] := by intros; rfl
 refine R_nil (tr ..) ?_; clear tr
 refine then_n ?_
 refine at_seq rfl ?_
 refine at_seq rfl ?_
 refine rg rfl ?_
 refine Rq ?_
 refine Rq ?_
 have tr : ∀ a b c d e f g h i j k m n o p q r s t u v w x y z A B C D E F G H : AV, let l := lc_firstO_ok a b c d e f g h i j k m n o p q r s t u v w x y z A B C D E F; trim ((26,H)::(25,G)::l) l = [(0,a),(1,b),(2,c),(4,d),(5,e),(6,f),(7,g),(8,h),(9,i),(10,j),(11,k),(12,m),(13,n),(15,o),(16,p),(17,q),(18,r),(26,H),(30,t),(31,u),(32,v),(33,w),(39,x),(58,y),(59,z),(60,A),(79,B),(89,C),(90,D),(91,E),(100,F)] := by intros; rfl
 refine R_nil (tr ..) ?_; clear tr
 refine then_n ?_
 refine cdd (fun h1 => ?_) (fun h1 => ?_)
 ·
  try simp only [decide_eq_true_eq, decide_eq_false_iff_not, Bool.not_eq_true', Bool.not_eq_false', beq_iff_eq, beq_eq_false_iff_ne, ne_eq] at h1
  refine at_seq rfl ?_
  refine rg rfl ?_
  refine Rq ?_
  refine Rq ?_
  have lq0 := hget_lt q0
  have lq4 := hget_lt q4
  have lqP := hget_lt qP
  refine A_store ty46 (by simp (disch := first | omega | (simp only [List.length_map, List.length_append, List.length_set, List.length_cons, List.length_nil]; omega)) only [go_sem, ↓reduceIte, Nat.reduceEqDiff, reduceCtorEq, q0, q4, qg, qv, hfe, hce, hst] <;> rfl) (by simp (disch := first | omega | (simp only [List.length_map, List.length_append, List.length_set, List.length_cons, List.length_nil]; omega)) only [go_sem, ↓reduceIte, Nat.reduceEqDiff, reduceCtorEq, q0, q4, qg, qv, hfe, hce, hst] <;> rfl) q4 ⟨by omega, rfl, by first | exact Nat.le_refl _ | simp⟩ (show _ = [.v (.bool false), nilP, nilP] from rfl) ?_
  intro HZa wza
  have ewza := wza.len
  have q0 := (wza.old _ (by omega)).trans q0
  have qP := (wza.old _ (by omega)).trans qP
  have q4 := wza.new
  refine Rq ?_
  have tr : ∀ a b c d e f g h i j k m n o p q r s t u v w x y z A B C D E F G H I : AV, let l := lc_firstO_ok a b c d e f g h i j k m n o p q r s t u v w x y z A B C D E F; trim ((5,I)::(28,H)::(27,G)::l) l = [(0,a),(1,b),(2,c),(4,d),(5,I),(6,f),(7,g),(8,h),(9,i),(10,j),(11,k),(12,m),(13,n),(15,o),(16,p),(17,q),(18,r),(26,s),(30,t),(31,u),(32,v),(33,w),(39,x),(58,y),(59,z),(60,A),(79,B),(89,C),(90,D),(91,E),(100,F)] := by intros; rfl
  refine R_nil (tr ..) ?_; clear tr
  refine then_n ?_
  refine at_ret rfl ?_
  refine then_r ?_
  refine fin_pure (rs := [.cell 4 46, .tmp 5]) rfl (by simp only [go_sem, ↓reduceIte, Nat.reduceEqDiff, q4]; rfl) rfl ?_
  obtain ⟨fB, fS⟩ := first_e (by assumption : ¬ (mostS P L t).2 = 0)
  refine ⟨⟨[], nilP, ?_, .inl ⟨fB, rfl, rfl⟩⟩, rfl⟩
  rw [fB, fS]
  rfl
 ·
  try simp only [decide_eq_true_eq, decide_eq_false_iff_not, Bool.not_eq_true', Bool.not_eq_false', beq_iff_eq, beq_eq_false_iff_ne, ne_eq] at h1
  refine at_skip rfl ?_
  refine then_n ?_
  refine at_seq rfl ?_
  refine at_seq rfl ?_
  refine rg rfl ?_
  have hm0 : (mostS P L t).2 = 0 := by assumption
  obtain ⟨g, t0, t1⟩ := most_of hm0
  have g20 := g.n20
  have g2 := g.n2
  have gel := g.el
  have gpr := g.pr
  have hme := most_eq hm0
  have hmr := most_rng (L := L) (g.pt t.toNat (by omega)).1 (g.pt t.toNat (by omega)).2 L.length
  rw [← hme] at hmr
  refine Rq ?_
  refine R_q rfl (by simp (disch := first | omega | (simp only [List.length_map, List.length_append, List.length_set, List.length_cons, List.length_nil]; omega)) only [go_sem, ↓reduceIte, Nat.reduceEqDiff, reduceCtorEq, q0, q4, qg, qv, hfe, hce, hst, qP] <;> rfl) ?_
  refine Rq ?_
  refine Rq ?_
  have tr : ∀ a b c d e f g h i j k m n o p q r s t u v w x y z A B C D E F G H I J : AV, let l := lc_firstO_ok a b c d e f g h i j k m n o p q r s t u v w x y z A B C D E F; trim ((32,J)::(31,I)::(30,H)::(29,G)::l) l = [(0,a),(1,b),(2,c),(4,d),(5,e),(6,f),(7,g),(8,h),(9,i),(10,j),(11,k),(12,m),(13,n),(15,o),(16,p),(17,q),(18,r),(26,s),(30,H),(31,I),(32,J),(33,w),(39,x),(58,y),(59,z),(60,A),(79,B),(89,C),(90,D),(91,E),(100,F)] := by intros; rfl
  refine R_nil (tr ..) ?_; clear tr
  refine then_n ?_
  refine at_block rfl ?_
  refine loop_n rfl (fun mm kv H' => ∃ u : Nat, ∃ x5 x8 x9 x33 x39 : AV, (kv = [(5, x5), (8, x8), (9, x9), (32, AV.i u), (33, x33), (39, x39)]) ∧ (mm = P.length - u) ∧ (H2 = H') ∧ (u ≤ P.length) ∧ (badN P (mostS P L t).1 u = -1)) ⟨0, _, _, _, _, _, rfl, rfl, by rfl, by omega, by rfl⟩ (by rfl) ?_
  rintro mm kv HX ⟨u, x5, x8, x9, x33, x39, rfl, rfl, hX, hu, hq⟩
  have tr : ∀ a b c d e f g h i j k m n o p q r s t u v w x y z A B C D E F G H I J K L : AV, upd [(0,a),(1,b),(2,c),(4,d),(5,e),(6,f),(7,g),(8,h),(9,i),(10,j),(11,k),(12,m),(13,n),(15,o),(16,p),(17,q),(18,r),(26,s),(30,t),(31,u),(32,v),(33,w),(39,x),(58,y),(59,z),(60,A),(79,B),(89,C),(90,D),(91,E),(100,F)] [(5,G),(8,H),(9,I),(32,J),(33,K),(39,L)] = [(0,a),(1,b),(2,c),(4,d),(5,G),(6,f),(7,g),(8,H),(9,I),(10,j),(11,k),(12,m),(13,n),(15,o),(16,p),(17,q),(18,r),(26,s),(30,t),(31,u),(32,J),(33,K),(39,L),(58,y),(59,z),(60,A),(79,B),(89,C),(90,D),(91,E),(100,F)] := by intros; rfl
  refine W_to (tr ..) ?_; clear tr
  subst hX
  refine at_seq rfl ?_
  refine rg rfl ?_
  refine Rq ?_
  have tr : ∀ a b c d e f g h i j k m n o p q r s t u v w x y z A B C D E F G : AV, let l := lc_firstO_ok a b c d e f g h i j k m n o p q r s t u v w x y z A B C D E F; trim ((33,G)::l) l = [(0,a),(1,b),(2,c),(4,d),(5,e),(6,f),(7,g),(8,h),(9,i),(10,j),(11,k),(12,m),(13,n),(15,o),(16,p),(17,q),(18,r),(26,s),(30,t),(31,u),(32,v),(33,G),(39,x),(58,y),(59,z),(60,A),(79,B),(89,C),(90,D),(91,E),(100,F)] := by intros; rfl
  refine R_nil (tr ..) ?_; clear tr
  refine then_n ?_
  refine at_seq rfl ?_
  refine cdd (fun h2 => ?_) (fun h2 => ?_)
  ·
   try simp only [decide_eq_true_eq, decide_eq_false_iff_not, Bool.not_eq_true', Bool.not_eq_false', beq_iff_eq, beq_eq_false_iff_ne, ne_eq] at h2
   refine at_skip rfl ?_
   refine then_n ?_
   refine at_seq rfl ?_
   refine at_block rfl ?_
   refine at_seq rfl ?_
   refine rg rfl ?_
   have hpu := g.pt u (by omega)
   refine Rq ?_
   refine Rq ?_
   refine R_q rfl (by simp (disch := first | omega | (simp only [List.length_map, List.length_append, List.length_set, List.length_cons, List.length_nil]; omega)) only [go_sem, ↓reduceIte, Nat.reduceEqDiff, reduceCtorEq, q0, q4, qg, qv, hfe, hce, hst, qP] <;> rfl) ?_
   refine Rq ?_
   refine Rq ?_
   have tr : ∀ a b c d e f g h i j k m n o p q r s t u v w x y z A B C D E F G H I J K : AV, let l := lc_firstO_ok a b c d e f g h i j k m n o p q r s t u v w x y z A B C D E F; trim ((9,K)::(8,J)::(36,I)::(35,H)::(34,G)::l) l = [(0,a),(1,b),(2,c),(4,d),(5,e),(6,f),(7,g),(8,J),(9,K),(10,j),(11,k),(12,m),(13,n),(15,o),(16,p),(17,q),(18,r),(26,s),(30,t),(31,u),(32,v),(33,w),(39,x),(58,y),(59,z),(60,A),(79,B),(89,C),(90,D),(91,E),(100,F)] := by intros; rfl
   refine R_nil (tr ..) ?_; clear tr
   refine then_n ?_
   refine at_seq rfl ?_
   refine rg rfl ?_
   refine Rq ?_
   refine Rq ?_
   refine Rq ?_
   have tr : ∀ a b c d e f g h i j k m n o p q r s t u v w x y z A B C D E F G H I : AV, let l := lc_firstO_ok a b c d e f g h i j k m n o p q r s t u v w x y z A B C D E F; trim ((39,I)::(38,H)::(37,G)::l) l = [(0,a),(1,b),(2,c),(4,d),(5,e),(6,f),(7,g),(8,h),(9,i),(10,j),(11,k),(12,m),(13,n),(15,o),(16,p),(17,q),(18,r),(26,s),(30,t),(31,u),(32,v),(33,w),(39,I),(58,y),(59,z),(60,A),(79,B),(89,C),(90,D),(91,E),(100,F)] := by intros; rfl
   refine R_nil (tr ..) ?_; clear tr
   refine then_n ?_
   refine cdd (fun h3 => ?_) (fun h3 => ?_)
   ·
    try simp only [decide_eq_true_eq, decide_eq_false_iff_not, Bool.not_eq_true', Bool.not_eq_false', beq_iff_eq, beq_eq_false_iff_ne, ne_eq] at h3
    refine at_seq rfl ?_
    refine rg rfl ?_
    refine Rq ?_
    refine A_buildSlice (bs40' _ _ _ _ (u : Int) (by simp (disch := first | omega | (simp only [List.length_map, List.length_append, List.length_set, List.length_cons, List.length_nil]; omega)) only [go_sem, ↓reduceIte, Nat.reduceEqDiff, reduceCtorEq, q0, q4, qg, qv, hfe, hce, hst])) ?_
    intro H3 n2
    have en2 := n2.len
    have q0 := (n2.old _ (hget_lt q0)).trans q0
    have q4 := (n2.old _ (hget_lt q4)).trans q4
    have qP := (n2.old _ (hget_lt qP)).trans qP
    have qn := n2.new
    refine Rq ?_
    have lq0 := hget_lt q0
    have lq4 := hget_lt q4
    have lqn := hget_lt qn
    have lqP := hget_lt qP
    refine A_store ty46 (by simp (disch := first | omega | (simp only [List.length_map, List.length_append, List.length_set, List.length_cons, List.length_nil]; omega)) only [go_sem, ↓reduceIte, Nat.reduceEqDiff, reduceCtorEq, q0, q4, qg, qv, hfe, hce, hst] <;> rfl) (by simp (disch := first | omega | (simp only [List.length_map, List.length_append, List.length_set, List.length_cons, List.length_nil]; omega)) only [go_sem, ↓reduceIte, Nat.reduceEqDiff, reduceCtorEq, q0, q4, qg, qv, hfe, hce, hst] <;> rfl) q4 ⟨by omega, rfl, by first | exact Nat.le_refl _ | simp⟩ (show _ = [.v (.bool false), .own 1 H2.length 0 1, nilP] from rfl) ?_
    intro HZb wzb
    have ewzb := wzb.len
    have q0 := (wzb.old _ (by omega)).trans q0
    have qn := (wzb.old _ (by omega)).trans qn
    have qP := (wzb.old _ (by omega)).trans qP
    have q4 := wzb.new
    refine Rq ?_
    have tr : ∀ a b c d e f g h i j k m n o p q r s t u v w x y z A B C D E F G H I J : AV, let l := lc_firstO_ok a b c d e f g h i j k m n o p q r s t u v w x y z A B C D E F; trim ((5,J)::(42,I)::(41,H)::(40,G)::l) l = [(0,a),(1,b),(2,c),(4,d),(5,J),(6,f),(7,g),(8,h),(9,i),(10,j),(11,k),(12,m),(13,n),(15,o),(16,p),(17,q),(18,r),(26,s),(30,t),(31,u),(32,v),(33,w),(39,x),(58,y),(59,z),(60,A),(79,B),(89,C),(90,D),(91,E),(100,F)] := by intros; rfl
    refine R_nil (tr ..) ?_; clear tr
    refine then_n ?_
    refine at_ret rfl ?_
    refine blk_r ?_
    refine then_r ?_
    refine then_r ?_
    refine blk_r ?_
    refine then_r ?_
    refine fin_pure (rs := [.cell 4 46, .tmp 5]) rfl (by simp only [go_sem, ↓reduceIte, Nat.reduceEqDiff, q4]; rfl) rfl ?_
    have hbk := bad_at hq (by omega) P.length (by omega)
    obtain ⟨fB, fS⟩ := first_b hm0 (by omega)
    refine ⟨⟨[], nilP, ?_, .inl ⟨fB, rfl, rfl⟩⟩, rfl⟩
    rw [fB, fS]
    rw [hbk]
    show AV.tup [AV.agg [_, frz HZb H.length 6 _, _], _] = _
    rw [frz_ownI (n := 1) (l := [(u : Int)]) (by omega) qn rfl]
    rw [hm0]
    rfl
   ·
    try simp only [decide_eq_true_eq, decide_eq_false_iff_not, Bool.not_eq_true', Bool.not_eq_false', beq_iff_eq, beq_eq_false_iff_ne, ne_eq] at h3
    refine at_skip rfl ?_
    refine blk_n ?_
    refine then_n ?_
    refine rg rfl ?_
    refine Rq ?_
    refine Rq ?_
    have tr : ∀ a b c d e f g h i j k m n o p q r s t u v w x y z A B C D E F G H : AV, let l := lc_firstO_ok a b c d e f g h i j k m n o p q r s t u v w x y z A B C D E F; trim ((32,H)::(43,G)::l) l = [(0,a),(1,b),(2,c),(4,d),(5,e),(6,f),(7,g),(8,h),(9,i),(10,j),(11,k),(12,m),(13,n),(15,o),(16,p),(17,q),(18,r),(26,s),(30,t),(31,u),(32,H),(33,w),(39,x),(58,y),(59,z),(60,A),(79,B),(89,C),(90,D),(91,E),(100,F)] := by intros; rfl
    refine R_nil (tr ..) ?_; clear tr
    refine then_n ?_
    exact ⟨_, _, ⟨u + 1, _, _, _, _, _, rfl, rfl, by rfl, by omega, by exact bad_on hq (by omega)⟩, by rfl, by omega⟩
  ·
   try simp only [decide_eq_true_eq, decide_eq_false_iff_not, Bool.not_eq_true', Bool.not_eq_false', beq_iff_eq, beq_eq_false_iff_ne, ne_eq] at h2
   refine at_exit rfl ?_
   refine then_x ?_
   refine then_x ?_
   refine blk_x ?_
   refine then_n ?_
   refine at_seq rfl ?_
   refine rg rfl ?_
   obtain rfl : u = P.length := by omega
   have hpa := bad_all hq
   have WQ : PQ L t (pQ L t) := (pq_prog L t L.length).to
   have hql := pq_len WQ
   obtain ⟨E, f, sn, e1, e2, e3, hc0, hE1, hE2, hfl, hsl, hEc, hfr, CU⟩ := first_sum hm0 hpa WQ (pb := 2) (tb := (2 + ((pQ L t).length : Int))) (n := (2 + ((pQ L t).length : Int) + (P.length : Int))) ⟨by omega, by omega, by omega, by omega, by omega⟩ (by omega)
   have hqe : (pairsN (othN L t L.length) (othN L t L.length).length).length = (pQ L t).length := rfl
   have hqe2 : (pairsN (othS L t) (othS L t).length).length = (pQ L t).length := rfl
   refine R_q rfl (by simp (disch := first | omega | (simp only [List.length_map, List.length_append, List.length_set, List.length_cons, List.length_nil]; omega)) only [go_sem, ↓reduceIte, Nat.reduceEqDiff, reduceCtorEq, q0, q4, qg, qv, hfe, hce, hst, qP] <;> rfl) ?_
   refine Rq ?_
   refine Rq ?_
   refine Rcall ?_
   refine ACall_eq (graphO_ok _ _ P L t _ g t0 t1 (fun k hk => by have := hpa k hk; omega) (by omega) b0 qP) ?_
   rewrite [e1]
   refine Rq ?_
   refine Rq ?_
   refine Rq ?_
   refine A_alloc rfl ?_
   intro H4 n3
   have en3 := n3.len
   have q0 := (n3.old _ (hget_lt q0)).trans q0
   have q4 := (n3.old _ (hget_lt q4)).trans q4
   have qP := (n3.old _ (hget_lt qP)).trans qP
   have qg := n3.new
   have lq0 := hget_lt q0
   have lq4 := hget_lt q4
   have lqg := hget_lt qg
   have lqP := hget_lt qP
   refine A_store ty24 (by simp (disch := first | omega | (simp only [List.length_map, List.length_append, List.length_set, List.length_cons, List.length_nil]; omega)) only [go_sem, ↓reduceIte, Nat.reduceEqDiff, reduceCtorEq, q0, q4, qg, qv, hfe, hce, hst] <;> rfl) (by simp (disch := first | omega | (simp only [List.length_map, List.length_append, List.length_set, List.length_cons, List.length_nil]; omega)) only [go_sem, ↓reduceIte, Nat.reduceEqDiff, reduceCtorEq, q0, q4, qg, qv, hfe, hce, hst] <;> rfl) qg ⟨by omega, rfl, by first | exact Nat.le_refl _ | simp⟩ (show _ = graphC (2 + ((pQ L t).length : Int) + (P.length : Int)) 0 1 E from rfl) ?_
   intro H5 w3
   have ew3 := w3.len
   have q0 := (w3.old _ (by omega)).trans q0
   have q4 := (w3.old _ (by omega)).trans q4
   have qP := (w3.old _ (by omega)).trans qP
   have qg := w3.new
   refine Rq ?_
   have tr : ∀ a b c d e f g h i j k m n o p q r s t u v w x y z A B C D E F G H I J K L M N O : AV, let l := lc_firstO_ok a b c d e f g h i j k m n o p q r s t u v w x y z A B C D E F; trim ((11,O)::(10,N)::(50,M)::(49,L)::(44,K)::(48,J)::(47,I)::(46,H)::(45,G)::l) l = [(0,a),(1,b),(2,c),(4,d),(5,e),(6,f),(7,g),(8,h),(9,i),(10,N),(11,O),(12,m),(13,n),(15,o),(16,p),(17,q),(18,r),(26,s),(30,t),(31,u),(32,v),(33,w),(39,x),(58,y),(59,z),(60,A),(79,B),(89,C),(90,D),(91,E),(100,F)] := by intros; rfl
   refine R_nil (tr ..) ?_; clear tr
   refine then_n ?_
   refine at_seq rfl ?_
   refine rg rfl ?_
   refine R_q rfl (by simp (disch := first | omega | (simp only [List.length_map, List.length_append, List.length_set, List.length_cons, List.length_nil]; omega)) only [go_sem, ↓reduceIte, Nat.reduceEqDiff, reduceCtorEq, q0, q4, qg, qv, hfe, hce, hst, qP] <;> rfl) ?_
   refine Rcall ?_
   refine ACall_eq (max_ok _ _ _ _ _ _) ?_
   rewrite [maxA_is hc0, maxB_is hc0, e2, e3]
   refine Rq ?_
   refine Rq ?_
   refine Rq ?_
   refine Rq ?_
   refine Rq ?_
   refine Rq ?_
   refine Rq ?_
   have tr : ∀ a b c d e f g h i j k m n o p q r s t u v w x y z A B C D E F G H I J K L M N O : AV, let l := lc_firstO_ok a b c d e f g h i j k m n o p q r s t u v w x y z A B C D E F; trim ((14,O)::(13,N)::(12,M)::(56,L)::(55,K)::(54,J)::(51,I)::(53,H)::(52,G)::l) l = [(0,a),(1,b),(2,c),(4,d),(5,e),(6,f),(7,g),(8,h),(9,i),(10,j),(11,k),(12,M),(13,N),(15,o),(16,p),(17,q),(18,r),(26,s),(30,t),(31,u),(32,v),(33,w),(39,x),(58,y),(59,z),(60,A),(79,B),(89,C),(90,D),(91,E),(100,F)] := by intros; rfl
   refine R_nil (tr ..) ?_; clear tr
   refine then_n ?_
   refine at_seq rfl ?_
   refine rg rfl ?_
   refine Rq ?_
   have tr : ∀ a b c d e f g h i j k m n o p q r s t u v w x y z A B C D E F G : AV, let l := lc_firstO_ok a b c d e f g h i j k m n o p q r s t u v w x y z A B C D E F; trim ((15,G)::l) l = [(0,a),(1,b),(2,c),(4,d),(5,e),(6,f),(7,g),(8,h),(9,i),(10,j),(11,k),(12,m),(13,n),(15,G),(16,p),(17,q),(18,r),(26,s),(30,t),(31,u),(32,v),(33,w),(39,x),(58,y),(59,z),(60,A),(79,B),(89,C),(90,D),(91,E),(100,F)] := by intros; rfl
   refine R_nil (tr ..) ?_; clear tr
   refine then_n ?_
   refine at_seq rfl ?_
   refine at_seq rfl ?_
   refine rg rfl ?_
   refine Rq ?_
   refine R_q rfl (by simp (disch := first | omega | (simp only [List.length_map, List.length_append, List.length_set, List.length_cons, List.length_nil]; omega)) only [go_sem, ↓reduceIte, Nat.reduceEqDiff, reduceCtorEq, q0, q4, qg, qv, hfe, hce, hst]; exact pairsA_len _) ?_
   refine Rq ?_
   have tr : ∀ a b c d e f g h i j k m n o p q r s t u v w x y z A B C D E F G H I : AV, let l := lc_firstO_ok a b c d e f g h i j k m n o p q r s t u v w x y z A B C D E F; trim ((59,I)::(58,H)::(57,G)::l) l = [(0,a),(1,b),(2,c),(4,d),(5,e),(6,f),(7,g),(8,h),(9,i),(10,j),(11,k),(12,m),(13,n),(15,o),(16,p),(17,q),(18,r),(26,s),(30,t),(31,u),(32,v),(33,w),(39,x),(58,H),(59,I),(60,A),(79,B),(89,C),(90,D),(91,E),(100,F)] := by intros; rfl
   refine R_nil (tr ..) ?_; clear tr
   refine then_n ?_
   refine at_block rfl ?_
   refine loop_n rfl (fun mm kv H' => ∃ i : Nat, ∃ full : Bool, ∃ x16 x60 : AV, (kv = [(15, AV.b full), (16, x16), (59, AV.i i), (60, x60)]) ∧ (mm = (pQ L t).length - i) ∧ (H5 = H') ∧ (i ≤ (pQ L t).length) ∧ ((full = true ↔ ∀ k, k < i → gt f (3 * k) = cQ L t (pQ L t) k))) ⟨0, true, _, _, rfl, rfl, by rfl, by omega, by exact ⟨fun _ k hk => by omega, fun _ => rfl⟩⟩ (by rfl) ?_
   rintro mm kv HX ⟨i, full, x16, x60, rfl, rfl, hX, hi, hf⟩
   have tr : ∀ a b c d e f g h i j k m n o p q r s t u v w x y z A B C D E F G H I J : AV, upd [(0,a),(1,b),(2,c),(4,d),(5,e),(6,f),(7,g),(8,h),(9,i),(10,j),(11,k),(12,m),(13,n),(15,o),(16,p),(17,q),(18,r),(26,s),(30,t),(31,u),(32,v),(33,w),(39,x),(58,y),(59,z),(60,A),(79,B),(89,C),(90,D),(91,E),(100,F)] [(15,G),(16,H),(59,I),(60,J)] = [(0,a),(1,b),(2,c),(4,d),(5,e),(6,f),(7,g),(8,h),(9,i),(10,j),(11,k),(12,m),(13,n),(15,G),(16,H),(17,q),(18,r),(26,s),(30,t),(31,u),(32,v),(33,w),(39,x),(58,y),(59,I),(60,J),(79,B),(89,C),(90,D),(91,E),(100,F)] := by intros; rfl
   refine W_to (tr ..) ?_; clear tr
   subst hX
   refine at_seq rfl ?_
   refine rg rfl ?_
   refine Rq ?_
   have tr : ∀ a b c d e f g h i j k m n o p q r s t u v w x y z A B C D E F G : AV, let l := lc_firstO_ok a b c d e f g h i j k m n o p q r s t u v w x y z A B C D E F; trim ((60,G)::l) l = [(0,a),(1,b),(2,c),(4,d),(5,e),(6,f),(7,g),(8,h),(9,i),(10,j),(11,k),(12,m),(13,n),(15,o),(16,p),(17,q),(18,r),(26,s),(30,t),(31,u),(32,v),(33,w),(39,x),(58,y),(59,z),(60,G),(79,B),(89,C),(90,D),(91,E),(100,F)] := by intros; rfl
   refine R_nil (tr ..) ?_; clear tr
   refine then_n ?_
   refine at_seq rfl ?_
   refine cdd (fun h4 => ?_) (fun h4 => ?_)
   ·
    try simp only [decide_eq_true_eq, decide_eq_false_iff_not, Bool.not_eq_true', Bool.not_eq_false', beq_iff_eq, beq_eq_false_iff_ne, ne_eq] at h4
    refine at_skip rfl ?_
    refine then_n ?_
    refine at_seq rfl ?_
    refine at_block rfl ?_
    refine at_seq rfl ?_
    refine rg rfl ?_
    refine Rq ?_
    refine Rq ?_
    have tr : ∀ a b c d e f g h i j k m n o p q r s t u v w x y z A B C D E F G H : AV, let l := lc_firstO_ok a b c d e f g h i j k m n o p q r s t u v w x y z A B C D E F; trim ((16,H)::(61,G)::l) l = [(0,a),(1,b),(2,c),(4,d),(5,e),(6,f),(7,g),(8,h),(9,i),(10,j),(11,k),(12,m),(13,n),(15,o),(16,H),(17,q),(18,r),(26,s),(30,t),(31,u),(32,v),(33,w),(39,x),(58,y),(59,z),(60,A),(79,B),(89,C),(90,D),(91,E),(100,F)] := by intros; rfl
    refine R_nil (tr ..) ?_; clear tr
    refine then_n ?_
    refine rd rfl rfl ?_
    have hfi := hfr i (by omega)
    have hfe : gt f (3 * (i : Int)).toNat = gt f (3 * i) := by rw [show (3 * (i : Int)).toNat = 3 * i by omega]
    have hce : (gt E (3 * (i : Int)).toNat).c = cQ L t (pQ L t) i := by rw [show (3 * (i : Int)).toNat = 3 * i by omega]; exact hEc i (by omega)
    refine Qq ?_
    refine Qq ?_
    refine Qp_split (fun h5 => ?_) (fun h5 => ?_)
    ·
     try simp only [decide_eq_true_eq, decide_eq_false_iff_not, Bool.not_eq_true', Bool.not_eq_false', beq_iff_eq, beq_eq_false_iff_ne, ne_eq] at h5
     refine Qy ?_
     refine Qq ?_
     refine Qy ?_
     refine Qq ?_
     refine Qy ?_
     refine Qq ?_
     refine Qy ?_
     refine Qq ?_
     refine Qy ?_
     refine Q_q rfl (by simp (disch := first | omega | (simp only [List.length_map, List.length_append, List.length_set, List.length_cons, List.length_nil]; omega)) only [go_sem, ↓reduceIte, Nat.reduceEqDiff, reduceCtorEq, q0, q4, qg, qv, hfe, hce, hst, qP] <;> rfl) ?_
     refine Qy ?_
     refine Qq ?_
     refine Qy ?_
     refine Q_q rfl (by simp (disch := first | omega | (simp only [List.length_map, List.length_append, List.length_set, List.length_cons, List.length_nil]; omega)) only [go_sem, ↓reduceIte, Nat.reduceEqDiff, reduceCtorEq, q0, q4, qg, qv, hfe, hce, hst, qP] <;> rfl) ?_
     refine Qy ?_
     refine Qq ?_
     refine Qy ?_
     refine Qq ?_
     refine Qy ?_
     refine Qq ?_
     refine Qy ?_
     refine Qq ?_
     refine Qy ?_
     refine Q_q rfl (by simp (disch := first | omega | (simp only [List.length_map, List.length_append, List.length_set, List.length_cons, List.length_nil]; omega)) only [go_sem, ↓reduceIte, Nat.reduceEqDiff, reduceCtorEq, q0, q4, qg, qv, hfe, hce, hst, qP] <;> rfl) ?_
     refine Qy ?_
     refine Qq ?_
     refine Qq ?_
     refine Qq ?_
     refine Q_nil ?_
     have tr : ∀ a b c d e f g h i j k m n o p q r s t u v w x y z A B C D E F G H I J K L M N O P Q R S T U V W : AV, let l := lc_firstO_ok a b c d e f g h i j k m n o p q r s t u v w x y z A B C D E F; trim ((15,W)::(77,V)::(76,U)::(75,T)::(74,S)::(73,R)::(72,Q)::(71,P)::(70,O)::(69,N)::(68,M)::(67,L)::(66,K)::(65,J)::(64,I)::(63,H)::(62,G)::l) l = [(0,a),(1,b),(2,c),(4,d),(5,e),(6,f),(7,g),(8,h),(9,i),(10,j),(11,k),(12,m),(13,n),(15,W),(16,p),(17,q),(18,r),(26,s),(30,t),(31,u),(32,v),(33,w),(39,x),(58,y),(59,z),(60,A),(79,B),(89,C),(90,D),(91,E),(100,F)] := by intros; rfl
     refine R_nil (tr ..) ?_; clear tr
     refine blk_n ?_
     refine then_n ?_
     refine rg rfl ?_
     refine Rq ?_
     refine Rq ?_
     have tr : ∀ a b c d e f g h i j k m n o p q r s t u v w x y z A B C D E F G H : AV, let l := lc_firstO_ok a b c d e f g h i j k m n o p q r s t u v w x y z A B C D E F; trim ((59,H)::(78,G)::l) l = [(0,a),(1,b),(2,c),(4,d),(5,e),(6,f),(7,g),(8,h),(9,i),(10,j),(11,k),(12,m),(13,n),(15,o),(16,p),(17,q),(18,r),(26,s),(30,t),(31,u),(32,v),(33,w),(39,x),(58,y),(59,H),(60,A),(79,B),(89,C),(90,D),(91,E),(100,F)] := by intros; rfl
     refine R_nil (tr ..) ?_; clear tr
     refine then_n ?_
     exact ⟨_, _, ⟨i + 1, _, _, _, rfl, rfl, by rfl, by omega, by first | exact full_on hf (by assumption) | exact full_off hf (by assumption)⟩, by rfl, by omega⟩
    ·
     try simp only [decide_eq_true_eq, decide_eq_false_iff_not, Bool.not_eq_true', Bool.not_eq_false', beq_iff_eq, beq_eq_false_iff_ne, ne_eq] at h5
     refine Qn ?_
     refine Qn ?_
     refine Qn ?_
     refine Qn ?_
     refine Qn ?_
     refine Qn ?_
     refine Qn ?_
     refine Qn ?_
     refine Qn ?_
     refine Qn ?_
     refine Qn ?_
     refine Qn ?_
     refine Qn ?_
     refine Qq ?_
     refine Qq ?_
     refine Q_nil ?_
     have tr : ∀ a b c d e f g h i j k m n o p q r s t u v w x y z A B C D E F G H I J K L M N O P Q R S T U V W : AV, let l := lc_firstO_ok a b c d e f g h i j k m n o p q r s t u v w x y z A B C D E F; trim ((15,W)::(77,V)::(76,U)::(75,T)::(74,S)::(73,R)::(72,Q)::(71,P)::(70,O)::(69,N)::(68,M)::(67,L)::(66,K)::(65,J)::(64,I)::(63,H)::(62,G)::l) l = [(0,a),(1,b),(2,c),(4,d),(5,e),(6,f),(7,g),(8,h),(9,i),(10,j),(11,k),(12,m),(13,n),(15,W),(16,p),(17,q),(18,r),(26,s),(30,t),(31,u),(32,v),(33,w),(39,x),(58,y),(59,z),(60,A),(79,B),(89,C),(90,D),(91,E),(100,F)] := by intros; rfl
     refine R_nil (tr ..) ?_; clear tr
     refine blk_n ?_
     refine then_n ?_
     refine rg rfl ?_
     refine Rq ?_
     refine Rq ?_
     have tr : ∀ a b c d e f g h i j k m n o p q r s t u v w x y z A B C D E F G H : AV, let l := lc_firstO_ok a b c d e f g h i j k m n o p q r s t u v w x y z A B C D E F; trim ((59,H)::(78,G)::l) l = [(0,a),(1,b),(2,c),(4,d),(5,e),(6,f),(7,g),(8,h),(9,i),(10,j),(11,k),(12,m),(13,n),(15,o),(16,p),(17,q),(18,r),(26,s),(30,t),(31,u),(32,v),(33,w),(39,x),(58,y),(59,H),(60,A),(79,B),(89,C),(90,D),(91,E),(100,F)] := by intros; rfl
     refine R_nil (tr ..) ?_; clear tr
     refine then_n ?_
     exact ⟨_, _, ⟨i + 1, _, _, _, rfl, rfl, by rfl, by omega, by first | exact full_on hf (by assumption) | exact full_off hf (by assumption)⟩, by rfl, by omega⟩
   ·
    try simp only [decide_eq_true_eq, decide_eq_false_iff_not, Bool.not_eq_true', Bool.not_eq_false', beq_iff_eq, beq_eq_false_iff_ne, ne_eq] at h4
    refine at_exit rfl ?_
    refine then_x ?_
    refine then_x ?_
    refine blk_x ?_
    refine then_n ?_
    refine at_seq rfl ?_
    refine at_seq rfl ?_
    refine rg rfl ?_
    refine Rq ?_
    have tr : ∀ a b c d e f g h i j k m n o p q r s t u v w x y z A B C D E F G : AV, let l := lc_firstO_ok a b c d e f g h i j k m n o p q r s t u v w x y z A B C D E F; trim ((79,G)::l) l = [(0,a),(1,b),(2,c),(4,d),(5,e),(6,f),(7,g),(8,h),(9,i),(10,j),(11,k),(12,m),(13,n),(15,o),(16,p),(17,q),(18,r),(26,s),(30,t),(31,u),(32,v),(33,w),(39,x),(58,y),(59,z),(60,A),(79,G),(89,C),(90,D),(91,E),(100,F)] := by intros; rfl
    refine R_nil (tr ..) ?_; clear tr
    refine then_n ?_
    refine cdd (fun h6 => ?_) (fun h6 => ?_)
    ·
     try simp only [decide_eq_true_eq, decide_eq_false_iff_not, Bool.not_eq_true', Bool.not_eq_false', beq_iff_eq, beq_eq_false_iff_ne, ne_eq] at h6
     refine at_seq rfl ?_
     refine rg rfl ?_
     obtain rfl : i = (pQ L t).length := by omega
     have hpos : posB P L (mostS P L t).1 t = true := CU.full.1 (hf.1 (by assumption))
     obtain ⟨fB, fS⟩ := first_y hm0 hq hpos
     refine R_q rfl (by simp (disch := first | omega | (simp only [List.length_map, List.length_append, List.length_set, List.length_cons, List.length_nil]; omega)) only [go_sem, ↓reduceIte, Nat.reduceEqDiff, reduceCtorEq, q0, q4, qg, qv, hfe, hce, hst, qP] <;> rfl) ?_
     refine Rq ?_
     refine Rq ?_
     refine Rq ?_
     refine Rcall ?_
     refine ACall_eq (resultsO_ok _ _ P L t f g t0 t1 (by omega) (by omega) (fun i hi => (hfr i hi).2) b0 qP) ?_
     refine R_q rfl (by simp (disch := first | omega | (simp only [List.length_map, List.length_append, List.length_set, List.length_cons, List.length_nil]; omega)) only [go_sem, ↓reduceIte, Nat.reduceEqDiff, reduceCtorEq, q0, q4, qg, qv, hfe, hce, hst]; exact bld46rs _ _ _) ?_
     have lq0 := hget_lt q0
     have lq4 := hget_lt q4
     have lqg := hget_lt qg
     have lqP := hget_lt qP
     refine A_store ty46 (by simp (disch := first | omega | (simp only [List.length_map, List.length_append, List.length_set, List.length_cons, List.length_nil]; omega)) only [go_sem, ↓reduceIte, Nat.reduceEqDiff, reduceCtorEq, q0, q4, qg, qv, hfe, hce, hst] <;> rfl) (by simp (disch := first | omega | (simp only [List.length_map, List.length_append, List.length_set, List.length_cons, List.length_nil]; omega)) only [go_sem, ↓reduceIte, Nat.reduceEqDiff, reduceCtorEq, q0, q4, qg, qv, hfe, hce, hst] <;> rfl) q4 ⟨by omega, rfl, by first | exact Nat.le_refl _ | simp⟩ (show _ = [.v (.bool true), nilP, intsAV _] from rfl) ?_
     intro HZc wzc
     have ewzc := wzc.len
     have q0 := (wzc.old _ (by omega)).trans q0
     have qg := (wzc.old _ (by omega)).trans qg
     have qP := (wzc.old _ (by omega)).trans qP
     have q4 := wzc.new
     refine Rq ?_
     have tr : ∀ a b c d e f g h i j k m n o p q r s t u v w x y z A B C D E F G H I J K L M : AV, let l := lc_firstO_ok a b c d e f g h i j k m n o p q r s t u v w x y z A B C D E F; trim ((5,M)::(85,L)::(84,K)::(83,J)::(82,I)::(81,H)::(80,G)::l) l = [(0,a),(1,b),(2,c),(4,d),(5,M),(6,f),(7,g),(8,h),(9,i),(10,j),(11,k),(12,m),(13,n),(15,o),(16,p),(17,q),(18,r),(26,s),(30,t),(31,u),(32,v),(33,w),(39,x),(58,y),(59,z),(60,A),(79,B),(89,C),(90,D),(91,E),(100,F)] := by intros; rfl
     refine R_nil (tr ..) ?_; clear tr
     refine then_n ?_
     refine at_ret rfl ?_
     refine then_r ?_
     refine fin_pure (rs := [.cell 4 46, .tmp 5]) rfl (by simp only [go_sem, ↓reduceIte, Nat.reduceEqDiff, q4]; rfl) rfl ?_
     refine ⟨⟨_, _, ?_, .inr ⟨fB, rfl, vr_of g t0 t1 hme CU hpos⟩⟩, rfl⟩
     rw [fB, fS]
     show AV.tup [AV.agg [_, _, AV.sl _ (List.map (frz HZc H.length 5) _)], _] = _
     rw [frz_ints, hm0]
     rfl
    ·
     try simp only [decide_eq_true_eq, decide_eq_false_iff_not, Bool.not_eq_true', Bool.not_eq_false', beq_iff_eq, beq_eq_false_iff_ne, ne_eq] at h6
     refine at_skip rfl ?_
     refine then_n ?_
     refine at_seq rfl ?_
     refine rg rfl ?_
     obtain rfl : i = (pQ L t).length := by omega
     have hneg : posB P L (mostS P L t).1 t = false := by
       cases hpb : posB P L (mostS P L t).1 t with
       | false => rfl
       | true => have h7 := hf.2 (CU.full.2 hpb); simp_all
     obtain ⟨fB, fS⟩ := first_n hm0 hq hneg
     obtain ⟨hdf, kT, hkT, hkI⟩ := CU.elim hneg
     refine Rq ?_
     refine A_alloc rfl ?_
     intro H6 n6
     have en6 := n6.len
     have q0 := (n6.old _ (hget_lt q0)).trans q0
     have q4 := (n6.old _ (hget_lt q4)).trans q4
     have qg := (n6.old _ (hget_lt qg)).trans qg
     have qP := (n6.old _ (hget_lt qP)).trans qP
     have qv := n6.new
     have lq0 := hget_lt q0
     have lq4 := hget_lt q4
     have lqg := hget_lt qg
     have lqv := hget_lt qv
     have lqP := hget_lt qP
     refine A_store ty46 (by simp (disch := first | omega | (simp only [List.length_map, List.length_append, List.length_set, List.length_cons, List.length_nil]; omega)) only [go_sem, ↓reduceIte, Nat.reduceEqDiff, reduceCtorEq, q0, q4, qg, qv, hfe, hce, hst] <;> rfl) (by simp (disch := first | omega | (simp only [List.length_map, List.length_append, List.length_set, List.length_cons, List.length_nil]; omega)) only [go_sem, ↓reduceIte, Nat.reduceEqDiff, reduceCtorEq, q0, q4, qg, qv, hfe, hce, hst] <;> rfl) qv ⟨by omega, rfl, by first | exact Nat.le_refl _ | simp⟩ (show _ = [.v (.bool false), nilP, nilP] from rfl) ?_
     intro H7 w6
     have ew6 := w6.len
     have q0 := (w6.old _ (by omega)).trans q0
     have q4 := (w6.old _ (by omega)).trans q4
     have qg := (w6.old _ (by omega)).trans qg
     have qP := (w6.old _ (by omega)).trans qP
     have qv := w6.new
     have tr : ∀ a b c d e f g h i j k m n o p q r s t u v w x y z A B C D E F G H : AV, let l := lc_firstO_ok a b c d e f g h i j k m n o p q r s t u v w x y z A B C D E F; trim ((17,H)::(86,G)::l) l = [(0,a),(1,b),(2,c),(4,d),(5,e),(6,f),(7,g),(8,h),(9,i),(10,j),(11,k),(12,m),(13,n),(15,o),(16,p),(17,H),(18,r),(26,s),(30,t),(31,u),(32,v),(33,w),(39,x),(58,y),(59,z),(60,A),(79,B),(89,C),(90,D),(91,E),(100,F)] := by intros; rfl
     refine R_nil (tr ..) ?_; clear tr
     refine then_n ?_
     refine at_seq rfl ?_
     refine at_seq rfl ?_
     refine rg rfl ?_
     refine Rq ?_
     refine R_q rfl (by simp (disch := first | omega | (simp only [List.length_map, List.length_append, List.length_set, List.length_cons, List.length_nil]; omega)) only [go_sem, ↓reduceIte, Nat.reduceEqDiff, reduceCtorEq, q0, q4, qg, qv, hfe, hce, hst, qP] <;> rfl) ?_
     refine Rq ?_
     refine Rq ?_
     have tr : ∀ a b c d e f g h i j k m n o p q r s t u v w x y z A B C D E F G H I J : AV, let l := lc_firstO_ok a b c d e f g h i j k m n o p q r s t u v w x y z A B C D E F; trim ((90,J)::(89,I)::(88,H)::(87,G)::l) l = [(0,a),(1,b),(2,c),(4,d),(5,e),(6,f),(7,g),(8,h),(9,i),(10,j),(11,k),(12,m),(13,n),(15,o),(16,p),(17,q),(18,r),(26,s),(30,t),(31,u),(32,v),(33,w),(39,x),(58,y),(59,z),(60,A),(79,B),(89,I),(90,J),(91,E),(100,F)] := by intros; rfl
     refine R_nil (tr ..) ?_; clear tr
     refine then_n ?_
     refine at_block rfl ?_
     refine loop_n rfl (fun mm kv H' => ∃ j : Nat, ∃ oS : AV, ∃ x18 x91 x100 : AV, (kv = [(18, x18), (90, AV.i j), (91, x91), (100, x100)]) ∧ (mm = P.length - j) ∧ (hget H' b0 = some (P.map AV.i)) ∧ (hget H' H.length = some (raceO b0 P L)) ∧ (hget H' H1.length = some [.v (.bool false), nilP, nilP]) ∧ (hget H' H2.length = some (graphC (2 + ((pQ L t).length : Int) + (P.length : Int)) 0 1 E)) ∧ (hget H' H5.length = some [.v (.bool false), oS, nilP]) ∧ (H7.length ≤ H'.length) ∧ (j ≤ P.length) ∧ (OutI H7.length H' oS (setN P L (mostS P L t).1 t j))) ⟨0, nilP, _, _, _, rfl, rfl, by exact qP, by exact q0, by exact q4, by exact qg, by exact qv, by exact Nat.le_refl _, by omega, by exact .inl ⟨rfl, rfl⟩⟩ (by rfl) ?_
     rintro mm kv HB ⟨j, oS, x18, x91, x100, rfl, rfl, qP, q0, q4, qg, qv, hHB, hj, hO⟩
     have tr : ∀ a b c d e f g h i j k m n o p q r s t u v w x y z A B C D E F G H I J : AV, upd [(0,a),(1,b),(2,c),(4,d),(5,e),(6,f),(7,g),(8,h),(9,i),(10,j),(11,k),(12,m),(13,n),(15,o),(16,p),(17,q),(18,r),(26,s),(30,t),(31,u),(32,v),(33,w),(39,x),(58,y),(59,z),(60,A),(79,B),(89,C),(90,D),(91,E),(100,F)] [(18,G),(90,H),(91,I),(100,J)] = [(0,a),(1,b),(2,c),(4,d),(5,e),(6,f),(7,g),(8,h),(9,i),(10,j),(11,k),(12,m),(13,n),(15,o),(16,p),(17,q),(18,G),(26,s),(30,t),(31,u),(32,v),(33,w),(39,x),(58,y),(59,z),(60,A),(79,B),(89,C),(90,H),(91,I),(100,J)] := by intros; rfl
     refine W_to (tr ..) ?_; clear tr
     refine at_seq rfl ?_
     refine rg rfl ?_
     refine Rq ?_
     have tr : ∀ a b c d e f g h i j k m n o p q r s t u v w x y z A B C D E F G : AV, let l := lc_firstO_ok a b c d e f g h i j k m n o p q r s t u v w x y z A B C D E F; trim ((91,G)::l) l = [(0,a),(1,b),(2,c),(4,d),(5,e),(6,f),(7,g),(8,h),(9,i),(10,j),(11,k),(12,m),(13,n),(15,o),(16,p),(17,q),(18,r),(26,s),(30,t),(31,u),(32,v),(33,w),(39,x),(58,y),(59,z),(60,A),(79,B),(89,C),(90,D),(91,G),(100,F)] := by intros; rfl
     refine R_nil (tr ..) ?_; clear tr
     refine then_n ?_
     refine at_seq rfl ?_
     refine cdd (fun h7 => ?_) (fun h7 => ?_)
     ·
      try simp only [decide_eq_true_eq, decide_eq_false_iff_not, Bool.not_eq_true', Bool.not_eq_false', beq_iff_eq, beq_eq_false_iff_ne, ne_eq] at h7
      refine at_skip rfl ?_
      refine then_n ?_
      refine at_seq rfl ?_
      refine at_block rfl ?_
      refine at_seq rfl ?_
      refine rg rfl ?_
      have hsj := setN_len P L (mostS P L t).1 t j
      refine Rq ?_
      refine Rq ?_
      have tr : ∀ a b c d e f g h i j k m n o p q r s t u v w x y z A B C D E F G H : AV, let l := lc_firstO_ok a b c d e f g h i j k m n o p q r s t u v w x y z A B C D E F; trim ((18,H)::(92,G)::l) l = [(0,a),(1,b),(2,c),(4,d),(5,e),(6,f),(7,g),(8,h),(9,i),(10,j),(11,k),(12,m),(13,n),(15,o),(16,p),(17,q),(18,H),(26,s),(30,t),(31,u),(32,v),(33,w),(39,x),(58,y),(59,z),(60,A),(79,B),(89,C),(90,D),(91,E),(100,F)] := by intros; rfl
      refine R_nil (tr ..) ?_; clear tr
      refine then_n ?_
      refine at_seq rfl ?_
      refine rg rfl ?_
      have hst : gt sn (2 + ((pQ L t).length : Int) + (j : Int)).toNat = inT P L (mostS P L t).1 t j := by
        have h7 := CU.set j (by omega)
        rwa [show (2 + ((pQ L t).length : Int)).toNat + j = (2 + ((pQ L t).length : Int) + (j : Int)).toNat by omega] at h7
      refine Rq ?_
      refine Rq ?_
      refine R_q rfl (by simp (disch := first | omega | (simp only [List.length_map, List.length_append, List.length_set, List.length_cons, List.length_nil]; omega)) only [go_sem, ↓reduceIte, Nat.reduceEqDiff, reduceCtorEq, q0, q4, qg, qv, hfe, hce, hst]; exact pairsA_len _) ?_
      refine Rq ?_
      refine Rq ?_
      refine Rq ?_
      refine Rq ?_
      refine R_q rfl (by simp (disch := first | omega | (simp only [List.length_map, List.length_append, List.length_set, List.length_cons, List.length_nil]; omega)) only [go_sem, ↓reduceIte, Nat.reduceEqDiff, reduceCtorEq, q0, q4, qg, qv, hfe, hce, hst, qP] <;> rfl) ?_
      have tr : ∀ a b c d e f g h i j k m n o p q r s t u v w x y z A B C D E F G H I J K L M N : AV, let l := lc_firstO_ok a b c d e f g h i j k m n o p q r s t u v w x y z A B C D E F; trim ((100,N)::(99,M)::(98,L)::(97,K)::(96,J)::(95,I)::(94,H)::(93,G)::l) l = [(0,a),(1,b),(2,c),(4,d),(5,e),(6,f),(7,g),(8,h),(9,i),(10,j),(11,k),(12,m),(13,n),(15,o),(16,p),(17,q),(18,r),(26,s),(30,t),(31,u),(32,v),(33,w),(39,x),(58,y),(59,z),(60,A),(79,B),(89,C),(90,D),(91,E),(100,N)] := by intros; rfl
      refine R_nil (tr ..) ?_; clear tr
      refine then_n ?_
      refine cdd (fun h8 => ?_) (fun h8 => ?_)
      ·
       try simp only [decide_eq_true_eq, decide_eq_false_iff_not, Bool.not_eq_true', Bool.not_eq_false', beq_iff_eq, beq_eq_false_iff_ne, ne_eq] at h8
       refine rg rfl ?_
       refine Rq ?_
       refine R_q rfl (by simp (disch := first | omega | (simp only [List.length_map, List.length_append, List.length_set, List.length_cons, List.length_nil]; omega)) only [go_sem, ↓reduceIte, Nat.reduceEqDiff, reduceCtorEq, q0, q4, qg, qv, hfe, hce, hst, qP] <;> rfl) ?_
       refine Rq ?_
       refine A_buildSlice (bs40' _ _ _ _ (j : Int) (by simp (disch := first | omega | (simp only [List.length_map, List.length_append, List.length_set, List.length_cons, List.length_nil]; omega)) only [go_sem, ↓reduceIte, Nat.reduceEqDiff, reduceCtorEq, q0, q4, qg, qv, hfe, hce, hst])) ?_
       intro HE n8
       have en8 := n8.len
       have q0 := (n8.old _ (hget_lt q0)).trans q0
       have q4 := (n8.old _ (hget_lt q4)).trans q4
       have qg := (n8.old _ (hget_lt qg)).trans qg
       have qv := (n8.old _ (hget_lt qv)).trans qv
       have qP := (n8.old _ (hget_lt qP)).trans qP
       have qn := n8.new
       have hO := hO.mono fun b hb k hk => (n8.old _ (hget_lt hk)).trans hk
       have lq0 := hget_lt q0
       have lq4 := hget_lt q4
       have lqg := hget_lt qg
       have lqv := hget_lt qv
       have lqP := hget_lt qP
       obtain ⟨b, hbl, hbl2, hap⟩ := outI_append' (lim := H.length) hO qn (by omega) (by omega) (by omega)
       refine A_append (by simp (disch := first | omega | (simp only [List.length_map, List.length_append, List.length_set, List.length_cons, List.length_nil]; omega)) only [go_sem, ↓reduceIte, Nat.reduceEqDiff, reduceCtorEq, q0, q4, qg, qv, hfe, hce, hst]; exact hap) ?_
       intro HF g8
       have eg8 := g8.len
       have q0 := (g8.old _ (by omega) lq0).trans q0
       have q4 := (g8.old _ (by omega) lq4).trans q4
       have qg := (g8.old _ (by omega) lqg).trans qg
       have qv := (g8.old _ (by omega) lqv).trans qv
       have qP := (g8.old _ (by omega) lqP).trans qP
       have qq := g8.new
       have hO := inT_new (lo := H7.length) g8 (by omega) (by assumption) rfl
       refine Rq ?_
       have lq0 := hget_lt q0
       have lq4 := hget_lt q4
       have lqg := hget_lt qg
       have lqv := hget_lt qv
       have lqP := hget_lt qP
       refine A_store ty40 (by simp (disch := first | omega | (simp only [List.length_map, List.length_append, List.length_set, List.length_cons, List.length_nil]; omega)) only [go_sem, ↓reduceIte, Nat.reduceEqDiff, reduceCtorEq, q0, q4, qg, qv, hfe, hce, hst] <;> rfl) (by simp (disch := first | omega | (simp only [List.length_map, List.length_append, List.length_set, List.length_cons, List.length_nil]; omega)) only [go_sem, ↓reduceIte, Nat.reduceEqDiff, reduceCtorEq, q0, q4, qg, qv, hfe, hce, hst] <;> rfl) qv ⟨by omega, rfl, by first | exact Nat.le_refl _ | simp⟩ (show _ = [.v (.bool false), (.own 1 HE.length 0 ((setN P L (mostS P L t).1 t j).length + 1)), nilP] from rfl) ?_
       intro HJ w8
       have ew8 := w8.len
       have q0 := (w8.old _ (by omega)).trans q0
       have q4 := (w8.old _ (by omega)).trans q4
       have qg := (w8.old _ (by omega)).trans qg
       have qP := (w8.old _ (by omega)).trans qP
       have qv := w8.new
       have hO := hO.mono fun b hb k hk => (w8.old _ (by omega)).trans hk
       have tr : ∀ a b c d e f g h i j k m n o p q r s t u v w x y z A B C D E F G H I J K L : AV, let l := lc_firstO_ok a b c d e f g h i j k m n o p q r s t u v w x y z A B C D E F; trim ((106,L)::(105,K)::(104,J)::(103,I)::(102,H)::(101,G)::l) l = [(0,a),(1,b),(2,c),(4,d),(5,e),(6,f),(7,g),(8,h),(9,i),(10,j),(11,k),(12,m),(13,n),(15,o),(16,p),(17,q),(18,r),(26,s),(30,t),(31,u),(32,v),(33,w),(39,x),(58,y),(59,z),(60,A),(79,B),(89,C),(90,D),(91,E),(100,F)] := by intros; rfl
       refine R_nil (tr ..) ?_; clear tr
       refine blk_n ?_
       refine then_n ?_
       refine rg rfl ?_
       refine Rq ?_
       refine Rq ?_
       have tr : ∀ a b c d e f g h i j k m n o p q r s t u v w x y z A B C D E F G H : AV, let l := lc_firstO_ok a b c d e f g h i j k m n o p q r s t u v w x y z A B C D E F; trim ((90,H)::(107,G)::l) l = [(0,a),(1,b),(2,c),(4,d),(5,e),(6,f),(7,g),(8,h),(9,i),(10,j),(11,k),(12,m),(13,n),(15,o),(16,p),(17,q),(18,r),(26,s),(30,t),(31,u),(32,v),(33,w),(39,x),(58,y),(59,z),(60,A),(79,B),(89,C),(90,H),(91,E),(100,F)] := by intros; rfl
       refine R_nil (tr ..) ?_; clear tr
       refine then_n ?_
       exact ⟨_, _, ⟨j + 1, (.own 1 HE.length 0 ((setN P L (mostS P L t).1 t j).length + 1)), _, _, _, rfl, rfl, by exact qP, by exact q0, by exact q4, by exact qg, by exact qv, by first | (show H7.length ≤ HJ.length; omega) | (show H7.length ≤ HB.length; omega), by omega, by first | exact hO | exact inT_old hO (by first | assumption | exact in_not CU.not t0 (by omega))⟩, by rfl, by omega⟩
      ·
       try simp only [decide_eq_true_eq, decide_eq_false_iff_not, Bool.not_eq_true', Bool.not_eq_false', beq_iff_eq, beq_eq_false_iff_ne, ne_eq] at h8
       refine at_skip rfl ?_
       refine blk_n ?_
       refine then_n ?_
       refine rg rfl ?_
       refine Rq ?_
       refine Rq ?_
       have tr : ∀ a b c d e f g h i j k m n o p q r s t u v w x y z A B C D E F G H : AV, let l := lc_firstO_ok a b c d e f g h i j k m n o p q r s t u v w x y z A B C D E F; trim ((90,H)::(107,G)::l) l = [(0,a),(1,b),(2,c),(4,d),(5,e),(6,f),(7,g),(8,h),(9,i),(10,j),(11,k),(12,m),(13,n),(15,o),(16,p),(17,q),(18,r),(26,s),(30,t),(31,u),(32,v),(33,w),(39,x),(58,y),(59,z),(60,A),(79,B),(89,C),(90,H),(91,E),(100,F)] := by intros; rfl
       refine R_nil (tr ..) ?_; clear tr
       refine then_n ?_
       exact ⟨_, _, ⟨j + 1, oS, _, _, _, rfl, rfl, by exact qP, by exact q0, by exact q4, by exact qg, by exact qv, by first | (show H7.length ≤ HJ.length; omega) | (show H7.length ≤ HB.length; omega), by omega, by first | exact hO | exact inT_old hO (by first | assumption | exact in_not CU.not t0 (by omega))⟩, by rfl, by omega⟩
     ·
      try simp only [decide_eq_true_eq, decide_eq_false_iff_not, Bool.not_eq_true', Bool.not_eq_false', beq_iff_eq, beq_eq_false_iff_ne, ne_eq] at h7
      refine at_exit rfl ?_
      refine then_x ?_
      refine then_x ?_
      refine blk_x ?_
      refine then_n ?_
      refine at_seq rfl ?_
      refine rg rfl ?_
      obtain rfl : j = P.length := by omega
      obtain ⟨hO7, bS, rfl, hbS, qS⟩ := hO.resolve_left (fun hh => set_ne CU.not t0 hkT hkI hh.1)
      refine R_q rfl (by simp (disch := first | omega | (simp only [List.length_map, List.length_append, List.length_set, List.length_cons, List.length_nil]; omega)) only [go_sem, ↓reduceIte, Nat.reduceEqDiff, reduceCtorEq, q0, q4, qg, qv, hfe, hce, hst, qP] <;> rfl) ?_
      have lq0 := hget_lt q0
      have lq4 := hget_lt q4
      have lqg := hget_lt qg
      have lqP := hget_lt qP
      refine A_store ty46 (by simp (disch := first | omega | (simp only [List.length_map, List.length_append, List.length_set, List.length_cons, List.length_nil]; omega)) only [go_sem, ↓reduceIte, Nat.reduceEqDiff, reduceCtorEq, q0, q4, qg, qv, hfe, hce, hst] <;> rfl) (by simp (disch := first | omega | (simp only [List.length_map, List.length_append, List.length_set, List.length_cons, List.length_nil]; omega)) only [go_sem, ↓reduceIte, Nat.reduceEqDiff, reduceCtorEq, q0, q4, qg, qv, hfe, hce, hst] <;> rfl) q4 ⟨by omega, rfl, by first | exact Nat.le_refl _ | simp⟩ (show _ = [.v (.bool false), .own 1 bS 0 (setN P L (mostS P L t).1 t P.length).length, nilP] from rfl) ?_
      intro HZd wzd
      have ewzd := wzd.len
      have q0 := (wzd.old _ (by omega)).trans q0
      have qg := (wzd.old _ (by omega)).trans qg
      have qP := (wzd.old _ (by omega)).trans qP
      have q4 := wzd.new
      have hO := hO.mono fun b hb k hk => (wzd.old _ (by omega)).trans hk
      refine Rq ?_
      have tr : ∀ a b c d e f g h i j k m n o p q r s t u v w x y z A B C D E F G H : AV, let l := lc_firstO_ok a b c d e f g h i j k m n o p q r s t u v w x y z A B C D E F; trim ((5,H)::(108,G)::l) l = [(0,a),(1,b),(2,c),(4,d),(5,H),(6,f),(7,g),(8,h),(9,i),(10,j),(11,k),(12,m),(13,n),(15,o),(16,p),(17,q),(18,r),(26,s),(30,t),(31,u),(32,v),(33,w),(39,x),(58,y),(59,z),(60,A),(79,B),(89,C),(90,D),(91,E),(100,F)] := by intros; rfl
      refine R_nil (tr ..) ?_; clear tr
      refine then_n ?_
      refine at_ret rfl ?_
      refine fin_pure (rs := [.cell 4 46, .tmp 5]) rfl (by simp only [go_sem, ↓reduceIte, Nat.reduceEqDiff, q4]; rfl) rfl ?_
      refine ⟨⟨[], nilP, ?_, .inl ⟨fB, rfl, rfl⟩⟩, rfl⟩
      rw [fB, fS]
      show AV.tup [AV.agg [_, frz HZd H.length 6 _, _], _] = _
      rw [(hO.lo (by omega : H.length ≤ H7.length)).frz, hm0]
      rfl

end Go.Proofs.Ytdicnojnkbmdlaa
end
