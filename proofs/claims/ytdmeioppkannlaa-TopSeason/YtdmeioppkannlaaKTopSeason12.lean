/-
  Texts of TopSeason, part 13 of 16. TopSeason: chapters 49, 51 to 53 at this program. Turned by program from built texts (season.py).
-/
import Derived.Test.YtdmeioppkannlaaKTopSeason11
import Derived.Test.YtdmeioppkannlaaKTopSeason8
import Derived.KernelRfl
section
set_option linter.unusedSimpArgs false
set_option linter.unusedVariables false
set_option maxHeartbeats 40000000
set_option maxRecDepth 4000
namespace Go.Proofs.Ytdmeioppkannlaa
open Go Go.Am

abbrev lc_graph_ok (a b c d e f g h i j k m n o p q r s t u v w x y z A B C D E F G H I J K : AV) : Env := [(0,a),(1,b),(2,c),(3,d),(6,e),(7,f),(8,g),(10,h),(11,i),(12,j),(13,k),(14,m),(15,n),(17,o),(18,p),(19,q),(20,r),(22,s),(23,t),(24,u),(25,v),(37,w),(53,x),(54,y),(55,z),(56,A),(60,B),(61,C),(62,D),(63,E),(69,F),(103,G),(104,H),(105,I),(106,J),(112,K)]
theorem graph_ok (lim : Nat) (H : Heap) (P : List Int) (L : List Pr) (t goal : Int) (g : ROK P L) (t0 : 0 ≤ t) (t1 : t < P.length) (hg0 : ∀ k, k < P.length → 0 ≤ goal - gt P k) (hg1 : goal ≤ 2000) :
    ACall sig lim 15 [.agg (raceC P L), AV.i t, AV.i goal] H fun r H' => r = .tup [.agg (graphC (2 + ((pQ L t).length : Int) + (P.length : Int)) 0 1 (gE 2 (2 + ((pQ L t).length : Int)) (cQ L t (pQ L t)) (pQ L t) P t goal)), pairsA (othS L t)] ∧ H' = H := by
 have q0 : True := trivial
 have q6 : True := trivial
 have qx : True := trivial
 have qg : True := trivial
 have qp : True := trivial
 have hpa : True := trivial
 have g20 := g.n20
 have g2 := g.n2
 have gel := g.el
 have gpr := g.pr
 have WQ : PQ L t (pQ L t) := (pq_prog L t L.length).to
 have hql := pq_len WQ
 have hqr := pq_rng g WQ
 refine ACall_pure (fa := fa15) rfl rfl rfl rfl ?_
 have tr : ∀ a0 a1 a2 : AV, env0 fa15.keep [a0, a1, a2] = lc_graph_ok a0 a1 a2 .any .any .any .any .any .any .any .any .any .any .any .any .any .any .any .any .any .any .any .any .any .any .any .any .any .any .any .any .any .any .any .any .any := fun a0 a1 a2 => rfl
 refine W_to (tr _ _ _) ?_; clear tr
 refine at_seq rfl ?_
 refine rg rfl ?_
 refine A_box rfl (by simp (disch := first | omega | (simp only [List.length_map, List.length_append, List.length_set, List.length_cons, List.length_nil]; omega)) only [go_sem, ↓reduceIte, Nat.reduceEqDiff, reduceCtorEq] <;> rfl) ?_
 intro H1 n0
 have en0 := n0.len
 have q0 := n0.new
 refine A_alloc rfl ?_
 intro H2 n1
 have en1 := n1.len
 have q0 := (n1.old _ (hget_lt q0)).trans q0
 have q6 := n1.new
 refine Rq ?_
 have tr : ∀ a b c d e f g h i j k m n o p q r s t u v w x y z A B C D E F G H I J K L M N : AV, let l := lc_graph_ok a b c d e f g h i j k m n o p q r s t u v w x y z A B C D E F G H I J K; trim ((7,N)::(6,M)::(3,L)::l) l = lc_graph_ok a b c L M N g h i j k m n o p q r s t u v w x y z A B C D E F G H I J K := by intros; rfl
 refine R_nil (tr ..) ?_; clear tr
 refine then_n ?_
 refine at_seq rfl ?_
 refine rg rfl ?_
 refine Rq ?_
 have tr : ∀ a b c d e f g h i j k m n o p q r s t u v w x y z A B C D E F G H I J K L : AV, let l := lc_graph_ok a b c d e f g h i j k m n o p q r s t u v w x y z A B C D E F G H I J K; trim ((8,L)::l) l = lc_graph_ok a b c d e f L h i j k m n o p q r s t u v w x y z A B C D E F G H I J K := by intros; rfl
 refine R_nil (tr ..) ?_; clear tr
 refine then_n ?_
 refine at_seq rfl ?_
 refine at_seq rfl ?_
 refine rg rfl ?_
 refine Rq ?_
 refine R_q rfl (by simp (disch := first | omega | (simp only [List.length_map, List.length_append, List.length_set, List.length_cons, List.length_nil]; omega)) only [go_sem, ↓reduceIte, Nat.reduceEqDiff, reduceCtorEq, q0, q6, qx, qg, qp, hpa] <;> rfl) ?_
 refine Rq ?_
 refine Rq ?_
 have tr : ∀ a b c d e f g h i j k m n o p q r s t u v w x y z A B C D E F G H I J K L M N O : AV, let l := lc_graph_ok a b c d e f g h i j k m n o p q r s t u v w x y z A B C D E F G H I J K; trim ((24,O)::(23,N)::(22,M)::(21,L)::l) l = lc_graph_ok a b c d e f g h i j k m n o p q r M N O v w x y z A B C D E F G H I J K := by intros; rfl
 refine R_nil (tr ..) ?_; clear tr
 refine then_n ?_
 refine at_block rfl ?_
 refine loop_n rfl (fun mm kv H' => ∃ u : Nat, ∃ o : AV, ∃ x10 x25 x37 : AV, (kv = [(8, o), (10, x10), (24, AV.i u), (25, x25), (37, x37)]) ∧ (mm = L.length - u) ∧ (hget H' H.length = some (raceC P L)) ∧ (hget H' H1.length = some [AV.i 0, AV.i 0, AV.i 0, nilP]) ∧ (H2.length ≤ H'.length) ∧ (u ≤ L.length) ∧ (OutP H2.length H' o (othN L t u))) ⟨0, _, _, _, _, rfl, rfl, by exact q0, by exact q6, by exact Nat.le_refl _, by omega, by exact .inl ⟨rfl, rfl⟩⟩ (by rfl) ?_
 rintro mm kv HB ⟨u, o, x10, x25, x37, rfl, rfl, q0, q6, hHB, hu, hO⟩
 have tr : ∀ a b c d e f g h i j k m n o p q r s t u v w x y z A B C D E F G H I J K L M N O P : AV, upd (lc_graph_ok a b c d e f g h i j k m n o p q r s t u v w x y z A B C D E F G H I J K) [(8,L),(10,M),(24,N),(25,O),(37,P)] = lc_graph_ok a b c d e f L M i j k m n o p q r s t N O P x y z A B C D E F G H I J K := by intros; rfl
 refine W_to (tr ..) ?_; clear tr
 have hpl := oth_len L t u
 refine at_seq rfl ?_
 refine rg rfl ?_
 refine Rq ?_
 have tr : ∀ a b c d e f g h i j k m n o p q r s t u v w x y z A B C D E F G H I J K L : AV, let l := lc_graph_ok a b c d e f g h i j k m n o p q r s t u v w x y z A B C D E F G H I J K; trim ((25,L)::l) l = lc_graph_ok a b c d e f g h i j k m n o p q r s t u L w x y z A B C D E F G H I J K := by intros; rfl
 refine R_nil (tr ..) ?_; clear tr
 refine then_n ?_
 refine at_seq rfl ?_
 refine cdd (fun h1 => ?_) (fun h1 => ?_)
 ·
  try simp only [decide_eq_true_eq, decide_eq_false_iff_not, Bool.not_eq_true', Bool.not_eq_false', beq_iff_eq, beq_eq_false_iff_ne, ne_eq] at h1
  refine at_skip rfl ?_
  refine then_n ?_
  refine at_seq rfl ?_
  refine at_block rfl ?_
  refine at_seq rfl ?_
  refine rg rfl ?_
  refine Rq ?_
  refine R_q rfl (by simp (disch := first | omega | (simp only [List.length_map, List.length_append, List.length_set, List.length_cons, List.length_nil]; omega)) only [go_sem, ↓reduceIte, Nat.reduceEqDiff, reduceCtorEq, q0, q6, qx, qg, qp, hpa] <;> rfl) ?_
  have hO1 := hO
  refine A_alloc rfl ?_
  intro HC n4
  have en4 := n4.len
  have q0 := (n4.old _ (hget_lt q0)).trans q0
  have q6 := (n4.old _ (hget_lt q6)).trans q6
  have qx := n4.new
  have lq0 := hget_lt q0
  have lq6 := hget_lt q6
  have lqx := hget_lt qx
  refine A_store ty31 (by simp (disch := first | omega | (simp only [List.length_map, List.length_append, List.length_set, List.length_cons, List.length_nil]; omega)) only [go_sem, ↓reduceIte, Nat.reduceEqDiff, reduceCtorEq, q0, q6, qx, qg, qp, hpa] <;> rfl) (by simp (disch := first | omega | (simp only [List.length_map, List.length_append, List.length_set, List.length_cons, List.length_nil]; omega)) only [go_sem, ↓reduceIte, Nat.reduceEqDiff, reduceCtorEq, q0, q6, qx, qg, qp, hpa] <;> rfl) qx ⟨by omega, rfl, by first | exact Nat.le_refl _ | simp⟩ (show _ = prC (gt L u) from rfl) ?_
  intro HD w4
  have ew4 := w4.len
  have q0 := (w4.old _ (by omega)).trans q0
  have q6 := (w4.old _ (by omega)).trans q6
  have qx := w4.new
  have hO := hO1.mono fun b hb k hk => (w4.old _ (by have := hget_lt hk; omega)).trans ((n4.old _ (hget_lt hk)).trans hk)
  have tr : ∀ a b c d e f g h i j k m n o p q r s t u v w x y z A B C D E F G H I J K L M N : AV, let l := lc_graph_ok a b c d e f g h i j k m n o p q r s t u v w x y z A B C D E F G H I J K; trim ((10,N)::(27,M)::(26,L)::l) l = lc_graph_ok a b c d e f g N i j k m n o p q r s t u v w x y z A B C D E F G H I J K := by intros; rfl
  refine R_nil (tr ..) ?_; clear tr
  refine then_n ?_
  refine at_seq rfl ?_
  refine rg rfl ?_
  refine Rq ?_
  refine R_q rfl (by simp (disch := first | omega | (simp only [List.length_map, List.length_append, List.length_set, List.length_cons, List.length_nil]; omega)) only [go_sem, ↓reduceIte, Nat.reduceEqDiff, reduceCtorEq, q0, q6, qx, qg, qp, hpa] <;> rfl) ?_
  refine Rq ?_
  refine Rq ?_
  refine Rq ?_
  refine Rp_split (fun h2 => ?_) (fun h2 => ?_)
  ·
   try simp only [decide_eq_true_eq, decide_eq_false_iff_not, Bool.not_eq_true', Bool.not_eq_false', beq_iff_eq, beq_eq_false_iff_ne, ne_eq] at h2
   refine Ry ?_
   refine Rq ?_
   refine Ry ?_
   refine R_q rfl (by simp (disch := first | omega | (simp only [List.length_map, List.length_append, List.length_set, List.length_cons, List.length_nil]; omega)) only [go_sem, ↓reduceIte, Nat.reduceEqDiff, reduceCtorEq, q0, q6, qx, qg, qp, hpa] <;> rfl) ?_
   refine Ry ?_
   refine Rq ?_
   refine Ry ?_
   refine Rq ?_
   refine Rq ?_
   have tr : ∀ a b c d e f g h i j k m n o p q r s t u v w x y z A B C D E F G H I J K L M N O P Q R S T U : AV, let l := lc_graph_ok a b c d e f g h i j k m n o p q r s t u v w x y z A B C D E F G H I J K; trim ((37,U)::(36,T)::(35,S)::(34,R)::(33,Q)::(32,P)::(31,O)::(30,N)::(29,M)::(28,L)::l) l = lc_graph_ok a b c d e f g h i j k m n o p q r s t u v U x y z A B C D E F G H I J K := by intros; rfl
   refine R_nil (tr ..) ?_; clear tr
   refine then_n ?_
   refine cdd (fun h3 => ?_) (fun h3 => ?_)
   ·
    try simp only [decide_eq_true_eq, decide_eq_false_iff_not, Bool.not_eq_true', Bool.not_eq_false', beq_iff_eq, beq_eq_false_iff_ne, ne_eq] at h3
    refine rg rfl ?_
    refine Rq ?_
    refine R_q rfl (by simp (disch := first | omega | (simp only [List.length_map, List.length_append, List.length_set, List.length_cons, List.length_nil]; omega)) only [go_sem, ↓reduceIte, Nat.reduceEqDiff, reduceCtorEq, q0, q6, qx, qg, qp, hpa] <;> rfl) ?_
    have hob := fun b hb => hO.lt (b := b) hb
    refine A_buildSlice (bs41 _ _ _ _ (gt L u) (by simp (disch := first | omega | (simp only [List.length_map, List.length_append, List.length_set, List.length_cons, List.length_nil]; omega)) only [go_sem, ↓reduceIte, Nat.reduceEqDiff, reduceCtorEq, q0, q6, qx, qg, qp, hpa])) ?_
    intro HE n5
    have en5 := n5.len
    have q0 := (n5.old _ (hget_lt q0)).trans q0
    have q6 := (n5.old _ (hget_lt q6)).trans q6
    have qx := (n5.old _ (hget_lt qx)).trans qx
    have qn := n5.new
    have hO := hO.mono fun b hb k hk => (n5.old _ (hget_lt hk)).trans hk
    have lq0 := hget_lt q0
    have lq6 := hget_lt q6
    obtain ⟨b, hbl, hbl2, hap⟩ := outP_append (lim := H.length) hO hob qn (by omega) (by omega) (by omega)
    refine A_append (by simp (disch := first | omega | (simp only [List.length_map, List.length_append, List.length_set, List.length_cons, List.length_nil]; omega)) only [go_sem, ↓reduceIte, Nat.reduceEqDiff, reduceCtorEq, q0, q6, qx, qg, qp, hpa]; exact hap) ?_
    intro HF g5
    have eg5 := g5.len
    have q0 := (g5.old _ (by omega) lq0).trans q0
    have q6 := (g5.old _ (by omega) lq6).trans q6
    have qq := g5.new
    refine Rq ?_
    have tr : ∀ a b c d e f g h i j k m n o p q r s t u v w x y z A B C D E F G H I J K L M N O P : AV, let l := lc_graph_ok a b c d e f g h i j k m n o p q r s t u v w x y z A B C D E F G H I J K; trim ((8,P)::(41,O)::(40,N)::(39,M)::(38,L)::l) l = lc_graph_ok a b c d e f P h i j k m n o p q r s t u v w x y z A B C D E F G H I J K := by intros; rfl
    refine R_nil (tr ..) ?_; clear tr
    refine blk_n ?_
    refine then_n ?_
    refine rg rfl ?_
    refine Rq ?_
    refine Rq ?_
    have tr : ∀ a b c d e f g h i j k m n o p q r s t u v w x y z A B C D E F G H I J K L M : AV, let l := lc_graph_ok a b c d e f g h i j k m n o p q r s t u v w x y z A B C D E F G H I J K; trim ((24,M)::(42,L)::l) l = lc_graph_ok a b c d e f g h i j k m n o p q r s t M v w x y z A B C D E F G H I J K := by intros; rfl
    refine R_nil (tr ..) ?_; clear tr
    refine then_n ?_
    exact ⟨_, _, ⟨u + 1, (.own 2 HE.length 0 ((othN L t u).length + 1)), _, _, _, rfl, rfl, by exact q0, by exact q6, by first | (show H2.length ≤ HF.length; omega) | (show H2.length ≤ HD.length; omega), by omega, by first | exact oth_new g5 (by omega) (by omega) rfl | exact oth_old hO (by omega)⟩, by rfl, by omega⟩
   ·
    try simp only [decide_eq_true_eq, decide_eq_false_iff_not, Bool.not_eq_true', Bool.not_eq_false', beq_iff_eq, beq_eq_false_iff_ne, ne_eq] at h3
    refine at_skip rfl ?_
    refine blk_n ?_
    refine then_n ?_
    refine rg rfl ?_
    refine Rq ?_
    refine Rq ?_
    have tr : ∀ a b c d e f g h i j k m n o p q r s t u v w x y z A B C D E F G H I J K L M : AV, let l := lc_graph_ok a b c d e f g h i j k m n o p q r s t u v w x y z A B C D E F G H I J K; trim ((24,M)::(42,L)::l) l = lc_graph_ok a b c d e f g h i j k m n o p q r s t M v w x y z A B C D E F G H I J K := by intros; rfl
    refine R_nil (tr ..) ?_; clear tr
    refine then_n ?_
    exact ⟨_, _, ⟨u + 1, o, _, _, _, rfl, rfl, by exact q0, by exact q6, by first | (show H2.length ≤ HF.length; omega) | (show H2.length ≤ HD.length; omega), by omega, by first | exact oth_new g5 (by omega) (by omega) rfl | exact oth_old hO (by omega)⟩, by rfl, by omega⟩
  ·
   try simp only [decide_eq_true_eq, decide_eq_false_iff_not, Bool.not_eq_true', Bool.not_eq_false', beq_iff_eq, beq_eq_false_iff_ne, ne_eq] at h2
   refine Rn ?_
   refine Rn ?_
   refine Rn ?_
   refine Rn ?_
   refine Rq ?_
   have tr : ∀ a b c d e f g h i j k m n o p q r s t u v w x y z A B C D E F G H I J K L M N O P Q R S T U : AV, let l := lc_graph_ok a b c d e f g h i j k m n o p q r s t u v w x y z A B C D E F G H I J K; trim ((37,U)::(36,T)::(35,S)::(34,R)::(33,Q)::(32,P)::(31,O)::(30,N)::(29,M)::(28,L)::l) l = lc_graph_ok a b c d e f g h i j k m n o p q r s t u v U x y z A B C D E F G H I J K := by intros; rfl
   refine R_nil (tr ..) ?_; clear tr
   refine then_n ?_
   refine cdf ?_
   refine at_skip rfl ?_
   refine blk_n ?_
   refine then_n ?_
   refine rg rfl ?_
   refine Rq ?_
   refine Rq ?_
   have tr : ∀ a b c d e f g h i j k m n o p q r s t u v w x y z A B C D E F G H I J K L M : AV, let l := lc_graph_ok a b c d e f g h i j k m n o p q r s t u v w x y z A B C D E F G H I J K; trim ((24,M)::(42,L)::l) l = lc_graph_ok a b c d e f g h i j k m n o p q r s t M v w x y z A B C D E F G H I J K := by intros; rfl
   refine R_nil (tr ..) ?_; clear tr
   refine then_n ?_
   exact ⟨_, _, ⟨u + 1, o, _, _, _, rfl, rfl, by exact q0, by exact q6, by first | (show H2.length ≤ HF.length; omega) | (show H2.length ≤ HD.length; omega), by omega, by first | exact oth_new g5 (by omega) (by omega) rfl | exact oth_old hO (by omega)⟩, by rfl, by omega⟩
 ·
  try simp only [decide_eq_true_eq, decide_eq_false_iff_not, Bool.not_eq_true', Bool.not_eq_false', beq_iff_eq, beq_eq_false_iff_ne, ne_eq] at h1
  refine at_exit rfl ?_
  refine then_x ?_
  refine then_x ?_
  refine blk_x ?_
  refine then_n ?_
  refine at_seq rfl ?_
  refine rg rfl ?_
  obtain rfl : u = L.length := by omega
  have hol := oth_len L t L.length
  have hql2 : (pairsN (othN L t L.length) (othN L t L.length).length).length ≤ 40 := Nat.le_trans hql gpr
  have hqe : (pairsN (othN L t L.length) (othN L t L.length).length).length = (pQ L t).length := rfl
  have hoe : (othN L t L.length).length = (othS L t).length := rfl
  refine Rq ?_
  refine Rcall ?_
  refine ACall_eq (pairs_any _ H2.length _ o _ hO (by omega)) ?_
  refine Rq ?_
  have tr : ∀ a b c d e f g h i j k m n o p q r s t u v w x y z A B C D E F G H I J K L M N : AV, let l := lc_graph_ok a b c d e f g h i j k m n o p q r s t u v w x y z A B C D E F G H I J K; trim ((11,N)::(44,M)::(43,L)::l) l = lc_graph_ok a b c d e f g h N j k m n o p q r s t u v w x y z A B C D E F G H I J K := by intros; rfl
  refine R_nil (tr ..) ?_; clear tr
  refine then_n ?_
  refine at_seq rfl ?_
  refine rg rfl ?_
  refine Rq ?_
  refine R_q rfl (by simp (disch := first | omega | (simp only [List.length_map, List.length_append, List.length_set, List.length_cons, List.length_nil]; omega)) only [go_sem, ↓reduceIte, Nat.reduceEqDiff, reduceCtorEq, q0, q6, qx, qg, qp, hpa]; exact pairsA_len _) ?_
  refine Rq ?_
  refine Rq ?_
  refine R_q rfl (by simp (disch := first | omega | (simp only [List.length_map, List.length_append, List.length_set, List.length_cons, List.length_nil]; omega)) only [go_sem, ↓reduceIte, Nat.reduceEqDiff, reduceCtorEq, q0, q6, qx, qg, qp, hpa] <;> rfl) ?_
  refine Rq ?_
  refine Rq ?_
  refine Rq ?_
  have hA : AtP HB.length HB o (othS L t) := AtP.of hO (Nat.le_refl _)
  refine A_alloc rfl ?_
  intro HG n6
  have en6 := n6.len
  have q0 := (n6.old _ (hget_lt q0)).trans q0
  have q6 := (n6.old _ (hget_lt q6)).trans q6
  have qg := n6.new
  have lq0 := hget_lt q0
  have lq6 := hget_lt q6
  have lqg := hget_lt qg
  refine A_store ty62 (by simp (disch := first | omega | (simp only [List.length_map, List.length_append, List.length_set, List.length_cons, List.length_nil]; omega)) only [go_sem, ↓reduceIte, Nat.reduceEqDiff, reduceCtorEq, q0, q6, qx, qg, qp, hpa] <;> rfl) (by simp (disch := first | omega | (simp only [List.length_map, List.length_append, List.length_set, List.length_cons, List.length_nil]; omega)) only [go_sem, ↓reduceIte, Nat.reduceEqDiff, reduceCtorEq, q0, q6, qx, qg, qp, hpa] <;> rfl) qg ⟨by omega, rfl, by first | exact Nat.le_refl _ | simp⟩ (show _ = [AV.i (2 + ((pQ L t).length : Int) + (P.length : Int)), AV.i 0, AV.i 1, nilP] from rfl) ?_
  intro HI w6
  have ew6 := w6.len
  have q0 := (w6.old _ (by omega)).trans q0
  have q6 := (w6.old _ (by omega)).trans q6
  have qg := w6.new
  have hA : AtP HB.length HI o (othS L t) := (hA.mono fun b hb k hk => (n6.old _ (hget_lt hk)).trans hk).mono fun b hb k hk => (w6.old _ (by omega)).trans hk
  have tr : ∀ a b c d e f g h i j k m n o p q r s t u v w x y z A B C D E F G H I J K L M N O P Q R S T : AV, let l := lc_graph_ok a b c d e f g h i j k m n o p q r s t u v w x y z A B C D E F G H I J K; trim ((12,T)::(52,S)::(51,R)::(50,Q)::(49,P)::(48,O)::(47,N)::(46,M)::(45,L)::l) l = lc_graph_ok a b c d e f g h i T k m n o p q r s t u v w x y z A B C D E F G H I J K := by intros; rfl
  refine R_nil (tr ..) ?_; clear tr
  refine then_n ?_
  refine at_seq rfl ?_
  refine at_seq rfl ?_
  refine rg rfl ?_
  refine Rq ?_
  refine R_q rfl (by simp (disch := first | omega | (simp only [List.length_map, List.length_append, List.length_set, List.length_cons, List.length_nil]; omega)) only [go_sem, ↓reduceIte, Nat.reduceEqDiff, reduceCtorEq, q0, q6, qx, qg, qp, hpa]; exact pairsA_len _) ?_
  refine Rq ?_
  have tr : ∀ a b c d e f g h i j k m n o p q r s t u v w x y z A B C D E F G H I J K L M N : AV, let l := lc_graph_ok a b c d e f g h i j k m n o p q r s t u v w x y z A B C D E F G H I J K; trim ((55,N)::(54,M)::(53,L)::l) l = lc_graph_ok a b c d e f g h i j k m n o p q r s t u v w L M N A B C D E F G H I J K := by intros; rfl
  refine R_nil (tr ..) ?_; clear tr
  refine then_n ?_
  refine at_block rfl ?_
  refine loop_n rfl (fun mm kv H' => ∃ i : Nat, ∃ oE : AV, ∃ x13 x14 x15 x17 x18 x56 x60 x61 x62 x63 x69 : AV, (kv = [(13, x13), (14, x14), (15, x15), (17, x17), (18, x18), (55, AV.i i), (56, x56), (60, x60), (61, x61), (62, x62), (63, x63), (69, x69)]) ∧ (mm = (pQ L t).length - i) ∧ (hget H' H.length = some (raceC P L)) ∧ (hget H' H1.length = some [AV.i 0, AV.i 0, AV.i 0, nilP]) ∧ (hget H' HB.length = some [AV.i (2 + ((pQ L t).length : Int) + (P.length : Int)), AV.i 0, AV.i 1, oE]) ∧ (HI.length ≤ H'.length) ∧ (AtP HB.length H' o (othS L t)) ∧ (i ≤ (pQ L t).length) ∧ (OutE HI.length H' oE (gEa 2 (2 + ((pQ L t).length : Int)) (cQ L t (pQ L t)) (pQ L t) i))) ⟨0, nilP, _, _, _, _, _, _, _, _, _, _, _, rfl, rfl, by exact q0, by exact q6, by exact qg, by exact Nat.le_refl _, by exact hA, by omega, by exact .inl ⟨rfl, rfl⟩⟩ (by rfl) ?_
  rintro mm kv HN ⟨i, oE, x13, x14, x15, x17, x18, x56, x60, x61, x62, x63, x69, rfl, rfl, q0, q6, qg, hHI, hA, hi, hE⟩
  have tr : ∀ a b c d e f g h i j k m n o p q r s t u v w x y z A B C D E F G H I J K L M N O P Q R S T U V W : AV, upd (lc_graph_ok a b c d e f g h i j k m n o p q r s t u v w x y z A B C D E F G H I J K) [(13,L),(14,M),(15,N),(17,O),(18,P),(55,Q),(56,R),(60,S),(61,T),(62,U),(63,V),(69,W)] = lc_graph_ok a b c d e f g h i j L M N O P q r s t u v w x y Q R S T U V W G H I J K := by intros; rfl
  refine W_to (tr ..) ?_; clear tr
  refine at_seq rfl ?_
  refine rg rfl ?_
  refine Rq ?_
  have tr : ∀ a b c d e f g h i j k m n o p q r s t u v w x y z A B C D E F G H I J K L : AV, let l := lc_graph_ok a b c d e f g h i j k m n o p q r s t u v w x y z A B C D E F G H I J K; trim ((56,L)::l) l = lc_graph_ok a b c d e f g h i j k m n o p q r s t u v w x y z L B C D E F G H I J K := by intros; rfl
  refine R_nil (tr ..) ?_; clear tr
  refine then_n ?_
  refine at_seq rfl ?_
  refine cdd (fun h4 => ?_) (fun h4 => ?_)
  ·
   try simp only [decide_eq_true_eq, decide_eq_false_iff_not, Bool.not_eq_true', Bool.not_eq_false', beq_iff_eq, beq_eq_false_iff_ne, ne_eq] at h4
   refine at_skip rfl ?_
   refine then_n ?_
   refine at_seq rfl ?_
   refine at_block rfl ?_
   refine at_seq rfl ?_
   refine rg rfl ?_
   have hpa : pairsA (othS L t) = prsAV (pQ L t) := pairsA_at (show 0 < (pQ L t).length by omega)
   have hqi := hqr i (by omega)
   have hA1 := trivial
   have hE1 := hE
   refine Rq ?_
   refine R_q rfl (by simp (disch := first | omega | (simp only [List.length_map, List.length_append, List.length_set, List.length_cons, List.length_nil]; omega)) only [go_sem, ↓reduceIte, Nat.reduceEqDiff, reduceCtorEq, hpa] <;> rfl) ?_
   refine R_q rfl (by simp (disch := first | omega | (simp only [List.length_map, List.length_append, List.length_set, List.length_cons, List.length_nil]; omega)) only [go_sem, ↓reduceIte, Nat.reduceEqDiff, reduceCtorEq, q0, q6, qx, qg, qp, hpa] <;> rfl) ?_
   refine A_alloc rfl ?_
   intro HJ n7
   have en7 := n7.len
   have q0 := (n7.old _ (hget_lt q0)).trans q0
   have q6 := (n7.old _ (hget_lt q6)).trans q6
   have qg := (n7.old _ (hget_lt qg)).trans qg
   have qp := n7.new
   have hA := hA.mono fun b hb k hk => (n7.old _ (hget_lt hk)).trans hk
   have hE := hE.mono fun b hb k hk => (n7.old _ (hget_lt hk)).trans hk
   refine Rq ?_
   have hE2 := hE1.mono fun b hb k hk => (n7.old _ (hget_lt hk)).trans hk
   have lq0 := hget_lt q0
   have lq6 := hget_lt q6
   have lqg := hget_lt qg
   have lqp := hget_lt qp
   refine A_store ty31 (by simp (disch := first | omega | (simp only [List.length_map, List.length_append, List.length_set, List.length_cons, List.length_nil]; omega)) only [go_sem, ↓reduceIte, Nat.reduceEqDiff, reduceCtorEq, q0, q6, qx, qg, qp, hpa] <;> rfl) (by simp (disch := first | omega | (simp only [List.length_map, List.length_append, List.length_set, List.length_cons, List.length_nil]; omega)) only [go_sem, ↓reduceIte, Nat.reduceEqDiff, reduceCtorEq, q0, q6, qx, qg, qp, hpa] <;> rfl) qp ⟨by omega, rfl, by first | exact Nat.le_refl _ | simp⟩ (show _ = prC (gt (pQ L t) i) from rfl) ?_
   intro HK w7
   have ew7 := w7.len
   have q0 := (w7.old _ (by omega)).trans q0
   have q6 := (w7.old _ (by omega)).trans q6
   have qg := (w7.old _ (by omega)).trans qg
   have qp := w7.new
   have hA := hA.mono fun b hb k hk => (w7.old _ (by omega)).trans hk
   have hE := hE1.mono fun b hb k hk => (w7.old _ (by have := hget_lt hk; omega)).trans ((n7.old _ (hget_lt hk)).trans hk)
   have tr : ∀ a b c d e f g h i j k m n o p q r s t u v w x y z A B C D E F G H I J K L M N O P : AV, let l := lc_graph_ok a b c d e f g h i j k m n o p q r s t u v w x y z A B C D E F G H I J K; trim ((13,P)::(14,O)::(59,N)::(58,M)::(57,L)::l) l = lc_graph_ok a b c d e f g h i j P O n o p q r s t u v w x y z A B C D E F G H I J K := by intros; rfl
   refine R_nil (tr ..) ?_; clear tr
   refine then_n ?_
   refine at_seq rfl ?_
   refine rg rfl ?_
   refine Rq ?_
   have tr : ∀ a b c d e f g h i j k m n o p q r s t u v w x y z A B C D E F G H I J K L : AV, let l := lc_graph_ok a b c d e f g h i j k m n o p q r s t u v w x y z A B C D E F G H I J K; trim ((15,L)::l) l = lc_graph_ok a b c d e f g h i j k m L o p q r s t u v w x y z A B C D E F G H I J K := by intros; rfl
   refine R_nil (tr ..) ?_; clear tr
   refine then_n ?_
   refine at_seq rfl ?_
   refine at_seq rfl ?_
   refine rg rfl ?_
   refine Rq ?_
   refine R_q rfl (by simp (disch := first | omega | (simp only [List.length_map, List.length_append, List.length_set, List.length_cons, List.length_nil]; omega)) only [go_sem, ↓reduceIte, Nat.reduceEqDiff, reduceCtorEq, q0, q6, qx, qg, qp, hpa]; exact hA.len) ?_
   refine Rq ?_
   have tr : ∀ a b c d e f g h i j k m n o p q r s t u v w x y z A B C D E F G H I J K L M N : AV, let l := lc_graph_ok a b c d e f g h i j k m n o p q r s t u v w x y z A B C D E F G H I J K; trim ((62,N)::(61,M)::(60,L)::l) l = lc_graph_ok a b c d e f g h i j k m n o p q r s t u v w x y z A L M N E F G H I J K := by intros; rfl
   refine R_nil (tr ..) ?_; clear tr
   refine then_n ?_
   refine at_block rfl ?_
   refine loop_n rfl (fun mm kv H' => ∃ w : Nat, ∃ c : Int, ∃ x17 x63 x69 : AV, (kv = [(15, AV.i c), (17, x17), (62, AV.i w), (63, x63), (69, x69)]) ∧ (mm = (othS L t).length - w) ∧ (hget H' H.length = some (raceC P L)) ∧ (hget H' H1.length = some [AV.i 0, AV.i 0, AV.i 0, nilP]) ∧ (hget H' HB.length = some [AV.i (2 + ((pQ L t).length : Int) + (P.length : Int)), AV.i 0, AV.i 1, oE]) ∧ (HI.length ≤ H'.length) ∧ (AtP HB.length H' o (othS L t)) ∧ (hget H' HN.length = some (prC (gt (pQ L t) i))) ∧ (OutE HI.length H' oE (gEa 2 (2 + ((pQ L t).length : Int)) (cQ L t (pQ L t)) (pQ L t) i)) ∧ (HN.length < H'.length) ∧ (w ≤ (othS L t).length) ∧ (c = cntN (othS L t) (gt (pQ L t) i) w)) ⟨0, 0, _, _, _, rfl, rfl, by exact q0, by exact q6, by exact qg, by (show HI.length ≤ HK.length; omega), by exact hA, by exact qp, by exact hE, by omega, by omega, by rfl⟩ (by rfl) ?_
   rintro mm kv HX ⟨w, c, x17, x63, x69, rfl, rfl, q0, q6, qg, hHI, hA, qp, hE, hHN, hww, hcc⟩
   have tr : ∀ a b c d e f g h i j k m n o p q r s t u v w x y z A B C D E F G H I J K L M N O P : AV, upd (lc_graph_ok a b c d e f g h i j k m n o p q r s t u v w x y z A B C D E F G H I J K) [(15,L),(17,M),(62,N),(63,O),(69,P)] = lc_graph_ok a b c d e f g h i j k m L M p q r s t u v w x y z A B C N O P G H I J K := by intros; rfl
   refine W_to (tr ..) ?_; clear tr
   have hcr := cnt_rng (othS L t) (gt (pQ L t) i) w
   have hww : w ≤ (othS L t).length := hww
   refine at_seq rfl ?_
   refine rg rfl ?_
   refine Rq ?_
   have tr : ∀ a b c d e f g h i j k m n o p q r s t u v w x y z A B C D E F G H I J K L : AV, let l := lc_graph_ok a b c d e f g h i j k m n o p q r s t u v w x y z A B C D E F G H I J K; trim ((63,L)::l) l = lc_graph_ok a b c d e f g h i j k m n o p q r s t u v w x y z A B C D L F G H I J K := by intros; rfl
   refine R_nil (tr ..) ?_; clear tr
   refine then_n ?_
   refine at_seq rfl ?_
   refine cdd (fun h5 => ?_) (fun h5 => ?_)
   ·
    try simp only [decide_eq_true_eq, decide_eq_false_iff_not, Bool.not_eq_true', Bool.not_eq_false', beq_iff_eq, beq_eq_false_iff_ne, ne_eq] at h5
    refine at_skip rfl ?_
    refine then_n ?_
    refine at_seq rfl ?_
    refine at_block rfl ?_
    refine at_seq rfl ?_
    refine rg rfl ?_
    obtain ⟨hO0, bO, rfl, hbO, qO⟩ := hA.resolve_left (fun hh => by have h7 := congrArg List.length hh.1; simp only [List.length_nil] at h7; omega)
    have lqO := hget_lt qO
    have hE1 := hE
    refine Rq ?_
    refine R_q rfl (by simp (disch := first | omega | (simp only [List.length_map, List.length_append, List.length_set, List.length_cons, List.length_nil]; omega)) only [go_sem, ↓reduceIte, Nat.reduceEqDiff, reduceCtorEq, q0, q6, qx, qg, qp, hpa, qO] <;> rfl) ?_
    refine A_alloc rfl ?_
    intro HL n8
    have en8 := n8.len
    have q0 := (n8.old _ (hget_lt q0)).trans q0
    have q6 := (n8.old _ (hget_lt q6)).trans q6
    have qg := (n8.old _ (hget_lt qg)).trans qg
    have qp := (n8.old _ (hget_lt qp)).trans qp
    have qO := (n8.old _ (hget_lt qO)).trans qO
    have qx := n8.new
    have lq0 := hget_lt q0
    have lq6 := hget_lt q6
    have lqg := hget_lt qg
    have lqp := hget_lt qp
    have lqx := hget_lt qx
    refine A_store ty31 (by simp (disch := first | omega | (simp only [List.length_map, List.length_append, List.length_set, List.length_cons, List.length_nil]; omega)) only [go_sem, ↓reduceIte, Nat.reduceEqDiff, reduceCtorEq, q0, q6, qx, qg, qp, hpa, qO] <;> rfl) (by simp (disch := first | omega | (simp only [List.length_map, List.length_append, List.length_set, List.length_cons, List.length_nil]; omega)) only [go_sem, ↓reduceIte, Nat.reduceEqDiff, reduceCtorEq, q0, q6, qx, qg, qp, hpa, qO] <;> rfl) qx ⟨by omega, rfl, by first | exact Nat.le_refl _ | simp⟩ (show _ = prC (gt (othS L t) w) from rfl) ?_
    intro HM w8
    have ew8 := w8.len
    have q0 := (w8.old _ (by omega)).trans q0
    have q6 := (w8.old _ (by omega)).trans q6
    have qg := (w8.old _ (by omega)).trans qg
    have qp := (w8.old _ (by omega)).trans qp
    have qO := (w8.old _ (by omega)).trans qO
    have qx := w8.new
    have hE := hE1.mono fun b hb k hk => (w8.old _ (by have := hget_lt hk; omega)).trans ((n8.old _ (hget_lt hk)).trans hk)
    have tr : ∀ a b c d e f g h i j k m n o p q r s t u v w x y z A B C D E F G H I J K L M N : AV, let l := lc_graph_ok a b c d e f g h i j k m n o p q r s t u v w x y z A B C D E F G H I J K; trim ((17,N)::(65,M)::(64,L)::l) l = lc_graph_ok a b c d e f g h i j k m n N p q r s t u v w x y z A B C D E F G H I J K := by intros; rfl
    refine R_nil (tr ..) ?_; clear tr
    refine then_n ?_
    refine at_seq rfl ?_
    refine rl rfl rfl ?_
    refine L_q rfl (by simp (disch := first | omega | (simp only [List.length_map, List.length_append, List.length_set, List.length_cons, List.length_nil]; omega)) only [go_sem, ↓reduceIte, Nat.reduceEqDiff, reduceCtorEq, q0, q6, qx, qg, qp, hpa] <;> rfl) rfl ?_
    refine L_q rfl (by simp (disch := first | omega | (simp only [List.length_map, List.length_append, List.length_set, List.length_cons, List.length_nil]; omega)) only [go_sem, ↓reduceIte, Nat.reduceEqDiff, reduceCtorEq, q0, q6, qx, qg, qp, hpa] <;> rfl) rfl ?_
    refine L_nil ?_
    refine Ms ?_
    refine Rcall ?_
    refine ACall_eq (pair_ok _ _ _) ?_
    refine R_end ?_
    refine M_nil ?_
    refine Rq ?_
    have tr : ∀ a b c d e f g h i j k m n o p q r s t u v w x y z A B C D E F G H I J K L M N O : AV, let l := lc_graph_ok a b c d e f g h i j k m n o p q r s t u v w x y z A B C D E F G H I J K; trim ((69,O)::(67,N)::(68,M)::(66,L)::l) l = lc_graph_ok a b c d e f g h i j k m n o p q r s t u v w x y z A B C D E O G H I J K := by intros; rfl
    refine R_nil (tr ..) ?_; clear tr
    refine then_n ?_
    refine cdd (fun h6 => ?_) (fun h6 => ?_)
    ·
     try simp only [decide_eq_true_eq, decide_eq_false_iff_not, Bool.not_eq_true', Bool.not_eq_false', beq_iff_eq, beq_eq_false_iff_ne, ne_eq] at h6
     refine rg rfl ?_
     refine Rq ?_
     refine Rq ?_
     refine Rq ?_
     have tr : ∀ a b c d e f g h i j k m n o p q r s t u v w x y z A B C D E F G H I J K L M N : AV, let l := lc_graph_ok a b c d e f g h i j k m n o p q r s t u v w x y z A B C D E F G H I J K; trim ((15,N)::(71,M)::(70,L)::l) l = lc_graph_ok a b c d e f g h i j k m N o p q r s t u v w x y z A B C D E F G H I J K := by intros; rfl
     refine R_nil (tr ..) ?_; clear tr
     refine blk_n ?_
     refine then_n ?_
     refine rg rfl ?_
     refine Rq ?_
     refine Rq ?_
     have tr : ∀ a b c d e f g h i j k m n o p q r s t u v w x y z A B C D E F G H I J K L M : AV, let l := lc_graph_ok a b c d e f g h i j k m n o p q r s t u v w x y z A B C D E F G H I J K; trim ((62,M)::(72,L)::l) l = lc_graph_ok a b c d e f g h i j k m n o p q r s t u v w x y z A B C M E F G H I J K := by intros; rfl
     refine R_nil (tr ..) ?_; clear tr
     refine then_n ?_
     exact ⟨_, _, ⟨w + 1, (c + 2), _, _, _, rfl, rfl, by exact q0, by exact q6, by exact qg, by (show HI.length ≤ HM.length; omega), by exact .inr ⟨hO0, bO, rfl, hbO, qO⟩, by exact qp, by exact hE, by (show HN.length < HM.length; omega), by omega, by first | exact cnt_hit hcc (by assumption) | exact cnt_miss hcc (by assumption)⟩, by rfl, by omega⟩
    ·
     try simp only [decide_eq_true_eq, decide_eq_false_iff_not, Bool.not_eq_true', Bool.not_eq_false', beq_iff_eq, beq_eq_false_iff_ne, ne_eq] at h6
     refine at_skip rfl ?_
     refine blk_n ?_
     refine then_n ?_
     refine rg rfl ?_
     refine Rq ?_
     refine Rq ?_
     have tr : ∀ a b c d e f g h i j k m n o p q r s t u v w x y z A B C D E F G H I J K L M : AV, let l := lc_graph_ok a b c d e f g h i j k m n o p q r s t u v w x y z A B C D E F G H I J K; trim ((62,M)::(72,L)::l) l = lc_graph_ok a b c d e f g h i j k m n o p q r s t u v w x y z A B C M E F G H I J K := by intros; rfl
     refine R_nil (tr ..) ?_; clear tr
     refine then_n ?_
     exact ⟨_, _, ⟨w + 1, c, _, _, _, rfl, rfl, by exact q0, by exact q6, by exact qg, by (show HI.length ≤ HM.length; omega), by exact .inr ⟨hO0, bO, rfl, hbO, qO⟩, by exact qp, by exact hE, by (show HN.length < HM.length; omega), by omega, by first | exact cnt_hit hcc (by assumption) | exact cnt_miss hcc (by assumption)⟩, by rfl, by omega⟩
   ·
    try simp only [decide_eq_true_eq, decide_eq_false_iff_not, Bool.not_eq_true', Bool.not_eq_false', beq_iff_eq, beq_eq_false_iff_ne, ne_eq] at h5
    refine at_exit rfl ?_
    refine then_x ?_
    refine then_x ?_
    refine blk_x ?_
    refine then_n ?_
    refine at_seq rfl ?_
    refine rg rfl ?_
    obtain rfl : w = (othS L t).length := by omega
    have hcr := cnl_rng L t (norm (gt (pQ L t) i)) L.length
    rw [cnt_all (by omega)] at hcc
    subst hcc
    refine Rq ?_
    refine R_q rfl (by simp (disch := first | omega | (simp only [List.length_map, List.length_append, List.length_set, List.length_cons, List.length_nil]; omega)) only [go_sem, ↓reduceIte, Nat.reduceEqDiff, reduceCtorEq, q0, q6, qx, qg, qp, hpa] <;> rfl) ?_
    refine Rq ?_
    refine Rq ?_
    have tr : ∀ a b c d e f g h i j k m n o p q r s t u v w x y z A B C D E F G H I J K L M N O : AV, let l := lc_graph_ok a b c d e f g h i j k m n o p q r s t u v w x y z A B C D E F G H I J K; trim ((18,O)::(75,N)::(74,M)::(73,L)::l) l = lc_graph_ok a b c d e f g h i j k m n o O q r s t u v w x y z A B C D E F G H I J K := by intros; rfl
    refine R_nil (tr ..) ?_; clear tr
    refine then_n ?_
    refine rg rfl ?_
    refine Rq ?_
    refine R_q rfl (by simp (disch := first | omega | (simp only [List.length_map, List.length_append, List.length_set, List.length_cons, List.length_nil]; omega)) only [go_sem, ↓reduceIte, Nat.reduceEqDiff, reduceCtorEq, q0, q6, qx, qg, qp, hpa] <;> rfl) ?_
    refine Rq ?_
    refine Rq ?_
    refine Rq ?_
    refine Rq ?_
    refine Rq ?_
    refine Rq ?_
    refine Rq ?_
    refine Rq ?_
    refine R_q rfl (by simp (disch := first | omega | (simp only [List.length_map, List.length_append, List.length_set, List.length_cons, List.length_nil]; omega)) only [go_sem, ↓reduceIte, Nat.reduceEqDiff, reduceCtorEq, q0, q6, qx, qg, qp, hpa] <;> rfl) ?_
    refine Rq ?_
    refine Rq ?_
    refine Rq ?_
    refine Rq ?_
    refine Rq ?_
    refine Rq ?_
    refine Rq ?_
    refine R_q rfl (by simp (disch := first | omega | (simp only [List.length_map, List.length_append, List.length_set, List.length_cons, List.length_nil]; omega)) only [go_sem, ↓reduceIte, Nat.reduceEqDiff, reduceCtorEq, q0, q6, qx, qg, qp, hpa] <;> rfl) ?_
    refine Rq ?_
    refine Rq ?_
    refine Rq ?_
    have hob := fun b hb => hE.lt (b := b) hb
    have hgl := gEa_len 2 (2 + ((pQ L t).length : Int)) (cQ L t (pQ L t)) (pQ L t) i
    refine A_buildSlice (bs22_3 _ _ _ _ _ _ ⟨0, 2 + i, cQ L t (pQ L t) i⟩ ⟨2 + i, (2 + ((pQ L t).length : Int)) + (gt (pQ L t) i).a, cQ L t (pQ L t) i⟩ ⟨2 + i, (2 + ((pQ L t).length : Int)) + (gt (pQ L t) i).b, cQ L t (pQ L t) i⟩ (by simp (disch := first | omega | (simp only [List.length_map, List.length_append, List.length_set, List.length_cons, List.length_nil]; omega)) only [go_sem, ↓reduceIte, Nat.reduceEqDiff, reduceCtorEq, q0, q6, qx, qg, qp, hpa]) (by simp (disch := first | omega | (simp only [List.length_map, List.length_append, List.length_set, List.length_cons, List.length_nil]; omega)) only [go_sem, ↓reduceIte, Nat.reduceEqDiff, reduceCtorEq, q0, q6, qx, qg, qp, hpa]) (by simp (disch := first | omega | (simp only [List.length_map, List.length_append, List.length_set, List.length_cons, List.length_nil]; omega)) only [go_sem, ↓reduceIte, Nat.reduceEqDiff, reduceCtorEq, q0, q6, qx, qg, qp, hpa])) ?_
    intro HP n9
    have en9 := n9.len
    have q0 := (n9.old _ (hget_lt q0)).trans q0
    have q6 := (n9.old _ (hget_lt q6)).trans q6
    have qg := (n9.old _ (hget_lt qg)).trans qg
    have qn := n9.new
    have hA := hA.mono fun b hb k hk => (n9.old _ (hget_lt hk)).trans hk
    have hE := hE.mono fun b hb k hk => (n9.old _ (hget_lt hk)).trans hk
    have lq0 := hget_lt q0
    have lq6 := hget_lt q6
    have lqg := hget_lt qg
    obtain ⟨b, hbl, hbl2, hap⟩ := outE_append (lim := H.length) (X := gE1 2 (2 + ((pQ L t).length : Int)) (cQ L t (pQ L t)) (pQ L t) i) (m := 3) hE hob qn rfl (by simp [gE1]) (by omega) (by omega) (by omega)
    refine A_append (by simp (disch := first | omega | (simp only [List.length_map, List.length_append, List.length_set, List.length_cons, List.length_nil]; omega)) only [go_sem, ↓reduceIte, Nat.reduceEqDiff, reduceCtorEq, q0, q6, qx, qg, qp, hpa]; exact hap) ?_
    intro HQ g9
    have eg9 := g9.len
    have q0 := (g9.old _ (by omega) lq0).trans q0
    have q6 := (g9.old _ (by omega) lq6).trans q6
    have qg := (g9.old _ (by omega) lqg).trans qg
    have qq := g9.new
    have hA := hA.mono fun b7 hb k hk => (g9.old _ (by omega) (hget_lt hk)).trans hk
    have hE := outE_a (lo := HI.length) g9 (by omega) rfl
    refine Rq ?_
    have lq0 := hget_lt q0
    have lq6 := hget_lt q6
    have lqg := hget_lt qg
    refine A_store ty60 (by simp (disch := first | omega | (simp only [List.length_map, List.length_append, List.length_set, List.length_cons, List.length_nil]; omega)) only [go_sem, ↓reduceIte, Nat.reduceEqDiff, reduceCtorEq, q0, q6, qx, qg, qp, hpa] <;> rfl) (by simp (disch := first | omega | (simp only [List.length_map, List.length_append, List.length_set, List.length_cons, List.length_nil]; omega)) only [go_sem, ↓reduceIte, Nat.reduceEqDiff, reduceCtorEq, q0, q6, qx, qg, qp, hpa] <;> rfl) qg ⟨by omega, rfl, by first | exact Nat.le_refl _ | simp⟩ (show _ = [AV.i (2 + ((pQ L t).length : Int) + (P.length : Int)), AV.i 0, AV.i 1, (.own 3 HP.length 0 ((gEa 2 (2 + ((pQ L t).length : Int)) (cQ L t (pQ L t)) (pQ L t) i).length + 3))] from rfl) ?_
    intro HR w9
    have ew9 := w9.len
    have q0 := (w9.old _ (by omega)).trans q0
    have q6 := (w9.old _ (by omega)).trans q6
    have qg := w9.new
    have hE := hE.mono fun b hb k hk => (w9.old _ (by omega)).trans hk
    have hA := hA.mono fun b hb k hk => (w9.old _ (by omega)).trans hk
    have tr : ∀ a b c d e f g h i j k m n o p q r s t u v w x y z A B C D E F G H I J K L M N O P Q R S T U V W X Y Z a1 b1 c1 d1 e1 f1 g1 h1 i1 j1 : AV, let l := lc_graph_ok a b c d e f g h i j k m n o p q r s t u v w x y z A B C D E F G H I J K; trim ((100,j1)::(99,i1)::(98,h1)::(97,g1)::(96,f1)::(95,e1)::(94,d1)::(93,c1)::(92,b1)::(91,a1)::(90,Z)::(89,Y)::(88,X)::(87,W)::(86,V)::(85,U)::(84,T)::(83,S)::(82,R)::(81,Q)::(80,P)::(79,O)::(78,N)::(77,M)::(76,L)::l) l = lc_graph_ok a b c d e f g h i j k m n o p q r s t u v w x y z A B C D E F G H I J K := by intros; rfl
    refine R_nil (tr ..) ?_; clear tr
    refine blk_n ?_
    refine then_n ?_
    refine rg rfl ?_
    refine Rq ?_
    refine Rq ?_
    have tr : ∀ a b c d e f g h i j k m n o p q r s t u v w x y z A B C D E F G H I J K L M : AV, let l := lc_graph_ok a b c d e f g h i j k m n o p q r s t u v w x y z A B C D E F G H I J K; trim ((55,M)::(101,L)::l) l = lc_graph_ok a b c d e f g h i j k m n o p q r s t u v w x y M A B C D E F G H I J K := by intros; rfl
    refine R_nil (tr ..) ?_; clear tr
    refine then_n ?_
    exact ⟨_, _, ⟨i + 1, (.own 3 HP.length 0 ((gEa 2 (2 + ((pQ L t).length : Int)) (cQ L t (pQ L t)) (pQ L t) i).length + 3)), _, _, _, _, _, _, _, _, _, _, _, rfl, rfl, by exact q0, by exact q6, by exact qg, by first | (show HI.length ≤ HR.length; omega) | omega, by exact hA, by omega, by exact hE⟩, by rfl, by omega⟩
  ·
   try simp only [decide_eq_true_eq, decide_eq_false_iff_not, Bool.not_eq_true', Bool.not_eq_false', beq_iff_eq, beq_eq_false_iff_ne, ne_eq] at h4
   refine at_exit rfl ?_
   refine then_x ?_
   refine then_x ?_
   refine blk_x ?_
   refine then_n ?_
   refine at_seq rfl ?_
   refine at_seq rfl ?_
   refine rg rfl ?_
   obtain rfl : i = (pQ L t).length := by omega
   refine Rq ?_
   refine R_q rfl (by simp (disch := first | omega | (simp only [List.length_map, List.length_append, List.length_set, List.length_cons, List.length_nil]; omega)) only [go_sem, ↓reduceIte, Nat.reduceEqDiff, reduceCtorEq, q0, q6, qx, qg, qp, hpa] <;> rfl) ?_
   refine Rq ?_
   refine Rq ?_
   have tr : ∀ a b c d e f g h i j k m n o p q r s t u v w x y z A B C D E F G H I J K L M N O : AV, let l := lc_graph_ok a b c d e f g h i j k m n o p q r s t u v w x y z A B C D E F G H I J K; trim ((105,O)::(104,N)::(103,M)::(102,L)::l) l = lc_graph_ok a b c d e f g h i j k m n o p q r s t u v w x y z A B C D E F M N O J K := by intros; rfl
   refine R_nil (tr ..) ?_; clear tr
   refine then_n ?_
   refine at_block rfl ?_
   refine loop_n rfl (fun mm kv H' => ∃ j : Nat, ∃ oF : AV, ∃ x19 x20 x106 x112 : AV, (kv = [(19, x19), (20, x20), (105, AV.i j), (106, x106), (112, x112)]) ∧ (mm = P.length - j) ∧ (hget H' H.length = some (raceC P L)) ∧ (hget H' H1.length = some [AV.i 0, AV.i 0, AV.i 0, nilP]) ∧ (hget H' HB.length = some [AV.i (2 + ((pQ L t).length : Int) + (P.length : Int)), AV.i 0, AV.i 1, oF]) ∧ (HI.length ≤ H'.length) ∧ (j ≤ P.length) ∧ (OutE HI.length H' oF (gEb (2 + ((pQ L t).length : Int)) P t goal (gEa 2 (2 + ((pQ L t).length : Int)) (cQ L t (pQ L t)) (pQ L t) (pQ L t).length) j))) ⟨0, oE, _, _, _, _, rfl, rfl, by exact q0, by exact q6, by exact qg, by exact hHI, by omega, by exact hE⟩ (by rfl) ?_
   rintro mm kv HS ⟨j, oF, x19, x20, x106, x112, rfl, rfl, q0, q6, qg, hHI2, hj, hE⟩
   have tr : ∀ a b c d e f g h i j k m n o p q r s t u v w x y z A B C D E F G H I J K L M N O P : AV, upd (lc_graph_ok a b c d e f g h i j k m n o p q r s t u v w x y z A B C D E F G H I J K) [(19,L),(20,M),(105,N),(106,O),(112,P)] = lc_graph_ok a b c d e f g h i j k m n o p L M s t u v w x y z A B C D E F G H N O P := by intros; rfl
   refine W_to (tr ..) ?_; clear tr
   refine at_seq rfl ?_
   refine rg rfl ?_
   refine Rq ?_
   have tr : ∀ a b c d e f g h i j k m n o p q r s t u v w x y z A B C D E F G H I J K L : AV, let l := lc_graph_ok a b c d e f g h i j k m n o p q r s t u v w x y z A B C D E F G H I J K; trim ((106,L)::l) l = lc_graph_ok a b c d e f g h i j k m n o p q r s t u v w x y z A B C D E F G H I L K := by intros; rfl
   refine R_nil (tr ..) ?_; clear tr
   refine then_n ?_
   refine at_seq rfl ?_
   refine cdd (fun h7 => ?_) (fun h7 => ?_)
   ·
    try simp only [decide_eq_true_eq, decide_eq_false_iff_not, Bool.not_eq_true', Bool.not_eq_false', beq_iff_eq, beq_eq_false_iff_ne, ne_eq] at h7
    refine at_skip rfl ?_
    refine then_n ?_
    refine at_seq rfl ?_
    refine at_block rfl ?_
    refine at_seq rfl ?_
    refine rg rfl ?_
    have hgk := hg0 j (by omega)
    have hpk := g.pt j (by omega)
    have hgbl := gEb_len (2 + ((pQ L t).length : Int)) P t goal (gEa 2 (2 + ((pQ L t).length : Int)) (cQ L t (pQ L t)) (pQ L t) (pQ L t).length) j
    have hgal := gEa_len 2 (2 + ((pQ L t).length : Int)) (cQ L t (pQ L t)) (pQ L t) (pQ L t).length
    refine Rq ?_
    refine Rq ?_
    refine R_q rfl (by simp (disch := first | omega | (simp only [List.length_map, List.length_append, List.length_set, List.length_cons, List.length_nil]; omega)) only [go_sem, ↓reduceIte, Nat.reduceEqDiff, reduceCtorEq, q0, q6, qx, qg, qp, hpa] <;> rfl) ?_
    refine Rq ?_
    refine Rq ?_
    have tr : ∀ a b c d e f g h i j k m n o p q r s t u v w x y z A B C D E F G H I J K L M N O P : AV, let l := lc_graph_ok a b c d e f g h i j k m n o p q r s t u v w x y z A B C D E F G H I J K; trim ((20,P)::(19,O)::(109,N)::(108,M)::(107,L)::l) l = lc_graph_ok a b c d e f g h i j k m n o p O P s t u v w x y z A B C D E F G H I J K := by intros; rfl
    refine R_nil (tr ..) ?_; clear tr
    refine then_n ?_
    refine at_seq rfl ?_
    refine rg rfl ?_
    refine Rq ?_
    refine Rq ?_
    refine Rq ?_
    have tr : ∀ a b c d e f g h i j k m n o p q r s t u v w x y z A B C D E F G H I J K L M N : AV, let l := lc_graph_ok a b c d e f g h i j k m n o p q r s t u v w x y z A B C D E F G H I J K; trim ((112,N)::(111,M)::(110,L)::l) l = lc_graph_ok a b c d e f g h i j k m n o p q r s t u v w x y z A B C D E F G H I J N := by intros; rfl
    refine R_nil (tr ..) ?_; clear tr
    refine then_n ?_
    refine cdd (fun h8 => ?_) (fun h8 => ?_)
    ·
     try simp only [decide_eq_true_eq, decide_eq_false_iff_not, Bool.not_eq_true', Bool.not_eq_false', beq_iff_eq, beq_eq_false_iff_ne, ne_eq] at h8
     refine rg rfl ?_
     refine Rq ?_
     refine R_q rfl (by simp (disch := first | omega | (simp only [List.length_map, List.length_append, List.length_set, List.length_cons, List.length_nil]; omega)) only [go_sem, ↓reduceIte, Nat.reduceEqDiff, reduceCtorEq, q0, q6, qx, qg, qp, hpa] <;> rfl) ?_
     refine Rq ?_
     refine R_q rfl (by simp (disch := first | omega | (simp only [List.length_map, List.length_append, List.length_set, List.length_cons, List.length_nil]; omega)) only [go_sem, ↓reduceIte, Nat.reduceEqDiff, reduceCtorEq, q0, q6, qx, qg, qp, hpa]; exact pairsA_len _) ?_
     refine Rq ?_
     refine Rq ?_
     refine Rq ?_
     refine Rq ?_
     refine Rq ?_
     refine Rq ?_
     refine Rq ?_
     have hob := fun b hb => hE.lt (b := b) hb
     refine A_buildSlice (bs22_1 _ _ _ _ ⟨(2 + ((pQ L t).length : Int)) + j, 1, goal - gt P j⟩ (by simp (disch := first | omega | (simp only [List.length_map, List.length_append, List.length_set, List.length_cons, List.length_nil]; omega)) only [go_sem, ↓reduceIte, Nat.reduceEqDiff, reduceCtorEq, q0, q6, qx, qg, qp, hpa])) ?_
     intro HT n2
     have en2 := n2.len
     have q0 := (n2.old _ (hget_lt q0)).trans q0
     have q6 := (n2.old _ (hget_lt q6)).trans q6
     have qg := (n2.old _ (hget_lt qg)).trans qg
     have qn := n2.new
     have hE := hE.mono fun b hb k hk => (n2.old _ (hget_lt hk)).trans hk
     have lq0 := hget_lt q0
     have lq6 := hget_lt q6
     have lqg := hget_lt qg
     obtain ⟨b, hbl, hbl2, hap⟩ := outE_append (lim := H.length) (X := [⟨(2 + ((pQ L t).length : Int)) + j, 1, goal - gt P j⟩]) (m := 1) hE hob qn rfl (by simp) (by omega) (by omega) (by omega)
     refine A_append (by simp (disch := first | omega | (simp only [List.length_map, List.length_append, List.length_set, List.length_cons, List.length_nil]; omega)) only [go_sem, ↓reduceIte, Nat.reduceEqDiff, reduceCtorEq, q0, q6, qx, qg, qp, hpa]; exact hap) ?_
     intro HU g2_
     have eg2_ := g2_.len
     have q0 := (g2_.old _ (by omega) lq0).trans q0
     have q6 := (g2_.old _ (by omega) lq6).trans q6
     have qg := (g2_.old _ (by omega) lqg).trans qg
     have qq := g2_.new
     have hE := outE_b (lo := HI.length) g2_ (by omega) (by omega) rfl
     refine Rq ?_
     have lq0 := hget_lt q0
     have lq6 := hget_lt q6
     have lqg := hget_lt qg
     refine A_store ty60 (by simp (disch := first | omega | (simp only [List.length_map, List.length_append, List.length_set, List.length_cons, List.length_nil]; omega)) only [go_sem, ↓reduceIte, Nat.reduceEqDiff, reduceCtorEq, q0, q6, qx, qg, qp, hpa] <;> rfl) (by simp (disch := first | omega | (simp only [List.length_map, List.length_append, List.length_set, List.length_cons, List.length_nil]; omega)) only [go_sem, ↓reduceIte, Nat.reduceEqDiff, reduceCtorEq, q0, q6, qx, qg, qp, hpa] <;> rfl) qg ⟨by omega, rfl, by first | exact Nat.le_refl _ | simp⟩ (show _ = [AV.i (2 + ((pQ L t).length : Int) + (P.length : Int)), AV.i 0, AV.i 1, (.own 3 HT.length 0 ((gEb (2 + ((pQ L t).length : Int)) P t goal (gEa 2 (2 + ((pQ L t).length : Int)) (cQ L t (pQ L t)) (pQ L t) (pQ L t).length) j).length + 1))] from rfl) ?_
     intro HV w2
     have ew2 := w2.len
     have q0 := (w2.old _ (by omega)).trans q0
     have q6 := (w2.old _ (by omega)).trans q6
     have qg := w2.new
     have hE := hE.mono fun b hb k hk => (w2.old _ (by omega)).trans hk
     have tr : ∀ a b c d e f g h i j k m n o p q r s t u v w x y z A B C D E F G H I J K L M N O P Q R S T U V W X Y : AV, let l := lc_graph_ok a b c d e f g h i j k m n o p q r s t u v w x y z A B C D E F G H I J K; trim ((126,Y)::(125,X)::(124,W)::(123,V)::(122,U)::(121,T)::(120,S)::(119,R)::(118,Q)::(117,P)::(116,O)::(115,N)::(114,M)::(113,L)::l) l = lc_graph_ok a b c d e f g h i j k m n o p q r s t u v w x y z A B C D E F G H I J K := by intros; rfl
     refine R_nil (tr ..) ?_; clear tr
     refine blk_n ?_
     refine then_n ?_
     refine rg rfl ?_
     refine Rq ?_
     refine Rq ?_
     have tr : ∀ a b c d e f g h i j k m n o p q r s t u v w x y z A B C D E F G H I J K L M : AV, let l := lc_graph_ok a b c d e f g h i j k m n o p q r s t u v w x y z A B C D E F G H I J K; trim ((105,M)::(127,L)::l) l = lc_graph_ok a b c d e f g h i j k m n o p q r s t u v w x y z A B C D E F G H M J K := by intros; rfl
     refine R_nil (tr ..) ?_; clear tr
     refine then_n ?_
     exact ⟨_, _, ⟨j + 1, (.own 3 HT.length 0 ((gEb (2 + ((pQ L t).length : Int)) P t goal (gEa 2 (2 + ((pQ L t).length : Int)) (cQ L t (pQ L t)) (pQ L t) (pQ L t).length) j).length + 1)), _, _, _, _, rfl, rfl, by exact q0, by exact q6, by exact qg, by first | (show HI.length ≤ HV.length; omega) | omega, by omega, by first | exact hE | exact outE_k hE (by omega)⟩, by rfl, by omega⟩
    ·
     try simp only [decide_eq_true_eq, decide_eq_false_iff_not, Bool.not_eq_true', Bool.not_eq_false', beq_iff_eq, beq_eq_false_iff_ne, ne_eq] at h8
     refine at_skip rfl ?_
     refine blk_n ?_
     refine then_n ?_
     refine rg rfl ?_
     refine Rq ?_
     refine Rq ?_
     have tr : ∀ a b c d e f g h i j k m n o p q r s t u v w x y z A B C D E F G H I J K L M : AV, let l := lc_graph_ok a b c d e f g h i j k m n o p q r s t u v w x y z A B C D E F G H I J K; trim ((105,M)::(127,L)::l) l = lc_graph_ok a b c d e f g h i j k m n o p q r s t u v w x y z A B C D E F G H M J K := by intros; rfl
     refine R_nil (tr ..) ?_; clear tr
     refine then_n ?_
     exact ⟨_, _, ⟨j + 1, oF, _, _, _, _, rfl, rfl, by exact q0, by exact q6, by exact qg, by first | (show HI.length ≤ HV.length; omega) | omega, by omega, by first | exact hE | exact outE_k hE (by omega)⟩, by rfl, by omega⟩
   ·
    try simp only [decide_eq_true_eq, decide_eq_false_iff_not, Bool.not_eq_true', Bool.not_eq_false', beq_iff_eq, beq_eq_false_iff_ne, ne_eq] at h7
    refine at_exit rfl ?_
    refine then_x ?_
    refine then_x ?_
    refine blk_x ?_
    refine then_n ?_
    refine at_seq rfl ?_
    refine rg rfl ?_
    obtain rfl : j = P.length := by omega
    have hgne := gE_ne 2 (2 + ((pQ L t).length : Int)) (cQ L t (pQ L t)) (pQ L t) (t := t) goal g2
    obtain ⟨hE7, bE, rfl, hbE, qE⟩ := hE.resolve_left (fun hh => hgne hh.1)
    refine R_q rfl (by simp (disch := first | omega | (simp only [List.length_map, List.length_append, List.length_set, List.length_cons, List.length_nil]; omega)) only [go_sem, ↓reduceIte, Nat.reduceEqDiff, reduceCtorEq, q0, q6, qx, qg, qp, hpa] <;> rfl) ?_
    refine Rq ?_
    have lq0 := hget_lt q0
    have lq6 := hget_lt q6
    have lqg := hget_lt qg
    refine A_store ty62 (by simp (disch := first | omega | (simp only [List.length_map, List.length_append, List.length_set, List.length_cons, List.length_nil]; omega)) only [go_sem, ↓reduceIte, Nat.reduceEqDiff, reduceCtorEq, q0, q6, qx, qg, qp, hpa] <;> rfl) (by simp (disch := first | omega | (simp only [List.length_map, List.length_append, List.length_set, List.length_cons, List.length_nil]; omega)) only [go_sem, ↓reduceIte, Nat.reduceEqDiff, reduceCtorEq, q0, q6, qx, qg, qp, hpa] <;> rfl) q6 ⟨by omega, rfl, by first | exact Nat.le_refl _ | simp⟩ (show _ = [AV.i (2 + ((pQ L t).length : Int) + (P.length : Int)), AV.i 0, AV.i 1, _] from rfl) ?_
    intro HZ wz
    have ewz := wz.len
    have q0 := (wz.old _ (by omega)).trans q0
    have qg := (wz.old _ (by omega)).trans qg
    have q6 := wz.new
    have hE := hE.mono fun b hb k hk => (wz.old _ (by omega)).trans hk
    refine Rq ?_
    have tr : ∀ a b c d e f g h i j k m n o p q r s t u v w x y z A B C D E F G H I J K L M N : AV, let l := lc_graph_ok a b c d e f g h i j k m n o p q r s t u v w x y z A B C D E F G H I J K; trim ((7,N)::(129,M)::(128,L)::l) l = lc_graph_ok a b c d e N g h i j k m n o p q r s t u v w x y z A B C D E F G H I J K := by intros; rfl
    refine R_nil (tr ..) ?_; clear tr
    refine then_n ?_
    refine at_ret rfl ?_
    refine fin_pure (rs := [.cell 6 62, .tmp 7]) rfl (by simp only [go_sem, ↓reduceIte, Nat.reduceEqDiff, q6]; rfl) rfl ?_
    refine ⟨?_, rfl⟩
    show AV.tup [AV.agg [AV.i _, AV.i _, AV.i _, frz HZ H.length 6 _], frz HZ H.length 7 _] = _
    rw [hE.frz (by omega) hgne, frz_pairsA]

end Go.Proofs.Ytdmeioppkannlaa
end
section
set_option linter.unusedSimpArgs false
set_option linter.unusedVariables false
set_option maxHeartbeats 40000000
set_option maxRecDepth 4000
namespace Go.Proofs.Ytdmeioppkannlaa
open Go Go.Am

abbrev lc_results_ok (a b c d e f g h i j k m n o p q r s t u v w x : AV) : Env := [(0,a),(1,b),(2,c),(3,d),(4,e),(8,f),(9,g),(10,h),(11,i),(12,j),(13,k),(14,m),(15,n),(20,o),(21,p),(22,q),(39,r),(40,s),(41,t),(42,u),(46,v),(54,w),(86,x)]
theorem results_ok (lim : Nat) (H : Heap) (P : List Int) (L : List Pr) (t : Int) (f : List Int) (g : ROK P L) (t0 : 0 ≤ t) (t1 : t < P.length) (hf : 3 * (pQ L t).length ≤ f.length) (hfl : f.length ≤ 1000) (hfr : ∀ i, i < (pQ L t).length → 0 ≤ gt f (3 * i + 1) ∧ gt f (3 * i + 1) ≤ 1073741824) :
    ACall sig lim 17 [.agg (raceC P L), AV.i t, pairsA (othN L t L.length), intsAV f] H fun r H' => r = intsAV (resN (pQ L t) t L (yN f (pQ L t).length (pQ L t).length) L.length).2 ∧ H' = H := by
 have q0 : True := trivial
 have qy : True := trivial
 have qw : True := trivial
 have qx : True := trivial
 have hpa : True := trivial
 have g20 := g.n20
 have gel := g.el
 have gpr := g.pr
 have WQ : PQ L t (pQ L t) := (pq_prog L t L.length).to
 have hNQ := pQ_nq L t
 have hql := pq_len WQ
 have hqr := pq_rng g WQ
 have hqe : (pairsN (othN L t L.length) (othN L t L.length).length).length = (pQ L t).length := rfl
 have hY : ∀ i, 0 ≤ gt (yN f (pQ L t).length (pQ L t).length) i := fun i => by
   rw [yN_gt _ _ _ (Nat.le_refl _)]
   split
   · exact (hfr i (by assumption)).1
   · exact Int.le_refl _
 refine ACall_pure (fa := fa17) rfl rfl rfl rfl ?_
 have tr : ∀ a0 a1 a2 a3 : AV, env0 fa17.keep [a0, a1, a2, a3] = lc_results_ok a0 a1 a2 a3 .any .any .any .any .any .any .any .any .any .any .any .any .any .any .any .any .any .any .any := fun a0 a1 a2 a3 => rfl
 refine W_to (tr _ _ _ _) ?_; clear tr
 refine at_seq rfl ?_
 refine rg rfl ?_
 refine A_box rfl (by simp (disch := first | omega | (simp only [List.length_map, List.length_append, List.length_set, List.length_cons, List.length_nil]; omega)) only [go_sem, ↓reduceIte, Nat.reduceEqDiff, reduceCtorEq] <;> rfl) ?_
 intro H1 n0
 have en0 := n0.len
 have q0 := n0.new
 refine Rq ?_
 have tr : ∀ a b c d e f g h i j k m n o p q r s t u v w x y z : AV, let l := lc_results_ok a b c d e f g h i j k m n o p q r s t u v w x; trim ((8,z)::(4,y)::l) l = lc_results_ok a b c d y z g h i j k m n o p q r s t u v w x := by intros; rfl
 refine R_nil (tr ..) ?_; clear tr
 refine then_n ?_
 refine at_seq rfl ?_
 refine rg rfl ?_
 refine Rq ?_
 refine R_q rfl (by simp (disch := first | omega | (simp only [List.length_map, List.length_append, List.length_set, List.length_cons, List.length_nil]; omega)) only [go_sem, ↓reduceIte, Nat.reduceEqDiff, reduceCtorEq, q0, qy, qw, qx, hpa]; exact pairsA_len _) ?_
 refine A_makeSlice (ms27n _ _ (pQ L t).length _ _ _ (by omega) (by simp (disch := first | omega | (simp only [List.length_map, List.length_append, List.length_set, List.length_cons, List.length_nil]; omega)) only [go_sem, ↓reduceIte, Nat.reduceEqDiff, reduceCtorEq, q0, qy, qw, qx, hpa]) (by simp (disch := first | omega | (simp only [List.length_map, List.length_append, List.length_set, List.length_cons, List.length_nil]; omega)) only [go_sem, ↓reduceIte, Nat.reduceEqDiff, reduceCtorEq, q0, qy, qw, qx, hpa])) ?_
 intro H2 n1
 have en1 := n1.len
 have q0 := (n1.old _ (hget_lt q0)).trans q0
 have qy := n1.new
 refine Rq ?_
 have tr : ∀ a b c d e f g h i j k m n o p q r s t u v w x y z A B : AV, let l := lc_results_ok a b c d e f g h i j k m n o p q r s t u v w x; trim ((9,B)::(18,A)::(17,z)::(16,y)::l) l = lc_results_ok a b c d e f B h i j k m n o p q r s t u v w x := by intros; rfl
 refine R_nil (tr ..) ?_; clear tr
 refine then_n ?_
 refine at_seq rfl ?_
 refine at_seq rfl ?_
 refine rg rfl ?_
 refine Rq ?_
 refine R_q rfl (by simp (disch := first | omega | (simp only [List.length_map, List.length_append, List.length_set, List.length_cons, List.length_nil]; omega)) only [go_sem, ↓reduceIte, Nat.reduceEqDiff, reduceCtorEq, q0, qy, qw, qx, hpa]; exact pairsA_len _) ?_
 refine Rq ?_
 have tr : ∀ a b c d e f g h i j k m n o p q r s t u v w x y z A : AV, let l := lc_results_ok a b c d e f g h i j k m n o p q r s t u v w x; trim ((21,A)::(20,z)::(19,y)::l) l = lc_results_ok a b c d e f g h i j k m n z A q r s t u v w x := by intros; rfl
 refine R_nil (tr ..) ?_; clear tr
 refine then_n ?_
 refine at_block rfl ?_
 refine loop_n rfl (fun mm kv H' => ∃ i : Nat, ∃ x10 x22 : AV, (kv = [(10, x10), (21, AV.i i), (22, x22)]) ∧ (mm = (pQ L t).length - i) ∧ (hget H' H.length = some (raceC P L)) ∧ (hget H' H1.length = some ((yN f (pQ L t).length i).map AV.i)) ∧ (H'.length = H2.length) ∧ (i ≤ (pQ L t).length)) ⟨0, _, _, rfl, rfl, by exact q0, by exact qy, by rfl, by omega⟩ (by rfl) ?_
 rintro mm kv HA ⟨i, x10, x22, rfl, rfl, q0, qy, hHA, hi⟩
 have tr : ∀ a b c d e f g h i j k m n o p q r s t u v w x y z A : AV, upd (lc_results_ok a b c d e f g h i j k m n o p q r s t u v w x) [(10,y),(21,z),(22,A)] = lc_results_ok a b c d e f g y i j k m n o z A r s t u v w x := by intros; rfl
 refine W_to (tr ..) ?_; clear tr
 refine at_seq rfl ?_
 refine rg rfl ?_
 refine Rq ?_
 have tr : ∀ a b c d e f g h i j k m n o p q r s t u v w x y : AV, let l := lc_results_ok a b c d e f g h i j k m n o p q r s t u v w x; trim ((22,y)::l) l = lc_results_ok a b c d e f g h i j k m n o p y r s t u v w x := by intros; rfl
 refine R_nil (tr ..) ?_; clear tr
 refine then_n ?_
 refine at_seq rfl ?_
 refine cdd (fun h1 => ?_) (fun h1 => ?_)
 ·
  try simp only [decide_eq_true_eq, decide_eq_false_iff_not, Bool.not_eq_true', Bool.not_eq_false', beq_iff_eq, beq_eq_false_iff_ne, ne_eq] at h1
  refine at_skip rfl ?_
  refine then_n ?_
  refine at_seq rfl ?_
  refine at_block rfl ?_
  refine at_seq rfl ?_
  refine rg rfl ?_
  refine Rq ?_
  refine Rq ?_
  have tr : ∀ a b c d e f g h i j k m n o p q r s t u v w x y z : AV, let l := lc_results_ok a b c d e f g h i j k m n o p q r s t u v w x; trim ((10,z)::(23,y)::l) l = lc_results_ok a b c d e f g z i j k m n o p q r s t u v w x := by intros; rfl
  refine R_nil (tr ..) ?_; clear tr
  refine then_n ?_
  refine rg rfl ?_
  have hfi := hfr i (by omega)
  have hyl := yN_len f (pQ L t).length i
  refine Rq ?_
  refine Rq ?_
  refine Rq ?_
  refine Rq ?_
  refine Rq ?_
  refine Rq ?_
  refine Rq ?_
  refine R_q rfl (by simp (disch := first | omega | (simp only [List.length_map, List.length_append, List.length_set, List.length_cons, List.length_nil]; omega)) only [go_sem, ↓reduceIte, Nat.reduceEqDiff, reduceCtorEq, q0, qy, qw, qx, hpa] <;> rfl) ?_
  refine Rq ?_
  have lq0 := hget_lt q0
  have lqy := hget_lt qy
  refine A_store ty2 (by simp (disch := first | omega | (simp only [List.length_map, List.length_append, List.length_set, List.length_cons, List.length_nil]; omega)) only [go_sem, ↓reduceIte, Nat.reduceEqDiff, reduceCtorEq, q0, qy, qw, qx, hpa] <;> rfl) (by simp (disch := first | omega | (simp only [List.length_map, List.length_append, List.length_set, List.length_cons, List.length_nil]; omega)) only [go_sem, ↓reduceIte, Nat.reduceEqDiff, reduceCtorEq, q0, qy, qw, qx, hpa] <;> rfl) qy ⟨by omega, rfl, by simp only [List.length_map, List.length_set]; omega⟩ (k' := (yN f (pQ L t).length (i + 1)).map AV.i) (by rw [setL_map]; rfl) ?_
  intro HA1 wA1
  have ewA1 := wA1.len
  have q0 := (wA1.old _ (by omega)).trans q0
  have qy := wA1.new
  have tr : ∀ a b c d e f g h i j k m n o p q r s t u v w x y z A B C D E F G : AV, let l := lc_results_ok a b c d e f g h i j k m n o p q r s t u v w x; trim ((32,G)::(31,F)::(30,E)::(29,D)::(28,C)::(27,B)::(26,A)::(25,z)::(24,y)::l) l = lc_results_ok a b c d e f g h i j k m n o p q r s t u v w x := by intros; rfl
  refine R_nil (tr ..) ?_; clear tr
  refine blk_n ?_
  refine then_n ?_
  refine rg rfl ?_
  refine Rq ?_
  refine Rq ?_
  have tr : ∀ a b c d e f g h i j k m n o p q r s t u v w x y z : AV, let l := lc_results_ok a b c d e f g h i j k m n o p q r s t u v w x; trim ((21,z)::(33,y)::l) l = lc_results_ok a b c d e f g h i j k m n o z q r s t u v w x := by intros; rfl
  refine R_nil (tr ..) ?_; clear tr
  refine then_n ?_
  exact ⟨_, _, ⟨i + 1, _, _, rfl, rfl, by exact q0, by exact qy, by (show HA1.length = H2.length; omega), by omega⟩, by rfl, by omega⟩
 ·
  try simp only [decide_eq_true_eq, decide_eq_false_iff_not, Bool.not_eq_true', Bool.not_eq_false', beq_iff_eq, beq_eq_false_iff_ne, ne_eq] at h1
  refine at_exit rfl ?_
  refine then_x ?_
  refine then_x ?_
  refine blk_x ?_
  refine then_n ?_
  refine at_seq rfl ?_
  refine rg rfl ?_
  obtain rfl : i = (pQ L t).length := by omega
  refine Rq ?_
  refine R_q rfl (by simp (disch := first | omega | (simp only [List.length_map, List.length_append, List.length_set, List.length_cons, List.length_nil]; omega)) only [go_sem, ↓reduceIte, Nat.reduceEqDiff, reduceCtorEq, q0, qy, qw, qx, hpa] <;> rfl) ?_
  refine Rq ?_
  refine A_makeSlice (ms40n _ _ L.length _ _ _ (by omega) (by simp (disch := first | omega | (simp only [List.length_map, List.length_append, List.length_set, List.length_cons, List.length_nil]; omega)) only [go_sem, ↓reduceIte, Nat.reduceEqDiff, reduceCtorEq, q0, qy, qw, qx, hpa]) (by simp (disch := first | omega | (simp only [List.length_map, List.length_append, List.length_set, List.length_cons, List.length_nil]; omega)) only [go_sem, ↓reduceIte, Nat.reduceEqDiff, reduceCtorEq, q0, qy, qw, qx, hpa])) ?_
  intro H4 n2
  have en2 := n2.len
  have q0 := (n2.old _ (hget_lt q0)).trans q0
  have qy := (n2.old _ (hget_lt qy)).trans qy
  have qw := n2.new
  refine Rq ?_
  have tr : ∀ a b c d e f g h i j k m n o p q r s t u v w x y z A B C : AV, let l := lc_results_ok a b c d e f g h i j k m n o p q r s t u v w x; trim ((11,C)::(37,B)::(36,A)::(35,z)::(34,y)::l) l = lc_results_ok a b c d e f g h C j k m n o p q r s t u v w x := by intros; rfl
  refine R_nil (tr ..) ?_; clear tr
  refine then_n ?_
  refine at_seq rfl ?_
  refine at_seq rfl ?_
  refine rg rfl ?_
  refine Rq ?_
  refine R_q rfl (by simp (disch := first | omega | (simp only [List.length_map, List.length_append, List.length_set, List.length_cons, List.length_nil]; omega)) only [go_sem, ↓reduceIte, Nat.reduceEqDiff, reduceCtorEq, q0, qy, qw, qx, hpa] <;> rfl) ?_
  refine Rq ?_
  refine Rq ?_
  have tr : ∀ a b c d e f g h i j k m n o p q r s t u v w x y z A B : AV, let l := lc_results_ok a b c d e f g h i j k m n o p q r s t u v w x; trim ((41,B)::(40,A)::(39,z)::(38,y)::l) l = lc_results_ok a b c d e f g h i j k m n o p q z A B u v w x := by intros; rfl
  refine R_nil (tr ..) ?_; clear tr
  refine then_n ?_
  refine at_block rfl ?_
  refine loop_n rfl (fun mm kv H' => ∃ u : Nat, ∃ x12 x13 x14 x15 x42 x46 x54 x86 : AV, (kv = [(12, x12), (13, x13), (14, x14), (15, x15), (41, AV.i u), (42, x42), (46, x46), (54, x54), (86, x86)]) ∧ (mm = L.length - u) ∧ (hget H' H.length = some (raceC P L)) ∧ (hget H' H1.length = some ((resN (pQ L t) t L (yN f (pQ L t).length (pQ L t).length) u).1.map AV.i)) ∧ (hget H' HA.length = some ((resN (pQ L t) t L (yN f (pQ L t).length (pQ L t).length) u).2.map AV.i)) ∧ (H4.length ≤ H'.length) ∧ (u ≤ L.length)) ⟨0, _, _, _, _, _, _, _, _, rfl, rfl, by exact q0, by exact qy, by exact qw, by exact Nat.le_refl _, by omega⟩ (by rfl) ?_
  rintro mm kv HB ⟨u, x12, x13, x14, x15, x42, x46, x54, x86, rfl, rfl, q0, qy, qw, hHB, hu⟩
  have tr : ∀ a b c d e f g h i j k m n o p q r s t u v w x y z A B C D E F G : AV, upd (lc_results_ok a b c d e f g h i j k m n o p q r s t u v w x) [(12,y),(13,z),(14,A),(15,B),(41,C),(42,D),(46,E),(54,F),(86,G)] = lc_results_ok a b c d e f g h i y z A B o p q r s C D E F G := by intros; rfl
  refine W_to (tr ..) ?_; clear tr
  have hrl := res_len (pQ L t) t L (yN f (pQ L t).length (pQ L t).length) u
  rw [yN_len] at hrl
  obtain ⟨hrl1, hrl2⟩ := hrl
  refine at_seq rfl ?_
  refine rg rfl ?_
  refine Rq ?_
  have tr : ∀ a b c d e f g h i j k m n o p q r s t u v w x y : AV, let l := lc_results_ok a b c d e f g h i j k m n o p q r s t u v w x; trim ((42,y)::l) l = lc_results_ok a b c d e f g h i j k m n o p q r s t y v w x := by intros; rfl
  refine R_nil (tr ..) ?_; clear tr
  refine then_n ?_
  refine at_seq rfl ?_
  refine cdd (fun h2 => ?_) (fun h2 => ?_)
  ·
   try simp only [decide_eq_true_eq, decide_eq_false_iff_not, Bool.not_eq_true', Bool.not_eq_false', beq_iff_eq, beq_eq_false_iff_ne, ne_eq] at h2
   refine at_skip rfl ?_
   refine then_n ?_
   refine at_seq rfl ?_
   refine at_block rfl ?_
   refine at_seq rfl ?_
   refine rg rfl ?_
   refine Rq ?_
   refine Rq ?_
   refine R_q rfl (by simp (disch := first | omega | (simp only [List.length_map, List.length_append, List.length_set, List.length_cons, List.length_nil]; omega)) only [go_sem, ↓reduceIte, Nat.reduceEqDiff, reduceCtorEq, q0, qy, qw, qx, hpa] <;> rfl) ?_
   refine A_alloc rfl ?_
   intro HC n4
   have en4 := n4.len
   have q0 := (n4.old _ (hget_lt q0)).trans q0
   have qy := (n4.old _ (hget_lt qy)).trans qy
   have qw := (n4.old _ (hget_lt qw)).trans qw
   have qx := n4.new
   refine Rq ?_
   have lq0 := hget_lt q0
   have lqy := hget_lt qy
   have lqw := hget_lt qw
   have lqx := hget_lt qx
   refine A_store ty31 (by simp (disch := first | omega | (simp only [List.length_map, List.length_append, List.length_set, List.length_cons, List.length_nil]; omega)) only [go_sem, ↓reduceIte, Nat.reduceEqDiff, reduceCtorEq, q0, qy, qw, qx, hpa] <;> rfl) (by simp (disch := first | omega | (simp only [List.length_map, List.length_append, List.length_set, List.length_cons, List.length_nil]; omega)) only [go_sem, ↓reduceIte, Nat.reduceEqDiff, reduceCtorEq, q0, qy, qw, qx, hpa] <;> rfl) qx ⟨by omega, rfl, by first | exact Nat.le_refl _ | simp⟩ (show _ = prC (gt L u) from rfl) ?_
   intro HD w4
   have ew4 := w4.len
   have q0 := (w4.old _ (by omega)).trans q0
   have qy := (w4.old _ (by omega)).trans qy
   have qw := (w4.old _ (by omega)).trans qw
   have qx := w4.new
   have tr : ∀ a b c d e f g h i j k m n o p q r s t u v w x y z A B C : AV, let l := lc_results_ok a b c d e f g h i j k m n o p q r s t u v w x; trim ((12,C)::(13,B)::(45,A)::(44,z)::(43,y)::l) l = lc_results_ok a b c d e f g h i C B m n o p q r s t u v w x := by intros; rfl
   refine R_nil (tr ..) ?_; clear tr
   refine then_n ?_
   refine at_block rfl ?_
   refine at_seq rfl ?_
   refine rg rfl ?_
   refine Rq ?_
   refine R_q rfl (by simp (disch := first | omega | (simp only [List.length_map, List.length_append, List.length_set, List.length_cons, List.length_nil]; omega)) only [go_sem, ↓reduceIte, Nat.reduceEqDiff, reduceCtorEq, q0, qy, qw, qx, hpa] <;> rfl) ?_
   refine Rq ?_
   refine Rq ?_
   refine Rq ?_
   have tr : ∀ a b c d e f g h i j k m n o p q r s t u v w x y z A B C : AV, let l := lc_results_ok a b c d e f g h i j k m n o p q r s t u v w x; trim ((46,C)::(50,B)::(49,A)::(48,z)::(47,y)::l) l = lc_results_ok a b c d e f g h i j k m n o p q r s t u C w x := by intros; rfl
   refine R_nil (tr ..) ?_; clear tr
   refine then_n ?_
   refine cdd (fun h3 => ?_) (fun h3 => ?_)
   ·
    try simp only [decide_eq_true_eq, decide_eq_false_iff_not, Bool.not_eq_true', Bool.not_eq_false', beq_iff_eq, beq_eq_false_iff_ne, ne_eq] at h3
    refine rg rfl ?_
    refine Rq ?_
    refine Rq ?_
    refine Rq ?_
    have lq0 := hget_lt q0
    have lqy := hget_lt qy
    have lqw := hget_lt qw
    have lqx := hget_lt qx
    refine A_store ty3 (by simp (disch := first | omega | (simp only [List.length_map, List.length_append, List.length_set, List.length_cons, List.length_nil]; omega)) only [go_sem, ↓reduceIte, Nat.reduceEqDiff, reduceCtorEq, q0, qy, qw, qx, hpa] <;> rfl) (by simp (disch := first | omega | (simp only [List.length_map, List.length_append, List.length_set, List.length_cons, List.length_nil]; omega)) only [go_sem, ↓reduceIte, Nat.reduceEqDiff, reduceCtorEq, q0, qy, qw, qx, hpa] <;> rfl) qw ⟨by omega, rfl, by simp only [List.length_map, List.length_set]; omega⟩ (k' := ((resN (pQ L t) t L (yN f (pQ L t).length (pQ L t).length) u).2.set u 2).map AV.i) (by rw [setL_map]) ?_
    intro HE1 wE1
    have ewE1 := wE1.len
    have q0 := (wE1.old _ (by omega)).trans q0
    have qy := (wE1.old _ (by omega)).trans qy
    have qx := (wE1.old _ (by omega)).trans qx
    have qw := wE1.new
    have tr : ∀ a b c d e f g h i j k m n o p q r s t u v w x y z A : AV, let l := lc_results_ok a b c d e f g h i j k m n o p q r s t u v w x; trim ((53,A)::(52,z)::(51,y)::l) l = lc_results_ok a b c d e f g h i j k m n o p q r s t u v w x := by intros; rfl
    refine R_nil (tr ..) ?_; clear tr
    refine blk_n ?_
    refine blk_n ?_
    refine then_n ?_
    refine rg rfl ?_
    refine Rq ?_
    refine Rq ?_
    have tr : ∀ a b c d e f g h i j k m n o p q r s t u v w x y z : AV, let l := lc_results_ok a b c d e f g h i j k m n o p q r s t u v w x; trim ((41,z)::(92,y)::l) l = lc_results_ok a b c d e f g h i j k m n o p q r s z u v w x := by intros; rfl
    refine R_nil (tr ..) ?_; clear tr
    refine then_n ?_
    exact ⟨_, _, ⟨u + 1, _, _, _, _, _, _, _, _, rfl, rfl, by exact q0, by first | (rw [res_a (by assumption)]; exact qy) | (rw [res_b (by assumption) (by assumption)]; exact qy) | (rw [res_c (by assumption) (by assumption) hji]; exact qy), by first | (rw [res_a (by assumption)]; exact qw) | (rw [res_b (by assumption) (by assumption)]; exact qw) | (rw [res_c (by assumption) (by assumption) hji, if_pos (by assumption)]; exact qw) | (rw [res_c (by assumption) (by assumption) hji, if_neg (fun hh => hh (by assumption))]; exact qw), by first | (show H4.length ≤ HE4.length; omega) | (show H4.length ≤ HE3.length; omega) | (show H4.length ≤ HE1.length; omega) | (show H4.length ≤ HD.length; omega), by omega⟩, by rfl, by omega⟩
   ·
    try simp only [decide_eq_true_eq, decide_eq_false_iff_not, Bool.not_eq_true', Bool.not_eq_false', beq_iff_eq, beq_eq_false_iff_ne, ne_eq] at h3
    refine at_seq rfl ?_
    refine rg rfl ?_
    refine Rq ?_
    refine R_q rfl (by simp (disch := first | omega | (simp only [List.length_map, List.length_append, List.length_set, List.length_cons, List.length_nil]; omega)) only [go_sem, ↓reduceIte, Nat.reduceEqDiff, reduceCtorEq, q0, qy, qw, qx, hpa] <;> rfl) ?_
    refine Rq ?_
    refine Rq ?_
    refine Rq ?_
    have tr : ∀ a b c d e f g h i j k m n o p q r s t u v w x y z A B C : AV, let l := lc_results_ok a b c d e f g h i j k m n o p q r s t u v w x; trim ((54,C)::(58,B)::(57,A)::(56,z)::(55,y)::l) l = lc_results_ok a b c d e f g h i j k m n o p q r s t u v C x := by intros; rfl
    refine R_nil (tr ..) ?_; clear tr
    refine then_n ?_
    refine cdd (fun h4 => ?_) (fun h4 => ?_)
    ·
     try simp only [decide_eq_true_eq, decide_eq_false_iff_not, Bool.not_eq_true', Bool.not_eq_false', beq_iff_eq, beq_eq_false_iff_ne, ne_eq] at h4
     refine at_seq rfl ?_
     refine rg rfl ?_
     refine Rq ?_
     refine R_q rfl (by simp (disch := first | omega | (simp only [List.length_map, List.length_append, List.length_set, List.length_cons, List.length_nil]; omega)) only [go_sem, ↓reduceIte, Nat.reduceEqDiff, reduceCtorEq, q0, qy, qw, qx, hpa] <;> rfl) ?_
     refine Rcall ?_
     refine ACall_eq (pair_ok _ _ _) ?_
     refine Rcall ?_
     have hq0 : 0 < (pQ L t).length := by
       obtain ⟨j0, hj0, _⟩ := WQ.all u (by omega) ⟨by omega, by omega⟩
       omega
     have hpa : pairsA (othN L t L.length) = prsAV (pQ L t) := pairsA_at hq0
     refine ACall_mono (idxA_ok (indexsl_ok _ _ (pQ L t) _ (by omega)) hq0) ?_
     rintro r H6 ⟨⟨k, rfl, hk⟩, rfl⟩
     obtain ⟨j, rfl, hj, hjn, hji⟩ := idx_is WQ hNQ (by omega) (by omega) (by omega) hk
     refine Rq ?_
     have tr : ∀ a b c d e f g h i j k m n o p q r s t u v w x y z A B C : AV, let l := lc_results_ok a b c d e f g h i j k m n o p q r s t u v w x; trim ((14,C)::(62,B)::(61,A)::(60,z)::(59,y)::l) l = lc_results_ok a b c d e f g h i j k C n o p q r s t u v w x := by intros; rfl
     refine R_nil (tr ..) ?_; clear tr
     refine then_n ?_
     refine at_seq rfl ?_
     refine rg rfl ?_
     have hjr := (res_ok hY (Q := pQ L t) (t := t) (L := L) u (by omega)).1 j
     rw [yN_gt _ _ _ (Nat.le_refl _), if_pos hj] at hjr
     have hfj := hfr j hj
     have hqj := hqr j hj
     refine Rq ?_
     refine Rq ?_
     refine Rq ?_
     refine R_q rfl (by simp (disch := first | omega | (simp only [List.length_map, List.length_append, List.length_set, List.length_cons, List.length_nil]; omega)) only [go_sem, ↓reduceIte, Nat.reduceEqDiff, reduceCtorEq, q0, qy, qw, qx, hpa] <;> rfl) ?_
     refine Rq ?_
     refine Rq ?_
     have tr : ∀ a b c d e f g h i j k m n o p q r s t u v w x y z A B C D : AV, let l := lc_results_ok a b c d e f g h i j k m n o p q r s t u v w x; trim ((15,D)::(67,C)::(66,B)::(65,A)::(64,z)::(63,y)::l) l = lc_results_ok a b c d e f g h i j k m D o p q r s t u v w x := by intros; rfl
     refine R_nil (tr ..) ?_; clear tr
     refine then_n ?_
     refine at_seq rfl ?_
     refine rg rfl ?_
     refine Rq ?_
     refine Rq ?_
     refine Rq ?_
     refine R_q rfl (by simp (disch := first | omega | (simp only [List.length_map, List.length_append, List.length_set, List.length_cons, List.length_nil]; omega)) only [go_sem, ↓reduceIte, Nat.reduceEqDiff, reduceCtorEq, q0, qy, qw, qx, hpa] <;> rfl) ?_
     refine Rq ?_
     refine Rq ?_
     refine Rq ?_
     have lq0 := hget_lt q0
     have lqy := hget_lt qy
     have lqw := hget_lt qw
     have lqx := hget_lt qx
     refine A_store ty2 (by simp (disch := first | omega | (simp only [List.length_map, List.length_append, List.length_set, List.length_cons, List.length_nil]; omega)) only [go_sem, ↓reduceIte, Nat.reduceEqDiff, reduceCtorEq, q0, qy, qw, qx, hpa] <;> rfl) (by simp (disch := first | omega | (simp only [List.length_map, List.length_append, List.length_set, List.length_cons, List.length_nil]; omega)) only [go_sem, ↓reduceIte, Nat.reduceEqDiff, reduceCtorEq, q0, qy, qw, qx, hpa] <;> rfl) qy ⟨by omega, rfl, by simp only [List.length_map, List.length_set]; omega⟩ (k' := ((resN (pQ L t) t L (yN f (pQ L t).length (pQ L t).length) u).1.set j (gt (resN (pQ L t) t L (yN f (pQ L t).length (pQ L t).length) u).1 j - (min (gt (resN (pQ L t) t L (yN f (pQ L t).length (pQ L t).length) u).1 j) 2))).map AV.i) (by rw [setL_map]) ?_
     intro HE2 wE2
     have ewE2 := wE2.len
     have q0 := (wE2.old _ (by omega)).trans q0
     have qw := (wE2.old _ (by omega)).trans qw
     have qx := (wE2.old _ (by omega)).trans qx
     have qy := wE2.new
     have tr : ∀ a b c d e f g h i j k m n o p q r s t u v w x y z A B C D E : AV, let l := lc_results_ok a b c d e f g h i j k m n o p q r s t u v w x; trim ((74,E)::(73,D)::(72,C)::(71,B)::(70,A)::(69,z)::(68,y)::l) l = lc_results_ok a b c d e f g h i j k m n o p q r s t u v w x := by intros; rfl
     refine R_nil (tr ..) ?_; clear tr
     refine then_n ?_
     refine at_seq rfl ?_
     refine rg rfl ?_
     refine Rq ?_
     refine Rq ?_
     refine Rq ?_
     refine Rq ?_
     have lq0 := hget_lt q0
     have lqy := hget_lt qy
     have lqw := hget_lt qw
     have lqx := hget_lt qx
     refine A_store ty3 (by simp (disch := first | omega | (simp only [List.length_map, List.length_append, List.length_set, List.length_cons, List.length_nil]; omega)) only [go_sem, ↓reduceIte, Nat.reduceEqDiff, reduceCtorEq, q0, qy, qw, qx, hpa] <;> rfl) (by simp (disch := first | omega | (simp only [List.length_map, List.length_append, List.length_set, List.length_cons, List.length_nil]; omega)) only [go_sem, ↓reduceIte, Nat.reduceEqDiff, reduceCtorEq, q0, qy, qw, qx, hpa] <;> rfl) qw ⟨by omega, rfl, by simp only [List.length_map, List.length_set]; omega⟩ (k' := ((resN (pQ L t) t L (yN f (pQ L t).length (pQ L t).length) u).2.set u (min (gt (resN (pQ L t) t L (yN f (pQ L t).length (pQ L t).length) u).1 j) 2)).map AV.i) (by rw [setL_map]) ?_
     intro HE3 wE3
     have ewE3 := wE3.len
     have q0 := (wE3.old _ (by omega)).trans q0
     have qy := (wE3.old _ (by omega)).trans qy
     have qx := (wE3.old _ (by omega)).trans qx
     have qw := wE3.new
     have tr : ∀ a b c d e f g h i j k m n o p q r s t u v w x y z A B : AV, let l := lc_results_ok a b c d e f g h i j k m n o p q r s t u v w x; trim ((78,B)::(77,A)::(76,z)::(75,y)::l) l = lc_results_ok a b c d e f g h i j k m n o p q r s t u v w x := by intros; rfl
     refine R_nil (tr ..) ?_; clear tr
     refine then_n ?_
     refine at_seq rfl ?_
     refine rd rfl rfl ?_
     refine Qq ?_
     refine Q_q rfl (by simp (disch := first | omega | (simp only [List.length_map, List.length_append, List.length_set, List.length_cons, List.length_nil]; omega)) only [go_sem, ↓reduceIte, Nat.reduceEqDiff, reduceCtorEq, q0, qy, qw, qx, hpa] <;> rfl) ?_
     refine Qq ?_
     refine Qq ?_
     refine Q_q rfl (by simp (disch := first | omega | (simp only [List.length_map, List.length_append, List.length_set, List.length_cons, List.length_nil]; omega)) only [go_sem, ↓reduceIte, Nat.reduceEqDiff, reduceCtorEq, q0, qy, qw, qx, hpa] <;> rfl) ?_
     refine Qq ?_
     refine Q_q rfl (by simp (disch := first | omega | (simp only [List.length_map, List.length_append, List.length_set, List.length_cons, List.length_nil]; omega)) only [go_sem, ↓reduceIte, Nat.reduceEqDiff, reduceCtorEq, Nat.zero_mul, Nat.add_zero, flatQ0 (pQ L t) j hj] <;> rfl) ?_
     refine Qq ?_
     refine Q_nil ?_
     have tr : ∀ a b c d e f g h i j k m n o p q r s t u v w x y z A B C D E F : AV, let l := lc_results_ok a b c d e f g h i j k m n o p q r s t u v w x; trim ((86,F)::(85,E)::(84,D)::(83,C)::(82,B)::(81,A)::(80,z)::(79,y)::l) l = lc_results_ok a b c d e f g h i j k m n o p q r s t u v w F := by intros; rfl
     refine R_nil (tr ..) ?_; clear tr
     refine then_n ?_
     refine cdd (fun h5 => ?_) (fun h5 => ?_)
     ·
      try simp only [decide_eq_true_eq, decide_eq_false_iff_not, Bool.not_eq_true', Bool.not_eq_false', beq_iff_eq, beq_eq_false_iff_ne, ne_eq] at h5
      refine rg rfl ?_
      refine Rq ?_
      refine Rq ?_
      refine Rq ?_
      refine Rq ?_
      refine Rq ?_
      have lq0 := hget_lt q0
      have lqy := hget_lt qy
      have lqw := hget_lt qw
      have lqx := hget_lt qx
      refine A_store ty3 (by simp (disch := first | omega | (simp only [List.length_map, List.length_append, List.length_set, List.length_cons, List.length_nil]; omega)) only [go_sem, ↓reduceIte, Nat.reduceEqDiff, reduceCtorEq, q0, qy, qw, qx, hpa] <;> rfl) (by simp (disch := first | omega | (simp only [List.length_map, List.length_append, List.length_set, List.length_cons, List.length_nil]; omega)) only [go_sem, ↓reduceIte, Nat.reduceEqDiff, reduceCtorEq, q0, qy, qw, qx, hpa] <;> rfl) qw ⟨by omega, rfl, by simp only [List.length_map, List.length_set]; omega⟩ (k' := ((resN (pQ L t) t L (yN f (pQ L t).length (pQ L t).length) u).2.set u (2 - (min (gt (resN (pQ L t) t L (yN f (pQ L t).length (pQ L t).length) u).1 j) 2))).map AV.i) (by rw [setL_map, List.set_set]) ?_
      intro HE4 wE4
      have ewE4 := wE4.len
      have q0 := (wE4.old _ (by omega)).trans q0
      have qy := (wE4.old _ (by omega)).trans qy
      have qx := (wE4.old _ (by omega)).trans qx
      have qw := wE4.new
      have tr : ∀ a b c d e f g h i j k m n o p q r s t u v w x y z A B C : AV, let l := lc_results_ok a b c d e f g h i j k m n o p q r s t u v w x; trim ((91,C)::(90,B)::(89,A)::(88,z)::(87,y)::l) l = lc_results_ok a b c d e f g h i j k m n o p q r s t u v w x := by intros; rfl
      refine R_nil (tr ..) ?_; clear tr
      refine blk_n ?_
      refine blk_n ?_
      refine then_n ?_
      refine rg rfl ?_
      refine Rq ?_
      refine Rq ?_
      have tr : ∀ a b c d e f g h i j k m n o p q r s t u v w x y z : AV, let l := lc_results_ok a b c d e f g h i j k m n o p q r s t u v w x; trim ((41,z)::(92,y)::l) l = lc_results_ok a b c d e f g h i j k m n o p q r s z u v w x := by intros; rfl
      refine R_nil (tr ..) ?_; clear tr
      refine then_n ?_
      exact ⟨_, _, ⟨u + 1, _, _, _, _, _, _, _, _, rfl, rfl, by exact q0, by first | (rw [res_a (by assumption)]; exact qy) | (rw [res_b (by assumption) (by assumption)]; exact qy) | (rw [res_c (by assumption) (by assumption) hji]; exact qy), by first | (rw [res_a (by assumption)]; exact qw) | (rw [res_b (by assumption) (by assumption)]; exact qw) | (rw [res_c (by assumption) (by assumption) hji, if_pos (by assumption)]; exact qw) | (rw [res_c (by assumption) (by assumption) hji, if_neg (fun hh => hh (by assumption))]; exact qw), by first | (show H4.length ≤ HE4.length; omega) | (show H4.length ≤ HE3.length; omega) | (show H4.length ≤ HE1.length; omega) | (show H4.length ≤ HD.length; omega), by omega⟩, by rfl, by omega⟩
     ·
      try simp only [decide_eq_true_eq, decide_eq_false_iff_not, Bool.not_eq_true', Bool.not_eq_false', beq_iff_eq, beq_eq_false_iff_ne, ne_eq] at h5
      refine at_skip rfl ?_
      refine blk_n ?_
      refine blk_n ?_
      refine then_n ?_
      refine rg rfl ?_
      refine Rq ?_
      refine Rq ?_
      have tr : ∀ a b c d e f g h i j k m n o p q r s t u v w x y z : AV, let l := lc_results_ok a b c d e f g h i j k m n o p q r s t u v w x; trim ((41,z)::(92,y)::l) l = lc_results_ok a b c d e f g h i j k m n o p q r s z u v w x := by intros; rfl
      refine R_nil (tr ..) ?_; clear tr
      refine then_n ?_
      exact ⟨_, _, ⟨u + 1, _, _, _, _, _, _, _, _, rfl, rfl, by exact q0, by first | (rw [res_a (by assumption)]; exact qy) | (rw [res_b (by assumption) (by assumption)]; exact qy) | (rw [res_c (by assumption) (by assumption) hji]; exact qy), by first | (rw [res_a (by assumption)]; exact qw) | (rw [res_b (by assumption) (by assumption)]; exact qw) | (rw [res_c (by assumption) (by assumption) hji, if_pos (by assumption)]; exact qw) | (rw [res_c (by assumption) (by assumption) hji, if_neg (fun hh => hh (by assumption))]; exact qw), by first | (show H4.length ≤ HE4.length; omega) | (show H4.length ≤ HE3.length; omega) | (show H4.length ≤ HE1.length; omega) | (show H4.length ≤ HD.length; omega), by omega⟩, by rfl, by omega⟩
    ·
     try simp only [decide_eq_true_eq, decide_eq_false_iff_not, Bool.not_eq_true', Bool.not_eq_false', beq_iff_eq, beq_eq_false_iff_ne, ne_eq] at h4
     refine at_skip rfl ?_
     refine blk_n ?_
     refine blk_n ?_
     refine then_n ?_
     refine rg rfl ?_
     refine Rq ?_
     refine Rq ?_
     have tr : ∀ a b c d e f g h i j k m n o p q r s t u v w x y z : AV, let l := lc_results_ok a b c d e f g h i j k m n o p q r s t u v w x; trim ((41,z)::(92,y)::l) l = lc_results_ok a b c d e f g h i j k m n o p q r s z u v w x := by intros; rfl
     refine R_nil (tr ..) ?_; clear tr
     refine then_n ?_
     exact ⟨_, _, ⟨u + 1, _, _, _, _, _, _, _, _, rfl, rfl, by exact q0, by first | (rw [res_a (by assumption)]; exact qy) | (rw [res_b (by assumption) (by assumption)]; exact qy) | (rw [res_c (by assumption) (by assumption) hji]; exact qy), by first | (rw [res_a (by assumption)]; exact qw) | (rw [res_b (by assumption) (by assumption)]; exact qw) | (rw [res_c (by assumption) (by assumption) hji, if_pos (by assumption)]; exact qw) | (rw [res_c (by assumption) (by assumption) hji, if_neg (fun hh => hh (by assumption))]; exact qw), by first | (show H4.length ≤ HE4.length; omega) | (show H4.length ≤ HE3.length; omega) | (show H4.length ≤ HE1.length; omega) | (show H4.length ≤ HD.length; omega), by omega⟩, by rfl, by omega⟩
  ·
   try simp only [decide_eq_true_eq, decide_eq_false_iff_not, Bool.not_eq_true', Bool.not_eq_false', beq_iff_eq, beq_eq_false_iff_ne, ne_eq] at h2
   refine at_exit rfl ?_
   refine then_x ?_
   refine then_x ?_
   refine blk_x ?_
   refine then_n ?_
   refine at_seq rfl ?_
   refine rg rfl ?_
   refine Rq ?_
   refine Rq ?_
   have tr : ∀ a b c d e f g h i j k m n o p q r s t u v w x y z : AV, let l := lc_results_ok a b c d e f g h i j k m n o p q r s t u v w x; trim ((8,z)::(93,y)::l) l = lc_results_ok a b c d e z g h i j k m n o p q r s t u v w x := by intros; rfl
   refine R_nil (tr ..) ?_; clear tr
   refine then_n ?_
   refine at_ret rfl ?_
   obtain rfl : u = L.length := by omega
   refine fpure ?_
   exact ⟨frz_ownI (by omega) qw (by omega), rfl⟩

end Go.Proofs.Ytdmeioppkannlaa
end
