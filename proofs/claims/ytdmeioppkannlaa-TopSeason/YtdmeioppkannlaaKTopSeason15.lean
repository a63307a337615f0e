/-
  What is proved: TopSeason returns true for every input, and each argument reads behind the call as it read before. No conditions. (The step from the walk to the row, written by program.)
-/
import Derived.Test.YtdmeioppkannlaaKTopSeason9
import Derived.Test.YtdmeioppkannlaaKTopSeason11
import Derived.Test.YtdmeioppkannlaaKTopSeason14
import Derived.Test.YtdmeioppkannlaaKTopSeason4
import Derived.ProofKit
import Derived.ChangeArms
import Derived.DataReads
import Derived.OpenShut
import Derived.WideShapes
import Derived.KernelRfl
import Derived.Test.YtdmeioppkannlaaRows
import Derived.ChangeOld
import Derived.Below
section
set_option linter.unusedSimpArgs false
set_option linter.unusedVariables false
set_option maxHeartbeats 40000000
set_option maxRecDepth 20000
namespace Go.Proofs.Ytdmeioppkannlaa
open Go Go.Am

abbrev lc_season_law (a b c d e f g h i j k m n o p q r s t u v w x y z A B C D E F G H I J K L M N O P Q : AV) : Env := [(0,a),(1,b),(4,c),(5,d),(6,e),(7,f),(8,g),(10,h),(11,i),(12,j),(13,k),(14,m),(15,n),(16,o),(17,p),(18,q),(19,r),(20,s),(22,t),(23,u),(24,v),(26,w),(27,x),(29,y),(40,z),(41,A),(42,B),(43,C),(44,D),(72,E),(73,F),(74,G),(75,H),(115,I),(130,J),(145,K),(170,L),(171,M),(172,N),(173,O),(174,P),(210,Q)]
theorem season_law (k : Int) (hk : 0 ≤ k ∧ k ≤ 255) (W : List Int) (hW : ∀ i, i < W.length → 0 ≤ gt W i ∧ gt W i ≤ 255) : ACall sig 0 3 [.v (.int .u8 k), wsAV W] [] fun r _ => r = .v (.bool true) := by
 obtain ⟨n, hn⟩ : ∃ n : Nat, (n : Int) = 2 + k % 5 := ⟨(2 + k % 5).toNat, by omega⟩
 obtain ⟨R, hR, S⟩ := rounds_all n (by omega)
 obtain ⟨Q, hQ⟩ : ∃ Q, Q = R.map prF := ⟨_, rfl⟩
 rewrite [← hQ] at S
 have hRQ : R.length = Q.length := by rw [hQ, List.length_map]
 have hQu : ∀ u, u < R.length → gt Q u = prF (gt R u) := fun u hu => by rw [hQ]; exact gt_prF hu
 have hq1 := S.l1
 have hq15 := S.l15
 have hnn : (n : Int).toNat = n := Int.toNat_natCast n
 have qL : True := trivial
 have qo : True := trivial
 have qt : True := trivial
 have qr : True := trivial
 have qv : True := trivial
 have qp : True := trivial
 have qx : True := trivial
 have qs : True := trivial
 refine ACall_pure (fa := fa3) rfl rfl rfl rfl ?_
 have tr : ∀ a0 a1 : AV, env0 fa3.keep [a0, a1] = lc_season_law a0 a1 .any .any .any .any .any .any .any .any .any .any .any .any .any .any .any .any .any .any .any .any .any .any .any .any .any .any .any .any .any .any .any .any .any .any .any .any .any .any .any .any := fun a0 a1 => rfl
 refine W_to (tr _ _) ?_; clear tr
 refine at_seq rfl ?_
 refine rg rfl ?_
 refine Rq ?_
 have tr : ∀ a b c d e f g h i j k m n o p q r s t u v w x y z A B C D E F G H I J K L M N O P Q R : AV, let l := lc_season_law a b c d e f g h i j k m n o p q r s t u v w x y z A B C D E F G H I J K L M N O P Q; trim ((4,R)::l) l = lc_season_law a b R d e f g h i j k m n o p q r s t u v w x y z A B C D E F G H I J K L M N O P Q := by intros; rfl
 refine R_nil (tr ..) ?_; clear tr
 refine then_n ?_
 refine at_seq rfl ?_
 refine at_seq rfl ?_
 refine rg rfl ?_
 refine Rcall ?_
 refine ACall_eval 200 (awakeS _ _) ?_
 refine Rq ?_
 have tr : ∀ a b c d e f g h i j k m n o p q r s t u v w x y z A B C D E F G H I J K L M N O P Q R S : AV, let l := lc_season_law a b c d e f g h i j k m n o p q r s t u v w x y z A B C D E F G H I J K L M N O P Q; trim ((29,S)::(28,R)::l) l = lc_season_law a b c d e f g h i j k m n o p q r s t u v w x S z A B C D E F G H I J K L M N O P Q := by intros; rfl
 refine R_nil (tr ..) ?_; clear tr
 refine then_n ?_
 refine cdf ?_
 refine at_skip rfl ?_
 refine then_n ?_
 refine at_seq rfl ?_
 refine rg rfl ?_
 refine Rq ?_
 refine Rq ?_
 refine Rq ?_
 refine R_q (r := AV.i (n : Nat)) rfl (by simp (disch := first | omega | (simp only [List.length_map, List.length_append, List.length_set, List.length_cons, List.length_nil]; omega)) only [go_sem, ↓reduceIte, Nat.reduceEqDiff, reduceCtorEq] <;> first | rfl | (rw [hn]; done) | (rw [hn, Int.add_comm]; done)) ?_
 refine Rq ?_
 have tr : ∀ a b c d e f g h i j k m n o p q r s t u v w x y z A B C D E F G H I J K L M N O P Q R S T U V : AV, let l := lc_season_law a b c d e f g h i j k m n o p q r s t u v w x y z A B C D E F G H I J K L M N O P Q; trim ((5,V)::(33,U)::(32,T)::(31,S)::(30,R)::l) l = lc_season_law a b c V e f g h i j k m n o p q r s t u v w x y z A B C D E F G H I J K L M N O P Q := by intros; rfl
 refine R_nil (tr ..) ?_; clear tr
 refine then_n ?_
 refine at_seq rfl ?_
 refine rg rfl ?_
 refine Rq ?_
 refine Rcall ?_
 refine ACall_eval 200 (hR _) ?_
 refine Rq ?_
 refine Rq ?_
 refine Rq ?_
 refine Rq ?_
 refine Rq ?_
 have tr : ∀ a b c d e f g h i j k m n o p q r s t u v w x y z A B C D E F G H I J K L M N O P Q R S T U V W X : AV, let l := lc_season_law a b c d e f g h i j k m n o p q r s t u v w x y z A B C D E F G H I J K L M N O P Q; trim ((7,X)::(6,W)::(38,V)::(37,U)::(34,T)::(36,S)::(35,R)::l) l = lc_season_law a b c d W X g h i j k m n o p q r s t u v w x y z A B C D E F G H I J K L M N O P Q := by intros; rfl
 refine R_nil (tr ..) ?_; clear tr
 refine then_n ?_
 refine at_seq rfl ?_
 refine at_seq rfl ?_
 refine rg rfl ?_
 refine Rq ?_
 refine Rq ?_
 have tr : ∀ a b c d e f g h i j k m n o p q r s t u v w x y z A B C D E F G H I J K L M N O P Q R S : AV, let l := lc_season_law a b c d e f g h i j k m n o p q r s t u v w x y z A B C D E F G H I J K L M N O P Q; trim ((40,S)::(39,R)::l) l = lc_season_law a b c d e f g h i j k m n o p q r s t u v w x y S A B C D E F G H I J K L M N O P Q := by intros; rfl
 refine R_nil (tr ..) ?_; clear tr
 refine then_n ?_
 refine cdd (fun h1 => ?_) (fun h1 => ?_)
 ·
  try simp only [decide_eq_true_eq, decide_eq_false_iff_not, Bool.not_eq_true', Bool.not_eq_false', beq_iff_eq, beq_eq_false_iff_ne, ne_eq] at h1
  first | omega | contradiction | exact absurd rfl (by assumption) | exact absurd trivial (by assumption) | (exfalso; simp_all; done)
 ·
  try simp only [decide_eq_true_eq, decide_eq_false_iff_not, Bool.not_eq_true', Bool.not_eq_false', beq_iff_eq, beq_eq_false_iff_ne, ne_eq] at h1
  refine at_skip rfl ?_
  refine then_n ?_
  refine at_seq rfl ?_
  refine rg rfl ?_
  refine Rq ?_
  have tr : ∀ a b c d e f g h i j k m n o p q r s t u v w x y z A B C D E F G H I J K L M N O P Q R : AV, let l := lc_season_law a b c d e f g h i j k m n o p q r s t u v w x y z A B C D E F G H I J K L M N O P Q; trim ((8,R)::l) l = lc_season_law a b c d e f R h i j k m n o p q r s t u v w x y z A B C D E F G H I J K L M N O P Q := by intros; rfl
  refine R_nil (tr ..) ?_; clear tr
  refine then_n ?_
  refine at_seq rfl ?_
  refine at_seq rfl ?_
  refine rg rfl ?_
  refine Rq ?_
  refine Rq ?_
  refine Rq ?_
  have tr : ∀ a b c d e f g h i j k m n o p q r s t u v w x y z A B C D E F G H I J K L M N O P Q R S T : AV, let l := lc_season_law a b c d e f g h i j k m n o p q r s t u v w x y z A B C D E F G H I J K L M N O P Q; trim ((43,T)::(42,S)::(41,R)::l) l = lc_season_law a b c d e f g h i j k m n o p q r s t u v w x y z R S T D E F G H I J K L M N O P Q := by intros; rfl
  refine R_nil (tr ..) ?_; clear tr
  refine then_n ?_
  refine at_block rfl ?_
  refine loop_n rfl (fun mm kv H' => ∃ u : Nat, ∃ o : AV, ∃ x10 x44 : AV, (kv = [(8, o), (10, x10), (43, AV.i (u : Int)), (44, x44)]) ∧ (mm = R.length - u) ∧ (u ≤ R.length) ∧ (OutP 0 H' o (Q.take u))) ⟨0, _, _, _, rfl, rfl, by omega, by exact .inl ⟨rfl, rfl⟩⟩ (by rfl) ?_
  rintro mm kv HA ⟨u, o, x10, x44, rfl, rfl, hu, hO⟩
  have tr : ∀ a b c d e f g h i j k m n o p q r s t u v w x y z A B C D E F G H I J K L M N O P Q R S T U : AV, upd (lc_season_law a b c d e f g h i j k m n o p q r s t u v w x y z A B C D E F G H I J K L M N O P Q) [(8,R),(10,S),(43,T),(44,U)] = lc_season_law a b c d e f R S i j k m n o p q r s t u v w x y z A B T U E F G H I J K L M N O P Q := by intros; rfl
  refine W_to (tr ..) ?_; clear tr
  refine at_seq rfl ?_
  refine rg rfl ?_
  refine Rq ?_
  have tr : ∀ a b c d e f g h i j k m n o p q r s t u v w x y z A B C D E F G H I J K L M N O P Q R : AV, let l := lc_season_law a b c d e f g h i j k m n o p q r s t u v w x y z A B C D E F G H I J K L M N O P Q; trim ((44,R)::l) l = lc_season_law a b c d e f g h i j k m n o p q r s t u v w x y z A B C R E F G H I J K L M N O P Q := by intros; rfl
  refine R_nil (tr ..) ?_; clear tr
  refine then_n ?_
  refine at_seq rfl ?_
  refine cdd (fun h2 => ?_) (fun h2 => ?_)
  ·
   try simp only [decide_eq_true_eq, decide_eq_false_iff_not, Bool.not_eq_true', Bool.not_eq_false', beq_iff_eq, beq_eq_false_iff_ne, ne_eq] at h2
   refine at_skip rfl ?_
   refine then_n ?_
   refine at_seq rfl ?_
   refine at_block rfl ?_
   refine at_seq rfl ?_
   refine rg rfl ?_
   refine Rq ?_
   refine R_q rfl (by simp (disch := first | omega | (simp only [List.length_map, List.length_append, List.length_set, List.length_cons, List.length_nil]; omega)) only [go_sem, ↓reduceIte, Nat.reduceEqDiff, reduceCtorEq, qL, qo, qt, qr, qv, qp, qx, qs] <;> rfl) ?_
   have hO1 := hO
   refine A_alloc rfl ?_
   intro HB n10
   have en10 := n10.len
   have qx := n10.new
   have lqx := hget_lt qx
   refine A_store ty30 (by simp (disch := first | omega | (simp only [List.length_map, List.length_append, List.length_set, List.length_cons, List.length_nil]; omega)) only [go_sem, ↓reduceIte, Nat.reduceEqDiff, reduceCtorEq, qx] <;> rfl) (by simp (disch := first | omega | (simp only [List.length_map, List.length_append, List.length_set, List.length_cons, List.length_nil]; omega)) only [go_sem, ↓reduceIte, Nat.reduceEqDiff, reduceCtorEq, qx] <;> rfl) qx ⟨by first | omega | exact Nat.zero_le _, rfl, by first | exact Nat.le_refl _ | (simp; done) | (simp only [List.length_map]; omega)⟩ (k' := fxC (gt R u)) (by first | exact rfl | rfl) ?_
   intro HC w10
   have ew10 := w10.len
   have qx := w10.new
   have hO := hO1.mono fun b hb k hk => (w10.old _ (by have := hget_lt hk; omega)).trans ((n10.old _ (hget_lt hk)).trans hk)
   have tr : ∀ a b c d e f g h i j k m n o p q r s t u v w x y z A B C D E F G H I J K L M N O P Q R S T : AV, let l := lc_season_law a b c d e f g h i j k m n o p q r s t u v w x y z A B C D E F G H I J K L M N O P Q; trim ((10,T)::(46,S)::(45,R)::l) l = lc_season_law a b c d e f g T i j k m n o p q r s t u v w x y z A B C D E F G H I J K L M N O P Q := by intros; rfl
   refine R_nil (tr ..) ?_; clear tr
   refine then_n ?_
   refine rg rfl ?_
   refine Rq ?_
   refine Rq ?_
   refine R_q rfl (by simp (disch := first | omega | (simp only [List.length_map, List.length_append, List.length_set, List.length_cons, List.length_nil]; omega)) only [go_sem, ↓reduceIte, Nat.reduceEqDiff, reduceCtorEq, qL, qo, qt, qr, qv, qp, qx, qs] <;> rfl) ?_
   refine Rq ?_
   refine R_q rfl (by simp (disch := first | omega | (simp only [List.length_map, List.length_append, List.length_set, List.length_cons, List.length_nil]; omega)) only [go_sem, ↓reduceIte, Nat.reduceEqDiff, reduceCtorEq, qL, qo, qt, qr, qv, qp, qx, qs] <;> rfl) ?_
   refine Rq ?_
   have hob := fun b hb => hO.lt (b := b) hb
   refine A_buildSlice (bs41 _ _ _ _ (prF (gt R u)) (by simp (disch := first | omega | (simp only [List.length_map, List.length_append, List.length_set, List.length_cons, List.length_nil]; omega)) only [go_sem, ↓reduceIte, Nat.reduceEqDiff, reduceCtorEq, qx] <;> rfl)) ?_
   intro HD n11
   have en11 := n11.len
   have qn := n11.new
   have hO := hO.mono fun b hb k hk => (n11.old _ (hget_lt hk)).trans hk
   obtain ⟨b, hbl, hbl2, HE0, hap, hg⟩ := outP_append (lim := 0) hO hob qn (Nat.le_refl _) (Nat.zero_le _) (by rw [List.length_take]; omega)
   refine A_append ⟨HE0, by simp (disch := first | omega | (simp only [List.length_map, List.length_append, List.length_set, List.length_cons, List.length_nil]; omega)) only [go_sem, ↓reduceIte, Nat.reduceEqDiff, reduceCtorEq]; exact hap, hg⟩ ?_
   intro HE g11
   have eg11 := g11.len
   refine Rq ?_
   have tr : ∀ a b c d e f g h i j k m n o p q r s t u v w x y z A B C D E F G H I J K L M N O P Q R S T U V W X Y Z : AV, let l := lc_season_law a b c d e f g h i j k m n o p q r s t u v w x y z A B C D E F G H I J K L M N O P Q; trim ((8,Z)::(54,Y)::(53,X)::(52,W)::(51,V)::(50,U)::(49,T)::(48,S)::(47,R)::l) l = lc_season_law a b c d e f Z h i j k m n o p q r s t u v w x y z A B C D E F G H I J K L M N O P Q := by intros; rfl
   refine R_nil (tr ..) ?_; clear tr
   refine blk_n ?_
   refine then_n ?_
   refine rg rfl ?_
   refine Rq ?_
   refine Rq ?_
   have tr : ∀ a b c d e f g h i j k m n o p q r s t u v w x y z A B C D E F G H I J K L M N O P Q R S : AV, let l := lc_season_law a b c d e f g h i j k m n o p q r s t u v w x y z A B C D E F G H I J K L M N O P Q; trim ((43,S)::(55,R)::l) l = lc_season_law a b c d e f g h i j k m n o p q r s t u v w x y z A B S D E F G H I J K L M N O P Q := by intros; rfl
   refine R_nil (tr ..) ?_; clear tr
   refine then_n ?_
   exact ⟨_, _, ⟨u + 1, .own 2 HD.length 0 ((Q.take u).length + 1), _, _, rfl, rfl, by omega, by exact outT_new g11 (hQu u (by omega)).symm (by omega) rfl⟩, by rfl, by omega⟩
  ·
   try simp only [decide_eq_true_eq, decide_eq_false_iff_not, Bool.not_eq_true', Bool.not_eq_false', beq_iff_eq, beq_eq_false_iff_ne, ne_eq] at h2
   refine at_exit rfl ?_
   refine then_x ?_
   refine then_x ?_
   refine blk_x ?_
   refine then_n ?_
   refine at_seq rfl ?_
   refine rg rfl ?_
   obtain ⟨bl, rfl, qL⟩ := outT_end hO (by omega) hq1
   refine Rq ?_
   have tr : ∀ a b c d e f g h i j k m n o p q r s t u v w x y z A B C D E F G H I J K L M N O P Q R : AV, let l := lc_season_law a b c d e f g h i j k m n o p q r s t u v w x y z A B C D E F G H I J K L M N O P Q; trim ((11,R)::l) l = lc_season_law a b c d e f g h R j k m n o p q r s t u v w x y z A B C D E F G H I J K L M N O P Q := by intros; rfl
   refine R_nil (tr ..) ?_; clear tr
   refine then_n ?_
   refine at_seq rfl ?_
   refine rls2 rfl rfl ?_
   refine Lq ?_
   refine Lq ?_
   refine L_nil ?_
   refine R_makeSlice (ms28 _ _ (n : Int) _ _ _ (by omega) (by omega) (by simp (disch := first | omega | (simp only [List.length_map, List.length_append, List.length_set, List.length_cons, List.length_nil]; omega)) only [go_sem, ↓reduceIte, Nat.reduceEqDiff, reduceCtorEq] <;> rfl) (by simp (disch := first | omega | (simp only [List.length_map, List.length_append, List.length_set, List.length_cons, List.length_nil]; omega)) only [go_sem, ↓reduceIte, Nat.reduceEqDiff, reduceCtorEq] <;> rfl)) ?_
   refine R_makeSlice (ms28 _ _ (n : Int) _ _ _ (by omega) (by omega) (by simp (disch := first | omega | (simp only [List.length_map, List.length_append, List.length_set, List.length_cons, List.length_nil]; omega)) only [go_sem, ↓reduceIte, Nat.reduceEqDiff, reduceCtorEq] <;> rfl) (by simp (disch := first | omega | (simp only [List.length_map, List.length_append, List.length_set, List.length_cons, List.length_nil]; omega)) only [go_sem, ↓reduceIte, Nat.reduceEqDiff, reduceCtorEq] <;> rfl)) ?_
   refine Rq ?_
   refine R_end ⟨?_, ?_⟩
   ·
    refine ⟨?_, ?_⟩
    ·
     refine R_makeSlice (ms28 _ _ (n : Int) _ _ _ (by omega) (by omega) (by simp (disch := first | omega | (simp only [List.length_map, List.length_append, List.length_set, List.length_cons, List.length_nil]; omega)) only [go_sem, ↓reduceIte, Nat.reduceEqDiff, reduceCtorEq] <;> rfl) (by simp (disch := first | omega | (simp only [List.length_map, List.length_append, List.length_set, List.length_cons, List.length_nil]; omega)) only [go_sem, ↓reduceIte, Nat.reduceEqDiff, reduceCtorEq] <;> rfl)) ?_
     refine Rq ?_
     refine R_makeSlice (ms28 _ _ (n : Int) _ _ _ (by omega) (by omega) (by simp (disch := first | omega | (simp only [List.length_map, List.length_append, List.length_set, List.length_cons, List.length_nil]; omega)) only [go_sem, ↓reduceIte, Nat.reduceEqDiff, reduceCtorEq] <;> rfl) (by simp (disch := first | omega | (simp only [List.length_map, List.length_append, List.length_set, List.length_cons, List.length_nil]; omega)) only [go_sem, ↓reduceIte, Nat.reduceEqDiff, reduceCtorEq] <;> rfl)) ?_
     refine R_end ?_
     refine two_id (H := HA) (A := (List.replicate (n : Int).toNat false).map AV.b) (B := (List.replicate (n : Int).toNat false).map AV.b) (fun f => by rw [List.map_map]; rfl) (fun f => by rw [List.map_map]; rfl) ?_
     intro t ht
     simp only [List.mem_cons, List.not_mem_nil, or_false] at ht
     rcases ht with rfl | rfl
     · simp only [get_cons, put_some, ↓reduceIte, Nat.reduceEqDiff, ren]
       (simp [rnB] <;> rfl)
     · simp only [get_cons, put_some, ↓reduceIte, Nat.reduceEqDiff, ren]
       (simp [rnB] <;> rfl)
    refine ⟨?_, ?_⟩
    ·
     refine R_makeSlice (ms28 _ _ (n : Int) _ _ _ (by omega) (by omega) (by simp (disch := first | omega | (simp only [List.length_map, List.length_append, List.length_set, List.length_cons, List.length_nil]; omega)) only [go_sem, ↓reduceIte, Nat.reduceEqDiff, reduceCtorEq] <;> rfl) (by simp (disch := first | omega | (simp only [List.length_map, List.length_append, List.length_set, List.length_cons, List.length_nil]; omega)) only [go_sem, ↓reduceIte, Nat.reduceEqDiff, reduceCtorEq] <;> rfl)) ?_
     refine R_makeSlice (ms28 _ _ (n : Int) _ _ _ (by omega) (by omega) (by simp (disch := first | omega | (simp only [List.length_map, List.length_append, List.length_set, List.length_cons, List.length_nil]; omega)) only [go_sem, ↓reduceIte, Nat.reduceEqDiff, reduceCtorEq] <;> rfl) (by simp (disch := first | omega | (simp only [List.length_map, List.length_append, List.length_set, List.length_cons, List.length_nil]; omega)) only [go_sem, ↓reduceIte, Nat.reduceEqDiff, reduceCtorEq] <;> rfl)) ?_
     refine Rq ?_
     refine R_end ?_
     refine two_same (H := HA) (A := (List.replicate (n : Int).toNat false).map AV.b) (B := (List.replicate (n : Int).toNat false).map AV.b) (fun f => by rw [List.map_map]; rfl) (fun f => by rw [List.map_map]; rfl) ?_
     intro t ht
     simp only [List.mem_cons, List.not_mem_nil, or_false] at ht
     rcases ht with rfl | rfl
     · simp only [get_cons, put_some, ↓reduceIte, Nat.reduceEqDiff, ren]
       (simp [rnB] <;> rfl)
     · simp only [get_cons, put_some, ↓reduceIte, Nat.reduceEqDiff, ren]
       (simp [rnB] <;> rfl)
    exact trivial
   rewrite [keep_two]
   refine Rp_env (e' := [(59, _), (12, _), (56, .any), (57, .any), (58, .any), (59, .any), (12, .any), (13, .any), (0, _), (1, _), (4, _), (5, _), (6, _), (7, _), (8, _), (10, _), (11, _), (12, _), (13, _), (14, _), (15, _), (16, _), (17, _), (18, _), (19, _), (20, _), (22, _), (23, _), (24, _), (26, _), (27, _), (29, _), (40, _), (41, _), (42, _), (43, _), (44, _), (72, _), (73, _), (74, _), (75, _), (115, _), (130, _), (145, _), (170, _), (171, _), (172, _), (173, _), (174, _), (210, _)]) rfl ?_
   simp only [put_some, get_cons, ↓reduceIte, Nat.reduceEqDiff]
   have n1 := MNew.of HA ((List.replicate (n : Int).toNat false).map AV.b)
   have n2 := MNew.of (HA ++ [some ((List.replicate (n : Int).toNat false).map AV.b)]) ((List.replicate (n : Int).toNat false).map AV.b)
   generalize (HA ++ [some ((List.replicate (n : Int).toNat false).map AV.b)]) ++ [some ((List.replicate (n : Int).toNat false).map AV.b)] = H3 at n2 ⊢
   generalize HA ++ [some ((List.replicate (n : Int).toNat false).map AV.b)] = H2 at n1 n2 ⊢
   have en1 := n1.len
   have en2 := n2.len
   have lqL := hget_lt qL
   have qL := (n1.old _ (hget_lt qL)).trans qL
   have qo := n1.new
   have qL := (n2.old _ (hget_lt qL)).trans qL
   have qo := (n2.old _ (hget_lt qo)).trans qo
   have qt := n2.new
   refine Rq ?_
   have tr : ∀ a b c d e f g h i j k m n o p q r s t u v w x y z A B C D E F G H I J K L M N O P Q R S T U V W X Y Z : AV, let l := lc_season_law a b c d e f g h i j k m n o p q r s t u v w x y z A B C D E F G H I J K L M N O P Q; trim ((13,Z)::(59,Y)::(12,X)::(56,W)::(57,V)::(58,U)::(59,T)::(12,S)::(13,R)::l) l = lc_season_law a b c d e f g h i X Z m n o p q r s t u v w x y z A B C D E F G H I J K L M N O P Q := by intros; rfl
   refine R_nil (tr ..) ?_; clear tr
   refine then_n ?_
   refine at_seq rfl ?_
   refine at_seq rfl ?_
   refine rg rfl ?_
   refine Rq ?_
   have tr : ∀ a b c d e f g h i j k m n o p q r s t u v w x y z A B C D E F G H I J K L M N O P Q R : AV, let l := lc_season_law a b c d e f g h i j k m n o p q r s t u v w x y z A B C D E F G H I J K L M N O P Q; trim ((14,R)::l) l = lc_season_law a b c d e f g h i j k R n o p q r s t u v w x y z A B C D E F G H I J K L M N O P Q := by intros; rfl
   refine R_nil (tr ..) ?_; clear tr
   refine then_n ?_
   refine at_block rfl ?_
   refine loop_n rfl (fun mm kv H' => ∃ i : Nat, ∃ y : AV, ∃ Bo : List Bool, ∃ Bt : List Bool, ∃ x4 x15 x16 x17 x18 x19 x20 x22 x23 x72 x73 x74 x75 x115 x130 x145 : AV, (kv = [(4, x4), (11, y), (14, AV.i (i : Int)), (15, x15), (16, x16), (17, x17), (18, x18), (19, x19), (20, x20), (22, x22), (23, x23), (72, x72), (73, x73), (74, x74), (75, x75), (115, x115), (130, x130), (145, x145)]) ∧ (mm = Q.length + 1 - i) ∧ (hget H' bl = some (flatQ Q)) ∧ (hget H' HA.length = some (Bo.map AV.b)) ∧ (hget H' H2.length = some (Bt.map AV.b)) ∧ (OutL H3.length H' y (plN Q W i) i) ∧ (i ≤ Q.length) ∧ (Inv n Q W i Bo Bt) ∧ (H3.length ≤ H'.length)) ⟨0, _, List.replicate (n : Int).toNat false, List.replicate (n : Int).toNat false, _, _, _, _, _, _, _, _, _, _, _, _, _, _, _, _, rfl, rfl, by exact qL, by exact qo, by exact qt, by exact .inl ⟨rfl, rfl, rfl⟩, by omega, by exact inv_0, by omega⟩ (by rfl) ?_
   rintro mm kv HB1 ⟨i, y, Bo, Bt, x4, x15, x16, x17, x18, x19, x20, x22, x23, x72, x73, x74, x75, x115, x130, x145, rfl, rfl, qL, qo, qt, hY, hi, hI, hHB⟩
   have tr : ∀ a b c d e f g h i j k m n o p q r s t u v w x y z A B C D E F G H I J K L M N O P Q R S T U V W X Y Z a1 b1 c1 d1 e1 f1 g1 h1 i1 : AV, upd (lc_season_law a b c d e f g h i j k m n o p q r s t u v w x y z A B C D E F G H I J K L M N O P Q) [(4,R),(11,S),(14,T),(15,U),(16,V),(17,W),(18,X),(19,Y),(20,Z),(22,a1),(23,b1),(72,c1),(73,d1),(74,e1),(75,f1),(115,g1),(130,h1),(145,i1)] = lc_season_law a b R d e f g h S j k T U V W X Y Z a1 b1 v w x y z A B C D c1 d1 e1 f1 g1 h1 i1 L M N O P Q := by intros; rfl
   refine W_to (tr ..) ?_; clear tr
   refine at_seq rfl ?_
   refine at_block rfl ?_
   refine at_seq rfl ?_
   refine rg rfl ?_
   have hof := of_ok S (W := W) hi
   obtain ⟨P, hP⟩ : ∃ P, P = ofP n (plN Q W i) := ⟨_, rfl⟩
   obtain ⟨L, hL⟩ : ∃ L, L = Q.drop i := ⟨_, rfl⟩
   have hgc : rchkS P L = 0 := by rw [hP, hL]; exact rchk_ok S hi
   have g := rok_of hgc
   have hPl : P.length = n := by rw [hP, ofP_len, hnn]
   rewrite [← hP, ← hL] at hof
   refine Rq ?_
   refine Rq ?_
   refine Rq ?_
   refine Rq ?_
   refine R_q (r := .own 2 bl (i * 2) (Q.length - i)) rfl (by simp (disch := first | omega | (simp only [List.length_map, List.length_append, List.length_set, List.length_cons, List.length_nil]; omega)) only [go_sem, ↓reduceIte, Nat.reduceEqDiff, reduceCtorEq]; exact slO bl i Q.length hi) ?_
   refine Rcall ?_
   refine ACall_eq (raceofX_ok _ _ n (by omega) (plN Q W i) y hY.src bl i Q qL hi (by omega)) ?_
   rewrite [← hL, hof.1, hof.2]
   refine Rq ?_
   refine Rq ?_
   refine Rq ?_
   have hY1 := hY
   refine A_alloc rfl ?_
   intro HC1 n17
   have en17 := n17.len
   have qL := (n17.old _ (hget_lt qL)).trans qL
   have qo := (n17.old _ (hget_lt qo)).trans qo
   have qt := (n17.old _ (hget_lt qt)).trans qt
   have qr := n17.new
   have lqL := hget_lt qL
   have lqo := hget_lt qo
   have lqt := hget_lt qt
   have lqr := hget_lt qr
   refine A_store ty36 (by simp (disch := first | omega | (simp only [List.length_map, List.length_append, List.length_set, List.length_cons, List.length_nil]; omega)) only [go_sem, ↓reduceIte, Nat.reduceEqDiff, reduceCtorEq, qL, qo, qt, qr] <;> rfl) (by simp (disch := first | omega | (simp only [List.length_map, List.length_append, List.length_set, List.length_cons, List.length_nil]; omega)) only [go_sem, ↓reduceIte, Nat.reduceEqDiff, reduceCtorEq, qL, qo, qt, qr] <;> rfl) qr ⟨by first | omega | exact Nat.zero_le _, rfl, by first | exact Nat.le_refl _ | (simp; done) | (simp only [List.length_map]; omega)⟩ (k' := raceC P L) (by first | exact rfl | rfl) ?_
   intro HD1 w17
   have ew17 := w17.len
   have qL := (w17.old _ (by omega)).trans qL
   have qo := (w17.old _ (by omega)).trans qo
   have qt := (w17.old _ (by omega)).trans qt
   have qr := w17.new
   have hY := hY1.but fun b k h3 hb => (w17.old b (by have := hget_lt hb; omega)).trans (n17.old b (hget_lt hb))
   refine Rq ?_
   have tr : ∀ a b c d e f g h i j k m n o p q r s t u v w x y z A B C D E F G H I J K L M N O P Q R S T U V W X Y Z a1 b1 : AV, let l := lc_season_law a b c d e f g h i j k m n o p q r s t u v w x y z A B C D E F G H I J K L M N O P Q; trim ((16,b1)::(15,a1)::(70,Z)::(69,Y)::(62,X)::(68,W)::(67,V)::(66,U)::(65,T)::(64,S)::(63,R)::l) l = lc_season_law a b c d e f g h i j k m a1 b1 p q r s t u v w x y z A B C D E F G H I J K L M N O P Q := by intros; rfl
   refine R_nil (tr ..) ?_; clear tr
   refine then_n ?_
   refine at_seq rfl ?_
   refine at_seq rfl ?_
   refine rg rfl ?_
   refine Rq ?_
   refine Rq ?_
   have tr : ∀ a b c d e f g h i j k m n o p q r s t u v w x y z A B C D E F G H I J K L M N O P Q R S : AV, let l := lc_season_law a b c d e f g h i j k m n o p q r s t u v w x y z A B C D E F G H I J K L M N O P Q; trim ((72,S)::(71,R)::l) l = lc_season_law a b c d e f g h i j k m n o p q r s t u v w x y z A B C D S F G H I J K L M N O P Q := by intros; rfl
   refine R_nil (tr ..) ?_; clear tr
   refine then_n ?_
   refine cdd (fun h3 => ?_) (fun h3 => ?_)
   ·
    try simp only [decide_eq_true_eq, decide_eq_false_iff_not, Bool.not_eq_true', Bool.not_eq_false', beq_iff_eq, beq_eq_false_iff_ne, ne_eq] at h3
    first | omega | contradiction | exact absurd rfl (by assumption) | exact absurd trivial (by assumption) | (exfalso; simp_all; done)
   ·
    try simp only [decide_eq_true_eq, decide_eq_false_iff_not, Bool.not_eq_true', Bool.not_eq_false', beq_iff_eq, beq_eq_false_iff_ne, ne_eq] at h3
    refine at_skip rfl ?_
    refine then_n ?_
    refine at_seq rfl ?_
    refine at_seq rfl ?_
    refine rg rfl ?_
    refine Rq ?_
    refine Rq ?_
    have tr : ∀ a b c d e f g h i j k m n o p q r s t u v w x y z A B C D E F G H I J K L M N O P Q R S : AV, let l := lc_season_law a b c d e f g h i j k m n o p q r s t u v w x y z A B C D E F G H I J K L M N O P Q; trim ((74,S)::(73,R)::l) l = lc_season_law a b c d e f g h i j k m n o p q r s t u v w x y z A B C D E R S H I J K L M N O P Q := by intros; rfl
    refine R_nil (tr ..) ?_; clear tr
    refine then_n ?_
    refine at_block rfl ?_
    refine loop_n rfl (fun mm kv H' => ∃ s : Nat, ∃ Bo2 : List Bool, ∃ Bt2 : List Bool, ∃ x4 x17 x18 x19 x20 x22 x75 x115 : AV, (kv = [(4, x4), (17, x17), (18, x18), (19, x19), (20, x20), (22, x22), (74, AV.i (s : Int)), (75, x75), (115, x115)]) ∧ (mm = n - s) ∧ (hget H' bl = some (flatQ Q)) ∧ (hget H' HA.length = some (Bo2.map AV.b)) ∧ (hget H' H2.length = some (Bt2.map AV.b)) ∧ (hget H' HB1.length = some (raceC P L)) ∧ (OutL H3.length H' y (plN Q W i) i) ∧ (s ≤ n) ∧ (Inv2 n Q W i s Bo2 Bt2) ∧ (HD1.length ≤ H'.length)) ⟨0, Bo, Bt, _, _, _, _, _, _, _, _, rfl, rfl, by exact qL, by exact qo, by exact qt, by exact qr, by exact hY, by omega, by exact inv_start hI, by omega⟩ (by rfl) ?_
    rintro mm kv HE1 ⟨s, Bo2, Bt2, x4, x17, x18, x19, x20, x22, x75, x115, rfl, rfl, qL, qo, qt, qr, hY, hs, hI2, hHE⟩
    have tr : ∀ a b c d e f g h i j k m n o p q r s t u v w x y z A B C D E F G H I J K L M N O P Q R S T U V W X Y Z : AV, upd (lc_season_law a b c d e f g h i j k m n o p q r s t u v w x y z A B C D E F G H I J K L M N O P Q) [(4,R),(17,S),(18,T),(19,U),(20,V),(22,W),(74,X),(75,Y),(115,Z)] = lc_season_law a b R d e f g h i j k m n o S T U V W u v w x y z A B C D E F X Y Z J K L M N O P Q := by intros; rfl
    refine W_to (tr ..) ?_; clear tr
    refine at_seq rfl ?_
    refine rg rfl ?_
    refine Rq ?_
    have tr : ∀ a b c d e f g h i j k m n o p q r s t u v w x y z A B C D E F G H I J K L M N O P Q R : AV, let l := lc_season_law a b c d e f g h i j k m n o p q r s t u v w x y z A B C D E F G H I J K L M N O P Q; trim ((75,R)::l) l = lc_season_law a b c d e f g h i j k m n o p q r s t u v w x y z A B C D E F G R I J K L M N O P Q := by intros; rfl
    refine R_nil (tr ..) ?_; clear tr
    refine then_n ?_
    refine at_seq rfl ?_
    refine cdd (fun h4 => ?_) (fun h4 => ?_)
    ·
     try simp only [decide_eq_true_eq, decide_eq_false_iff_not, Bool.not_eq_true', Bool.not_eq_false', beq_iff_eq, beq_eq_false_iff_ne, ne_eq] at h4
     refine at_skip rfl ?_
     refine then_n ?_
     refine at_seq rfl ?_
     refine at_block rfl ?_
     refine at_seq rfl ?_
     refine rg rfl ?_
     refine Rq ?_
     refine Rq ?_
     have tr : ∀ a b c d e f g h i j k m n o p q r s t u v w x y z A B C D E F G H I J K L M N O P Q R S : AV, let l := lc_season_law a b c d e f g h i j k m n o p q r s t u v w x y z A B C D E F G H I J K L M N O P Q; trim ((17,S)::(76,R)::l) l = lc_season_law a b c d e f g h i j k m n o S q r s t u v w x y z A B C D E F G H I J K L M N O P Q := by intros; rfl
     refine R_nil (tr ..) ?_; clear tr
     refine then_n ?_
     refine at_seq rfl ?_
     refine rg rfl ?_
     have hm0 : (mostS P L (s : Nat)).2 = 0 := by rw [mostS, if_neg (fun hh => hh hgc), if_neg (by omega)]
     have e_thr : (thruS P L (s : Nat)).2.2 = 0 := by rw [thruS, if_neg (fun hh => hh hm0)]
     have e2 : (thruS P L (s : Nat)).1 = allB P L (s : Nat) := by
       rw [thruS, if_neg (fun hh => hh hm0), Bool.eq_iff_iff, decide_eq_true_eq, allB_iff]
       exact thru_all g (by omega) (by omega)
     have hip := inv_pt hI2 (show s < (n : Int).toNat by omega)
     rewrite [← hP, ← hL] at hip
     have hBo := hI2.1
     have hBt := hI2.2.1
     refine R_q rfl (by simp (disch := first | omega | (simp only [List.length_map, List.length_append, List.length_set, List.length_cons, List.length_nil]; omega)) only [go_sem, ↓reduceIte, Nat.reduceEqDiff, reduceCtorEq, qL, qo, qt, qr, qv, qp, qx, qs] <;> rfl) ?_
     refine Rq ?_
     refine Rcall ?_
     refine ACall_mono (first_ok _ _ P L (s : Nat)) ?_
     rintro r HE1 ⟨⟨R1, o1, rfl, hv1⟩, rfl⟩
     obtain ⟨ho1, hl1⟩ := firstP_o hv1
     have e1 : firstB P L (s : Nat) = canB P L (s : Nat) := by rw [Bool.eq_iff_iff, canB_iff]; exact first_can hm0 hv1
     rewrite [e1, hm0]
     refine Rq ?_
     refine Rq ?_
     refine Rq ?_
     have hY1 := hY
     refine A_alloc rfl ?_
     intro HF1 n23
     have en23 := n23.len
     have qL := (n23.old _ (hget_lt qL)).trans qL
     have qo := (n23.old _ (hget_lt qo)).trans qo
     have qt := (n23.old _ (hget_lt qt)).trans qt
     have qr := (n23.old _ (hget_lt qr)).trans qr
     have qv := n23.new
     have lqL := hget_lt qL
     have lqo := hget_lt qo
     have lqt := hget_lt qt
     have lqr := hget_lt qr
     have lqv := hget_lt qv
     refine A_store ty40 (by simp (disch := first | omega | (simp only [List.length_map, List.length_append, List.length_set, List.length_cons, List.length_nil]; omega)) only [go_sem, ↓reduceIte, Nat.reduceEqDiff, reduceCtorEq, qL, qo, qt, qr, qv] <;> rfl) (by simp (disch := first | omega | (simp only [List.length_map, List.length_append, List.length_set, List.length_cons, List.length_nil]; omega)) only [go_sem, ↓reduceIte, Nat.reduceEqDiff, reduceCtorEq, qL, qo, qt, qr, qv, Bool.and_self, storA (firstS P L s), ho1.stor] <;> rfl) qv ⟨by first | omega | exact Nat.zero_le _, rfl, by first | exact Nat.le_refl _ | (simp; done) | (simp only [List.length_map]; omega)⟩ (k' := [.v (.bool (canB P L s)), outA (firstS P L s), o1]) (by first | exact rfl | rfl) ?_
     intro HG1 w23
     have ew23 := w23.len
     have qL := (w23.old _ (by omega)).trans qL
     have qo := (w23.old _ (by omega)).trans qo
     have qt := (w23.old _ (by omega)).trans qt
     have qr := (w23.old _ (by omega)).trans qr
     have qv := w23.new
     have hY := hY1.but fun b k h3 hb => (w23.old b (by have := hget_lt hb; omega)).trans (n23.old b (hget_lt hb))
     refine Rq ?_
     have tr : ∀ a b c d e f g h i j k m n o p q r s t u v w x y z A B C D E F G H I J K L M N O P Q R S T U V W X Y : AV, let l := lc_season_law a b c d e f g h i j k m n o p q r s t u v w x y z A B C D E F G H I J K L M N O P Q; trim ((19,Y)::(18,X)::(82,W)::(81,V)::(77,U)::(80,T)::(79,S)::(78,R)::l) l = lc_season_law a b c d e f g h i j k m n o p X Y s t u v w x y z A B C D E F G H I J K L M N O P Q := by intros; rfl
     refine R_nil (tr ..) ?_; clear tr
     refine then_n ?_
     refine at_seq rfl ?_
     refine rg rfl ?_
     refine R_q rfl (by simp (disch := first | omega | (simp only [List.length_map, List.length_append, List.length_set, List.length_cons, List.length_nil]; omega)) only [go_sem, ↓reduceIte, Nat.reduceEqDiff, reduceCtorEq, qL, qo, qt, qr, qv, qp, qx, qs] <;> rfl) ?_
     refine Rq ?_
     refine Rcall ?_
     refine ACall_eq (thr_ok _ _ P L (s : Nat)) ?_
     rewrite [e2, e_thr]
     refine Rq ?_
     refine Rq ?_
     refine Rq ?_
     refine Rq ?_
     refine Rq ?_
     refine Rq ?_
     refine Rq ?_
     have tr : ∀ a b c d e f g h i j k m n o p q r s t u v w x y z A B C D E F G H I J K L M N O P Q R S T U V W X Y Z a1 : AV, let l := lc_season_law a b c d e f g h i j k m n o p q r s t u v w x y z A B C D E F G H I J K L M N O P Q; trim ((22,a1)::(21,Z)::(20,Y)::(89,X)::(88,W)::(87,V)::(83,U)::(86,T)::(85,S)::(84,R)::l) l = lc_season_law a b c d e f g h i j k m n o p q r Y a1 u v w x y z A B C D E F G H I J K L M N O P Q := by intros; rfl
     refine R_nil (tr ..) ?_; clear tr
     refine then_n ?_
     refine at_seq rfl ?_
     refine at_seq rfl ?_
     refine rg rfl ?_
     refine Rq ?_
     refine Rq ?_
     refine Rq ?_
     refine Rp_split (fun h5 => ?_) (fun h5 => ?_)
     ·
      try simp only [decide_eq_true_eq, decide_eq_false_iff_not, Bool.not_eq_true', Bool.not_eq_false', beq_iff_eq, beq_eq_false_iff_ne, ne_eq] at h5
      first | omega | contradiction | exact absurd rfl (by assumption) | exact absurd trivial (by assumption) | (exfalso; simp_all; done)
     ·
      try simp only [decide_eq_true_eq, decide_eq_false_iff_not, Bool.not_eq_true', Bool.not_eq_false', beq_iff_eq, beq_eq_false_iff_ne, ne_eq] at h5
      refine Ry ?_
      refine Rq ?_
      refine Ry ?_
      refine Rq ?_
      refine Rq ?_
      refine Rq ?_
      refine Rp_split (fun h6 => ?_) (fun h6 => ?_)
      ·
       try simp only [decide_eq_true_eq, decide_eq_false_iff_not, Bool.not_eq_true', Bool.not_eq_false', beq_iff_eq, beq_eq_false_iff_ne, ne_eq] at h6
       first | omega | contradiction | exact absurd rfl (by assumption) | exact absurd trivial (by assumption) | (exfalso; simp_all; done)
      ·
       try simp only [decide_eq_true_eq, decide_eq_false_iff_not, Bool.not_eq_true', Bool.not_eq_false', beq_iff_eq, beq_eq_false_iff_ne, ne_eq] at h6
       refine Ry ?_
       refine Rq ?_
       refine Ry ?_
       refine Rq ?_
       refine Ry ?_
       refine Rq ?_
       refine Ry ?_
       refine R_q rfl (by simp (disch := first | omega | (simp only [List.length_map, List.length_append, List.length_set, List.length_cons, List.length_nil]; omega)) only [go_sem, ↓reduceIte, Nat.reduceEqDiff, reduceCtorEq, qL, qo, qt, qr, qv, qp, qx, qs] <;> rfl) ?_
       refine Ry ?_
       refine Rq ?_
       refine Rp_split (fun h7 => ?_) (fun h7 => ?_)
       ·
        try simp only [decide_eq_true_eq, decide_eq_false_iff_not, Bool.not_eq_true', Bool.not_eq_false', beq_iff_eq, beq_eq_false_iff_ne, ne_eq] at h7
        refine Ry ?_
        refine Rq ?_
        refine Ry ?_
        refine R_q rfl (by simp (disch := first | omega | (simp only [List.length_map, List.length_append, List.length_set, List.length_cons, List.length_nil]; omega)) only [go_sem, ↓reduceIte, Nat.reduceEqDiff, reduceCtorEq, qL, qo, qt, qr, qv, qp, qx, qs] <;> rfl) ?_
        refine Ry ?_
        refine Rq ?_
        refine Rq ?_
        refine Rq ?_
        refine Rp_split (fun h8 => ?_) (fun h8 => ?_)
        ·
         try simp only [decide_eq_true_eq, decide_eq_false_iff_not, Bool.not_eq_true', Bool.not_eq_false', beq_iff_eq, beq_eq_false_iff_ne, ne_eq] at h8
         exfalso
         have h8 := hip.1 (by assumption)
         simp_all
        ·
         try simp only [decide_eq_true_eq, decide_eq_false_iff_not, Bool.not_eq_true', Bool.not_eq_false', beq_iff_eq, beq_eq_false_iff_ne, ne_eq] at h8
         refine Ry ?_
         refine Rq ?_
         refine Ry ?_
         refine Rq ?_
         refine Ry ?_
         refine Rq ?_
         refine Ry ?_
         refine R_q rfl (by simp (disch := first | omega | (simp only [List.length_map, List.length_append, List.length_set, List.length_cons, List.length_nil]; omega)) only [go_sem, ↓reduceIte, Nat.reduceEqDiff, reduceCtorEq, qL, qo, qt, qr, qv, qp, qx, qs] <;> rfl) ?_
         refine Ry ?_
         refine Rq ?_
         refine Rp_split (fun h9 => ?_) (fun h9 => ?_)
         ·
          try simp only [decide_eq_true_eq, decide_eq_false_iff_not, Bool.not_eq_true', Bool.not_eq_false', beq_iff_eq, beq_eq_false_iff_ne, ne_eq] at h9
          refine Ry ?_
          refine Rq ?_
          refine Ry ?_
          refine Rq ?_
          refine Ry ?_
          refine Rq ?_
          refine Rq ?_
          have tr : ∀ a b c d e f g h i j k m n o p q r s t u v w x y z A B C D E F G H I J K L M N O P Q R S T U V W X Y Z a1 b1 c1 d1 e1 f1 g1 h1 i1 j1 k1 m1 n1 o1 p1 q1 r1 : AV, let l := lc_season_law a b c d e f g h i j k m n o p q r s t u v w x y z A B C D E F G H I J K L M N O P Q; trim ((115,r1)::(114,q1)::(113,p1)::(112,o1)::(111,n1)::(110,m1)::(109,k1)::(108,j1)::(107,i1)::(106,h1)::(105,g1)::(104,f1)::(103,e1)::(102,d1)::(101,c1)::(100,b1)::(99,a1)::(98,Z)::(97,Y)::(96,X)::(95,W)::(94,V)::(93,U)::(92,T)::(91,S)::(90,R)::l) l = lc_season_law a b c d e f g h i j k m n o p q r s t u v w x y z A B C D E F G H r1 J K L M N O P Q := by intros; rfl
          refine R_nil (tr ..) ?_; clear tr
          refine then_n ?_
          refine cdd (fun h10 => ?_) (fun h10 => ?_)
          ·
           try simp only [decide_eq_true_eq, decide_eq_false_iff_not, Bool.not_eq_true', Bool.not_eq_false', beq_iff_eq, beq_eq_false_iff_ne, ne_eq] at h10
           exfalso
           have h8 := hip.2 (by assumption)
           simp_all
          ·
           try simp only [decide_eq_true_eq, decide_eq_false_iff_not, Bool.not_eq_true', Bool.not_eq_false', beq_iff_eq, beq_eq_false_iff_ne, ne_eq] at h10
           refine at_skip rfl ?_
           refine then_n ?_
           refine at_seq rfl ?_
           refine rg rfl ?_
           refine Rq ?_
           refine Rq ?_
           refine Rq ?_
           refine R_q rfl (by simp (disch := first | omega | (simp only [List.length_map, List.length_append, List.length_set, List.length_cons, List.length_nil]; omega)) only [go_sem, ↓reduceIte, Nat.reduceEqDiff, reduceCtorEq, qL, qo, qt, qr, qv, qp, qx, qs] <;> rfl) ?_
           refine Rq ?_
           refine Rq ?_
           have lqL := hget_lt qL
           have lqo := hget_lt qo
           have lqt := hget_lt qt
           have lqr := hget_lt qr
           have lqv := hget_lt qv
           refine A_store ty4 (by simp (disch := first | omega | (simp only [List.length_map, List.length_append, List.length_set, List.length_cons, List.length_nil]; omega)) only [go_sem, ↓reduceIte, Nat.reduceEqDiff, reduceCtorEq, qL, qo, qt, qr, qv] <;> rfl) (by simp (disch := first | omega | (simp only [List.length_map, List.length_append, List.length_set, List.length_cons, List.length_nil]; omega)) only [go_sem, ↓reduceIte, Nat.reduceEqDiff, reduceCtorEq, qL, qo, qt, qr, qv] <;> rfl) qo ⟨by first | omega | exact Nat.zero_le _, rfl, by first | exact Nat.le_refl _ | (simp; done) | (simp only [List.length_map]; omega)⟩ (k' := (Bo2.set s (!canB P L s)).map AV.b) (by first | exact setL_b _ _ _ | rfl) ?_
           intro HH1 w27
           have ew27 := w27.len
           have qL := (w27.old _ (by omega)).trans qL
           have qt := (w27.old _ (by omega)).trans qt
           have qr := (w27.old _ (by omega)).trans qr
           have qv := (w27.old _ (by omega)).trans qv
           have qo := w27.new
           have hY := hY.but fun b k h3 hb => w27.old b (by omega)
           have tr : ∀ a b c d e f g h i j k m n o p q r s t u v w x y z A B C D E F G H I J K L M N O P Q R S T U V W : AV, let l := lc_season_law a b c d e f g h i j k m n o p q r s t u v w x y z A B C D E F G H I J K L M N O P Q; trim ((121,W)::(120,V)::(119,U)::(118,T)::(117,S)::(116,R)::l) l = lc_season_law a b c d e f g h i j k m n o p q r s t u v w x y z A B C D E F G H I J K L M N O P Q := by intros; rfl
           refine R_nil (tr ..) ?_; clear tr
           refine then_n ?_
           refine rg rfl ?_
           refine Rq ?_
           refine Rq ?_
           refine Rq ?_
           refine Rq ?_
           have lqL := hget_lt qL
           have lqo := hget_lt qo
           have lqt := hget_lt qt
           have lqr := hget_lt qr
           have lqv := hget_lt qv
           refine A_store ty4 (by simp (disch := first | omega | (simp only [List.length_map, List.length_append, List.length_set, List.length_cons, List.length_nil]; omega)) only [go_sem, ↓reduceIte, Nat.reduceEqDiff, reduceCtorEq, qL, qo, qt, qr, qv] <;> rfl) (by simp (disch := first | omega | (simp only [List.length_map, List.length_append, List.length_set, List.length_cons, List.length_nil]; omega)) only [go_sem, ↓reduceIte, Nat.reduceEqDiff, reduceCtorEq, qL, qo, qt, qr, qv] <;> rfl) qt ⟨by first | omega | exact Nat.zero_le _, rfl, by first | exact Nat.le_refl _ | (simp; done) | (simp only [List.length_map]; omega)⟩ (k' := (Bt2.set s (allB P L s)).map AV.b) (by first | exact setL_b _ _ _ | rfl) ?_
           intro HI1 w28
           have ew28 := w28.len
           have qL := (w28.old _ (by omega)).trans qL
           have qo := (w28.old _ (by omega)).trans qo
           have qr := (w28.old _ (by omega)).trans qr
           have qv := (w28.old _ (by omega)).trans qv
           have qt := w28.new
           have hY := hY.but fun b k h3 hb => w28.old b (by omega)
           have tr : ∀ a b c d e f g h i j k m n o p q r s t u v w x y z A B C D E F G H I J K L M N O P Q R S T U : AV, let l := lc_season_law a b c d e f g h i j k m n o p q r s t u v w x y z A B C D E F G H I J K L M N O P Q; trim ((125,U)::(124,T)::(123,S)::(122,R)::l) l = lc_season_law a b c d e f g h i j k m n o p q r s t u v w x y z A B C D E F G H I J K L M N O P Q := by intros; rfl
           refine R_nil (tr ..) ?_; clear tr
           refine blk_n ?_
           refine then_n ?_
           refine rg rfl ?_
           refine Rq ?_
           refine Rq ?_
           have tr : ∀ a b c d e f g h i j k m n o p q r s t u v w x y z A B C D E F G H I J K L M N O P Q R S : AV, let l := lc_season_law a b c d e f g h i j k m n o p q r s t u v w x y z A B C D E F G H I J K L M N O P Q; trim ((74,S)::(126,R)::l) l = lc_season_law a b c d e f g h i j k m n o p q r s t u v w x y z A B C D E F S H I J K L M N O P Q := by intros; rfl
           refine R_nil (tr ..) ?_; clear tr
           refine then_n ?_
           exact ⟨_, _, ⟨s + 1, Bo2.set s (!canB P L s), Bt2.set s (allB P L s), _, _, _, _, _, _, _, _, rfl, rfl, by exact qL, by exact qo, by exact qt, by exact qr, by exact hY, by omega, by (rw [hP, hL]; exact inv2_step hI2 (by omega)), by (show HD1.length ≤ HI1.length; omega)⟩, by rfl, by omega⟩
         ·
          try simp only [decide_eq_true_eq, decide_eq_false_iff_not, Bool.not_eq_true', Bool.not_eq_false', beq_iff_eq, beq_eq_false_iff_ne, ne_eq] at h9
          refine Rn ?_
          refine Rn ?_
          refine Ry ?_
          refine Rq ?_
          refine Rq ?_
          have tr : ∀ a b c d e f g h i j k m n o p q r s t u v w x y z A B C D E F G H I J K L M N O P Q R S T U V W X Y Z a1 b1 c1 d1 e1 f1 g1 h1 i1 j1 k1 m1 n1 o1 p1 q1 r1 : AV, let l := lc_season_law a b c d e f g h i j k m n o p q r s t u v w x y z A B C D E F G H I J K L M N O P Q; trim ((115,r1)::(114,q1)::(113,p1)::(112,o1)::(111,n1)::(110,m1)::(109,k1)::(108,j1)::(107,i1)::(106,h1)::(105,g1)::(104,f1)::(103,e1)::(102,d1)::(101,c1)::(100,b1)::(99,a1)::(98,Z)::(97,Y)::(96,X)::(95,W)::(94,V)::(93,U)::(92,T)::(91,S)::(90,R)::l) l = lc_season_law a b c d e f g h i j k m n o p q r s t u v w x y z A B C D E F G H r1 J K L M N O P Q := by intros; rfl
          refine R_nil (tr ..) ?_; clear tr
          refine then_n ?_
          refine cdf ?_
          refine at_skip rfl ?_
          refine then_n ?_
          refine at_seq rfl ?_
          refine rg rfl ?_
          refine Rq ?_
          refine Rq ?_
          refine Rq ?_
          refine R_q rfl (by simp (disch := first | omega | (simp only [List.length_map, List.length_append, List.length_set, List.length_cons, List.length_nil]; omega)) only [go_sem, ↓reduceIte, Nat.reduceEqDiff, reduceCtorEq, qL, qo, qt, qr, qv, qp, qx, qs] <;> rfl) ?_
          refine Rq ?_
          refine Rq ?_
          have lqL := hget_lt qL
          have lqo := hget_lt qo
          have lqt := hget_lt qt
          have lqr := hget_lt qr
          have lqv := hget_lt qv
          refine A_store ty4 (by simp (disch := first | omega | (simp only [List.length_map, List.length_append, List.length_set, List.length_cons, List.length_nil]; omega)) only [go_sem, ↓reduceIte, Nat.reduceEqDiff, reduceCtorEq, qL, qo, qt, qr, qv] <;> rfl) (by simp (disch := first | omega | (simp only [List.length_map, List.length_append, List.length_set, List.length_cons, List.length_nil]; omega)) only [go_sem, ↓reduceIte, Nat.reduceEqDiff, reduceCtorEq, qL, qo, qt, qr, qv] <;> rfl) qo ⟨by first | omega | exact Nat.zero_le _, rfl, by first | exact Nat.le_refl _ | (simp; done) | (simp only [List.length_map]; omega)⟩ (k' := (Bo2.set s (!canB P L s)).map AV.b) (by first | exact setL_b _ _ _ | rfl) ?_
          intro HH1 w27
          have ew27 := w27.len
          have qL := (w27.old _ (by omega)).trans qL
          have qt := (w27.old _ (by omega)).trans qt
          have qr := (w27.old _ (by omega)).trans qr
          have qv := (w27.old _ (by omega)).trans qv
          have qo := w27.new
          have hY := hY.but fun b k h3 hb => w27.old b (by omega)
          have tr : ∀ a b c d e f g h i j k m n o p q r s t u v w x y z A B C D E F G H I J K L M N O P Q R S T U V W : AV, let l := lc_season_law a b c d e f g h i j k m n o p q r s t u v w x y z A B C D E F G H I J K L M N O P Q; trim ((121,W)::(120,V)::(119,U)::(118,T)::(117,S)::(116,R)::l) l = lc_season_law a b c d e f g h i j k m n o p q r s t u v w x y z A B C D E F G H I J K L M N O P Q := by intros; rfl
          refine R_nil (tr ..) ?_; clear tr
          refine then_n ?_
          refine rg rfl ?_
          refine Rq ?_
          refine Rq ?_
          refine Rq ?_
          refine Rq ?_
          have lqL := hget_lt qL
          have lqo := hget_lt qo
          have lqt := hget_lt qt
          have lqr := hget_lt qr
          have lqv := hget_lt qv
          refine A_store ty4 (by simp (disch := first | omega | (simp only [List.length_map, List.length_append, List.length_set, List.length_cons, List.length_nil]; omega)) only [go_sem, ↓reduceIte, Nat.reduceEqDiff, reduceCtorEq, qL, qo, qt, qr, qv] <;> rfl) (by simp (disch := first | omega | (simp only [List.length_map, List.length_append, List.length_set, List.length_cons, List.length_nil]; omega)) only [go_sem, ↓reduceIte, Nat.reduceEqDiff, reduceCtorEq, qL, qo, qt, qr, qv] <;> rfl) qt ⟨by first | omega | exact Nat.zero_le _, rfl, by first | exact Nat.le_refl _ | (simp; done) | (simp only [List.length_map]; omega)⟩ (k' := (Bt2.set s (allB P L s)).map AV.b) (by first | exact setL_b _ _ _ | rfl) ?_
          intro HI1 w28
          have ew28 := w28.len
          have qL := (w28.old _ (by omega)).trans qL
          have qo := (w28.old _ (by omega)).trans qo
          have qr := (w28.old _ (by omega)).trans qr
          have qv := (w28.old _ (by omega)).trans qv
          have qt := w28.new
          have hY := hY.but fun b k h3 hb => w28.old b (by omega)
          have tr : ∀ a b c d e f g h i j k m n o p q r s t u v w x y z A B C D E F G H I J K L M N O P Q R S T U : AV, let l := lc_season_law a b c d e f g h i j k m n o p q r s t u v w x y z A B C D E F G H I J K L M N O P Q; trim ((125,U)::(124,T)::(123,S)::(122,R)::l) l = lc_season_law a b c d e f g h i j k m n o p q r s t u v w x y z A B C D E F G H I J K L M N O P Q := by intros; rfl
          refine R_nil (tr ..) ?_; clear tr
          refine blk_n ?_
          refine then_n ?_
          refine rg rfl ?_
          refine Rq ?_
          refine Rq ?_
          have tr : ∀ a b c d e f g h i j k m n o p q r s t u v w x y z A B C D E F G H I J K L M N O P Q R S : AV, let l := lc_season_law a b c d e f g h i j k m n o p q r s t u v w x y z A B C D E F G H I J K L M N O P Q; trim ((74,S)::(126,R)::l) l = lc_season_law a b c d e f g h i j k m n o p q r s t u v w x y z A B C D E F S H I J K L M N O P Q := by intros; rfl
          refine R_nil (tr ..) ?_; clear tr
          refine then_n ?_
          exact ⟨_, _, ⟨s + 1, Bo2.set s (!canB P L s), Bt2.set s (allB P L s), _, _, _, _, _, _, _, _, rfl, rfl, by exact qL, by exact qo, by exact qt, by exact qr, by exact hY, by omega, by (rw [hP, hL]; exact inv2_step hI2 (by omega)), by (show HD1.length ≤ HI1.length; omega)⟩, by rfl, by omega⟩
       ·
        try simp only [decide_eq_true_eq, decide_eq_false_iff_not, Bool.not_eq_true', Bool.not_eq_false', beq_iff_eq, beq_eq_false_iff_ne, ne_eq] at h7
        refine Rn ?_
        refine Rn ?_
        refine Ry ?_
        refine Rq ?_
        refine Rq ?_
        refine Rq ?_
        refine Ry ?_
        refine Rq ?_
        refine Ry ?_
        refine Rq ?_
        refine Ry ?_
        refine Rq ?_
        refine Ry ?_
        refine R_q rfl (by simp (disch := first | omega | (simp only [List.length_map, List.length_append, List.length_set, List.length_cons, List.length_nil]; omega)) only [go_sem, ↓reduceIte, Nat.reduceEqDiff, reduceCtorEq, qL, qo, qt, qr, qv, qp, qx, qs] <;> rfl) ?_
        refine Ry ?_
        refine Rq ?_
        refine Rp_split (fun h11 => ?_) (fun h11 => ?_)
        ·
         try simp only [decide_eq_true_eq, decide_eq_false_iff_not, Bool.not_eq_true', Bool.not_eq_false', beq_iff_eq, beq_eq_false_iff_ne, ne_eq] at h11
         refine Ry ?_
         refine Rq ?_
         refine Ry ?_
         refine Rq ?_
         refine Ry ?_
         refine Rq ?_
         refine Rq ?_
         have tr : ∀ a b c d e f g h i j k m n o p q r s t u v w x y z A B C D E F G H I J K L M N O P Q R S T U V W X Y Z a1 b1 c1 d1 e1 f1 g1 h1 i1 j1 k1 m1 n1 o1 p1 q1 r1 : AV, let l := lc_season_law a b c d e f g h i j k m n o p q r s t u v w x y z A B C D E F G H I J K L M N O P Q; trim ((115,r1)::(114,q1)::(113,p1)::(112,o1)::(111,n1)::(110,m1)::(109,k1)::(108,j1)::(107,i1)::(106,h1)::(105,g1)::(104,f1)::(103,e1)::(102,d1)::(101,c1)::(100,b1)::(99,a1)::(98,Z)::(97,Y)::(96,X)::(95,W)::(94,V)::(93,U)::(92,T)::(91,S)::(90,R)::l) l = lc_season_law a b c d e f g h i j k m n o p q r s t u v w x y z A B C D E F G H r1 J K L M N O P Q := by intros; rfl
         refine R_nil (tr ..) ?_; clear tr
         refine then_n ?_
         refine cdd (fun h12 => ?_) (fun h12 => ?_)
         ·
          try simp only [decide_eq_true_eq, decide_eq_false_iff_not, Bool.not_eq_true', Bool.not_eq_false', beq_iff_eq, beq_eq_false_iff_ne, ne_eq] at h12
          exfalso
          have h8 := hip.2 (by assumption)
          simp_all
         ·
          try simp only [decide_eq_true_eq, decide_eq_false_iff_not, Bool.not_eq_true', Bool.not_eq_false', beq_iff_eq, beq_eq_false_iff_ne, ne_eq] at h12
          refine at_skip rfl ?_
          refine then_n ?_
          refine at_seq rfl ?_
          refine rg rfl ?_
          refine Rq ?_
          refine Rq ?_
          refine Rq ?_
          refine R_q rfl (by simp (disch := first | omega | (simp only [List.length_map, List.length_append, List.length_set, List.length_cons, List.length_nil]; omega)) only [go_sem, ↓reduceIte, Nat.reduceEqDiff, reduceCtorEq, qL, qo, qt, qr, qv, qp, qx, qs] <;> rfl) ?_
          refine Rq ?_
          refine Rq ?_
          have lqL := hget_lt qL
          have lqo := hget_lt qo
          have lqt := hget_lt qt
          have lqr := hget_lt qr
          have lqv := hget_lt qv
          refine A_store ty4 (by simp (disch := first | omega | (simp only [List.length_map, List.length_append, List.length_set, List.length_cons, List.length_nil]; omega)) only [go_sem, ↓reduceIte, Nat.reduceEqDiff, reduceCtorEq, qL, qo, qt, qr, qv] <;> rfl) (by simp (disch := first | omega | (simp only [List.length_map, List.length_append, List.length_set, List.length_cons, List.length_nil]; omega)) only [go_sem, ↓reduceIte, Nat.reduceEqDiff, reduceCtorEq, qL, qo, qt, qr, qv] <;> rfl) qo ⟨by first | omega | exact Nat.zero_le _, rfl, by first | exact Nat.le_refl _ | (simp; done) | (simp only [List.length_map]; omega)⟩ (k' := (Bo2.set s (!canB P L s)).map AV.b) (by first | exact setL_b _ _ _ | rfl) ?_
          intro HH1 w27
          have ew27 := w27.len
          have qL := (w27.old _ (by omega)).trans qL
          have qt := (w27.old _ (by omega)).trans qt
          have qr := (w27.old _ (by omega)).trans qr
          have qv := (w27.old _ (by omega)).trans qv
          have qo := w27.new
          have hY := hY.but fun b k h3 hb => w27.old b (by omega)
          have tr : ∀ a b c d e f g h i j k m n o p q r s t u v w x y z A B C D E F G H I J K L M N O P Q R S T U V W : AV, let l := lc_season_law a b c d e f g h i j k m n o p q r s t u v w x y z A B C D E F G H I J K L M N O P Q; trim ((121,W)::(120,V)::(119,U)::(118,T)::(117,S)::(116,R)::l) l = lc_season_law a b c d e f g h i j k m n o p q r s t u v w x y z A B C D E F G H I J K L M N O P Q := by intros; rfl
          refine R_nil (tr ..) ?_; clear tr
          refine then_n ?_
          refine rg rfl ?_
          refine Rq ?_
          refine Rq ?_
          refine Rq ?_
          refine Rq ?_
          have lqL := hget_lt qL
          have lqo := hget_lt qo
          have lqt := hget_lt qt
          have lqr := hget_lt qr
          have lqv := hget_lt qv
          refine A_store ty4 (by simp (disch := first | omega | (simp only [List.length_map, List.length_append, List.length_set, List.length_cons, List.length_nil]; omega)) only [go_sem, ↓reduceIte, Nat.reduceEqDiff, reduceCtorEq, qL, qo, qt, qr, qv] <;> rfl) (by simp (disch := first | omega | (simp only [List.length_map, List.length_append, List.length_set, List.length_cons, List.length_nil]; omega)) only [go_sem, ↓reduceIte, Nat.reduceEqDiff, reduceCtorEq, qL, qo, qt, qr, qv] <;> rfl) qt ⟨by first | omega | exact Nat.zero_le _, rfl, by first | exact Nat.le_refl _ | (simp; done) | (simp only [List.length_map]; omega)⟩ (k' := (Bt2.set s (allB P L s)).map AV.b) (by first | exact setL_b _ _ _ | rfl) ?_
          intro HI1 w28
          have ew28 := w28.len
          have qL := (w28.old _ (by omega)).trans qL
          have qo := (w28.old _ (by omega)).trans qo
          have qr := (w28.old _ (by omega)).trans qr
          have qv := (w28.old _ (by omega)).trans qv
          have qt := w28.new
          have hY := hY.but fun b k h3 hb => w28.old b (by omega)
          have tr : ∀ a b c d e f g h i j k m n o p q r s t u v w x y z A B C D E F G H I J K L M N O P Q R S T U : AV, let l := lc_season_law a b c d e f g h i j k m n o p q r s t u v w x y z A B C D E F G H I J K L M N O P Q; trim ((125,U)::(124,T)::(123,S)::(122,R)::l) l = lc_season_law a b c d e f g h i j k m n o p q r s t u v w x y z A B C D E F G H I J K L M N O P Q := by intros; rfl
          refine R_nil (tr ..) ?_; clear tr
          refine blk_n ?_
          refine then_n ?_
          refine rg rfl ?_
          refine Rq ?_
          refine Rq ?_
          have tr : ∀ a b c d e f g h i j k m n o p q r s t u v w x y z A B C D E F G H I J K L M N O P Q R S : AV, let l := lc_season_law a b c d e f g h i j k m n o p q r s t u v w x y z A B C D E F G H I J K L M N O P Q; trim ((74,S)::(126,R)::l) l = lc_season_law a b c d e f g h i j k m n o p q r s t u v w x y z A B C D E F S H I J K L M N O P Q := by intros; rfl
          refine R_nil (tr ..) ?_; clear tr
          refine then_n ?_
          exact ⟨_, _, ⟨s + 1, Bo2.set s (!canB P L s), Bt2.set s (allB P L s), _, _, _, _, _, _, _, _, rfl, rfl, by exact qL, by exact qo, by exact qt, by exact qr, by exact hY, by omega, by (rw [hP, hL]; exact inv2_step hI2 (by omega)), by (show HD1.length ≤ HI1.length; omega)⟩, by rfl, by omega⟩
        ·
         try simp only [decide_eq_true_eq, decide_eq_false_iff_not, Bool.not_eq_true', Bool.not_eq_false', beq_iff_eq, beq_eq_false_iff_ne, ne_eq] at h11
         refine Rn ?_
         refine Rn ?_
         refine Ry ?_
         refine Rq ?_
         refine Rq ?_
         have tr : ∀ a b c d e f g h i j k m n o p q r s t u v w x y z A B C D E F G H I J K L M N O P Q R S T U V W X Y Z a1 b1 c1 d1 e1 f1 g1 h1 i1 j1 k1 m1 n1 o1 p1 q1 r1 : AV, let l := lc_season_law a b c d e f g h i j k m n o p q r s t u v w x y z A B C D E F G H I J K L M N O P Q; trim ((115,r1)::(114,q1)::(113,p1)::(112,o1)::(111,n1)::(110,m1)::(109,k1)::(108,j1)::(107,i1)::(106,h1)::(105,g1)::(104,f1)::(103,e1)::(102,d1)::(101,c1)::(100,b1)::(99,a1)::(98,Z)::(97,Y)::(96,X)::(95,W)::(94,V)::(93,U)::(92,T)::(91,S)::(90,R)::l) l = lc_season_law a b c d e f g h i j k m n o p q r s t u v w x y z A B C D E F G H r1 J K L M N O P Q := by intros; rfl
         refine R_nil (tr ..) ?_; clear tr
         refine then_n ?_
         refine cdf ?_
         refine at_skip rfl ?_
         refine then_n ?_
         refine at_seq rfl ?_
         refine rg rfl ?_
         refine Rq ?_
         refine Rq ?_
         refine Rq ?_
         refine R_q rfl (by simp (disch := first | omega | (simp only [List.length_map, List.length_append, List.length_set, List.length_cons, List.length_nil]; omega)) only [go_sem, ↓reduceIte, Nat.reduceEqDiff, reduceCtorEq, qL, qo, qt, qr, qv, qp, qx, qs] <;> rfl) ?_
         refine Rq ?_
         refine Rq ?_
         have lqL := hget_lt qL
         have lqo := hget_lt qo
         have lqt := hget_lt qt
         have lqr := hget_lt qr
         have lqv := hget_lt qv
         refine A_store ty4 (by simp (disch := first | omega | (simp only [List.length_map, List.length_append, List.length_set, List.length_cons, List.length_nil]; omega)) only [go_sem, ↓reduceIte, Nat.reduceEqDiff, reduceCtorEq, qL, qo, qt, qr, qv] <;> rfl) (by simp (disch := first | omega | (simp only [List.length_map, List.length_append, List.length_set, List.length_cons, List.length_nil]; omega)) only [go_sem, ↓reduceIte, Nat.reduceEqDiff, reduceCtorEq, qL, qo, qt, qr, qv] <;> rfl) qo ⟨by first | omega | exact Nat.zero_le _, rfl, by first | exact Nat.le_refl _ | (simp; done) | (simp only [List.length_map]; omega)⟩ (k' := (Bo2.set s (!canB P L s)).map AV.b) (by first | exact setL_b _ _ _ | rfl) ?_
         intro HH1 w27
         have ew27 := w27.len
         have qL := (w27.old _ (by omega)).trans qL
         have qt := (w27.old _ (by omega)).trans qt
         have qr := (w27.old _ (by omega)).trans qr
         have qv := (w27.old _ (by omega)).trans qv
         have qo := w27.new
         have hY := hY.but fun b k h3 hb => w27.old b (by omega)
         have tr : ∀ a b c d e f g h i j k m n o p q r s t u v w x y z A B C D E F G H I J K L M N O P Q R S T U V W : AV, let l := lc_season_law a b c d e f g h i j k m n o p q r s t u v w x y z A B C D E F G H I J K L M N O P Q; trim ((121,W)::(120,V)::(119,U)::(118,T)::(117,S)::(116,R)::l) l = lc_season_law a b c d e f g h i j k m n o p q r s t u v w x y z A B C D E F G H I J K L M N O P Q := by intros; rfl
         refine R_nil (tr ..) ?_; clear tr
         refine then_n ?_
         refine rg rfl ?_
         refine Rq ?_
         refine Rq ?_
         refine Rq ?_
         refine Rq ?_
         have lqL := hget_lt qL
         have lqo := hget_lt qo
         have lqt := hget_lt qt
         have lqr := hget_lt qr
         have lqv := hget_lt qv
         refine A_store ty4 (by simp (disch := first | omega | (simp only [List.length_map, List.length_append, List.length_set, List.length_cons, List.length_nil]; omega)) only [go_sem, ↓reduceIte, Nat.reduceEqDiff, reduceCtorEq, qL, qo, qt, qr, qv] <;> rfl) (by simp (disch := first | omega | (simp only [List.length_map, List.length_append, List.length_set, List.length_cons, List.length_nil]; omega)) only [go_sem, ↓reduceIte, Nat.reduceEqDiff, reduceCtorEq, qL, qo, qt, qr, qv] <;> rfl) qt ⟨by first | omega | exact Nat.zero_le _, rfl, by first | exact Nat.le_refl _ | (simp; done) | (simp only [List.length_map]; omega)⟩ (k' := (Bt2.set s (allB P L s)).map AV.b) (by first | exact setL_b _ _ _ | rfl) ?_
         intro HI1 w28
         have ew28 := w28.len
         have qL := (w28.old _ (by omega)).trans qL
         have qo := (w28.old _ (by omega)).trans qo
         have qr := (w28.old _ (by omega)).trans qr
         have qv := (w28.old _ (by omega)).trans qv
         have qt := w28.new
         have hY := hY.but fun b k h3 hb => w28.old b (by omega)
         have tr : ∀ a b c d e f g h i j k m n o p q r s t u v w x y z A B C D E F G H I J K L M N O P Q R S T U : AV, let l := lc_season_law a b c d e f g h i j k m n o p q r s t u v w x y z A B C D E F G H I J K L M N O P Q; trim ((125,U)::(124,T)::(123,S)::(122,R)::l) l = lc_season_law a b c d e f g h i j k m n o p q r s t u v w x y z A B C D E F G H I J K L M N O P Q := by intros; rfl
         refine R_nil (tr ..) ?_; clear tr
         refine blk_n ?_
         refine then_n ?_
         refine rg rfl ?_
         refine Rq ?_
         refine Rq ?_
         have tr : ∀ a b c d e f g h i j k m n o p q r s t u v w x y z A B C D E F G H I J K L M N O P Q R S : AV, let l := lc_season_law a b c d e f g h i j k m n o p q r s t u v w x y z A B C D E F G H I J K L M N O P Q; trim ((74,S)::(126,R)::l) l = lc_season_law a b c d e f g h i j k m n o p q r s t u v w x y z A B C D E F S H I J K L M N O P Q := by intros; rfl
         refine R_nil (tr ..) ?_; clear tr
         refine then_n ?_
         exact ⟨_, _, ⟨s + 1, Bo2.set s (!canB P L s), Bt2.set s (allB P L s), _, _, _, _, _, _, _, _, rfl, rfl, by exact qL, by exact qo, by exact qt, by exact qr, by exact hY, by omega, by (rw [hP, hL]; exact inv2_step hI2 (by omega)), by (show HD1.length ≤ HI1.length; omega)⟩, by rfl, by omega⟩
    ·
     try simp only [decide_eq_true_eq, decide_eq_false_iff_not, Bool.not_eq_true', Bool.not_eq_false', beq_iff_eq, beq_eq_false_iff_ne, ne_eq] at h4
     refine at_exit rfl ?_
     refine then_x ?_
     refine then_x ?_
     refine blk_x ?_
     refine then_n ?_
     refine at_seq rfl ?_
     refine at_seq rfl ?_
     refine rg rfl ?_
     refine Rq ?_
     refine Rq ?_
     refine Rq ?_
     refine Rq ?_
     have tr : ∀ a b c d e f g h i j k m n o p q r s t u v w x y z A B C D E F G H I J K L M N O P Q R S T U : AV, let l := lc_season_law a b c d e f g h i j k m n o p q r s t u v w x y z A B C D E F G H I J K L M N O P Q; trim ((130,U)::(129,T)::(128,S)::(127,R)::l) l = lc_season_law a b c d e f g h i j k m n o p q r s t u v w x y z A B C D E F G H I U K L M N O P Q := by intros; rfl
     refine R_nil (tr ..) ?_; clear tr
     refine then_n ?_
     refine cdd (fun h13 => ?_) (fun h13 => ?_)
     ·
      try simp only [decide_eq_true_eq, decide_eq_false_iff_not, Bool.not_eq_true', Bool.not_eq_false', beq_iff_eq, beq_eq_false_iff_ne, ne_eq] at h13
      refine at_exit rfl ?_
      refine then_x ?_
      refine blk_p (by decide) ?_
      refine then_x ?_
      refine then_x ?_
      refine blk_x ?_
      refine then_n ?_
      refine at_seq rfl ?_
      refine rg rfl ?_
      obtain rfl : i = Q.length := by omega
      have hc := ch_ok S (W := W) (Nat.le_refl Q.length)
      obtain ⟨zs, hzs⟩ : ∃ zs, zs = tabS n (plN Q W Q.length) := ⟨_, rfl⟩
      obtain ⟨hz0, hzl, hzt⟩ := tab_row hzs hc
      have hzlen : zs.length = n := by rw [hzl, hnn]
      refine Rq ?_
      refine Rq ?_
      refine Rcall ?_
      refine ACall_eq (tableX_ok _ _ n (by omega) (plN Q W Q.length) y hY.src) ?_
      rewrite [← hzs, hc, tbAV_ne hz0]
      refine Rq ?_
      refine Rq ?_
      refine Rq ?_
      refine Rq ?_
      refine Rq ?_
      have tr : ∀ a b c d e f g h i j k m n o p q r s t u v w x y z A B C D E F G H I J K L M N O P Q R S T U V W X Y : AV, let l := lc_season_law a b c d e f g h i j k m n o p q r s t u v w x y z A B C D E F G H I J K L M N O P Q; trim ((7,Y)::(24,X)::(162,W)::(161,V)::(157,U)::(160,T)::(159,S)::(158,R)::l) l = lc_season_law a b c d e Y g h i j k m n o p q r s t u X w x y z A B C D E F G H I J K L M N O P Q := by intros; rfl
      refine R_nil (tr ..) ?_; clear tr
      refine then_n ?_
      refine at_seq rfl ?_
      refine at_seq rfl ?_
      refine rg rfl ?_
      refine Rq ?_
      refine Rq ?_
      refine Rq ?_
      refine Rp_split (fun h14 => ?_) (fun h14 => ?_)
      ·
       try simp only [decide_eq_true_eq, decide_eq_false_iff_not, Bool.not_eq_true', Bool.not_eq_false', beq_iff_eq, beq_eq_false_iff_ne, ne_eq] at h14
       first | omega | contradiction | exact absurd rfl (by assumption) | exact absurd trivial (by assumption) | (exfalso; simp_all; done)
      ·
       try simp only [decide_eq_true_eq, decide_eq_false_iff_not, Bool.not_eq_true', Bool.not_eq_false', beq_iff_eq, beq_eq_false_iff_ne, ne_eq] at h14
       refine Ry ?_
       refine Rq ?_
       refine Ry ?_
       refine Rq ?_
       refine Ry ?_
       refine Rq ?_
       refine Ry ?_
       refine Rq ?_
       refine Rq ?_
       have tr : ∀ a b c d e f g h i j k m n o p q r s t u v w x y z A B C D E F G H I J K L M N O P Q R S T U V W X Y : AV, let l := lc_season_law a b c d e f g h i j k m n o p q r s t u v w x y z A B C D E F G H I J K L M N O P Q; trim ((170,Y)::(169,X)::(168,W)::(167,V)::(166,U)::(165,T)::(164,S)::(163,R)::l) l = lc_season_law a b c d e f g h i j k m n o p q r s t u v w x y z A B C D E F G H I J K Y M N O P Q := by intros; rfl
       refine R_nil (tr ..) ?_; clear tr
       refine then_n ?_
       refine cdd (fun h15 => ?_) (fun h15 => ?_)
       ·
        try simp only [decide_eq_true_eq, decide_eq_false_iff_not, Bool.not_eq_true', Bool.not_eq_false', beq_iff_eq, beq_eq_false_iff_ne, ne_eq] at h15
        first | omega | contradiction | exact absurd rfl (by assumption) | exact absurd trivial (by assumption) | (exfalso; simp_all; done)
       ·
        try simp only [decide_eq_true_eq, decide_eq_false_iff_not, Bool.not_eq_true', Bool.not_eq_false', beq_iff_eq, beq_eq_false_iff_ne, ne_eq] at h15
        refine at_skip rfl ?_
        refine then_n ?_
        refine at_seq rfl ?_
        refine at_seq rfl ?_
        refine rg rfl ?_
        refine Rq ?_
        refine Rq ?_
        refine Rq ?_
        have tr : ∀ a b c d e f g h i j k m n o p q r s t u v w x y z A B C D E F G H I J K L M N O P Q R S T : AV, let l := lc_season_law a b c d e f g h i j k m n o p q r s t u v w x y z A B C D E F G H I J K L M N O P Q; trim ((173,T)::(172,S)::(171,R)::l) l = lc_season_law a b c d e f g h i j k m n o p q r s t u v w x y z A B C D E F G H I J K L R S T P Q := by intros; rfl
        refine R_nil (tr ..) ?_; clear tr
        refine then_n ?_
        refine at_block rfl ?_
        refine loop_n rfl (fun mm kv H' => ∃ j : Nat, ∃ x4 x26 x27 x174 x210 : AV, (kv = [(4, x4), (26, x26), (27, x27), (173, AV.i (j : Int)), (174, x174), (210, x210)]) ∧ (mm = zs.length - j) ∧ (hget H' HA.length = some (Bo2.map AV.b)) ∧ (hget H' H2.length = some (Bt2.map AV.b)) ∧ (j ≤ zs.length) ∧ (H3.length ≤ H'.length)) ⟨0, _, _, _, _, _, rfl, rfl, by exact qo, by exact qt, by omega, by omega⟩ (by rfl) ?_
        rintro mm kv HN1 ⟨j, x4, x26, x27, x174, x210, rfl, rfl, qo, qt, hj, hHN⟩
        have tr : ∀ a b c d e f g h i j k m n o p q r s t u v w x y z A B C D E F G H I J K L M N O P Q R S T U V W : AV, upd (lc_season_law a b c d e f g h i j k m n o p q r s t u v w x y z A B C D E F G H I J K L M N O P Q) [(4,R),(26,S),(27,T),(173,U),(174,V),(210,W)] = lc_season_law a b R d e f g h i j k m n o p q r s t u v S T y z A B C D E F G H I J K L M N U V W := by intros; rfl
        refine W_to (tr ..) ?_; clear tr
        refine at_seq rfl ?_
        refine rg rfl ?_
        refine Rq ?_
        have tr : ∀ a b c d e f g h i j k m n o p q r s t u v w x y z A B C D E F G H I J K L M N O P Q R : AV, let l := lc_season_law a b c d e f g h i j k m n o p q r s t u v w x y z A B C D E F G H I J K L M N O P Q; trim ((174,R)::l) l = lc_season_law a b c d e f g h i j k m n o p q r s t u v w x y z A B C D E F G H I J K L M N O R Q := by intros; rfl
        refine R_nil (tr ..) ?_; clear tr
        refine then_n ?_
        refine at_seq rfl ?_
        refine cdd (fun h16 => ?_) (fun h16 => ?_)
        ·
         try simp only [decide_eq_true_eq, decide_eq_false_iff_not, Bool.not_eq_true', Bool.not_eq_false', beq_iff_eq, beq_eq_false_iff_ne, ne_eq] at h16
         refine at_skip rfl ?_
         refine then_n ?_
         refine at_seq rfl ?_
         refine at_block rfl ?_
         refine at_seq rfl ?_
         refine rg rfl ?_
         refine Rq ?_
         refine R_q rfl (by simp (disch := first | omega | (simp only [List.length_map, List.length_append, List.length_set, List.length_cons, List.length_nil]; omega)) only [go_sem, ↓reduceIte, Nat.reduceEqDiff, reduceCtorEq, qL, qo, qt, qr, qv, qp, qx, qs] <;> rfl) ?_
         refine A_alloc rfl ?_
         intro HO1 n40
         have en40 := n40.len
         have qo := (n40.old _ (hget_lt qo)).trans qo
         have qt := (n40.old _ (hget_lt qt)).trans qt
         have qs := n40.new
         have lqo := hget_lt qo
         have lqt := hget_lt qt
         have lqs := hget_lt qs
         refine A_store ty51 (by simp (disch := first | omega | (simp only [List.length_map, List.length_append, List.length_set, List.length_cons, List.length_nil]; omega)) only [go_sem, ↓reduceIte, Nat.reduceEqDiff, reduceCtorEq, qo, qt, qs] <;> rfl) (by simp (disch := first | omega | (simp only [List.length_map, List.length_append, List.length_set, List.length_cons, List.length_nil]; omega)) only [go_sem, ↓reduceIte, Nat.reduceEqDiff, reduceCtorEq, qo, qt, qs] <;> rfl) qs ⟨by first | omega | exact Nat.zero_le _, rfl, by first | exact Nat.le_refl _ | (simp; done) | (simp only [List.length_map]; omega)⟩ (k' := stL (gz zs j)) (by first | exact rfl | rfl) ?_
         intro HP1 w40
         have ew40 := w40.len
         have qo := (w40.old _ (by omega)).trans qo
         have qt := (w40.old _ (by omega)).trans qt
         have qs := w40.new
         have tr : ∀ a b c d e f g h i j k m n o p q r s t u v w x y z A B C D E F G H I J K L M N O P Q R S T : AV, let l := lc_season_law a b c d e f g h i j k m n o p q r s t u v w x y z A B C D E F G H I J K L M N O P Q; trim ((26,T)::(176,S)::(175,R)::l) l = lc_season_law a b c d e f g h i j k m n o p q r s t u v T x y z A B C D E F G H I J K L M N O P Q := by intros; rfl
         refine R_nil (tr ..) ?_; clear tr
         refine then_n ?_
         refine at_seq rfl ?_
         refine rd rfl rfl ?_
         refine Qq ?_
         refine Q_q rfl (by simp (disch := first | omega | (simp only [List.length_map, List.length_append, List.length_set, List.length_cons, List.length_nil]; omega)) only [go_sem, ↓reduceIte, Nat.reduceEqDiff, reduceCtorEq, qL, qo, qt, qr, qv, qp, qx, qs] <;> rfl) ?_
         refine Qq ?_
         refine Qq ?_
         refine Qq ?_
         refine Q_q (r := AV.i (gz zs 0).pt) rfl (by simp (disch := first | omega | (simp only [List.length_map, List.length_append, List.length_set, List.length_cons, List.length_nil]; omega)) only [go_sem, ↓reduceIte, Nat.reduceEqDiff, reduceCtorEq, qs] <;> exact st_pt0 zs (by omega)) ?_
         refine Qq ?_
         refine Qq ?_
         refine Q_nil ?_
         have tr : ∀ a b c d e f g h i j k m n o p q r s t u v w x y z A B C D E F G H I J K L M N O P Q R S T U V W X Y : AV, let l := lc_season_law a b c d e f g h i j k m n o p q r s t u v w x y z A B C D E F G H I J K L M N O P Q; trim ((27,Y)::(183,X)::(182,W)::(181,V)::(180,U)::(179,T)::(178,S)::(177,R)::l) l = lc_season_law a b c d e f g h i j k m n o p q r s t u v w Y y z A B C D E F G H I J K L M N O P Q := by intros; rfl
         refine R_nil (tr ..) ?_; clear tr
         refine then_n ?_
         refine at_seq rfl ?_
         refine rg rfl ?_
         have hfr := fin_row S hI2 (by omega) (j := j) (by rw [← hzs]; omega)
         rewrite [← hzs] at hfr
         obtain ⟨hjt, hfo, hft⟩ := hfr
         have hfo2 : ((gz zs j).pt == (gz zs 0).pt) = !gt Bo2 (gz zs j).tm.toNat := hfo
         have hft2 : ((gz zs j).pt == (gz zs 0).pt) = gt Bt2 (gz zs j).tm.toNat := hft
         have hBo := hI2.1
         have hBt := hI2.2.1
         refine Rq ?_
         refine R_q rfl (by simp (disch := first | omega | (simp only [List.length_map, List.length_append, List.length_set, List.length_cons, List.length_nil]; omega)) only [go_sem, ↓reduceIte, Nat.reduceEqDiff, reduceCtorEq, qL, qo, qt, qr, qv, qp, qx, qs] <;> rfl) ?_
         refine Rq ?_
         refine Rq ?_
         refine Rp_split (fun h17 => ?_) (fun h17 => ?_)
         ·
          try simp only [decide_eq_true_eq, decide_eq_false_iff_not, Bool.not_eq_true', Bool.not_eq_false', beq_iff_eq, beq_eq_false_iff_ne, ne_eq] at h17
          first | omega | contradiction | exact absurd rfl (by assumption) | exact absurd trivial (by assumption) | (exfalso; simp_all; done)
         ·
          try simp only [decide_eq_true_eq, decide_eq_false_iff_not, Bool.not_eq_true', Bool.not_eq_false', beq_iff_eq, beq_eq_false_iff_ne, ne_eq] at h17
          refine Ry ?_
          refine Rq ?_
          refine Ry ?_
          refine R_q rfl (by simp (disch := first | omega | (simp only [List.length_map, List.length_append, List.length_set, List.length_cons, List.length_nil]; omega)) only [go_sem, ↓reduceIte, Nat.reduceEqDiff, reduceCtorEq, qL, qo, qt, qr, qv, qp, qx, qs] <;> rfl) ?_
          refine Ry ?_
          refine Rq ?_
          refine Ry ?_
          refine Rq ?_
          refine Rq ?_
          refine Rq ?_
          refine Rp_split (fun h18 => ?_) (fun h18 => ?_)
          ·
           try simp only [decide_eq_true_eq, decide_eq_false_iff_not, Bool.not_eq_true', Bool.not_eq_false', beq_iff_eq, beq_eq_false_iff_ne, ne_eq] at h18
           first | omega | contradiction | exact absurd rfl (by assumption) | exact absurd trivial (by assumption) | (exfalso; simp_all; done)
          ·
           try simp only [decide_eq_true_eq, decide_eq_false_iff_not, Bool.not_eq_true', Bool.not_eq_false', beq_iff_eq, beq_eq_false_iff_ne, ne_eq] at h18
           refine Ry ?_
           refine Rq ?_
           refine Ry ?_
           refine Rq ?_
           refine Ry ?_
           refine Rq ?_
           refine Ry ?_
           refine R_q rfl (by simp (disch := first | omega | (simp only [List.length_map, List.length_append, List.length_set, List.length_cons, List.length_nil]; omega)) only [go_sem, ↓reduceIte, Nat.reduceEqDiff, reduceCtorEq, qL, qo, qt, qr, qv, qp, qx, qs] <;> rfl) ?_
           refine Ry ?_
           refine Rq ?_
           refine Ry ?_
           refine R_q rfl (by simp (disch := first | omega | (simp only [List.length_map, List.length_append, List.length_set, List.length_cons, List.length_nil]; omega)) only [go_sem, ↓reduceIte, Nat.reduceEqDiff, reduceCtorEq, qL, qo, qt, qr, qv, qp, qx, qs] <;> rfl) ?_
           refine Ry ?_
           refine Rq ?_
           refine Rq ?_
           refine Rq ?_
           refine Rp_split (fun h19 => ?_) (fun h19 => ?_)
           ·
            try simp only [decide_eq_true_eq, decide_eq_false_iff_not, Bool.not_eq_true', Bool.not_eq_false', beq_iff_eq, beq_eq_false_iff_ne, ne_eq] at h19
            exact absurd (hfo2.symm.trans (by assumption)) (by cases gt Bo2 (gz zs j).tm.toNat <;> decide)
           ·
            try simp only [decide_eq_true_eq, decide_eq_false_iff_not, Bool.not_eq_true', Bool.not_eq_false', beq_iff_eq, beq_eq_false_iff_ne, ne_eq] at h19
            refine Ry ?_
            refine Rq ?_
            refine Ry ?_
            refine Rq ?_
            refine Ry ?_
            refine Rq ?_
            refine Ry ?_
            refine R_q rfl (by simp (disch := first | omega | (simp only [List.length_map, List.length_append, List.length_set, List.length_cons, List.length_nil]; omega)) only [go_sem, ↓reduceIte, Nat.reduceEqDiff, reduceCtorEq, qL, qo, qt, qr, qv, qp, qx, qs] <;> rfl) ?_
            refine Ry ?_
            refine Rq ?_
            refine Ry ?_
            refine R_q rfl (by simp (disch := first | omega | (simp only [List.length_map, List.length_append, List.length_set, List.length_cons, List.length_nil]; omega)) only [go_sem, ↓reduceIte, Nat.reduceEqDiff, reduceCtorEq, qL, qo, qt, qr, qv, qp, qx, qs] <;> rfl) ?_
            refine Ry ?_
            refine Rq ?_
            refine Rq ?_
            have tr : ∀ a b c d e f g h i j k m n o p q r s t u v w x y z A B C D E F G H I J K L M N O P Q R S T U V W X Y Z a1 b1 c1 d1 e1 f1 g1 h1 i1 j1 k1 m1 n1 o1 p1 q1 r1 s1 : AV, let l := lc_season_law a b c d e f g h i j k m n o p q r s t u v w x y z A B C D E F G H I J K L M N O P Q; trim ((210,s1)::(209,r1)::(208,q1)::(207,p1)::(206,o1)::(205,n1)::(204,m1)::(203,k1)::(202,j1)::(201,i1)::(200,h1)::(199,g1)::(198,f1)::(197,e1)::(196,d1)::(195,c1)::(194,b1)::(193,a1)::(192,Z)::(191,Y)::(190,X)::(189,W)::(188,V)::(187,U)::(186,T)::(185,S)::(184,R)::l) l = lc_season_law a b c d e f g h i j k m n o p q r s t u v w x y z A B C D E F G H I J K L M N O P s1 := by intros; rfl
            refine R_nil (tr ..) ?_; clear tr
            refine then_n ?_
            refine cdd (fun h20 => ?_) (fun h20 => ?_)
            ·
             try simp only [decide_eq_true_eq, decide_eq_false_iff_not, Bool.not_eq_true', Bool.not_eq_false', beq_iff_eq, beq_eq_false_iff_ne, ne_eq] at h20
             exact absurd hft2 (by assumption)
            ·
             try simp only [decide_eq_true_eq, decide_eq_false_iff_not, Bool.not_eq_true', Bool.not_eq_false', beq_iff_eq, beq_eq_false_iff_ne, ne_eq] at h20
             refine at_skip rfl ?_
             refine blk_n ?_
             refine then_n ?_
             refine rg rfl ?_
             refine Rq ?_
             refine Rq ?_
             have tr : ∀ a b c d e f g h i j k m n o p q r s t u v w x y z A B C D E F G H I J K L M N O P Q R S : AV, let l := lc_season_law a b c d e f g h i j k m n o p q r s t u v w x y z A B C D E F G H I J K L M N O P Q; trim ((173,S)::(211,R)::l) l = lc_season_law a b c d e f g h i j k m n o p q r s t u v w x y z A B C D E F G H I J K L M N S P Q := by intros; rfl
             refine R_nil (tr ..) ?_; clear tr
             refine then_n ?_
             exact ⟨_, _, ⟨j + 1, _, _, _, _, _, rfl, rfl, by exact qo, by exact qt, by omega, by (show H3.length ≤ HP1.length; omega)⟩, by rfl, by omega⟩
        ·
         try simp only [decide_eq_true_eq, decide_eq_false_iff_not, Bool.not_eq_true', Bool.not_eq_false', beq_iff_eq, beq_eq_false_iff_ne, ne_eq] at h16
         refine at_exit rfl ?_
         refine then_x ?_
         refine then_x ?_
         refine blk_x ?_
         refine then_n ?_
         refine at_seq rfl ?_
         refine rg rfl ?_
         refine Rq ?_
         have tr : ∀ a b c d e f g h i j k m n o p q r s t u v w x y z A B C D E F G H I J K L M N O P Q R : AV, let l := lc_season_law a b c d e f g h i j k m n o p q r s t u v w x y z A B C D E F G H I J K L M N O P Q; trim ((4,R)::l) l = lc_season_law a b R d e f g h i j k m n o p q r s t u v w x y z A B C D E F G H I J K L M N O P Q := by intros; rfl
         refine R_nil (tr ..) ?_; clear tr
         refine then_n ?_
         refine at_ret rfl ?_
         refine fpure ?_
         first | rfl | simp
     ·
      try simp only [decide_eq_true_eq, decide_eq_false_iff_not, Bool.not_eq_true', Bool.not_eq_false', beq_iff_eq, beq_eq_false_iff_ne, ne_eq] at h13
      refine at_skip rfl ?_
      refine then_n ?_
      refine at_seq rfl ?_
      refine rl rfl rfl ?_
      refine Lq ?_
      refine Lq ?_
      refine Lq ?_
      refine Lq ?_
      refine L_q (r := AV.i (gt Q i).a) rfl (by simp (disch := first | omega | (simp only [List.length_map, List.length_append, List.length_set, List.length_cons, List.length_nil]; omega)) only [go_sem, ↓reduceIte, Nat.reduceEqDiff, reduceCtorEq, qL] <;> exact pr_at0 Q i (by omega)) rfl ?_
      refine Lq ?_
      refine Lq ?_
      refine Lq ?_
      refine Lq ?_
      refine L_q (r := AV.i (gt Q i).b) rfl (by simp (disch := first | omega | (simp only [List.length_map, List.length_append, List.length_set, List.length_cons, List.length_nil]; omega)) only [go_sem, ↓reduceIte, Nat.reduceEqDiff, reduceCtorEq, qL] <;> exact pr_at1 Q i (by omega)) rfl ?_
      refine Lq ?_
      refine L_nil ?_
      refine Ms ?_
      have hY1 := hY
      refine A_alloc rfl ?_
      intro HJ1 n31
      have en31 := n31.len
      have qL := (n31.old _ (hget_lt qL)).trans qL
      have qo := (n31.old _ (hget_lt qo)).trans qo
      have qt := (n31.old _ (hget_lt qt)).trans qt
      have qp := n31.new
      refine R_end ?_
      refine M_nil ?_
      have lqL := hget_lt qL
      have lqo := hget_lt qo
      have lqt := hget_lt qt
      have lqp := hget_lt qp
      refine A_store ty46 (by simp (disch := first | omega | (simp only [List.length_map, List.length_append, List.length_set, List.length_cons, List.length_nil]; omega)) only [go_sem, ↓reduceIte, Nat.reduceEqDiff, reduceCtorEq, qL, qo, qt, qp] <;> rfl) (by simp (disch := first | omega | (simp only [List.length_map, List.length_append, List.length_set, List.length_cons, List.length_nil]; omega)) only [go_sem, ↓reduceIte, Nat.reduceEqDiff, reduceCtorEq, qL, qo, qt, qp] <;> rfl) qp ⟨by first | omega | exact Nat.zero_le _, rfl, by first | exact Nat.le_refl _ | (simp; done) | (simp only [List.length_map]; omega)⟩ (k' := plC ⟨(gt Q i).a, (gt Q i).b, 0, 0, 0, 0, 0, false⟩) (by first | exact rfl | rfl) ?_
      intro HK1 w31
      have ew31 := w31.len
      have qL := (w31.old _ (by omega)).trans qL
      have qo := (w31.old _ (by omega)).trans qo
      have qt := (w31.old _ (by omega)).trans qt
      have qp := w31.new
      have hY := hY1.but fun b k h3 hb => (w31.old b (by have := hget_lt hb; omega)).trans (n31.old b (hget_lt hb))
      have hYlt : ∀ b k, H3.length ≤ b → hget HE1 b = some k → b < HE1.length := fun b k _ hb => hget_lt hb
      have tr : ∀ a b c d e f g h i j k m n o p q r s t u v w x y z A B C D E F G H I J K L M N O P Q R S T U V W X Y Z a1 b1 c1 : AV, let l := lc_season_law a b c d e f g h i j k m n o p q r s t u v w x y z A B C D E F G H I J K L M N O P Q; trim ((23,c1)::(141,b1)::(140,a1)::(139,Z)::(138,Y)::(137,X)::(136,W)::(135,V)::(134,U)::(133,T)::(132,S)::(131,R)::l) l = lc_season_law a b c d e f g h i j k m n o p q r s t c1 v w x y z A B C D E F G H I J K L M N O P Q := by intros; rfl
      refine R_nil (tr ..) ?_; clear tr
      refine then_n ?_
      refine at_seq rfl ?_
      refine at_seq rfl ?_
      refine rg rfl ?_
      refine Rq ?_
      refine Rq ?_
      refine Rq ?_
      refine Rq ?_
      have tr : ∀ a b c d e f g h i j k m n o p q r s t u v w x y z A B C D E F G H I J K L M N O P Q R S T U : AV, let l := lc_season_law a b c d e f g h i j k m n o p q r s t u v w x y z A B C D E F G H I J K L M N O P Q; trim ((145,U)::(144,T)::(143,S)::(142,R)::l) l = lc_season_law a b c d e f g h i j k m n o p q r s t u v w x y z A B C D E F G H I J U L M N O P Q := by intros; rfl
      refine R_nil (tr ..) ?_; clear tr
      refine then_n ?_
      refine cdd (fun h21 => ?_) (fun h21 => ?_)
      ·
       try simp only [decide_eq_true_eq, decide_eq_false_iff_not, Bool.not_eq_true', Bool.not_eq_false', beq_iff_eq, beq_eq_false_iff_ne, ne_eq] at h21
       refine rg rfl ?_
       refine Rq ?_
       refine Rq ?_
       refine Rq ?_
       have hwi := hW i (by omega)
       refine R_q (r := .v (.int .u8 (gt W i))) rfl (by simp (disch := first | omega | (simp only [List.length_map, List.length_append, List.length_set, List.length_cons, List.length_nil]; omega)) only [go_sem, ↓reduceIte, Nat.reduceEqDiff, reduceCtorEq] <;> exact ws_at W i (by omega)) ?_
       refine Rq ?_
       refine Rq ?_
       refine Rq ?_
       have lqL := hget_lt qL
       have lqo := hget_lt qo
       have lqt := hget_lt qt
       have lqp := hget_lt qp
       refine A_store ty3 (by simp (disch := first | omega | (simp only [List.length_map, List.length_append, List.length_set, List.length_cons, List.length_nil]; omega)) only [go_sem, ↓reduceIte, Nat.reduceEqDiff, reduceCtorEq, qL, qo, qt, qp] <;> rfl) (by simp (disch := first | omega | (simp only [List.length_map, List.length_append, List.length_set, List.length_cons, List.length_nil]; omega)) only [go_sem, ↓reduceIte, Nat.reduceEqDiff, reduceCtorEq, qL, qo, qt, qp] <;> rfl) qp ⟨by first | omega | exact Nat.zero_le _, rfl, by first | exact Nat.le_refl _ | (simp; done) | (simp only [List.length_map]; omega)⟩ (k' := plC ⟨(gt Q i).a, (gt Q i).b, 0, 0, 0, 0, gt W i % 3, false⟩) (by first | exact rfl | rfl) ?_
       intro HK2 w33
       have ew33 := w33.len
       have qL := (w33.old _ (by omega)).trans qL
       have qo := (w33.old _ (by omega)).trans qo
       have qt := (w33.old _ (by omega)).trans qt
       have qp := w33.new
       have hY := hY1.but fun b k h3 hb => (w33.old b (by have := hget_lt hb; omega)).trans ((w31.old b (by have := hget_lt hb; omega)).trans (n31.old b (hget_lt hb)))
       have tr : ∀ a b c d e f g h i j k m n o p q r s t u v w x y z A B C D E F G H I J K L M N O P Q R S T U V W X : AV, let l := lc_season_law a b c d e f g h i j k m n o p q r s t u v w x y z A B C D E F G H I J K L M N O P Q; trim ((152,X)::(151,W)::(150,V)::(149,U)::(148,T)::(147,S)::(146,R)::l) l = lc_season_law a b c d e f g h i j k m n o p q r s t u v w x y z A B C D E F G H I J K L M N O P Q := by intros; rfl
       refine R_nil (tr ..) ?_; clear tr
       refine then_n ?_
       refine rg rfl ?_
       rewrite [win_t' (Q := Q) (W := W) (i := i) (by omega)] at qp
       refine Rq ?_
       refine R_q (r := .agg (plC (plA Q W i))) rfl (by simp (disch := first | omega | (simp only [List.length_map, List.length_append, List.length_set, List.length_cons, List.length_nil]; omega)) only [go_sem, ↓reduceIte, Nat.reduceEqDiff, reduceCtorEq, qp] <;> rfl) ?_
       refine A_buildSlice (bs32o (p := plA Q W i) (by simp (disch := first | omega | (simp only [List.length_map, List.length_append, List.length_set, List.length_cons, List.length_nil]; omega)) only [go_sem, ↓reduceIte, Nat.reduceEqDiff, reduceCtorEq] <;> rfl)) ?_
       intro HL1 n34
       have en34 := n34.len
       have qL := (n34.old _ (hget_lt qL)).trans qL
       have qo := (n34.old _ (hget_lt qo)).trans qo
       have qt := (n34.old _ (hget_lt qt)).trans qt
       have qz := n34.new
       have hY := hY.new n34
       have lqL := hget_lt qL
       have lqo := hget_lt qo
       have lqt := hget_lt qt
       obtain ⟨bb, hbb, HM0, hap, hg⟩ := apL2 (lim := 0) hY (Nat.zero_le _) (by omega) qz (by omega)
       refine A_append ⟨HM0, by simp (disch := first | omega | (simp only [List.length_map, List.length_append, List.length_set, List.length_cons, List.length_nil]; omega)) only [go_sem, ↓reduceIte, Nat.reduceEqDiff, reduceCtorEq]; exact hap, hg⟩ ?_
       intro HM1 g34
       have eg34 := g34.len
       have qL := (g34.old _ (by omega) lqL).trans qL
       have qo := (g34.old _ (by omega) lqo).trans qo
       have qt := (g34.old _ (by omega) lqt).trans qt
       have qD := g34.new
       rewrite [← plN_succ] at qD
       refine Rq ?_
       have tr : ∀ a b c d e f g h i j k m n o p q r s t u v w x y z A B C D E F G H I J K L M N O P Q R S T U V : AV, let l := lc_season_law a b c d e f g h i j k m n o p q r s t u v w x y z A B C D E F G H I J K L M N O P Q; trim ((11,V)::(156,U)::(155,T)::(154,S)::(153,R)::l) l = lc_season_law a b c d e f g h V j k m n o p q r s t u v w x y z A B C D E F G H I J K L M N O P Q := by intros; rfl
       refine R_nil (tr ..) ?_; clear tr
       refine blk_n ?_
       refine then_n ?_
       refine rg rfl ?_
       refine Rq ?_
       refine Rq ?_
       refine Rq ?_
       have tr : ∀ a b c d e f g h i j k m n o p q r s t u v w x y z A B C D E F G H I J K L M N O P Q R S T : AV, let l := lc_season_law a b c d e f g h i j k m n o p q r s t u v w x y z A B C D E F G H I J K L M N O P Q; trim ((14,T)::(61,S)::(60,R)::l) l = lc_season_law a b c d e f g h i j k T n o p q r s t u v w x y z A B C D E F G H I J K L M N O P Q := by intros; rfl
       refine R_nil (tr ..) ?_; clear tr
       refine then_n ?_
       exact ⟨_, _, ⟨i + 1, .own 8 HL1.length 0 (i + 1), Bo2, Bt2, _, _, _, _, _, _, _, _, _, _, _, _, _, _, _, _, rfl, rfl, by exact qL, by exact qo, by exact qt, by exact OutL.grown qD (by omega) (plN_len _ _ _).symm (by omega), by omega, by exact inv_next S hI2 (by omega) (by omega), by (show H3.length ≤ HM1.length; omega)⟩, by rfl, by omega⟩
      ·
       try simp only [decide_eq_true_eq, decide_eq_false_iff_not, Bool.not_eq_true', Bool.not_eq_false', beq_iff_eq, beq_eq_false_iff_ne, ne_eq] at h21
       refine at_skip rfl ?_
       refine then_n ?_
       refine rg rfl ?_
       rewrite [win_f' (Q := Q) (W := W) (i := i) (by omega)] at qp
       refine Rq ?_
       refine R_q (r := .agg (plC (plA Q W i))) rfl (by simp (disch := first | omega | (simp only [List.length_map, List.length_append, List.length_set, List.length_cons, List.length_nil]; omega)) only [go_sem, ↓reduceIte, Nat.reduceEqDiff, reduceCtorEq, qp] <;> rfl) ?_
       refine A_buildSlice (bs32o (p := plA Q W i) (by simp (disch := first | omega | (simp only [List.length_map, List.length_append, List.length_set, List.length_cons, List.length_nil]; omega)) only [go_sem, ↓reduceIte, Nat.reduceEqDiff, reduceCtorEq] <;> rfl)) ?_
       intro HL1 n34
       have en34 := n34.len
       have qL := (n34.old _ (hget_lt qL)).trans qL
       have qo := (n34.old _ (hget_lt qo)).trans qo
       have qt := (n34.old _ (hget_lt qt)).trans qt
       have qz := n34.new
       have hY := hY.new n34
       have lqL := hget_lt qL
       have lqo := hget_lt qo
       have lqt := hget_lt qt
       obtain ⟨bb, hbb, HM0, hap, hg⟩ := apL2 (lim := 0) hY (Nat.zero_le _) (by omega) qz (by omega)
       refine A_append ⟨HM0, by simp (disch := first | omega | (simp only [List.length_map, List.length_append, List.length_set, List.length_cons, List.length_nil]; omega)) only [go_sem, ↓reduceIte, Nat.reduceEqDiff, reduceCtorEq]; exact hap, hg⟩ ?_
       intro HM1 g34
       have eg34 := g34.len
       have qL := (g34.old _ (by omega) lqL).trans qL
       have qo := (g34.old _ (by omega) lqo).trans qo
       have qt := (g34.old _ (by omega) lqt).trans qt
       have qD := g34.new
       rewrite [← plN_succ] at qD
       refine Rq ?_
       have tr : ∀ a b c d e f g h i j k m n o p q r s t u v w x y z A B C D E F G H I J K L M N O P Q R S T U V : AV, let l := lc_season_law a b c d e f g h i j k m n o p q r s t u v w x y z A B C D E F G H I J K L M N O P Q; trim ((11,V)::(156,U)::(155,T)::(154,S)::(153,R)::l) l = lc_season_law a b c d e f g h V j k m n o p q r s t u v w x y z A B C D E F G H I J K L M N O P Q := by intros; rfl
       refine R_nil (tr ..) ?_; clear tr
       refine blk_n ?_
       refine then_n ?_
       refine rg rfl ?_
       refine Rq ?_
       refine Rq ?_
       refine Rq ?_
       have tr : ∀ a b c d e f g h i j k m n o p q r s t u v w x y z A B C D E F G H I J K L M N O P Q R S T : AV, let l := lc_season_law a b c d e f g h i j k m n o p q r s t u v w x y z A B C D E F G H I J K L M N O P Q; trim ((14,T)::(61,S)::(60,R)::l) l = lc_season_law a b c d e f g h i j k T n o p q r s t u v w x y z A B C D E F G H I J K L M N O P Q := by intros; rfl
       refine R_nil (tr ..) ?_; clear tr
       refine then_n ?_
       exact ⟨_, _, ⟨i + 1, .own 8 HL1.length 0 (i + 1), Bo2, Bt2, _, _, _, _, _, _, _, _, _, _, _, _, _, _, _, _, rfl, rfl, by exact qL, by exact qo, by exact qt, by exact OutL.grown qD (by omega) (plN_len _ _ _).symm (by omega), by omega, by exact inv_next S hI2 (by omega) (by omega), by (show H3.length ≤ HM1.length; omega)⟩, by rfl, by omega⟩

end Go.Proofs.Ytdmeioppkannlaa
end
section
namespace Go.Am
open Go
section
variable {H : Type} {enc : TypeId × Value → H} {P : Program} {w : World} {held : Bool}

abbrev In (w : World) : Nat → Prop := fun k => k < w.heap.size

theorem cell_lt {w : World} {a : Addr} {v : Value} (h : w.cell? a = some v) : a.block < w.heap.size := by
  unfold World.cell? at h
  by_cases hb : a.block < w.heap.size
  · exact hb
  · rw [Array.getElem?_eq_none (by omega)] at h
    simp at h

end
end Go.Am
end
section
namespace Go.Am
open Go Go.WideShapes
section
variable {P : Program} {w : World}

def DLs (w : World) (l : List AV) (cs : List Value) : Prop := cs.length = l.length ∧ ∀ (j : Nat) (a : AV) (v : Value), l[j]? = some a → cs[j]? = some v → Den [] (In w) w a v

def Opens (P : Program) (t : TypeId) {α : Type} (f : α → List AV) : Prop :=
  ∀ (H : Type) (enc : TypeId × Value → H) (w : World) (held : Bool) (n : Nat) (cs : List Value) (x : DataW H × List MemPlace), DataW.trod enc P w 0 (fun _ => true) held n t cs = some x → ∃ d : α, DLs w (f d) cs

theorem dls_one {a : AV} {v : Value} (h : Den [] (In w) w a v) : DLs w [a] [v] := ⟨rfl, fun j x y hx hy => by
  match j, hx, hy with
  | 0, hx, hy => cases hx; cases hy; exact h⟩

abbrev I64 := {x : Int // -9223372036854775808 ≤ x ∧ x ≤ 9223372036854775807}
abbrev U16 := {x : Int // 0 ≤ x ∧ x ≤ 65535}
abbrev U8 := {x : Int // 0 ≤ x ∧ x ≤ 255}
abbrev U64 := {x : Int // 0 ≤ x ∧ x ≤ 18446744073709551615}
theorem opens_u8 {t : TypeId} (ht : P.underlying t = some (.int .u8)) : Opens P t (fun d : U8 => [.v (.int .u8 d.val)]) := by
  intro H enc w held n cs x h
  obtain ⟨m, rfl, _, hw⟩ := DataW.trod_int ht h
  simp only [Lit.wf, decide_eq_true_eq, Bool.and_eq_true] at hw
  exact ⟨⟨m, hw⟩, dls_one (.v _)⟩
abbrev Str := {s : ByteArray // s.size ≤ 9223372036854775807}
theorem flat_uni {α : Type} {f : α → List AV} {z : Nat} (hf : ∀ d, (f d).length = z) : ∀ (l : List α) (i k : Nat) (hi : i < l.length), k < z → (l.map f).flatten[i * z + k]? = (f l[i])[k]?
  | [], i, k, hi, _ => by simp at hi
  | d :: l, 0, k, _, hk => by
    rw [List.map_cons, List.flatten_cons, Nat.zero_mul, Nat.zero_add, List.getElem?_append_left (by rw [hf]; exact hk)]
    rfl
  | d :: l, i + 1, k, hi, hk => by
    rw [List.map_cons, List.flatten_cons, List.getElem?_append_right (by rw [hf, Nat.succ_mul]; omega), hf]
    rw [show (i + 1) * z + k - z = i * z + k by rw [Nat.succ_mul]; omega, flat_uni hf l i k (by simpa using hi) hk]
    rfl
theorem flat_unilen {α : Type} {f : α → List AV} {z : Nat} (hf : ∀ d, (f d).length = z) (l : List α) : (l.map f).flatten.length = l.length * z := by
  induction l with
  | nil => simp
  | cons d l ih => rw [List.map_cons, List.flatten_cons, List.length_append, ih, hf, List.length_cons, Nat.succ_mul]; omega

theorem opens_slice {α : Type} {f : α → List AV} {t e : TypeId} {z : Nat} (ht : P.underlying t = some (.slice e)) (hc : P.cellsOf e = z) (hz : 0 < z) (he : Opens P e f) (hf : ∀ d, (f d).length = z) :
    Opens P t (fun l : List α => [.sl l.length (l.map f).flatten]) := by
  intro H enc w held n cs x h
  rcases DataW.trod_slice ht h with ⟨rfl, _⟩ | ⟨a, len, cap, elems, rest, n, _, rfl, _, _, hl, hm, hlen, hel, hsp, _⟩
  · exact ⟨[], dls_one (.sl0 _ _)⟩
  · have get : ∀ i, i < cap → ∃ d cs', (∀ k, k < z → ∃ c, cs'[k]? = some c ∧ w.cell? ((a.add (i * z)).add k) = some c) ∧ DLs w (f d) cs' := by
      intro i hi
      have hb : ∃ y, (w.cells? 0 (a.add (i * P.cellsOf e)) (P.cellsOf e)).bind (DataW.trod enc P w 0 (fun _ => true) held n e) = some y := by
        by_cases h1 : i < len
        · exact ⟨elems[i]'(by omega), by rw [hel i h1, List.getElem?_eq_getElem (by omega)]⟩
        · obtain ⟨hr, hrr⟩ := hsp rfl
          have := hrr (i - len) (by omega)
          rw [show len + (i - len) = i by omega] at this
          exact ⟨rest[i - len]'(by omega), by rw [this, List.getElem?_eq_getElem (by omega)]⟩
      obtain ⟨y, hy⟩ := hb
      rw [hc, Option.bind_eq_some_iff] at hy
      obtain ⟨cs', hcs, hy'⟩ := hy
      obtain ⟨d, hd⟩ := he H enc w held _ _ _ hy'
      refine ⟨d, cs', fun k hk => ?_, hd⟩
      unfold World.cells? at hcs
      rw [if_pos (Nat.zero_le _)] at hcs
      have hk1 := mapM_some_length hcs
      rw [List.length_range] at hk1
      have := mapM_some_get hcs k k (by simp [hk])
      exact ⟨cs'[k]'(by omega), List.getElem?_eq_getElem (by omega), by rw [this, List.getElem?_eq_getElem (by omega)]⟩
    by_cases h0 : cap = 0
    · subst h0
      have : len = 0 := by omega
      subst this
      exact ⟨[], dls_one (.sl0 _ _)⟩
    · obtain ⟨d0, cs0, hc0, _⟩ := get 0 (by omega)
      obtain ⟨c0, _, hcc⟩ := hc0 0 hz
      have e00 : (a.add (0 * z)).add 0 = a := by simp [Addr.add]
      rw [e00] at hcc
      have hs : a.spot = none := World.cell?_spot hcc
      have hb : a.block < w.heap.size := cell_lt hcc
      have ad : ∀ i, a.add i = ⟨a.block, a.off + i, none⟩ := by
        intro i
        obtain ⟨ab, ao, asp⟩ := a
        simp only at hs
        subst hs
        simp only [Addr.add]
        split
        · rename_i hi; rw [hi]; rfl
        · rfl
      have ad2 : ∀ i k, (a.add i).add k = ⟨a.block, a.off + (i + k), none⟩ := by
        intro i k
        rw [ad i]
        simp only [Addr.add]
        split
        · rename_i hi; rw [hi]; simp
        · simp
      have pick : ∀ i, ∃ d : α, i < len → ∃ cs', (∀ k, k < z → ∃ c, cs'[k]? = some c ∧ w.cell? ⟨a.block, a.off + (i * z + k), none⟩ = some c) ∧ DLs w (f d) cs' := by
        intro i
        by_cases hi : i < len
        · obtain ⟨d, cs', h1, h2⟩ := get i (by omega)
          exact ⟨d, fun _ => ⟨cs', fun k hk => by obtain ⟨c, h3, h4⟩ := h1 k hk; exact ⟨c, h3, by rw [← ad2]; exact h4⟩, h2⟩⟩
        · exact ⟨d0, fun h => absurd h hi⟩
      let D : Nat → α := fun i => (pick i).choose
      have hD : ∀ i, i < len → ∃ cs', (∀ k, k < z → ∃ c, cs'[k]? = some c ∧ w.cell? ⟨a.block, a.off + (i * z + k), none⟩ = some c) ∧ DLs w (f (D i)) cs' := fun i => (pick i).choose_spec
      refine ⟨(List.range len).map D, dls_one ?_⟩
      have hlen2 : ((List.range len).map D).length = len := by simp
      have key : ∀ (j : Nat) (x : AV), (((List.range len).map D).map f).flatten[j]? = some x → ∃ c, w.cell? ⟨a.block, a.off + j, none⟩ = some c ∧ Den [] (In w) w x c := by
        intro j x hx
        have hj : j < len * z := by
          have h1 := (List.getElem?_eq_some_iff.1 hx).1
          rw [flat_unilen hf, hlen2] at h1
          exact h1
        have hdiv : j / z < len := Nat.div_lt_of_lt_mul (by rw [Nat.mul_comm]; exact hj)
        have hmod : j % z < z := Nat.mod_lt _ hz
        have hjj : j / z * z + j % z = j := by rw [Nat.mul_comm]; exact Nat.div_add_mod j z
        have h2 := flat_uni hf ((List.range len).map D) (j / z) (j % z) (by rw [hlen2]; exact hdiv) hmod
        rw [hjj] at h2
        rw [h2] at hx
        simp only [List.getElem_map, List.getElem_range] at hx
        obtain ⟨cs', h3, h4⟩ := hD (j / z) hdiv
        obtain ⟨c, h5, h6⟩ := h3 (j % z) hmod
        rw [hjj] at h6
        exact ⟨c, h6, h4.2 _ _ _ hx h5⟩
      have ha : a = ⟨a.block, a.off, none⟩ := by obtain ⟨ab, ao, asp⟩ := a; simp only at hs; subst hs; rfl
      rw [hlen2]
      refine Den.sl (I := In w) _ _ cap a (fun j => (w.cell? ⟨a.block, a.off + j, none⟩).getD undef) hl hm hs hb ?_ ?_
      · intro j x hx
        obtain ⟨c, h1, _⟩ := key j x hx
        rw [h1]; rfl
      · intro j x hx
        obtain ⟨c, h1, h2⟩ := key j x hx
        rw [h1]; exact h2

end
end Go.Am
end
section
set_option linter.unusedVariables false
namespace Go.Proofs.Ytdmeioppkannlaa
open Go Go.Am

instance : Inhabited I64 := ⟨⟨0, by decide⟩⟩
instance : Inhabited Str := ⟨⟨⟨#[]⟩, by decide⟩⟩
instance : Inhabited U16 := ⟨⟨0, by decide⟩⟩
instance : Inhabited U8 := ⟨⟨0, by decide⟩⟩
theorem flat_one {α : Type} (g : α → AV) (l : List α) : (l.map fun d => [g d]).flatten = l.map g := by induction l with | nil => rfl | cons a l ih => rw [List.map_cons, List.flatten_cons, ih]; rfl
theorem co5 : Try.prog.cellsOf 5 = 1 := by kernel_rfl
abbrev D5 := U8
abbrev c5 : D5 → List AV := fun d => [.v (.int .u8 d.val)]
theorem cl5 (d : D5) : (c5 d).length = 1 := rfl
theorem opens5 : Opens Try.prog 5 c5 := opens_u8 Try.underlying5
abbrev D22 := List D5
abbrev c22 : D22 → List AV := fun l => [.sl l.length (l.map c5).flatten]
theorem opens22 : Opens Try.prog 22 c22 := opens_slice Try.underlying22 co5 (by decide) opens5 cl5
end Go.Proofs.Ytdmeioppkannlaa
end
section
set_option linter.unusedVariables false
set_option linter.unusedSimpArgs false
set_option maxRecDepth 10000
namespace Go.Proofs.Ytdmeioppkannlaa
open Go Go.Am Go.ChangeShapes Go.WideShapes Go.ChangeAt Go.RowKit
theorem c22_eq (d : D22) : c22 d = [wsAV (d.map fun x => x.val)] := by
  show [AV.sl d.length (d.map c5).flatten] = _
  rw [wsAV, List.length_map, List.map_map, show (d.map c5).flatten = d.map fun x => AV.v (.int .u8 x.val) from flat_one _ _]
  rfl
section
variable {H : Type} {enc : TypeId × Value → H} {W : World} {base : Nat} {r : Reach} {v : Value} {d : DataW H} {p : List MemPlace}
theorem open_5 (hval : Value.okWide Try.prog W r base 5 v) (h : DataW.Trod enc Try.prog W 0 (fun _ => true) true 5 v d p) : ∃ (k : Int) (hk : 0 ≤ k ∧ k ≤ 255), Den [] (In W) W (.v (.int .u8 k)) v := by
  obtain ⟨n, rfl⟩ := okWide_int Try.underlying5 hval
  obtain ⟨fuel, hf⟩ := h
  obtain ⟨x, hx⟩ := opens5 _ _ _ _ _ _ _ hf
  exact ⟨x.val, x.property, hx.2 0 _ _ rfl rfl⟩
theorem open_22 (hval : Value.okWide Try.prog W r base 22 v) (h : DataW.Trod enc Try.prog W 0 (fun _ => true) true 22 v d p) :
    ∃ (w : List Int) (hw : ∀ i, i < w.length → 0 ≤ gt w i ∧ gt w i ≤ 255), Den [] (In W) W (wsAV w) v := by
  obtain ⟨a, n, cap, rfl⟩ := okWide_slice Try.underlying22 hval
  obtain ⟨fuel, hf⟩ := h
  obtain ⟨x, hx⟩ := opens22 _ _ _ _ _ _ _ hf
  rw [c22_eq] at hx
  refine ⟨x.map fun y => y.val, fun i hi => ?_, hx.2 0 _ _ rfl rfl⟩
  rw [gt_eq _ _ hi, List.getElem_map]
  exact (x[i]'(by simpa using hi)).property
end
end Go.Proofs.Ytdmeioppkannlaa
end
section
namespace Go.Proofs.Ytdmeioppkannlaa
open Go Go.Am Go.ChangeShapes Go.WideShapes Go.ChangeAt Go.RowKit
set_option linter.unusedVariables false

theorem topSeason_own : ownKnob Try.prog.godebug = none := by kernel_rfl
theorem topSeason_laidOut : laidOutB Try.prog = true := by kernel_rfl

theorem topSeason_walk (w : World) (v0 v1 : Value) (k : Int) (ws : List Int) (hk : 0 ≤ k ∧ k ≤ 255) (hw : ∀ i, i < ws.length → 0 ≤ gt ws i ∧ gt ws i ≤ 255) (D0 : Den [] (In w) w (.v (.int .u8 k)) v0) (D1 : Den [] (In w) w (wsAV ws) v1) :
    Calls Try.prog 3 #[v0, v1] w fun e w' => e = .returned (.bool true) ∧ Below w.heap.size w w' := by
  obtain ⟨n0, r0, H0, hac, rfl⟩ := season_law k hk ws hw
  refine (calls_of_acall sig_ok (f := 3) rfl hac ⟨rfl, ?_⟩).mono fun e w' ⟨x0, I', he, hx0, hb⟩ => ?_
  · intro j a y0 ha hy0
    match j, ha, hy0 with
    | 0, ha, hy0 => cases ha; cases hy0; exact D0
    | 1, ha, hy0 => cases ha; cases hy0; exact D1
  · rw [den_v hx0] at he
    exact ⟨he, hb⟩

set_option maxRecDepth 100000 in
theorem topSeason_lifted (os : Os) (started : os.Started) (H : Type) (enc : TypeId × Value → H) :
    ReturnsInHanded {} Try.checked os 3 .any (Rows.topSeasonSpec.pre6 enc Try.prog Try.f3 Rows.topSeasonRow.domain false) (Rows.topSeasonSpec.post enc Try.prog Try.f3 false true false false) := by
  refine returnsInHanded_of_change (C := Try.checked) topSeason_own started (by kernel_rfl) Try.func3
    (ChangeSpec.witness6 (enc := enc) (C := Try.checked) false ⟨#[], #[.int .u8 0, .slice none 0 0], []⟩ 8 (by kernel_rfl) (by kernel_rfl) (by kernel_rfl) (by kernel_rfl)) ?_
  intro W base args ds gs before hval0 hW hcnd _
  have hval : ∀ (j : Nat) t v, Try.f3.params[j]? = some t → args[j]? = some v → Value.okWide Try.prog W .any base t v := hval0
  have hW' := hW
  obtain ⟨p, q, hA0, hV, rfl, hfz, hnd⟩ := hW
  have hA : DataW.TrodAll enc Try.prog W 0 (fun _ => true) true Try.f3.params.toList args.toList ds p := hA0
  rw [Try.params3] at hA hval
  obtain ⟨v0, vs0, d0, ds0, p0, q0, hargs, rfl, rfl, h0, s0⟩ := trodAll_cons hA
  obtain ⟨v1, vs1, d1, ds1, p1, q1, rfl, rfl, rfl, h1, s1⟩ := trodAll_cons s0
  obtain ⟨rfl, rfl, rfl⟩ := trodAll_nil s1
  obtain rfl : args = #[v0, v1] := by cases args; simp_all
  obtain ⟨rfl, rfl⟩ := trodVars_none hV
  have k0 := h0
  have lt0 : ∀ x ∈ p0, x.block < W.heap.size := by obtain ⟨m, hm⟩ := k0; exact DataW.trod_lt m _ _ _ hm
  obtain ⟨k, hk, D0⟩ := open_5 (hval 0 5 v0 rfl rfl) h0
  have k1 := h1
  have lt1 : ∀ x ∈ p1, x.block < W.heap.size := by obtain ⟨m, hm⟩ := k1; exact DataW.trod_lt m _ _ _ hm
  obtain ⟨ws, hw, D1⟩ := open_22 (hval 1 22 v1 rfl rfl) h1
  clear hA0 hval0
  refine (topSeason_walk W v0 v1 k ws hk hw D0 D1).mono fun e W' ⟨he, bel⟩ => ?_
  subst he
  exact ⟨_, rfl, _, _, _, [], _, [], hW', trodAll_mk1 (shut_bool Try.underlying4 _), (trodAll_cons_mk (Below.trod topSeason_laidOut (by kernel_rfl) (of_decide_eq_true (by kernel_rfl)) k0 bel lt0) (trodAll_cons_mk (Below.trod topSeason_laidOut (by kernel_rfl) (of_decide_eq_true (by kernel_rfl)) k1 bel lt1) trodAll_mk0)), rfl, bel.frame _, fun h => by cases h⟩

theorem topSeason_over : Rows.topSeasonRow.holds Try.pinned (OpenSpec.ofChange Rows.topSeasonSpec) :=
  OpenClaim.holds_of_wide 3 Try.f3 rfl rfl rfl rfl rfl rfl rfl ⟨rfl, rfl, rfl, rfl, rfl⟩ rfl rfl rfl rfl rfl (by kernel_rfl) Try.func3 (by kernel_rfl)
    (of_decide_eq_true (by kernel_rfl)) (by unfold Func.isWrapper; first | (rw [if_pos (by decide +kernel)]; kernel_rfl) | (rw [if_neg (by decide +kernel)]; exact ⟨rfl, rfl⟩))
    (fun os started H enc _ => topSeason_lifted os started H enc)

theorem topSeason_holds : Rows.TopSeasonSaid := topSeason_over
end Go.Proofs.Ytdmeioppkannlaa
end
