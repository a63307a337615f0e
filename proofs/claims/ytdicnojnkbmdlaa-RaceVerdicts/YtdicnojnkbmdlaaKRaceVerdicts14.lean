/-
  Texts of RaceVerdicts, part 15 of 17. Walks of chapters 52 and 53. The steps are written by program (walk.py).
-/
import Derived.Test.YtdicnojnkbmdlaaKRaceVerdicts6
import Derived.Test.YtdicnojnkbmdlaaKRaceVerdicts13
import Derived.Test.YtdicnojnkbmdlaaKRaceVerdicts5
section
set_option linter.unusedSimpArgs false
set_option linter.unusedVariables false
set_option maxHeartbeats 40000000
set_option maxRecDepth 4000
namespace Go.Proofs.Ytdicnojnkbmdlaa
open Go Go.Am

abbrev lc_rresults_ok (a b c d e f g h i j k m n o p q r s t u v w x y z : AV) : Env := [(0,a),(1,b),(2,c),(3,d),(4,e),(8,f),(9,g),(10,h),(12,i),(13,j),(14,k),(15,m),(16,n),(21,o),(22,p),(23,q),(24,r),(36,s),(40,t),(45,u),(46,v),(47,w),(48,x),(55,y),(79,z)]
theorem rresults_ok (lim : Nat) (H : Heap) (P : List Int) (L : List Pr) (t : Int) (f : List Int) (g : ROK P L) (t0 : 0 ≤ t) (t1 : t < P.length) (hf : 3 * (refO L t L.length).length ≤ f.length) (hfl : f.length ≤ 1000) (hfr : ∀ i, i < (refO L t L.length).length → 0 ≤ gt f (3 * i + 1) ∧ gt f (3 * i + 1) ≤ 1073741824) :
    ACall sig lim 60 [.agg (raceC P L), AV.i t, refB L t, intsAV f] H fun r H' => (∃ R : List Int, r = outA R ∧ R.length = L.length) ∧ H' = H := by
 have q0 : True := trivial
 have qd : True := trivial
 have qx : True := trivial
 have qp : True := trivial
 have hpa : True := trivial
 have hfe : True := trivial
 have g20 := g.n20
 have gel := g.el
 have gpr := g.pr
 have WQ : PQ L t (refO L t L.length) := (pq_ref L t L.length).to
 have hql := pq_len WQ
 have hqr := pq_rng g WQ
 refine ACall_pure (fa := fa60) rfl rfl rfl rfl ?_
 have tr : ∀ a0 a1 a2 a3 : AV, env0 fa60.keep [a0, a1, a2, a3] = [(0,a0),(1,a1),(2,a2),(3,a3),(4,.any),(8,.any),(9,.any),(10,.any),(12,.any),(13,.any),(14,.any),(15,.any),(16,.any),(21,.any),(22,.any),(23,.any),(24,.any),(36,.any),(40,.any),(45,.any),(46,.any),(47,.any),(48,.any),(55,.any),(79,.any)] := fun a0 a1 a2 a3 => rfl
 refine W_to (tr _ _ _ _) ?_; clear tr
 refine at_seq rfl ?_
 refine rg rfl ?_
 refine A_box rfl (by simp (disch := first | omega | (simp only [List.length_map, List.length_append, List.length_set, List.length_cons, List.length_nil]; omega)) only [go_sem, ↓reduceIte, Nat.reduceEqDiff, reduceCtorEq] <;> rfl) ?_
 intro H1 n0
 have en0 := n0.len
 have q0 := n0.new
 refine Rq ?_
 have tr : ∀ a b c d e f g h i j k m n o p q r s t u v w x y z A B : AV, let l := lc_rresults_ok a b c d e f g h i j k m n o p q r s t u v w x y z; trim ((8,B)::(4,A)::l) l = [(0,a),(1,b),(2,c),(3,d),(4,A),(8,B),(9,g),(10,h),(12,i),(13,j),(14,k),(15,m),(16,n),(21,o),(22,p),(23,q),(24,r),(36,s),(40,t),(45,u),(46,v),(47,w),(48,x),(55,y),(79,z)] := by intros; rfl
 refine R_nil (tr ..) ?_; clear tr
 refine then_n ?_
 refine at_seq rfl ?_
 refine rg rfl ?_
 refine Rq ?_
 have tr : ∀ a b c d e f g h i j k m n o p q r s t u v w x y z A : AV, let l := lc_rresults_ok a b c d e f g h i j k m n o p q r s t u v w x y z; trim ((9,A)::l) l = [(0,a),(1,b),(2,c),(3,d),(4,e),(8,f),(9,A),(10,h),(12,i),(13,j),(14,k),(15,m),(16,n),(21,o),(22,p),(23,q),(24,r),(36,s),(40,t),(45,u),(46,v),(47,w),(48,x),(55,y),(79,z)] := by intros; rfl
 refine R_nil (tr ..) ?_; clear tr
 refine then_n ?_
 refine at_seq rfl ?_
 refine rg rfl ?_
 refine Rq ?_
 refine R_q rfl (by simp (disch := first | omega | (simp only [List.length_map, List.length_append, List.length_set, List.length_cons, List.length_nil]; omega)) only [go_sem, ↓reduceIte, Nat.reduceEqDiff, reduceCtorEq, q0, qd, qx, qp, hpa, hfe]; exact refB_len L t) ?_
 refine A_makeSlice (ms27n _ _ (refO L t L.length).length _ _ _ (by omega) (by simp (disch := first | omega | (simp only [List.length_map, List.length_append, List.length_set, List.length_cons, List.length_nil]; omega)) only [go_sem, ↓reduceIte, Nat.reduceEqDiff, reduceCtorEq, q0, qd, qx, qp, hpa, hfe]) (by simp (disch := first | omega | (simp only [List.length_map, List.length_append, List.length_set, List.length_cons, List.length_nil]; omega)) only [go_sem, ↓reduceIte, Nat.reduceEqDiff, reduceCtorEq, q0, qd, qx, qp, hpa, hfe])) ?_
 intro H2 n1
 have en1 := n1.len
 have q0 := (n1.old _ (hget_lt q0)).trans q0
 have qd := n1.new
 refine Rq ?_
 have tr : ∀ a b c d e f g h i j k m n o p q r s t u v w x y z A B C D : AV, let l := lc_rresults_ok a b c d e f g h i j k m n o p q r s t u v w x y z; trim ((10,D)::(19,C)::(18,B)::(17,A)::l) l = [(0,a),(1,b),(2,c),(3,d),(4,e),(8,f),(9,g),(10,D),(12,i),(13,j),(14,k),(15,m),(16,n),(21,o),(22,p),(23,q),(24,r),(36,s),(40,t),(45,u),(46,v),(47,w),(48,x),(55,y),(79,z)] := by intros; rfl
 refine R_nil (tr ..) ?_; clear tr
 refine then_n ?_
 refine at_seq rfl ?_
 refine at_seq rfl ?_
 refine rg rfl ?_
 refine Rq ?_
 refine R_q rfl (by simp (disch := first | omega | (simp only [List.length_map, List.length_append, List.length_set, List.length_cons, List.length_nil]; omega)) only [go_sem, ↓reduceIte, Nat.reduceEqDiff, reduceCtorEq, q0, qd, qx, qp, hpa, hfe] <;> rfl) ?_
 refine Rq ?_
 refine Rq ?_
 have tr : ∀ a b c d e f g h i j k m n o p q r s t u v w x y z A B C D : AV, let l := lc_rresults_ok a b c d e f g h i j k m n o p q r s t u v w x y z; trim ((23,D)::(22,C)::(21,B)::(20,A)::l) l = [(0,a),(1,b),(2,c),(3,d),(4,e),(8,f),(9,g),(10,h),(12,i),(13,j),(14,k),(15,m),(16,n),(21,B),(22,C),(23,D),(24,r),(36,s),(40,t),(45,u),(46,v),(47,w),(48,x),(55,y),(79,z)] := by intros; rfl
 refine R_nil (tr ..) ?_; clear tr
 refine then_n ?_
 refine at_block rfl ?_
 refine loop_n rfl (fun mm kv H' => ∃ u : Nat, ∃ o : AV, ∃ D : List Int, ∃ R : List Int, ∃ x12 x13 x14 x15 x16 x24 x36 x40 x45 x46 x47 x48 x55 x79 : AV, (kv = [(9, o), (12, x12), (13, x13), (14, x14), (15, x15), (16, x16), (23, AV.i u), (24, x24), (36, x36), (40, x40), (45, x45), (46, x46), (47, x47), (48, x48), (55, x55), (79, x79)]) ∧ (mm = L.length - u) ∧ (hget H' H.length = some (raceC P L)) ∧ (hget H' H1.length = some (D.map AV.i)) ∧ (H2.length ≤ H'.length) ∧ (u ≤ L.length) ∧ (OutI H2.length H' o R) ∧ (R.length = u) ∧ (GivOK f (refO L t L.length).length D)) ⟨0, _, List.replicate (refO L t L.length).length 0, [], _, _, _, _, _, _, _, _, _, _, _, _, _, _, rfl, rfl, by exact q0, by exact qd, by exact Nat.le_refl _, by omega, by exact .inl ⟨rfl, rfl⟩, by rfl, by exact ⟨by simp, fun i hi => by rw [gt_rep]; have := hfr i hi; omega⟩⟩ (by rfl) ?_
 rintro mm kv HB ⟨u, o, D, R, x12, x13, x14, x15, x16, x24, x36, x40, x45, x46, x47, x48, x55, x79, rfl, rfl, q0, qd, hHB, hu, hO, hR, hD⟩
 have tr : ∀ a b c d e f g h i j k m n o p q r s t u v w x y z A B C D E F G H I J K L M N O P : AV, upd [(0,a),(1,b),(2,c),(3,d),(4,e),(8,f),(9,g),(10,h),(12,i),(13,j),(14,k),(15,m),(16,n),(21,o),(22,p),(23,q),(24,r),(36,s),(40,t),(45,u),(46,v),(47,w),(48,x),(55,y),(79,z)] [(9,A),(12,B),(13,C),(14,D),(15,E),(16,F),(23,G),(24,H),(36,I),(40,J),(45,K),(46,L),(47,M),(48,N),(55,O),(79,P)] = [(0,a),(1,b),(2,c),(3,d),(4,e),(8,f),(9,A),(10,h),(12,B),(13,C),(14,D),(15,E),(16,F),(21,o),(22,p),(23,G),(24,H),(36,I),(40,J),(45,K),(46,L),(47,M),(48,N),(55,O),(79,P)] := by intros; rfl
 refine W_to (tr ..) ?_; clear tr
 refine at_seq rfl ?_
 refine rg rfl ?_
 refine Rq ?_
 have tr : ∀ a b c d e f g h i j k m n o p q r s t u v w x y z A : AV, let l := lc_rresults_ok a b c d e f g h i j k m n o p q r s t u v w x y z; trim ((24,A)::l) l = [(0,a),(1,b),(2,c),(3,d),(4,e),(8,f),(9,g),(10,h),(12,i),(13,j),(14,k),(15,m),(16,n),(21,o),(22,p),(23,q),(24,A),(36,s),(40,t),(45,u),(46,v),(47,w),(48,x),(55,y),(79,z)] := by intros; rfl
 refine R_nil (tr ..) ?_; clear tr
 refine then_n ?_
 refine at_seq rfl ?_
 refine cdd (fun h1 => ?_) (fun h1 => ?_)
 ·
  try simp only [decide_eq_true_eq, decide_eq_false_iff_not, Bool.not_eq_true', Bool.not_eq_false', beq_iff_eq, beq_eq_false_iff_ne, ne_eq] at h1
  refine at_skip rfl ?_
  refine then_n ?_
  refine at_seq rfl ?_
  refine at_block rfl ?_
  refine at_seq rfl ?_
  refine rg rfl ?_
  refine Rq ?_
  refine R_q rfl (by simp (disch := first | omega | (simp only [List.length_map, List.length_append, List.length_set, List.length_cons, List.length_nil]; omega)) only [go_sem, ↓reduceIte, Nat.reduceEqDiff, reduceCtorEq, q0, qd, qx, qp, hpa, hfe] <;> rfl) ?_
  have hO1 := hO
  have hob := fun b hb => hO.lt (b := b) hb
  refine A_alloc rfl ?_
  intro HC n4
  have en4 := n4.len
  have q0 := (n4.old _ (hget_lt q0)).trans q0
  have qd := (n4.old _ (hget_lt qd)).trans qd
  have qx := n4.new
  have lq0 := hget_lt q0
  have lqd := hget_lt qd
  have lqx := hget_lt qx
  refine A_store ty58 (by simp (disch := first | omega | (simp only [List.length_map, List.length_append, List.length_set, List.length_cons, List.length_nil]; omega)) only [go_sem, ↓reduceIte, Nat.reduceEqDiff, reduceCtorEq, q0, qd, qx, qp, hpa, hfe] <;> rfl) (by simp (disch := first | omega | (simp only [List.length_map, List.length_append, List.length_set, List.length_cons, List.length_nil]; omega)) only [go_sem, ↓reduceIte, Nat.reduceEqDiff, reduceCtorEq, q0, qd, qx, qp, hpa, hfe] <;> rfl) qx ⟨by omega, rfl, by first | exact Nat.le_refl _ | simp⟩ (show _ = prC (gt L u) from rfl) ?_
  intro HD w4
  have ew4 := w4.len
  have q0 := (w4.old _ (by omega)).trans q0
  have qd := (w4.old _ (by omega)).trans qd
  have qx := w4.new
  have hO := hO1.mono fun b hb k hk => (w4.old _ (by have := hget_lt hk; omega)).trans ((n4.old _ (hget_lt hk)).trans hk)
  have tr : ∀ a b c d e f g h i j k m n o p q r s t u v w x y z A B C : AV, let l := lc_rresults_ok a b c d e f g h i j k m n o p q r s t u v w x y z; trim ((12,C)::(26,B)::(25,A)::l) l = [(0,a),(1,b),(2,c),(3,d),(4,e),(8,f),(9,g),(10,h),(12,C),(13,j),(14,k),(15,m),(16,n),(21,o),(22,p),(23,q),(24,r),(36,s),(40,t),(45,u),(46,v),(47,w),(48,x),(55,y),(79,z)] := by intros; rfl
  refine R_nil (tr ..) ?_; clear tr
  refine then_n ?_
  refine at_seq rfl ?_
  refine at_seq rfl ?_
  refine rg rfl ?_
  refine Rq ?_
  refine R_q rfl (by simp (disch := first | omega | (simp only [List.length_map, List.length_append, List.length_set, List.length_cons, List.length_nil]; omega)) only [go_sem, ↓reduceIte, Nat.reduceEqDiff, reduceCtorEq, q0, qd, qx, qp, hpa, hfe] <;> rfl) ?_
  refine Rq ?_
  refine Rq ?_
  refine Rq ?_
  refine Rp_split (fun h2 => ?_) (fun h2 => ?_)
  ·
   try simp only [decide_eq_true_eq, decide_eq_false_iff_not, Bool.not_eq_true', Bool.not_eq_false', beq_iff_eq, beq_eq_false_iff_ne, ne_eq] at h2
   refine Rn ?_
   refine Rn ?_
   refine Rn ?_
   refine Rn ?_
   refine Rq ?_
   have tr : ∀ a b c d e f g h i j k m n o p q r s t u v w x y z A B C D E F G H I J : AV, let l := lc_rresults_ok a b c d e f g h i j k m n o p q r s t u v w x y z; trim ((36,J)::(35,I)::(34,H)::(33,G)::(32,F)::(31,E)::(30,D)::(29,C)::(28,B)::(27,A)::l) l = [(0,a),(1,b),(2,c),(3,d),(4,e),(8,f),(9,g),(10,h),(12,i),(13,j),(14,k),(15,m),(16,n),(21,o),(22,p),(23,q),(24,r),(36,J),(40,t),(45,u),(46,v),(47,w),(48,x),(55,y),(79,z)] := by intros; rfl
   refine R_nil (tr ..) ?_; clear tr
   refine then_n ?_
   refine cdt ?_
   refine at_seq rfl ?_
   refine rg rfl ?_
   refine Rq ?_
   have tr : ∀ a b c d e f g h i j k m n o p q r s t u v w x y z A : AV, let l := lc_rresults_ok a b c d e f g h i j k m n o p q r s t u v w x y z; trim ((13,A)::l) l = [(0,a),(1,b),(2,c),(3,d),(4,e),(8,f),(9,g),(10,h),(12,i),(13,A),(14,k),(15,m),(16,n),(21,o),(22,p),(23,q),(24,r),(36,s),(40,t),(45,u),(46,v),(47,w),(48,x),(55,y),(79,z)] := by intros; rfl
   refine R_nil (tr ..) ?_; clear tr
   refine then_n ?_
   refine at_seq rfl ?_
   refine at_seq rfl ?_
   refine rg rfl ?_
   refine Rq ?_
   refine R_q rfl (by simp (disch := first | omega | (simp only [List.length_map, List.length_append, List.length_set, List.length_cons, List.length_nil]; omega)) only [go_sem, ↓reduceIte, Nat.reduceEqDiff, reduceCtorEq, q0, qd, qx, qp, hpa, hfe] <;> rfl) ?_
   refine Rq ?_
   refine Rq ?_
   have tr : ∀ a b c d e f g h i j k m n o p q r s t u v w x y z A B C D : AV, let l := lc_rresults_ok a b c d e f g h i j k m n o p q r s t u v w x y z; trim ((40,D)::(39,C)::(38,B)::(37,A)::l) l = [(0,a),(1,b),(2,c),(3,d),(4,e),(8,f),(9,g),(10,h),(12,i),(13,j),(14,k),(15,m),(16,n),(21,o),(22,p),(23,q),(24,r),(36,s),(40,D),(45,u),(46,v),(47,w),(48,x),(55,y),(79,z)] := by intros; rfl
   refine R_nil (tr ..) ?_; clear tr
   refine then_n ?_
   refine cdd (fun h3 => ?_) (fun h3 => ?_)
   ·
    try simp only [decide_eq_true_eq, decide_eq_false_iff_not, Bool.not_eq_true', Bool.not_eq_false', beq_iff_eq, beq_eq_false_iff_ne, ne_eq] at h3
    refine rg rfl ?_
    refine Rq ?_
    have tr : ∀ a b c d e f g h i j k m n o p q r s t u v w x y z A : AV, let l := lc_rresults_ok a b c d e f g h i j k m n o p q r s t u v w x y z; trim ((13,A)::l) l = [(0,a),(1,b),(2,c),(3,d),(4,e),(8,f),(9,g),(10,h),(12,i),(13,A),(14,k),(15,m),(16,n),(21,o),(22,p),(23,q),(24,r),(36,s),(40,t),(45,u),(46,v),(47,w),(48,x),(55,y),(79,z)] := by intros; rfl
    refine R_nil (tr ..) ?_; clear tr
    refine then_n ?_
    refine at_seq rfl ?_
    refine rg rfl ?_
    refine Rq ?_
    refine Rq ?_
    refine A_buildSlice (bs40' _ _ _ _ _ (by simp (disch := first | omega | (simp only [List.length_map, List.length_append, List.length_set, List.length_cons, List.length_nil]; omega)) only [go_sem, ↓reduceIte, Nat.reduceEqDiff, reduceCtorEq, q0, qd, qx, qp, hpa, hfe] <;> rfl)) ?_
    intro HEa n5a
    have en5a := n5a.len
    have q0 := (n5a.old _ (hget_lt q0)).trans q0
    have qd := (n5a.old _ (hget_lt qd)).trans qd
    have qn := n5a.new
    have hO := hO.mono fun b hb k hk => (n5a.old _ (hget_lt hk)).trans hk
    have lq0 := hget_lt q0
    have lqd := hget_lt qd
    obtain ⟨b, hbl, hbl2, hap⟩ := outI_append' (lim := H.length) hO qn (by omega) (by omega) (by omega)
    refine A_append (by simp (disch := first | omega | (simp only [List.length_map, List.length_append, List.length_set, List.length_cons, List.length_nil]; omega)) only [go_sem, ↓reduceIte, Nat.reduceEqDiff, reduceCtorEq, q0, qd, qx, qp, hpa, hfe]; exact hap) ?_
    intro HFa g5a
    have eg5a := g5a.len
    have q0 := (g5a.old _ (by omega) lq0).trans q0
    have qd := (g5a.old _ (by omega) lqd).trans qd
    have qq := g5a.new
    refine Rq ?_
    have tr : ∀ a b c d e f g h i j k m n o p q r s t u v w x y z A B C D E : AV, let l := lc_rresults_ok a b c d e f g h i j k m n o p q r s t u v w x y z; trim ((9,E)::(44,D)::(43,C)::(42,B)::(41,A)::l) l = [(0,a),(1,b),(2,c),(3,d),(4,e),(8,f),(9,E),(10,h),(12,i),(13,j),(14,k),(15,m),(16,n),(21,o),(22,p),(23,q),(24,r),(36,s),(40,t),(45,u),(46,v),(47,w),(48,x),(55,y),(79,z)] := by intros; rfl
    refine R_nil (tr ..) ?_; clear tr
    refine then_n ?_
    refine at_exit rfl ?_
    refine then_x ?_
    refine blk_x ?_
    refine then_n ?_
    refine rg rfl ?_
    skip
    refine Rq ?_
    refine Rq ?_
    have tr : ∀ a b c d e f g h i j k m n o p q r s t u v w x y z A B : AV, let l := lc_rresults_ok a b c d e f g h i j k m n o p q r s t u v w x y z; trim ((23,B)::(87,A)::l) l = [(0,a),(1,b),(2,c),(3,d),(4,e),(8,f),(9,g),(10,h),(12,i),(13,j),(14,k),(15,m),(16,n),(21,o),(22,p),(23,B),(24,r),(36,s),(40,t),(45,u),(46,v),(47,w),(48,x),(55,y),(79,z)] := by intros; rfl
    refine R_nil (tr ..) ?_; clear tr
    refine then_n ?_
    exact ⟨_, _, ⟨u + 1, (.own 1 HEa.length 0 (R.length + 1)), D, R ++ [2], _, _, _, _, _, _, _, _, _, _, _, _, _, _, rfl, rfl, by exact q0, by exact qd, by first | (show H2.length ≤ HFa.length; omega) | (show H2.length ≤ HG.length; omega), by omega, by first | exact hO | exact OutI.new g5a (by omega) rfl, by first | (rw [List.length_append, List.length_singleton]; omega) | (rw [hR2]; have hme : met = true := hmet.2 (by obtain ⟨i, hi, he⟩ := WQ.all u (by omega) ⟨by omega, by omega⟩; exact ⟨i, by omega, he⟩); rw [hme]; rfl), by first | exact hD | exact hD2⟩, by rfl, by omega⟩
   ·
    try simp only [decide_eq_true_eq, decide_eq_false_iff_not, Bool.not_eq_true', Bool.not_eq_false', beq_iff_eq, beq_eq_false_iff_ne, ne_eq] at h3
    refine at_skip rfl ?_
    refine then_n ?_
    refine at_seq rfl ?_
    refine rg rfl ?_
    refine Rq ?_
    refine Rq ?_
    refine A_buildSlice (bs40' _ _ _ _ _ (by simp (disch := first | omega | (simp only [List.length_map, List.length_append, List.length_set, List.length_cons, List.length_nil]; omega)) only [go_sem, ↓reduceIte, Nat.reduceEqDiff, reduceCtorEq, q0, qd, qx, qp, hpa, hfe] <;> rfl)) ?_
    intro HEa n5a
    have en5a := n5a.len
    have q0 := (n5a.old _ (hget_lt q0)).trans q0
    have qd := (n5a.old _ (hget_lt qd)).trans qd
    have qn := n5a.new
    have hO := hO.mono fun b hb k hk => (n5a.old _ (hget_lt hk)).trans hk
    have lq0 := hget_lt q0
    have lqd := hget_lt qd
    obtain ⟨b, hbl, hbl2, hap⟩ := outI_append' (lim := H.length) hO qn (by omega) (by omega) (by omega)
    refine A_append (by simp (disch := first | omega | (simp only [List.length_map, List.length_append, List.length_set, List.length_cons, List.length_nil]; omega)) only [go_sem, ↓reduceIte, Nat.reduceEqDiff, reduceCtorEq, q0, qd, qx, qp, hpa, hfe]; exact hap) ?_
    intro HFa g5a
    have eg5a := g5a.len
    have q0 := (g5a.old _ (by omega) lq0).trans q0
    have qd := (g5a.old _ (by omega) lqd).trans qd
    have qq := g5a.new
    refine Rq ?_
    have tr : ∀ a b c d e f g h i j k m n o p q r s t u v w x y z A B C D E : AV, let l := lc_rresults_ok a b c d e f g h i j k m n o p q r s t u v w x y z; trim ((9,E)::(44,D)::(43,C)::(42,B)::(41,A)::l) l = [(0,a),(1,b),(2,c),(3,d),(4,e),(8,f),(9,E),(10,h),(12,i),(13,j),(14,k),(15,m),(16,n),(21,o),(22,p),(23,q),(24,r),(36,s),(40,t),(45,u),(46,v),(47,w),(48,x),(55,y),(79,z)] := by intros; rfl
    refine R_nil (tr ..) ?_; clear tr
    refine then_n ?_
    refine at_exit rfl ?_
    refine then_x ?_
    refine blk_x ?_
    refine then_n ?_
    refine rg rfl ?_
    skip
    refine Rq ?_
    refine Rq ?_
    have tr : ∀ a b c d e f g h i j k m n o p q r s t u v w x y z A B : AV, let l := lc_rresults_ok a b c d e f g h i j k m n o p q r s t u v w x y z; trim ((23,B)::(87,A)::l) l = [(0,a),(1,b),(2,c),(3,d),(4,e),(8,f),(9,g),(10,h),(12,i),(13,j),(14,k),(15,m),(16,n),(21,o),(22,p),(23,B),(24,r),(36,s),(40,t),(45,u),(46,v),(47,w),(48,x),(55,y),(79,z)] := by intros; rfl
    refine R_nil (tr ..) ?_; clear tr
    refine then_n ?_
    exact ⟨_, _, ⟨u + 1, (.own 1 HEa.length 0 (R.length + 1)), D, R ++ [0], _, _, _, _, _, _, _, _, _, _, _, _, _, _, rfl, rfl, by exact q0, by exact qd, by first | (show H2.length ≤ HFa.length; omega) | (show H2.length ≤ HG.length; omega), by omega, by first | exact hO | exact OutI.new g5a (by omega) rfl, by first | (rw [List.length_append, List.length_singleton]; omega) | (rw [hR2]; have hme : met = true := hmet.2 (by obtain ⟨i, hi, he⟩ := WQ.all u (by omega) ⟨by omega, by omega⟩; exact ⟨i, by omega, he⟩); rw [hme]; rfl), by first | exact hD | exact hD2⟩, by rfl, by omega⟩
  ·
   try simp only [decide_eq_true_eq, decide_eq_false_iff_not, Bool.not_eq_true', Bool.not_eq_false', beq_iff_eq, beq_eq_false_iff_ne, ne_eq] at h2
   refine Ry ?_
   refine Rq ?_
   refine Ry ?_
   refine R_q rfl (by simp (disch := first | omega | (simp only [List.length_map, List.length_append, List.length_set, List.length_cons, List.length_nil]; omega)) only [go_sem, ↓reduceIte, Nat.reduceEqDiff, reduceCtorEq, q0, qd, qx, qp, hpa, hfe] <;> rfl) ?_
   refine Ry ?_
   refine Rq ?_
   refine Ry ?_
   refine Rq ?_
   refine Rq ?_
   have tr : ∀ a b c d e f g h i j k m n o p q r s t u v w x y z A B C D E F G H I J : AV, let l := lc_rresults_ok a b c d e f g h i j k m n o p q r s t u v w x y z; trim ((36,J)::(35,I)::(34,H)::(33,G)::(32,F)::(31,E)::(30,D)::(29,C)::(28,B)::(27,A)::l) l = [(0,a),(1,b),(2,c),(3,d),(4,e),(8,f),(9,g),(10,h),(12,i),(13,j),(14,k),(15,m),(16,n),(21,o),(22,p),(23,q),(24,r),(36,J),(40,t),(45,u),(46,v),(47,w),(48,x),(55,y),(79,z)] := by intros; rfl
   refine R_nil (tr ..) ?_; clear tr
   refine then_n ?_
   refine cdd (fun h4 => ?_) (fun h4 => ?_)
   ·
    try simp only [decide_eq_true_eq, decide_eq_false_iff_not, Bool.not_eq_true', Bool.not_eq_false', beq_iff_eq, beq_eq_false_iff_ne, ne_eq] at h4
    refine at_seq rfl ?_
    refine rg rfl ?_
    refine Rq ?_
    have tr : ∀ a b c d e f g h i j k m n o p q r s t u v w x y z A : AV, let l := lc_rresults_ok a b c d e f g h i j k m n o p q r s t u v w x y z; trim ((13,A)::l) l = [(0,a),(1,b),(2,c),(3,d),(4,e),(8,f),(9,g),(10,h),(12,i),(13,A),(14,k),(15,m),(16,n),(21,o),(22,p),(23,q),(24,r),(36,s),(40,t),(45,u),(46,v),(47,w),(48,x),(55,y),(79,z)] := by intros; rfl
    refine R_nil (tr ..) ?_; clear tr
    refine then_n ?_
    refine at_seq rfl ?_
    refine at_seq rfl ?_
    refine rg rfl ?_
    refine Rq ?_
    refine R_q rfl (by simp (disch := first | omega | (simp only [List.length_map, List.length_append, List.length_set, List.length_cons, List.length_nil]; omega)) only [go_sem, ↓reduceIte, Nat.reduceEqDiff, reduceCtorEq, q0, qd, qx, qp, hpa, hfe] <;> rfl) ?_
    refine Rq ?_
    refine Rq ?_
    have tr : ∀ a b c d e f g h i j k m n o p q r s t u v w x y z A B C D : AV, let l := lc_rresults_ok a b c d e f g h i j k m n o p q r s t u v w x y z; trim ((40,D)::(39,C)::(38,B)::(37,A)::l) l = [(0,a),(1,b),(2,c),(3,d),(4,e),(8,f),(9,g),(10,h),(12,i),(13,j),(14,k),(15,m),(16,n),(21,o),(22,p),(23,q),(24,r),(36,s),(40,D),(45,u),(46,v),(47,w),(48,x),(55,y),(79,z)] := by intros; rfl
    refine R_nil (tr ..) ?_; clear tr
    refine then_n ?_
    refine cdd (fun h5 => ?_) (fun h5 => ?_)
    ·
     try simp only [decide_eq_true_eq, decide_eq_false_iff_not, Bool.not_eq_true', Bool.not_eq_false', beq_iff_eq, beq_eq_false_iff_ne, ne_eq] at h5
     refine rg rfl ?_
     refine Rq ?_
     have tr : ∀ a b c d e f g h i j k m n o p q r s t u v w x y z A : AV, let l := lc_rresults_ok a b c d e f g h i j k m n o p q r s t u v w x y z; trim ((13,A)::l) l = [(0,a),(1,b),(2,c),(3,d),(4,e),(8,f),(9,g),(10,h),(12,i),(13,A),(14,k),(15,m),(16,n),(21,o),(22,p),(23,q),(24,r),(36,s),(40,t),(45,u),(46,v),(47,w),(48,x),(55,y),(79,z)] := by intros; rfl
     refine R_nil (tr ..) ?_; clear tr
     refine then_n ?_
     refine at_seq rfl ?_
     refine rg rfl ?_
     refine Rq ?_
     refine Rq ?_
     refine A_buildSlice (bs40' _ _ _ _ _ (by simp (disch := first | omega | (simp only [List.length_map, List.length_append, List.length_set, List.length_cons, List.length_nil]; omega)) only [go_sem, ↓reduceIte, Nat.reduceEqDiff, reduceCtorEq, q0, qd, qx, qp, hpa, hfe] <;> rfl)) ?_
     intro HEa n5a
     have en5a := n5a.len
     have q0 := (n5a.old _ (hget_lt q0)).trans q0
     have qd := (n5a.old _ (hget_lt qd)).trans qd
     have qn := n5a.new
     have hO := hO.mono fun b hb k hk => (n5a.old _ (hget_lt hk)).trans hk
     have lq0 := hget_lt q0
     have lqd := hget_lt qd
     obtain ⟨b, hbl, hbl2, hap⟩ := outI_append' (lim := H.length) hO qn (by omega) (by omega) (by omega)
     refine A_append (by simp (disch := first | omega | (simp only [List.length_map, List.length_append, List.length_set, List.length_cons, List.length_nil]; omega)) only [go_sem, ↓reduceIte, Nat.reduceEqDiff, reduceCtorEq, q0, qd, qx, qp, hpa, hfe]; exact hap) ?_
     intro HFa g5a
     have eg5a := g5a.len
     have q0 := (g5a.old _ (by omega) lq0).trans q0
     have qd := (g5a.old _ (by omega) lqd).trans qd
     have qq := g5a.new
     refine Rq ?_
     have tr : ∀ a b c d e f g h i j k m n o p q r s t u v w x y z A B C D E : AV, let l := lc_rresults_ok a b c d e f g h i j k m n o p q r s t u v w x y z; trim ((9,E)::(44,D)::(43,C)::(42,B)::(41,A)::l) l = [(0,a),(1,b),(2,c),(3,d),(4,e),(8,f),(9,E),(10,h),(12,i),(13,j),(14,k),(15,m),(16,n),(21,o),(22,p),(23,q),(24,r),(36,s),(40,t),(45,u),(46,v),(47,w),(48,x),(55,y),(79,z)] := by intros; rfl
     refine R_nil (tr ..) ?_; clear tr
     refine then_n ?_
     refine at_exit rfl ?_
     refine then_x ?_
     refine blk_x ?_
     refine then_n ?_
     refine rg rfl ?_
     skip
     refine Rq ?_
     refine Rq ?_
     have tr : ∀ a b c d e f g h i j k m n o p q r s t u v w x y z A B : AV, let l := lc_rresults_ok a b c d e f g h i j k m n o p q r s t u v w x y z; trim ((23,B)::(87,A)::l) l = [(0,a),(1,b),(2,c),(3,d),(4,e),(8,f),(9,g),(10,h),(12,i),(13,j),(14,k),(15,m),(16,n),(21,o),(22,p),(23,B),(24,r),(36,s),(40,t),(45,u),(46,v),(47,w),(48,x),(55,y),(79,z)] := by intros; rfl
     refine R_nil (tr ..) ?_; clear tr
     refine then_n ?_
     exact ⟨_, _, ⟨u + 1, (.own 1 HEa.length 0 (R.length + 1)), D, R ++ [2], _, _, _, _, _, _, _, _, _, _, _, _, _, _, rfl, rfl, by exact q0, by exact qd, by first | (show H2.length ≤ HFa.length; omega) | (show H2.length ≤ HG.length; omega), by omega, by first | exact hO | exact OutI.new g5a (by omega) rfl, by first | (rw [List.length_append, List.length_singleton]; omega) | (rw [hR2]; have hme : met = true := hmet.2 (by obtain ⟨i, hi, he⟩ := WQ.all u (by omega) ⟨by omega, by omega⟩; exact ⟨i, by omega, he⟩); rw [hme]; rfl), by first | exact hD | exact hD2⟩, by rfl, by omega⟩
    ·
     try simp only [decide_eq_true_eq, decide_eq_false_iff_not, Bool.not_eq_true', Bool.not_eq_false', beq_iff_eq, beq_eq_false_iff_ne, ne_eq] at h5
     refine at_skip rfl ?_
     refine then_n ?_
     refine at_seq rfl ?_
     refine rg rfl ?_
     refine Rq ?_
     refine Rq ?_
     refine A_buildSlice (bs40' _ _ _ _ _ (by simp (disch := first | omega | (simp only [List.length_map, List.length_append, List.length_set, List.length_cons, List.length_nil]; omega)) only [go_sem, ↓reduceIte, Nat.reduceEqDiff, reduceCtorEq, q0, qd, qx, qp, hpa, hfe] <;> rfl)) ?_
     intro HEa n5a
     have en5a := n5a.len
     have q0 := (n5a.old _ (hget_lt q0)).trans q0
     have qd := (n5a.old _ (hget_lt qd)).trans qd
     have qn := n5a.new
     have hO := hO.mono fun b hb k hk => (n5a.old _ (hget_lt hk)).trans hk
     have lq0 := hget_lt q0
     have lqd := hget_lt qd
     obtain ⟨b, hbl, hbl2, hap⟩ := outI_append' (lim := H.length) hO qn (by omega) (by omega) (by omega)
     refine A_append (by simp (disch := first | omega | (simp only [List.length_map, List.length_append, List.length_set, List.length_cons, List.length_nil]; omega)) only [go_sem, ↓reduceIte, Nat.reduceEqDiff, reduceCtorEq, q0, qd, qx, qp, hpa, hfe]; exact hap) ?_
     intro HFa g5a
     have eg5a := g5a.len
     have q0 := (g5a.old _ (by omega) lq0).trans q0
     have qd := (g5a.old _ (by omega) lqd).trans qd
     have qq := g5a.new
     refine Rq ?_
     have tr : ∀ a b c d e f g h i j k m n o p q r s t u v w x y z A B C D E : AV, let l := lc_rresults_ok a b c d e f g h i j k m n o p q r s t u v w x y z; trim ((9,E)::(44,D)::(43,C)::(42,B)::(41,A)::l) l = [(0,a),(1,b),(2,c),(3,d),(4,e),(8,f),(9,E),(10,h),(12,i),(13,j),(14,k),(15,m),(16,n),(21,o),(22,p),(23,q),(24,r),(36,s),(40,t),(45,u),(46,v),(47,w),(48,x),(55,y),(79,z)] := by intros; rfl
     refine R_nil (tr ..) ?_; clear tr
     refine then_n ?_
     refine at_exit rfl ?_
     refine then_x ?_
     refine blk_x ?_
     refine then_n ?_
     refine rg rfl ?_
     skip
     refine Rq ?_
     refine Rq ?_
     have tr : ∀ a b c d e f g h i j k m n o p q r s t u v w x y z A B : AV, let l := lc_rresults_ok a b c d e f g h i j k m n o p q r s t u v w x y z; trim ((23,B)::(87,A)::l) l = [(0,a),(1,b),(2,c),(3,d),(4,e),(8,f),(9,g),(10,h),(12,i),(13,j),(14,k),(15,m),(16,n),(21,o),(22,p),(23,B),(24,r),(36,s),(40,t),(45,u),(46,v),(47,w),(48,x),(55,y),(79,z)] := by intros; rfl
     refine R_nil (tr ..) ?_; clear tr
     refine then_n ?_
     exact ⟨_, _, ⟨u + 1, (.own 1 HEa.length 0 (R.length + 1)), D, R ++ [0], _, _, _, _, _, _, _, _, _, _, _, _, _, _, rfl, rfl, by exact q0, by exact qd, by first | (show H2.length ≤ HFa.length; omega) | (show H2.length ≤ HG.length; omega), by omega, by first | exact hO | exact OutI.new g5a (by omega) rfl, by first | (rw [List.length_append, List.length_singleton]; omega) | (rw [hR2]; have hme : met = true := hmet.2 (by obtain ⟨i, hi, he⟩ := WQ.all u (by omega) ⟨by omega, by omega⟩; exact ⟨i, by omega, he⟩); rw [hme]; rfl), by first | exact hD | exact hD2⟩, by rfl, by omega⟩
   ·
    try simp only [decide_eq_true_eq, decide_eq_false_iff_not, Bool.not_eq_true', Bool.not_eq_false', beq_iff_eq, beq_eq_false_iff_ne, ne_eq] at h4
    refine at_skip rfl ?_
    refine then_n ?_
    refine at_seq rfl ?_
    refine rg rfl ?_
    refine Rq ?_
    refine R_q rfl (by simp (disch := first | omega | (simp only [List.length_map, List.length_append, List.length_set, List.length_cons, List.length_nil]; omega)) only [go_sem, ↓reduceIte, Nat.reduceEqDiff, reduceCtorEq, q0, qd, qx, qp, hpa, hfe]; exact refB_len L t) ?_
    refine Rq ?_
    have tr : ∀ a b c d e f g h i j k m n o p q r s t u v w x y z A B C : AV, let l := lc_rresults_ok a b c d e f g h i j k m n o p q r s t u v w x y z; trim ((47,C)::(46,B)::(45,A)::l) l = [(0,a),(1,b),(2,c),(3,d),(4,e),(8,f),(9,g),(10,h),(12,i),(13,j),(14,k),(15,m),(16,n),(21,o),(22,p),(23,q),(24,r),(36,s),(40,t),(45,A),(46,B),(47,C),(48,x),(55,y),(79,z)] := by intros; rfl
    refine R_nil (tr ..) ?_; clear tr
    refine then_n ?_
    refine at_block rfl ?_
    refine loop_n rfl (fun mm kv H' => ∃ w : Nat, ∃ o2 : AV, ∃ D2 : List Int, ∃ R2 : List Int, ∃ met : Bool, ∃ x14 x15 x16 x48 x55 x79 : AV, (kv = [(9, o2), (14, x14), (15, x15), (16, x16), (47, AV.i w), (48, x48), (55, x55), (79, x79)]) ∧ (mm = (refO L t L.length).length - w) ∧ (hget H' H.length = some (raceC P L)) ∧ (hget H' H1.length = some (D2.map AV.i)) ∧ (hget H' HB.length = some (prC (gt L u))) ∧ (HB.length < H'.length) ∧ (w ≤ (refO L t L.length).length) ∧ (OutI H2.length H' o2 R2) ∧ (∀ b, o2 = .own 1 b 0 R2.length → b ≠ HB.length) ∧ (R2.length = u + (if met then 1 else 0)) ∧ (GivOK f (refO L t L.length).length D2) ∧ ((met = true ↔ ∃ i, i < w ∧ norm (gt (refO L t L.length) i) = norm (gt L u)))) ⟨0, o, D, R, false, _, _, _, _, _, _, rfl, rfl, by exact q0, by exact qd, by exact qx, by omega, by omega, by exact hO, by intro b hb; have := hob b hb; omega, by rw [hR]; rfl, by exact hD, by exact ⟨fun hh => (by cases hh), fun ⟨i, hi, _⟩ => (by omega)⟩⟩ (by rfl) ?_
    rintro mm kv HG ⟨w, o2, D2, R2, met, x14, x15, x16, x48, x55, x79, rfl, rfl, q0, qd, qx, hHG, hw, hO, hob2, hR2, hD2, hmet⟩
    have tr : ∀ a b c d e f g h i j k m n o p q r s t u v w x y z A B C D E F G H : AV, upd [(0,a),(1,b),(2,c),(3,d),(4,e),(8,f),(9,g),(10,h),(12,i),(13,j),(14,k),(15,m),(16,n),(21,o),(22,p),(23,q),(24,r),(36,s),(40,t),(45,u),(46,v),(47,w),(48,x),(55,y),(79,z)] [(9,A),(14,B),(15,C),(16,D),(47,E),(48,F),(55,G),(79,H)] = [(0,a),(1,b),(2,c),(3,d),(4,e),(8,f),(9,A),(10,h),(12,i),(13,j),(14,B),(15,C),(16,D),(21,o),(22,p),(23,q),(24,r),(36,s),(40,t),(45,u),(46,v),(47,E),(48,F),(55,G),(79,H)] := by intros; rfl
    refine W_to (tr ..) ?_; clear tr
    have hRl2 : R2.length ≤ u + 1 := by rw [hR2]; split <;> omega
    refine at_seq rfl ?_
    refine rg rfl ?_
    refine Rq ?_
    have tr : ∀ a b c d e f g h i j k m n o p q r s t u v w x y z A : AV, let l := lc_rresults_ok a b c d e f g h i j k m n o p q r s t u v w x y z; trim ((48,A)::l) l = [(0,a),(1,b),(2,c),(3,d),(4,e),(8,f),(9,g),(10,h),(12,i),(13,j),(14,k),(15,m),(16,n),(21,o),(22,p),(23,q),(24,r),(36,s),(40,t),(45,u),(46,v),(47,w),(48,A),(55,y),(79,z)] := by intros; rfl
    refine R_nil (tr ..) ?_; clear tr
    refine then_n ?_
    refine at_seq rfl ?_
    refine cdd (fun h6 => ?_) (fun h6 => ?_)
    ·
     try simp only [decide_eq_true_eq, decide_eq_false_iff_not, Bool.not_eq_true', Bool.not_eq_false', beq_iff_eq, beq_eq_false_iff_ne, ne_eq] at h6
     refine at_skip rfl ?_
     refine then_n ?_
     refine at_seq rfl ?_
     refine at_block rfl ?_
     refine at_seq rfl ?_
     refine rg rfl ?_
     have hpa : refB L t = prsAV (refO L t L.length) := refB_at (by omega)
     have hqi := hqr w (by omega)
     have hfw := hfr w (by omega)
     have hdw := hD2.2 w (by omega)
     have hdl := hD2.1
     have hfe : gt f (3 * (w : Int) + 1).toNat = gt f (3 * w + 1) := by rw [show (3 * (w : Int) + 1).toNat = 3 * w + 1 by omega]
     refine Rq ?_
     refine R_q rfl (by simp (disch := first | omega | (simp only [List.length_map, List.length_append, List.length_set, List.length_cons, List.length_nil]; omega)) only [go_sem, ↓reduceIte, Nat.reduceEqDiff, reduceCtorEq, hpa] <;> rfl) ?_
     refine R_q rfl (by simp (disch := first | omega | (simp only [List.length_map, List.length_append, List.length_set, List.length_cons, List.length_nil]; omega)) only [go_sem, ↓reduceIte, Nat.reduceEqDiff, reduceCtorEq, q0, qd, qx, qp, hpa, hfe] <;> rfl) ?_
     have hO1 := hO
     refine A_alloc rfl ?_
     intro HJ n7
     have en7 := n7.len
     have q0 := (n7.old _ (hget_lt q0)).trans q0
     have qd := (n7.old _ (hget_lt qd)).trans qd
     have qx := (n7.old _ (hget_lt qx)).trans qx
     have qp := n7.new
     refine Rq ?_
     have lq0 := hget_lt q0
     have lqd := hget_lt qd
     have lqx := hget_lt qx
     have lqp := hget_lt qp
     refine A_store ty58 (by simp (disch := first | omega | (simp only [List.length_map, List.length_append, List.length_set, List.length_cons, List.length_nil]; omega)) only [go_sem, ↓reduceIte, Nat.reduceEqDiff, reduceCtorEq, q0, qd, qx, qp, hpa, hfe] <;> rfl) (by simp (disch := first | omega | (simp only [List.length_map, List.length_append, List.length_set, List.length_cons, List.length_nil]; omega)) only [go_sem, ↓reduceIte, Nat.reduceEqDiff, reduceCtorEq, q0, qd, qx, qp, hpa, hfe] <;> rfl) qp ⟨by omega, rfl, by first | exact Nat.le_refl _ | simp⟩ (show _ = prC (gt (refO L t L.length) w) from rfl) ?_
     intro HK w7
     have ew7 := w7.len
     have q0 := (w7.old _ (by omega)).trans q0
     have qd := (w7.old _ (by omega)).trans qd
     have qx := (w7.old _ (by omega)).trans qx
     have qp := w7.new
     have hO := hO1.mono fun b hb k hk => (w7.old _ (by have := hget_lt hk; omega)).trans ((n7.old _ (hget_lt hk)).trans hk)
     have tr : ∀ a b c d e f g h i j k m n o p q r s t u v w x y z A B C D E : AV, let l := lc_rresults_ok a b c d e f g h i j k m n o p q r s t u v w x y z; trim ((14,E)::(15,D)::(51,C)::(50,B)::(49,A)::l) l = [(0,a),(1,b),(2,c),(3,d),(4,e),(8,f),(9,g),(10,h),(12,i),(13,j),(14,E),(15,D),(16,n),(21,o),(22,p),(23,q),(24,r),(36,s),(40,t),(45,u),(46,v),(47,w),(48,x),(55,y),(79,z)] := by intros; rfl
     refine R_nil (tr ..) ?_; clear tr
     refine then_n ?_
     refine at_seq rfl ?_
     refine at_seq rfl ?_
     refine rg rfl ?_
     refine R_q rfl (by simp (disch := first | omega | (simp only [List.length_map, List.length_append, List.length_set, List.length_cons, List.length_nil]; omega)) only [go_sem, ↓reduceIte, Nat.reduceEqDiff, reduceCtorEq, q0, qd, qx, qp, hpa, hfe] <;> rfl) ?_
     refine R_q rfl (by simp (disch := first | omega | (simp only [List.length_map, List.length_append, List.length_set, List.length_cons, List.length_nil]; omega)) only [go_sem, ↓reduceIte, Nat.reduceEqDiff, reduceCtorEq, q0, qd, qx, qp, hpa, hfe] <;> rfl) ?_
     refine Rcall ?_
     refine ACall_eq (same_ok _ _ _ _) ?_
     refine Rq ?_
     have tr : ∀ a b c d e f g h i j k m n o p q r s t u v w x y z A B C D : AV, let l := lc_rresults_ok a b c d e f g h i j k m n o p q r s t u v w x y z; trim ((55,D)::(54,C)::(53,B)::(52,A)::l) l = [(0,a),(1,b),(2,c),(3,d),(4,e),(8,f),(9,g),(10,h),(12,i),(13,j),(14,k),(15,m),(16,n),(21,o),(22,p),(23,q),(24,r),(36,s),(40,t),(45,u),(46,v),(47,w),(48,x),(55,D),(79,z)] := by intros; rfl
     refine R_nil (tr ..) ?_; clear tr
     refine then_n ?_
     refine cdd (fun h7 => ?_) (fun h7 => ?_)
     ·
      try simp only [decide_eq_true_eq, decide_eq_false_iff_not, Bool.not_eq_true', Bool.not_eq_false', beq_iff_eq, beq_eq_false_iff_ne, ne_eq] at h7
      refine at_exit rfl ?_
      refine then_x ?_
      refine blk_x ?_
      refine then_n ?_
      refine rg rfl ?_
      refine Rq ?_
      refine Rq ?_
      have tr : ∀ a b c d e f g h i j k m n o p q r s t u v w x y z A B : AV, let l := lc_rresults_ok a b c d e f g h i j k m n o p q r s t u v w x y z; trim ((47,B)::(86,A)::l) l = [(0,a),(1,b),(2,c),(3,d),(4,e),(8,f),(9,g),(10,h),(12,i),(13,j),(14,k),(15,m),(16,n),(21,o),(22,p),(23,q),(24,r),(36,s),(40,t),(45,u),(46,v),(47,B),(48,x),(55,y),(79,z)] := by intros; rfl
      refine R_nil (tr ..) ?_; clear tr
      refine then_n ?_
      exact ⟨_, _, ⟨w + 1, o2, D2, R2, met, _, _, _, _, _, _, rfl, rfl, by exact q0, by exact qd, by exact qx, by first | (show HB.length < HFb.length; omega) | (show HB.length < HK.length; omega), by omega, by first | exact OutI.new g5b (by omega) rfl | exact hO, by first | exact hob2 | (intro b7 hb7; injection hb7 with h8 h9; omega), by first | exact hR2 | (rw [List.length_append, List.length_singleton, hRl]; rfl), by first | exact giv_step hD2 (by omega) | exact hD2, by first | exact ⟨fun _ => ⟨w, by omega, hnm⟩, fun _ => rfl⟩ | exact ⟨fun hh => by obtain ⟨i, hi, he⟩ := hmet.1 hh; exact ⟨i, by omega, he⟩, fun ⟨i, hi, he⟩ => hmet.2 ⟨i, (by by_cases hiw : i = w; (subst hiw; exact absurd he (by assumption)); (omega)), he⟩⟩⟩, by rfl, by omega⟩
     ·
      try simp only [decide_eq_true_eq, decide_eq_false_iff_not, Bool.not_eq_true', Bool.not_eq_false', beq_iff_eq, beq_eq_false_iff_ne, ne_eq] at h7
      refine at_skip rfl ?_
      refine then_n ?_
      refine at_seq rfl ?_
      refine rd rfl rfl ?_
      have hnm : norm (gt (refO L t L.length) w) = norm (gt L u) := by assumption
      have hmf : met = false := by
        cases met with
        | false => rfl
        | true =>
          obtain ⟨i, hi, he⟩ := hmet.1 rfl
          have := WQ.nd i w (by omega) (by omega) (he.trans hnm.symm)
          omega
      subst hmf
      have hRl : R2.length = u := hR2
      refine Qq ?_
      refine Qq ?_
      refine Qq ?_
      refine Qq ?_
      refine Qq ?_
      refine Q_q rfl (by simp (disch := first | omega | (simp only [List.length_map, List.length_append, List.length_set, List.length_cons, List.length_nil]; omega)) only [go_sem, ↓reduceIte, Nat.reduceEqDiff, reduceCtorEq, q0, qd, qx, qp, hpa, hfe] <;> rfl) ?_
      refine Qq ?_
      refine Qq ?_
      refine Qq ?_
      refine Q_q rfl (by simp (disch := first | omega | (simp only [List.length_map, List.length_append, List.length_set, List.length_cons, List.length_nil]; omega)) only [go_sem, ↓reduceIte, Nat.reduceEqDiff, reduceCtorEq, q0, qd, qx, qp, hpa, hfe] <;> rfl) ?_
      refine Qq ?_
      refine Qq ?_
      refine Qq ?_
      refine Q_nil ?_
      have tr : ∀ a b c d e f g h i j k m n o p q r s t u v w x y z A B C D E F G H I J K L M : AV, let l := lc_rresults_ok a b c d e f g h i j k m n o p q r s t u v w x y z; trim ((16,M)::(67,L)::(66,K)::(65,J)::(64,I)::(63,H)::(62,G)::(61,F)::(60,E)::(59,D)::(58,C)::(57,B)::(56,A)::l) l = [(0,a),(1,b),(2,c),(3,d),(4,e),(8,f),(9,g),(10,h),(12,i),(13,j),(14,k),(15,m),(16,M),(21,o),(22,p),(23,q),(24,r),(36,s),(40,t),(45,u),(46,v),(47,w),(48,x),(55,y),(79,z)] := by intros; rfl
      refine R_nil (tr ..) ?_; clear tr
      refine then_n ?_
      refine at_seq rfl ?_
      refine rg rfl ?_
      refine Rq ?_
      refine Rq ?_
      refine Rq ?_
      refine R_q rfl (by simp (disch := first | omega | (simp only [List.length_map, List.length_append, List.length_set, List.length_cons, List.length_nil]; omega)) only [go_sem, ↓reduceIte, Nat.reduceEqDiff, reduceCtorEq, q0, qd, qx, qp, hpa, hfe] <;> rfl) ?_
      refine Rq ?_
      refine Rq ?_
      refine Rq ?_
      have hO2 := hO
      have lq0 := hget_lt q0
      have lqd := hget_lt qd
      have lqx := hget_lt qx
      have lqp := hget_lt qp
      refine A_store ty2 (by simp (disch := first | omega | (simp only [List.length_map, List.length_append, List.length_set, List.length_cons, List.length_nil]; omega)) only [go_sem, ↓reduceIte, Nat.reduceEqDiff, reduceCtorEq, q0, qd, qx, qp, hpa, hfe] <;> rfl) (by simp (disch := first | omega | (simp only [List.length_map, List.length_append, List.length_set, List.length_cons, List.length_nil]; omega)) only [go_sem, ↓reduceIte, Nat.reduceEqDiff, reduceCtorEq, q0, qd, qx, qp, hpa, hfe] <;> rfl) qd ⟨by omega, rfl, by simp only [List.length_map]; omega⟩ (k' := (D2.set w (gt D2 w + min 2 (gt f (3 * w + 1) - gt D2 w))).map AV.i) (by rw [setL_map]) ?_
      intro HM w8
      have ew8 := w8.len
      have q0 := (w8.old _ (by omega)).trans q0
      have qx := (w8.old _ (by omega)).trans qx
      have qp := (w8.old _ (by omega)).trans qp
      have qd := w8.new
      have hO := hO2.mono fun b hb k hk => (w8.old _ (by omega)).trans hk
      have tr : ∀ a b c d e f g h i j k m n o p q r s t u v w x y z A B C D E F G : AV, let l := lc_rresults_ok a b c d e f g h i j k m n o p q r s t u v w x y z; trim ((74,G)::(73,F)::(72,E)::(71,D)::(70,C)::(69,B)::(68,A)::l) l = [(0,a),(1,b),(2,c),(3,d),(4,e),(8,f),(9,g),(10,h),(12,i),(13,j),(14,k),(15,m),(16,n),(21,o),(22,p),(23,q),(24,r),(36,s),(40,t),(45,u),(46,v),(47,w),(48,x),(55,y),(79,z)] := by intros; rfl
      refine R_nil (tr ..) ?_; clear tr
      refine then_n ?_
      refine at_seq rfl ?_
      refine at_seq rfl ?_
      refine rg rfl ?_
      refine Rq ?_
      refine R_q rfl (by simp (disch := first | omega | (simp only [List.length_map, List.length_append, List.length_set, List.length_cons, List.length_nil]; omega)) only [go_sem, ↓reduceIte, Nat.reduceEqDiff, reduceCtorEq, q0, qd, qx, qp, hpa, hfe] <;> rfl) ?_
      refine Rq ?_
      refine R_q rfl (by simp (disch := first | omega | (simp only [List.length_map, List.length_append, List.length_set, List.length_cons, List.length_nil]; omega)) only [go_sem, ↓reduceIte, Nat.reduceEqDiff, reduceCtorEq, q0, qd, qx, qp, hpa, hfe] <;> rfl) ?_
      refine Rq ?_
      have tr : ∀ a b c d e f g h i j k m n o p q r s t u v w x y z A B C D E : AV, let l := lc_rresults_ok a b c d e f g h i j k m n o p q r s t u v w x y z; trim ((79,E)::(78,D)::(77,C)::(76,B)::(75,A)::l) l = [(0,a),(1,b),(2,c),(3,d),(4,e),(8,f),(9,g),(10,h),(12,i),(13,j),(14,k),(15,m),(16,n),(21,o),(22,p),(23,q),(24,r),(36,s),(40,t),(45,u),(46,v),(47,w),(48,x),(55,y),(79,E)] := by intros; rfl
      refine R_nil (tr ..) ?_; clear tr
      refine then_n ?_
      refine cdd (fun h8 => ?_) (fun h8 => ?_)
      ·
       try simp only [decide_eq_true_eq, decide_eq_false_iff_not, Bool.not_eq_true', Bool.not_eq_false', beq_iff_eq, beq_eq_false_iff_ne, ne_eq] at h8
       refine rg rfl ?_
       refine Rq ?_
       refine Rq ?_
       refine Rq ?_
       have tr : ∀ a b c d e f g h i j k m n o p q r s t u v w x y z A B C : AV, let l := lc_rresults_ok a b c d e f g h i j k m n o p q r s t u v w x y z; trim ((16,C)::(81,B)::(80,A)::l) l = [(0,a),(1,b),(2,c),(3,d),(4,e),(8,f),(9,g),(10,h),(12,i),(13,j),(14,k),(15,m),(16,C),(21,o),(22,p),(23,q),(24,r),(36,s),(40,t),(45,u),(46,v),(47,w),(48,x),(55,y),(79,z)] := by intros; rfl
       refine R_nil (tr ..) ?_; clear tr
       refine then_n ?_
       refine rg rfl ?_
       refine Rq ?_
       refine Rq ?_
       refine A_buildSlice (bs40' _ _ _ _ _ (by simp (disch := first | omega | (simp only [List.length_map, List.length_append, List.length_set, List.length_cons, List.length_nil]; omega)) only [go_sem, ↓reduceIte, Nat.reduceEqDiff, reduceCtorEq, q0, qd, qx, qp, hpa, hfe] <;> rfl)) ?_
       intro HEb n5b
       have en5b := n5b.len
       have q0 := (n5b.old _ (hget_lt q0)).trans q0
       have qd := (n5b.old _ (hget_lt qd)).trans qd
       have qx := (n5b.old _ (hget_lt qx)).trans qx
       have qn := n5b.new
       have hO := hO.mono fun b hb k hk => (n5b.old _ (hget_lt hk)).trans hk
       have lq0 := hget_lt q0
       have lqd := hget_lt qd
       have lqx := hget_lt qx
       obtain ⟨b, hbl, hbl2, hap⟩ := outI_append' (lim := H.length) hO qn (by omega) (by omega) (by omega)
       have hbx : b ≠ HB.length := by
         rcases hbl2 with h | h
         · exact hob2 b h
         · omega
       refine A_append (by simp (disch := first | omega | (simp only [List.length_map, List.length_append, List.length_set, List.length_cons, List.length_nil]; omega)) only [go_sem, ↓reduceIte, Nat.reduceEqDiff, reduceCtorEq, q0, qd, qx, qp, hpa, hfe]; exact hap) ?_
       intro HFb g5b
       have eg5b := g5b.len
       have q0 := (g5b.old _ (by omega) lq0).trans q0
       have qd := (g5b.old _ (by omega) lqd).trans qd
       have qx := (g5b.old _ (by omega) lqx).trans qx
       have qq := g5b.new
       refine Rq ?_
       have tr : ∀ a b c d e f g h i j k m n o p q r s t u v w x y z A B C D E : AV, let l := lc_rresults_ok a b c d e f g h i j k m n o p q r s t u v w x y z; trim ((9,E)::(85,D)::(84,C)::(83,B)::(82,A)::l) l = [(0,a),(1,b),(2,c),(3,d),(4,e),(8,f),(9,E),(10,h),(12,i),(13,j),(14,k),(15,m),(16,n),(21,o),(22,p),(23,q),(24,r),(36,s),(40,t),(45,u),(46,v),(47,w),(48,x),(55,y),(79,z)] := by intros; rfl
       refine R_nil (tr ..) ?_; clear tr
       refine blk_n ?_
       refine then_n ?_
       refine rg rfl ?_
       refine Rq ?_
       refine Rq ?_
       have tr : ∀ a b c d e f g h i j k m n o p q r s t u v w x y z A B : AV, let l := lc_rresults_ok a b c d e f g h i j k m n o p q r s t u v w x y z; trim ((47,B)::(86,A)::l) l = [(0,a),(1,b),(2,c),(3,d),(4,e),(8,f),(9,g),(10,h),(12,i),(13,j),(14,k),(15,m),(16,n),(21,o),(22,p),(23,q),(24,r),(36,s),(40,t),(45,u),(46,v),(47,B),(48,x),(55,y),(79,z)] := by intros; rfl
       refine R_nil (tr ..) ?_; clear tr
       refine then_n ?_
       exact ⟨_, _, ⟨w + 1, (.own 1 HEb.length 0 (R2.length + 1)), _, R2 ++ [_], true, _, _, _, _, _, _, rfl, rfl, by exact q0, by exact qd, by exact qx, by first | (show HB.length < HFb.length; omega) | (show HB.length < HK.length; omega), by omega, by first | exact OutI.new g5b (by omega) rfl | exact hO, by first | exact hob2 | (intro b7 hb7; injection hb7 with h8 h9; omega), by first | exact hR2 | (rw [List.length_append, List.length_singleton, hRl]; rfl), by first | exact giv_step hD2 (by omega) | exact hD2, by first | exact ⟨fun _ => ⟨w, by omega, hnm⟩, fun _ => rfl⟩ | exact ⟨fun hh => by obtain ⟨i, hi, he⟩ := hmet.1 hh; exact ⟨i, by omega, he⟩, fun ⟨i, hi, he⟩ => hmet.2 ⟨i, (by by_cases hiw : i = w; (subst hiw; exact absurd he (by assumption)); (omega)), he⟩⟩⟩, by rfl, by omega⟩
      ·
       try simp only [decide_eq_true_eq, decide_eq_false_iff_not, Bool.not_eq_true', Bool.not_eq_false', beq_iff_eq, beq_eq_false_iff_ne, ne_eq] at h8
       refine at_skip rfl ?_
       refine then_n ?_
       refine rg rfl ?_
       refine Rq ?_
       refine Rq ?_
       refine A_buildSlice (bs40' _ _ _ _ _ (by simp (disch := first | omega | (simp only [List.length_map, List.length_append, List.length_set, List.length_cons, List.length_nil]; omega)) only [go_sem, ↓reduceIte, Nat.reduceEqDiff, reduceCtorEq, q0, qd, qx, qp, hpa, hfe] <;> rfl)) ?_
       intro HEb n5b
       have en5b := n5b.len
       have q0 := (n5b.old _ (hget_lt q0)).trans q0
       have qd := (n5b.old _ (hget_lt qd)).trans qd
       have qx := (n5b.old _ (hget_lt qx)).trans qx
       have qn := n5b.new
       have hO := hO.mono fun b hb k hk => (n5b.old _ (hget_lt hk)).trans hk
       have lq0 := hget_lt q0
       have lqd := hget_lt qd
       have lqx := hget_lt qx
       obtain ⟨b, hbl, hbl2, hap⟩ := outI_append' (lim := H.length) hO qn (by omega) (by omega) (by omega)
       have hbx : b ≠ HB.length := by
         rcases hbl2 with h | h
         · exact hob2 b h
         · omega
       refine A_append (by simp (disch := first | omega | (simp only [List.length_map, List.length_append, List.length_set, List.length_cons, List.length_nil]; omega)) only [go_sem, ↓reduceIte, Nat.reduceEqDiff, reduceCtorEq, q0, qd, qx, qp, hpa, hfe]; exact hap) ?_
       intro HFb g5b
       have eg5b := g5b.len
       have q0 := (g5b.old _ (by omega) lq0).trans q0
       have qd := (g5b.old _ (by omega) lqd).trans qd
       have qx := (g5b.old _ (by omega) lqx).trans qx
       have qq := g5b.new
       refine Rq ?_
       have tr : ∀ a b c d e f g h i j k m n o p q r s t u v w x y z A B C D E : AV, let l := lc_rresults_ok a b c d e f g h i j k m n o p q r s t u v w x y z; trim ((9,E)::(85,D)::(84,C)::(83,B)::(82,A)::l) l = [(0,a),(1,b),(2,c),(3,d),(4,e),(8,f),(9,E),(10,h),(12,i),(13,j),(14,k),(15,m),(16,n),(21,o),(22,p),(23,q),(24,r),(36,s),(40,t),(45,u),(46,v),(47,w),(48,x),(55,y),(79,z)] := by intros; rfl
       refine R_nil (tr ..) ?_; clear tr
       refine blk_n ?_
       refine then_n ?_
       refine rg rfl ?_
       refine Rq ?_
       refine Rq ?_
       have tr : ∀ a b c d e f g h i j k m n o p q r s t u v w x y z A B : AV, let l := lc_rresults_ok a b c d e f g h i j k m n o p q r s t u v w x y z; trim ((47,B)::(86,A)::l) l = [(0,a),(1,b),(2,c),(3,d),(4,e),(8,f),(9,g),(10,h),(12,i),(13,j),(14,k),(15,m),(16,n),(21,o),(22,p),(23,q),(24,r),(36,s),(40,t),(45,u),(46,v),(47,B),(48,x),(55,y),(79,z)] := by intros; rfl
       refine R_nil (tr ..) ?_; clear tr
       refine then_n ?_
       exact ⟨_, _, ⟨w + 1, (.own 1 HEb.length 0 (R2.length + 1)), _, R2 ++ [_], true, _, _, _, _, _, _, rfl, rfl, by exact q0, by exact qd, by exact qx, by first | (show HB.length < HFb.length; omega) | (show HB.length < HK.length; omega), by omega, by first | exact OutI.new g5b (by omega) rfl | exact hO, by first | exact hob2 | (intro b7 hb7; injection hb7 with h8 h9; omega), by first | exact hR2 | (rw [List.length_append, List.length_singleton, hRl]; rfl), by first | exact giv_step hD2 (by omega) | exact hD2, by first | exact ⟨fun _ => ⟨w, by omega, hnm⟩, fun _ => rfl⟩ | exact ⟨fun hh => by obtain ⟨i, hi, he⟩ := hmet.1 hh; exact ⟨i, by omega, he⟩, fun ⟨i, hi, he⟩ => hmet.2 ⟨i, (by by_cases hiw : i = w; (subst hiw; exact absurd he (by assumption)); (omega)), he⟩⟩⟩, by rfl, by omega⟩
    ·
     try simp only [decide_eq_true_eq, decide_eq_false_iff_not, Bool.not_eq_true', Bool.not_eq_false', beq_iff_eq, beq_eq_false_iff_ne, ne_eq] at h6
     refine at_exit rfl ?_
     refine then_x ?_
     refine then_x ?_
     refine blk_x ?_
     refine blk_n ?_
     refine then_n ?_
     refine rg rfl ?_
     skip
     refine Rq ?_
     refine Rq ?_
     have tr : ∀ a b c d e f g h i j k m n o p q r s t u v w x y z A B : AV, let l := lc_rresults_ok a b c d e f g h i j k m n o p q r s t u v w x y z; trim ((23,B)::(87,A)::l) l = [(0,a),(1,b),(2,c),(3,d),(4,e),(8,f),(9,g),(10,h),(12,i),(13,j),(14,k),(15,m),(16,n),(21,o),(22,p),(23,B),(24,r),(36,s),(40,t),(45,u),(46,v),(47,w),(48,x),(55,y),(79,z)] := by intros; rfl
     refine R_nil (tr ..) ?_; clear tr
     refine then_n ?_
     exact ⟨_, _, ⟨u + 1, o2, D2, R2, _, _, _, _, _, _, _, _, _, _, _, _, _, _, rfl, rfl, by exact q0, by exact qd, by first | (show H2.length ≤ HFa.length; omega) | (show H2.length ≤ HG.length; omega), by omega, by first | exact hO | exact OutI.new g5a (by omega) rfl, by first | (rw [List.length_append, List.length_singleton]; omega) | (rw [hR2]; have hme : met = true := hmet.2 (by obtain ⟨i, hi, he⟩ := WQ.all u (by omega) ⟨by omega, by omega⟩; exact ⟨i, by omega, he⟩); rw [hme]; rfl), by first | exact hD | exact hD2⟩, by rfl, by omega⟩
 ·
  try simp only [decide_eq_true_eq, decide_eq_false_iff_not, Bool.not_eq_true', Bool.not_eq_false', beq_iff_eq, beq_eq_false_iff_ne, ne_eq] at h1
  refine at_exit rfl ?_
  refine then_x ?_
  refine then_x ?_
  refine blk_x ?_
  refine then_n ?_
  refine at_seq rfl ?_
  refine rg rfl ?_
  refine Rq ?_
  refine Rq ?_
  have tr : ∀ a b c d e f g h i j k m n o p q r s t u v w x y z A B : AV, let l := lc_rresults_ok a b c d e f g h i j k m n o p q r s t u v w x y z; trim ((8,B)::(88,A)::l) l = [(0,a),(1,b),(2,c),(3,d),(4,e),(8,B),(9,g),(10,h),(12,i),(13,j),(14,k),(15,m),(16,n),(21,o),(22,p),(23,q),(24,r),(36,s),(40,t),(45,u),(46,v),(47,w),(48,x),(55,y),(79,z)] := by intros; rfl
  refine R_nil (tr ..) ?_; clear tr
  refine then_n ?_
  refine at_ret rfl ?_
  obtain rfl : u = L.length := by omega
  refine fpure ?_
  exact ⟨⟨R, (hO.lo (by omega : H.length ≤ H2.length)).frz, hR⟩, rfl⟩

end Go.Proofs.Ytdicnojnkbmdlaa
end
section
set_option linter.unusedSimpArgs false
set_option linter.unusedVariables false
set_option maxHeartbeats 40000000
set_option maxRecDepth 4000
namespace Go.Proofs.Ytdicnojnkbmdlaa
open Go Go.Am

abbrev lc_rreach_ok (a b c d e f g h i j k m n o p q r s : AV) : Env := [(0,a),(1,b),(2,c),(4,d),(5,e),(6,f),(7,g),(8,h),(9,i),(10,j),(11,k),(27,m),(34,n),(35,o),(36,p),(37,q),(61,r),(95,s)]
theorem rreach_ok (lim : Nat) (H : Heap) (n s t : Int) (E : List Ed) (f : List Int) (bf N : Nat) (hN : N = f.length) (qf : hget H bf = some (f.map AV.i)) (g : GOK n s t E) (hl : f.length = E.length) (hrr : fRng E f) :
    ACall sig lim 46 [.agg (graphC n s t E), .own 1 bf 0 N] H fun r H' => r = .tup [boolsAV (reachS n s E f).seen, intsAV (reachS n s E f).way] ∧ H' = H := by
 subst hN
 have lf := hget_lt qf
 obtain ⟨g1, g2, g3, g4, g5, g6, g7, g8, ge⟩ := g
 have g : GOK n s t E := ⟨g1, g2, g3, g4, g5, g6, g7, g8, ge⟩
 have q0 : True := trivial
 have qs : True := trivial
 have qy : True := trivial
 have qq : True := trivial
 have qx : True := trivial
 have qa : True := trivial
 refine ACall_pure (fa := fa46) rfl rfl rfl rfl ?_
 have tr : ∀ a0 a1 : AV, env0 fa46.keep [a0, a1] = [(0,a0),(1,a1),(2,.any),(4,.any),(5,.any),(6,.any),(7,.any),(8,.any),(9,.any),(10,.any),(11,.any),(27,.any),(34,.any),(35,.any),(36,.any),(37,.any),(61,.any),(95,.any)] := fun a0 a1 => rfl
 refine W_to (tr _ _) ?_; clear tr
 refine at_seq rfl ?_
 refine rg rfl ?_
 refine A_box rfl (by simp (disch := first | omega | (simp only [List.length_map, List.length_append, List.length_set, List.length_cons, List.length_nil]; omega)) only [go_sem, ↓reduceIte, Nat.reduceEqDiff, reduceCtorEq] <;> rfl) ?_
 intro H1 n0
 have en0 := n0.len
 have qf := (n0.old _ (hget_lt qf)).trans qf
 have q0 := n0.new
 refine Rq ?_
 refine Rq ?_
 have tr : ∀ a b c d e f g h i j k m n o p q r s t u v : AV, let l := lc_rreach_ok a b c d e f g h i j k m n o p q r s; trim ((5,v)::(4,u)::(2,t)::l) l = [(0,a),(1,b),(2,t),(4,u),(5,v),(6,f),(7,g),(8,h),(9,i),(10,j),(11,k),(27,m),(34,n),(35,o),(36,p),(37,q),(61,r),(95,s)] := by intros; rfl
 refine R_nil (tr ..) ?_; clear tr
 refine then_n ?_
 refine at_seq rfl ?_
 refine rg rfl ?_
 refine Rq ?_
 refine R_q rfl (by simp (disch := first | omega | (simp only [List.length_map, List.length_append, List.length_set, List.length_cons, List.length_nil]; omega)) only [go_sem, ↓reduceIte, Nat.reduceEqDiff, reduceCtorEq, q0, qf, qs, qy, qq, qx, qa] <;> rfl) ?_
 refine A_makeSlice (ms28 _ _ n _ _ _ (by omega) (by omega) (by simp (disch := first | omega | (simp only [List.length_map, List.length_append, List.length_set, List.length_cons, List.length_nil]; omega)) only [go_sem, ↓reduceIte, Nat.reduceEqDiff, reduceCtorEq, q0]) (by simp (disch := first | omega | (simp only [List.length_map, List.length_append, List.length_set, List.length_cons, List.length_nil]; omega)) only [go_sem, ↓reduceIte, Nat.reduceEqDiff, reduceCtorEq, q0])) ?_
 intro H2 n1
 have en1 := n1.len
 have q0 := (n1.old _ (hget_lt q0)).trans q0
 have qf := (n1.old _ (hget_lt qf)).trans qf
 have qs := n1.new
 refine Rq ?_
 have tr : ∀ a b c d e f g h i j k m n o p q r s t u v w : AV, let l := lc_rreach_ok a b c d e f g h i j k m n o p q r s; trim ((6,w)::(14,v)::(13,u)::(12,t)::l) l = [(0,a),(1,b),(2,c),(4,d),(5,e),(6,w),(7,g),(8,h),(9,i),(10,j),(11,k),(27,m),(34,n),(35,o),(36,p),(37,q),(61,r),(95,s)] := by intros; rfl
 refine R_nil (tr ..) ?_; clear tr
 refine then_n ?_
 refine at_seq rfl ?_
 refine rg rfl ?_
 refine Rq ?_
 refine R_q rfl (by simp (disch := first | omega | (simp only [List.length_map, List.length_append, List.length_set, List.length_cons, List.length_nil]; omega)) only [go_sem, ↓reduceIte, Nat.reduceEqDiff, reduceCtorEq, q0, qf, qs, qy, qq, qx, qa] <;> rfl) ?_
 refine A_makeSlice (ms40 _ _ n _ _ _ (by omega) (by omega) (by simp (disch := first | omega | (simp only [List.length_map, List.length_append, List.length_set, List.length_cons, List.length_nil]; omega)) only [go_sem, ↓reduceIte, Nat.reduceEqDiff, reduceCtorEq, q0]) (by simp (disch := first | omega | (simp only [List.length_map, List.length_append, List.length_set, List.length_cons, List.length_nil]; omega)) only [go_sem, ↓reduceIte, Nat.reduceEqDiff, reduceCtorEq, q0])) ?_
 intro H3 n2
 have en2 := n2.len
 have q0 := (n2.old _ (hget_lt q0)).trans q0
 have qf := (n2.old _ (hget_lt qf)).trans qf
 have qs := (n2.old _ (hget_lt qs)).trans qs
 have qy := n2.new
 refine Rq ?_
 have tr : ∀ a b c d e f g h i j k m n o p q r s t u v w : AV, let l := lc_rreach_ok a b c d e f g h i j k m n o p q r s; trim ((7,w)::(17,v)::(16,u)::(15,t)::l) l = [(0,a),(1,b),(2,c),(4,d),(5,e),(6,f),(7,w),(8,h),(9,i),(10,j),(11,k),(27,m),(34,n),(35,o),(36,p),(37,q),(61,r),(95,s)] := by intros; rfl
 refine R_nil (tr ..) ?_; clear tr
 refine then_n ?_
 refine at_seq rfl ?_
 refine rg rfl ?_
 have hrl : (List.replicate n.toNat false).length = n.toNat := by simp
 refine Rq ?_
 refine Rq ?_
 refine R_q rfl (by simp (disch := first | omega | (simp only [List.length_map, List.length_append, List.length_set, List.length_cons, List.length_nil]; omega)) only [go_sem, ↓reduceIte, Nat.reduceEqDiff, reduceCtorEq, q0, qf, qs, qy, qq, qx, qa] <;> rfl) ?_
 refine Rq ?_
 have so0 := (st0_ok g).1
 have lq0 := hget_lt q0
 have lqf := hget_lt qf
 have lqs := hget_lt qs
 have lqy := hget_lt qy
 refine A_store ty4 (by simp (disch := first | omega | (simp only [List.length_map, List.length_append, List.length_set, List.length_cons, List.length_nil]; omega)) only [go_sem, ↓reduceIte, Nat.reduceEqDiff, reduceCtorEq, q0, qf, qs, qy, qq, qx, qa] <;> rfl) (by simp (disch := first | omega | (simp only [List.length_map, List.length_append, List.length_set, List.length_cons, List.length_nil]; omega)) only [go_sem, ↓reduceIte, Nat.reduceEqDiff, reduceCtorEq, q0, qf, qs, qy, qq, qx, qa] <;> rfl) qs ⟨by omega, rfl, by first | (simp only [List.length_map]; omega) | (simp only [flatA_len]; omega) | exact Nat.le_refl _ | decide | simp⟩ (setL_b _ _ _) ?_
 intro H4 w1
 have ew1 := w1.len
 have q0 := (w1.old _ (by omega)).trans q0
 have qf := (w1.old _ (by omega)).trans qf
 have qy := (w1.old _ (by omega)).trans qy
 have qs := w1.new
 have tr : ∀ a b c d e f g h i j k m n o p q r s t u v w : AV, let l := lc_rreach_ok a b c d e f g h i j k m n o p q r s; trim ((21,w)::(20,v)::(19,u)::(18,t)::l) l = [(0,a),(1,b),(2,c),(4,d),(5,e),(6,f),(7,g),(8,h),(9,i),(10,j),(11,k),(27,m),(34,n),(35,o),(36,p),(37,q),(61,r),(95,s)] := by intros; rfl
 refine R_nil (tr ..) ?_; clear tr
 refine then_n ?_
 refine at_seq rfl ?_
 refine rg rfl ?_
 refine Rq ?_
 refine R_q rfl (by simp (disch := first | omega | (simp only [List.length_map, List.length_append, List.length_set, List.length_cons, List.length_nil]; omega)) only [go_sem, ↓reduceIte, Nat.reduceEqDiff, reduceCtorEq, q0, qf, qs, qy, qq, qx, qa] <;> rfl) ?_
 refine A_buildSlice (bs40 _ _ _ _ s (by simp (disch := first | omega | (simp only [List.length_map, List.length_append, List.length_set, List.length_cons, List.length_nil]; omega)) only [go_sem, ↓reduceIte, Nat.reduceEqDiff, reduceCtorEq, q0])) ?_
 intro H5 n3
 have en3 := n3.len
 have q0 := (n3.old _ (hget_lt q0)).trans q0
 have qf := (n3.old _ (hget_lt qf)).trans qf
 have qs := (n3.old _ (hget_lt qs)).trans qs
 have qy := (n3.old _ (hget_lt qy)).trans qy
 have qq := n3.new
 refine Rq ?_
 have tr : ∀ a b c d e f g h i j k m n o p q r s t u v w : AV, let l := lc_rreach_ok a b c d e f g h i j k m n o p q r s; trim ((8,w)::(24,v)::(23,u)::(22,t)::l) l = [(0,a),(1,b),(2,c),(4,d),(5,e),(6,f),(7,g),(8,w),(9,i),(10,j),(11,k),(27,m),(34,n),(35,o),(36,p),(37,q),(61,r),(95,s)] := by intros; rfl
 refine R_nil (tr ..) ?_; clear tr
 refine then_n ?_
 refine at_seq rfl ?_
 refine at_block rfl ?_
 refine loop_n rfl (fun mm kv H' => ∃ k : Nat, ∃ st : BS, ∃ bq : Nat, ∃ o : Nat, ∃ Q : List Int, ∃ m : Nat, ∃ x9 x10 x11 x27 x34 x35 x36 x37 x61 x95 : AV, (kv = [(8, AV.own 1 bq o m), (9, x9), (10, x10), (11, x11), (27, x27), (34, x34), (35, x35), (36, x36), (37, x37), (61, x61), (95, x95)]) ∧ (mm = k) ∧ (hget H' H.length = some (graphC n s t E)) ∧ (hget H' bf = some (f.map AV.i)) ∧ (hget H' H1.length = some (st.seen.map AV.b)) ∧ (hget H' H2.length = some ((st.way).map AV.i)) ∧ (hget H' bq = some (Q.map AV.i)) ∧ (H2.length < bq) ∧ (o + st.q.length = Q.length) ∧ (Q.drop o = st.q) ∧ (SOK n st) ∧ (meas st ≤ k) ∧ (bfs E f k st = reachS n s E f) ∧ (k ≤ 64) ∧ (m = st.q.length)) ⟨n.toNat, st0 n s, H4.length, 0, [s], 1, _, _, _, _, _, _, _, _, _, _, rfl, rfl, by exact q0, by exact qf, by exact qs, by exact qy, by exact qq, by omega, by rfl, by rfl, by exact (st0_ok g).1, by exact Nat.le_of_eq (st0_ok g).2, by rfl, by omega, by rfl⟩ (by rfl) ?_
 rintro mm kv HA ⟨k, st, bq, o, Q, m, x9, x10, x11, x27, x34, x35, x36, x37, x61, x95, rfl, rfl, q0, qf, qs, qy, qq, hbq, hoq, hqd, so, hmk, hbf, hk64, hm8⟩
 have tr : ∀ a b c d e f g h i j k m n o p q r s t u v w x y z A B C D : AV, upd [(0,a),(1,b),(2,c),(4,d),(5,e),(6,f),(7,g),(8,h),(9,i),(10,j),(11,k),(27,m),(34,n),(35,o),(36,p),(37,q),(61,r),(95,s)] [(8,t),(9,u),(10,v),(11,w),(27,x),(34,y),(35,z),(36,A),(37,B),(61,C),(95,D)] = [(0,a),(1,b),(2,c),(4,d),(5,e),(6,f),(7,g),(8,t),(9,u),(10,v),(11,w),(27,x),(34,y),(35,z),(36,A),(37,B),(61,C),(95,D)] := by intros; rfl
 refine W_to (tr ..) ?_; clear tr
 subst hm8
 have lq0 := hget_lt q0
 have lqf := hget_lt qf
 have lqs := hget_lt qs
 have lqy := hget_lt qy
 have lqq := hget_lt qq
 have sos := so.seen
 have sow := so.way
 refine at_seq rfl ?_
 refine at_seq rfl ?_
 refine rg rfl ?_
 refine Rq ?_
 refine Rq ?_
 refine Rq ?_
 have tr : ∀ a b c d e f g h i j k m n o p q r s t u v : AV, let l := lc_rreach_ok a b c d e f g h i j k m n o p q r s; trim ((27,v)::(26,u)::(25,t)::l) l = [(0,a),(1,b),(2,c),(4,d),(5,e),(6,f),(7,g),(8,h),(9,i),(10,j),(11,k),(27,v),(34,n),(35,o),(36,p),(37,q),(61,r),(95,s)] := by intros; rfl
 refine R_nil (tr ..) ?_; clear tr
 refine then_n ?_
 refine cdd (fun h1 => ?_) (fun h1 => ?_)
 ·
  try simp only [decide_eq_true_eq, decide_eq_false_iff_not, Bool.not_eq_true', Bool.not_eq_false', beq_iff_eq, beq_eq_false_iff_ne, ne_eq] at h1
  refine at_skip rfl ?_
  refine then_n ?_
  refine at_block rfl ?_
  refine at_seq rfl ?_
  refine rg rfl ?_
  obtain ⟨k', rfl, hoQ, hdl, so1, hmk2, hv0, hv1, hbf2⟩ := q_pop' so hmk hbf hqd hoq (by omega)
  refine Rq ?_
  refine Rq ?_
  refine R_q rfl (by simp (disch := first | omega | (simp only [List.length_map, List.length_append, List.length_set, List.length_cons, List.length_nil]; omega)) only [go_sem, ↓reduceIte, Nat.reduceEqDiff, reduceCtorEq, q0, qf, qs, qy, qq, qx, qa] <;> rfl) ?_
  refine Rq ?_
  have tr : ∀ a b c d e f g h i j k m n o p q r s t u v w : AV, let l := lc_rreach_ok a b c d e f g h i j k m n o p q r s; trim ((9,w)::(30,v)::(29,u)::(28,t)::l) l = [(0,a),(1,b),(2,c),(4,d),(5,e),(6,f),(7,g),(8,h),(9,w),(10,j),(11,k),(27,m),(34,n),(35,o),(36,p),(37,q),(61,r),(95,s)] := by intros; rfl
  refine R_nil (tr ..) ?_; clear tr
  refine then_n ?_
  refine at_seq rfl ?_
  refine rg rfl ?_
  refine Rq ?_
  refine R_q rfl (sl40 _ _ _ _ hdl) ?_
  refine Rq ?_
  have tr : ∀ a b c d e f g h i j k m n o p q r s t u v : AV, let l := lc_rreach_ok a b c d e f g h i j k m n o p q r s; trim ((8,v)::(32,u)::(31,t)::l) l = [(0,a),(1,b),(2,c),(4,d),(5,e),(6,f),(7,g),(8,v),(9,i),(10,j),(11,k),(27,m),(34,n),(35,o),(36,p),(37,q),(61,r),(95,s)] := by intros; rfl
  refine R_nil (tr ..) ?_; clear tr
  refine then_n ?_
  refine at_seq rfl ?_
  refine rg rfl ?_
  refine Rq ?_
  refine R_q rfl (by simp (disch := first | omega | (simp only [List.length_map, List.length_append, List.length_set, List.length_cons, List.length_nil]; omega)) only [go_sem, ↓reduceIte, Nat.reduceEqDiff, reduceCtorEq, q0, qf, qs, qy, qq, qx, qa] <;> rfl) ?_
  refine Rq ?_
  refine Rq ?_
  have tr : ∀ a b c d e f g h i j k m n o p q r s t u v w : AV, let l := lc_rreach_ok a b c d e f g h i j k m n o p q r s; trim ((36,w)::(35,v)::(34,u)::(33,t)::l) l = [(0,a),(1,b),(2,c),(4,d),(5,e),(6,f),(7,g),(8,h),(9,i),(10,j),(11,k),(27,m),(34,u),(35,v),(36,w),(37,q),(61,r),(95,s)] := by intros; rfl
  refine R_nil (tr ..) ?_; clear tr
  refine then_n ?_
  refine at_block rfl ?_
  refine loop_n rfl (fun mm kv H' => ∃ u : Nat, ∃ st2 : BS, ∃ bq2 : Nat, ∃ o2 : Nat, ∃ Q2 : List Int, ∃ m2 : Nat, ∃ x10 x11 x37 x61 x95 : AV, (kv = [(8, AV.own 1 bq2 o2 m2), (10, x10), (11, x11), (36, AV.i u), (37, x37), (61, x61), (95, x95)]) ∧ (mm = E.length - u) ∧ (hget H' H.length = some (graphC n s t E)) ∧ (hget H' bf = some (f.map AV.i)) ∧ (hget H' H1.length = some (st2.seen.map AV.b)) ∧ (hget H' H2.length = some ((st2.way).map AV.i)) ∧ (hget H' bq2 = some (Q2.map AV.i)) ∧ (H2.length < bq2) ∧ (o2 + st2.q.length = Q2.length) ∧ (Q2.drop o2 = st2.q) ∧ (u ≤ E.length) ∧ (st2 = scanN E f (gt Q o) ⟨st.seen, st.way, Q.drop (o + 1)⟩ u) ∧ (m2 = st2.q.length)) ⟨0, ⟨st.seen, st.way, Q.drop (o + 1)⟩, bq, (o + 1), Q, _, _, _, _, _, _, rfl, rfl, by exact q0, by exact qf, by exact qs, by exact qy, by exact qq, by exact hbq, by simp only [List.length_drop]; omega, by rfl, by omega, by rfl, by rfl⟩ (by rfl) ?_
  rintro mm kv HB ⟨u, st2, bq2, o2, Q2, m2, x10, x11, x37, x61, x95, rfl, rfl, q0, qf, qs, qy, qq, hbq2, hoq2, hqd2, hu, hs2, hm8⟩
  have tr : ∀ a b c d e f g h i j k m n o p q r s t u v w x y z : AV, upd [(0,a),(1,b),(2,c),(4,d),(5,e),(6,f),(7,g),(8,h),(9,i),(10,j),(11,k),(27,m),(34,n),(35,o),(36,p),(37,q),(61,r),(95,s)] [(8,t),(10,u),(11,v),(36,w),(37,x),(61,y),(95,z)] = [(0,a),(1,b),(2,c),(4,d),(5,e),(6,f),(7,g),(8,t),(9,i),(10,u),(11,v),(27,m),(34,n),(35,o),(36,w),(37,x),(61,y),(95,z)] := by intros; rfl
  refine W_to (tr ..) ?_; clear tr
  subst hm8
  have lq0 := hget_lt q0
  have lqf := hget_lt qf
  have lqs := hget_lt qs
  have lqy := hget_lt qy
  have lqq := hget_lt qq
  have sk := scan_ok' g (f := f) (v := gt Q o) so1 u hu
  rw [← hs2] at sk
  have sos := sk.1.seen
  have sow := sk.1.way
  have skm := sk.2
  have hmq : st2.q.length ≤ meas st2 := by unfold meas; omega
  refine at_seq rfl ?_
  refine rg rfl ?_
  refine Rq ?_
  have tr : ∀ a b c d e f g h i j k m n o p q r s t : AV, let l := lc_rreach_ok a b c d e f g h i j k m n o p q r s; trim ((37,t)::l) l = [(0,a),(1,b),(2,c),(4,d),(5,e),(6,f),(7,g),(8,h),(9,i),(10,j),(11,k),(27,m),(34,n),(35,o),(36,p),(37,t),(61,r),(95,s)] := by intros; rfl
  refine R_nil (tr ..) ?_; clear tr
  refine then_n ?_
  refine at_seq rfl ?_
  refine cdd (fun h2 => ?_) (fun h2 => ?_)
  ·
   try simp only [decide_eq_true_eq, decide_eq_false_iff_not, Bool.not_eq_true', Bool.not_eq_false', beq_iff_eq, beq_eq_false_iff_ne, ne_eq] at h2
   refine at_skip rfl ?_
   refine then_n ?_
   refine at_seq rfl ?_
   refine at_block rfl ?_
   refine at_seq rfl ?_
   refine rg rfl ?_
   have he := ge u (by omega)
   have hr := hrr u (by omega)
   refine Rq ?_
   refine Rq ?_
   refine R_q rfl (by simp (disch := first | omega | (simp only [List.length_map, List.length_append, List.length_set, List.length_cons, List.length_nil]; omega)) only [go_sem, ↓reduceIte, Nat.reduceEqDiff, reduceCtorEq, q0, qf, qs, qy, qq, qx, qa] <;> rfl) ?_
   refine A_alloc rfl ?_
   intro HC n4
   have en4 := n4.len
   have q0 := (n4.old _ (hget_lt q0)).trans q0
   have qf := (n4.old _ (hget_lt qf)).trans qf
   have qs := (n4.old _ (hget_lt qs)).trans qs
   have qy := (n4.old _ (hget_lt qy)).trans qy
   have qq := (n4.old _ (hget_lt qq)).trans qq
   have qx := n4.new
   refine Rq ?_
   have lq0 := hget_lt q0
   have lqf := hget_lt qf
   have lqs := hget_lt qs
   have lqy := hget_lt qy
   have lqq := hget_lt qq
   have lqx := hget_lt qx
   refine A_store ty66 (by simp (disch := first | omega | (simp only [List.length_map, List.length_append, List.length_set, List.length_cons, List.length_nil]; omega)) only [go_sem, ↓reduceIte, Nat.reduceEqDiff, reduceCtorEq, q0, qf, qs, qy, qq, qx, qa] <;> rfl) (by simp (disch := first | omega | (simp only [List.length_map, List.length_append, List.length_set, List.length_cons, List.length_nil]; omega)) only [go_sem, ↓reduceIte, Nat.reduceEqDiff, reduceCtorEq, q0, qf, qs, qy, qq, qx, qa] <;> rfl) qx ⟨by omega, rfl, by first | (simp only [List.length_map]; omega) | (simp only [flatA_len]; omega) | exact Nat.le_refl _ | decide | simp⟩ (show _ = edC (gt E u) from rfl) ?_
   intro HD w4
   have ew4 := w4.len
   have q0 := (w4.old _ (by omega)).trans q0
   have qf := (w4.old _ (by omega)).trans qf
   have qs := (w4.old _ (by omega)).trans qs
   have qy := (w4.old _ (by omega)).trans qy
   have qq := (w4.old _ (by omega)).trans qq
   have qx := w4.new
   have tr : ∀ a b c d e f g h i j k m n o p q r s t u v w x : AV, let l := lc_rreach_ok a b c d e f g h i j k m n o p q r s; trim ((10,x)::(11,w)::(40,v)::(39,u)::(38,t)::l) l = [(0,a),(1,b),(2,c),(4,d),(5,e),(6,f),(7,g),(8,h),(9,i),(10,x),(11,w),(27,m),(34,n),(35,o),(36,p),(37,q),(61,r),(95,s)] := by intros; rfl
   refine R_nil (tr ..) ?_; clear tr
   refine then_n ?_
   refine at_seq rfl ?_
   refine at_seq rfl ?_
   refine rd rfl rfl ?_
   refine Qq ?_
   refine Q_q rfl (by simp (disch := first | omega | (simp only [List.length_map, List.length_append, List.length_set, List.length_cons, List.length_nil]; omega)) only [go_sem, ↓reduceIte, Nat.reduceEqDiff, reduceCtorEq, q0, qf, qs, qy, qq, qx, qa] <;> rfl) ?_
   refine Qq ?_
   refine Qq ?_
   refine Qq ?_
   refine Qp_split (fun h3 => ?_) (fun h3 => ?_)
   ·
    try simp only [decide_eq_true_eq, decide_eq_false_iff_not, Bool.not_eq_true', Bool.not_eq_false', beq_iff_eq, beq_eq_false_iff_ne, ne_eq] at h3
    refine Qy ?_
    refine Qq ?_
    refine Qy ?_
    refine Qq ?_
    refine Qy ?_
    refine Q_q rfl (by simp (disch := first | omega | (simp only [List.length_map, List.length_append, List.length_set, List.length_cons, List.length_nil]; omega)) only [go_sem, ↓reduceIte, Nat.reduceEqDiff, reduceCtorEq, q0, qf, qs, qy, qq, qx, qa] <;> rfl) ?_
    refine Qy ?_
    refine Qq ?_
    refine Qy ?_
    refine Q_q rfl (by simp (disch := first | omega | (simp only [List.length_map, List.length_append, List.length_set, List.length_cons, List.length_nil]; omega)) only [go_sem, ↓reduceIte, Nat.reduceEqDiff, reduceCtorEq, q0, qf, qs, qy, qq, qx, qa] <;> rfl) ?_
    refine Qy ?_
    refine Qq ?_
    refine Qq ?_
    refine Qq ?_
    refine Qp_split (fun h4 => ?_) (fun h4 => ?_)
    ·
     try simp only [decide_eq_true_eq, decide_eq_false_iff_not, Bool.not_eq_true', Bool.not_eq_false', beq_iff_eq, beq_eq_false_iff_ne, ne_eq] at h4
     refine Qy ?_
     refine Qq ?_
     refine Qy ?_
     refine Qq ?_
     refine Qy ?_
     refine Qq ?_
     refine Qy ?_
     refine Q_q rfl (by simp (disch := first | omega | (simp only [List.length_map, List.length_append, List.length_set, List.length_cons, List.length_nil]; omega)) only [go_sem, ↓reduceIte, Nat.reduceEqDiff, reduceCtorEq, q0, qf, qs, qy, qq, qx, qa] <;> rfl) ?_
     refine Qy ?_
     refine Qq ?_
     refine Qy ?_
     refine Q_q rfl (by simp (disch := first | omega | (simp only [List.length_map, List.length_append, List.length_set, List.length_cons, List.length_nil]; omega)) only [go_sem, ↓reduceIte, Nat.reduceEqDiff, reduceCtorEq, q0, qf, qs, qy, qq, qx, qa] <;> rfl) ?_
     refine Qy ?_
     refine Qq ?_
     refine Qq ?_
     refine Q_nil ?_
     have tr : ∀ a b c d e f g h i j k m n o p q r s t u v w x y z A B C D E F G H I J K L M N : AV, let l := lc_rreach_ok a b c d e f g h i j k m n o p q r s; trim ((61,N)::(60,M)::(59,L)::(58,K)::(57,J)::(56,I)::(55,H)::(54,G)::(53,F)::(52,E)::(51,D)::(50,C)::(49,B)::(48,A)::(47,z)::(46,y)::(45,x)::(44,w)::(43,v)::(42,u)::(41,t)::l) l = [(0,a),(1,b),(2,c),(4,d),(5,e),(6,f),(7,g),(8,h),(9,i),(10,j),(11,k),(27,m),(34,n),(35,o),(36,p),(37,q),(61,N),(95,s)] := by intros; rfl
     refine R_nil (tr ..) ?_; clear tr
     refine then_n ?_
     refine cdd (fun h5 => ?_) (fun h5 => ?_)
     ·
      try simp only [decide_eq_true_eq, decide_eq_false_iff_not, Bool.not_eq_true', Bool.not_eq_false', beq_iff_eq, beq_eq_false_iff_ne, ne_eq] at h5
      refine at_seq rfl ?_
      refine rl rfl rfl ?_
      refine Lq ?_
      refine Lq ?_
      refine L_q rfl (by simp (disch := first | omega | (simp only [List.length_map, List.length_append, List.length_set, List.length_cons, List.length_nil]; omega)) only [go_sem, ↓reduceIte, Nat.reduceEqDiff, reduceCtorEq, q0, qf, qs, qy, qq, qx, qa] <;> rfl) rfl ?_
      refine Lq ?_
      refine Lq ?_
      refine L_q rfl (by simp (disch := first | omega | (simp only [List.length_map, List.length_append, List.length_set, List.length_cons, List.length_nil]; omega)) only [go_sem, ↓reduceIte, Nat.reduceEqDiff, reduceCtorEq, q0, qf, qs, qy, qq, qx, qa] <;> rfl) rfl ?_
      refine Lq ?_
      refine Lq ?_
      refine Lq ?_
      refine L_nil ?_
      refine Ms ?_ (wrC_store (by simp (disch := first | omega | (simp only [List.length_map, List.length_append, List.length_set, List.length_cons, List.length_nil]; omega)) only [go_sem, ↓reduceIte, Nat.reduceEqDiff, reduceCtorEq, q0, qf, qs, qy, qq, qx, qa] <;> rfl) (by simp only [rdV, isLoad, go_sem, ↓reduceIte, Nat.reduceEqDiff, List.mem_cons, List.not_mem_nil, or_false, List.append_nil, List.nil_append, List.cons_append, not_or]; omega))
      have lq0 := hget_lt q0
      have lqf := hget_lt qf
      have lqs := hget_lt qs
      have lqy := hget_lt qy
      have lqq := hget_lt qq
      have lqx := hget_lt qx
      refine A_store ty4 (by simp (disch := first | omega | (simp only [List.length_map, List.length_append, List.length_set, List.length_cons, List.length_nil]; omega)) only [go_sem, ↓reduceIte, Nat.reduceEqDiff, reduceCtorEq, q0, qf, qs, qy, qq, qx, qa] <;> rfl) (by simp (disch := first | omega | (simp only [List.length_map, List.length_append, List.length_set, List.length_cons, List.length_nil]; omega)) only [go_sem, ↓reduceIte, Nat.reduceEqDiff, reduceCtorEq, q0, qf, qs, qy, qq, qx, qa] <;> rfl) qs ⟨by omega, rfl, by first | (simp only [List.length_map]; omega) | (simp only [flatA_len]; omega) | exact Nat.le_refl _ | decide | simp⟩ (setL_b _ _ _) ?_
      intro HF w6
      have ew6 := w6.len
      have q0 := (w6.old _ (by omega)).trans q0
      have qf := (w6.old _ (by omega)).trans qf
      have qy := (w6.old _ (by omega)).trans qy
      have qq := (w6.old _ (by omega)).trans qq
      have qx := (w6.old _ (by omega)).trans qx
      have qs := w6.new
      refine R_end ?_
      refine M_nil ?_
      refine Rq ?_
      have lq0 := hget_lt q0
      have lqf := hget_lt qf
      have lqs := hget_lt qs
      have lqy := hget_lt qy
      have lqq := hget_lt qq
      have lqx := hget_lt qx
      refine A_store ty3 (by simp (disch := first | omega | (simp only [List.length_map, List.length_append, List.length_set, List.length_cons, List.length_nil]; omega)) only [go_sem, ↓reduceIte, Nat.reduceEqDiff, reduceCtorEq, q0, qf, qs, qy, qq, qx, qa] <;> rfl) (by simp (disch := first | omega | (simp only [List.length_map, List.length_append, List.length_set, List.length_cons, List.length_nil]; omega)) only [go_sem, ↓reduceIte, Nat.reduceEqDiff, reduceCtorEq, q0, qf, qs, qy, qq, qx, qa] <;> rfl) qy ⟨by omega, rfl, by first | (simp only [List.length_map]; omega) | (simp only [flatA_len]; omega) | exact Nat.le_refl _ | decide | simp⟩ (setL_map _ _ _) ?_
      intro HG w7
      have ew7 := w7.len
      have q0 := (w7.old _ (by omega)).trans q0
      have qf := (w7.old _ (by omega)).trans qf
      have qs := (w7.old _ (by omega)).trans qs
      have qq := (w7.old _ (by omega)).trans qq
      have qx := (w7.old _ (by omega)).trans qx
      have qy := w7.new
      have tr : ∀ a b c d e f g h i j k m n o p q r s t u v w x y z A B C : AV, let l := lc_rreach_ok a b c d e f g h i j k m n o p q r s; trim ((71,C)::(70,B)::(69,A)::(68,z)::(67,y)::(66,x)::(65,w)::(64,v)::(63,u)::(62,t)::l) l = [(0,a),(1,b),(2,c),(4,d),(5,e),(6,f),(7,g),(8,h),(9,i),(10,j),(11,k),(27,m),(34,n),(35,o),(36,p),(37,q),(61,r),(95,s)] := by intros; rfl
      refine R_nil (tr ..) ?_; clear tr
      refine then_n ?_
      refine rg rfl ?_
      refine Rq ?_
      refine Rq ?_
      refine R_q rfl (by simp (disch := first | omega | (simp only [List.length_map, List.length_append, List.length_set, List.length_cons, List.length_nil]; omega)) only [go_sem, ↓reduceIte, Nat.reduceEqDiff, reduceCtorEq, q0, qf, qs, qy, qq, qx, qa] <;> rfl) ?_
      refine A_buildSlice (bs40 _ _ _ _ (gt E u).b (by simp (disch := first | omega | (simp only [List.length_map, List.length_append, List.length_set, List.length_cons, List.length_nil]; omega)) only [go_sem, ↓reduceIte, Nat.reduceEqDiff, reduceCtorEq, q0, qf, qs, qy, qq, qx, qa])) ?_
      intro HJ n7
      have en7 := n7.len
      have q0 := (n7.old _ (hget_lt q0)).trans q0
      have qf := (n7.old _ (hget_lt qf)).trans qf
      have qs := (n7.old _ (hget_lt qs)).trans qs
      have qy := (n7.old _ (hget_lt qy)).trans qy
      have qq := (n7.old _ (hget_lt qq)).trans qq
      have qx := (n7.old _ (hget_lt qx)).trans qx
      have qn := n7.new
      have lq0 := hget_lt q0
      have lqf := hget_lt qf
      have lqs := hget_lt qs
      have lqy := hget_lt qy
      have lqq := hget_lt qq
      have lqx := hget_lt qx
      have lqn := hget_lt qn
      refine A_append (by simp (disch := first | omega | (simp only [List.length_map, List.length_append, List.length_set, List.length_cons, List.length_nil]; omega)) only [go_sem, ↓reduceIte, Nat.reduceEqDiff, reduceCtorEq]; exact app40 qq qn (by omega) hoq2 (by omega)) ?_
      intro HK g7
      have eg7 := g7.len
      have q0 := (g7.old _ (by omega) lq0).trans q0
      have qf := (g7.old _ (by omega) lqf).trans qf
      have qs := (g7.old _ (by omega) lqs).trans qs
      have qy := (g7.old _ (by omega) lqy).trans qy
      have qx := (g7.old _ (by omega) lqx).trans qx
      have qq := g7.new
      refine Rq ?_
      have tr : ∀ a b c d e f g h i j k m n o p q r s t u v w x y : AV, let l := lc_rreach_ok a b c d e f g h i j k m n o p q r s; trim ((8,y)::(76,x)::(75,w)::(74,v)::(73,u)::(72,t)::l) l = [(0,a),(1,b),(2,c),(4,d),(5,e),(6,f),(7,g),(8,y),(9,i),(10,j),(11,k),(27,m),(34,n),(35,o),(36,p),(37,q),(61,r),(95,s)] := by intros; rfl
      refine R_nil (tr ..) ?_; clear tr
      refine then_n ?_
      refine at_seq rfl ?_
      refine rg rfl ?_
      refine Rq ?_
      refine R_q rfl (by simp (disch := first | omega | (simp only [List.length_map, List.length_append, List.length_set, List.length_cons, List.length_nil]; omega)) only [go_sem, ↓reduceIte, Nat.reduceEqDiff, reduceCtorEq, q0, qf, qs, qy, qq, qx, qa] <;> rfl) ?_
      refine Rq ?_
      refine Rq ?_
      refine Rq ?_
      refine Rp_split (fun h6 => ?_) (fun h6 => ?_)
      ·
       try simp only [decide_eq_true_eq, decide_eq_false_iff_not, Bool.not_eq_true', Bool.not_eq_false', beq_iff_eq, beq_eq_false_iff_ne, ne_eq] at h6
       exfalso; omega
      ·
       try simp only [decide_eq_true_eq, decide_eq_false_iff_not, Bool.not_eq_true', Bool.not_eq_false', beq_iff_eq, beq_eq_false_iff_ne, ne_eq] at h6
       refine Rn ?_
       refine Rn ?_
       refine Rn ?_
       refine Rn ?_
       refine Rn ?_
       refine Rn ?_
       refine Rq ?_
       refine Rq ?_
       refine Rn ?_
       refine Rn ?_
       refine Rn ?_
       refine Rn ?_
       refine Rn ?_
       refine Rq ?_
       have tr : ∀ a b c d e f g h i j k m n o p q r s t u v w x y z A B C D E F G H I J K L : AV, let l := lc_rreach_ok a b c d e f g h i j k m n o p q r s; trim ((95,L)::(94,K)::(93,J)::(92,I)::(91,H)::(90,G)::(89,F)::(88,E)::(87,D)::(86,C)::(85,B)::(84,A)::(83,z)::(82,y)::(81,x)::(80,w)::(79,v)::(78,u)::(77,t)::l) l = [(0,a),(1,b),(2,c),(4,d),(5,e),(6,f),(7,g),(8,h),(9,i),(10,j),(11,k),(27,m),(34,n),(35,o),(36,p),(37,q),(61,r),(95,L)] := by intros; rfl
       refine R_nil (tr ..) ?_; clear tr
       refine then_n ?_
       refine cdf ?_
       refine at_skip rfl ?_
       refine blk_n ?_
       refine then_n ?_
       refine rg rfl ?_
       refine Rq ?_
       refine Rq ?_
       have tr : ∀ a b c d e f g h i j k m n o p q r s t u : AV, let l := lc_rreach_ok a b c d e f g h i j k m n o p q r s; trim ((36,u)::(112,t)::l) l = [(0,a),(1,b),(2,c),(4,d),(5,e),(6,f),(7,g),(8,h),(9,i),(10,j),(11,k),(27,m),(34,n),(35,o),(36,u),(37,q),(61,r),(95,s)] := by intros; rfl
       refine R_nil (tr ..) ?_; clear tr
       refine then_n ?_
       exact ⟨_, _, ⟨u + 1, pushS st2 (gt E u).b ((u : Int) + 1), HJ.length, 0, Q2.drop o2 ++ [(gt E u).b], (st2.q.length + 1), _, _, _, _, _, rfl, rfl, by exact q0, by exact qf, by exact qs, by first | exact qy | (rw [show -(u : Int) - 1 = 0 - (u : Int) - 1 by omega]; exact qy), by exact qq, by first | exact hbq2 | omega, by first | exact hoq2 | (simp only [pushS, List.length_append, List.length_drop, List.length_cons, List.length_nil]; omega), by first | exact hqd2 | simp only [pushS, List.drop_zero, hqd2], by omega, by (rw [scanN, ← hs2]; unfold stepE; first | (rw [if_pos (by omega), if_pos ⟨by assumption, by omega⟩]) | (rw [if_neg (by omega), if_pos (by omega), if_pos ⟨by assumption, by omega⟩]) | (rw [if_pos (by omega), if_neg (by intro hh; simp_all; done)]) | (rw [if_pos (by omega), if_neg (by intro hh; omega)]) | (rw [if_neg (by omega), if_pos (by omega), if_neg (by intro hh; simp_all; done)]) | (rw [if_neg (by omega), if_pos (by omega), if_neg (by intro hh; omega)]) | (rw [if_neg (by omega), if_neg (by omega)])), by first | rfl | simp [pushS]⟩, by rfl, by omega⟩
     ·
      try simp only [decide_eq_true_eq, decide_eq_false_iff_not, Bool.not_eq_true', Bool.not_eq_false', beq_iff_eq, beq_eq_false_iff_ne, ne_eq] at h5
      refine at_skip rfl ?_
      refine then_n ?_
      refine at_seq rfl ?_
      refine rg rfl ?_
      refine Rq ?_
      refine R_q rfl (by simp (disch := first | omega | (simp only [List.length_map, List.length_append, List.length_set, List.length_cons, List.length_nil]; omega)) only [go_sem, ↓reduceIte, Nat.reduceEqDiff, reduceCtorEq, q0, qf, qs, qy, qq, qx, qa] <;> rfl) ?_
      refine Rq ?_
      refine Rq ?_
      refine Rq ?_
      refine Rp_split (fun h7 => ?_) (fun h7 => ?_)
      ·
       try simp only [decide_eq_true_eq, decide_eq_false_iff_not, Bool.not_eq_true', Bool.not_eq_false', beq_iff_eq, beq_eq_false_iff_ne, ne_eq] at h7
       exfalso; omega
      ·
       try simp only [decide_eq_true_eq, decide_eq_false_iff_not, Bool.not_eq_true', Bool.not_eq_false', beq_iff_eq, beq_eq_false_iff_ne, ne_eq] at h7
       refine Rn ?_
       refine Rn ?_
       refine Rn ?_
       refine Rn ?_
       refine Rn ?_
       refine Rn ?_
       refine Rq ?_
       refine Rq ?_
       refine Rn ?_
       refine Rn ?_
       refine Rn ?_
       refine Rn ?_
       refine Rn ?_
       refine Rq ?_
       have tr : ∀ a b c d e f g h i j k m n o p q r s t u v w x y z A B C D E F G H I J K L : AV, let l := lc_rreach_ok a b c d e f g h i j k m n o p q r s; trim ((95,L)::(94,K)::(93,J)::(92,I)::(91,H)::(90,G)::(89,F)::(88,E)::(87,D)::(86,C)::(85,B)::(84,A)::(83,z)::(82,y)::(81,x)::(80,w)::(79,v)::(78,u)::(77,t)::l) l = [(0,a),(1,b),(2,c),(4,d),(5,e),(6,f),(7,g),(8,h),(9,i),(10,j),(11,k),(27,m),(34,n),(35,o),(36,p),(37,q),(61,r),(95,L)] := by intros; rfl
       refine R_nil (tr ..) ?_; clear tr
       refine then_n ?_
       refine cdf ?_
       refine at_skip rfl ?_
       refine blk_n ?_
       refine then_n ?_
       refine rg rfl ?_
       refine Rq ?_
       refine Rq ?_
       have tr : ∀ a b c d e f g h i j k m n o p q r s t u : AV, let l := lc_rreach_ok a b c d e f g h i j k m n o p q r s; trim ((36,u)::(112,t)::l) l = [(0,a),(1,b),(2,c),(4,d),(5,e),(6,f),(7,g),(8,h),(9,i),(10,j),(11,k),(27,m),(34,n),(35,o),(36,u),(37,q),(61,r),(95,s)] := by intros; rfl
       refine R_nil (tr ..) ?_; clear tr
       refine then_n ?_
       exact ⟨_, _, ⟨u + 1, st2, bq2, o2, Q2, st2.q.length, _, _, _, _, _, rfl, rfl, by exact q0, by exact qf, by exact qs, by first | exact qy | (rw [show -(u : Int) - 1 = 0 - (u : Int) - 1 by omega]; exact qy), by exact qq, by first | exact hbq2 | omega, by first | exact hoq2 | (simp only [pushS, List.length_append, List.length_drop, List.length_cons, List.length_nil]; omega), by first | exact hqd2 | simp only [pushS, List.drop_zero, hqd2], by omega, by (rw [scanN, ← hs2]; unfold stepE; first | (rw [if_pos (by omega), if_pos ⟨by assumption, by omega⟩]) | (rw [if_neg (by omega), if_pos (by omega), if_pos ⟨by assumption, by omega⟩]) | (rw [if_pos (by omega), if_neg (by intro hh; simp_all; done)]) | (rw [if_pos (by omega), if_neg (by intro hh; omega)]) | (rw [if_neg (by omega), if_pos (by omega), if_neg (by intro hh; simp_all; done)]) | (rw [if_neg (by omega), if_pos (by omega), if_neg (by intro hh; omega)]) | (rw [if_neg (by omega), if_neg (by omega)])), by first | rfl | simp [pushS]⟩, by rfl, by omega⟩
    ·
     try simp only [decide_eq_true_eq, decide_eq_false_iff_not, Bool.not_eq_true', Bool.not_eq_false', beq_iff_eq, beq_eq_false_iff_ne, ne_eq] at h4
     refine Qn ?_
     refine Qn ?_
     refine Qn ?_
     refine Qn ?_
     refine Qn ?_
     refine Qn ?_
     refine Qn ?_
     refine Qq ?_
     refine Q_nil ?_
     have tr : ∀ a b c d e f g h i j k m n o p q r s t u v w x y z A B C D E F G H I J K L M N : AV, let l := lc_rreach_ok a b c d e f g h i j k m n o p q r s; trim ((61,N)::(60,M)::(59,L)::(58,K)::(57,J)::(56,I)::(55,H)::(54,G)::(53,F)::(52,E)::(51,D)::(50,C)::(49,B)::(48,A)::(47,z)::(46,y)::(45,x)::(44,w)::(43,v)::(42,u)::(41,t)::l) l = [(0,a),(1,b),(2,c),(4,d),(5,e),(6,f),(7,g),(8,h),(9,i),(10,j),(11,k),(27,m),(34,n),(35,o),(36,p),(37,q),(61,N),(95,s)] := by intros; rfl
     refine R_nil (tr ..) ?_; clear tr
     refine then_n ?_
     refine cdf ?_
     refine at_skip rfl ?_
     refine then_n ?_
     refine at_seq rfl ?_
     refine rg rfl ?_
     refine Rq ?_
     refine R_q rfl (by simp (disch := first | omega | (simp only [List.length_map, List.length_append, List.length_set, List.length_cons, List.length_nil]; omega)) only [go_sem, ↓reduceIte, Nat.reduceEqDiff, reduceCtorEq, q0, qf, qs, qy, qq, qx, qa] <;> rfl) ?_
     refine Rq ?_
     refine Rq ?_
     refine Rq ?_
     refine Rp_split (fun h8 => ?_) (fun h8 => ?_)
     ·
      try simp only [decide_eq_true_eq, decide_eq_false_iff_not, Bool.not_eq_true', Bool.not_eq_false', beq_iff_eq, beq_eq_false_iff_ne, ne_eq] at h8
      exfalso; omega
     ·
      try simp only [decide_eq_true_eq, decide_eq_false_iff_not, Bool.not_eq_true', Bool.not_eq_false', beq_iff_eq, beq_eq_false_iff_ne, ne_eq] at h8
      refine Rn ?_
      refine Rn ?_
      refine Rn ?_
      refine Rn ?_
      refine Rn ?_
      refine Rn ?_
      refine Rq ?_
      refine Rq ?_
      refine Rn ?_
      refine Rn ?_
      refine Rn ?_
      refine Rn ?_
      refine Rn ?_
      refine Rq ?_
      have tr : ∀ a b c d e f g h i j k m n o p q r s t u v w x y z A B C D E F G H I J K L : AV, let l := lc_rreach_ok a b c d e f g h i j k m n o p q r s; trim ((95,L)::(94,K)::(93,J)::(92,I)::(91,H)::(90,G)::(89,F)::(88,E)::(87,D)::(86,C)::(85,B)::(84,A)::(83,z)::(82,y)::(81,x)::(80,w)::(79,v)::(78,u)::(77,t)::l) l = [(0,a),(1,b),(2,c),(4,d),(5,e),(6,f),(7,g),(8,h),(9,i),(10,j),(11,k),(27,m),(34,n),(35,o),(36,p),(37,q),(61,r),(95,L)] := by intros; rfl
      refine R_nil (tr ..) ?_; clear tr
      refine then_n ?_
      refine cdf ?_
      refine at_skip rfl ?_
      refine blk_n ?_
      refine then_n ?_
      refine rg rfl ?_
      refine Rq ?_
      refine Rq ?_
      have tr : ∀ a b c d e f g h i j k m n o p q r s t u : AV, let l := lc_rreach_ok a b c d e f g h i j k m n o p q r s; trim ((36,u)::(112,t)::l) l = [(0,a),(1,b),(2,c),(4,d),(5,e),(6,f),(7,g),(8,h),(9,i),(10,j),(11,k),(27,m),(34,n),(35,o),(36,u),(37,q),(61,r),(95,s)] := by intros; rfl
      refine R_nil (tr ..) ?_; clear tr
      refine then_n ?_
      exact ⟨_, _, ⟨u + 1, st2, bq2, o2, Q2, st2.q.length, _, _, _, _, _, rfl, rfl, by exact q0, by exact qf, by exact qs, by first | exact qy | (rw [show -(u : Int) - 1 = 0 - (u : Int) - 1 by omega]; exact qy), by exact qq, by first | exact hbq2 | omega, by first | exact hoq2 | (simp only [pushS, List.length_append, List.length_drop, List.length_cons, List.length_nil]; omega), by first | exact hqd2 | simp only [pushS, List.drop_zero, hqd2], by omega, by (rw [scanN, ← hs2]; unfold stepE; first | (rw [if_pos (by omega), if_pos ⟨by assumption, by omega⟩]) | (rw [if_neg (by omega), if_pos (by omega), if_pos ⟨by assumption, by omega⟩]) | (rw [if_pos (by omega), if_neg (by intro hh; simp_all; done)]) | (rw [if_pos (by omega), if_neg (by intro hh; omega)]) | (rw [if_neg (by omega), if_pos (by omega), if_neg (by intro hh; simp_all; done)]) | (rw [if_neg (by omega), if_pos (by omega), if_neg (by intro hh; omega)]) | (rw [if_neg (by omega), if_neg (by omega)])), by first | rfl | simp [pushS]⟩, by rfl, by omega⟩
   ·
    try simp only [decide_eq_true_eq, decide_eq_false_iff_not, Bool.not_eq_true', Bool.not_eq_false', beq_iff_eq, beq_eq_false_iff_ne, ne_eq] at h3
    refine Qn ?_
    refine Qn ?_
    refine Qn ?_
    refine Qn ?_
    refine Qn ?_
    refine Qn ?_
    refine Qq ?_
    refine Qq ?_
    refine Qn ?_
    refine Qn ?_
    refine Qn ?_
    refine Qn ?_
    refine Qn ?_
    refine Qn ?_
    refine Qn ?_
    refine Qq ?_
    refine Q_nil ?_
    have tr : ∀ a b c d e f g h i j k m n o p q r s t u v w x y z A B C D E F G H I J K L M N : AV, let l := lc_rreach_ok a b c d e f g h i j k m n o p q r s; trim ((61,N)::(60,M)::(59,L)::(58,K)::(57,J)::(56,I)::(55,H)::(54,G)::(53,F)::(52,E)::(51,D)::(50,C)::(49,B)::(48,A)::(47,z)::(46,y)::(45,x)::(44,w)::(43,v)::(42,u)::(41,t)::l) l = [(0,a),(1,b),(2,c),(4,d),(5,e),(6,f),(7,g),(8,h),(9,i),(10,j),(11,k),(27,m),(34,n),(35,o),(36,p),(37,q),(61,N),(95,s)] := by intros; rfl
    refine R_nil (tr ..) ?_; clear tr
    refine then_n ?_
    refine cdf ?_
    refine at_skip rfl ?_
    refine then_n ?_
    refine at_seq rfl ?_
    refine rg rfl ?_
    refine Rq ?_
    refine R_q rfl (by simp (disch := first | omega | (simp only [List.length_map, List.length_append, List.length_set, List.length_cons, List.length_nil]; omega)) only [go_sem, ↓reduceIte, Nat.reduceEqDiff, reduceCtorEq, q0, qf, qs, qy, qq, qx, qa] <;> rfl) ?_
    refine Rq ?_
    refine Rq ?_
    refine Rq ?_
    refine Rp_split (fun h9 => ?_) (fun h9 => ?_)
    ·
     try simp only [decide_eq_true_eq, decide_eq_false_iff_not, Bool.not_eq_true', Bool.not_eq_false', beq_iff_eq, beq_eq_false_iff_ne, ne_eq] at h9
     refine Ry ?_
     refine Rq ?_
     refine Ry ?_
     refine Rq ?_
     refine Ry ?_
     refine R_q rfl (by simp (disch := first | omega | (simp only [List.length_map, List.length_append, List.length_set, List.length_cons, List.length_nil]; omega)) only [go_sem, ↓reduceIte, Nat.reduceEqDiff, reduceCtorEq, q0, qf, qs, qy, qq, qx, qa] <;> rfl) ?_
     refine Ry ?_
     refine Rq ?_
     refine Ry ?_
     refine R_q rfl (by simp (disch := first | omega | (simp only [List.length_map, List.length_append, List.length_set, List.length_cons, List.length_nil]; omega)) only [go_sem, ↓reduceIte, Nat.reduceEqDiff, reduceCtorEq, q0, qf, qs, qy, qq, qx, qa] <;> rfl) ?_
     refine Ry ?_
     refine Rq ?_
     refine Rq ?_
     refine Rq ?_
     refine Rp_split (fun h10 => ?_) (fun h10 => ?_)
     ·
      try simp only [decide_eq_true_eq, decide_eq_false_iff_not, Bool.not_eq_true', Bool.not_eq_false', beq_iff_eq, beq_eq_false_iff_ne, ne_eq] at h10
      refine Ry ?_
      refine Rq ?_
      refine Ry ?_
      refine Rq ?_
      refine Ry ?_
      refine Rq ?_
      refine Ry ?_
      refine R_q rfl (by simp (disch := first | omega | (simp only [List.length_map, List.length_append, List.length_set, List.length_cons, List.length_nil]; omega)) only [go_sem, ↓reduceIte, Nat.reduceEqDiff, reduceCtorEq, q0, qf, qs, qy, qq, qx, qa] <;> rfl) ?_
      refine Ry ?_
      refine Rq ?_
      refine Rq ?_
      have tr : ∀ a b c d e f g h i j k m n o p q r s t u v w x y z A B C D E F G H I J K L : AV, let l := lc_rreach_ok a b c d e f g h i j k m n o p q r s; trim ((95,L)::(94,K)::(93,J)::(92,I)::(91,H)::(90,G)::(89,F)::(88,E)::(87,D)::(86,C)::(85,B)::(84,A)::(83,z)::(82,y)::(81,x)::(80,w)::(79,v)::(78,u)::(77,t)::l) l = [(0,a),(1,b),(2,c),(4,d),(5,e),(6,f),(7,g),(8,h),(9,i),(10,j),(11,k),(27,m),(34,n),(35,o),(36,p),(37,q),(61,r),(95,L)] := by intros; rfl
      refine R_nil (tr ..) ?_; clear tr
      refine then_n ?_
      refine cdd (fun h11 => ?_) (fun h11 => ?_)
      ·
       try simp only [decide_eq_true_eq, decide_eq_false_iff_not, Bool.not_eq_true', Bool.not_eq_false', beq_iff_eq, beq_eq_false_iff_ne, ne_eq] at h11
       refine at_seq rfl ?_
       refine rl rfl rfl ?_
       refine Lq ?_
       refine Lq ?_
       refine L_q rfl (by simp (disch := first | omega | (simp only [List.length_map, List.length_append, List.length_set, List.length_cons, List.length_nil]; omega)) only [go_sem, ↓reduceIte, Nat.reduceEqDiff, reduceCtorEq, q0, qf, qs, qy, qq, qx, qa] <;> rfl) rfl ?_
       refine Lq ?_
       refine Lq ?_
       refine L_q rfl (by simp (disch := first | omega | (simp only [List.length_map, List.length_append, List.length_set, List.length_cons, List.length_nil]; omega)) only [go_sem, ↓reduceIte, Nat.reduceEqDiff, reduceCtorEq, q0, qf, qs, qy, qq, qx, qa] <;> rfl) rfl ?_
       refine Lq ?_
       refine Lq ?_
       refine Lq ?_
       refine Lq ?_
       refine L_nil ?_
       refine Ms ?_ (wrC_store (by simp (disch := first | omega | (simp only [List.length_map, List.length_append, List.length_set, List.length_cons, List.length_nil]; omega)) only [go_sem, ↓reduceIte, Nat.reduceEqDiff, reduceCtorEq, q0, qf, qs, qy, qq, qx, qa] <;> rfl) (by simp only [rdV, isLoad, go_sem, ↓reduceIte, Nat.reduceEqDiff, List.mem_cons, List.not_mem_nil, or_false, List.append_nil, List.nil_append, List.cons_append, not_or]; omega))
       have lq0 := hget_lt q0
       have lqf := hget_lt qf
       have lqs := hget_lt qs
       have lqy := hget_lt qy
       have lqq := hget_lt qq
       have lqx := hget_lt qx
       refine A_store ty4 (by simp (disch := first | omega | (simp only [List.length_map, List.length_append, List.length_set, List.length_cons, List.length_nil]; omega)) only [go_sem, ↓reduceIte, Nat.reduceEqDiff, reduceCtorEq, q0, qf, qs, qy, qq, qx, qa] <;> rfl) (by simp (disch := first | omega | (simp only [List.length_map, List.length_append, List.length_set, List.length_cons, List.length_nil]; omega)) only [go_sem, ↓reduceIte, Nat.reduceEqDiff, reduceCtorEq, q0, qf, qs, qy, qq, qx, qa] <;> rfl) qs ⟨by omega, rfl, by first | (simp only [List.length_map]; omega) | (simp only [flatA_len]; omega) | exact Nat.le_refl _ | decide | simp⟩ (setL_b _ _ _) ?_
       intro HF w6
       have ew6 := w6.len
       have q0 := (w6.old _ (by omega)).trans q0
       have qf := (w6.old _ (by omega)).trans qf
       have qy := (w6.old _ (by omega)).trans qy
       have qq := (w6.old _ (by omega)).trans qq
       have qx := (w6.old _ (by omega)).trans qx
       have qs := w6.new
       refine R_end ?_
       refine M_nil ?_
       refine Rq ?_
       have lq0 := hget_lt q0
       have lqf := hget_lt qf
       have lqs := hget_lt qs
       have lqy := hget_lt qy
       have lqq := hget_lt qq
       have lqx := hget_lt qx
       refine A_store ty3 (by simp (disch := first | omega | (simp only [List.length_map, List.length_append, List.length_set, List.length_cons, List.length_nil]; omega)) only [go_sem, ↓reduceIte, Nat.reduceEqDiff, reduceCtorEq, q0, qf, qs, qy, qq, qx, qa] <;> rfl) (by simp (disch := first | omega | (simp only [List.length_map, List.length_append, List.length_set, List.length_cons, List.length_nil]; omega)) only [go_sem, ↓reduceIte, Nat.reduceEqDiff, reduceCtorEq, q0, qf, qs, qy, qq, qx, qa] <;> rfl) qy ⟨by omega, rfl, by first | (simp only [List.length_map]; omega) | (simp only [flatA_len]; omega) | exact Nat.le_refl _ | decide | simp⟩ (setL_map _ _ _) ?_
       intro HG w7
       have ew7 := w7.len
       have q0 := (w7.old _ (by omega)).trans q0
       have qf := (w7.old _ (by omega)).trans qf
       have qs := (w7.old _ (by omega)).trans qs
       have qq := (w7.old _ (by omega)).trans qq
       have qx := (w7.old _ (by omega)).trans qx
       have qy := w7.new
       have tr : ∀ a b c d e f g h i j k m n o p q r s t u v w x y z A B C D : AV, let l := lc_rreach_ok a b c d e f g h i j k m n o p q r s; trim ((106,D)::(105,C)::(104,B)::(103,A)::(102,z)::(101,y)::(100,x)::(99,w)::(98,v)::(97,u)::(96,t)::l) l = [(0,a),(1,b),(2,c),(4,d),(5,e),(6,f),(7,g),(8,h),(9,i),(10,j),(11,k),(27,m),(34,n),(35,o),(36,p),(37,q),(61,r),(95,s)] := by intros; rfl
       refine R_nil (tr ..) ?_; clear tr
       refine then_n ?_
       refine rg rfl ?_
       refine Rq ?_
       refine Rq ?_
       refine R_q rfl (by simp (disch := first | omega | (simp only [List.length_map, List.length_append, List.length_set, List.length_cons, List.length_nil]; omega)) only [go_sem, ↓reduceIte, Nat.reduceEqDiff, reduceCtorEq, q0, qf, qs, qy, qq, qx, qa] <;> rfl) ?_
       refine A_buildSlice (bs40 _ _ _ _ (gt E u).a (by simp (disch := first | omega | (simp only [List.length_map, List.length_append, List.length_set, List.length_cons, List.length_nil]; omega)) only [go_sem, ↓reduceIte, Nat.reduceEqDiff, reduceCtorEq, q0, qf, qs, qy, qq, qx, qa])) ?_
       intro HJ n7
       have en7 := n7.len
       have q0 := (n7.old _ (hget_lt q0)).trans q0
       have qf := (n7.old _ (hget_lt qf)).trans qf
       have qs := (n7.old _ (hget_lt qs)).trans qs
       have qy := (n7.old _ (hget_lt qy)).trans qy
       have qq := (n7.old _ (hget_lt qq)).trans qq
       have qx := (n7.old _ (hget_lt qx)).trans qx
       have qn := n7.new
       have lq0 := hget_lt q0
       have lqf := hget_lt qf
       have lqs := hget_lt qs
       have lqy := hget_lt qy
       have lqq := hget_lt qq
       have lqx := hget_lt qx
       have lqn := hget_lt qn
       refine A_append (by simp (disch := first | omega | (simp only [List.length_map, List.length_append, List.length_set, List.length_cons, List.length_nil]; omega)) only [go_sem, ↓reduceIte, Nat.reduceEqDiff, reduceCtorEq]; exact app40 qq qn (by omega) hoq2 (by omega)) ?_
       intro HK g7
       have eg7 := g7.len
       have q0 := (g7.old _ (by omega) lq0).trans q0
       have qf := (g7.old _ (by omega) lqf).trans qf
       have qs := (g7.old _ (by omega) lqs).trans qs
       have qy := (g7.old _ (by omega) lqy).trans qy
       have qx := (g7.old _ (by omega) lqx).trans qx
       have qq := g7.new
       refine Rq ?_
       have tr : ∀ a b c d e f g h i j k m n o p q r s t u v w x y : AV, let l := lc_rreach_ok a b c d e f g h i j k m n o p q r s; trim ((8,y)::(111,x)::(110,w)::(109,v)::(108,u)::(107,t)::l) l = [(0,a),(1,b),(2,c),(4,d),(5,e),(6,f),(7,g),(8,y),(9,i),(10,j),(11,k),(27,m),(34,n),(35,o),(36,p),(37,q),(61,r),(95,s)] := by intros; rfl
       refine R_nil (tr ..) ?_; clear tr
       refine blk_n ?_
       refine then_n ?_
       refine rg rfl ?_
       refine Rq ?_
       refine Rq ?_
       have tr : ∀ a b c d e f g h i j k m n o p q r s t u : AV, let l := lc_rreach_ok a b c d e f g h i j k m n o p q r s; trim ((36,u)::(112,t)::l) l = [(0,a),(1,b),(2,c),(4,d),(5,e),(6,f),(7,g),(8,h),(9,i),(10,j),(11,k),(27,m),(34,n),(35,o),(36,u),(37,q),(61,r),(95,s)] := by intros; rfl
       refine R_nil (tr ..) ?_; clear tr
       refine then_n ?_
       exact ⟨_, _, ⟨u + 1, pushS st2 (gt E u).a (-(u : Int) - 1), HJ.length, 0, Q2.drop o2 ++ [(gt E u).a], (st2.q.length + 1), _, _, _, _, _, rfl, rfl, by exact q0, by exact qf, by exact qs, by first | exact qy | (rw [show -(u : Int) - 1 = 0 - (u : Int) - 1 by omega]; exact qy), by exact qq, by first | exact hbq2 | omega, by first | exact hoq2 | (simp only [pushS, List.length_append, List.length_drop, List.length_cons, List.length_nil]; omega), by first | exact hqd2 | simp only [pushS, List.drop_zero, hqd2], by omega, by (rw [scanN, ← hs2]; unfold stepE; first | (rw [if_pos (by omega), if_pos ⟨by assumption, by omega⟩]) | (rw [if_neg (by omega), if_pos (by omega), if_pos ⟨by assumption, by omega⟩]) | (rw [if_pos (by omega), if_neg (by intro hh; simp_all; done)]) | (rw [if_pos (by omega), if_neg (by intro hh; omega)]) | (rw [if_neg (by omega), if_pos (by omega), if_neg (by intro hh; simp_all; done)]) | (rw [if_neg (by omega), if_pos (by omega), if_neg (by intro hh; omega)]) | (rw [if_neg (by omega), if_neg (by omega)])), by first | rfl | simp [pushS]⟩, by rfl, by omega⟩
      ·
       try simp only [decide_eq_true_eq, decide_eq_false_iff_not, Bool.not_eq_true', Bool.not_eq_false', beq_iff_eq, beq_eq_false_iff_ne, ne_eq] at h11
       refine at_skip rfl ?_
       refine blk_n ?_
       refine then_n ?_
       refine rg rfl ?_
       refine Rq ?_
       refine Rq ?_
       have tr : ∀ a b c d e f g h i j k m n o p q r s t u : AV, let l := lc_rreach_ok a b c d e f g h i j k m n o p q r s; trim ((36,u)::(112,t)::l) l = [(0,a),(1,b),(2,c),(4,d),(5,e),(6,f),(7,g),(8,h),(9,i),(10,j),(11,k),(27,m),(34,n),(35,o),(36,u),(37,q),(61,r),(95,s)] := by intros; rfl
       refine R_nil (tr ..) ?_; clear tr
       refine then_n ?_
       exact ⟨_, _, ⟨u + 1, st2, bq2, o2, Q2, st2.q.length, _, _, _, _, _, rfl, rfl, by exact q0, by exact qf, by exact qs, by first | exact qy | (rw [show -(u : Int) - 1 = 0 - (u : Int) - 1 by omega]; exact qy), by exact qq, by first | exact hbq2 | omega, by first | exact hoq2 | (simp only [pushS, List.length_append, List.length_drop, List.length_cons, List.length_nil]; omega), by first | exact hqd2 | simp only [pushS, List.drop_zero, hqd2], by omega, by (rw [scanN, ← hs2]; unfold stepE; first | (rw [if_pos (by omega), if_pos ⟨by assumption, by omega⟩]) | (rw [if_neg (by omega), if_pos (by omega), if_pos ⟨by assumption, by omega⟩]) | (rw [if_pos (by omega), if_neg (by intro hh; simp_all; done)]) | (rw [if_pos (by omega), if_neg (by intro hh; omega)]) | (rw [if_neg (by omega), if_pos (by omega), if_neg (by intro hh; simp_all; done)]) | (rw [if_neg (by omega), if_pos (by omega), if_neg (by intro hh; omega)]) | (rw [if_neg (by omega), if_neg (by omega)])), by first | rfl | simp [pushS]⟩, by rfl, by omega⟩
     ·
      try simp only [decide_eq_true_eq, decide_eq_false_iff_not, Bool.not_eq_true', Bool.not_eq_false', beq_iff_eq, beq_eq_false_iff_ne, ne_eq] at h10
      refine Rn ?_
      refine Rn ?_
      refine Rn ?_
      refine Rn ?_
      refine Rn ?_
      refine Rq ?_
      have tr : ∀ a b c d e f g h i j k m n o p q r s t u v w x y z A B C D E F G H I J K L : AV, let l := lc_rreach_ok a b c d e f g h i j k m n o p q r s; trim ((95,L)::(94,K)::(93,J)::(92,I)::(91,H)::(90,G)::(89,F)::(88,E)::(87,D)::(86,C)::(85,B)::(84,A)::(83,z)::(82,y)::(81,x)::(80,w)::(79,v)::(78,u)::(77,t)::l) l = [(0,a),(1,b),(2,c),(4,d),(5,e),(6,f),(7,g),(8,h),(9,i),(10,j),(11,k),(27,m),(34,n),(35,o),(36,p),(37,q),(61,r),(95,L)] := by intros; rfl
      refine R_nil (tr ..) ?_; clear tr
      refine then_n ?_
      refine cdf ?_
      refine at_skip rfl ?_
      refine blk_n ?_
      refine then_n ?_
      refine rg rfl ?_
      refine Rq ?_
      refine Rq ?_
      have tr : ∀ a b c d e f g h i j k m n o p q r s t u : AV, let l := lc_rreach_ok a b c d e f g h i j k m n o p q r s; trim ((36,u)::(112,t)::l) l = [(0,a),(1,b),(2,c),(4,d),(5,e),(6,f),(7,g),(8,h),(9,i),(10,j),(11,k),(27,m),(34,n),(35,o),(36,u),(37,q),(61,r),(95,s)] := by intros; rfl
      refine R_nil (tr ..) ?_; clear tr
      refine then_n ?_
      exact ⟨_, _, ⟨u + 1, st2, bq2, o2, Q2, st2.q.length, _, _, _, _, _, rfl, rfl, by exact q0, by exact qf, by exact qs, by first | exact qy | (rw [show -(u : Int) - 1 = 0 - (u : Int) - 1 by omega]; exact qy), by exact qq, by first | exact hbq2 | omega, by first | exact hoq2 | (simp only [pushS, List.length_append, List.length_drop, List.length_cons, List.length_nil]; omega), by first | exact hqd2 | simp only [pushS, List.drop_zero, hqd2], by omega, by (rw [scanN, ← hs2]; unfold stepE; first | (rw [if_pos (by omega), if_pos ⟨by assumption, by omega⟩]) | (rw [if_neg (by omega), if_pos (by omega), if_pos ⟨by assumption, by omega⟩]) | (rw [if_pos (by omega), if_neg (by intro hh; simp_all; done)]) | (rw [if_pos (by omega), if_neg (by intro hh; omega)]) | (rw [if_neg (by omega), if_pos (by omega), if_neg (by intro hh; simp_all; done)]) | (rw [if_neg (by omega), if_pos (by omega), if_neg (by intro hh; omega)]) | (rw [if_neg (by omega), if_neg (by omega)])), by first | rfl | simp [pushS]⟩, by rfl, by omega⟩
    ·
     try simp only [decide_eq_true_eq, decide_eq_false_iff_not, Bool.not_eq_true', Bool.not_eq_false', beq_iff_eq, beq_eq_false_iff_ne, ne_eq] at h9
     refine Rn ?_
     refine Rn ?_
     refine Rn ?_
     refine Rn ?_
     refine Rn ?_
     refine Rn ?_
     refine Rq ?_
     refine Rq ?_
     refine Rn ?_
     refine Rn ?_
     refine Rn ?_
     refine Rn ?_
     refine Rn ?_
     refine Rq ?_
     have tr : ∀ a b c d e f g h i j k m n o p q r s t u v w x y z A B C D E F G H I J K L : AV, let l := lc_rreach_ok a b c d e f g h i j k m n o p q r s; trim ((95,L)::(94,K)::(93,J)::(92,I)::(91,H)::(90,G)::(89,F)::(88,E)::(87,D)::(86,C)::(85,B)::(84,A)::(83,z)::(82,y)::(81,x)::(80,w)::(79,v)::(78,u)::(77,t)::l) l = [(0,a),(1,b),(2,c),(4,d),(5,e),(6,f),(7,g),(8,h),(9,i),(10,j),(11,k),(27,m),(34,n),(35,o),(36,p),(37,q),(61,r),(95,L)] := by intros; rfl
     refine R_nil (tr ..) ?_; clear tr
     refine then_n ?_
     refine cdf ?_
     refine at_skip rfl ?_
     refine blk_n ?_
     refine then_n ?_
     refine rg rfl ?_
     refine Rq ?_
     refine Rq ?_
     have tr : ∀ a b c d e f g h i j k m n o p q r s t u : AV, let l := lc_rreach_ok a b c d e f g h i j k m n o p q r s; trim ((36,u)::(112,t)::l) l = [(0,a),(1,b),(2,c),(4,d),(5,e),(6,f),(7,g),(8,h),(9,i),(10,j),(11,k),(27,m),(34,n),(35,o),(36,u),(37,q),(61,r),(95,s)] := by intros; rfl
     refine R_nil (tr ..) ?_; clear tr
     refine then_n ?_
     exact ⟨_, _, ⟨u + 1, st2, bq2, o2, Q2, st2.q.length, _, _, _, _, _, rfl, rfl, by exact q0, by exact qf, by exact qs, by first | exact qy | (rw [show -(u : Int) - 1 = 0 - (u : Int) - 1 by omega]; exact qy), by exact qq, by first | exact hbq2 | omega, by first | exact hoq2 | (simp only [pushS, List.length_append, List.length_drop, List.length_cons, List.length_nil]; omega), by first | exact hqd2 | simp only [pushS, List.drop_zero, hqd2], by omega, by (rw [scanN, ← hs2]; unfold stepE; first | (rw [if_pos (by omega), if_pos ⟨by assumption, by omega⟩]) | (rw [if_neg (by omega), if_pos (by omega), if_pos ⟨by assumption, by omega⟩]) | (rw [if_pos (by omega), if_neg (by intro hh; simp_all; done)]) | (rw [if_pos (by omega), if_neg (by intro hh; omega)]) | (rw [if_neg (by omega), if_pos (by omega), if_neg (by intro hh; simp_all; done)]) | (rw [if_neg (by omega), if_pos (by omega), if_neg (by intro hh; omega)]) | (rw [if_neg (by omega), if_neg (by omega)])), by first | rfl | simp [pushS]⟩, by rfl, by omega⟩
  ·
   try simp only [decide_eq_true_eq, decide_eq_false_iff_not, Bool.not_eq_true', Bool.not_eq_false', beq_iff_eq, beq_eq_false_iff_ne, ne_eq] at h2
   refine at_exit rfl ?_
   refine then_x ?_
   refine then_x ?_
   refine blk_x ?_
   refine blk_n ?_
   refine then_n ?_
   exact ⟨_, _, ⟨k', st2, bq2, o2, Q2, st2.q.length, _, _, _, _, _, _, _, _, _, _, rfl, rfl, by exact q0, by exact qf, by exact qs, by exact qy, by exact qq, by exact hbq2, by exact hoq2, by exact hqd2, by exact sk.1, by rw [sk.2]; exact hmk2, by rw [hs2, show u = E.length by omega]; exact hbf2, by omega, by rfl⟩, by rfl, by omega⟩
 ·
  try simp only [decide_eq_true_eq, decide_eq_false_iff_not, Bool.not_eq_true', Bool.not_eq_false', beq_iff_eq, beq_eq_false_iff_ne, ne_eq] at h1
  refine at_exit rfl ?_
  refine then_x ?_
  refine then_x ?_
  refine blk_x ?_
  refine then_n ?_
  refine at_seq rfl ?_
  refine rg rfl ?_
  refine Rq ?_
  refine Rq ?_
  refine Rq ?_
  refine Rq ?_
  have tr : ∀ a b c d e f g h i j k m n o p q r s t u v w : AV, let l := lc_rreach_ok a b c d e f g h i j k m n o p q r s; trim ((5,w)::(4,v)::(114,u)::(113,t)::l) l = [(0,a),(1,b),(2,c),(4,v),(5,w),(6,f),(7,g),(8,h),(9,i),(10,j),(11,k),(27,m),(34,n),(35,o),(36,p),(37,q),(61,r),(95,s)] := by intros; rfl
  refine R_nil (tr ..) ?_; clear tr
  refine then_n ?_
  refine at_ret rfl ?_
  have he := bfs_end (E := E) (f := f) (st := st) (by omega) mm
  rw [he] at hbf
  refine fpure ?_
  refine ⟨?_, rfl⟩
  rw [← hbf]
  exact congrArg AV.tup (by rw [frz_ownB (l := st.seen) (by omega) qs (by omega), frz_ownI (l := st.way) (by omega) qy (by omega)])

end Go.Proofs.Ytdicnojnkbmdlaa
end
