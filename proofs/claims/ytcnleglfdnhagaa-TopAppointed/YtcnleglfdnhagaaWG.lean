/-
  Walks of chapter 55. The steps are written by program (walk.py).
-/
import Derived.Test.YtcnleglfdnhagaaMt
import Derived.Test.YtcnleglfdnhagaaSig
set_option linter.unusedSimpArgs false
set_option linter.unusedVariables false
set_option maxHeartbeats 4000000
set_option maxRecDepth 20000
namespace Go.Proofs.Ytcnleglfdnhagaa
open Go Go.Am
abbrev lc_lacking_w (a b c d e f g h i j k m n o p q r s t u v w x y z A : AV) : Env := [(0,a),(1,b),(4,c),(5,d),(6,e),(8,f),(9,g),(10,h),(11,i),(12,j),(13,k),(14,m),(23,n),(24,o),(25,p),(26,q),(35,r),(47,s),(48,t),(49,u),(50,v),(72,w),(82,x),(83,y),(84,z),(89,A)]
theorem lacking_w (lim b bm bn bu bl F : Nat) (rs : List Nat) (may : List (List Bool)) (need used lack : List Int) (H : Heap) (S : Sta H b bm bn bu rs may used.length need) (hqu0 : hget H bu = some (used.map AV.i)) (hlk : hget H bl = some (lack.map AV.i)) (hl0 : 0 < lack.length) (hl1 : lack.length ≤ 1000) (hlim : lim ≤ H.length) (hkl : may.length ≤ 100) (hnl : used.length ≤ 1000) (hrg : ∀ x, -2 ≤ gt used x ∧ gt used x < may.length) (hlr : ∀ x, x ∈ lack → 0 ≤ x ∧ x < may.length) (hlr2 : ∀ i, i < lack.length → 0 ≤ gt lack i ∧ gt lack i < may.length) (hF : un (markL lack (List.replicate may.length false)) + lack.length < F) (hF2 : F ≤ 10000) :
    ACall sig lim 13 [.ptr b 0, .own 1 bl 0 lack.length] H fun r H' => OutI H.length H' r (outU (lackQ may used F (markL lack (List.replicate may.length false)) lack) may.length) ∧ (∀ c, c < H.length → hget H' c = hget H c) ∧ H.length ≤ H'.length := by
 have hst := S.st
 have hms := S.ms
 have hqu := hqu0
 have hlka := hlk
 have hrl := S.rl
 have hlt := S.lt
 have hbu := hget_lt hqu0
 have hbl := hget_lt hlk
 have hin : True := trivial
 have hrow : True := trivial
 obtain ⟨res, hres⟩ : ∃ res, res = lackQ may used F (markL lack (List.replicate may.length false)) lack := ⟨_, rfl⟩
 rw [← hres]
 refine ACall_own (fa := fa13) rfl rfl rfl rfl ?_
 have tr : ∀ a0 a1 : AV, env0 fa13.keep [a0, a1] = [(0,a0),(1,a1),(4,.any),(5,.any),(6,.any),(8,.any),(9,.any),(10,.any),(11,.any),(12,.any),(13,.any),(14,.any),(23,.any),(24,.any),(25,.any),(26,.any),(35,.any),(47,.any),(48,.any),(49,.any),(50,.any),(72,.any),(82,.any),(83,.any),(84,.any),(89,.any)] := fun a0 a1 => rfl
 refine W_to (tr _ _) ?_; clear tr
 refine at_seq rfl ?_
 refine rg rfl ?_
 refine Rq ?_
 have tr : ∀ a b c d e f g h i j k m n o p q r s t u v w x y z A B : AV, let l := lc_lacking_w a b c d e f g h i j k m n o p q r s t u v w x y z A; trim ((4,B)::l) l = [(0,a),(1,b),(4,B),(5,d),(6,e),(8,f),(9,g),(10,h),(11,i),(12,j),(13,k),(14,m),(23,n),(24,o),(25,p),(26,q),(35,r),(47,s),(48,t),(49,u),(50,v),(72,w),(82,x),(83,y),(84,z),(89,A)] := by intros; rfl
 refine R_nil (tr ..) ?_; clear tr
 refine then_n ?_
 refine at_seq rfl ?_
 refine rg rfl ?_
 refine Rq ?_
 refine Rq ?_
 refine Rq ?_
 refine R_q rfl (by simp (disch := first | omega | (simp only [List.length_map, List.length_append, List.length_set, List.length_cons, List.length_nil]; omega)) only [go_sem, ↓reduceIte, Nat.reduceEqDiff, reduceCtorEq, hst, hms, hqu, hlka, hin, hrow]; rfl) ?_
 refine Rq ?_
 refine A_makeSlice (ms62 _ _ (may.length : Int) _ _ _ (by omega) (by omega) (by simp (disch := first | omega | (simp only [List.length_map, List.length_append, List.length_set, List.length_cons, List.length_nil]; omega)) only [go_sem, ↓reduceIte, Nat.reduceEqDiff, reduceCtorEq, hst, hms, hqu, hlka, hin, hrow]) (by simp (disch := first | omega | (simp only [List.length_map, List.length_append, List.length_set, List.length_cons, List.length_nil]; omega)) only [go_sem, ↓reduceIte, Nat.reduceEqDiff, reduceCtorEq, hst, hms, hqu, hlka, hin, hrow])) ?_
 intro H1 n1
 rw [Int.toNat_natCast] at n1 ⊢
 have e1 := n1.len
 refine Rq ?_
 have tr : ∀ a b c d e f g h i j k m n o p q r s t u v w x y z A B C D E F G H : AV, let l := lc_lacking_w a b c d e f g h i j k m n o p q r s t u v w x y z A; trim ((5,H)::(20,G)::(19,F)::(18,E)::(17,D)::(16,C)::(15,B)::l) l = [(0,a),(1,b),(4,c),(5,H),(6,e),(8,f),(9,g),(10,h),(11,i),(12,j),(13,k),(14,m),(23,n),(24,o),(25,p),(26,q),(35,r),(47,s),(48,t),(49,u),(50,v),(72,w),(82,x),(83,y),(84,z),(89,A)] := by intros; rfl
 refine R_nil (tr ..) ?_; clear tr
 refine then_n ?_
 refine at_seq rfl ?_
 refine rg rfl ?_
 refine Rq ?_
 refine Rcall ?_
 have hc24 := clone24 lim H1 bl lack (by omega) (by omega) ((n1.old _ hbl).trans hlk) (by omega)
 refine ACall_mono hc24 ?_
 rintro _ H2 ⟨bq0, rfl, g2, qq2, k2, l2⟩
 have kk2 : ∀ c, c < H.length → hget H2 c = hget H c := fun c hc => (k2 c (by omega)).trans (n1.old c hc)
 have hin := (k2 _ (by omega)).trans n1.new
 have hst := (kk2 _ hlt.1).trans S.st
 have hms := (kk2 _ hlt.2.1).trans S.ms
 have hqu := (kk2 _ hbu).trans hqu0
 have hlka := (kk2 _ hbl).trans hlk
 refine Rq ?_
 have tr : ∀ a b c d e f g h i j k m n o p q r s t u v w x y z A B C D : AV, let l := lc_lacking_w a b c d e f g h i j k m n o p q r s t u v w x y z A; trim ((6,D)::(22,C)::(21,B)::l) l = [(0,a),(1,b),(4,c),(5,d),(6,D),(8,f),(9,g),(10,h),(11,i),(12,j),(13,k),(14,m),(23,n),(24,o),(25,p),(26,q),(35,r),(47,s),(48,t),(49,u),(50,v),(72,w),(82,x),(83,y),(84,z),(89,A)] := by intros; rfl
 refine R_nil (tr ..) ?_; clear tr
 refine then_n ?_
 refine at_seq rfl ?_
 refine at_seq rfl ?_
 refine rg rfl ?_
 refine Rq ?_
 refine Rq ?_
 refine Rq ?_
 have tr : ∀ a b c d e f g h i j k m n o p q r s t u v w x y z A B C D : AV, let l := lc_lacking_w a b c d e f g h i j k m n o p q r s t u v w x y z A; trim ((25,D)::(24,C)::(23,B)::l) l = [(0,a),(1,b),(4,c),(5,d),(6,e),(8,f),(9,g),(10,h),(11,i),(12,j),(13,k),(14,m),(23,B),(24,C),(25,D),(26,q),(35,r),(47,s),(48,t),(49,u),(50,v),(72,w),(82,x),(83,y),(84,z),(89,A)] := by intros; rfl
 refine R_nil (tr ..) ?_; clear tr
 refine then_n ?_
 refine at_block rfl ?_
 refine loop_n rfl (fun mm kv H' => ∃ i : Nat, ∃ x8 x26 : AV, (kv = [(8, x8), (25, AV.i (i : Int)), (26, x26)]) ∧ (mm = lack.length - i) ∧ (hget H' H.length = some ((markL (lack.take i) (List.replicate may.length false)).map bv)) ∧ (∀ c, c ≠ H.length → hget H' c = hget H2 c) ∧ (H'.length = H2.length) ∧ (i ≤ lack.length)) ⟨0, _, _, rfl, rfl, by exact hin, by exact fun _ _ => rfl, by rfl, by omega⟩ (by rfl) ?_
 rintro mm kv H3 ⟨i, x8, x26, rfl, rfl, q3, k3, e3, hi⟩
 have tr : ∀ a b c d e f g h i j k m n o p q r s t u v w x y z A B C D : AV, upd [(0,a),(1,b),(4,c),(5,d),(6,e),(8,f),(9,g),(10,h),(11,i),(12,j),(13,k),(14,m),(23,n),(24,o),(25,p),(26,q),(35,r),(47,s),(48,t),(49,u),(50,v),(72,w),(82,x),(83,y),(84,z),(89,A)] [(8,B),(25,C),(26,D)] = [(0,a),(1,b),(4,c),(5,d),(6,e),(8,B),(9,g),(10,h),(11,i),(12,j),(13,k),(14,m),(23,n),(24,o),(25,C),(26,D),(35,r),(47,s),(48,t),(49,u),(50,v),(72,w),(82,x),(83,y),(84,z),(89,A)] := by intros; rfl
 refine W_to (tr ..) ?_; clear tr
 have kk3 : ∀ c, c < H.length → hget H3 c = hget H c := fun c hc => (k3 c (by omega)).trans (kk2 c hc)
 have hst := (kk3 _ hlt.1).trans S.st
 have hms := (kk3 _ hlt.2.1).trans S.ms
 have hqu := (kk3 _ hbu).trans hqu0
 have hlka := (kk3 _ hbl).trans hlk
 have hin := q3
 have hml := mark_len (lack.take i) (List.replicate may.length false)
 rw [List.length_replicate] at hml
 refine at_seq rfl ?_
 refine rg rfl ?_
 refine Rq ?_
 have tr : ∀ a b c d e f g h i j k m n o p q r s t u v w x y z A B : AV, let l := lc_lacking_w a b c d e f g h i j k m n o p q r s t u v w x y z A; trim ((26,B)::l) l = [(0,a),(1,b),(4,c),(5,d),(6,e),(8,f),(9,g),(10,h),(11,i),(12,j),(13,k),(14,m),(23,n),(24,o),(25,p),(26,B),(35,r),(47,s),(48,t),(49,u),(50,v),(72,w),(82,x),(83,y),(84,z),(89,A)] := by intros; rfl
 refine R_nil (tr ..) ?_; clear tr
 refine then_n ?_
 refine at_seq rfl ?_
 refine cdd (fun h1 => ?_) (fun h1 => ?_)
 ·
  try simp only [decide_eq_true_eq, decide_eq_false_iff_not, Bool.not_eq_true', Bool.not_eq_false', beq_iff_eq, beq_eq_false_iff_ne, ne_eq] at h1
  refine at_skip rfl ?_
  refine then_n ?_
  refine at_seq rfl ?_
  refine at_block rfl ?_
  refine at_seq rfl ?_
  refine rg rfl ?_
  refine Rq ?_
  refine R_q rfl (by simp (disch := first | omega | (simp only [List.length_map, List.length_append, List.length_set, List.length_cons, List.length_nil]; omega)) only [go_sem, ↓reduceIte, Nat.reduceEqDiff, reduceCtorEq, hst, hms, hqu, hlka, hin, hrow]; rfl) ?_
  refine Rq ?_
  have tr : ∀ a b c d e f g h i j k m n o p q r s t u v w x y z A B C D : AV, let l := lc_lacking_w a b c d e f g h i j k m n o p q r s t u v w x y z A; trim ((8,D)::(28,C)::(27,B)::l) l = [(0,a),(1,b),(4,c),(5,d),(6,e),(8,D),(9,g),(10,h),(11,i),(12,j),(13,k),(14,m),(23,n),(24,o),(25,p),(26,q),(35,r),(47,s),(48,t),(49,u),(50,v),(72,w),(82,x),(83,y),(84,z),(89,A)] := by intros; rfl
  refine R_nil (tr ..) ?_; clear tr
  refine then_n ?_
  refine rg rfl ?_
  have hlv := hlr2 i (by omega)
  refine Rq ?_
  refine Rq ?_
  refine Rq ?_
  refine A_store ty4 (by simp (disch := first | omega | (simp only [List.length_map, List.length_append, List.length_set, List.length_cons, List.length_nil]; omega)) only [go_sem, ↓reduceIte, Nat.reduceEqDiff, reduceCtorEq, hst, hms, hqu, hlka, hin, hrow] <;> rfl) (by simp (disch := first | omega | (simp only [List.length_map, List.length_append, List.length_set, List.length_cons, List.length_nil]; omega)) only [go_sem, ↓reduceIte, Nat.reduceEqDiff, reduceCtorEq, hst, hms, hqu, hlka, hin, hrow] <;> rfl) hin ⟨by omega, rfl, by simp only [List.length_map]; show (gt lack i).toNat + 1 ≤ _; have := hlr2 i (by omega); omega⟩ (setm bv _ (gt lack i).toNat true (by have := hlr2 i (by omega); omega)) ?_
  intro H4 w4
  have tr : ∀ a b c d e f g h i j k m n o p q r s t u v w x y z A B C D : AV, let l := lc_lacking_w a b c d e f g h i j k m n o p q r s t u v w x y z A; trim ((31,D)::(30,C)::(29,B)::l) l = [(0,a),(1,b),(4,c),(5,d),(6,e),(8,f),(9,g),(10,h),(11,i),(12,j),(13,k),(14,m),(23,n),(24,o),(25,p),(26,q),(35,r),(47,s),(48,t),(49,u),(50,v),(72,w),(82,x),(83,y),(84,z),(89,A)] := by intros; rfl
  refine R_nil (tr ..) ?_; clear tr
  refine blk_n ?_
  refine then_n ?_
  refine rg rfl ?_
  refine Rq ?_
  refine Rq ?_
  have tr : ∀ a b c d e f g h i j k m n o p q r s t u v w x y z A B C : AV, let l := lc_lacking_w a b c d e f g h i j k m n o p q r s t u v w x y z A; trim ((25,C)::(32,B)::l) l = [(0,a),(1,b),(4,c),(5,d),(6,e),(8,f),(9,g),(10,h),(11,i),(12,j),(13,k),(14,m),(23,n),(24,o),(25,C),(26,q),(35,r),(47,s),(48,t),(49,u),(50,v),(72,w),(82,x),(83,y),(84,z),(89,A)] := by intros; rfl
  refine R_nil (tr ..) ?_; clear tr
  refine then_n ?_
  exact ⟨_, _, ⟨i + 1, _, _, rfl, rfl, by (rw [take_snoc (by omega), mark_snoc]; exact w4.new), by exact fun c hc => (w4.old c hc).trans (k3 c hc), by (rw [w4.len]; exact e3), by omega⟩, by rfl, by omega⟩
 ·
  try simp only [decide_eq_true_eq, decide_eq_false_iff_not, Bool.not_eq_true', Bool.not_eq_false', beq_iff_eq, beq_eq_false_iff_ne, ne_eq] at h1
  obtain rfl : i = lack.length := by omega
  rw [List.take_length] at hin
  have QZ : QW (H.length + 1) H3 (.own 1 bq0 0 lack.length) lack := ⟨bq0, 0, [], rfl, by omega, (k3 _ (by omega)).trans qq2, rfl⟩
  have qZ := hin
  have kZ := kk3
  refine at_exit rfl ?_
  refine then_x ?_
  refine then_x ?_
  refine blk_x ?_
  refine then_n ?_
  refine at_seq rfl ?_
  refine at_block rfl ?_
  refine loop_n rfl (fun mm kv H' => ∃ oq : AV, ∃ q : List Int, ∃ inn : List Bool, ∃ f : Nat, ∃ x9 x10 x11 x12 x35 x47 x48 x49 x50 x72 : AV, (kv = [(6, oq), (9, x9), (10, x10), (11, x11), (12, x12), (35, x35), (47, x47), (48, x48), (49, x49), (50, x50), (72, x72)]) ∧ (mm = un inn + q.length) ∧ (QW (H.length + 1) H' oq q) ∧ (hget H' H.length = some (inn.map bv)) ∧ (∀ c, c < H.length → hget H' c = hget H c) ∧ (H.length + 1 ≤ H'.length) ∧ (inn.length = may.length) ∧ (lackQ may used f inn q = res) ∧ (un inn + q.length < f) ∧ (f ≤ F) ∧ (∀ x, x ∈ q → 0 ≤ x ∧ x < may.length)) ⟨.own 1 bq0 0 lack.length, lack, markL lack (List.replicate may.length false), F, _, _, _, _, _, _, _, _, _, _, rfl, rfl, by exact QZ, by exact qZ, by exact kZ, by (show H.length + 1 ≤ H3.length; omega), by (rw [mark_len]; simp), by exact hres.symm, by exact hF, by omega, by exact hlr⟩ (by rfl) ?_
  rintro mm kv H5 ⟨oq, q, inn, f, x9, x10, x11, x12, x35, x47, x48, x49, x50, x72, rfl, rfl, hQ, q5, k5, e5, hil, hlq, hun, hfF, hqr⟩
  have tr : ∀ a b c d e f g h i j k m n o p q r s t u v w x y z A B C D E F G H I J K L : AV, upd [(0,a),(1,b),(4,c),(5,d),(6,e),(8,f),(9,g),(10,h),(11,i),(12,j),(13,k),(14,m),(23,n),(24,o),(25,p),(26,q),(35,r),(47,s),(48,t),(49,u),(50,v),(72,w),(82,x),(83,y),(84,z),(89,A)] [(6,B),(9,C),(10,D),(11,E),(12,F),(35,G),(47,H),(48,I),(49,J),(50,K),(72,L)] = [(0,a),(1,b),(4,c),(5,d),(6,B),(8,f),(9,C),(10,D),(11,E),(12,F),(13,k),(14,m),(23,n),(24,o),(25,p),(26,q),(35,G),(47,H),(48,I),(49,J),(50,K),(72,L),(82,x),(83,y),(84,z),(89,A)] := by intros; rfl
  refine W_to (tr ..) ?_; clear tr
  have hst := (k5 _ hlt.1).trans S.st
  have hms := (k5 _ hlt.2.1).trans S.ms
  have hqu := (k5 _ hbu).trans hqu0
  have hlka := (k5 _ hbl).trans hlk
  have hin := q5
  refine at_seq rfl ?_
  refine at_seq rfl ?_
  refine rg rfl ?_
  refine Rq ?_
  refine R_q (r := AV.i (q.length : Int)) rfl (by simp only [go_sem, ↓reduceIte, Nat.reduceEqDiff]; exact hQ.lenV) ?_
  refine Rq ?_
  have tr : ∀ a b c d e f g h i j k m n o p q r s t u v w x y z A B C D : AV, let l := lc_lacking_w a b c d e f g h i j k m n o p q r s t u v w x y z A; trim ((35,D)::(34,C)::(33,B)::l) l = [(0,a),(1,b),(4,c),(5,d),(6,e),(8,f),(9,g),(10,h),(11,i),(12,j),(13,k),(14,m),(23,n),(24,o),(25,p),(26,q),(35,D),(47,s),(48,t),(49,u),(50,v),(72,w),(82,x),(83,y),(84,z),(89,A)] := by intros; rfl
  refine R_nil (tr ..) ?_; clear tr
  refine then_n ?_
  refine cdd (fun h2 => ?_) (fun h2 => ?_)
  ·
   try simp only [decide_eq_true_eq, decide_eq_false_iff_not, Bool.not_eq_true', Bool.not_eq_false', beq_iff_eq, beq_eq_false_iff_ne, ne_eq] at h2
   refine at_skip rfl ?_
   refine then_n ?_
   refine at_block rfl ?_
   refine at_seq rfl ?_
   refine rg rfl ?_
   obtain ⟨v, q1, rfl⟩ : ∃ v q1, q = v :: q1 := by
     cases q with
     | nil => simp at *
     | cons v q1 => exact ⟨v, q1, rfl⟩
   obtain ⟨bq, off, rfl, ⟨kq, hkq, hkv⟩, hQ2⟩ := qw_head hQ
   have hvr := hqr v (by simp)
   have hrow := (k5 _ (hlt.2.2.2 v.toNat (by omega))).trans (S.rw v.toNat (by omega)).1
   have hrlen := (S.rw v.toNat (by omega)).2
   simp only [List.length_cons] at hun
   refine Rq ?_
   refine Rq ?_
   refine R_q (r := AV.i v) rfl (by simp (disch := first | omega | (simp only [List.length_map, List.length_append, List.length_set, List.length_cons, List.length_nil]; omega)) only [go_sem, ↓reduceIte, Nat.reduceEqDiff, reduceCtorEq, hst, hms, hqu, hlka, hin, hrow, hkq] <;> exact hkv) ?_
   refine Rq ?_
   have tr : ∀ a b c d e f g h i j k m n o p q r s t u v w x y z A B C D E : AV, let l := lc_lacking_w a b c d e f g h i j k m n o p q r s t u v w x y z A; trim ((9,E)::(38,D)::(37,C)::(36,B)::l) l = [(0,a),(1,b),(4,c),(5,d),(6,e),(8,f),(9,E),(10,h),(11,i),(12,j),(13,k),(14,m),(23,n),(24,o),(25,p),(26,q),(35,r),(47,s),(48,t),(49,u),(50,v),(72,w),(82,x),(83,y),(84,z),(89,A)] := by intros; rfl
   refine R_nil (tr ..) ?_; clear tr
   refine then_n ?_
   refine at_seq rfl ?_
   refine rg rfl ?_
   refine Rq ?_
   refine R_q (r := .own 1 bq (off + 1) q1.length) rfl (by simp only [go_sem, ↓reduceIte, Nat.reduceEqDiff, Option.map_none, Option.map_some]; exact sl25 bq off q1.length) ?_
   refine Rq ?_
   have tr : ∀ a b c d e f g h i j k m n o p q r s t u v w x y z A B C D : AV, let l := lc_lacking_w a b c d e f g h i j k m n o p q r s t u v w x y z A; trim ((6,D)::(40,C)::(39,B)::l) l = [(0,a),(1,b),(4,c),(5,d),(6,D),(8,f),(9,g),(10,h),(11,i),(12,j),(13,k),(14,m),(23,n),(24,o),(25,p),(26,q),(35,r),(47,s),(48,t),(49,u),(50,v),(72,w),(82,x),(83,y),(84,z),(89,A)] := by intros; rfl
   refine R_nil (tr ..) ?_; clear tr
   refine then_n ?_
   refine at_seq rfl ?_
   refine rg rfl ?_
   refine Rq ?_
   refine Rq ?_
   refine Rq ?_
   refine R_q rfl (by simp (disch := first | omega | (simp only [List.length_map, List.length_append, List.length_set, List.length_cons, List.length_nil]; omega)) only [go_sem, ↓reduceIte, Nat.reduceEqDiff, reduceCtorEq, hst, hms, hqu, hlka, hin, hrow]; rfl) ?_
   refine Rq ?_
   refine Rq ?_
   refine R_q rfl (by simp (disch := first | omega | (simp only [List.length_map, List.length_append, List.length_set, List.length_cons, List.length_nil]; omega)) only [go_sem, ↓reduceIte, Nat.reduceEqDiff, reduceCtorEq, hst, hms, hqu, hlka, hin, hrow]; rfl) ?_
   refine Rq ?_
   refine Rq ?_
   have tr : ∀ a b c d e f g h i j k m n o p q r s t u v w x y z A B C D E F G H I J : AV, let l := lc_lacking_w a b c d e f g h i j k m n o p q r s t u v w x y z A; trim ((49,J)::(48,I)::(47,H)::(46,G)::(45,F)::(44,E)::(43,D)::(42,C)::(41,B)::l) l = [(0,a),(1,b),(4,c),(5,d),(6,e),(8,f),(9,g),(10,h),(11,i),(12,j),(13,k),(14,m),(23,n),(24,o),(25,p),(26,q),(35,r),(47,H),(48,I),(49,J),(50,v),(72,w),(82,x),(83,y),(84,z),(89,A)] := by intros; rfl
   refine R_nil (tr ..) ?_; clear tr
   refine then_n ?_
   refine at_block rfl ?_
   refine loop_n rfl (fun mm kv H' => ∃ u : Nat, ∃ oq2 : AV, ∃ q2 : List Int, ∃ inn2 : List Bool, ∃ x10 x11 x12 x50 x72 : AV, (kv = [(6, oq2), (10, x10), (11, x11), (12, x12), (49, AV.i (u : Int)), (50, x50), (72, x72)]) ∧ (mm = used.length - u) ∧ (QW (H.length + 1) H' oq2 q2) ∧ (hget H' H.length = some (inn2.map bv)) ∧ (∀ c, c < H.length → hget H' c = hget H c) ∧ (H.length + 1 ≤ H'.length) ∧ (inn2.length = may.length) ∧ (lackRow (gt may v.toNat) used (used.length - u) u inn2 q2 = lackRow (gt may v.toNat) used used.length 0 inn q1) ∧ (un inn2 + q2.length = un inn + q1.length) ∧ (∀ x, x ∈ q2 → 0 ≤ x ∧ x < may.length) ∧ (u ≤ used.length)) ⟨0, _, q1, inn, _, _, _, _, _, rfl, rfl, by exact hQ2, by exact q5, by exact k5, by omega, by exact hil, by rfl, by rfl, by exact fun x hx => hqr x (by simp [hx]), by omega⟩ (by rfl) ?_
   rintro mm kv H6 ⟨u, oq2, q2, inn2, x10, x11, x12, x50, x72, rfl, rfl, hQ3, q6, k6, e6, hil3, hrr, hsz, hqr3, hu⟩
   have tr : ∀ a b c d e f g h i j k m n o p q r s t u v w x y z A B C D E F G H : AV, upd [(0,a),(1,b),(4,c),(5,d),(6,e),(8,f),(9,g),(10,h),(11,i),(12,j),(13,k),(14,m),(23,n),(24,o),(25,p),(26,q),(35,r),(47,s),(48,t),(49,u),(50,v),(72,w),(82,x),(83,y),(84,z),(89,A)] [(6,B),(10,C),(11,D),(12,E),(49,F),(50,G),(72,H)] = [(0,a),(1,b),(4,c),(5,d),(6,B),(8,f),(9,g),(10,C),(11,D),(12,E),(13,k),(14,m),(23,n),(24,o),(25,p),(26,q),(35,r),(47,s),(48,t),(49,F),(50,G),(72,H),(82,x),(83,y),(84,z),(89,A)] := by intros; rfl
   refine W_to (tr ..) ?_; clear tr
   have hst := (k6 _ hlt.1).trans S.st
   have hms := (k6 _ hlt.2.1).trans S.ms
   have hqu := (k6 _ hbu).trans hqu0
   have hlka := (k6 _ hbl).trans hlk
   have hin := q6
   have hrow := (k6 _ (hlt.2.2.2 v.toNat (by omega))).trans (S.rw v.toNat (by omega)).1
   have hrx := hrg u
   refine at_seq rfl ?_
   refine rg rfl ?_
   refine Rq ?_
   have tr : ∀ a b c d e f g h i j k m n o p q r s t u v w x y z A B : AV, let l := lc_lacking_w a b c d e f g h i j k m n o p q r s t u v w x y z A; trim ((50,B)::l) l = [(0,a),(1,b),(4,c),(5,d),(6,e),(8,f),(9,g),(10,h),(11,i),(12,j),(13,k),(14,m),(23,n),(24,o),(25,p),(26,q),(35,r),(47,s),(48,t),(49,u),(50,B),(72,w),(82,x),(83,y),(84,z),(89,A)] := by intros; rfl
   refine R_nil (tr ..) ?_; clear tr
   refine then_n ?_
   refine at_seq rfl ?_
   refine cdd (fun h3 => ?_) (fun h3 => ?_)
   ·
    try simp only [decide_eq_true_eq, decide_eq_false_iff_not, Bool.not_eq_true', Bool.not_eq_false', beq_iff_eq, beq_eq_false_iff_ne, ne_eq] at h3
    refine at_skip rfl ?_
    refine then_n ?_
    refine at_seq rfl ?_
    refine at_block rfl ?_
    refine at_seq rfl ?_
    refine rg rfl ?_
    refine Rq ?_
    refine Rq ?_
    refine R_q rfl (by simp (disch := first | omega | (simp only [List.length_map, List.length_append, List.length_set, List.length_cons, List.length_nil]; omega)) only [go_sem, ↓reduceIte, Nat.reduceEqDiff, reduceCtorEq, hst, hms, hqu, hlka, hin, hrow]; rfl) ?_
    refine Rq ?_
    refine Rq ?_
    have tr : ∀ a b c d e f g h i j k m n o p q r s t u v w x y z A B C D E F : AV, let l := lc_lacking_w a b c d e f g h i j k m n o p q r s t u v w x y z A; trim ((11,F)::(10,E)::(53,D)::(52,C)::(51,B)::l) l = [(0,a),(1,b),(4,c),(5,d),(6,e),(8,f),(9,g),(10,E),(11,F),(12,j),(13,k),(14,m),(23,n),(24,o),(25,p),(26,q),(35,r),(47,s),(48,t),(49,u),(50,v),(72,w),(82,x),(83,y),(84,z),(89,A)] := by intros; rfl
    refine R_nil (tr ..) ?_; clear tr
    refine then_n ?_
    refine at_seq rfl ?_
    refine rg rfl ?_
    refine Rq ?_
    refine Rq ?_
    refine Rq ?_
    refine R_q rfl (by simp (disch := first | omega | (simp only [List.length_map, List.length_append, List.length_set, List.length_cons, List.length_nil]; omega)) only [go_sem, ↓reduceIte, Nat.reduceEqDiff, reduceCtorEq, hst, hms, hqu, hlka, hin, hrow]; rfl) ?_
    refine Rq ?_
    refine Rq ?_
    refine R_q rfl (by simp (disch := first | omega | (simp only [List.length_map, List.length_append, List.length_set, List.length_cons, List.length_nil]; omega)) only [go_sem, ↓reduceIte, Nat.reduceEqDiff, reduceCtorEq, hst, hms, hqu, hlka, hin, hrow]; rfl) ?_
    refine Rq ?_
    have tr : ∀ a b c d e f g h i j k m n o p q r s t u v w x y z A B C D E F G H I : AV, let l := lc_lacking_w a b c d e f g h i j k m n o p q r s t u v w x y z A; trim ((12,I)::(60,H)::(59,G)::(58,F)::(57,E)::(56,D)::(55,C)::(54,B)::l) l = [(0,a),(1,b),(4,c),(5,d),(6,e),(8,f),(9,g),(10,h),(11,i),(12,I),(13,k),(14,m),(23,n),(24,o),(25,p),(26,q),(35,r),(47,s),(48,t),(49,u),(50,v),(72,w),(82,x),(83,y),(84,z),(89,A)] := by intros; rfl
    refine R_nil (tr ..) ?_; clear tr
    refine then_n ?_
    refine at_seq rfl ?_
    refine rg rfl ?_
    refine Rq ?_
    refine Rq ?_
    refine Rp_split (fun h4 => ?_) (fun h4 => ?_)
    ·
     try simp only [decide_eq_true_eq, decide_eq_false_iff_not, Bool.not_eq_true', Bool.not_eq_false', beq_iff_eq, beq_eq_false_iff_ne, ne_eq] at h4
     refine Ry ?_
     refine Rq ?_
     refine Ry ?_
     refine Rq ?_
     refine Rq ?_
     refine Rq ?_
     refine Rp_split (fun h5 => ?_) (fun h5 => ?_)
     ·
      try simp only [decide_eq_true_eq, decide_eq_false_iff_not, Bool.not_eq_true', Bool.not_eq_false', beq_iff_eq, beq_eq_false_iff_ne, ne_eq] at h5
      refine Ry ?_
      refine Rq ?_
      refine Ry ?_
      refine Rq ?_
      refine Ry ?_
      refine Rq ?_
      refine Ry ?_
      refine R_q rfl (by simp (disch := first | omega | (simp only [List.length_map, List.length_append, List.length_set, List.length_cons, List.length_nil]; omega)) only [go_sem, ↓reduceIte, Nat.reduceEqDiff, reduceCtorEq, hst, hms, hqu, hlka, hin, hrow]; rfl) ?_
      refine Ry ?_
      refine Rq ?_
      refine Rq ?_
      have tr : ∀ a b c d e f g h i j k m n o p q r s t u v w x y z A B C D E F G H I J K L M : AV, let l := lc_lacking_w a b c d e f g h i j k m n o p q r s t u v w x y z A; trim ((72,M)::(71,L)::(70,K)::(69,J)::(68,I)::(67,H)::(66,G)::(65,F)::(64,E)::(63,D)::(62,C)::(61,B)::l) l = [(0,a),(1,b),(4,c),(5,d),(6,e),(8,f),(9,g),(10,h),(11,i),(12,j),(13,k),(14,m),(23,n),(24,o),(25,p),(26,q),(35,r),(47,s),(48,t),(49,u),(50,v),(72,M),(82,x),(83,y),(84,z),(89,A)] := by intros; rfl
      refine R_nil (tr ..) ?_; clear tr
      refine then_n ?_
      refine cdd (fun h6 => ?_) (fun h6 => ?_)
      ·
       try simp only [decide_eq_true_eq, decide_eq_false_iff_not, Bool.not_eq_true', Bool.not_eq_false', beq_iff_eq, beq_eq_false_iff_ne, ne_eq] at h6
       refine at_seq rfl ?_
       refine rg rfl ?_
       refine Rq ?_
       refine Rq ?_
       refine Rq ?_
       refine A_store ty4 (by simp (disch := first | omega | (simp only [List.length_map, List.length_append, List.length_set, List.length_cons, List.length_nil]; omega)) only [go_sem, ↓reduceIte, Nat.reduceEqDiff, reduceCtorEq, hst, hms, hqu, hlka, hin, hrow] <;> rfl) (by simp (disch := first | omega | (simp only [List.length_map, List.length_append, List.length_set, List.length_cons, List.length_nil]; omega)) only [go_sem, ↓reduceIte, Nat.reduceEqDiff, reduceCtorEq, hst, hms, hqu, hlka, hin, hrow] <;> rfl) hin ⟨by omega, rfl, by simp only [List.length_map]; show (gt used u).toNat + 1 ≤ _; omega⟩ (setm bv inn2 (gt used u).toNat true (by omega)) ?_
       intro H8 w8
       have e8 := w8.len
       have hus := un_set inn2 (gt used u).toNat (by omega) (by assumption)
       have hQ8 := hQ3.mono (fun c h1 h2 => w8.old c (by omega))
       have tr : ∀ a b c d e f g h i j k m n o p q r s t u v w x y z A B C D : AV, let l := lc_lacking_w a b c d e f g h i j k m n o p q r s t u v w x y z A; trim ((75,D)::(74,C)::(73,B)::l) l = [(0,a),(1,b),(4,c),(5,d),(6,e),(8,f),(9,g),(10,h),(11,i),(12,j),(13,k),(14,m),(23,n),(24,o),(25,p),(26,q),(35,r),(47,s),(48,t),(49,u),(50,v),(72,w),(82,x),(83,y),(84,z),(89,A)] := by intros; rfl
       refine R_nil (tr ..) ?_; clear tr
       refine then_n ?_
       refine rg rfl ?_
       refine Rq ?_
       refine Rq ?_
       refine A_buildSlice (bs25 _ _ _ _ (gt used u) (by simp (disch := first | omega | (simp only [List.length_map, List.length_append, List.length_set, List.length_cons, List.length_nil]; omega)) only [go_sem, ↓reduceIte, Nat.reduceEqDiff, reduceCtorEq, hst, hms, hqu, hlka, hin, hrow])) ?_
       intro HB nB
       have eB := nB.len
       obtain ⟨cb, hcl, ⟨wq, hwq⟩, hcb, HK, hap, gK⟩ := qw_append (lim := lim) (v := gt used u) (hQ8.mono (fun c h1 h2 => nB.old c h2)) nB.new (by omega) (by omega)
       refine A_append ⟨HK, by simp (disch := first | omega | (simp only [List.length_map, List.length_append, List.length_set, List.length_cons, List.length_nil]; omega)) only [go_sem, ↓reduceIte, Nat.reduceEqDiff, reduceCtorEq, hst, hms, hqu, hlka, hin, hrow]; exact hap, gK⟩ ?_
       intro HD gD
       have eD := gD.len
       have QX : QW (H.length + 1) HD (.own 1 HB.length 0 (q2.length + 1)) (q2 ++ [gt used u]) := ⟨HB.length, 0, [], by simp, by omega, gD.new, rfl⟩
       have qX := (gD.old H.length (by omega) (by omega)).trans ((nB.old _ (by omega)).trans w8.new)
       have kX : ∀ c, c < H.length → hget HD c = hget H c := fun c hc => (gD.old c (by omega) (by omega)).trans ((nB.old c (by omega)).trans ((w8.old c (by omega)).trans (k6 c hc)))
       refine Rq ?_
       have tr : ∀ a b c d e f g h i j k m n o p q r s t u v w x y z A B C D E F : AV, let l := lc_lacking_w a b c d e f g h i j k m n o p q r s t u v w x y z A; trim ((6,F)::(79,E)::(78,D)::(77,C)::(76,B)::l) l = [(0,a),(1,b),(4,c),(5,d),(6,F),(8,f),(9,g),(10,h),(11,i),(12,j),(13,k),(14,m),(23,n),(24,o),(25,p),(26,q),(35,r),(47,s),(48,t),(49,u),(50,v),(72,w),(82,x),(83,y),(84,z),(89,A)] := by intros; rfl
       refine R_nil (tr ..) ?_; clear tr
       refine blk_n ?_
       refine then_n ?_
       refine rg rfl ?_
       refine Rq ?_
       refine Rq ?_
       have tr : ∀ a b c d e f g h i j k m n o p q r s t u v w x y z A B C : AV, let l := lc_lacking_w a b c d e f g h i j k m n o p q r s t u v w x y z A; trim ((49,C)::(80,B)::l) l = [(0,a),(1,b),(4,c),(5,d),(6,e),(8,f),(9,g),(10,h),(11,i),(12,j),(13,k),(14,m),(23,n),(24,o),(25,p),(26,q),(35,r),(47,s),(48,t),(49,C),(50,v),(72,w),(82,x),(83,y),(84,z),(89,A)] := by intros; rfl
       refine R_nil (tr ..) ?_; clear tr
       refine then_n ?_
       exact ⟨_, _, ⟨u + 1, .own 1 HB.length 0 (q2.length + 1), q2 ++ [gt used u], inn2.set (gt used u).toNat true, _, _, _, _, _, rfl, rfl, by first | exact QX | exact hQ3, by first | exact qX | exact q6, by first | exact kX | exact k6, by first | (show H.length + 1 ≤ HD.length; omega) | exact e6, by first | (rw [List.length_set]; exact hil3) | exact hil3, by first | exact (lackRow_y (by omega) ⟨by assumption, by omega, by assumption⟩).symm.trans hrr | exact (lackRow_n (by omega) (by rintro ⟨h8, h9, h10⟩; first | omega | simp_all)).symm.trans hrr, by first | (rw [List.length_append]; simp only [List.length_cons, List.length_nil]; omega) | exact hsz, by first | (intro x hx; rw [List.mem_append] at hx; rcases hx with hx | hx; exact hqr3 x hx; (obtain rfl : x = gt used u := by simpa using hx); omega) | exact hqr3, by omega⟩, by rfl, by omega⟩
      ·
       try simp only [decide_eq_true_eq, decide_eq_false_iff_not, Bool.not_eq_true', Bool.not_eq_false', beq_iff_eq, beq_eq_false_iff_ne, ne_eq] at h6
       refine at_skip rfl ?_
       refine blk_n ?_
       refine then_n ?_
       refine rg rfl ?_
       refine Rq ?_
       refine Rq ?_
       have tr : ∀ a b c d e f g h i j k m n o p q r s t u v w x y z A B C : AV, let l := lc_lacking_w a b c d e f g h i j k m n o p q r s t u v w x y z A; trim ((49,C)::(80,B)::l) l = [(0,a),(1,b),(4,c),(5,d),(6,e),(8,f),(9,g),(10,h),(11,i),(12,j),(13,k),(14,m),(23,n),(24,o),(25,p),(26,q),(35,r),(47,s),(48,t),(49,C),(50,v),(72,w),(82,x),(83,y),(84,z),(89,A)] := by intros; rfl
       refine R_nil (tr ..) ?_; clear tr
       refine then_n ?_
       exact ⟨_, _, ⟨u + 1, oq2, q2, inn2, _, _, _, _, _, rfl, rfl, by first | exact QX | exact hQ3, by first | exact qX | exact q6, by first | exact kX | exact k6, by first | (show H.length + 1 ≤ HD.length; omega) | exact e6, by first | (rw [List.length_set]; exact hil3) | exact hil3, by first | exact (lackRow_y (by omega) ⟨by assumption, by omega, by assumption⟩).symm.trans hrr | exact (lackRow_n (by omega) (by rintro ⟨h8, h9, h10⟩; first | omega | simp_all)).symm.trans hrr, by first | (rw [List.length_append]; simp only [List.length_cons, List.length_nil]; omega) | exact hsz, by first | (intro x hx; rw [List.mem_append] at hx; rcases hx with hx | hx; exact hqr3 x hx; (obtain rfl : x = gt used u := by simpa using hx); omega) | exact hqr3, by omega⟩, by rfl, by omega⟩
     ·
      try simp only [decide_eq_true_eq, decide_eq_false_iff_not, Bool.not_eq_true', Bool.not_eq_false', beq_iff_eq, beq_eq_false_iff_ne, ne_eq] at h5
      refine Rn ?_
      refine Rn ?_
      refine Rn ?_
      refine Rn ?_
      refine Rn ?_
      refine Rq ?_
      have tr : ∀ a b c d e f g h i j k m n o p q r s t u v w x y z A B C D E F G H I J K L M : AV, let l := lc_lacking_w a b c d e f g h i j k m n o p q r s t u v w x y z A; trim ((72,M)::(71,L)::(70,K)::(69,J)::(68,I)::(67,H)::(66,G)::(65,F)::(64,E)::(63,D)::(62,C)::(61,B)::l) l = [(0,a),(1,b),(4,c),(5,d),(6,e),(8,f),(9,g),(10,h),(11,i),(12,j),(13,k),(14,m),(23,n),(24,o),(25,p),(26,q),(35,r),(47,s),(48,t),(49,u),(50,v),(72,M),(82,x),(83,y),(84,z),(89,A)] := by intros; rfl
      refine R_nil (tr ..) ?_; clear tr
      refine then_n ?_
      refine cdf ?_
      refine at_skip rfl ?_
      refine blk_n ?_
      refine then_n ?_
      refine rg rfl ?_
      refine Rq ?_
      refine Rq ?_
      have tr : ∀ a b c d e f g h i j k m n o p q r s t u v w x y z A B C : AV, let l := lc_lacking_w a b c d e f g h i j k m n o p q r s t u v w x y z A; trim ((49,C)::(80,B)::l) l = [(0,a),(1,b),(4,c),(5,d),(6,e),(8,f),(9,g),(10,h),(11,i),(12,j),(13,k),(14,m),(23,n),(24,o),(25,p),(26,q),(35,r),(47,s),(48,t),(49,C),(50,v),(72,w),(82,x),(83,y),(84,z),(89,A)] := by intros; rfl
      refine R_nil (tr ..) ?_; clear tr
      refine then_n ?_
      exact ⟨_, _, ⟨u + 1, oq2, q2, inn2, _, _, _, _, _, rfl, rfl, by first | exact QX | exact hQ3, by first | exact qX | exact q6, by first | exact kX | exact k6, by first | (show H.length + 1 ≤ HD.length; omega) | exact e6, by first | (rw [List.length_set]; exact hil3) | exact hil3, by first | exact (lackRow_y (by omega) ⟨by assumption, by omega, by assumption⟩).symm.trans hrr | exact (lackRow_n (by omega) (by rintro ⟨h8, h9, h10⟩; first | omega | simp_all)).symm.trans hrr, by first | (rw [List.length_append]; simp only [List.length_cons, List.length_nil]; omega) | exact hsz, by first | (intro x hx; rw [List.mem_append] at hx; rcases hx with hx | hx; exact hqr3 x hx; (obtain rfl : x = gt used u := by simpa using hx); omega) | exact hqr3, by omega⟩, by rfl, by omega⟩
    ·
     try simp only [decide_eq_true_eq, decide_eq_false_iff_not, Bool.not_eq_true', Bool.not_eq_false', beq_iff_eq, beq_eq_false_iff_ne, ne_eq] at h4
     refine Rn ?_
     refine Rn ?_
     refine Rq ?_
     refine Rq ?_
     refine Rn ?_
     refine Rn ?_
     refine Rn ?_
     refine Rn ?_
     refine Rn ?_
     refine Rq ?_
     have tr : ∀ a b c d e f g h i j k m n o p q r s t u v w x y z A B C D E F G H I J K L M : AV, let l := lc_lacking_w a b c d e f g h i j k m n o p q r s t u v w x y z A; trim ((72,M)::(71,L)::(70,K)::(69,J)::(68,I)::(67,H)::(66,G)::(65,F)::(64,E)::(63,D)::(62,C)::(61,B)::l) l = [(0,a),(1,b),(4,c),(5,d),(6,e),(8,f),(9,g),(10,h),(11,i),(12,j),(13,k),(14,m),(23,n),(24,o),(25,p),(26,q),(35,r),(47,s),(48,t),(49,u),(50,v),(72,M),(82,x),(83,y),(84,z),(89,A)] := by intros; rfl
     refine R_nil (tr ..) ?_; clear tr
     refine then_n ?_
     refine cdf ?_
     refine at_skip rfl ?_
     refine blk_n ?_
     refine then_n ?_
     refine rg rfl ?_
     refine Rq ?_
     refine Rq ?_
     have tr : ∀ a b c d e f g h i j k m n o p q r s t u v w x y z A B C : AV, let l := lc_lacking_w a b c d e f g h i j k m n o p q r s t u v w x y z A; trim ((49,C)::(80,B)::l) l = [(0,a),(1,b),(4,c),(5,d),(6,e),(8,f),(9,g),(10,h),(11,i),(12,j),(13,k),(14,m),(23,n),(24,o),(25,p),(26,q),(35,r),(47,s),(48,t),(49,C),(50,v),(72,w),(82,x),(83,y),(84,z),(89,A)] := by intros; rfl
     refine R_nil (tr ..) ?_; clear tr
     refine then_n ?_
     exact ⟨_, _, ⟨u + 1, oq2, q2, inn2, _, _, _, _, _, rfl, rfl, by first | exact QX | exact hQ3, by first | exact qX | exact q6, by first | exact kX | exact k6, by first | (show H.length + 1 ≤ HD.length; omega) | exact e6, by first | (rw [List.length_set]; exact hil3) | exact hil3, by first | exact (lackRow_y (by omega) ⟨by assumption, by omega, by assumption⟩).symm.trans hrr | exact (lackRow_n (by omega) (by rintro ⟨h8, h9, h10⟩; first | omega | simp_all)).symm.trans hrr, by first | (rw [List.length_append]; simp only [List.length_cons, List.length_nil]; omega) | exact hsz, by first | (intro x hx; rw [List.mem_append] at hx; rcases hx with hx | hx; exact hqr3 x hx; (obtain rfl : x = gt used u := by simpa using hx); omega) | exact hqr3, by omega⟩, by rfl, by omega⟩
   ·
    try simp only [decide_eq_true_eq, decide_eq_false_iff_not, Bool.not_eq_true', Bool.not_eq_false', beq_iff_eq, beq_eq_false_iff_ne, ne_eq] at h3
    refine at_exit rfl ?_
    refine then_x ?_
    refine then_x ?_
    refine blk_x ?_
    refine blk_n ?_
    refine then_n ?_
    exact ⟨_, _, ⟨oq2, q2, inn2, f - 1, _, _, _, _, _, _, _, _, _, _, rfl, rfl, by exact hQ3, by exact q6, by exact k6, by exact e6, by exact hil3, by (rw [lackRow_z (by omega)] at hrr; rw [show f = (f - 1) + 1 by omega, lackQ, ← hrr] at hlq; exact hlq), by (have := hsz; omega), by omega, by exact hqr3⟩, by rfl, by (have := hsz; simp only [List.length_cons]; omega)⟩
  ·
   try simp only [decide_eq_true_eq, decide_eq_false_iff_not, Bool.not_eq_true', Bool.not_eq_false', beq_iff_eq, beq_eq_false_iff_ne, ne_eq] at h2
   have hqe : q = [] := List.eq_nil_of_length_eq_zero (by omega)
   refine at_exit rfl ?_
   refine then_x ?_
   refine then_x ?_
   refine blk_x ?_
   refine then_n ?_
   refine at_seq rfl ?_
   refine rg rfl ?_
   refine Rq ?_
   have tr : ∀ a b c d e f g h i j k m n o p q r s t u v w x y z A B : AV, let l := lc_lacking_w a b c d e f g h i j k m n o p q r s t u v w x y z A; trim ((13,B)::l) l = [(0,a),(1,b),(4,c),(5,d),(6,e),(8,f),(9,g),(10,h),(11,i),(12,j),(13,B),(14,m),(23,n),(24,o),(25,p),(26,q),(35,r),(47,s),(48,t),(49,u),(50,v),(72,w),(82,x),(83,y),(84,z),(89,A)] := by intros; rfl
   refine R_nil (tr ..) ?_; clear tr
   refine then_n ?_
   refine at_seq rfl ?_
   refine at_seq rfl ?_
   refine rg rfl ?_
   refine Rq ?_
   refine Rq ?_
   refine Rq ?_
   have tr : ∀ a b c d e f g h i j k m n o p q r s t u v w x y z A B C D : AV, let l := lc_lacking_w a b c d e f g h i j k m n o p q r s t u v w x y z A; trim ((83,D)::(82,C)::(81,B)::l) l = [(0,a),(1,b),(4,c),(5,d),(6,e),(8,f),(9,g),(10,h),(11,i),(12,j),(13,k),(14,m),(23,n),(24,o),(25,p),(26,q),(35,r),(47,s),(48,t),(49,u),(50,v),(72,w),(82,C),(83,D),(84,z),(89,A)] := by intros; rfl
   refine R_nil (tr ..) ?_; clear tr
   refine then_n ?_
   refine at_block rfl ?_
   refine loop_n rfl (fun mm kv H' => ∃ i : Nat, ∃ oo : AV, ∃ x14 x84 x89 : AV, (kv = [(13, oo), (14, x14), (83, AV.i (i : Int)), (84, x84), (89, x89)]) ∧ (mm = may.length - i) ∧ (OutI (H.length + 1) H' oo (outU inn i)) ∧ (hget H' H.length = some (inn.map bv)) ∧ (∀ c, c < H.length → hget H' c = hget H c) ∧ (H.length + 1 ≤ H'.length) ∧ (i ≤ may.length)) ⟨0, _, _, _, _, rfl, rfl, by exact .inl ⟨rfl, rfl⟩, by exact q5, by exact k5, by exact e5, by omega⟩ (by rfl) ?_
   rintro mm kv H7 ⟨i, oo, x14, x84, x89, rfl, rfl, hO, q7, k7, e7, hi⟩
   have tr : ∀ a b c d e f g h i j k m n o p q r s t u v w x y z A B C D E F : AV, upd [(0,a),(1,b),(4,c),(5,d),(6,e),(8,f),(9,g),(10,h),(11,i),(12,j),(13,k),(14,m),(23,n),(24,o),(25,p),(26,q),(35,r),(47,s),(48,t),(49,u),(50,v),(72,w),(82,x),(83,y),(84,z),(89,A)] [(13,B),(14,C),(83,D),(84,E),(89,F)] = [(0,a),(1,b),(4,c),(5,d),(6,e),(8,f),(9,g),(10,h),(11,i),(12,j),(13,B),(14,C),(23,n),(24,o),(25,p),(26,q),(35,r),(47,s),(48,t),(49,u),(50,v),(72,w),(82,x),(83,D),(84,E),(89,F)] := by intros; rfl
   refine W_to (tr ..) ?_; clear tr
   have hin := q7
   refine at_seq rfl ?_
   refine rg rfl ?_
   refine Rq ?_
   have tr : ∀ a b c d e f g h i j k m n o p q r s t u v w x y z A B : AV, let l := lc_lacking_w a b c d e f g h i j k m n o p q r s t u v w x y z A; trim ((84,B)::l) l = [(0,a),(1,b),(4,c),(5,d),(6,e),(8,f),(9,g),(10,h),(11,i),(12,j),(13,k),(14,m),(23,n),(24,o),(25,p),(26,q),(35,r),(47,s),(48,t),(49,u),(50,v),(72,w),(82,x),(83,y),(84,B),(89,A)] := by intros; rfl
   refine R_nil (tr ..) ?_; clear tr
   refine then_n ?_
   refine at_seq rfl ?_
   refine cdd (fun h7 => ?_) (fun h7 => ?_)
   ·
    try simp only [decide_eq_true_eq, decide_eq_false_iff_not, Bool.not_eq_true', Bool.not_eq_false', beq_iff_eq, beq_eq_false_iff_ne, ne_eq] at h7
    refine at_skip rfl ?_
    refine then_n ?_
    refine at_seq rfl ?_
    refine at_block rfl ?_
    refine at_seq rfl ?_
    refine rg rfl ?_
    refine Rq ?_
    refine Rq ?_
    have tr : ∀ a b c d e f g h i j k m n o p q r s t u v w x y z A B C : AV, let l := lc_lacking_w a b c d e f g h i j k m n o p q r s t u v w x y z A; trim ((14,C)::(85,B)::l) l = [(0,a),(1,b),(4,c),(5,d),(6,e),(8,f),(9,g),(10,h),(11,i),(12,j),(13,k),(14,C),(23,n),(24,o),(25,p),(26,q),(35,r),(47,s),(48,t),(49,u),(50,v),(72,w),(82,x),(83,y),(84,z),(89,A)] := by intros; rfl
    refine R_nil (tr ..) ?_; clear tr
    refine then_n ?_
    refine at_seq rfl ?_
    refine rg rfl ?_
    refine Rq ?_
    refine Rq ?_
    refine Rq ?_
    refine R_q rfl (by simp (disch := first | omega | (simp only [List.length_map, List.length_append, List.length_set, List.length_cons, List.length_nil]; omega)) only [go_sem, ↓reduceIte, Nat.reduceEqDiff, reduceCtorEq, hst, hms, hqu, hlka, hin, hrow]; rfl) ?_
    have tr : ∀ a b c d e f g h i j k m n o p q r s t u v w x y z A B C D E : AV, let l := lc_lacking_w a b c d e f g h i j k m n o p q r s t u v w x y z A; trim ((89,E)::(88,D)::(87,C)::(86,B)::l) l = [(0,a),(1,b),(4,c),(5,d),(6,e),(8,f),(9,g),(10,h),(11,i),(12,j),(13,k),(14,m),(23,n),(24,o),(25,p),(26,q),(35,r),(47,s),(48,t),(49,u),(50,v),(72,w),(82,x),(83,y),(84,z),(89,E)] := by intros; rfl
    refine R_nil (tr ..) ?_; clear tr
    refine then_n ?_
    refine cdd (fun h8 => ?_) (fun h8 => ?_)
    ·
     try simp only [decide_eq_true_eq, decide_eq_false_iff_not, Bool.not_eq_true', Bool.not_eq_false', beq_iff_eq, beq_eq_false_iff_ne, ne_eq] at h8
     refine rg rfl ?_
     refine Rq ?_
     refine Rq ?_
     refine A_buildSlice (bs25 _ _ _ _ (i : Int) (by simp (disch := first | omega | (simp only [List.length_map, List.length_append, List.length_set, List.length_cons, List.length_nil]; omega)) only [go_sem, ↓reduceIte, Nat.reduceEqDiff, reduceCtorEq, hst, hms, hqu, hlka, hin, hrow])) ?_
     intro HB nB
     have eB := nB.len
     obtain ⟨cb, hcl, HK, hap, gK⟩ := outI_append (lim := lim) (v := (i : Int)) (OutI.mono2 hO (fun c h1 h2 => nB.old c h2)) nB.new (by omega) (by omega) (by have := outU_len inn i; omega)
     refine A_append ⟨HK, by simp (disch := first | omega | (simp only [List.length_map, List.length_append, List.length_set, List.length_cons, List.length_nil]; omega)) only [go_sem, ↓reduceIte, Nat.reduceEqDiff, reduceCtorEq, hst, hms, hqu, hlka, hin, hrow]; exact hap, gK⟩ ?_
     intro HD gD
     have eD := gD.len
     have OX : OutI (H.length + 1) HD (.own 1 HB.length 0 ((outU inn i).length + 1)) (outU inn i ++ [(i : Int)]) := OutI.new gD.new (by omega) (by simp)
     have qX := (gD.old H.length (by omega) (by omega)).trans ((nB.old _ (by omega)).trans q7)
     have kX : ∀ c, c < H.length → hget HD c = hget H c := fun c hc => (gD.old c (by omega) (by omega)).trans ((nB.old c (by omega)).trans (k7 c hc))
     refine Rq ?_
     have tr : ∀ a b c d e f g h i j k m n o p q r s t u v w x y z A B C D E F : AV, let l := lc_lacking_w a b c d e f g h i j k m n o p q r s t u v w x y z A; trim ((13,F)::(93,E)::(92,D)::(91,C)::(90,B)::l) l = [(0,a),(1,b),(4,c),(5,d),(6,e),(8,f),(9,g),(10,h),(11,i),(12,j),(13,F),(14,m),(23,n),(24,o),(25,p),(26,q),(35,r),(47,s),(48,t),(49,u),(50,v),(72,w),(82,x),(83,y),(84,z),(89,A)] := by intros; rfl
     refine R_nil (tr ..) ?_; clear tr
     refine blk_n ?_
     refine then_n ?_
     refine rg rfl ?_
     refine Rq ?_
     refine Rq ?_
     have tr : ∀ a b c d e f g h i j k m n o p q r s t u v w x y z A B C : AV, let l := lc_lacking_w a b c d e f g h i j k m n o p q r s t u v w x y z A; trim ((83,C)::(94,B)::l) l = [(0,a),(1,b),(4,c),(5,d),(6,e),(8,f),(9,g),(10,h),(11,i),(12,j),(13,k),(14,m),(23,n),(24,o),(25,p),(26,q),(35,r),(47,s),(48,t),(49,u),(50,v),(72,w),(82,x),(83,C),(84,z),(89,A)] := by intros; rfl
     refine R_nil (tr ..) ?_; clear tr
     refine then_n ?_
     exact ⟨_, _, ⟨i + 1, .own 1 HB.length 0 ((outU inn i).length + 1), _, _, _, rfl, rfl, by first | (rw [outU_y (by assumption)]; exact OX) | (rw [outU_n (by assumption)]; exact hO), by first | exact qX | exact q7, by first | exact kX | exact k7, by first | (show H.length + 1 ≤ HD.length; omega) | exact e7, by omega⟩, by rfl, by omega⟩
    ·
     try simp only [decide_eq_true_eq, decide_eq_false_iff_not, Bool.not_eq_true', Bool.not_eq_false', beq_iff_eq, beq_eq_false_iff_ne, ne_eq] at h8
     refine at_skip rfl ?_
     refine blk_n ?_
     refine then_n ?_
     refine rg rfl ?_
     refine Rq ?_
     refine Rq ?_
     have tr : ∀ a b c d e f g h i j k m n o p q r s t u v w x y z A B C : AV, let l := lc_lacking_w a b c d e f g h i j k m n o p q r s t u v w x y z A; trim ((83,C)::(94,B)::l) l = [(0,a),(1,b),(4,c),(5,d),(6,e),(8,f),(9,g),(10,h),(11,i),(12,j),(13,k),(14,m),(23,n),(24,o),(25,p),(26,q),(35,r),(47,s),(48,t),(49,u),(50,v),(72,w),(82,x),(83,C),(84,z),(89,A)] := by intros; rfl
     refine R_nil (tr ..) ?_; clear tr
     refine then_n ?_
     exact ⟨_, _, ⟨i + 1, oo, _, _, _, rfl, rfl, by first | (rw [outU_y (by assumption)]; exact OX) | (rw [outU_n (by assumption)]; exact hO), by first | exact qX | exact q7, by first | exact kX | exact k7, by first | (show H.length + 1 ≤ HD.length; omega) | exact e7, by omega⟩, by rfl, by omega⟩
   ·
    try simp only [decide_eq_true_eq, decide_eq_false_iff_not, Bool.not_eq_true', Bool.not_eq_false', beq_iff_eq, beq_eq_false_iff_ne, ne_eq] at h7
    refine at_exit rfl ?_
    refine then_x ?_
    refine then_x ?_
    refine blk_x ?_
    refine then_n ?_
    refine at_seq rfl ?_
    refine rg rfl ?_
    refine Rq ?_
    refine Rq ?_
    have tr : ∀ a b c d e f g h i j k m n o p q r s t u v w x y z A B C : AV, let l := lc_lacking_w a b c d e f g h i j k m n o p q r s t u v w x y z A; trim ((4,C)::(95,B)::l) l = [(0,a),(1,b),(4,C),(5,d),(6,e),(8,f),(9,g),(10,h),(11,i),(12,j),(13,k),(14,m),(23,n),(24,o),(25,p),(26,q),(35,r),(47,s),(48,t),(49,u),(50,v),(72,w),(82,x),(83,y),(84,z),(89,A)] := by intros; rfl
    refine R_nil (tr ..) ?_; clear tr
    refine then_n ?_
    refine at_ret rfl ?_
    refine fin_own rfl (by simp only [go_sem, ↓reduceIte, Nat.reduceEqDiff]; rfl) ?_
    obtain rfl : i = may.length := by omega
    refine ⟨?_, k7, by show H.length ≤ H7.length; omega⟩
    rw [lackQ_nil hqe] at hlq
    rw [← hlq]
    exact hO.lo (by omega)

end Go.Proofs.Ytcnleglfdnhagaa
