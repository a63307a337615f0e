/-
  Walks of chapter 55. The steps are written by program (walk.py).
-/
import Derived.Test.YtcnleglfdnhagaaMu
import Derived.Test.YtcnleglfdnhagaaSig
set_option linter.unusedSimpArgs false
set_option linter.unusedVariables false
set_option maxHeartbeats 4000000
set_option maxRecDepth 20000
namespace Go.Proofs.Ytcnleglfdnhagaa
open Go Go.Am
abbrev lc_choose_w (a b c d e f g h i j k m n o p q r : AV) : Env := [(0,a),(1,b),(4,c),(5,d),(6,e),(7,f),(8,g),(9,h),(10,i),(11,j),(12,k),(22,m),(45,n),(52,o),(53,p),(54,q),(69,r)]
theorem choose_w (lim b bm bn bu : Nat) (rs : List Nat) (may : List (List Bool)) (need used : List Int) (m : Nat) (H : Heap) (P : ChPre lim H b bm bn bu rs may need used m) (u1 u2 : Nat) (PR : PairOK may need used m u1 u2) :
    ACall sig lim 14 [.ptr b 0, AV.i (m : Int)] H fun r H' => r = .agg [AV.i (u1 : Int), AV.i (u2 : Int)] ∧ Sta H' b bm bn bu rs may used.length (need2 need m) ∧ hget H' bu = some ((used2 used u1 u2).map AV.i) ∧ (∀ c, c < H.length → c ≠ bu → c ≠ bn → hget H' c = hget H c) ∧ H.length ≤ H'.length := by
 have hst := P.sta.st
 have hms := P.sta.ms
 have hqu := P.hu
 have hrl := P.sta.rl
 have hml := P.ml
 have hmn := P.mn
 have hkl := P.kl
 have hnl := P.nl
 have hlb := P.lb
 have hln := P.ln
 have hlh := P.lh
 have hlt := P.sta.lt
 have hbu := hget_lt P.hu
 have hrow := (P.sta.rw m (by omega)).1
 have hrlen := (P.sta.rw m (by omega)).2
 have hpa : True := trivial
 have hpb : True := trivial
 have hms2 : True := trivial
 have hrow2 : True := trivial
 have hst2 : True := trivial
 have hPl := PR.lt
 have hPn := PR.ltn
 refine ACall_own (fa := fa14) rfl rfl rfl rfl ?_
 have tr : ∀ a0 a1 : AV, env0 fa14.keep [a0, a1] = [(0,a0),(1,a1),(4,.any),(5,.any),(6,.any),(7,.any),(8,.any),(9,.any),(10,.any),(11,.any),(12,.any),(22,.any),(45,.any),(52,.any),(53,.any),(54,.any),(69,.any)] := fun a0 a1 => rfl
 refine W_to (tr _ _) ?_; clear tr
 refine at_seq rfl ?_
 refine rg rfl ?_
 refine A_alloc rfl ?_
 intro H1 n1
 have e1 := n1.len
 have tr : ∀ a b c d e f g h i j k m n o p q r s : AV, let l := lc_choose_w a b c d e f g h i j k m n o p q r; trim ((4,s)::l) l = [(0,a),(1,b),(4,s),(5,d),(6,e),(7,f),(8,g),(9,h),(10,i),(11,j),(12,k),(22,m),(45,n),(52,o),(53,p),(54,q),(69,r)] := by intros; rfl
 refine R_nil (tr ..) ?_; clear tr
 refine then_n ?_
 refine at_seq rfl ?_
 refine rg rfl ?_
 refine A_alloc rfl ?_
 intro H2 n2
 have e2 := n2.len
 rw [e1]
 have k0 : ∀ c, c < H.length → hget H2 c = hget H c := fun c hc => (n2.old c (by omega)).trans (n1.old c hc)
 have tr : ∀ a b c d e f g h i j k m n o p q r s : AV, let l := lc_choose_w a b c d e f g h i j k m n o p q r; trim ((5,s)::l) l = [(0,a),(1,b),(4,c),(5,s),(6,e),(7,f),(8,g),(9,h),(10,i),(11,j),(12,k),(22,m),(45,n),(52,o),(53,p),(54,q),(69,r)] := by intros; rfl
 refine R_nil (tr ..) ?_; clear tr
 refine then_n ?_
 refine at_seq rfl ?_
 refine rg rfl ?_
 refine Rq ?_
 have tr : ∀ a b c d e f g h i j k m n o p q r s : AV, let l := lc_choose_w a b c d e f g h i j k m n o p q r; trim ((6,s)::l) l = [(0,a),(1,b),(4,c),(5,d),(6,s),(7,f),(8,g),(9,h),(10,i),(11,j),(12,k),(22,m),(45,n),(52,o),(53,p),(54,q),(69,r)] := by intros; rfl
 refine R_nil (tr ..) ?_; clear tr
 refine then_n ?_
 refine at_seq rfl ?_
 refine at_seq rfl ?_
 refine rg rfl ?_
 refine Rq ?_
 have tr : ∀ a b c d e f g h i j k m n o p q r s : AV, let l := lc_choose_w a b c d e f g h i j k m n o p q r; trim ((11,s)::l) l = [(0,a),(1,b),(4,c),(5,d),(6,e),(7,f),(8,g),(9,h),(10,i),(11,s),(12,k),(22,m),(45,n),(52,o),(53,p),(54,q),(69,r)] := by intros; rfl
 refine R_nil (tr ..) ?_; clear tr
 refine then_n ?_
 refine at_block rfl ?_
 refine loop_n rfl (fun mm kv H' => ∃ k : Nat, ∃ least : Int, ∃ ne : List Int, ∃ usd : List Int, ∃ p0 : Int, ∃ p1 : Int, ∃ x7 x8 x9 x10 x12 x22 x45 x52 x53 x54 x69 : AV, (kv = [(6, AV.i least), (7, x7), (8, x8), (9, x9), (10, x10), (11, AV.i (k : Int)), (12, x12), (22, x22), (45, x45), (52, x52), (53, x53), (54, x54), (69, x69)]) ∧ (mm = 2 - k) ∧ (Sta H' b bm bn bu rs may used.length ne) ∧ (hget H' bu = some (usd.map AV.i)) ∧ (hget H' (H.length + 1) = some [AV.i p0, AV.i p1]) ∧ (hget H' H.length = some [AV.i 0, AV.i 0]) ∧ (∀ c, c < H.length → c ≠ bu → c ≠ bn → hget H' c = hget H c) ∧ (H.length + 2 ≤ H'.length) ∧ (CK may need used m k least ne usd p0 p1) ∧ (k ≤ 2)) ⟨0, -1, need, used, 0, 0, _, _, _, _, _, _, _, _, _, _, _, rfl, rfl, by exact P.sta.grow k0, by exact (k0 _ hbu).trans P.hu, by (rw [← e1]; exact n2.new), by exact (n2.old _ (by omega)).trans n1.new, by exact fun c hc _ _ => k0 c hc, by omega, by exact .inl ⟨rfl, rfl, rfl, rfl, rfl, rfl⟩, by omega⟩ (by rfl) ?_
 rintro mm kv HA ⟨k, least, ne, usd, p0, p1, x7, x8, x9, x10, x12, x22, x45, x52, x53, x54, x69, rfl, rfl, SA, qA, pA, rA, kA, eA, hck, hk2⟩
 have tr : ∀ a b c d e f g h i j k m n o p q r s t u v w x y z A B C D E : AV, upd [(0,a),(1,b),(4,c),(5,d),(6,e),(7,f),(8,g),(9,h),(10,i),(11,j),(12,k),(22,m),(45,n),(52,o),(53,p),(54,q),(69,r)] [(6,s),(7,t),(8,u),(9,v),(10,w),(11,x),(12,y),(22,z),(45,A),(52,B),(53,C),(54,D),(69,E)] = [(0,a),(1,b),(4,c),(5,d),(6,s),(7,t),(8,u),(9,v),(10,w),(11,x),(12,y),(22,z),(45,A),(52,B),(53,C),(54,D),(69,E)] := by intros; rfl
 refine W_to (tr ..) ?_; clear tr
 have hst := SA.st
 have hms := SA.ms
 have hqu := qA
 have hpa := pA
 have hpb := rA
 have hrow := (SA.rw m (by omega)).1
 have hltA := SA.lt
 have hbuA := hget_lt qA
 refine at_seq rfl ?_
 refine rg rfl ?_
 refine Rq ?_
 have tr : ∀ a b c d e f g h i j k m n o p q r s : AV, let l := lc_choose_w a b c d e f g h i j k m n o p q r; trim ((12,s)::l) l = [(0,a),(1,b),(4,c),(5,d),(6,e),(7,f),(8,g),(9,h),(10,i),(11,j),(12,s),(22,m),(45,n),(52,o),(53,p),(54,q),(69,r)] := by intros; rfl
 refine R_nil (tr ..) ?_; clear tr
 refine then_n ?_
 refine at_seq rfl ?_
 refine cdd (fun h1 => ?_) (fun h1 => ?_)
 ·
  try simp only [decide_eq_true_eq, decide_eq_false_iff_not, Bool.not_eq_true', Bool.not_eq_false', beq_iff_eq, beq_eq_false_iff_ne, ne_eq] at h1
  refine at_skip rfl ?_
  refine then_n ?_
  refine at_seq rfl ?_
  refine at_block rfl ?_
  refine at_seq rfl ?_
  refine rg rfl ?_
  have hk1 : k < 2 := by omega
  obtain ⟨hl0, hl1, hnel, hul, v, hcv⟩ := ck_find hck hk1 PR
  obtain ⟨hnm, hnr2, hneg⟩ := ck_facts hck hk1 hml P.m2 P.nr P.neg
  have hcv0 := hcv
  refine Rq ?_
  refine Rq ?_
  have tr : ∀ a b c d e f g h i j k m n o p q r s t : AV, let l := lc_choose_w a b c d e f g h i j k m n o p q r; trim ((7,t)::(13,s)::l) l = [(0,a),(1,b),(4,c),(5,d),(6,e),(7,t),(8,g),(9,h),(10,i),(11,j),(12,k),(22,m),(45,n),(52,o),(53,p),(54,q),(69,r)] := by intros; rfl
  refine R_nil (tr ..) ?_; clear tr
  refine then_n ?_
  refine at_seq rfl ?_
  refine rg rfl ?_
  refine Rq ?_
  refine Rq ?_
  refine Rq ?_
  have tr : ∀ a b c d e f g h i j k m n o p q r s t u : AV, let l := lc_choose_w a b c d e f g h i j k m n o p q r; trim ((8,u)::(15,t)::(14,s)::l) l = [(0,a),(1,b),(4,c),(5,d),(6,e),(7,f),(8,u),(9,h),(10,i),(11,j),(12,k),(22,m),(45,n),(52,o),(53,p),(54,q),(69,r)] := by intros; rfl
  refine R_nil (tr ..) ?_; clear tr
  rw [show least + 1 = (((least + 1).toNat : Nat) : Int) by omega]
  refine then_n ?_
  refine at_block rfl ?_
  refine loop_n rfl (fun mm kv H' => ∃ u : Nat, ∃ x9 x10 x22 x45 x52 x53 x54 x69 : AV, (kv = [(6, AV.i least), (8, AV.i (u : Int)), (9, x9), (10, x10), (22, x22), (45, x45), (52, x52), (53, x53), (54, x54), (69, x69)]) ∧ (mm = used.length - u) ∧ (∀ c, c < HA.length → hget H' c = hget HA c) ∧ (HA.length ≤ H'.length) ∧ (chooseL may ne usd m (used.length - u) u = some v) ∧ ((least + 1).toNat ≤ u)) ⟨(least + 1).toNat, _, _, _, _, _, _, _, _, rfl, rfl, by exact fun _ _ => rfl, by omega, by exact hcv, by omega⟩ (by rfl) ?_
  rintro mm kv HB ⟨u, x9, x10, x22, x45, x52, x53, x54, x69, rfl, rfl, kB, lB, hcl, hsu⟩
  have tr : ∀ a b c d e f g h i j k m n o p q r s t u v w x y z A B : AV, upd [(0,a),(1,b),(4,c),(5,d),(6,e),(7,f),(8,g),(9,h),(10,i),(11,j),(12,k),(22,m),(45,n),(52,o),(53,p),(54,q),(69,r)] [(6,s),(8,t),(9,u),(10,v),(22,w),(45,x),(52,y),(53,z),(54,A),(69,B)] = [(0,a),(1,b),(4,c),(5,d),(6,s),(7,f),(8,t),(9,u),(10,v),(11,j),(12,k),(22,w),(45,x),(52,y),(53,z),(54,A),(69,B)] := by intros; rfl
  refine W_to (tr ..) ?_; clear tr
  have hun := chooseL_lt hcl
  have SB := SA.grow kB
  have qB := (kB _ hbuA).trans qA
  have hst := SB.st
  have hms := SB.ms
  have hqu := qB
  have hpa := (kB _ (by omega)).trans pA
  have hpb := (kB _ (by omega)).trans rA
  have hrow := (SB.rw m (by omega)).1
  have hltB := SB.lt
  have hbuB := hget_lt qB
  refine at_seq rfl ?_
  refine at_seq rfl ?_
  refine rg rfl ?_
  refine Rq ?_
  refine Rq ?_
  refine Rq ?_
  refine Rq ?_
  refine R_q rfl (by simp (disch := first | omega | (simp only [List.length_map, List.length_append, List.length_set, List.length_cons, List.length_nil]; omega)) only [go_sem, ↓reduceIte, Nat.reduceEqDiff, reduceCtorEq, hst, hms, hrow, hqu, hpa, hpb, hms2, hrow2, hst2]; rfl) ?_
  refine Rq ?_
  refine Rq ?_
  have tr : ∀ a b c d e f g h i j k m n o p q r s t u v w x y : AV, let l := lc_choose_w a b c d e f g h i j k m n o p q r; trim ((22,y)::(21,x)::(20,w)::(19,v)::(18,u)::(17,t)::(16,s)::l) l = [(0,a),(1,b),(4,c),(5,d),(6,e),(7,f),(8,g),(9,h),(10,i),(11,j),(12,k),(22,y),(45,n),(52,o),(53,p),(54,q),(69,r)] := by intros; rfl
  refine R_nil (tr ..) ?_; clear tr
  refine then_n ?_
  refine cdd (fun h2 => ?_) (fun h2 => ?_)
  ·
   try simp only [decide_eq_true_eq, decide_eq_false_iff_not, Bool.not_eq_true', Bool.not_eq_false', beq_iff_eq, beq_eq_false_iff_ne, ne_eq] at h2
   refine at_skip rfl ?_
   refine then_n ?_
   refine at_seq rfl ?_
   refine at_block rfl ?_
   refine at_seq rfl ?_
   refine at_seq rfl ?_
   refine rg rfl ?_
   refine Rq ?_
   refine Rq ?_
   refine Rq ?_
   refine R_q rfl (by simp (disch := first | omega | (simp only [List.length_map, List.length_append, List.length_set, List.length_cons, List.length_nil]; omega)) only [go_sem, ↓reduceIte, Nat.reduceEqDiff, reduceCtorEq, hst, hms, hrow, hqu, hpa, hpb, hms2, hrow2, hst2]; rfl) ?_
   refine Rq ?_
   refine Rq ?_
   refine R_q rfl (by simp (disch := first | omega | (simp only [List.length_map, List.length_append, List.length_set, List.length_cons, List.length_nil]; omega)) only [go_sem, ↓reduceIte, Nat.reduceEqDiff, reduceCtorEq, hst, hms, hrow, hqu, hpa, hpb, hms2, hrow2, hst2]; rfl) ?_
   refine Rq ?_
   refine Rq ?_
   refine R_q rfl (by simp (disch := first | omega | (simp only [List.length_map, List.length_append, List.length_set, List.length_cons, List.length_nil]; omega)) only [go_sem, ↓reduceIte, Nat.reduceEqDiff, reduceCtorEq, hst, hms, hrow, hqu, hpa, hpb, hms2, hrow2, hst2]; rfl) ?_
   refine Rq ?_
   refine Rq ?_
   refine Rp_split (fun h3 => ?_) (fun h3 => ?_)
   ·
    try simp only [decide_eq_true_eq, decide_eq_false_iff_not, Bool.not_eq_true', Bool.not_eq_false', beq_iff_eq, beq_eq_false_iff_ne, ne_eq] at h3
    refine Rn ?_
    refine Rn ?_
    refine Rn ?_
    refine Rn ?_
    refine Rn ?_
    refine Rn ?_
    refine Rn ?_
    refine Rn ?_
    refine Rq ?_
    have tr : ∀ a b c d e f g h i j k m n o p q r s t u v w x y z A B C D E F G H I J K L M : AV, let l := lc_choose_w a b c d e f g h i j k m n o p q r; trim ((45,M)::(44,L)::(43,K)::(42,J)::(41,I)::(40,H)::(39,G)::(38,F)::(37,E)::(36,D)::(35,C)::(34,B)::(33,A)::(32,z)::(31,y)::(30,x)::(29,w)::(28,v)::(27,u)::(26,t)::(25,s)::l) l = [(0,a),(1,b),(4,c),(5,d),(6,e),(7,f),(8,g),(9,h),(10,i),(11,j),(12,k),(22,m),(45,M),(52,o),(53,p),(54,q),(69,r)] := by intros; rfl
    refine R_nil (tr ..) ?_; clear tr
    refine then_n ?_
    refine cdt ?_
    refine at_exit rfl ?_
    refine then_x ?_
    refine blk_x ?_
    refine then_n ?_
    refine rg rfl ?_
    have hno : ¬ (gt (gt may m) u = true ∧ gt usd u ≠ -2 ∧ goodC may ne usd m u = true) := by
      rintro ⟨h8, h9, h10⟩
      first | contradiction | (unfold goodC at h10; rw [← hlk, beq_iff_eq] at h10; have h11 : lk.length = 0 := (by rw [h10]; rfl); omega) | (simp_all; done)
    refine Rq ?_
    refine Rq ?_
    refine Rq ?_
    have tr : ∀ a b c d e f g h i j k m n o p q r s t u : AV, let l := lc_choose_w a b c d e f g h i j k m n o p q r; trim ((8,u)::(24,t)::(23,s)::l) l = [(0,a),(1,b),(4,c),(5,d),(6,e),(7,f),(8,u),(9,h),(10,i),(11,j),(12,k),(22,m),(45,n),(52,o),(53,p),(54,q),(69,r)] := by intros; rfl
    refine R_nil (tr ..) ?_; clear tr
    refine then_n ?_
    exact ⟨_, _, ⟨u + 1, _, _, _, _, _, _, _, _, rfl, rfl, by first | exact kB | exact kY, by first | exact lB | (show HA.length ≤ HY.length; omega), by exact chooseL_skip (by omega) hno hcl, by omega⟩, by rfl, by omega⟩
   ·
    try simp only [decide_eq_true_eq, decide_eq_false_iff_not, Bool.not_eq_true', Bool.not_eq_false', beq_iff_eq, beq_eq_false_iff_ne, ne_eq] at h3
    refine Ry ?_
    refine Rq ?_
    refine Ry ?_
    refine Rq ?_
    refine Ry ?_
    refine Rq ?_
    refine Ry ?_
    refine R_q rfl (by simp (disch := first | omega | (simp only [List.length_map, List.length_append, List.length_set, List.length_cons, List.length_nil]; omega)) only [go_sem, ↓reduceIte, Nat.reduceEqDiff, reduceCtorEq, hst, hms, hrow, hqu, hpa, hpb, hms2, hrow2, hst2]; rfl) ?_
    refine Ry ?_
    refine Rq ?_
    refine Ry ?_
    refine Rq ?_
    refine Ry ?_
    refine R_q rfl (by simp (disch := first | omega | (simp only [List.length_map, List.length_append, List.length_set, List.length_cons, List.length_nil]; omega)) only [go_sem, ↓reduceIte, Nat.reduceEqDiff, reduceCtorEq, hst, hms, hrow, hqu, hpa, hpb, hms2, hrow2, hst2]; rfl) ?_
    refine Ry ?_
    refine Rq ?_
    refine Rq ?_
    have tr : ∀ a b c d e f g h i j k m n o p q r s t u v w x y z A B C D E F G H I J K L M : AV, let l := lc_choose_w a b c d e f g h i j k m n o p q r; trim ((45,M)::(44,L)::(43,K)::(42,J)::(41,I)::(40,H)::(39,G)::(38,F)::(37,E)::(36,D)::(35,C)::(34,B)::(33,A)::(32,z)::(31,y)::(30,x)::(29,w)::(28,v)::(27,u)::(26,t)::(25,s)::l) l = [(0,a),(1,b),(4,c),(5,d),(6,e),(7,f),(8,g),(9,h),(10,i),(11,j),(12,k),(22,m),(45,M),(52,o),(53,p),(54,q),(69,r)] := by intros; rfl
    refine R_nil (tr ..) ?_; clear tr
    refine then_n ?_
    refine cdd (fun h4 => ?_) (fun h4 => ?_)
    ·
     try simp only [decide_eq_true_eq, decide_eq_false_iff_not, Bool.not_eq_true', Bool.not_eq_false', beq_iff_eq, beq_eq_false_iff_ne, ne_eq] at h4
     refine at_exit rfl ?_
     refine then_x ?_
     refine blk_x ?_
     refine then_n ?_
     refine rg rfl ?_
     have hno : ¬ (gt (gt may m) u = true ∧ gt usd u ≠ -2 ∧ goodC may ne usd m u = true) := by
       rintro ⟨h8, h9, h10⟩
       first | contradiction | (unfold goodC at h10; rw [← hlk, beq_iff_eq] at h10; have h11 : lk.length = 0 := (by rw [h10]; rfl); omega) | (simp_all; done)
     refine Rq ?_
     refine Rq ?_
     refine Rq ?_
     have tr : ∀ a b c d e f g h i j k m n o p q r s t u : AV, let l := lc_choose_w a b c d e f g h i j k m n o p q r; trim ((8,u)::(24,t)::(23,s)::l) l = [(0,a),(1,b),(4,c),(5,d),(6,e),(7,f),(8,u),(9,h),(10,i),(11,j),(12,k),(22,m),(45,n),(52,o),(53,p),(54,q),(69,r)] := by intros; rfl
     refine R_nil (tr ..) ?_; clear tr
     refine then_n ?_
     exact ⟨_, _, ⟨u + 1, _, _, _, _, _, _, _, _, rfl, rfl, by first | exact kB | exact kY, by first | exact lB | (show HA.length ≤ HY.length; omega), by exact chooseL_skip (by omega) hno hcl, by omega⟩, by rfl, by omega⟩
    ·
     try simp only [decide_eq_true_eq, decide_eq_false_iff_not, Bool.not_eq_true', Bool.not_eq_false', beq_iff_eq, beq_eq_false_iff_ne, ne_eq] at h4
     refine at_skip rfl ?_
     refine then_n ?_
     refine at_seq rfl ?_
     refine rg rfl ?_
     refine Rq ?_
     refine Rcall ?_
     have hcp := copied_w lim b bm bn bu rs may ne usd HB (by rw [hul]; exact SB) qB (by omega) (by omega) hkl (by omega) (by omega) (by omega) (by omega)
     refine ACall_mono hcp ?_
     rintro _ HR ⟨b2, bm2, bn2, bu2, rs2, rfl, SR, qR, kR, lR, ⟨g1, g2, g3, g4, g5⟩, hdj, hap⟩
     have hnb2 := SR.nb (by omega) (by omega)
     refine Rq ?_
     have tr : ∀ a b c d e f g h i j k m n o p q r s t u : AV, let l := lc_choose_w a b c d e f g h i j k m n o p q r; trim ((9,u)::(47,t)::(46,s)::l) l = [(0,a),(1,b),(4,c),(5,d),(6,e),(7,f),(8,g),(9,u),(10,i),(11,j),(12,k),(22,m),(45,n),(52,o),(53,p),(54,q),(69,r)] := by intros; rfl
     refine R_nil (tr ..) ?_; clear tr
     refine then_n ?_
     refine at_seq rfl ?_
     refine rg rfl ?_
     refine Rq ?_
     refine Rq ?_
     refine Rq ?_
     refine Rcall ?_
     refine ACall_mono (take_w lim b2 bm2 bn2 bu2 rs2 may usd.length ne usd HR SR qR rfl (by omega) (by omega) m u (by omega) (by omega) (by have := hnm.1; omega)) ?_
     rintro _ HT ⟨rfl, TT⟩
     have ST := SR.tk TT (by simp) hnb2.1 hnb2.2
     have eT := TT.len
     have kT : ∀ c, c < HB.length → hget HT c = hget HB c := fun c hc => (TT.keep c (by omega) (by omega)).trans (kR c hc)
     have tr : ∀ a b c d e f g h i j k m n o p q r s t u v : AV, let l := lc_choose_w a b c d e f g h i j k m n o p q r; trim ((51,v)::(50,u)::(49,t)::(48,s)::l) l = [(0,a),(1,b),(4,c),(5,d),(6,e),(7,f),(8,g),(9,h),(10,i),(11,j),(12,k),(22,m),(45,n),(52,o),(53,p),(54,q),(69,r)] := by intros; rfl
     refine R_nil (tr ..) ?_; clear tr
     refine then_n ?_
     refine at_seq rfl ?_
     refine at_seq rfl ?_
     refine rg rfl ?_
     refine Rq ?_
     refine Rq ?_
     have tr : ∀ a b c d e f g h i j k m n o p q r s t : AV, let l := lc_choose_w a b c d e f g h i j k m n o p q r; trim ((53,t)::(52,s)::l) l = [(0,a),(1,b),(4,c),(5,d),(6,e),(7,f),(8,g),(9,h),(10,i),(11,j),(12,k),(22,m),(45,n),(52,s),(53,t),(54,q),(69,r)] := by intros; rfl
     refine R_nil (tr ..) ?_; clear tr
     refine then_n ?_
     refine at_block rfl ?_
     refine loop_n rfl (fun mm kv H' => ∃ i : Nat, ∃ x10 x54 : AV, (kv = [(10, x10), (53, AV.i (i : Int)), (54, x54)]) ∧ (mm = u - i) ∧ (Sta H' b2 bm2 bn2 bu2 rs2 (may.set m (clr (gt may m) i)) usd.length (ne.set m (gt ne m - 1))) ∧ (hget H' bu2 = some ((usd.set u (-2)).map AV.i)) ∧ (∀ c, c < HB.length → hget H' c = hget HB c) ∧ (HB.length ≤ H'.length) ∧ (i ≤ u)) ⟨0, _, _, rfl, rfl, by (rw [clr_0, set_self (by omega)]; exact ST), by exact TT.hu, by exact kT, by (show HB.length ≤ HT.length; omega), by omega⟩ (by rfl) ?_
     rintro mm kv HC ⟨i, x10, x54, rfl, rfl, SC, qC, kC, lC, hiu⟩
     have tr : ∀ a b c d e f g h i j k m n o p q r s t u : AV, upd [(0,a),(1,b),(4,c),(5,d),(6,e),(7,f),(8,g),(9,h),(10,i),(11,j),(12,k),(22,m),(45,n),(52,o),(53,p),(54,q),(69,r)] [(10,s),(53,t),(54,u)] = [(0,a),(1,b),(4,c),(5,d),(6,e),(7,f),(8,g),(9,h),(10,s),(11,j),(12,k),(22,m),(45,n),(52,o),(53,t),(54,u),(69,r)] := by intros; rfl
     refine W_to (tr ..) ?_; clear tr
     have hms2 := SC.ms
     have hst2 := SC.st
     have hrow2 := (SC.rw m (by rw [List.length_set]; omega)).1
     rw [gt_set may m m _ (by omega), if_pos rfl] at hrow2
     have hrl2 := SC.rl
     rw [List.length_set] at hrl2
     refine at_seq rfl ?_
     refine rg rfl ?_
     refine Rq ?_
     have tr : ∀ a b c d e f g h i j k m n o p q r s : AV, let l := lc_choose_w a b c d e f g h i j k m n o p q r; trim ((54,s)::l) l = [(0,a),(1,b),(4,c),(5,d),(6,e),(7,f),(8,g),(9,h),(10,i),(11,j),(12,k),(22,m),(45,n),(52,o),(53,p),(54,s),(69,r)] := by intros; rfl
     refine R_nil (tr ..) ?_; clear tr
     refine then_n ?_
     refine at_seq rfl ?_
     refine cdd (fun h5 => ?_) (fun h5 => ?_)
     ·
      try simp only [decide_eq_true_eq, decide_eq_false_iff_not, Bool.not_eq_true', Bool.not_eq_false', beq_iff_eq, beq_eq_false_iff_ne, ne_eq] at h5
      refine at_skip rfl ?_
      refine then_n ?_
      refine at_seq rfl ?_
      refine at_block rfl ?_
      refine at_seq rfl ?_
      refine rg rfl ?_
      refine Rq ?_
      refine Rq ?_
      have tr : ∀ a b c d e f g h i j k m n o p q r s t : AV, let l := lc_choose_w a b c d e f g h i j k m n o p q r; trim ((10,t)::(55,s)::l) l = [(0,a),(1,b),(4,c),(5,d),(6,e),(7,f),(8,g),(9,h),(10,t),(11,j),(12,k),(22,m),(45,n),(52,o),(53,p),(54,q),(69,r)] := by intros; rfl
      refine R_nil (tr ..) ?_; clear tr
      refine then_n ?_
      refine rg rfl ?_
      refine Rq ?_
      refine Rq ?_
      refine Rq ?_
      refine R_q rfl (by simp (disch := first | omega | (simp only [List.length_map, List.length_append, List.length_set, List.length_cons, List.length_nil]; omega)) only [go_sem, ↓reduceIte, Nat.reduceEqDiff, reduceCtorEq, hst, hms, hrow, hqu, hpa, hpb, hms2, hrow2, hst2]; rfl) ?_
      refine Rq ?_
      refine Rq ?_
      refine R_q rfl (by simp (disch := first | omega | (simp only [List.length_map, List.length_append, List.length_set, List.length_cons, List.length_nil]; omega)) only [go_sem, ↓reduceIte, Nat.reduceEqDiff, reduceCtorEq, hst, hms, hrow, hqu, hpa, hpb, hms2, hrow2, hst2]; rfl) ?_
      refine Rq ?_
      refine Rq ?_
      have hg5 := g5 m (by omega)
      refine A_store ty4 (by simp (disch := first | omega | (simp only [List.length_map, List.length_append, List.length_set, List.length_cons, List.length_nil]; omega)) only [go_sem, ↓reduceIte, Nat.reduceEqDiff, reduceCtorEq, hst, hms, hrow, hqu, hpa, hpb, hms2, hrow2, hst2] <;> rfl) (by simp (disch := first | omega | (simp only [List.length_map, List.length_append, List.length_set, List.length_cons, List.length_nil]; omega)) only [go_sem, ↓reduceIte, Nat.reduceEqDiff, reduceCtorEq, hst, hms, hrow, hqu, hpa, hpb, hms2, hrow2, hst2] <;> rfl) hrow2 ⟨by have := g5 m (by omega); omega, rfl, by simp only [List.length_map]; show i + 1 ≤ _; rw [clr_len (by omega)]; omega⟩ (setm bv _ i false (by rw [clr_len (by omega)]; omega)) ?_
      intro HD wD
      have eD := wD.len
      have hnw := wD.new
      rw [clr_set (by omega)] at hnw
      have hbu9 : bu2 ≠ gt rs2 m := Ne.symm (SR.ur m (by omega))
      have SD := SC.row (row := clr (gt may m) (i + 1)) (by rw [List.length_set]; omega) (fun c hc => wD.old c hc) hnw (by rw [clr_len (by omega)]; omega) (hap m (by omega)) (fun x hx hxm => hdj x m (by simpa using hx) (by omega) hxm)
      rw [List.set_set] at SD
      have tr : ∀ a b c d e f g h i j k m n o p q r s t u v w x y z A : AV, let l := lc_choose_w a b c d e f g h i j k m n o p q r; trim ((64,A)::(63,z)::(62,y)::(61,x)::(60,w)::(59,v)::(58,u)::(57,t)::(56,s)::l) l = [(0,a),(1,b),(4,c),(5,d),(6,e),(7,f),(8,g),(9,h),(10,i),(11,j),(12,k),(22,m),(45,n),(52,o),(53,p),(54,q),(69,r)] := by intros; rfl
      refine R_nil (tr ..) ?_; clear tr
      refine blk_n ?_
      refine then_n ?_
      refine rg rfl ?_
      refine Rq ?_
      refine Rq ?_
      have tr : ∀ a b c d e f g h i j k m n o p q r s t : AV, let l := lc_choose_w a b c d e f g h i j k m n o p q r; trim ((53,t)::(65,s)::l) l = [(0,a),(1,b),(4,c),(5,d),(6,e),(7,f),(8,g),(9,h),(10,i),(11,j),(12,k),(22,m),(45,n),(52,o),(53,t),(54,q),(69,r)] := by intros; rfl
      refine R_nil (tr ..) ?_; clear tr
      refine then_n ?_
      exact ⟨_, _, ⟨i + 1, _, _, rfl, rfl, by exact SD, by exact (wD.old _ hbu9).trans qC, by exact fun c hc => (wD.old c (by omega)).trans (kC c hc), by (show HB.length ≤ HD.length; omega), by omega⟩, by rfl, by omega⟩
     ·
      try simp only [decide_eq_true_eq, decide_eq_false_iff_not, Bool.not_eq_true', Bool.not_eq_false', beq_iff_eq, beq_eq_false_iff_ne, ne_eq] at h5
      refine at_exit rfl ?_
      refine then_x ?_
      refine then_x ?_
      refine blk_x ?_
      refine then_n ?_
      refine at_seq rfl ?_
      refine rg rfl ?_
      obtain rfl : u = i := by omega
      refine Rq ?_
      refine Rcall ?_
      have hrg : Rng (usd.set u (-2)) (may.set m (clr (gt may m) u)).length := fun x => by
        rw [List.length_set, gt_set usd u x _ (by omega)]
        split
        · omega
        · have h8 := hneg x
          by_cases hx : x < used.length
          · have := h8.2 hx; omega
          · rw [gt_big (by omega)]; omega
      refine ACall_mono (fill_w lim b2 bm2 bn2 bu2 rs2 (may.set m (clr (gt may m) u)) usd.length (ne.set m (gt ne m - 1)) (usd.set u (-2)) HC ⟨SC, qC, by simp, hrg, fun x hx h9 => by
        rw [List.length_set] at hx
        rw [gt_set usd u x _ (by omega)] at h9
        split at h9
        · omega
        · have := (hneg x).2 (by omega); omega, by omega, by omega, by rw [List.length_set]; omega, by omega, by simp; omega, hnr2, by rw [List.length_set]; omega⟩) ?_
      rintro r9 HY ⟨hO, WY⟩
      have eY := WY.len
      have kY : ∀ c, c < HA.length → hget HY c = hget HA c := fun c hc => (WY.keep c (by omega) (by omega)).trans ((kC c (by omega)).trans (kB c hc))
      obtain ⟨lk, hlk⟩ : ∃ lk, lk = (fillS (may.set m (clr (gt may m) u)) (ne.set m (gt ne m - 1)) 0 (usd.set u (-2)) []).1 := ⟨_, rfl⟩
      rw [← hlk] at hO
      refine R_q (r := AV.i (lk.length : Int)) rfl (by simp only [go_sem, ↓reduceIte, Nat.reduceEqDiff]; exact hO.lenV) ?_
      refine Rq ?_
      have tr : ∀ a b c d e f g h i j k m n o p q r s t u v : AV, let l := lc_choose_w a b c d e f g h i j k m n o p q r; trim ((69,v)::(68,u)::(67,t)::(66,s)::l) l = [(0,a),(1,b),(4,c),(5,d),(6,e),(7,f),(8,g),(9,h),(10,i),(11,j),(12,k),(22,m),(45,n),(52,o),(53,p),(54,q),(69,v)] := by intros; rfl
      refine R_nil (tr ..) ?_; clear tr
      refine then_n ?_
      refine cdd (fun h6 => ?_) (fun h6 => ?_)
      ·
       try simp only [decide_eq_true_eq, decide_eq_false_iff_not, Bool.not_eq_true', Bool.not_eq_false', beq_iff_eq, beq_eq_false_iff_ne, ne_eq] at h6
       refine at_seq rfl ?_
       refine rg rfl ?_
       have hl00 : lk = [] := List.length_eq_zero_iff.1 (by omega)
       have hgood : goodC may ne usd m u = true := by
         unfold goodC
         rw [← hlk, hl00]
         rfl
       obtain rfl : u = v := (chooseL_hit hun ⟨by assumption, by assumption, hgood⟩ hcl).symm
       have hpY := (kY _ (by omega)).trans pA
       refine Rq ?_
       refine Rq ?_
       refine Rq ?_
       refine Rq ?_
       refine A_store ty3 (by simp (disch := first | omega | (simp only [List.length_map, List.length_append, List.length_set, List.length_cons, List.length_nil]; omega)) only [go_sem, ↓reduceIte, Nat.reduceEqDiff, reduceCtorEq, hst, hms, hrow, hqu, hpa, hpb, hms2, hrow2, hst2] <;> rfl) (by simp (disch := first | omega | (simp only [List.length_map, List.length_append, List.length_set, List.length_cons, List.length_nil]; omega)) only [go_sem, ↓reduceIte, Nat.reduceEqDiff, reduceCtorEq, hst, hms, hrow, hqu, hpa, hpb, hms2, hrow2, hst2] <;> rfl) hpY ⟨by omega, rfl, by show k + 1 ≤ 2; omega⟩ (k' := [AV.i (if k = 0 then (u : Int) else p0), AV.i (if k = 1 then (u : Int) else p1)]) (by rcases (show k = 0 ∨ k = 1 by omega) with rfl | rfl <;> rfl) ?_
       intro HX wX
       have eX := wX.len
       have SX9 : Sta HX b bm bn bu rs may used.length ne := (SA.grow kY).other (fun c hc => wX.old c hc) (by omega) (by omega) (by omega) (fun i hi => by have := hltA.2.2.2 i hi; have := hlt.2.2.2 i hi; omega)
       have qX := (wX.old bu (by omega)).trans ((kY _ hbuA).trans qA)
       have hpX := wX.new
       have hrX := (wX.old H.length (by omega)).trans ((kY _ (by omega)).trans rA)
       refine Rq ?_
       have tr : ∀ a b c d e f g h i j k m n o p q r s t u v w : AV, let l := lc_choose_w a b c d e f g h i j k m n o p q r; trim ((6,w)::(73,v)::(72,u)::(71,t)::(70,s)::l) l = [(0,a),(1,b),(4,c),(5,d),(6,w),(7,f),(8,g),(9,h),(10,i),(11,j),(12,k),(22,m),(45,n),(52,o),(53,p),(54,q),(69,r)] := by intros; rfl
       refine R_nil (tr ..) ?_; clear tr
       refine then_n ?_
       refine at_seq rfl ?_
       refine rg rfl ?_
       refine Rq ?_
       refine Rq ?_
       refine Rq ?_
       refine Rcall ?_
       refine ACall_mono (take_w lim b bm bn bu rs may used.length ne usd HX SX9 qX hul (by omega) (by omega) m u (by omega) (by omega) (by have := hnm.1; omega)) ?_
       rintro _ HZ ⟨rfl, TZ⟩
       have hnb := SX9.nb (by omega) (by omega)
       have SZ := SX9.tk TZ (by simp) hnb.1 hnb.2
       have eZ := TZ.len
       have pZ := (TZ.keep (H.length + 1) (by omega) (by omega)).trans hpX
       have rZ := (TZ.keep H.length (by omega) (by omega)).trans hrX
       have kZ : ∀ c, c < H.length → c ≠ bu → c ≠ bn → hget HZ c = hget H c := fun c h1 h2 h3 => (TZ.keep c h2 h3).trans ((wX.old c (by omega)).trans ((kY c (by omega)).trans (kA c h1 h2 h3)))
       have hck2 := ck_step hck (by omega) PR hcv0
       have tr : ∀ a b c d e f g h i j k m n o p q r s t u v : AV, let l := lc_choose_w a b c d e f g h i j k m n o p q r; trim ((77,v)::(76,u)::(75,t)::(74,s)::l) l = [(0,a),(1,b),(4,c),(5,d),(6,e),(7,f),(8,g),(9,h),(10,i),(11,j),(12,k),(22,m),(45,n),(52,o),(53,p),(54,q),(69,r)] := by intros; rfl
       refine R_nil (tr ..) ?_; clear tr
       refine then_n ?_
       refine at_exit rfl ?_
       refine blk_p (by decide) ?_
       refine then_x ?_
       refine then_x ?_
       refine blk_x ?_
       refine blk_n ?_
       refine then_n ?_
       refine rg rfl ?_
       refine Rq ?_
       refine Rq ?_
       have tr : ∀ a b c d e f g h i j k m n o p q r s t : AV, let l := lc_choose_w a b c d e f g h i j k m n o p q r; trim ((11,t)::(78,s)::l) l = [(0,a),(1,b),(4,c),(5,d),(6,e),(7,f),(8,g),(9,h),(10,i),(11,t),(12,k),(22,m),(45,n),(52,o),(53,p),(54,q),(69,r)] := by intros; rfl
       refine R_nil (tr ..) ?_; clear tr
       refine then_n ?_
       exact ⟨_, _, ⟨k + 1, (u : Int), ne.set m (gt ne m - 1), usd.set u (-2), if k = 0 then (u : Int) else p0, if k = 1 then (u : Int) else p1, _, _, _, _, _, _, _, _, _, _, _, rfl, rfl, by exact SZ, by exact TZ.hu, by exact pZ, by exact rZ, by exact kZ, by (show H.length + 2 ≤ HZ.length; omega), by exact hck2, by omega⟩, by rfl, by omega⟩
      ·
       try simp only [decide_eq_true_eq, decide_eq_false_iff_not, Bool.not_eq_true', Bool.not_eq_false', beq_iff_eq, beq_eq_false_iff_ne, ne_eq] at h6
       refine at_skip rfl ?_
       refine blk_n ?_
       refine then_n ?_
       refine rg rfl ?_
       have hno : ¬ (gt (gt may m) u = true ∧ gt usd u ≠ -2 ∧ goodC may ne usd m u = true) := by
         rintro ⟨h8, h9, h10⟩
         first | contradiction | (unfold goodC at h10; rw [← hlk, beq_iff_eq] at h10; have h11 : lk.length = 0 := (by rw [h10]; rfl); omega) | (simp_all; done)
       refine Rq ?_
       refine Rq ?_
       refine Rq ?_
       have tr : ∀ a b c d e f g h i j k m n o p q r s t u : AV, let l := lc_choose_w a b c d e f g h i j k m n o p q r; trim ((8,u)::(24,t)::(23,s)::l) l = [(0,a),(1,b),(4,c),(5,d),(6,e),(7,f),(8,u),(9,h),(10,i),(11,j),(12,k),(22,m),(45,n),(52,o),(53,p),(54,q),(69,r)] := by intros; rfl
       refine R_nil (tr ..) ?_; clear tr
       refine then_n ?_
       exact ⟨_, _, ⟨u + 1, _, _, _, _, _, _, _, _, rfl, rfl, by first | exact kB | exact kY, by first | exact lB | (show HA.length ≤ HY.length; omega), by exact chooseL_skip (by omega) hno hcl, by omega⟩, by rfl, by omega⟩
  ·
   try simp only [decide_eq_true_eq, decide_eq_false_iff_not, Bool.not_eq_true', Bool.not_eq_false', beq_iff_eq, beq_eq_false_iff_ne, ne_eq] at h2
   exfalso; omega
 ·
  try simp only [decide_eq_true_eq, decide_eq_false_iff_not, Bool.not_eq_true', Bool.not_eq_false', beq_iff_eq, beq_eq_false_iff_ne, ne_eq] at h1
  refine at_exit rfl ?_
  refine then_x ?_
  refine then_x ?_
  refine blk_x ?_
  refine then_n ?_
  refine at_seq rfl ?_
  refine rg rfl ?_
  refine R_q rfl (by simp (disch := first | omega | (simp only [List.length_map, List.length_append, List.length_set, List.length_cons, List.length_nil]; omega)) only [go_sem, ↓reduceIte, Nat.reduceEqDiff, reduceCtorEq, hst, hms, hrow, hqu, hpa, hpb, hms2, hrow2, hst2]; rfl) ?_
  refine A_store ty49 (by simp (disch := first | omega | (simp only [List.length_map, List.length_append, List.length_set, List.length_cons, List.length_nil]; omega)) only [go_sem, ↓reduceIte, Nat.reduceEqDiff, reduceCtorEq, hst, hms, hrow, hqu, hpa, hpb, hms2, hrow2, hst2] <;> rfl) (by simp (disch := first | omega | (simp only [List.length_map, List.length_append, List.length_set, List.length_cons, List.length_nil]; omega)) only [go_sem, ↓reduceIte, Nat.reduceEqDiff, reduceCtorEq, hst, hms, hrow, hqu, hpa, hpb, hms2, hrow2, hst2] <;> rfl) hpb ⟨by omega, rfl, by decide⟩ (k' := [AV.i p0, AV.i p1]) rfl ?_
  intro H9 w9
  have q9 := w9.new
  have tr : ∀ a b c d e f g h i j k m n o p q r s : AV, let l := lc_choose_w a b c d e f g h i j k m n o p q r; trim ((79,s)::l) l = [(0,a),(1,b),(4,c),(5,d),(6,e),(7,f),(8,g),(9,h),(10,i),(11,j),(12,k),(22,m),(45,n),(52,o),(53,p),(54,q),(69,r)] := by intros; rfl
  refine R_nil (tr ..) ?_; clear tr
  refine then_n ?_
  refine at_ret rfl ?_
  refine fin_own (rs := [.cell 4 49]) rfl (by simp only [go_sem, ↓reduceIte, Nat.reduceEqDiff, q9]; rfl) ?_
  rcases hck with ⟨h9, _⟩ | ⟨h9, _⟩ | ⟨_, v1, v2, P9, rfl, rfl, rfl, rfl⟩
  · omega
  · omega
  obtain rfl : u1 = v1 := Option.some.inj (PR.first.symm.trans P9.first)
  obtain rfl : u2 = v2 := Option.some.inj (PR.second.symm.trans P9.second)
  exact ⟨rfl, SA.other (fun c hc => w9.old c hc) (by omega) (by omega) (by omega) (fun i hi => by have := hlt.2.2.2 i hi; omega), (w9.old bu (by omega)).trans qA, fun c h1 h2 h3 => (w9.old c (by omega)).trans (kA c h1 h2 h3), (by have := w9.len; show H.length ≤ H9.length; omega)⟩

end Go.Proofs.Ytcnleglfdnhagaa
