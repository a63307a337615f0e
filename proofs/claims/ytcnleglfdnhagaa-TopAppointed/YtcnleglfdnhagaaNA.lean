/-
  Walks of chapter 55. The steps are written by program (walk.py).
-/
import Derived.Test.YtcnleglfdnhagaaPa
set_option linter.unusedSimpArgs false
set_option linter.unusedVariables false
set_option maxHeartbeats 1000000
set_option maxRecDepth 20000
namespace Go.Proofs.Ytcnleglfdnhagaa
open Go Go.Am
abbrev lc_name_ok28 (a b c d e f g h i j : AV) : Env := [(0,a),(2,b),(3,c),(4,d),(5,e),(7,f),(8,g),(9,h),(10,i),(41,j)]
theorem name_ok28 (lim : Nat) (H : Heap) (s : ByteArray) (hs : s.size ≤ 9223372036854775807) : ACall sig lim 28 [.v (.string s)] H fun r H' => r = .v (.bool (nameS s)) ∧ H' = H := by
 refine ACall_pure (fa := fa28) rfl rfl rfl rfl ?_
 have tr : ∀ a0 : AV, env0 fa28.keep [a0] = [(0,a0),(2,.any),(3,.any),(4,.any),(5,.any),(7,.any),(8,.any),(9,.any),(10,.any),(41,.any)] := fun a0 => rfl
 refine W_to (tr _) ?_; clear tr
 refine at_seq rfl ?_
 refine rg rfl ?_
 refine Rq ?_
 have tr : ∀ a b c d e f g h i j k : AV, let l := lc_name_ok28 a b c d e f g h i j; trim ((2,k)::l) l = [(0,a),(2,k),(3,c),(4,d),(5,e),(7,f),(8,g),(9,h),(10,i),(41,j)] := by intros; rfl
 refine R_nil (tr ..) ?_; clear tr
 refine then_n ?_
 refine at_seq rfl ?_
 refine at_seq rfl ?_
 refine rg rfl ?_
 refine Rq ?_
 refine R_bytes (b := s) (cv83 s) rfl tk83 tk5u (by simp (disch := first | omega | (simp only [List.length_map, List.length_append, List.length_set, List.length_cons, List.length_nil]; omega)) only [go_sem, ↓reduceIte, Nat.reduceEqDiff, reduceCtorEq] <;> rfl) (by omega) ?_
 obtain ⟨BL, hBL⟩ : ∃ x, x = s.data.toList.map (fun c => AV.v (.int .u8 (c.toNat : Int))) := ⟨_, rfl⟩
 rw [← hBL]
 have hbl : ∀ i, i < s.size → BL[i]? = some (.v (.int .u8 (bt s i))) := fun i hi => by rw [hBL]; exact bt_ld s i hi
 refine Rq ?_
 refine Rq ?_
 have tr : ∀ a b c d e f g h i j k m n o : AV, let l := lc_name_ok28 a b c d e f g h i j; trim ((9,o)::(8,n)::(7,m)::(6,k)::l) l = [(0,a),(2,b),(3,c),(4,d),(5,e),(7,m),(8,n),(9,o),(10,i),(41,j)] := by intros; rfl
 refine R_nil (tr ..) ?_; clear tr
 refine then_n ?_
 refine at_block rfl ?_
 refine loop_n rfl (fun mm kv H' => ∃ u : Nat, ∃ x2 x3 x4 x5 x10 x41 : AV, (kv = [(2, x2), (3, x3), (4, x4), (5, x5), (9, AV.i u), (10, x10), (41, x41)]) ∧ (mm = s.size - u) ∧ (H' = H) ∧ (u ≤ s.size) ∧ (∀ i, i < u → ¬ badN s i)) ⟨0, _, _, _, _, _, _, rfl, rfl, rfl, by omega, by intro i hi; omega⟩ (by rfl) ?_
 rintro mm kv H' ⟨u, x2, x3, x4, x5, x10, x41, rfl, rfl, rfl, hu, hok⟩
 have tr : ∀ a b c d e f g h i j k m n o p q r : AV, upd [(0,a),(2,b),(3,c),(4,d),(5,e),(7,f),(8,g),(9,h),(10,i),(41,j)] [(2,k),(3,m),(4,n),(5,o),(9,p),(10,q),(41,r)] = [(0,a),(2,k),(3,m),(4,n),(5,o),(7,f),(8,g),(9,p),(10,q),(41,r)] := by intros; rfl
 refine W_to (tr ..) ?_; clear tr
 refine at_seq rfl ?_
 refine rg rfl ?_
 refine Rq ?_
 have tr : ∀ a b c d e f g h i j k : AV, let l := lc_name_ok28 a b c d e f g h i j; trim ((10,k)::l) l = [(0,a),(2,b),(3,c),(4,d),(5,e),(7,f),(8,g),(9,h),(10,k),(41,j)] := by intros; rfl
 refine R_nil (tr ..) ?_; clear tr
 refine then_n ?_
 refine at_seq rfl ?_
 refine cdd (fun h1 => ?_) (fun h1 => ?_)
 ·
  try simp only [decide_eq_true_eq, decide_eq_false_iff_not, Bool.not_eq_true', Bool.not_eq_false', beq_iff_eq, beq_eq_false_iff_ne, ne_eq] at h1
  refine at_skip rfl ?_
  refine then_n ?_
  refine at_seq rfl ?_
  refine at_block rfl ?_
  refine at_seq rfl ?_
  refine rg rfl ?_
  refine Rq ?_
  refine Rq ?_
  have hbu := hbl u (by omega)
  refine R_q rfl (by simp (disch := first | omega | (simp only [List.length_map, List.length_append, List.length_set, List.length_cons, List.length_nil]; omega)) only [go_sem, ↓reduceIte, Nat.reduceEqDiff, reduceCtorEq, hbu] <;> rfl) ?_
  refine Rq ?_
  refine Rq ?_
  have tr : ∀ a b c d e f g h i j k m n o p : AV, let l := lc_name_ok28 a b c d e f g h i j; trim ((4,p)::(3,o)::(13,n)::(12,m)::(11,k)::l) l = [(0,a),(2,b),(3,o),(4,p),(5,e),(7,f),(8,g),(9,h),(10,i),(41,j)] := by intros; rfl
  refine R_nil (tr ..) ?_; clear tr
  refine then_n ?_
  refine at_seq rfl ?_
  refine rg rfl ?_
  refine Rq ?_
  refine Rq ?_
  refine Rq ?_
  refine Rp_split (fun h2 => ?_) (fun h2 => ?_)
  ·
   try simp only [decide_eq_true_eq, decide_eq_false_iff_not, Bool.not_eq_true', Bool.not_eq_false', beq_iff_eq, beq_eq_false_iff_ne, ne_eq] at h2
   refine Ry ?_
   refine Rq ?_
   refine Ry ?_
   refine Rq ?_
   refine Rq ?_
   refine Rq ?_
   have tr : ∀ a b c d e f g h i j k m n o p q r : AV, let l := lc_name_ok28 a b c d e f g h i j; trim ((5,r)::(19,q)::(18,p)::(17,o)::(16,n)::(15,m)::(14,k)::l) l = [(0,a),(2,b),(3,c),(4,d),(5,r),(7,f),(8,g),(9,h),(10,i),(41,j)] := by intros; rfl
   refine R_nil (tr ..) ?_; clear tr
   refine then_n ?_
   refine at_seq rfl ?_
   refine rg rfl ?_
   refine Rq ?_
   refine Rq ?_
   refine Rq ?_
   refine Rp_split (fun h3 => ?_) (fun h3 => ?_)
   ·
    try simp only [decide_eq_true_eq, decide_eq_false_iff_not, Bool.not_eq_true', Bool.not_eq_false', beq_iff_eq, beq_eq_false_iff_ne, ne_eq] at h3
    refine Ry ?_
    refine Rq ?_
    refine Ry ?_
    refine Rq ?_
    refine Ry ?_
    refine Rq ?_
    refine Rp_split (fun h4 => ?_) (fun h4 => ?_)
    ·
     try simp only [decide_eq_true_eq, decide_eq_false_iff_not, Bool.not_eq_true', Bool.not_eq_false', beq_iff_eq, beq_eq_false_iff_ne, ne_eq] at h4
     refine Rn ?_
     refine Rn ?_
     refine Rn ?_
     refine Ru ?_
     refine Ru ?_
     refine Rn ?_
     refine Rn ?_
     refine Ru ?_
     refine Ru ?_
     refine Ru ?_
     refine Ru ?_
     refine Ru ?_
     refine Ru ?_
     refine Rn ?_
     refine Ry ?_
     refine Rq ?_
     refine Rq ?_
     have tr : ∀ a b c d e f g h i j k m n o p q r s t u v w x y z A B C D E F G : AV, let l := lc_name_ok28 a b c d e f g h i j; trim ((41,G)::(40,F)::(39,E)::(38,D)::(37,C)::(36,B)::(35,A)::(34,z)::(33,y)::(32,x)::(31,w)::(30,v)::(29,u)::(28,t)::(27,s)::(26,r)::(25,q)::(24,p)::(23,o)::(22,n)::(21,m)::(20,k)::l) l = [(0,a),(2,b),(3,c),(4,d),(5,e),(7,f),(8,g),(9,h),(10,i),(41,G)] := by intros; rfl
     refine R_nil (tr ..) ?_; clear tr
     refine then_n ?_
     refine cdt ?_
     refine at_seq rfl ?_
     refine rg rfl ?_
     refine Rq ?_
     have tr : ∀ a b c d e f g h i j k : AV, let l := lc_name_ok28 a b c d e f g h i j; trim ((2,k)::l) l = [(0,a),(2,k),(3,c),(4,d),(5,e),(7,f),(8,g),(9,h),(10,i),(41,j)] := by intros; rfl
     refine R_nil (tr ..) ?_; clear tr
     refine then_n ?_
     refine at_ret rfl ?_
     refine blk_r ?_
     refine then_r ?_
     refine then_r ?_
     refine blk_r ?_
     refine then_r ?_
     first | (refine fpure ?_; refine ⟨?_, rfl⟩; rw [name_bad (i := u) (by omega) (by unfold badN; omega)]) | (refine fpure ?_; refine ⟨?_, rfl⟩; by_cases h16 : s.size ≤ 16 <;> first | (rw [name_ok (by omega) (by omega) (fun i hi => hok i (by omega))]; done) | (rw [name_ok (by omega) (by omega) (fun i hi => hok i (by omega))]; exact congrArg (fun z => AV.v (.bool z)) (decide_eq_true (by omega))) | (rw [name_len (by omega)]; done) | (rw [name_len (by omega)]; exact congrArg (fun z => AV.v (.bool z)) (decide_eq_false (by omega))))
    ·
     try simp only [decide_eq_true_eq, decide_eq_false_iff_not, Bool.not_eq_true', Bool.not_eq_false', beq_iff_eq, beq_eq_false_iff_ne, ne_eq] at h4
     refine Ry ?_
     refine Rq ?_
     refine Ry ?_
     refine Rq ?_
     refine Ry ?_
     refine Rq ?_
     refine Rp_split (fun h5 => ?_) (fun h5 => ?_)
     ·
      try simp only [decide_eq_true_eq, decide_eq_false_iff_not, Bool.not_eq_true', Bool.not_eq_false', beq_iff_eq, beq_eq_false_iff_ne, ne_eq] at h5
      refine Ry ?_
      refine Rq ?_
      refine Ry ?_
      refine Rq ?_
      refine Ry ?_
      refine Rq ?_
      refine Ry ?_
      refine Rq ?_
      refine Rp_split (fun h6 => ?_) (fun h6 => ?_)
      ·
       try simp only [decide_eq_true_eq, decide_eq_false_iff_not, Bool.not_eq_true', Bool.not_eq_false', beq_iff_eq, beq_eq_false_iff_ne, ne_eq] at h6
       refine Ry ?_
       refine Rq ?_
       refine Ry ?_
       refine Rq ?_
       refine Ry ?_
       refine Rq ?_
       refine Rp_split (fun h7 => ?_) (fun h7 => ?_)
       ·
        try simp only [decide_eq_true_eq, decide_eq_false_iff_not, Bool.not_eq_true', Bool.not_eq_false', beq_iff_eq, beq_eq_false_iff_ne, ne_eq] at h7
        refine Rn ?_
        refine Rn ?_
        refine Ry ?_
        refine Rq ?_
        refine Ry ?_
        refine Rq ?_
        refine Ry ?_
        refine Rq ?_
        refine Rq ?_
        have tr : ∀ a b c d e f g h i j k m n o p q r s t u v w x y z A B C D E F G : AV, let l := lc_name_ok28 a b c d e f g h i j; trim ((41,G)::(40,F)::(39,E)::(38,D)::(37,C)::(36,B)::(35,A)::(34,z)::(33,y)::(32,x)::(31,w)::(30,v)::(29,u)::(28,t)::(27,s)::(26,r)::(25,q)::(24,p)::(23,o)::(22,n)::(21,m)::(20,k)::l) l = [(0,a),(2,b),(3,c),(4,d),(5,e),(7,f),(8,g),(9,h),(10,i),(41,G)] := by intros; rfl
        refine R_nil (tr ..) ?_; clear tr
        refine then_n ?_
        refine cdt ?_
        refine at_seq rfl ?_
        refine rg rfl ?_
        refine Rq ?_
        have tr : ∀ a b c d e f g h i j k : AV, let l := lc_name_ok28 a b c d e f g h i j; trim ((2,k)::l) l = [(0,a),(2,k),(3,c),(4,d),(5,e),(7,f),(8,g),(9,h),(10,i),(41,j)] := by intros; rfl
        refine R_nil (tr ..) ?_; clear tr
        refine then_n ?_
        refine at_ret rfl ?_
        refine blk_r ?_
        refine then_r ?_
        refine then_r ?_
        refine blk_r ?_
        refine then_r ?_
        first | (refine fpure ?_; refine ⟨?_, rfl⟩; rw [name_bad (i := u) (by omega) (by unfold badN; omega)]) | (refine fpure ?_; refine ⟨?_, rfl⟩; by_cases h16 : s.size ≤ 16 <;> first | (rw [name_ok (by omega) (by omega) (fun i hi => hok i (by omega))]; done) | (rw [name_ok (by omega) (by omega) (fun i hi => hok i (by omega))]; exact congrArg (fun z => AV.v (.bool z)) (decide_eq_true (by omega))) | (rw [name_len (by omega)]; done) | (rw [name_len (by omega)]; exact congrArg (fun z => AV.v (.bool z)) (decide_eq_false (by omega))))
       ·
        try simp only [decide_eq_true_eq, decide_eq_false_iff_not, Bool.not_eq_true', Bool.not_eq_false', beq_iff_eq, beq_eq_false_iff_ne, ne_eq] at h7
        refine Ry ?_
        refine Rq ?_
        refine Ry ?_
        refine Rq ?_
        refine Ry ?_
        refine Rq ?_
        refine Ry ?_
        refine Rq ?_
        refine Ry ?_
        refine Rq ?_
        refine Rq ?_
        have tr : ∀ a b c d e f g h i j k m n o p q r s t u v w x y z A B C D E F G : AV, let l := lc_name_ok28 a b c d e f g h i j; trim ((41,G)::(40,F)::(39,E)::(38,D)::(37,C)::(36,B)::(35,A)::(34,z)::(33,y)::(32,x)::(31,w)::(30,v)::(29,u)::(28,t)::(27,s)::(26,r)::(25,q)::(24,p)::(23,o)::(22,n)::(21,m)::(20,k)::l) l = [(0,a),(2,b),(3,c),(4,d),(5,e),(7,f),(8,g),(9,h),(10,i),(41,G)] := by intros; rfl
        refine R_nil (tr ..) ?_; clear tr
        refine then_n ?_
        refine cdd (fun h8 => ?_) (fun h8 => ?_)
        ·
         try simp only [decide_eq_true_eq, decide_eq_false_iff_not, Bool.not_eq_true', Bool.not_eq_false', beq_iff_eq, beq_eq_false_iff_ne, ne_eq] at h8
         refine at_seq rfl ?_
         refine rg rfl ?_
         refine Rq ?_
         have tr : ∀ a b c d e f g h i j k : AV, let l := lc_name_ok28 a b c d e f g h i j; trim ((2,k)::l) l = [(0,a),(2,k),(3,c),(4,d),(5,e),(7,f),(8,g),(9,h),(10,i),(41,j)] := by intros; rfl
         refine R_nil (tr ..) ?_; clear tr
         refine then_n ?_
         refine at_ret rfl ?_
         refine blk_r ?_
         refine then_r ?_
         refine then_r ?_
         refine blk_r ?_
         refine then_r ?_
         first | (refine fpure ?_; refine ⟨?_, rfl⟩; rw [name_bad (i := u) (by omega) (by unfold badN; omega)]) | (refine fpure ?_; refine ⟨?_, rfl⟩; by_cases h16 : s.size ≤ 16 <;> first | (rw [name_ok (by omega) (by omega) (fun i hi => hok i (by omega))]; done) | (rw [name_ok (by omega) (by omega) (fun i hi => hok i (by omega))]; exact congrArg (fun z => AV.v (.bool z)) (decide_eq_true (by omega))) | (rw [name_len (by omega)]; done) | (rw [name_len (by omega)]; exact congrArg (fun z => AV.v (.bool z)) (decide_eq_false (by omega))))
        ·
         try simp only [decide_eq_true_eq, decide_eq_false_iff_not, Bool.not_eq_true', Bool.not_eq_false', beq_iff_eq, beq_eq_false_iff_ne, ne_eq] at h8
         refine at_skip rfl ?_
         refine blk_n ?_
         refine then_n ?_
         refine rg rfl ?_
         refine Rq ?_
         refine Rq ?_
         have tr : ∀ a b c d e f g h i j k m : AV, let l := lc_name_ok28 a b c d e f g h i j; trim ((9,m)::(42,k)::l) l = [(0,a),(2,b),(3,c),(4,d),(5,e),(7,f),(8,g),(9,m),(10,i),(41,j)] := by intros; rfl
         refine R_nil (tr ..) ?_; clear tr
         refine then_n ?_
         exact ⟨_, _, ⟨u + 1, _, _, _, _, _, _, rfl, rfl, rfl, by omega, by exact all_step hok (by unfold badN; omega)⟩, by rfl, by omega⟩
      ·
       try simp only [decide_eq_true_eq, decide_eq_false_iff_not, Bool.not_eq_true', Bool.not_eq_false', beq_iff_eq, beq_eq_false_iff_ne, ne_eq] at h6
       refine Rn ?_
       refine Rn ?_
       refine Rn ?_
       refine Ru ?_
       refine Ru ?_
       refine Rn ?_
       refine Ry ?_
       refine Rq ?_
       refine Ry ?_
       refine Rq ?_
       refine Rq ?_
       have tr : ∀ a b c d e f g h i j k m n o p q r s t u v w x y z A B C D E F G : AV, let l := lc_name_ok28 a b c d e f g h i j; trim ((41,G)::(40,F)::(39,E)::(38,D)::(37,C)::(36,B)::(35,A)::(34,z)::(33,y)::(32,x)::(31,w)::(30,v)::(29,u)::(28,t)::(27,s)::(26,r)::(25,q)::(24,p)::(23,o)::(22,n)::(21,m)::(20,k)::l) l = [(0,a),(2,b),(3,c),(4,d),(5,e),(7,f),(8,g),(9,h),(10,i),(41,G)] := by intros; rfl
       refine R_nil (tr ..) ?_; clear tr
       refine then_n ?_
       refine cdf ?_
       refine at_skip rfl ?_
       refine blk_n ?_
       refine then_n ?_
       refine rg rfl ?_
       refine Rq ?_
       refine Rq ?_
       have tr : ∀ a b c d e f g h i j k m : AV, let l := lc_name_ok28 a b c d e f g h i j; trim ((9,m)::(42,k)::l) l = [(0,a),(2,b),(3,c),(4,d),(5,e),(7,f),(8,g),(9,m),(10,i),(41,j)] := by intros; rfl
       refine R_nil (tr ..) ?_; clear tr
       refine then_n ?_
       exact ⟨_, _, ⟨u + 1, _, _, _, _, _, _, rfl, rfl, rfl, by omega, by exact all_step hok (by unfold badN; omega)⟩, by rfl, by omega⟩
     ·
      try simp only [decide_eq_true_eq, decide_eq_false_iff_not, Bool.not_eq_true', Bool.not_eq_false', beq_iff_eq, beq_eq_false_iff_ne, ne_eq] at h5
      refine Rn ?_
      refine Rn ?_
      refine Ry ?_
      refine Rq ?_
      refine Ry ?_
      refine Rq ?_
      refine Rn ?_
      refine Rn ?_
      refine Rn ?_
      refine Ru ?_
      refine Ru ?_
      refine Rn ?_
      refine Ry ?_
      refine Rq ?_
      refine Ry ?_
      refine Rq ?_
      refine Rq ?_
      have tr : ∀ a b c d e f g h i j k m n o p q r s t u v w x y z A B C D E F G : AV, let l := lc_name_ok28 a b c d e f g h i j; trim ((41,G)::(40,F)::(39,E)::(38,D)::(37,C)::(36,B)::(35,A)::(34,z)::(33,y)::(32,x)::(31,w)::(30,v)::(29,u)::(28,t)::(27,s)::(26,r)::(25,q)::(24,p)::(23,o)::(22,n)::(21,m)::(20,k)::l) l = [(0,a),(2,b),(3,c),(4,d),(5,e),(7,f),(8,g),(9,h),(10,i),(41,G)] := by intros; rfl
      refine R_nil (tr ..) ?_; clear tr
      refine then_n ?_
      refine cdf ?_
      refine at_skip rfl ?_
      refine blk_n ?_
      refine then_n ?_
      refine rg rfl ?_
      refine Rq ?_
      refine Rq ?_
      have tr : ∀ a b c d e f g h i j k m : AV, let l := lc_name_ok28 a b c d e f g h i j; trim ((9,m)::(42,k)::l) l = [(0,a),(2,b),(3,c),(4,d),(5,e),(7,f),(8,g),(9,m),(10,i),(41,j)] := by intros; rfl
      refine R_nil (tr ..) ?_; clear tr
      refine then_n ?_
      exact ⟨_, _, ⟨u + 1, _, _, _, _, _, _, rfl, rfl, rfl, by omega, by exact all_step hok (by unfold badN; omega)⟩, by rfl, by omega⟩
   ·
    try simp only [decide_eq_true_eq, decide_eq_false_iff_not, Bool.not_eq_true', Bool.not_eq_false', beq_iff_eq, beq_eq_false_iff_ne, ne_eq] at h3
    refine Rn ?_
    refine Rn ?_
    refine Rn ?_
    refine Ru ?_
    refine Ru ?_
    refine Ru ?_
    refine Ru ?_
    refine Ru ?_
    refine Ru ?_
    refine Ru ?_
    refine Ru ?_
    refine Ru ?_
    refine Ru ?_
    refine Ru ?_
    refine Ru ?_
    refine Ru ?_
    refine Ru ?_
    refine Rn ?_
    refine Rq ?_
    have tr : ∀ a b c d e f g h i j k m n o p q r s t u v w x y z A B C D E F G : AV, let l := lc_name_ok28 a b c d e f g h i j; trim ((41,G)::(40,F)::(39,E)::(38,D)::(37,C)::(36,B)::(35,A)::(34,z)::(33,y)::(32,x)::(31,w)::(30,v)::(29,u)::(28,t)::(27,s)::(26,r)::(25,q)::(24,p)::(23,o)::(22,n)::(21,m)::(20,k)::l) l = [(0,a),(2,b),(3,c),(4,d),(5,e),(7,f),(8,g),(9,h),(10,i),(41,G)] := by intros; rfl
    refine R_nil (tr ..) ?_; clear tr
    refine then_n ?_
    refine cdf ?_
    refine at_skip rfl ?_
    refine blk_n ?_
    refine then_n ?_
    refine rg rfl ?_
    refine Rq ?_
    refine Rq ?_
    have tr : ∀ a b c d e f g h i j k m : AV, let l := lc_name_ok28 a b c d e f g h i j; trim ((9,m)::(42,k)::l) l = [(0,a),(2,b),(3,c),(4,d),(5,e),(7,f),(8,g),(9,m),(10,i),(41,j)] := by intros; rfl
    refine R_nil (tr ..) ?_; clear tr
    refine then_n ?_
    exact ⟨_, _, ⟨u + 1, _, _, _, _, _, _, rfl, rfl, rfl, by omega, by exact all_step hok (by unfold badN; omega)⟩, by rfl, by omega⟩
  ·
   try simp only [decide_eq_true_eq, decide_eq_false_iff_not, Bool.not_eq_true', Bool.not_eq_false', beq_iff_eq, beq_eq_false_iff_ne, ne_eq] at h2
   refine Rn ?_
   refine Rn ?_
   refine Rq ?_
   refine Rq ?_
   have tr : ∀ a b c d e f g h i j k m n o p q r : AV, let l := lc_name_ok28 a b c d e f g h i j; trim ((5,r)::(19,q)::(18,p)::(17,o)::(16,n)::(15,m)::(14,k)::l) l = [(0,a),(2,b),(3,c),(4,d),(5,r),(7,f),(8,g),(9,h),(10,i),(41,j)] := by intros; rfl
   refine R_nil (tr ..) ?_; clear tr
   refine then_n ?_
   refine at_seq rfl ?_
   refine rg rfl ?_
   refine Rq ?_
   refine Rq ?_
   refine Rq ?_
   refine Ry ?_
   refine Rq ?_
   refine Ry ?_
   refine Rq ?_
   refine Ry ?_
   refine Rq ?_
   refine Rp_split (fun h9 => ?_) (fun h9 => ?_)
   ·
    try simp only [decide_eq_true_eq, decide_eq_false_iff_not, Bool.not_eq_true', Bool.not_eq_false', beq_iff_eq, beq_eq_false_iff_ne, ne_eq] at h9
    refine Rn ?_
    refine Rn ?_
    refine Rn ?_
    refine Ru ?_
    refine Ru ?_
    refine Rn ?_
    refine Rn ?_
    refine Ru ?_
    refine Ru ?_
    refine Ru ?_
    refine Ru ?_
    refine Ru ?_
    refine Ru ?_
    refine Rn ?_
    refine Ry ?_
    refine Rq ?_
    refine Rq ?_
    have tr : ∀ a b c d e f g h i j k m n o p q r s t u v w x y z A B C D E F G : AV, let l := lc_name_ok28 a b c d e f g h i j; trim ((41,G)::(40,F)::(39,E)::(38,D)::(37,C)::(36,B)::(35,A)::(34,z)::(33,y)::(32,x)::(31,w)::(30,v)::(29,u)::(28,t)::(27,s)::(26,r)::(25,q)::(24,p)::(23,o)::(22,n)::(21,m)::(20,k)::l) l = [(0,a),(2,b),(3,c),(4,d),(5,e),(7,f),(8,g),(9,h),(10,i),(41,G)] := by intros; rfl
    refine R_nil (tr ..) ?_; clear tr
    refine then_n ?_
    refine cdt ?_
    refine at_seq rfl ?_
    refine rg rfl ?_
    refine Rq ?_
    have tr : ∀ a b c d e f g h i j k : AV, let l := lc_name_ok28 a b c d e f g h i j; trim ((2,k)::l) l = [(0,a),(2,k),(3,c),(4,d),(5,e),(7,f),(8,g),(9,h),(10,i),(41,j)] := by intros; rfl
    refine R_nil (tr ..) ?_; clear tr
    refine then_n ?_
    refine at_ret rfl ?_
    refine blk_r ?_
    refine then_r ?_
    refine then_r ?_
    refine blk_r ?_
    refine then_r ?_
    first | (refine fpure ?_; refine ⟨?_, rfl⟩; rw [name_bad (i := u) (by omega) (by unfold badN; omega)]) | (refine fpure ?_; refine ⟨?_, rfl⟩; by_cases h16 : s.size ≤ 16 <;> first | (rw [name_ok (by omega) (by omega) (fun i hi => hok i (by omega))]; done) | (rw [name_ok (by omega) (by omega) (fun i hi => hok i (by omega))]; exact congrArg (fun z => AV.v (.bool z)) (decide_eq_true (by omega))) | (rw [name_len (by omega)]; done) | (rw [name_len (by omega)]; exact congrArg (fun z => AV.v (.bool z)) (decide_eq_false (by omega))))
   ·
    try simp only [decide_eq_true_eq, decide_eq_false_iff_not, Bool.not_eq_true', Bool.not_eq_false', beq_iff_eq, beq_eq_false_iff_ne, ne_eq] at h9
    refine Ry ?_
    refine Rq ?_
    refine Ry ?_
    refine Rq ?_
    refine Ry ?_
    refine Rq ?_
    refine Rp_split (fun h10 => ?_) (fun h10 => ?_)
    ·
     try simp only [decide_eq_true_eq, decide_eq_false_iff_not, Bool.not_eq_true', Bool.not_eq_false', beq_iff_eq, beq_eq_false_iff_ne, ne_eq] at h10
     refine Ry ?_
     refine Rq ?_
     refine Ry ?_
     refine Rq ?_
     refine Ry ?_
     refine Rq ?_
     refine Ry ?_
     refine Rq ?_
     refine Rp_split (fun h11 => ?_) (fun h11 => ?_)
     ·
      try simp only [decide_eq_true_eq, decide_eq_false_iff_not, Bool.not_eq_true', Bool.not_eq_false', beq_iff_eq, beq_eq_false_iff_ne, ne_eq] at h11
      refine Ry ?_
      refine Rq ?_
      refine Ry ?_
      refine Rq ?_
      refine Ry ?_
      refine Rq ?_
      refine Rp_split (fun h12 => ?_) (fun h12 => ?_)
      ·
       try simp only [decide_eq_true_eq, decide_eq_false_iff_not, Bool.not_eq_true', Bool.not_eq_false', beq_iff_eq, beq_eq_false_iff_ne, ne_eq] at h12
       refine Rn ?_
       refine Rn ?_
       refine Ry ?_
       refine Rq ?_
       refine Ry ?_
       refine Rq ?_
       refine Ry ?_
       refine Rq ?_
       refine Rq ?_
       have tr : ∀ a b c d e f g h i j k m n o p q r s t u v w x y z A B C D E F G : AV, let l := lc_name_ok28 a b c d e f g h i j; trim ((41,G)::(40,F)::(39,E)::(38,D)::(37,C)::(36,B)::(35,A)::(34,z)::(33,y)::(32,x)::(31,w)::(30,v)::(29,u)::(28,t)::(27,s)::(26,r)::(25,q)::(24,p)::(23,o)::(22,n)::(21,m)::(20,k)::l) l = [(0,a),(2,b),(3,c),(4,d),(5,e),(7,f),(8,g),(9,h),(10,i),(41,G)] := by intros; rfl
       refine R_nil (tr ..) ?_; clear tr
       refine then_n ?_
       refine cdt ?_
       refine at_seq rfl ?_
       refine rg rfl ?_
       refine Rq ?_
       have tr : ∀ a b c d e f g h i j k : AV, let l := lc_name_ok28 a b c d e f g h i j; trim ((2,k)::l) l = [(0,a),(2,k),(3,c),(4,d),(5,e),(7,f),(8,g),(9,h),(10,i),(41,j)] := by intros; rfl
       refine R_nil (tr ..) ?_; clear tr
       refine then_n ?_
       refine at_ret rfl ?_
       refine blk_r ?_
       refine then_r ?_
       refine then_r ?_
       refine blk_r ?_
       refine then_r ?_
       first | (refine fpure ?_; refine ⟨?_, rfl⟩; rw [name_bad (i := u) (by omega) (by unfold badN; omega)]) | (refine fpure ?_; refine ⟨?_, rfl⟩; by_cases h16 : s.size ≤ 16 <;> first | (rw [name_ok (by omega) (by omega) (fun i hi => hok i (by omega))]; done) | (rw [name_ok (by omega) (by omega) (fun i hi => hok i (by omega))]; exact congrArg (fun z => AV.v (.bool z)) (decide_eq_true (by omega))) | (rw [name_len (by omega)]; done) | (rw [name_len (by omega)]; exact congrArg (fun z => AV.v (.bool z)) (decide_eq_false (by omega))))
      ·
       try simp only [decide_eq_true_eq, decide_eq_false_iff_not, Bool.not_eq_true', Bool.not_eq_false', beq_iff_eq, beq_eq_false_iff_ne, ne_eq] at h12
       refine Ry ?_
       refine Rq ?_
       refine Ry ?_
       refine Rq ?_
       refine Ry ?_
       refine Rq ?_
       refine Ry ?_
       refine Rq ?_
       refine Ry ?_
       refine Rq ?_
       refine Rq ?_
       have tr : ∀ a b c d e f g h i j k m n o p q r s t u v w x y z A B C D E F G : AV, let l := lc_name_ok28 a b c d e f g h i j; trim ((41,G)::(40,F)::(39,E)::(38,D)::(37,C)::(36,B)::(35,A)::(34,z)::(33,y)::(32,x)::(31,w)::(30,v)::(29,u)::(28,t)::(27,s)::(26,r)::(25,q)::(24,p)::(23,o)::(22,n)::(21,m)::(20,k)::l) l = [(0,a),(2,b),(3,c),(4,d),(5,e),(7,f),(8,g),(9,h),(10,i),(41,G)] := by intros; rfl
       refine R_nil (tr ..) ?_; clear tr
       refine then_n ?_
       refine cdd (fun h13 => ?_) (fun h13 => ?_)
       ·
        try simp only [decide_eq_true_eq, decide_eq_false_iff_not, Bool.not_eq_true', Bool.not_eq_false', beq_iff_eq, beq_eq_false_iff_ne, ne_eq] at h13
        refine at_seq rfl ?_
        refine rg rfl ?_
        refine Rq ?_
        have tr : ∀ a b c d e f g h i j k : AV, let l := lc_name_ok28 a b c d e f g h i j; trim ((2,k)::l) l = [(0,a),(2,k),(3,c),(4,d),(5,e),(7,f),(8,g),(9,h),(10,i),(41,j)] := by intros; rfl
        refine R_nil (tr ..) ?_; clear tr
        refine then_n ?_
        refine at_ret rfl ?_
        refine blk_r ?_
        refine then_r ?_
        refine then_r ?_
        refine blk_r ?_
        refine then_r ?_
        first | (refine fpure ?_; refine ⟨?_, rfl⟩; rw [name_bad (i := u) (by omega) (by unfold badN; omega)]) | (refine fpure ?_; refine ⟨?_, rfl⟩; by_cases h16 : s.size ≤ 16 <;> first | (rw [name_ok (by omega) (by omega) (fun i hi => hok i (by omega))]; done) | (rw [name_ok (by omega) (by omega) (fun i hi => hok i (by omega))]; exact congrArg (fun z => AV.v (.bool z)) (decide_eq_true (by omega))) | (rw [name_len (by omega)]; done) | (rw [name_len (by omega)]; exact congrArg (fun z => AV.v (.bool z)) (decide_eq_false (by omega))))
       ·
        try simp only [decide_eq_true_eq, decide_eq_false_iff_not, Bool.not_eq_true', Bool.not_eq_false', beq_iff_eq, beq_eq_false_iff_ne, ne_eq] at h13
        refine at_skip rfl ?_
        refine blk_n ?_
        refine then_n ?_
        refine rg rfl ?_
        refine Rq ?_
        refine Rq ?_
        have tr : ∀ a b c d e f g h i j k m : AV, let l := lc_name_ok28 a b c d e f g h i j; trim ((9,m)::(42,k)::l) l = [(0,a),(2,b),(3,c),(4,d),(5,e),(7,f),(8,g),(9,m),(10,i),(41,j)] := by intros; rfl
        refine R_nil (tr ..) ?_; clear tr
        refine then_n ?_
        exact ⟨_, _, ⟨u + 1, _, _, _, _, _, _, rfl, rfl, rfl, by omega, by exact all_step hok (by unfold badN; omega)⟩, by rfl, by omega⟩
     ·
      try simp only [decide_eq_true_eq, decide_eq_false_iff_not, Bool.not_eq_true', Bool.not_eq_false', beq_iff_eq, beq_eq_false_iff_ne, ne_eq] at h11
      refine Rn ?_
      refine Rn ?_
      refine Rn ?_
      refine Ru ?_
      refine Ru ?_
      refine Rn ?_
      refine Ry ?_
      refine Rq ?_
      refine Ry ?_
      refine Rq ?_
      refine Rq ?_
      have tr : ∀ a b c d e f g h i j k m n o p q r s t u v w x y z A B C D E F G : AV, let l := lc_name_ok28 a b c d e f g h i j; trim ((41,G)::(40,F)::(39,E)::(38,D)::(37,C)::(36,B)::(35,A)::(34,z)::(33,y)::(32,x)::(31,w)::(30,v)::(29,u)::(28,t)::(27,s)::(26,r)::(25,q)::(24,p)::(23,o)::(22,n)::(21,m)::(20,k)::l) l = [(0,a),(2,b),(3,c),(4,d),(5,e),(7,f),(8,g),(9,h),(10,i),(41,G)] := by intros; rfl
      refine R_nil (tr ..) ?_; clear tr
      refine then_n ?_
      refine cdf ?_
      refine at_skip rfl ?_
      refine blk_n ?_
      refine then_n ?_
      refine rg rfl ?_
      refine Rq ?_
      refine Rq ?_
      have tr : ∀ a b c d e f g h i j k m : AV, let l := lc_name_ok28 a b c d e f g h i j; trim ((9,m)::(42,k)::l) l = [(0,a),(2,b),(3,c),(4,d),(5,e),(7,f),(8,g),(9,m),(10,i),(41,j)] := by intros; rfl
      refine R_nil (tr ..) ?_; clear tr
      refine then_n ?_
      exact ⟨_, _, ⟨u + 1, _, _, _, _, _, _, rfl, rfl, rfl, by omega, by exact all_step hok (by unfold badN; omega)⟩, by rfl, by omega⟩
    ·
     try simp only [decide_eq_true_eq, decide_eq_false_iff_not, Bool.not_eq_true', Bool.not_eq_false', beq_iff_eq, beq_eq_false_iff_ne, ne_eq] at h10
     refine Rn ?_
     refine Rn ?_
     refine Ry ?_
     refine Rq ?_
     refine Ry ?_
     refine Rq ?_
     refine Rn ?_
     refine Rn ?_
     refine Rn ?_
     refine Ru ?_
     refine Ru ?_
     refine Rn ?_
     refine Ry ?_
     refine Rq ?_
     refine Ry ?_
     refine Rq ?_
     refine Rq ?_
     have tr : ∀ a b c d e f g h i j k m n o p q r s t u v w x y z A B C D E F G : AV, let l := lc_name_ok28 a b c d e f g h i j; trim ((41,G)::(40,F)::(39,E)::(38,D)::(37,C)::(36,B)::(35,A)::(34,z)::(33,y)::(32,x)::(31,w)::(30,v)::(29,u)::(28,t)::(27,s)::(26,r)::(25,q)::(24,p)::(23,o)::(22,n)::(21,m)::(20,k)::l) l = [(0,a),(2,b),(3,c),(4,d),(5,e),(7,f),(8,g),(9,h),(10,i),(41,G)] := by intros; rfl
     refine R_nil (tr ..) ?_; clear tr
     refine then_n ?_
     refine cdf ?_
     refine at_skip rfl ?_
     refine blk_n ?_
     refine then_n ?_
     refine rg rfl ?_
     refine Rq ?_
     refine Rq ?_
     have tr : ∀ a b c d e f g h i j k m : AV, let l := lc_name_ok28 a b c d e f g h i j; trim ((9,m)::(42,k)::l) l = [(0,a),(2,b),(3,c),(4,d),(5,e),(7,f),(8,g),(9,m),(10,i),(41,j)] := by intros; rfl
     refine R_nil (tr ..) ?_; clear tr
     refine then_n ?_
     exact ⟨_, _, ⟨u + 1, _, _, _, _, _, _, rfl, rfl, rfl, by omega, by exact all_step hok (by unfold badN; omega)⟩, by rfl, by omega⟩
 ·
  try simp only [decide_eq_true_eq, decide_eq_false_iff_not, Bool.not_eq_true', Bool.not_eq_false', beq_iff_eq, beq_eq_false_iff_ne, ne_eq] at h1
  refine at_exit rfl ?_
  refine then_x ?_
  refine then_x ?_
  refine blk_x ?_
  refine then_n ?_
  refine at_seq rfl ?_
  refine rg rfl ?_
  refine Rq ?_
  refine Rq ?_
  refine Rq ?_
  refine Rq ?_
  refine Rp_split (fun h14 => ?_) (fun h14 => ?_)
  ·
   try simp only [decide_eq_true_eq, decide_eq_false_iff_not, Bool.not_eq_true', Bool.not_eq_false', beq_iff_eq, beq_eq_false_iff_ne, ne_eq] at h14
   refine Ry ?_
   refine Rq ?_
   refine Ry ?_
   refine Rq ?_
   refine Ry ?_
   refine Rq ?_
   refine Rq ?_
   refine Rq ?_
   have tr : ∀ a b c d e f g h i j k m n o p q r s t : AV, let l := lc_name_ok28 a b c d e f g h i j; trim ((2,t)::(50,s)::(49,r)::(48,q)::(47,p)::(46,o)::(45,n)::(44,m)::(43,k)::l) l = [(0,a),(2,t),(3,c),(4,d),(5,e),(7,f),(8,g),(9,h),(10,i),(41,j)] := by intros; rfl
   refine R_nil (tr ..) ?_; clear tr
   refine then_n ?_
   refine at_ret rfl ?_
   first | (refine fpure ?_; refine ⟨?_, rfl⟩; rw [name_bad (i := u) (by omega) (by unfold badN; omega)]) | (refine fpure ?_; refine ⟨?_, rfl⟩; by_cases h16 : s.size ≤ 16 <;> first | (rw [name_ok (by omega) (by omega) (fun i hi => hok i (by omega))]; done) | (rw [name_ok (by omega) (by omega) (fun i hi => hok i (by omega))]; exact congrArg (fun z => AV.v (.bool z)) (decide_eq_true (by omega))) | (rw [name_len (by omega)]; done) | (rw [name_len (by omega)]; exact congrArg (fun z => AV.v (.bool z)) (decide_eq_false (by omega))))
  ·
   try simp only [decide_eq_true_eq, decide_eq_false_iff_not, Bool.not_eq_true', Bool.not_eq_false', beq_iff_eq, beq_eq_false_iff_ne, ne_eq] at h14
   refine Rn ?_
   refine Rn ?_
   refine Rn ?_
   refine Rq ?_
   refine Rq ?_
   have tr : ∀ a b c d e f g h i j k m n o p q r s t : AV, let l := lc_name_ok28 a b c d e f g h i j; trim ((2,t)::(50,s)::(49,r)::(48,q)::(47,p)::(46,o)::(45,n)::(44,m)::(43,k)::l) l = [(0,a),(2,t),(3,c),(4,d),(5,e),(7,f),(8,g),(9,h),(10,i),(41,j)] := by intros; rfl
   refine R_nil (tr ..) ?_; clear tr
   refine then_n ?_
   refine at_ret rfl ?_
   first | (refine fpure ?_; refine ⟨?_, rfl⟩; rw [name_bad (i := u) (by omega) (by unfold badN; omega)]) | (refine fpure ?_; refine ⟨?_, rfl⟩; by_cases h16 : s.size ≤ 16 <;> first | (rw [name_ok (by omega) (by omega) (fun i hi => hok i (by omega))]; done) | (rw [name_ok (by omega) (by omega) (fun i hi => hok i (by omega))]; exact congrArg (fun z => AV.v (.bool z)) (decide_eq_true (by omega))) | (rw [name_len (by omega)]; done) | (rw [name_len (by omega)]; exact congrArg (fun z => AV.v (.bool z)) (decide_eq_false (by omega))))

abbrev lc_day_ok (a b : AV) : Env := [(0,a),(2,b)]
theorem day_ok (lim : Nat) (H : Heap) (n : Int) : ACall sig lim 27 [AV.i n] H fun r H' => r = .v (.bool (dayB n)) ∧ H' = H := by
 refine ACall_pure (fa := fa27) rfl rfl rfl rfl ?_
 have tr : ∀ a0 : AV, env0 fa27.keep [a0] = [(0,a0),(2,.any)] := fun a0 => rfl
 refine W_to (tr _) ?_; clear tr
 refine at_seq rfl ?_
 refine rg rfl ?_
 refine Rq ?_
 have tr : ∀ a b c : AV, let l := lc_day_ok a b; trim ((2,c)::l) l = [(0,a),(2,c)] := by intros; rfl
 refine R_nil (tr ..) ?_; clear tr
 refine then_n ?_
 refine at_seq rfl ?_
 refine rg rfl ?_
 refine Rq ?_
 refine Rq ?_
 refine Rq ?_
 refine Rp_split (fun h1 => ?_) (fun h1 => ?_)
 ·
  try simp only [decide_eq_true_eq, decide_eq_false_iff_not, Bool.not_eq_true', Bool.not_eq_false', beq_iff_eq, beq_eq_false_iff_ne, ne_eq] at h1
  refine Ry ?_
  refine Rq ?_
  refine Ry ?_
  refine Rq ?_
  refine Rq ?_
  refine Rq ?_
  have tr : ∀ a b c d e f g h i : AV, let l := lc_day_ok a b; trim ((2,i)::(8,h)::(7,g)::(6,f)::(5,e)::(4,d)::(3,c)::l) l = [(0,a),(2,i)] := by intros; rfl
  refine R_nil (tr ..) ?_; clear tr
  refine then_n ?_
  refine at_ret rfl ?_
  refine fpure ?_
  refine ⟨?_, rfl⟩
  unfold dayB
  refine congrArg (fun b => AV.v (.bool b)) ?_
  first | rfl | exact (decide_eq_false (by omega)).symm | exact (decide_eq_true (by omega)).symm | (rw [decide_eq_decide]; omega) | (simp; omega)
 ·
  try simp only [decide_eq_true_eq, decide_eq_false_iff_not, Bool.not_eq_true', Bool.not_eq_false', beq_iff_eq, beq_eq_false_iff_ne, ne_eq] at h1
  refine Rn ?_
  refine Rn ?_
  refine Rq ?_
  refine Rq ?_
  have tr : ∀ a b c d e f g h i : AV, let l := lc_day_ok a b; trim ((2,i)::(8,h)::(7,g)::(6,f)::(5,e)::(4,d)::(3,c)::l) l = [(0,a),(2,i)] := by intros; rfl
  refine R_nil (tr ..) ?_; clear tr
  refine then_n ?_
  refine at_ret rfl ?_
  refine fpure ?_
  refine ⟨?_, rfl⟩
  unfold dayB
  refine congrArg (fun b => AV.v (.bool b)) ?_
  first | rfl | exact (decide_eq_false (by omega)).symm | exact (decide_eq_true (by omega)).symm | (rw [decide_eq_decide]; omega) | (simp; omega)

abbrev lc_index64 (a b c d e f g h : AV) : Env := [(0,a),(1,b),(4,c),(5,d),(7,e),(8,f),(9,g),(16,h)]
theorem index64 (lim : Nat) (H : Heap) (l : List Int) (v : Int) (hl : l.length ≤ 1000000) : ACall sig lim 15 [intsAV l, AV.i v] H fun r H' => r = AV.i (fidx (fun u => v == gt l u) l.length) ∧ H' = H := by
 refine ACall_pure (fa := fa15) rfl rfl rfl rfl ?_
 have tr : ∀ a0 a1 : AV, env0 fa15.keep [a0, a1] = [(0,a0),(1,a1),(4,.any),(5,.any),(7,.any),(8,.any),(9,.any),(16,.any)] := fun a0 a1 => rfl
 refine W_to (tr _ _) ?_; clear tr
 refine at_seq rfl ?_
 refine rg rfl ?_
 refine Rq ?_
 have tr : ∀ a b c d e f g h i : AV, let l := lc_index64 a b c d e f g h; trim ((4,i)::l) l = [(0,a),(1,b),(4,i),(5,d),(7,e),(8,f),(9,g),(16,h)] := by intros; rfl
 refine R_nil (tr ..) ?_; clear tr
 refine then_n ?_
 refine at_seq rfl ?_
 refine at_seq rfl ?_
 refine rg rfl ?_
 refine Rq ?_
 refine Rq ?_
 refine Rq ?_
 have tr : ∀ a b c d e f g h i j k : AV, let l := lc_index64 a b c d e f g h; trim ((8,k)::(7,j)::(6,i)::l) l = [(0,a),(1,b),(4,c),(5,d),(7,j),(8,k),(9,g),(16,h)] := by intros; rfl
 refine R_nil (tr ..) ?_; clear tr
 refine then_n ?_
 refine at_block rfl ?_
 refine loop_n rfl (fun mm kv H' => ∃ u : Nat, ∃ x4 x5 x9 x16 : AV, (kv = [(4, x4), (5, x5), (8, AV.i u), (9, x9), (16, x16)]) ∧ (mm = l.length - u) ∧ (H' = H) ∧ (u ≤ l.length) ∧ (∀ k, k < u → (fun u => v == gt l u) k = false)) ⟨0, _, _, _, _, rfl, rfl, rfl, by omega, by intro k hk; omega⟩ (by rfl) ?_
 rintro mm kv H' ⟨u, x4, x5, x9, x16, rfl, rfl, rfl, hu, hk⟩
 have tr : ∀ a b c d e f g h i j k m n : AV, upd [(0,a),(1,b),(4,c),(5,d),(7,e),(8,f),(9,g),(16,h)] [(4,i),(5,j),(8,k),(9,m),(16,n)] = [(0,a),(1,b),(4,i),(5,j),(7,e),(8,k),(9,m),(16,n)] := by intros; rfl
 refine W_to (tr ..) ?_; clear tr
 refine at_seq rfl ?_
 refine rg rfl ?_
 refine Rq ?_
 have tr : ∀ a b c d e f g h i : AV, let l := lc_index64 a b c d e f g h; trim ((9,i)::l) l = [(0,a),(1,b),(4,c),(5,d),(7,e),(8,f),(9,i),(16,h)] := by intros; rfl
 refine R_nil (tr ..) ?_; clear tr
 refine then_n ?_
 refine at_seq rfl ?_
 refine cdd (fun h1 => ?_) (fun h1 => ?_)
 ·
  try simp only [decide_eq_true_eq, decide_eq_false_iff_not, Bool.not_eq_true', Bool.not_eq_false', beq_iff_eq, beq_eq_false_iff_ne, ne_eq] at h1
  refine at_skip rfl ?_
  refine then_n ?_
  refine at_seq rfl ?_
  refine at_block rfl ?_
  refine at_seq rfl ?_
  refine rg rfl ?_
  refine Rq ?_
  refine Rq ?_
  have tr : ∀ a b c d e f g h i j : AV, let l := lc_index64 a b c d e f g h; trim ((5,j)::(10,i)::l) l = [(0,a),(1,b),(4,c),(5,j),(7,e),(8,f),(9,g),(16,h)] := by intros; rfl
  refine R_nil (tr ..) ?_; clear tr
  refine then_n ?_
  refine at_seq rfl ?_
  refine rg rfl ?_
  refine Rq ?_
  refine Rq ?_
  refine Rq ?_
  refine Rq ?_
  refine Rq ?_
  refine Rq ?_
  have tr : ∀ a b c d e f g h i j k m n o : AV, let l := lc_index64 a b c d e f g h; trim ((16,o)::(15,n)::(14,m)::(13,k)::(12,j)::(11,i)::l) l = [(0,a),(1,b),(4,c),(5,d),(7,e),(8,f),(9,g),(16,o)] := by intros; rfl
  refine R_nil (tr ..) ?_; clear tr
  refine then_n ?_
  refine cdd (fun h2 => ?_) (fun h2 => ?_)
  ·
   try simp only [decide_eq_true_eq, decide_eq_false_iff_not, Bool.not_eq_true', Bool.not_eq_false', beq_iff_eq, beq_eq_false_iff_ne, ne_eq] at h2
   refine at_seq rfl ?_
   refine rg rfl ?_
   refine Rq ?_
   refine Rq ?_
   have tr : ∀ a b c d e f g h i j : AV, let l := lc_index64 a b c d e f g h; trim ((4,j)::(17,i)::l) l = [(0,a),(1,b),(4,j),(5,d),(7,e),(8,f),(9,g),(16,h)] := by intros; rfl
   refine R_nil (tr ..) ?_; clear tr
   refine then_n ?_
   refine at_ret rfl ?_
   refine blk_r ?_
   refine then_r ?_
   refine then_r ?_
   refine blk_r ?_
   refine then_r ?_
   first | (refine fpure ?_; refine ⟨?_, rfl⟩; rw [fidx_hit (v := u) (by omega) hk (by simp_all)]) | (refine fpure ?_; refine ⟨?_, rfl⟩; rw [fidx_miss (v := u) (by omega) hk])
  ·
   try simp only [decide_eq_true_eq, decide_eq_false_iff_not, Bool.not_eq_true', Bool.not_eq_false', beq_iff_eq, beq_eq_false_iff_ne, ne_eq] at h2
   refine at_skip rfl ?_
   refine blk_n ?_
   refine then_n ?_
   refine rg rfl ?_
   refine Rq ?_
   refine Rq ?_
   have tr : ∀ a b c d e f g h i j : AV, let l := lc_index64 a b c d e f g h; trim ((8,j)::(18,i)::l) l = [(0,a),(1,b),(4,c),(5,d),(7,e),(8,j),(9,g),(16,h)] := by intros; rfl
   refine R_nil (tr ..) ?_; clear tr
   refine then_n ?_
   exact ⟨_, _, ⟨u + 1, _, _, _, _, rfl, rfl, rfl, by omega, by exact all_step hk (by simp_all)⟩, by rfl, by omega⟩
 ·
  try simp only [decide_eq_true_eq, decide_eq_false_iff_not, Bool.not_eq_true', Bool.not_eq_false', beq_iff_eq, beq_eq_false_iff_ne, ne_eq] at h1
  refine at_exit rfl ?_
  refine then_x ?_
  refine then_x ?_
  refine blk_x ?_
  refine then_n ?_
  refine at_seq rfl ?_
  refine rg rfl ?_
  refine Rq ?_
  have tr : ∀ a b c d e f g h i : AV, let l := lc_index64 a b c d e f g h; trim ((4,i)::l) l = [(0,a),(1,b),(4,i),(5,d),(7,e),(8,f),(9,g),(16,h)] := by intros; rfl
  refine R_nil (tr ..) ?_; clear tr
  refine then_n ?_
  refine at_ret rfl ?_
  first | (refine fpure ?_; refine ⟨?_, rfl⟩; rw [fidx_hit (v := u) (by omega) hk (by simp_all)]) | (refine fpure ?_; refine ⟨?_, rfl⟩; rw [fidx_miss (v := u) (by omega) hk])

abbrev lc_indexI (a b c d e f g h : AV) : Env := [(0,a),(1,b),(4,c),(5,d),(7,e),(8,f),(9,g),(16,h)]
theorem indexI (lim : Nat) (H : Heap) (l : List Int) (v : Int) (hl : l.length ≤ 1000000) : ACall sig lim 17 [intsAV l, AV.i v] H fun r H' => r = AV.i (fidx (fun u => v == gt l u) l.length) ∧ H' = H := by
 refine ACall_pure (fa := fa17) rfl rfl rfl rfl ?_
 have tr : ∀ a0 a1 : AV, env0 fa17.keep [a0, a1] = [(0,a0),(1,a1),(4,.any),(5,.any),(7,.any),(8,.any),(9,.any),(16,.any)] := fun a0 a1 => rfl
 refine W_to (tr _ _) ?_; clear tr
 refine at_seq rfl ?_
 refine rg rfl ?_
 refine Rq ?_
 have tr : ∀ a b c d e f g h i : AV, let l := lc_indexI a b c d e f g h; trim ((4,i)::l) l = [(0,a),(1,b),(4,i),(5,d),(7,e),(8,f),(9,g),(16,h)] := by intros; rfl
 refine R_nil (tr ..) ?_; clear tr
 refine then_n ?_
 refine at_seq rfl ?_
 refine at_seq rfl ?_
 refine rg rfl ?_
 refine Rq ?_
 refine Rq ?_
 refine Rq ?_
 have tr : ∀ a b c d e f g h i j k : AV, let l := lc_indexI a b c d e f g h; trim ((8,k)::(7,j)::(6,i)::l) l = [(0,a),(1,b),(4,c),(5,d),(7,j),(8,k),(9,g),(16,h)] := by intros; rfl
 refine R_nil (tr ..) ?_; clear tr
 refine then_n ?_
 refine at_block rfl ?_
 refine loop_n rfl (fun mm kv H' => ∃ u : Nat, ∃ x4 x5 x9 x16 : AV, (kv = [(4, x4), (5, x5), (8, AV.i u), (9, x9), (16, x16)]) ∧ (mm = l.length - u) ∧ (H' = H) ∧ (u ≤ l.length) ∧ (∀ k, k < u → (fun u => v == gt l u) k = false)) ⟨0, _, _, _, _, rfl, rfl, rfl, by omega, by intro k hk; omega⟩ (by rfl) ?_
 rintro mm kv H' ⟨u, x4, x5, x9, x16, rfl, rfl, rfl, hu, hk⟩
 have tr : ∀ a b c d e f g h i j k m n : AV, upd [(0,a),(1,b),(4,c),(5,d),(7,e),(8,f),(9,g),(16,h)] [(4,i),(5,j),(8,k),(9,m),(16,n)] = [(0,a),(1,b),(4,i),(5,j),(7,e),(8,k),(9,m),(16,n)] := by intros; rfl
 refine W_to (tr ..) ?_; clear tr
 refine at_seq rfl ?_
 refine rg rfl ?_
 refine Rq ?_
 have tr : ∀ a b c d e f g h i : AV, let l := lc_indexI a b c d e f g h; trim ((9,i)::l) l = [(0,a),(1,b),(4,c),(5,d),(7,e),(8,f),(9,i),(16,h)] := by intros; rfl
 refine R_nil (tr ..) ?_; clear tr
 refine then_n ?_
 refine at_seq rfl ?_
 refine cdd (fun h1 => ?_) (fun h1 => ?_)
 ·
  try simp only [decide_eq_true_eq, decide_eq_false_iff_not, Bool.not_eq_true', Bool.not_eq_false', beq_iff_eq, beq_eq_false_iff_ne, ne_eq] at h1
  refine at_skip rfl ?_
  refine then_n ?_
  refine at_seq rfl ?_
  refine at_block rfl ?_
  refine at_seq rfl ?_
  refine rg rfl ?_
  refine Rq ?_
  refine Rq ?_
  have tr : ∀ a b c d e f g h i j : AV, let l := lc_indexI a b c d e f g h; trim ((5,j)::(10,i)::l) l = [(0,a),(1,b),(4,c),(5,j),(7,e),(8,f),(9,g),(16,h)] := by intros; rfl
  refine R_nil (tr ..) ?_; clear tr
  refine then_n ?_
  refine at_seq rfl ?_
  refine rg rfl ?_
  refine Rq ?_
  refine Rq ?_
  refine Rq ?_
  refine Rq ?_
  refine Rq ?_
  refine Rq ?_
  have tr : ∀ a b c d e f g h i j k m n o : AV, let l := lc_indexI a b c d e f g h; trim ((16,o)::(15,n)::(14,m)::(13,k)::(12,j)::(11,i)::l) l = [(0,a),(1,b),(4,c),(5,d),(7,e),(8,f),(9,g),(16,o)] := by intros; rfl
  refine R_nil (tr ..) ?_; clear tr
  refine then_n ?_
  refine cdd (fun h2 => ?_) (fun h2 => ?_)
  ·
   try simp only [decide_eq_true_eq, decide_eq_false_iff_not, Bool.not_eq_true', Bool.not_eq_false', beq_iff_eq, beq_eq_false_iff_ne, ne_eq] at h2
   refine at_seq rfl ?_
   refine rg rfl ?_
   refine Rq ?_
   refine Rq ?_
   have tr : ∀ a b c d e f g h i j : AV, let l := lc_indexI a b c d e f g h; trim ((4,j)::(17,i)::l) l = [(0,a),(1,b),(4,j),(5,d),(7,e),(8,f),(9,g),(16,h)] := by intros; rfl
   refine R_nil (tr ..) ?_; clear tr
   refine then_n ?_
   refine at_ret rfl ?_
   refine blk_r ?_
   refine then_r ?_
   refine then_r ?_
   refine blk_r ?_
   refine then_r ?_
   first | (refine fpure ?_; refine ⟨?_, rfl⟩; rw [fidx_hit (v := u) (by omega) hk (by simp_all)]) | (refine fpure ?_; refine ⟨?_, rfl⟩; rw [fidx_miss (v := u) (by omega) hk])
  ·
   try simp only [decide_eq_true_eq, decide_eq_false_iff_not, Bool.not_eq_true', Bool.not_eq_false', beq_iff_eq, beq_eq_false_iff_ne, ne_eq] at h2
   refine at_skip rfl ?_
   refine blk_n ?_
   refine then_n ?_
   refine rg rfl ?_
   refine Rq ?_
   refine Rq ?_
   have tr : ∀ a b c d e f g h i j : AV, let l := lc_indexI a b c d e f g h; trim ((8,j)::(18,i)::l) l = [(0,a),(1,b),(4,c),(5,d),(7,e),(8,j),(9,g),(16,h)] := by intros; rfl
   refine R_nil (tr ..) ?_; clear tr
   refine then_n ?_
   exact ⟨_, _, ⟨u + 1, _, _, _, _, rfl, rfl, rfl, by omega, by exact all_step hk (by simp_all)⟩, by rfl, by omega⟩
 ·
  try simp only [decide_eq_true_eq, decide_eq_false_iff_not, Bool.not_eq_true', Bool.not_eq_false', beq_iff_eq, beq_eq_false_iff_ne, ne_eq] at h1
  refine at_exit rfl ?_
  refine then_x ?_
  refine then_x ?_
  refine blk_x ?_
  refine then_n ?_
  refine at_seq rfl ?_
  refine rg rfl ?_
  refine Rq ?_
  have tr : ∀ a b c d e f g h i : AV, let l := lc_indexI a b c d e f g h; trim ((4,i)::l) l = [(0,a),(1,b),(4,i),(5,d),(7,e),(8,f),(9,g),(16,h)] := by intros; rfl
  refine R_nil (tr ..) ?_; clear tr
  refine then_n ?_
  refine at_ret rfl ?_
  first | (refine fpure ?_; refine ⟨?_, rfl⟩; rw [fidx_hit (v := u) (by omega) hk (by simp_all)]) | (refine fpure ?_; refine ⟨?_, rfl⟩; rw [fidx_miss (v := u) (by omega) hk])

abbrev lc_cont64 (a b c : AV) : Env := [(0,a),(1,b),(4,c)]
theorem cont64 (lim : Nat) (H : Heap) (l : List Int) (v : Int) (hl : l.length ≤ 1000000) : ACall sig lim 5 [intsAV l, AV.i v] H fun r H' => r = .v (.bool (l.contains v)) ∧ H' = H := by
 refine ACall_pure (fa := fa5) rfl rfl rfl rfl ?_
 have tr : ∀ a0 a1 : AV, env0 fa5.keep [a0, a1] = [(0,a0),(1,a1),(4,.any)] := fun a0 a1 => rfl
 refine W_to (tr _ _) ?_; clear tr
 refine at_seq rfl ?_
 refine rg rfl ?_
 refine Rq ?_
 have tr : ∀ a b c d : AV, let l := lc_cont64 a b c; trim ((4,d)::l) l = [(0,a),(1,b),(4,d)] := by intros; rfl
 refine R_nil (tr ..) ?_; clear tr
 refine then_n ?_
 refine at_seq rfl ?_
 refine rg rfl ?_
 refine Rq ?_
 refine Rq ?_
 refine Rcall ?_
 refine ACall_eq (index64 _ _ l v hl) ?_
 refine Rq ?_
 refine Rq ?_
 have tr : ∀ a b c d e f g h : AV, let l := lc_cont64 a b c; trim ((4,h)::(8,g)::(7,f)::(6,e)::(5,d)::l) l = [(0,a),(1,b),(4,h)] := by intros; rfl
 refine R_nil (tr ..) ?_; clear tr
 refine then_n ?_
 refine at_ret rfl ?_
 refine fpure ?_
 refine ⟨?_, rfl⟩
 rw [← fidx_ge]

abbrev lc_contI (a b c : AV) : Env := [(0,a),(1,b),(4,c)]
theorem contI (lim : Nat) (H : Heap) (l : List Int) (v : Int) (hl : l.length ≤ 1000000) : ACall sig lim 8 [intsAV l, AV.i v] H fun r H' => r = .v (.bool (l.contains v)) ∧ H' = H := by
 refine ACall_pure (fa := fa8) rfl rfl rfl rfl ?_
 have tr : ∀ a0 a1 : AV, env0 fa8.keep [a0, a1] = [(0,a0),(1,a1),(4,.any)] := fun a0 a1 => rfl
 refine W_to (tr _ _) ?_; clear tr
 refine at_seq rfl ?_
 refine rg rfl ?_
 refine Rq ?_
 have tr : ∀ a b c d : AV, let l := lc_contI a b c; trim ((4,d)::l) l = [(0,a),(1,b),(4,d)] := by intros; rfl
 refine R_nil (tr ..) ?_; clear tr
 refine then_n ?_
 refine at_seq rfl ?_
 refine rg rfl ?_
 refine Rq ?_
 refine Rq ?_
 refine Rcall ?_
 refine ACall_eq (indexI _ _ l v hl) ?_
 refine Rq ?_
 refine Rq ?_
 have tr : ∀ a b c d e f g h : AV, let l := lc_contI a b c; trim ((4,h)::(8,g)::(7,f)::(6,e)::(5,d)::l) l = [(0,a),(1,b),(4,h)] := by intros; rfl
 refine R_nil (tr ..) ?_; clear tr
 refine then_n ?_
 refine at_ret rfl ?_
 refine fpure ?_
 refine ⟨?_, rfl⟩
 rw [← fidx_ge]

end Go.Proofs.Ytcnleglfdnhagaa
