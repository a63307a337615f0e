/-
  Texts of AttackCosts, part 8 of 17. Walks of chapters 46, 43 and 42. The steps are written by program (walk.py).
-/
import Derived.Test.YtplockpopmaejaaKAttackCosts5
import Derived.Test.YtplockpopmaejaaKAttackCosts6
section
set_option linter.unusedSimpArgs false
set_option linter.unusedVariables false
set_option maxHeartbeats 40000000
set_option maxRecDepth 4000
namespace Go.Proofs.Ytplockpopmaejaa
open Go Go.Am

abbrev lc_name_ok23 (a b c d e f g h i j : AV) : Env := [(0,a),(2,b),(3,c),(4,d),(5,e),(7,f),(8,g),(9,h),(10,i),(41,j)]
theorem name_ok23 (lim : Nat) (H : Heap) (s : ByteArray) (hs : s.size ≤ 9223372036854775807) :
    ACall sig lim 23 [.v (.string s)] H fun r H' => r = .v (.bool (nameS s)) ∧ H' = H := by
 refine ACall_pure (fa := fa23) rfl rfl rfl rfl ?_
 have tr : ∀ a0 : AV, env0 fa23.keep [a0] = [(0,a0),(2,.any),(3,.any),(4,.any),(5,.any),(7,.any),(8,.any),(9,.any),(10,.any),(41,.any)] := fun a0 => rfl
 refine W_to (tr _) ?_; clear tr
 refine at_seq rfl ?_
 refine rg rfl ?_
 refine Rq ?_
 have tr : ∀ a b c d e f g h i j k : AV, let l := lc_name_ok23 a b c d e f g h i j; trim ((2,k)::l) l = [(0,a),(2,k),(3,c),(4,d),(5,e),(7,f),(8,g),(9,h),(10,i),(41,j)] := by intros; rfl
 refine R_nil (tr ..) ?_; clear tr
 refine then_n ?_
 refine at_seq rfl ?_
 refine at_seq rfl ?_
 refine rg rfl ?_
 refine Rq ?_
 refine R_bytes (b := s) (cv70 s) rfl tk70 tk5u (by simp (disch := first | omega | (simp only [List.length_map, List.length_append, List.length_set, List.length_cons, List.length_nil]; omega)) only [go_sem, ↓reduceIte, Nat.reduceEqDiff, reduceCtorEq] <;> rfl) (by omega) ?_
 obtain ⟨BL, hBL⟩ : ∃ x, x = s.data.toList.map (fun c => AV.v (.int .u8 (c.toNat : Int))) := ⟨_, rfl⟩
 rw [← hBL]
 have hbl : ∀ i, i < s.size → BL[i]? = some (.v (.int .u8 (bt s i))) := fun i hi => by rw [hBL]; exact bt_ld s i hi
 refine Rq ?_
 refine Rq ?_
 have tr : ∀ a b c d e f g h i j k m n o : AV, let l := lc_name_ok23 a b c d e f g h i j; trim ((9,o)::(8,n)::(7,m)::(6,k)::l) l = [(0,a),(2,b),(3,c),(4,d),(5,e),(7,m),(8,n),(9,o),(10,i),(41,j)] := by intros; rfl
 refine R_nil (tr ..) ?_; clear tr
 refine then_n ?_
 refine at_block rfl ?_
 refine loop_n rfl (fun mm kv H' => ∃ u : Nat, ∃ x2 x3 x4 x5 x10 x41 : AV, (kv = [(2, x2), (3, x3), (4, x4), (5, x5), (9, AV.i u), (10, x10), (41, x41)]) ∧ (mm = s.size - u) ∧ (H' = H) ∧ (u ≤ s.size) ∧ (∀ i, i < u → ¬ badN s i)) ⟨0, _, _, _, _, _, _, rfl, rfl, rfl, by omega, by intro i hi; omega⟩ (by rfl) ?_
 rintro mm kv H' ⟨u, x2, x3, x4, x5, x10, x41, rfl, rfl, rfl, hu, hok⟩
 have tr : ∀ a b c d e f g h i j k m n o p q r : AV, upd [(0,a),(2,b),(3,c),(4,d),(5,e),(7,f),(8,g),(9,h),(10,i),(41,j)] [(2,k),(3,m),(4,n),(5,o),(9,p),(10,q),(41,r)] = [(0,a),(2,k),(3,m),(4,n),(5,o),(7,f),(8,g),(9,p),(10,q),(41,r)] := by intros; rfl
 refine W_to (tr ..) ?_; clear tr
 refine at_seq rfl ?_
 refine rg rfl ?_
 refine Rq ?_
 have tr : ∀ a b c d e f g h i j k : AV, let l := lc_name_ok23 a b c d e f g h i j; trim ((10,k)::l) l = [(0,a),(2,b),(3,c),(4,d),(5,e),(7,f),(8,g),(9,h),(10,k),(41,j)] := by intros; rfl
 refine R_nil (tr ..) ?_; clear tr
 refine then_n ?_
 refine at_seq rfl ?_
 refine cdd (fun h1 => ?_) (fun h1 => ?_)
 ·
  try simp only [decide_eq_true_eq, decide_eq_false_iff_not, Bool.not_eq_true', Bool.not_eq_false', beq_iff_eq, beq_eq_false_iff_ne, ne_eq] at h1
  refine at_skip rfl ?_
  refine then_n ?_
  refine at_seq rfl ?_
  refine at_block rfl ?_
  refine at_seq rfl ?_
  refine rg rfl ?_
  refine Rq ?_
  refine Rq ?_
  have hbu := hbl u (by omega)
  refine R_q rfl (by simp (disch := first | omega | (simp only [List.length_map, List.length_append, List.length_set, List.length_cons, List.length_nil]; omega)) only [go_sem, ↓reduceIte, Nat.reduceEqDiff, reduceCtorEq, hbu] <;> rfl) ?_
  refine Rq ?_
  refine Rq ?_
  have tr : ∀ a b c d e f g h i j k m n o p : AV, let l := lc_name_ok23 a b c d e f g h i j; trim ((4,p)::(3,o)::(13,n)::(12,m)::(11,k)::l) l = [(0,a),(2,b),(3,o),(4,p),(5,e),(7,f),(8,g),(9,h),(10,i),(41,j)] := by intros; rfl
  refine R_nil (tr ..) ?_; clear tr
  refine then_n ?_
  refine at_seq rfl ?_
  refine rg rfl ?_
  refine Rq ?_
  refine Rq ?_
  refine Rq ?_
  refine Rp_split (fun h2 => ?_) (fun h2 => ?_)
  ·
   try simp only [decide_eq_true_eq, decide_eq_false_iff_not, Bool.not_eq_true', Bool.not_eq_false', beq_iff_eq, beq_eq_false_iff_ne, ne_eq] at h2
   refine Ry ?_
   refine Rq ?_
   refine Ry ?_
   refine Rq ?_
   refine Rq ?_
   refine Rq ?_
   have tr : ∀ a b c d e f g h i j k m n o p q r : AV, let l := lc_name_ok23 a b c d e f g h i j; trim ((5,r)::(19,q)::(18,p)::(17,o)::(16,n)::(15,m)::(14,k)::l) l = [(0,a),(2,b),(3,c),(4,d),(5,r),(7,f),(8,g),(9,h),(10,i),(41,j)] := by intros; rfl
   refine R_nil (tr ..) ?_; clear tr
   refine then_n ?_
   refine at_seq rfl ?_
   refine rg rfl ?_
   refine Rq ?_
   refine Rq ?_
   refine Rq ?_
   refine Rp_split (fun h3 => ?_) (fun h3 => ?_)
   ·
    try simp only [decide_eq_true_eq, decide_eq_false_iff_not, Bool.not_eq_true', Bool.not_eq_false', beq_iff_eq, beq_eq_false_iff_ne, ne_eq] at h3
    refine Ry ?_
    refine Rq ?_
    refine Ry ?_
    refine Rq ?_
    refine Ry ?_
    refine Rq ?_
    refine Rp_split (fun h4 => ?_) (fun h4 => ?_)
    ·
     try simp only [decide_eq_true_eq, decide_eq_false_iff_not, Bool.not_eq_true', Bool.not_eq_false', beq_iff_eq, beq_eq_false_iff_ne, ne_eq] at h4
     refine Rn ?_
     refine Rn ?_
     refine Rn ?_
     refine Ru ?_
     refine Ru ?_
     refine Rn ?_
     refine Rn ?_
     refine Ru ?_
     refine Ru ?_
     refine Ru ?_
     refine Ru ?_
     refine Ru ?_
     refine Ru ?_
     refine Rn ?_
     refine Ry ?_
     refine Rq ?_
     refine Rq ?_
     have tr : ∀ a b c d e f g h i j k m n o p q r s t u v w x y z A B C D E F G : AV, let l := lc_name_ok23 a b c d e f g h i j; trim ((41,G)::(40,F)::(39,E)::(38,D)::(37,C)::(36,B)::(35,A)::(34,z)::(33,y)::(32,x)::(31,w)::(30,v)::(29,u)::(28,t)::(27,s)::(26,r)::(25,q)::(24,p)::(23,o)::(22,n)::(21,m)::(20,k)::l) l = [(0,a),(2,b),(3,c),(4,d),(5,e),(7,f),(8,g),(9,h),(10,i),(41,G)] := by intros; rfl
     refine R_nil (tr ..) ?_; clear tr
     refine then_n ?_
     refine cdt ?_
     refine at_seq rfl ?_
     refine rg rfl ?_
     refine Rq ?_
     have tr : ∀ a b c d e f g h i j k : AV, let l := lc_name_ok23 a b c d e f g h i j; trim ((2,k)::l) l = [(0,a),(2,k),(3,c),(4,d),(5,e),(7,f),(8,g),(9,h),(10,i),(41,j)] := by intros; rfl
     refine R_nil (tr ..) ?_; clear tr
     refine then_n ?_
     refine at_ret rfl ?_
     refine blk_r ?_
     refine then_r ?_
     refine then_r ?_
     refine blk_r ?_
     refine then_r ?_
     first | (refine fpure ?_; refine ⟨?_, rfl⟩; rw [name_bad (i := u) (by omega) (by unfold badN; omega)]) | (refine fpure ?_; refine ⟨?_, rfl⟩; by_cases h16 : s.size ≤ 16 <;> first | (rw [name_ok (by omega) (by omega) (fun i hi => hok i (by omega))]; done) | (rw [name_ok (by omega) (by omega) (fun i hi => hok i (by omega))]; exact congrArg (fun z => AV.v (.bool z)) (decide_eq_true (by omega))) | (rw [name_len (by omega)]; done) | (rw [name_len (by omega)]; exact congrArg (fun z => AV.v (.bool z)) (decide_eq_false (by omega))))
    ·
     try simp only [decide_eq_true_eq, decide_eq_false_iff_not, Bool.not_eq_true', Bool.not_eq_false', beq_iff_eq, beq_eq_false_iff_ne, ne_eq] at h4
     refine Ry ?_
     refine Rq ?_
     refine Ry ?_
     refine Rq ?_
     refine Ry ?_
     refine Rq ?_
     refine Rp_split (fun h5 => ?_) (fun h5 => ?_)
     ·
      try simp only [decide_eq_true_eq, decide_eq_false_iff_not, Bool.not_eq_true', Bool.not_eq_false', beq_iff_eq, beq_eq_false_iff_ne, ne_eq] at h5
      refine Ry ?_
      refine Rq ?_
      refine Ry ?_
      refine Rq ?_
      refine Ry ?_
      refine Rq ?_
      refine Ry ?_
      refine Rq ?_
      refine Rp_split (fun h6 => ?_) (fun h6 => ?_)
      ·
       try simp only [decide_eq_true_eq, decide_eq_false_iff_not, Bool.not_eq_true', Bool.not_eq_false', beq_iff_eq, beq_eq_false_iff_ne, ne_eq] at h6
       refine Ry ?_
       refine Rq ?_
       refine Ry ?_
       refine Rq ?_
       refine Ry ?_
       refine Rq ?_
       refine Rp_split (fun h7 => ?_) (fun h7 => ?_)
       ·
        try simp only [decide_eq_true_eq, decide_eq_false_iff_not, Bool.not_eq_true', Bool.not_eq_false', beq_iff_eq, beq_eq_false_iff_ne, ne_eq] at h7
        refine Rn ?_
        refine Rn ?_
        refine Ry ?_
        refine Rq ?_
        refine Ry ?_
        refine Rq ?_
        refine Ry ?_
        refine Rq ?_
        refine Rq ?_
        have tr : ∀ a b c d e f g h i j k m n o p q r s t u v w x y z A B C D E F G : AV, let l := lc_name_ok23 a b c d e f g h i j; trim ((41,G)::(40,F)::(39,E)::(38,D)::(37,C)::(36,B)::(35,A)::(34,z)::(33,y)::(32,x)::(31,w)::(30,v)::(29,u)::(28,t)::(27,s)::(26,r)::(25,q)::(24,p)::(23,o)::(22,n)::(21,m)::(20,k)::l) l = [(0,a),(2,b),(3,c),(4,d),(5,e),(7,f),(8,g),(9,h),(10,i),(41,G)] := by intros; rfl
        refine R_nil (tr ..) ?_; clear tr
        refine then_n ?_
        refine cdt ?_
        refine at_seq rfl ?_
        refine rg rfl ?_
        refine Rq ?_
        have tr : ∀ a b c d e f g h i j k : AV, let l := lc_name_ok23 a b c d e f g h i j; trim ((2,k)::l) l = [(0,a),(2,k),(3,c),(4,d),(5,e),(7,f),(8,g),(9,h),(10,i),(41,j)] := by intros; rfl
        refine R_nil (tr ..) ?_; clear tr
        refine then_n ?_
        refine at_ret rfl ?_
        refine blk_r ?_
        refine then_r ?_
        refine then_r ?_
        refine blk_r ?_
        refine then_r ?_
        first | (refine fpure ?_; refine ⟨?_, rfl⟩; rw [name_bad (i := u) (by omega) (by unfold badN; omega)]) | (refine fpure ?_; refine ⟨?_, rfl⟩; by_cases h16 : s.size ≤ 16 <;> first | (rw [name_ok (by omega) (by omega) (fun i hi => hok i (by omega))]; done) | (rw [name_ok (by omega) (by omega) (fun i hi => hok i (by omega))]; exact congrArg (fun z => AV.v (.bool z)) (decide_eq_true (by omega))) | (rw [name_len (by omega)]; done) | (rw [name_len (by omega)]; exact congrArg (fun z => AV.v (.bool z)) (decide_eq_false (by omega))))
       ·
        try simp only [decide_eq_true_eq, decide_eq_false_iff_not, Bool.not_eq_true', Bool.not_eq_false', beq_iff_eq, beq_eq_false_iff_ne, ne_eq] at h7
        refine Ry ?_
        refine Rq ?_
        refine Ry ?_
        refine Rq ?_
        refine Ry ?_
        refine Rq ?_
        refine Ry ?_
        refine Rq ?_
        refine Ry ?_
        refine Rq ?_
        refine Rq ?_
        have tr : ∀ a b c d e f g h i j k m n o p q r s t u v w x y z A B C D E F G : AV, let l := lc_name_ok23 a b c d e f g h i j; trim ((41,G)::(40,F)::(39,E)::(38,D)::(37,C)::(36,B)::(35,A)::(34,z)::(33,y)::(32,x)::(31,w)::(30,v)::(29,u)::(28,t)::(27,s)::(26,r)::(25,q)::(24,p)::(23,o)::(22,n)::(21,m)::(20,k)::l) l = [(0,a),(2,b),(3,c),(4,d),(5,e),(7,f),(8,g),(9,h),(10,i),(41,G)] := by intros; rfl
        refine R_nil (tr ..) ?_; clear tr
        refine then_n ?_
        refine cdd (fun h8 => ?_) (fun h8 => ?_)
        ·
         try simp only [decide_eq_true_eq, decide_eq_false_iff_not, Bool.not_eq_true', Bool.not_eq_false', beq_iff_eq, beq_eq_false_iff_ne, ne_eq] at h8
         refine at_seq rfl ?_
         refine rg rfl ?_
         refine Rq ?_
         have tr : ∀ a b c d e f g h i j k : AV, let l := lc_name_ok23 a b c d e f g h i j; trim ((2,k)::l) l = [(0,a),(2,k),(3,c),(4,d),(5,e),(7,f),(8,g),(9,h),(10,i),(41,j)] := by intros; rfl
         refine R_nil (tr ..) ?_; clear tr
         refine then_n ?_
         refine at_ret rfl ?_
         refine blk_r ?_
         refine then_r ?_
         refine then_r ?_
         refine blk_r ?_
         refine then_r ?_
         first | (refine fpure ?_; refine ⟨?_, rfl⟩; rw [name_bad (i := u) (by omega) (by unfold badN; omega)]) | (refine fpure ?_; refine ⟨?_, rfl⟩; by_cases h16 : s.size ≤ 16 <;> first | (rw [name_ok (by omega) (by omega) (fun i hi => hok i (by omega))]; done) | (rw [name_ok (by omega) (by omega) (fun i hi => hok i (by omega))]; exact congrArg (fun z => AV.v (.bool z)) (decide_eq_true (by omega))) | (rw [name_len (by omega)]; done) | (rw [name_len (by omega)]; exact congrArg (fun z => AV.v (.bool z)) (decide_eq_false (by omega))))
        ·
         try simp only [decide_eq_true_eq, decide_eq_false_iff_not, Bool.not_eq_true', Bool.not_eq_false', beq_iff_eq, beq_eq_false_iff_ne, ne_eq] at h8
         refine at_skip rfl ?_
         refine blk_n ?_
         refine then_n ?_
         refine rg rfl ?_
         refine Rq ?_
         refine Rq ?_
         have tr : ∀ a b c d e f g h i j k m : AV, let l := lc_name_ok23 a b c d e f g h i j; trim ((9,m)::(42,k)::l) l = [(0,a),(2,b),(3,c),(4,d),(5,e),(7,f),(8,g),(9,m),(10,i),(41,j)] := by intros; rfl
         refine R_nil (tr ..) ?_; clear tr
         refine then_n ?_
         exact ⟨_, _, ⟨u + 1, _, _, _, _, _, _, rfl, rfl, rfl, by omega, by exact all_step hok (by unfold badN; omega)⟩, by rfl, by omega⟩
      ·
       try simp only [decide_eq_true_eq, decide_eq_false_iff_not, Bool.not_eq_true', Bool.not_eq_false', beq_iff_eq, beq_eq_false_iff_ne, ne_eq] at h6
       refine Rn ?_
       refine Rn ?_
       refine Rn ?_
       refine Ru ?_
       refine Ru ?_
       refine Rn ?_
       refine Ry ?_
       refine Rq ?_
       refine Ry ?_
       refine Rq ?_
       refine Rq ?_
       have tr : ∀ a b c d e f g h i j k m n o p q r s t u v w x y z A B C D E F G : AV, let l := lc_name_ok23 a b c d e f g h i j; trim ((41,G)::(40,F)::(39,E)::(38,D)::(37,C)::(36,B)::(35,A)::(34,z)::(33,y)::(32,x)::(31,w)::(30,v)::(29,u)::(28,t)::(27,s)::(26,r)::(25,q)::(24,p)::(23,o)::(22,n)::(21,m)::(20,k)::l) l = [(0,a),(2,b),(3,c),(4,d),(5,e),(7,f),(8,g),(9,h),(10,i),(41,G)] := by intros; rfl
       refine R_nil (tr ..) ?_; clear tr
       refine then_n ?_
       refine cdf ?_
       refine at_skip rfl ?_
       refine blk_n ?_
       refine then_n ?_
       refine rg rfl ?_
       refine Rq ?_
       refine Rq ?_
       have tr : ∀ a b c d e f g h i j k m : AV, let l := lc_name_ok23 a b c d e f g h i j; trim ((9,m)::(42,k)::l) l = [(0,a),(2,b),(3,c),(4,d),(5,e),(7,f),(8,g),(9,m),(10,i),(41,j)] := by intros; rfl
       refine R_nil (tr ..) ?_; clear tr
       refine then_n ?_
       exact ⟨_, _, ⟨u + 1, _, _, _, _, _, _, rfl, rfl, rfl, by omega, by exact all_step hok (by unfold badN; omega)⟩, by rfl, by omega⟩
     ·
      try simp only [decide_eq_true_eq, decide_eq_false_iff_not, Bool.not_eq_true', Bool.not_eq_false', beq_iff_eq, beq_eq_false_iff_ne, ne_eq] at h5
      refine Rn ?_
      refine Rn ?_
      refine Ry ?_
      refine Rq ?_
      refine Ry ?_
      refine Rq ?_
      refine Rn ?_
      refine Rn ?_
      refine Rn ?_
      refine Ru ?_
      refine Ru ?_
      refine Rn ?_
      refine Ry ?_
      refine Rq ?_
      refine Ry ?_
      refine Rq ?_
      refine Rq ?_
      have tr : ∀ a b c d e f g h i j k m n o p q r s t u v w x y z A B C D E F G : AV, let l := lc_name_ok23 a b c d e f g h i j; trim ((41,G)::(40,F)::(39,E)::(38,D)::(37,C)::(36,B)::(35,A)::(34,z)::(33,y)::(32,x)::(31,w)::(30,v)::(29,u)::(28,t)::(27,s)::(26,r)::(25,q)::(24,p)::(23,o)::(22,n)::(21,m)::(20,k)::l) l = [(0,a),(2,b),(3,c),(4,d),(5,e),(7,f),(8,g),(9,h),(10,i),(41,G)] := by intros; rfl
      refine R_nil (tr ..) ?_; clear tr
      refine then_n ?_
      refine cdf ?_
      refine at_skip rfl ?_
      refine blk_n ?_
      refine then_n ?_
      refine rg rfl ?_
      refine Rq ?_
      refine Rq ?_
      have tr : ∀ a b c d e f g h i j k m : AV, let l := lc_name_ok23 a b c d e f g h i j; trim ((9,m)::(42,k)::l) l = [(0,a),(2,b),(3,c),(4,d),(5,e),(7,f),(8,g),(9,m),(10,i),(41,j)] := by intros; rfl
      refine R_nil (tr ..) ?_; clear tr
      refine then_n ?_
      exact ⟨_, _, ⟨u + 1, _, _, _, _, _, _, rfl, rfl, rfl, by omega, by exact all_step hok (by unfold badN; omega)⟩, by rfl, by omega⟩
   ·
    try simp only [decide_eq_true_eq, decide_eq_false_iff_not, Bool.not_eq_true', Bool.not_eq_false', beq_iff_eq, beq_eq_false_iff_ne, ne_eq] at h3
    refine Rn ?_
    refine Rn ?_
    refine Rn ?_
    refine Ru ?_
    refine Ru ?_
    refine Ru ?_
    refine Ru ?_
    refine Ru ?_
    refine Ru ?_
    refine Ru ?_
    refine Ru ?_
    refine Ru ?_
    refine Ru ?_
    refine Ru ?_
    refine Ru ?_
    refine Ru ?_
    refine Ru ?_
    refine Rn ?_
    refine Rq ?_
    have tr : ∀ a b c d e f g h i j k m n o p q r s t u v w x y z A B C D E F G : AV, let l := lc_name_ok23 a b c d e f g h i j; trim ((41,G)::(40,F)::(39,E)::(38,D)::(37,C)::(36,B)::(35,A)::(34,z)::(33,y)::(32,x)::(31,w)::(30,v)::(29,u)::(28,t)::(27,s)::(26,r)::(25,q)::(24,p)::(23,o)::(22,n)::(21,m)::(20,k)::l) l = [(0,a),(2,b),(3,c),(4,d),(5,e),(7,f),(8,g),(9,h),(10,i),(41,G)] := by intros; rfl
    refine R_nil (tr ..) ?_; clear tr
    refine then_n ?_
    refine cdf ?_
    refine at_skip rfl ?_
    refine blk_n ?_
    refine then_n ?_
    refine rg rfl ?_
    refine Rq ?_
    refine Rq ?_
    have tr : ∀ a b c d e f g h i j k m : AV, let l := lc_name_ok23 a b c d e f g h i j; trim ((9,m)::(42,k)::l) l = [(0,a),(2,b),(3,c),(4,d),(5,e),(7,f),(8,g),(9,m),(10,i),(41,j)] := by intros; rfl
    refine R_nil (tr ..) ?_; clear tr
    refine then_n ?_
    exact ⟨_, _, ⟨u + 1, _, _, _, _, _, _, rfl, rfl, rfl, by omega, by exact all_step hok (by unfold badN; omega)⟩, by rfl, by omega⟩
  ·
   try simp only [decide_eq_true_eq, decide_eq_false_iff_not, Bool.not_eq_true', Bool.not_eq_false', beq_iff_eq, beq_eq_false_iff_ne, ne_eq] at h2
   refine Rn ?_
   refine Rn ?_
   refine Rq ?_
   refine Rq ?_
   have tr : ∀ a b c d e f g h i j k m n o p q r : AV, let l := lc_name_ok23 a b c d e f g h i j; trim ((5,r)::(19,q)::(18,p)::(17,o)::(16,n)::(15,m)::(14,k)::l) l = [(0,a),(2,b),(3,c),(4,d),(5,r),(7,f),(8,g),(9,h),(10,i),(41,j)] := by intros; rfl
   refine R_nil (tr ..) ?_; clear tr
   refine then_n ?_
   refine at_seq rfl ?_
   refine rg rfl ?_
   refine Rq ?_
   refine Rq ?_
   refine Rq ?_
   refine Ry ?_
   refine Rq ?_
   refine Ry ?_
   refine Rq ?_
   refine Ry ?_
   refine Rq ?_
   refine Rp_split (fun h9 => ?_) (fun h9 => ?_)
   ·
    try simp only [decide_eq_true_eq, decide_eq_false_iff_not, Bool.not_eq_true', Bool.not_eq_false', beq_iff_eq, beq_eq_false_iff_ne, ne_eq] at h9
    refine Rn ?_
    refine Rn ?_
    refine Rn ?_
    refine Ru ?_
    refine Ru ?_
    refine Rn ?_
    refine Rn ?_
    refine Ru ?_
    refine Ru ?_
    refine Ru ?_
    refine Ru ?_
    refine Ru ?_
    refine Ru ?_
    refine Rn ?_
    refine Ry ?_
    refine Rq ?_
    refine Rq ?_
    have tr : ∀ a b c d e f g h i j k m n o p q r s t u v w x y z A B C D E F G : AV, let l := lc_name_ok23 a b c d e f g h i j; trim ((41,G)::(40,F)::(39,E)::(38,D)::(37,C)::(36,B)::(35,A)::(34,z)::(33,y)::(32,x)::(31,w)::(30,v)::(29,u)::(28,t)::(27,s)::(26,r)::(25,q)::(24,p)::(23,o)::(22,n)::(21,m)::(20,k)::l) l = [(0,a),(2,b),(3,c),(4,d),(5,e),(7,f),(8,g),(9,h),(10,i),(41,G)] := by intros; rfl
    refine R_nil (tr ..) ?_; clear tr
    refine then_n ?_
    refine cdt ?_
    refine at_seq rfl ?_
    refine rg rfl ?_
    refine Rq ?_
    have tr : ∀ a b c d e f g h i j k : AV, let l := lc_name_ok23 a b c d e f g h i j; trim ((2,k)::l) l = [(0,a),(2,k),(3,c),(4,d),(5,e),(7,f),(8,g),(9,h),(10,i),(41,j)] := by intros; rfl
    refine R_nil (tr ..) ?_; clear tr
    refine then_n ?_
    refine at_ret rfl ?_
    refine blk_r ?_
    refine then_r ?_
    refine then_r ?_
    refine blk_r ?_
    refine then_r ?_
    first | (refine fpure ?_; refine ⟨?_, rfl⟩; rw [name_bad (i := u) (by omega) (by unfold badN; omega)]) | (refine fpure ?_; refine ⟨?_, rfl⟩; by_cases h16 : s.size ≤ 16 <;> first | (rw [name_ok (by omega) (by omega) (fun i hi => hok i (by omega))]; done) | (rw [name_ok (by omega) (by omega) (fun i hi => hok i (by omega))]; exact congrArg (fun z => AV.v (.bool z)) (decide_eq_true (by omega))) | (rw [name_len (by omega)]; done) | (rw [name_len (by omega)]; exact congrArg (fun z => AV.v (.bool z)) (decide_eq_false (by omega))))
   ·
    try simp only [decide_eq_true_eq, decide_eq_false_iff_not, Bool.not_eq_true', Bool.not_eq_false', beq_iff_eq, beq_eq_false_iff_ne, ne_eq] at h9
    refine Ry ?_
    refine Rq ?_
    refine Ry ?_
    refine Rq ?_
    refine Ry ?_
    refine Rq ?_
    refine Rp_split (fun h10 => ?_) (fun h10 => ?_)
    ·
     try simp only [decide_eq_true_eq, decide_eq_false_iff_not, Bool.not_eq_true', Bool.not_eq_false', beq_iff_eq, beq_eq_false_iff_ne, ne_eq] at h10
     refine Ry ?_
     refine Rq ?_
     refine Ry ?_
     refine Rq ?_
     refine Ry ?_
     refine Rq ?_
     refine Ry ?_
     refine Rq ?_
     refine Rp_split (fun h11 => ?_) (fun h11 => ?_)
     ·
      try simp only [decide_eq_true_eq, decide_eq_false_iff_not, Bool.not_eq_true', Bool.not_eq_false', beq_iff_eq, beq_eq_false_iff_ne, ne_eq] at h11
      refine Ry ?_
      refine Rq ?_
      refine Ry ?_
      refine Rq ?_
      refine Ry ?_
      refine Rq ?_
      refine Rp_split (fun h12 => ?_) (fun h12 => ?_)
      ·
       try simp only [decide_eq_true_eq, decide_eq_false_iff_not, Bool.not_eq_true', Bool.not_eq_false', beq_iff_eq, beq_eq_false_iff_ne, ne_eq] at h12
       refine Rn ?_
       refine Rn ?_
       refine Ry ?_
       refine Rq ?_
       refine Ry ?_
       refine Rq ?_
       refine Ry ?_
       refine Rq ?_
       refine Rq ?_
       have tr : ∀ a b c d e f g h i j k m n o p q r s t u v w x y z A B C D E F G : AV, let l := lc_name_ok23 a b c d e f g h i j; trim ((41,G)::(40,F)::(39,E)::(38,D)::(37,C)::(36,B)::(35,A)::(34,z)::(33,y)::(32,x)::(31,w)::(30,v)::(29,u)::(28,t)::(27,s)::(26,r)::(25,q)::(24,p)::(23,o)::(22,n)::(21,m)::(20,k)::l) l = [(0,a),(2,b),(3,c),(4,d),(5,e),(7,f),(8,g),(9,h),(10,i),(41,G)] := by intros; rfl
       refine R_nil (tr ..) ?_; clear tr
       refine then_n ?_
       refine cdt ?_
       refine at_seq rfl ?_
       refine rg rfl ?_
       refine Rq ?_
       have tr : ∀ a b c d e f g h i j k : AV, let l := lc_name_ok23 a b c d e f g h i j; trim ((2,k)::l) l = [(0,a),(2,k),(3,c),(4,d),(5,e),(7,f),(8,g),(9,h),(10,i),(41,j)] := by intros; rfl
       refine R_nil (tr ..) ?_; clear tr
       refine then_n ?_
       refine at_ret rfl ?_
       refine blk_r ?_
       refine then_r ?_
       refine then_r ?_
       refine blk_r ?_
       refine then_r ?_
       first | (refine fpure ?_; refine ⟨?_, rfl⟩; rw [name_bad (i := u) (by omega) (by unfold badN; omega)]) | (refine fpure ?_; refine ⟨?_, rfl⟩; by_cases h16 : s.size ≤ 16 <;> first | (rw [name_ok (by omega) (by omega) (fun i hi => hok i (by omega))]; done) | (rw [name_ok (by omega) (by omega) (fun i hi => hok i (by omega))]; exact congrArg (fun z => AV.v (.bool z)) (decide_eq_true (by omega))) | (rw [name_len (by omega)]; done) | (rw [name_len (by omega)]; exact congrArg (fun z => AV.v (.bool z)) (decide_eq_false (by omega))))
      ·
       try simp only [decide_eq_true_eq, decide_eq_false_iff_not, Bool.not_eq_true', Bool.not_eq_false', beq_iff_eq, beq_eq_false_iff_ne, ne_eq] at h12
       refine Ry ?_
       refine Rq ?_
       refine Ry ?_
       refine Rq ?_
       refine Ry ?_
       refine Rq ?_
       refine Ry ?_
       refine Rq ?_
       refine Ry ?_
       refine Rq ?_
       refine Rq ?_
       have tr : ∀ a b c d e f g h i j k m n o p q r s t u v w x y z A B C D E F G : AV, let l := lc_name_ok23 a b c d e f g h i j; trim ((41,G)::(40,F)::(39,E)::(38,D)::(37,C)::(36,B)::(35,A)::(34,z)::(33,y)::(32,x)::(31,w)::(30,v)::(29,u)::(28,t)::(27,s)::(26,r)::(25,q)::(24,p)::(23,o)::(22,n)::(21,m)::(20,k)::l) l = [(0,a),(2,b),(3,c),(4,d),(5,e),(7,f),(8,g),(9,h),(10,i),(41,G)] := by intros; rfl
       refine R_nil (tr ..) ?_; clear tr
       refine then_n ?_
       refine cdd (fun h13 => ?_) (fun h13 => ?_)
       ·
        try simp only [decide_eq_true_eq, decide_eq_false_iff_not, Bool.not_eq_true', Bool.not_eq_false', beq_iff_eq, beq_eq_false_iff_ne, ne_eq] at h13
        refine at_seq rfl ?_
        refine rg rfl ?_
        refine Rq ?_
        have tr : ∀ a b c d e f g h i j k : AV, let l := lc_name_ok23 a b c d e f g h i j; trim ((2,k)::l) l = [(0,a),(2,k),(3,c),(4,d),(5,e),(7,f),(8,g),(9,h),(10,i),(41,j)] := by intros; rfl
        refine R_nil (tr ..) ?_; clear tr
        refine then_n ?_
        refine at_ret rfl ?_
        refine blk_r ?_
        refine then_r ?_
        refine then_r ?_
        refine blk_r ?_
        refine then_r ?_
        first | (refine fpure ?_; refine ⟨?_, rfl⟩; rw [name_bad (i := u) (by omega) (by unfold badN; omega)]) | (refine fpure ?_; refine ⟨?_, rfl⟩; by_cases h16 : s.size ≤ 16 <;> first | (rw [name_ok (by omega) (by omega) (fun i hi => hok i (by omega))]; done) | (rw [name_ok (by omega) (by omega) (fun i hi => hok i (by omega))]; exact congrArg (fun z => AV.v (.bool z)) (decide_eq_true (by omega))) | (rw [name_len (by omega)]; done) | (rw [name_len (by omega)]; exact congrArg (fun z => AV.v (.bool z)) (decide_eq_false (by omega))))
       ·
        try simp only [decide_eq_true_eq, decide_eq_false_iff_not, Bool.not_eq_true', Bool.not_eq_false', beq_iff_eq, beq_eq_false_iff_ne, ne_eq] at h13
        refine at_skip rfl ?_
        refine blk_n ?_
        refine then_n ?_
        refine rg rfl ?_
        refine Rq ?_
        refine Rq ?_
        have tr : ∀ a b c d e f g h i j k m : AV, let l := lc_name_ok23 a b c d e f g h i j; trim ((9,m)::(42,k)::l) l = [(0,a),(2,b),(3,c),(4,d),(5,e),(7,f),(8,g),(9,m),(10,i),(41,j)] := by intros; rfl
        refine R_nil (tr ..) ?_; clear tr
        refine then_n ?_
        exact ⟨_, _, ⟨u + 1, _, _, _, _, _, _, rfl, rfl, rfl, by omega, by exact all_step hok (by unfold badN; omega)⟩, by rfl, by omega⟩
     ·
      try simp only [decide_eq_true_eq, decide_eq_false_iff_not, Bool.not_eq_true', Bool.not_eq_false', beq_iff_eq, beq_eq_false_iff_ne, ne_eq] at h11
      refine Rn ?_
      refine Rn ?_
      refine Rn ?_
      refine Ru ?_
      refine Ru ?_
      refine Rn ?_
      refine Ry ?_
      refine Rq ?_
      refine Ry ?_
      refine Rq ?_
      refine Rq ?_
      have tr : ∀ a b c d e f g h i j k m n o p q r s t u v w x y z A B C D E F G : AV, let l := lc_name_ok23 a b c d e f g h i j; trim ((41,G)::(40,F)::(39,E)::(38,D)::(37,C)::(36,B)::(35,A)::(34,z)::(33,y)::(32,x)::(31,w)::(30,v)::(29,u)::(28,t)::(27,s)::(26,r)::(25,q)::(24,p)::(23,o)::(22,n)::(21,m)::(20,k)::l) l = [(0,a),(2,b),(3,c),(4,d),(5,e),(7,f),(8,g),(9,h),(10,i),(41,G)] := by intros; rfl
      refine R_nil (tr ..) ?_; clear tr
      refine then_n ?_
      refine cdf ?_
      refine at_skip rfl ?_
      refine blk_n ?_
      refine then_n ?_
      refine rg rfl ?_
      refine Rq ?_
      refine Rq ?_
      have tr : ∀ a b c d e f g h i j k m : AV, let l := lc_name_ok23 a b c d e f g h i j; trim ((9,m)::(42,k)::l) l = [(0,a),(2,b),(3,c),(4,d),(5,e),(7,f),(8,g),(9,m),(10,i),(41,j)] := by intros; rfl
      refine R_nil (tr ..) ?_; clear tr
      refine then_n ?_
      exact ⟨_, _, ⟨u + 1, _, _, _, _, _, _, rfl, rfl, rfl, by omega, by exact all_step hok (by unfold badN; omega)⟩, by rfl, by omega⟩
    ·
     try simp only [decide_eq_true_eq, decide_eq_false_iff_not, Bool.not_eq_true', Bool.not_eq_false', beq_iff_eq, beq_eq_false_iff_ne, ne_eq] at h10
     refine Rn ?_
     refine Rn ?_
     refine Ry ?_
     refine Rq ?_
     refine Ry ?_
     refine Rq ?_
     refine Rn ?_
     refine Rn ?_
     refine Rn ?_
     refine Ru ?_
     refine Ru ?_
     refine Rn ?_
     refine Ry ?_
     refine Rq ?_
     refine Ry ?_
     refine Rq ?_
     refine Rq ?_
     have tr : ∀ a b c d e f g h i j k m n o p q r s t u v w x y z A B C D E F G : AV, let l := lc_name_ok23 a b c d e f g h i j; trim ((41,G)::(40,F)::(39,E)::(38,D)::(37,C)::(36,B)::(35,A)::(34,z)::(33,y)::(32,x)::(31,w)::(30,v)::(29,u)::(28,t)::(27,s)::(26,r)::(25,q)::(24,p)::(23,o)::(22,n)::(21,m)::(20,k)::l) l = [(0,a),(2,b),(3,c),(4,d),(5,e),(7,f),(8,g),(9,h),(10,i),(41,G)] := by intros; rfl
     refine R_nil (tr ..) ?_; clear tr
     refine then_n ?_
     refine cdf ?_
     refine at_skip rfl ?_
     refine blk_n ?_
     refine then_n ?_
     refine rg rfl ?_
     refine Rq ?_
     refine Rq ?_
     have tr : ∀ a b c d e f g h i j k m : AV, let l := lc_name_ok23 a b c d e f g h i j; trim ((9,m)::(42,k)::l) l = [(0,a),(2,b),(3,c),(4,d),(5,e),(7,f),(8,g),(9,m),(10,i),(41,j)] := by intros; rfl
     refine R_nil (tr ..) ?_; clear tr
     refine then_n ?_
     exact ⟨_, _, ⟨u + 1, _, _, _, _, _, _, rfl, rfl, rfl, by omega, by exact all_step hok (by unfold badN; omega)⟩, by rfl, by omega⟩
 ·
  try simp only [decide_eq_true_eq, decide_eq_false_iff_not, Bool.not_eq_true', Bool.not_eq_false', beq_iff_eq, beq_eq_false_iff_ne, ne_eq] at h1
  refine at_exit rfl ?_
  refine then_x ?_
  refine then_x ?_
  refine blk_x ?_
  refine then_n ?_
  refine at_seq rfl ?_
  refine rg rfl ?_
  refine Rq ?_
  refine Rq ?_
  refine Rq ?_
  refine Rq ?_
  refine Rp_split (fun h14 => ?_) (fun h14 => ?_)
  ·
   try simp only [decide_eq_true_eq, decide_eq_false_iff_not, Bool.not_eq_true', Bool.not_eq_false', beq_iff_eq, beq_eq_false_iff_ne, ne_eq] at h14
   refine Ry ?_
   refine Rq ?_
   refine Ry ?_
   refine Rq ?_
   refine Ry ?_
   refine Rq ?_
   refine Rq ?_
   refine Rq ?_
   have tr : ∀ a b c d e f g h i j k m n o p q r s t : AV, let l := lc_name_ok23 a b c d e f g h i j; trim ((2,t)::(50,s)::(49,r)::(48,q)::(47,p)::(46,o)::(45,n)::(44,m)::(43,k)::l) l = [(0,a),(2,t),(3,c),(4,d),(5,e),(7,f),(8,g),(9,h),(10,i),(41,j)] := by intros; rfl
   refine R_nil (tr ..) ?_; clear tr
   refine then_n ?_
   refine at_ret rfl ?_
   first | (refine fpure ?_; refine ⟨?_, rfl⟩; rw [name_bad (i := u) (by omega) (by unfold badN; omega)]) | (refine fpure ?_; refine ⟨?_, rfl⟩; by_cases h16 : s.size ≤ 16 <;> first | (rw [name_ok (by omega) (by omega) (fun i hi => hok i (by omega))]; done) | (rw [name_ok (by omega) (by omega) (fun i hi => hok i (by omega))]; exact congrArg (fun z => AV.v (.bool z)) (decide_eq_true (by omega))) | (rw [name_len (by omega)]; done) | (rw [name_len (by omega)]; exact congrArg (fun z => AV.v (.bool z)) (decide_eq_false (by omega))))
  ·
   try simp only [decide_eq_true_eq, decide_eq_false_iff_not, Bool.not_eq_true', Bool.not_eq_false', beq_iff_eq, beq_eq_false_iff_ne, ne_eq] at h14
   refine Rn ?_
   refine Rn ?_
   refine Rn ?_
   refine Rq ?_
   refine Rq ?_
   have tr : ∀ a b c d e f g h i j k m n o p q r s t : AV, let l := lc_name_ok23 a b c d e f g h i j; trim ((2,t)::(50,s)::(49,r)::(48,q)::(47,p)::(46,o)::(45,n)::(44,m)::(43,k)::l) l = [(0,a),(2,t),(3,c),(4,d),(5,e),(7,f),(8,g),(9,h),(10,i),(41,j)] := by intros; rfl
   refine R_nil (tr ..) ?_; clear tr
   refine then_n ?_
   refine at_ret rfl ?_
   first | (refine fpure ?_; refine ⟨?_, rfl⟩; rw [name_bad (i := u) (by omega) (by unfold badN; omega)]) | (refine fpure ?_; refine ⟨?_, rfl⟩; by_cases h16 : s.size ≤ 16 <;> first | (rw [name_ok (by omega) (by omega) (fun i hi => hok i (by omega))]; done) | (rw [name_ok (by omega) (by omega) (fun i hi => hok i (by omega))]; exact congrArg (fun z => AV.v (.bool z)) (decide_eq_true (by omega))) | (rw [name_len (by omega)]; done) | (rw [name_len (by omega)]; exact congrArg (fun z => AV.v (.bool z)) (decide_eq_false (by omega))))

abbrev lc_name_ok28 (a b c d e f g h : AV) : Env := [(0,a),(2,b),(3,c),(4,d),(11,e),(15,f),(26,g),(44,h)]
theorem name_ok28 (lim : Nat) (H : Heap) (s : ByteArray) (hs : s.size ≤ 9223372036854775807) :
    ACall sig lim 28 [.v (.string s)] H fun r H' => r = .v (.bool (nameS s)) ∧ H' = H := by
 refine ACall_pure (fa := fa28) rfl rfl rfl rfl ?_
 have tr : ∀ a0 : AV, env0 fa28.keep [a0] = [(0,a0),(2,.any),(3,.any),(4,.any),(11,.any),(15,.any),(26,.any),(44,.any)] := fun a0 => rfl
 refine W_to (tr _) ?_; clear tr
 refine at_seq rfl ?_
 refine rg rfl ?_
 refine Rq ?_
 have tr : ∀ a b c d e f g h i : AV, let l := lc_name_ok28 a b c d e f g h; trim ((2,i)::l) l = [(0,a),(2,i),(3,c),(4,d),(11,e),(15,f),(26,g),(44,h)] := by intros; rfl
 refine R_nil (tr ..) ?_; clear tr
 refine then_n ?_
 refine at_seq rfl ?_
 refine at_seq rfl ?_
 refine rg rfl ?_
 refine Rq ?_
 refine Rq ?_
 refine Rq ?_
 refine Rp_split (fun h1 => ?_) (fun h1 => ?_)
 ·
  try simp only [decide_eq_true_eq, decide_eq_false_iff_not, Bool.not_eq_true', Bool.not_eq_false', beq_iff_eq, beq_eq_false_iff_ne, ne_eq] at h1
  rw [str_e] at h1
  refine Rn ?_
  refine Rn ?_
  refine Rn ?_
  refine Rq ?_
  have tr : ∀ a b c d e f g h i j k m n o p : AV, let l := lc_name_ok28 a b c d e f g h; trim ((11,p)::(10,o)::(9,n)::(8,m)::(7,k)::(6,j)::(5,i)::l) l = [(0,a),(2,b),(3,c),(4,d),(11,p),(15,f),(26,g),(44,h)] := by intros; rfl
  refine R_nil (tr ..) ?_; clear tr
  refine then_n ?_
  refine cdt ?_
  refine at_seq rfl ?_
  refine rg rfl ?_
  refine Rq ?_
  have tr : ∀ a b c d e f g h i : AV, let l := lc_name_ok28 a b c d e f g h; trim ((2,i)::l) l = [(0,a),(2,i),(3,c),(4,d),(11,e),(15,f),(26,g),(44,h)] := by intros; rfl
  refine R_nil (tr ..) ?_; clear tr
  refine then_n ?_
  refine at_ret rfl ?_
  refine then_r ?_
  first | (refine fpure ?_; refine ⟨?_, rfl⟩; rw [name_bad (i := u) (by omega) (by unfold badN; omega)]) | (refine fpure ?_; refine ⟨?_, rfl⟩; by_cases h16 : s.size ≤ 16 <;> first | (rw [name_ok (by omega) (by omega) (fun i hi => hok i (by omega))]; done) | (rw [name_ok (by omega) (by omega) (fun i hi => hok i (by omega))]; exact congrArg (fun z => AV.v (.bool z)) (decide_eq_true (by omega))) | (rw [name_len (by omega)]; done) | (rw [name_len (by omega)]; exact congrArg (fun z => AV.v (.bool z)) (decide_eq_false (by omega))))
 ·
  try simp only [decide_eq_true_eq, decide_eq_false_iff_not, Bool.not_eq_true', Bool.not_eq_false', beq_iff_eq, beq_eq_false_iff_ne, ne_eq] at h1
  rw [str_e] at h1
  refine Ry ?_
  refine Rq ?_
  refine Ry ?_
  refine Rq ?_
  refine Ry ?_
  refine Rq ?_
  refine Rq ?_
  have tr : ∀ a b c d e f g h i j k m n o p : AV, let l := lc_name_ok28 a b c d e f g h; trim ((11,p)::(10,o)::(9,n)::(8,m)::(7,k)::(6,j)::(5,i)::l) l = [(0,a),(2,b),(3,c),(4,d),(11,p),(15,f),(26,g),(44,h)] := by intros; rfl
  refine R_nil (tr ..) ?_; clear tr
  refine then_n ?_
  refine cdd (fun h2 => ?_) (fun h2 => ?_)
  ·
   try simp only [decide_eq_true_eq, decide_eq_false_iff_not, Bool.not_eq_true', Bool.not_eq_false', beq_iff_eq, beq_eq_false_iff_ne, ne_eq] at h2
   refine at_seq rfl ?_
   refine rg rfl ?_
   refine Rq ?_
   have tr : ∀ a b c d e f g h i : AV, let l := lc_name_ok28 a b c d e f g h; trim ((2,i)::l) l = [(0,a),(2,i),(3,c),(4,d),(11,e),(15,f),(26,g),(44,h)] := by intros; rfl
   refine R_nil (tr ..) ?_; clear tr
   refine then_n ?_
   refine at_ret rfl ?_
   refine then_r ?_
   first | (refine fpure ?_; refine ⟨?_, rfl⟩; rw [name_bad (i := u) (by omega) (by unfold badN; omega)]) | (refine fpure ?_; refine ⟨?_, rfl⟩; by_cases h16 : s.size ≤ 16 <;> first | (rw [name_ok (by omega) (by omega) (fun i hi => hok i (by omega))]; done) | (rw [name_ok (by omega) (by omega) (fun i hi => hok i (by omega))]; exact congrArg (fun z => AV.v (.bool z)) (decide_eq_true (by omega))) | (rw [name_len (by omega)]; done) | (rw [name_len (by omega)]; exact congrArg (fun z => AV.v (.bool z)) (decide_eq_false (by omega))))
  ·
   try simp only [decide_eq_true_eq, decide_eq_false_iff_not, Bool.not_eq_true', Bool.not_eq_false', beq_iff_eq, beq_eq_false_iff_ne, ne_eq] at h2
   refine at_skip rfl ?_
   refine then_n ?_
   refine at_seq rfl ?_
   refine at_seq rfl ?_
   refine rg rfl ?_
   refine Rq ?_
   have tr : ∀ a b c d e f g h i : AV, let l := lc_name_ok28 a b c d e f g h; trim ((3,i)::l) l = [(0,a),(2,b),(3,i),(4,d),(11,e),(15,f),(26,g),(44,h)] := by intros; rfl
   refine R_nil (tr ..) ?_; clear tr
   refine then_n ?_
   refine at_block rfl ?_
   refine loop_n rfl (fun mm kv H' => ∃ u : Nat, ∃ x2 x4 x15 x26 x44 : AV, (kv = [(2, x2), (3, AV.i u), (4, x4), (15, x15), (26, x26), (44, x44)]) ∧ (mm = s.size - u) ∧ (H' = H) ∧ (u ≤ s.size) ∧ (∀ i, i < u → ¬ badN s i)) ⟨0, _, _, _, _, _, rfl, rfl, rfl, by omega, by intro i hi; omega⟩ (by rfl) ?_
   rintro mm kv H' ⟨u, x2, x4, x15, x26, x44, rfl, rfl, rfl, hu, hok⟩
   have tr : ∀ a b c d e f g h i j k m n o : AV, upd [(0,a),(2,b),(3,c),(4,d),(11,e),(15,f),(26,g),(44,h)] [(2,i),(3,j),(4,k),(15,m),(26,n),(44,o)] = [(0,a),(2,i),(3,j),(4,k),(11,e),(15,m),(26,n),(44,o)] := by intros; rfl
   refine W_to (tr ..) ?_; clear tr
   refine at_seq rfl ?_
   refine at_seq rfl ?_
   refine rg rfl ?_
   refine Rq ?_
   refine Rq ?_
   refine Rq ?_
   refine Rq ?_
   have tr : ∀ a b c d e f g h i j k m : AV, let l := lc_name_ok28 a b c d e f g h; trim ((15,m)::(14,k)::(13,j)::(12,i)::l) l = [(0,a),(2,b),(3,c),(4,d),(11,e),(15,m),(26,g),(44,h)] := by intros; rfl
   refine R_nil (tr ..) ?_; clear tr
   refine then_n ?_
   refine cdd (fun h3 => ?_) (fun h3 => ?_)
   ·
    try simp only [decide_eq_true_eq, decide_eq_false_iff_not, Bool.not_eq_true', Bool.not_eq_false', beq_iff_eq, beq_eq_false_iff_ne, ne_eq] at h3
    refine at_skip rfl ?_
    refine then_n ?_
    refine at_seq rfl ?_
    refine at_block rfl ?_
    refine at_seq rfl ?_
    refine rg rfl ?_
    refine Rq ?_
    refine Rq ?_
    refine R_q (r := .v (.int .u8 (bt s u))) rfl (by simp (disch := first | omega | (simp only [List.length_map, List.length_append, List.length_set, List.length_cons, List.length_nil]; omega)) only [go_sem, ↓reduceIte, Nat.reduceEqDiff, reduceCtorEq] <;> exact ix_str s u (by omega)) ?_
    refine Rq ?_
    have tr : ∀ a b c d e f g h i j k m : AV, let l := lc_name_ok28 a b c d e f g h; trim ((4,m)::(20,k)::(19,j)::(18,i)::l) l = [(0,a),(2,b),(3,c),(4,m),(11,e),(15,f),(26,g),(44,h)] := by intros; rfl
    refine R_nil (tr ..) ?_; clear tr
    refine then_n ?_
    refine at_seq rfl ?_
    refine at_seq rfl ?_
    refine rg rfl ?_
    refine Rq ?_
    refine Rq ?_
    refine Rq ?_
    refine Rp_split (fun h4 => ?_) (fun h4 => ?_)
    ·
     try simp only [decide_eq_true_eq, decide_eq_false_iff_not, Bool.not_eq_true', Bool.not_eq_false', beq_iff_eq, beq_eq_false_iff_ne, ne_eq] at h4
     refine Ry ?_
     refine Rq ?_
     refine Ry ?_
     refine Rq ?_
     refine Rq ?_
     have tr : ∀ a b c d e f g h i j k m n o : AV, let l := lc_name_ok28 a b c d e f g h; trim ((26,o)::(25,n)::(24,m)::(23,k)::(22,j)::(21,i)::l) l = [(0,a),(2,b),(3,c),(4,d),(11,e),(15,f),(26,o),(44,h)] := by intros; rfl
     refine R_nil (tr ..) ?_; clear tr
     refine then_n ?_
     refine cdd (fun h5 => ?_) (fun h5 => ?_)
     ·
      try simp only [decide_eq_true_eq, decide_eq_false_iff_not, Bool.not_eq_true', Bool.not_eq_false', beq_iff_eq, beq_eq_false_iff_ne, ne_eq] at h5
      refine at_exit rfl ?_
      refine then_x ?_
      refine blk_x ?_
      refine then_n ?_
      refine rg rfl ?_
      refine Rq ?_
      refine Rq ?_
      refine Rq ?_
      have tr : ∀ a b c d e f g h i j k : AV, let l := lc_name_ok28 a b c d e f g h; trim ((3,k)::(17,j)::(16,i)::l) l = [(0,a),(2,b),(3,k),(4,d),(11,e),(15,f),(26,g),(44,h)] := by intros; rfl
      refine R_nil (tr ..) ?_; clear tr
      refine then_n ?_
      exact ⟨_, _, ⟨u + 1, _, _, _, _, _, rfl, rfl, rfl, by omega, by exact all_step hok (by unfold badN; omega)⟩, by rfl, by omega⟩
     ·
      try simp only [decide_eq_true_eq, decide_eq_false_iff_not, Bool.not_eq_true', Bool.not_eq_false', beq_iff_eq, beq_eq_false_iff_ne, ne_eq] at h5
      refine at_skip rfl ?_
      refine then_n ?_
      refine at_seq rfl ?_
      refine rg rfl ?_
      refine Rq ?_
      refine Rq ?_
      refine Rq ?_
      refine Rp_split (fun h6 => ?_) (fun h6 => ?_)
      ·
       try simp only [decide_eq_true_eq, decide_eq_false_iff_not, Bool.not_eq_true', Bool.not_eq_false', beq_iff_eq, beq_eq_false_iff_ne, ne_eq] at h6
       refine Rn ?_
       refine Rn ?_
       refine Rn ?_
       refine Ru ?_
       refine Ru ?_
       refine Rn ?_
       refine Rn ?_
       refine Ru ?_
       refine Ru ?_
       refine Ru ?_
       refine Ru ?_
       refine Ru ?_
       refine Ru ?_
       refine Rn ?_
       refine Rq ?_
       have tr : ∀ a b c d e f g h i j k m n o p q r s t u v w x y z A : AV, let l := lc_name_ok28 a b c d e f g h; trim ((44,A)::(43,z)::(42,y)::(41,x)::(40,w)::(39,v)::(38,u)::(37,t)::(36,s)::(35,r)::(34,q)::(33,p)::(32,o)::(31,n)::(30,m)::(29,k)::(28,j)::(27,i)::l) l = [(0,a),(2,b),(3,c),(4,d),(11,e),(15,f),(26,g),(44,A)] := by intros; rfl
       refine R_nil (tr ..) ?_; clear tr
       refine then_n ?_
       refine cdt ?_
       refine at_seq rfl ?_
       refine rg rfl ?_
       refine Rq ?_
       have tr : ∀ a b c d e f g h i : AV, let l := lc_name_ok28 a b c d e f g h; trim ((2,i)::l) l = [(0,a),(2,i),(3,c),(4,d),(11,e),(15,f),(26,g),(44,h)] := by intros; rfl
       refine R_nil (tr ..) ?_; clear tr
       refine then_n ?_
       refine at_ret rfl ?_
       refine blk_r ?_
       refine then_r ?_
       refine then_r ?_
       refine blk_r ?_
       refine then_r ?_
       first | (refine fpure ?_; refine ⟨?_, rfl⟩; rw [name_bad (i := u) (by omega) (by unfold badN; omega)]) | (refine fpure ?_; refine ⟨?_, rfl⟩; by_cases h16 : s.size ≤ 16 <;> first | (rw [name_ok (by omega) (by omega) (fun i hi => hok i (by omega))]; done) | (rw [name_ok (by omega) (by omega) (fun i hi => hok i (by omega))]; exact congrArg (fun z => AV.v (.bool z)) (decide_eq_true (by omega))) | (rw [name_len (by omega)]; done) | (rw [name_len (by omega)]; exact congrArg (fun z => AV.v (.bool z)) (decide_eq_false (by omega))))
      ·
       try simp only [decide_eq_true_eq, decide_eq_false_iff_not, Bool.not_eq_true', Bool.not_eq_false', beq_iff_eq, beq_eq_false_iff_ne, ne_eq] at h6
       refine Ry ?_
       refine Rq ?_
       refine Ry ?_
       refine Rq ?_
       refine Ry ?_
       refine Rq ?_
       refine Rp_split (fun h7 => ?_) (fun h7 => ?_)
       ·
        try simp only [decide_eq_true_eq, decide_eq_false_iff_not, Bool.not_eq_true', Bool.not_eq_false', beq_iff_eq, beq_eq_false_iff_ne, ne_eq] at h7
        refine Ry ?_
        refine Rq ?_
        refine Ry ?_
        refine Rq ?_
        refine Ry ?_
        refine Rq ?_
        refine Ry ?_
        refine Rq ?_
        refine Rp_split (fun h8 => ?_) (fun h8 => ?_)
        ·
         try simp only [decide_eq_true_eq, decide_eq_false_iff_not, Bool.not_eq_true', Bool.not_eq_false', beq_iff_eq, beq_eq_false_iff_ne, ne_eq] at h8
         refine Ry ?_
         refine Rq ?_
         refine Ry ?_
         refine Rq ?_
         refine Ry ?_
         refine Rq ?_
         refine Rp_split (fun h9 => ?_) (fun h9 => ?_)
         ·
          try simp only [decide_eq_true_eq, decide_eq_false_iff_not, Bool.not_eq_true', Bool.not_eq_false', beq_iff_eq, beq_eq_false_iff_ne, ne_eq] at h9
          refine Rn ?_
          refine Rn ?_
          refine Ry ?_
          refine Rq ?_
          refine Ry ?_
          refine Rq ?_
          refine Rq ?_
          have tr : ∀ a b c d e f g h i j k m n o p q r s t u v w x y z A : AV, let l := lc_name_ok28 a b c d e f g h; trim ((44,A)::(43,z)::(42,y)::(41,x)::(40,w)::(39,v)::(38,u)::(37,t)::(36,s)::(35,r)::(34,q)::(33,p)::(32,o)::(31,n)::(30,m)::(29,k)::(28,j)::(27,i)::l) l = [(0,a),(2,b),(3,c),(4,d),(11,e),(15,f),(26,g),(44,A)] := by intros; rfl
          refine R_nil (tr ..) ?_; clear tr
          refine then_n ?_
          refine cdt ?_
          refine at_seq rfl ?_
          refine rg rfl ?_
          refine Rq ?_
          have tr : ∀ a b c d e f g h i : AV, let l := lc_name_ok28 a b c d e f g h; trim ((2,i)::l) l = [(0,a),(2,i),(3,c),(4,d),(11,e),(15,f),(26,g),(44,h)] := by intros; rfl
          refine R_nil (tr ..) ?_; clear tr
          refine then_n ?_
          refine at_ret rfl ?_
          refine blk_r ?_
          refine then_r ?_
          refine then_r ?_
          refine blk_r ?_
          refine then_r ?_
          first | (refine fpure ?_; refine ⟨?_, rfl⟩; rw [name_bad (i := u) (by omega) (by unfold badN; omega)]) | (refine fpure ?_; refine ⟨?_, rfl⟩; by_cases h16 : s.size ≤ 16 <;> first | (rw [name_ok (by omega) (by omega) (fun i hi => hok i (by omega))]; done) | (rw [name_ok (by omega) (by omega) (fun i hi => hok i (by omega))]; exact congrArg (fun z => AV.v (.bool z)) (decide_eq_true (by omega))) | (rw [name_len (by omega)]; done) | (rw [name_len (by omega)]; exact congrArg (fun z => AV.v (.bool z)) (decide_eq_false (by omega))))
         ·
          try simp only [decide_eq_true_eq, decide_eq_false_iff_not, Bool.not_eq_true', Bool.not_eq_false', beq_iff_eq, beq_eq_false_iff_ne, ne_eq] at h9
          refine Ry ?_
          refine Rq ?_
          refine Ry ?_
          refine Rq ?_
          refine Ry ?_
          refine Rq ?_
          refine Ry ?_
          refine Rq ?_
          refine Rq ?_
          have tr : ∀ a b c d e f g h i j k m n o p q r s t u v w x y z A : AV, let l := lc_name_ok28 a b c d e f g h; trim ((44,A)::(43,z)::(42,y)::(41,x)::(40,w)::(39,v)::(38,u)::(37,t)::(36,s)::(35,r)::(34,q)::(33,p)::(32,o)::(31,n)::(30,m)::(29,k)::(28,j)::(27,i)::l) l = [(0,a),(2,b),(3,c),(4,d),(11,e),(15,f),(26,g),(44,A)] := by intros; rfl
          refine R_nil (tr ..) ?_; clear tr
          refine then_n ?_
          refine cdd (fun h10 => ?_) (fun h10 => ?_)
          ·
           try simp only [decide_eq_true_eq, decide_eq_false_iff_not, Bool.not_eq_true', Bool.not_eq_false', beq_iff_eq, beq_eq_false_iff_ne, ne_eq] at h10
           refine at_seq rfl ?_
           refine rg rfl ?_
           refine Rq ?_
           have tr : ∀ a b c d e f g h i : AV, let l := lc_name_ok28 a b c d e f g h; trim ((2,i)::l) l = [(0,a),(2,i),(3,c),(4,d),(11,e),(15,f),(26,g),(44,h)] := by intros; rfl
           refine R_nil (tr ..) ?_; clear tr
           refine then_n ?_
           refine at_ret rfl ?_
           refine blk_r ?_
           refine then_r ?_
           refine then_r ?_
           refine blk_r ?_
           refine then_r ?_
           first | (refine fpure ?_; refine ⟨?_, rfl⟩; rw [name_bad (i := u) (by omega) (by unfold badN; omega)]) | (refine fpure ?_; refine ⟨?_, rfl⟩; by_cases h16 : s.size ≤ 16 <;> first | (rw [name_ok (by omega) (by omega) (fun i hi => hok i (by omega))]; done) | (rw [name_ok (by omega) (by omega) (fun i hi => hok i (by omega))]; exact congrArg (fun z => AV.v (.bool z)) (decide_eq_true (by omega))) | (rw [name_len (by omega)]; done) | (rw [name_len (by omega)]; exact congrArg (fun z => AV.v (.bool z)) (decide_eq_false (by omega))))
          ·
           try simp only [decide_eq_true_eq, decide_eq_false_iff_not, Bool.not_eq_true', Bool.not_eq_false', beq_iff_eq, beq_eq_false_iff_ne, ne_eq] at h10
           refine at_skip rfl ?_
           refine blk_n ?_
           refine then_n ?_
           refine rg rfl ?_
           refine Rq ?_
           refine Rq ?_
           refine Rq ?_
           have tr : ∀ a b c d e f g h i j k : AV, let l := lc_name_ok28 a b c d e f g h; trim ((3,k)::(17,j)::(16,i)::l) l = [(0,a),(2,b),(3,k),(4,d),(11,e),(15,f),(26,g),(44,h)] := by intros; rfl
           refine R_nil (tr ..) ?_; clear tr
           refine then_n ?_
           exact ⟨_, _, ⟨u + 1, _, _, _, _, _, rfl, rfl, rfl, by omega, by exact all_step hok (by unfold badN; omega)⟩, by rfl, by omega⟩
        ·
         try simp only [decide_eq_true_eq, decide_eq_false_iff_not, Bool.not_eq_true', Bool.not_eq_false', beq_iff_eq, beq_eq_false_iff_ne, ne_eq] at h8
         refine Rn ?_
         refine Rn ?_
         refine Rn ?_
         refine Ru ?_
         refine Ru ?_
         refine Rn ?_
         refine Ry ?_
         refine Rq ?_
         refine Rq ?_
         have tr : ∀ a b c d e f g h i j k m n o p q r s t u v w x y z A : AV, let l := lc_name_ok28 a b c d e f g h; trim ((44,A)::(43,z)::(42,y)::(41,x)::(40,w)::(39,v)::(38,u)::(37,t)::(36,s)::(35,r)::(34,q)::(33,p)::(32,o)::(31,n)::(30,m)::(29,k)::(28,j)::(27,i)::l) l = [(0,a),(2,b),(3,c),(4,d),(11,e),(15,f),(26,g),(44,A)] := by intros; rfl
         refine R_nil (tr ..) ?_; clear tr
         refine then_n ?_
         refine cdf ?_
         refine at_skip rfl ?_
         refine blk_n ?_
         refine then_n ?_
         refine rg rfl ?_
         refine Rq ?_
         refine Rq ?_
         refine Rq ?_
         have tr : ∀ a b c d e f g h i j k : AV, let l := lc_name_ok28 a b c d e f g h; trim ((3,k)::(17,j)::(16,i)::l) l = [(0,a),(2,b),(3,k),(4,d),(11,e),(15,f),(26,g),(44,h)] := by intros; rfl
         refine R_nil (tr ..) ?_; clear tr
         refine then_n ?_
         exact ⟨_, _, ⟨u + 1, _, _, _, _, _, rfl, rfl, rfl, by omega, by exact all_step hok (by unfold badN; omega)⟩, by rfl, by omega⟩
       ·
        try simp only [decide_eq_true_eq, decide_eq_false_iff_not, Bool.not_eq_true', Bool.not_eq_false', beq_iff_eq, beq_eq_false_iff_ne, ne_eq] at h7
        refine Rn ?_
        refine Rn ?_
        refine Ry ?_
        refine Rq ?_
        refine Ry ?_
        refine Rq ?_
        refine Rn ?_
        refine Rn ?_
        refine Rn ?_
        refine Ru ?_
        refine Ru ?_
        refine Rn ?_
        refine Ry ?_
        refine Rq ?_
        refine Rq ?_
        have tr : ∀ a b c d e f g h i j k m n o p q r s t u v w x y z A : AV, let l := lc_name_ok28 a b c d e f g h; trim ((44,A)::(43,z)::(42,y)::(41,x)::(40,w)::(39,v)::(38,u)::(37,t)::(36,s)::(35,r)::(34,q)::(33,p)::(32,o)::(31,n)::(30,m)::(29,k)::(28,j)::(27,i)::l) l = [(0,a),(2,b),(3,c),(4,d),(11,e),(15,f),(26,g),(44,A)] := by intros; rfl
        refine R_nil (tr ..) ?_; clear tr
        refine then_n ?_
        refine cdf ?_
        refine at_skip rfl ?_
        refine blk_n ?_
        refine then_n ?_
        refine rg rfl ?_
        refine Rq ?_
        refine Rq ?_
        refine Rq ?_
        have tr : ∀ a b c d e f g h i j k : AV, let l := lc_name_ok28 a b c d e f g h; trim ((3,k)::(17,j)::(16,i)::l) l = [(0,a),(2,b),(3,k),(4,d),(11,e),(15,f),(26,g),(44,h)] := by intros; rfl
        refine R_nil (tr ..) ?_; clear tr
        refine then_n ?_
        exact ⟨_, _, ⟨u + 1, _, _, _, _, _, rfl, rfl, rfl, by omega, by exact all_step hok (by unfold badN; omega)⟩, by rfl, by omega⟩
    ·
     try simp only [decide_eq_true_eq, decide_eq_false_iff_not, Bool.not_eq_true', Bool.not_eq_false', beq_iff_eq, beq_eq_false_iff_ne, ne_eq] at h4
     refine Rn ?_
     refine Rn ?_
     refine Rq ?_
     have tr : ∀ a b c d e f g h i j k m n o : AV, let l := lc_name_ok28 a b c d e f g h; trim ((26,o)::(25,n)::(24,m)::(23,k)::(22,j)::(21,i)::l) l = [(0,a),(2,b),(3,c),(4,d),(11,e),(15,f),(26,o),(44,h)] := by intros; rfl
     refine R_nil (tr ..) ?_; clear tr
     refine then_n ?_
     refine cdf ?_
     refine at_skip rfl ?_
     refine then_n ?_
     refine at_seq rfl ?_
     refine rg rfl ?_
     refine Rq ?_
     refine Rq ?_
     refine Rq ?_
     refine Rp_split (fun h11 => ?_) (fun h11 => ?_)
     ·
      try simp only [decide_eq_true_eq, decide_eq_false_iff_not, Bool.not_eq_true', Bool.not_eq_false', beq_iff_eq, beq_eq_false_iff_ne, ne_eq] at h11
      refine Rn ?_
      refine Rn ?_
      refine Rn ?_
      refine Ru ?_
      refine Ru ?_
      refine Rn ?_
      refine Rn ?_
      refine Ru ?_
      refine Ru ?_
      refine Ru ?_
      refine Ru ?_
      refine Ru ?_
      refine Ru ?_
      refine Rn ?_
      refine Rq ?_
      have tr : ∀ a b c d e f g h i j k m n o p q r s t u v w x y z A : AV, let l := lc_name_ok28 a b c d e f g h; trim ((44,A)::(43,z)::(42,y)::(41,x)::(40,w)::(39,v)::(38,u)::(37,t)::(36,s)::(35,r)::(34,q)::(33,p)::(32,o)::(31,n)::(30,m)::(29,k)::(28,j)::(27,i)::l) l = [(0,a),(2,b),(3,c),(4,d),(11,e),(15,f),(26,g),(44,A)] := by intros; rfl
      refine R_nil (tr ..) ?_; clear tr
      refine then_n ?_
      refine cdt ?_
      refine at_seq rfl ?_
      refine rg rfl ?_
      refine Rq ?_
      have tr : ∀ a b c d e f g h i : AV, let l := lc_name_ok28 a b c d e f g h; trim ((2,i)::l) l = [(0,a),(2,i),(3,c),(4,d),(11,e),(15,f),(26,g),(44,h)] := by intros; rfl
      refine R_nil (tr ..) ?_; clear tr
      refine then_n ?_
      refine at_ret rfl ?_
      refine blk_r ?_
      refine then_r ?_
      refine then_r ?_
      refine blk_r ?_
      refine then_r ?_
      first | (refine fpure ?_; refine ⟨?_, rfl⟩; rw [name_bad (i := u) (by omega) (by unfold badN; omega)]) | (refine fpure ?_; refine ⟨?_, rfl⟩; by_cases h16 : s.size ≤ 16 <;> first | (rw [name_ok (by omega) (by omega) (fun i hi => hok i (by omega))]; done) | (rw [name_ok (by omega) (by omega) (fun i hi => hok i (by omega))]; exact congrArg (fun z => AV.v (.bool z)) (decide_eq_true (by omega))) | (rw [name_len (by omega)]; done) | (rw [name_len (by omega)]; exact congrArg (fun z => AV.v (.bool z)) (decide_eq_false (by omega))))
     ·
      try simp only [decide_eq_true_eq, decide_eq_false_iff_not, Bool.not_eq_true', Bool.not_eq_false', beq_iff_eq, beq_eq_false_iff_ne, ne_eq] at h11
      refine Ry ?_
      refine Rq ?_
      refine Ry ?_
      refine Rq ?_
      refine Ry ?_
      refine Rq ?_
      refine Rp_split (fun h12 => ?_) (fun h12 => ?_)
      ·
       try simp only [decide_eq_true_eq, decide_eq_false_iff_not, Bool.not_eq_true', Bool.not_eq_false', beq_iff_eq, beq_eq_false_iff_ne, ne_eq] at h12
       refine Ry ?_
       refine Rq ?_
       refine Ry ?_
       refine Rq ?_
       refine Ry ?_
       refine Rq ?_
       refine Ry ?_
       refine Rq ?_
       refine Rp_split (fun h13 => ?_) (fun h13 => ?_)
       ·
        try simp only [decide_eq_true_eq, decide_eq_false_iff_not, Bool.not_eq_true', Bool.not_eq_false', beq_iff_eq, beq_eq_false_iff_ne, ne_eq] at h13
        refine Ry ?_
        refine Rq ?_
        refine Ry ?_
        refine Rq ?_
        refine Ry ?_
        refine Rq ?_
        refine Rp_split (fun h14 => ?_) (fun h14 => ?_)
        ·
         try simp only [decide_eq_true_eq, decide_eq_false_iff_not, Bool.not_eq_true', Bool.not_eq_false', beq_iff_eq, beq_eq_false_iff_ne, ne_eq] at h14
         refine Rn ?_
         refine Rn ?_
         refine Ry ?_
         refine Rq ?_
         refine Ry ?_
         refine Rq ?_
         refine Rq ?_
         have tr : ∀ a b c d e f g h i j k m n o p q r s t u v w x y z A : AV, let l := lc_name_ok28 a b c d e f g h; trim ((44,A)::(43,z)::(42,y)::(41,x)::(40,w)::(39,v)::(38,u)::(37,t)::(36,s)::(35,r)::(34,q)::(33,p)::(32,o)::(31,n)::(30,m)::(29,k)::(28,j)::(27,i)::l) l = [(0,a),(2,b),(3,c),(4,d),(11,e),(15,f),(26,g),(44,A)] := by intros; rfl
         refine R_nil (tr ..) ?_; clear tr
         refine then_n ?_
         refine cdt ?_
         refine at_seq rfl ?_
         refine rg rfl ?_
         refine Rq ?_
         have tr : ∀ a b c d e f g h i : AV, let l := lc_name_ok28 a b c d e f g h; trim ((2,i)::l) l = [(0,a),(2,i),(3,c),(4,d),(11,e),(15,f),(26,g),(44,h)] := by intros; rfl
         refine R_nil (tr ..) ?_; clear tr
         refine then_n ?_
         refine at_ret rfl ?_
         refine blk_r ?_
         refine then_r ?_
         refine then_r ?_
         refine blk_r ?_
         refine then_r ?_
         first | (refine fpure ?_; refine ⟨?_, rfl⟩; rw [name_bad (i := u) (by omega) (by unfold badN; omega)]) | (refine fpure ?_; refine ⟨?_, rfl⟩; by_cases h16 : s.size ≤ 16 <;> first | (rw [name_ok (by omega) (by omega) (fun i hi => hok i (by omega))]; done) | (rw [name_ok (by omega) (by omega) (fun i hi => hok i (by omega))]; exact congrArg (fun z => AV.v (.bool z)) (decide_eq_true (by omega))) | (rw [name_len (by omega)]; done) | (rw [name_len (by omega)]; exact congrArg (fun z => AV.v (.bool z)) (decide_eq_false (by omega))))
        ·
         try simp only [decide_eq_true_eq, decide_eq_false_iff_not, Bool.not_eq_true', Bool.not_eq_false', beq_iff_eq, beq_eq_false_iff_ne, ne_eq] at h14
         refine Ry ?_
         refine Rq ?_
         refine Ry ?_
         refine Rq ?_
         refine Ry ?_
         refine Rq ?_
         refine Ry ?_
         refine Rq ?_
         refine Rq ?_
         have tr : ∀ a b c d e f g h i j k m n o p q r s t u v w x y z A : AV, let l := lc_name_ok28 a b c d e f g h; trim ((44,A)::(43,z)::(42,y)::(41,x)::(40,w)::(39,v)::(38,u)::(37,t)::(36,s)::(35,r)::(34,q)::(33,p)::(32,o)::(31,n)::(30,m)::(29,k)::(28,j)::(27,i)::l) l = [(0,a),(2,b),(3,c),(4,d),(11,e),(15,f),(26,g),(44,A)] := by intros; rfl
         refine R_nil (tr ..) ?_; clear tr
         refine then_n ?_
         refine cdd (fun h15 => ?_) (fun h15 => ?_)
         ·
          try simp only [decide_eq_true_eq, decide_eq_false_iff_not, Bool.not_eq_true', Bool.not_eq_false', beq_iff_eq, beq_eq_false_iff_ne, ne_eq] at h15
          refine at_seq rfl ?_
          refine rg rfl ?_
          refine Rq ?_
          have tr : ∀ a b c d e f g h i : AV, let l := lc_name_ok28 a b c d e f g h; trim ((2,i)::l) l = [(0,a),(2,i),(3,c),(4,d),(11,e),(15,f),(26,g),(44,h)] := by intros; rfl
          refine R_nil (tr ..) ?_; clear tr
          refine then_n ?_
          refine at_ret rfl ?_
          refine blk_r ?_
          refine then_r ?_
          refine then_r ?_
          refine blk_r ?_
          refine then_r ?_
          first | (refine fpure ?_; refine ⟨?_, rfl⟩; rw [name_bad (i := u) (by omega) (by unfold badN; omega)]) | (refine fpure ?_; refine ⟨?_, rfl⟩; by_cases h16 : s.size ≤ 16 <;> first | (rw [name_ok (by omega) (by omega) (fun i hi => hok i (by omega))]; done) | (rw [name_ok (by omega) (by omega) (fun i hi => hok i (by omega))]; exact congrArg (fun z => AV.v (.bool z)) (decide_eq_true (by omega))) | (rw [name_len (by omega)]; done) | (rw [name_len (by omega)]; exact congrArg (fun z => AV.v (.bool z)) (decide_eq_false (by omega))))
         ·
          try simp only [decide_eq_true_eq, decide_eq_false_iff_not, Bool.not_eq_true', Bool.not_eq_false', beq_iff_eq, beq_eq_false_iff_ne, ne_eq] at h15
          refine at_skip rfl ?_
          refine blk_n ?_
          refine then_n ?_
          refine rg rfl ?_
          refine Rq ?_
          refine Rq ?_
          refine Rq ?_
          have tr : ∀ a b c d e f g h i j k : AV, let l := lc_name_ok28 a b c d e f g h; trim ((3,k)::(17,j)::(16,i)::l) l = [(0,a),(2,b),(3,k),(4,d),(11,e),(15,f),(26,g),(44,h)] := by intros; rfl
          refine R_nil (tr ..) ?_; clear tr
          refine then_n ?_
          exact ⟨_, _, ⟨u + 1, _, _, _, _, _, rfl, rfl, rfl, by omega, by exact all_step hok (by unfold badN; omega)⟩, by rfl, by omega⟩
       ·
        try simp only [decide_eq_true_eq, decide_eq_false_iff_not, Bool.not_eq_true', Bool.not_eq_false', beq_iff_eq, beq_eq_false_iff_ne, ne_eq] at h13
        refine Rn ?_
        refine Rn ?_
        refine Rn ?_
        refine Ru ?_
        refine Ru ?_
        refine Rn ?_
        refine Ry ?_
        refine Rq ?_
        refine Rq ?_
        have tr : ∀ a b c d e f g h i j k m n o p q r s t u v w x y z A : AV, let l := lc_name_ok28 a b c d e f g h; trim ((44,A)::(43,z)::(42,y)::(41,x)::(40,w)::(39,v)::(38,u)::(37,t)::(36,s)::(35,r)::(34,q)::(33,p)::(32,o)::(31,n)::(30,m)::(29,k)::(28,j)::(27,i)::l) l = [(0,a),(2,b),(3,c),(4,d),(11,e),(15,f),(26,g),(44,A)] := by intros; rfl
        refine R_nil (tr ..) ?_; clear tr
        refine then_n ?_
        refine cdf ?_
        refine at_skip rfl ?_
        refine blk_n ?_
        refine then_n ?_
        refine rg rfl ?_
        refine Rq ?_
        refine Rq ?_
        refine Rq ?_
        have tr : ∀ a b c d e f g h i j k : AV, let l := lc_name_ok28 a b c d e f g h; trim ((3,k)::(17,j)::(16,i)::l) l = [(0,a),(2,b),(3,k),(4,d),(11,e),(15,f),(26,g),(44,h)] := by intros; rfl
        refine R_nil (tr ..) ?_; clear tr
        refine then_n ?_
        exact ⟨_, _, ⟨u + 1, _, _, _, _, _, rfl, rfl, rfl, by omega, by exact all_step hok (by unfold badN; omega)⟩, by rfl, by omega⟩
      ·
       try simp only [decide_eq_true_eq, decide_eq_false_iff_not, Bool.not_eq_true', Bool.not_eq_false', beq_iff_eq, beq_eq_false_iff_ne, ne_eq] at h12
       refine Rn ?_
       refine Rn ?_
       refine Ry ?_
       refine Rq ?_
       refine Ry ?_
       refine Rq ?_
       refine Rn ?_
       refine Rn ?_
       refine Rn ?_
       refine Ru ?_
       refine Ru ?_
       refine Rn ?_
       refine Ry ?_
       refine Rq ?_
       refine Rq ?_
       have tr : ∀ a b c d e f g h i j k m n o p q r s t u v w x y z A : AV, let l := lc_name_ok28 a b c d e f g h; trim ((44,A)::(43,z)::(42,y)::(41,x)::(40,w)::(39,v)::(38,u)::(37,t)::(36,s)::(35,r)::(34,q)::(33,p)::(32,o)::(31,n)::(30,m)::(29,k)::(28,j)::(27,i)::l) l = [(0,a),(2,b),(3,c),(4,d),(11,e),(15,f),(26,g),(44,A)] := by intros; rfl
       refine R_nil (tr ..) ?_; clear tr
       refine then_n ?_
       refine cdf ?_
       refine at_skip rfl ?_
       refine blk_n ?_
       refine then_n ?_
       refine rg rfl ?_
       refine Rq ?_
       refine Rq ?_
       refine Rq ?_
       have tr : ∀ a b c d e f g h i j k : AV, let l := lc_name_ok28 a b c d e f g h; trim ((3,k)::(17,j)::(16,i)::l) l = [(0,a),(2,b),(3,k),(4,d),(11,e),(15,f),(26,g),(44,h)] := by intros; rfl
       refine R_nil (tr ..) ?_; clear tr
       refine then_n ?_
       exact ⟨_, _, ⟨u + 1, _, _, _, _, _, rfl, rfl, rfl, by omega, by exact all_step hok (by unfold badN; omega)⟩, by rfl, by omega⟩
   ·
    try simp only [decide_eq_true_eq, decide_eq_false_iff_not, Bool.not_eq_true', Bool.not_eq_false', beq_iff_eq, beq_eq_false_iff_ne, ne_eq] at h3
    refine at_exit rfl ?_
    refine then_x ?_
    refine then_x ?_
    refine blk_x ?_
    refine then_n ?_
    refine at_seq rfl ?_
    refine rg rfl ?_
    refine Rq ?_
    have tr : ∀ a b c d e f g h i : AV, let l := lc_name_ok28 a b c d e f g h; trim ((2,i)::l) l = [(0,a),(2,i),(3,c),(4,d),(11,e),(15,f),(26,g),(44,h)] := by intros; rfl
    refine R_nil (tr ..) ?_; clear tr
    refine then_n ?_
    refine at_ret rfl ?_
    first | (refine fpure ?_; refine ⟨?_, rfl⟩; rw [name_bad (i := u) (by omega) (by unfold badN; omega)]) | (refine fpure ?_; refine ⟨?_, rfl⟩; by_cases h16 : s.size ≤ 16 <;> first | (rw [name_ok (by omega) (by omega) (fun i hi => hok i (by omega))]; done) | (rw [name_ok (by omega) (by omega) (fun i hi => hok i (by omega))]; exact congrArg (fun z => AV.v (.bool z)) (decide_eq_true (by omega))) | (rw [name_len (by omega)]; done) | (rw [name_len (by omega)]; exact congrArg (fun z => AV.v (.bool z)) (decide_eq_false (by omega))))

end Go.Proofs.Ytplockpopmaejaa
end
section
set_option linter.unusedSimpArgs false
set_option linter.unusedVariables false
set_option maxHeartbeats 40000000
set_option maxRecDepth 4000
namespace Go.Proofs.Ytplockpopmaejaa
open Go Go.Am

abbrev lc_clo35 (a b c d : AV) : Env := [(0,a),(1,b),(2,c),(3,d)]
theorem clo35 (lim : Nat) (H : Heap) (x : Bt) (s : ByteArray) (b : Nat) (hb : hget H b = some [.v (.string s)]) :
    ACall sig lim 35 [.agg (btC x), .ptr b 0] H fun r H' => r = .v (.bool (eqB x.nm s)) ∧ H' = H := by
 have q1 : True := trivial
 have hb1 : True := trivial
 refine ACall_pure (fa := fa35) rfl rfl rfl rfl ?_
 have tr : ∀ a0 a1 : AV, env0 fa35.keep [a0, a1] = [(0,a0),(1,a1),(2,.any),(3,.any)] := fun a0 a1 => rfl
 refine W_to (tr _ _) ?_; clear tr
 refine at_seq rfl ?_
 refine rg rfl ?_
 refine A_box rfl (by simp (disch := first | omega | (simp only [List.length_map, List.length_append, List.length_set, List.length_cons, List.length_nil]; omega)) only [go_sem, ↓reduceIte, Nat.reduceEqDiff, reduceCtorEq] <;> rfl) ?_
 intro H1 n1
 have q1 := n1.new
 have hb1 := (n1.old _ (hget_lt hb)).trans hb
 refine Rq ?_
 have tr : ∀ a b c d e f : AV, let l := lc_clo35 a b c d; trim ((3,f)::(2,e)::l) l = [(0,a),(1,b),(2,e),(3,f)] := by intros; rfl
 refine R_nil (tr ..) ?_; clear tr
 refine then_n ?_
 refine at_seq rfl ?_
 refine rg rfl ?_
 refine Rq ?_
 refine R_q rfl (by simp (disch := first | omega | (simp only [List.length_map, List.length_append, List.length_set, List.length_cons, List.length_nil]; omega)) only [go_sem, ↓reduceIte, Nat.reduceEqDiff, reduceCtorEq, q1, hb1] <;> rfl) ?_
 refine R_q rfl (by simp (disch := first | omega | (simp only [List.length_map, List.length_append, List.length_set, List.length_cons, List.length_nil]; omega)) only [go_sem, ↓reduceIte, Nat.reduceEqDiff, reduceCtorEq, q1, hb1] <;> rfl) ?_
 refine Rq ?_
 refine Rq ?_
 have tr : ∀ a b c d e f g h i : AV, let l := lc_clo35 a b c d; trim ((3,i)::(7,h)::(6,g)::(5,f)::(4,e)::l) l = [(0,a),(1,b),(2,c),(3,i)] := by intros; rfl
 refine R_nil (tr ..) ?_; clear tr
 refine then_n ?_
 refine at_ret rfl ?_
 refine fpure ?_
 refine ⟨?_, rfl⟩
 rfl

abbrev lc_clo38 (a b c d : AV) : Env := [(0,a),(1,b),(2,c),(3,d)]
theorem clo38 (lim : Nat) (H : Heap) (x : Bw) (s : ByteArray) (b : Nat) (hb : hget H b = some [.v (.string s)]) :
    ACall sig lim 38 [.agg (bwC x), .ptr b 0] H fun r H' => r = .v (.bool (eqB x.nm s)) ∧ H' = H := by
 have q1 : True := trivial
 have hb1 : True := trivial
 refine ACall_pure (fa := fa38) rfl rfl rfl rfl ?_
 have tr : ∀ a0 a1 : AV, env0 fa38.keep [a0, a1] = [(0,a0),(1,a1),(2,.any),(3,.any)] := fun a0 a1 => rfl
 refine W_to (tr _ _) ?_; clear tr
 refine at_seq rfl ?_
 refine rg rfl ?_
 refine A_box rfl (by simp (disch := first | omega | (simp only [List.length_map, List.length_append, List.length_set, List.length_cons, List.length_nil]; omega)) only [go_sem, ↓reduceIte, Nat.reduceEqDiff, reduceCtorEq] <;> rfl) ?_
 intro H1 n1
 have q1 := n1.new
 have hb1 := (n1.old _ (hget_lt hb)).trans hb
 refine Rq ?_
 have tr : ∀ a b c d e f : AV, let l := lc_clo38 a b c d; trim ((3,f)::(2,e)::l) l = [(0,a),(1,b),(2,e),(3,f)] := by intros; rfl
 refine R_nil (tr ..) ?_; clear tr
 refine then_n ?_
 refine at_seq rfl ?_
 refine rg rfl ?_
 refine Rq ?_
 refine R_q rfl (by simp (disch := first | omega | (simp only [List.length_map, List.length_append, List.length_set, List.length_cons, List.length_nil]; omega)) only [go_sem, ↓reduceIte, Nat.reduceEqDiff, reduceCtorEq, q1, hb1] <;> rfl) ?_
 refine R_q rfl (by simp (disch := first | omega | (simp only [List.length_map, List.length_append, List.length_set, List.length_cons, List.length_nil]; omega)) only [go_sem, ↓reduceIte, Nat.reduceEqDiff, reduceCtorEq, q1, hb1] <;> rfl) ?_
 refine Rq ?_
 refine Rq ?_
 have tr : ∀ a b c d e f g h i : AV, let l := lc_clo38 a b c d; trim ((3,i)::(7,h)::(6,g)::(5,f)::(4,e)::l) l = [(0,a),(1,b),(2,c),(3,i)] := by intros; rfl
 refine R_nil (tr ..) ?_; clear tr
 refine then_n ?_
 refine at_ret rfl ?_
 refine fpure ?_
 refine ⟨?_, rfl⟩
 rfl

abbrev lc_index34 (a b c d e f g h : AV) : Env := [(0,a),(1,b),(4,c),(5,d),(7,e),(8,f),(9,g),(16,h)]
theorem index34 (lim : Nat) (H : Heap) (l : List Bt) (s : ByteArray) (b : Nat) (hl : l.length ≤ 100000) (hb : hget H b = some [.v (.string s)]) :
    ACall sig lim 34 [btsAV l, .clo 35 [.ptr b 0]] H fun r H' => r = AV.i (fidx (fun u => eqB (gt l u).nm s) l.length) ∧ H' = H := by
 refine ACall_pure (fa := fa34) rfl rfl rfl rfl ?_
 have tr : ∀ a0 a1 : AV, env0 fa34.keep [a0, a1] = [(0,a0),(1,a1),(4,.any),(5,.any),(7,.any),(8,.any),(9,.any),(16,.any)] := fun a0 a1 => rfl
 refine W_to (tr _ _) ?_; clear tr
 refine at_seq rfl ?_
 refine rg rfl ?_
 refine Rq ?_
 have tr : ∀ a b c d e f g h i : AV, let l := lc_index34 a b c d e f g h; trim ((4,i)::l) l = [(0,a),(1,b),(4,i),(5,d),(7,e),(8,f),(9,g),(16,h)] := by intros; rfl
 refine R_nil (tr ..) ?_; clear tr
 refine then_n ?_
 refine at_seq rfl ?_
 refine at_seq rfl ?_
 refine rg rfl ?_
 refine Rq ?_
 refine Rq ?_
 refine Rq ?_
 have tr : ∀ a b c d e f g h i j k : AV, let l := lc_index34 a b c d e f g h; trim ((8,k)::(7,j)::(6,i)::l) l = [(0,a),(1,b),(4,c),(5,d),(7,j),(8,k),(9,g),(16,h)] := by intros; rfl
 refine R_nil (tr ..) ?_; clear tr
 refine then_n ?_
 refine at_block rfl ?_
 refine loop_n rfl (fun mm kv H' => ∃ u : Nat, ∃ x4 x5 x9 x16 : AV, (kv = [(4, x4), (5, x5), (8, AV.i u), (9, x9), (16, x16)]) ∧ (mm = l.length - u) ∧ (H = H') ∧ (u ≤ l.length) ∧ (∀ k, k < u → (fun u => eqB (gt l u).nm s) k = false)) ⟨0, _, _, _, _, rfl, rfl, by rfl, by omega, by intro k hk; omega⟩ (by rfl) ?_
 rintro mm kv H1 ⟨u, x4, x5, x9, x16, rfl, rfl, hH1, hu, hk⟩
 have tr : ∀ a b c d e f g h i j k m n : AV, upd [(0,a),(1,b),(4,c),(5,d),(7,e),(8,f),(9,g),(16,h)] [(4,i),(5,j),(8,k),(9,m),(16,n)] = [(0,a),(1,b),(4,i),(5,j),(7,e),(8,k),(9,m),(16,n)] := by intros; rfl
 refine W_to (tr ..) ?_; clear tr
 subst hH1
 refine at_seq rfl ?_
 refine rg rfl ?_
 refine Rq ?_
 have tr : ∀ a b c d e f g h i : AV, let l := lc_index34 a b c d e f g h; trim ((9,i)::l) l = [(0,a),(1,b),(4,c),(5,d),(7,e),(8,f),(9,i),(16,h)] := by intros; rfl
 refine R_nil (tr ..) ?_; clear tr
 refine then_n ?_
 refine at_seq rfl ?_
 refine cdd (fun h1 => ?_) (fun h1 => ?_)
 ·
  try simp only [decide_eq_true_eq, decide_eq_false_iff_not, Bool.not_eq_true', Bool.not_eq_false', beq_iff_eq, beq_eq_false_iff_ne, ne_eq] at h1
  refine at_skip rfl ?_
  refine then_n ?_
  refine at_seq rfl ?_
  refine at_block rfl ?_
  refine at_seq rfl ?_
  refine rg rfl ?_
  refine Rq ?_
  refine Rq ?_
  have tr : ∀ a b c d e f g h i j : AV, let l := lc_index34 a b c d e f g h; trim ((5,j)::(10,i)::l) l = [(0,a),(1,b),(4,c),(5,j),(7,e),(8,f),(9,g),(16,h)] := by intros; rfl
  refine R_nil (tr ..) ?_; clear tr
  refine then_n ?_
  refine at_seq rfl ?_
  refine rg rfl ?_
  refine Rq ?_
  refine Rq ?_
  refine Rq ?_
  refine Rq ?_
  refine Rq ?_
  refine R_callv (by simp (disch := first | omega | (simp only [List.length_map, List.length_append, List.length_set, List.length_cons, List.length_nil]; omega)) only [go_sem, ↓reduceIte, Nat.reduceEqDiff, reduceCtorEq] <;> rfl) (by simp only [List.map_cons, List.map_nil, List.cons_append, List.nil_append, go_sem, ↓reduceIte, Nat.reduceEqDiff]; rfl) ?_
  refine ACall_eq (clo35 _ _ (gt l u) s b hb) ?_
  have tr : ∀ a b c d e f g h i j k m n o : AV, let l := lc_index34 a b c d e f g h; trim ((16,o)::(15,n)::(14,m)::(13,k)::(12,j)::(11,i)::l) l = [(0,a),(1,b),(4,c),(5,d),(7,e),(8,f),(9,g),(16,o)] := by intros; rfl
  refine R_nil (tr ..) ?_; clear tr
  refine then_n ?_
  refine cdd (fun h2 => ?_) (fun h2 => ?_)
  ·
   try simp only [decide_eq_true_eq, decide_eq_false_iff_not, Bool.not_eq_true', Bool.not_eq_false', beq_iff_eq, beq_eq_false_iff_ne, ne_eq] at h2
   refine at_seq rfl ?_
   refine rg rfl ?_
   refine Rq ?_
   refine Rq ?_
   have tr : ∀ a b c d e f g h i j : AV, let l := lc_index34 a b c d e f g h; trim ((4,j)::(17,i)::l) l = [(0,a),(1,b),(4,j),(5,d),(7,e),(8,f),(9,g),(16,h)] := by intros; rfl
   refine R_nil (tr ..) ?_; clear tr
   refine then_n ?_
   refine at_ret rfl ?_
   refine blk_r ?_
   refine then_r ?_
   refine then_r ?_
   refine blk_r ?_
   refine then_r ?_
   refine fpure ?_
   refine ⟨?_, rfl⟩
   rw [fidx_hit (v := u) (by omega) hk (by first | assumption | simp_all)]
  ·
   try simp only [decide_eq_true_eq, decide_eq_false_iff_not, Bool.not_eq_true', Bool.not_eq_false', beq_iff_eq, beq_eq_false_iff_ne, ne_eq] at h2
   refine at_skip rfl ?_
   refine blk_n ?_
   refine then_n ?_
   refine rg rfl ?_
   refine Rq ?_
   refine Rq ?_
   have tr : ∀ a b c d e f g h i j : AV, let l := lc_index34 a b c d e f g h; trim ((8,j)::(18,i)::l) l = [(0,a),(1,b),(4,c),(5,d),(7,e),(8,j),(9,g),(16,h)] := by intros; rfl
   refine R_nil (tr ..) ?_; clear tr
   refine then_n ?_
   exact ⟨_, _, ⟨u + 1, _, _, _, _, rfl, rfl, by rfl, by omega, by exact all_step hk (by first | assumption | simp_all)⟩, by rfl, by omega⟩
 ·
  try simp only [decide_eq_true_eq, decide_eq_false_iff_not, Bool.not_eq_true', Bool.not_eq_false', beq_iff_eq, beq_eq_false_iff_ne, ne_eq] at h1
  refine at_exit rfl ?_
  refine then_x ?_
  refine then_x ?_
  refine blk_x ?_
  refine then_n ?_
  refine at_seq rfl ?_
  refine rg rfl ?_
  refine Rq ?_
  have tr : ∀ a b c d e f g h i : AV, let l := lc_index34 a b c d e f g h; trim ((4,i)::l) l = [(0,a),(1,b),(4,i),(5,d),(7,e),(8,f),(9,g),(16,h)] := by intros; rfl
  refine R_nil (tr ..) ?_; clear tr
  refine then_n ?_
  refine at_ret rfl ?_
  refine fpure ?_
  refine ⟨?_, rfl⟩
  rw [fidx_miss (v := u) (by omega) hk]

abbrev lc_index37 (a b c d e f g h : AV) : Env := [(0,a),(1,b),(4,c),(5,d),(7,e),(8,f),(9,g),(16,h)]
theorem index37 (lim : Nat) (H : Heap) (l : List Bw) (s : ByteArray) (b : Nat) (hl : l.length ≤ 100000) (hb : hget H b = some [.v (.string s)]) :
    ACall sig lim 37 [bwsAV l, .clo 38 [.ptr b 0]] H fun r H' => r = AV.i (fidx (fun u => eqB (gt l u).nm s) l.length) ∧ H' = H := by
 refine ACall_pure (fa := fa37) rfl rfl rfl rfl ?_
 have tr : ∀ a0 a1 : AV, env0 fa37.keep [a0, a1] = [(0,a0),(1,a1),(4,.any),(5,.any),(7,.any),(8,.any),(9,.any),(16,.any)] := fun a0 a1 => rfl
 refine W_to (tr _ _) ?_; clear tr
 refine at_seq rfl ?_
 refine rg rfl ?_
 refine Rq ?_
 have tr : ∀ a b c d e f g h i : AV, let l := lc_index37 a b c d e f g h; trim ((4,i)::l) l = [(0,a),(1,b),(4,i),(5,d),(7,e),(8,f),(9,g),(16,h)] := by intros; rfl
 refine R_nil (tr ..) ?_; clear tr
 refine then_n ?_
 refine at_seq rfl ?_
 refine at_seq rfl ?_
 refine rg rfl ?_
 refine Rq ?_
 refine Rq ?_
 refine Rq ?_
 have tr : ∀ a b c d e f g h i j k : AV, let l := lc_index37 a b c d e f g h; trim ((8,k)::(7,j)::(6,i)::l) l = [(0,a),(1,b),(4,c),(5,d),(7,j),(8,k),(9,g),(16,h)] := by intros; rfl
 refine R_nil (tr ..) ?_; clear tr
 refine then_n ?_
 refine at_block rfl ?_
 refine loop_n rfl (fun mm kv H' => ∃ u : Nat, ∃ x4 x5 x9 x16 : AV, (kv = [(4, x4), (5, x5), (8, AV.i u), (9, x9), (16, x16)]) ∧ (mm = l.length - u) ∧ (H = H') ∧ (u ≤ l.length) ∧ (∀ k, k < u → (fun u => eqB (gt l u).nm s) k = false)) ⟨0, _, _, _, _, rfl, rfl, by rfl, by omega, by intro k hk; omega⟩ (by rfl) ?_
 rintro mm kv H1 ⟨u, x4, x5, x9, x16, rfl, rfl, hH1, hu, hk⟩
 have tr : ∀ a b c d e f g h i j k m n : AV, upd [(0,a),(1,b),(4,c),(5,d),(7,e),(8,f),(9,g),(16,h)] [(4,i),(5,j),(8,k),(9,m),(16,n)] = [(0,a),(1,b),(4,i),(5,j),(7,e),(8,k),(9,m),(16,n)] := by intros; rfl
 refine W_to (tr ..) ?_; clear tr
 subst hH1
 refine at_seq rfl ?_
 refine rg rfl ?_
 refine Rq ?_
 have tr : ∀ a b c d e f g h i : AV, let l := lc_index37 a b c d e f g h; trim ((9,i)::l) l = [(0,a),(1,b),(4,c),(5,d),(7,e),(8,f),(9,i),(16,h)] := by intros; rfl
 refine R_nil (tr ..) ?_; clear tr
 refine then_n ?_
 refine at_seq rfl ?_
 refine cdd (fun h1 => ?_) (fun h1 => ?_)
 ·
  try simp only [decide_eq_true_eq, decide_eq_false_iff_not, Bool.not_eq_true', Bool.not_eq_false', beq_iff_eq, beq_eq_false_iff_ne, ne_eq] at h1
  refine at_skip rfl ?_
  refine then_n ?_
  refine at_seq rfl ?_
  refine at_block rfl ?_
  refine at_seq rfl ?_
  refine rg rfl ?_
  refine Rq ?_
  refine Rq ?_
  have tr : ∀ a b c d e f g h i j : AV, let l := lc_index37 a b c d e f g h; trim ((5,j)::(10,i)::l) l = [(0,a),(1,b),(4,c),(5,j),(7,e),(8,f),(9,g),(16,h)] := by intros; rfl
  refine R_nil (tr ..) ?_; clear tr
  refine then_n ?_
  refine at_seq rfl ?_
  refine rg rfl ?_
  refine Rq ?_
  refine Rq ?_
  refine Rq ?_
  refine Rq ?_
  refine Rq ?_
  refine R_callv (by simp (disch := first | omega | (simp only [List.length_map, List.length_append, List.length_set, List.length_cons, List.length_nil]; omega)) only [go_sem, ↓reduceIte, Nat.reduceEqDiff, reduceCtorEq] <;> rfl) (by simp only [List.map_cons, List.map_nil, List.cons_append, List.nil_append, go_sem, ↓reduceIte, Nat.reduceEqDiff]; rfl) ?_
  refine ACall_eq (clo38 _ _ (gt l u) s b hb) ?_
  have tr : ∀ a b c d e f g h i j k m n o : AV, let l := lc_index37 a b c d e f g h; trim ((16,o)::(15,n)::(14,m)::(13,k)::(12,j)::(11,i)::l) l = [(0,a),(1,b),(4,c),(5,d),(7,e),(8,f),(9,g),(16,o)] := by intros; rfl
  refine R_nil (tr ..) ?_; clear tr
  refine then_n ?_
  refine cdd (fun h2 => ?_) (fun h2 => ?_)
  ·
   try simp only [decide_eq_true_eq, decide_eq_false_iff_not, Bool.not_eq_true', Bool.not_eq_false', beq_iff_eq, beq_eq_false_iff_ne, ne_eq] at h2
   refine at_seq rfl ?_
   refine rg rfl ?_
   refine Rq ?_
   refine Rq ?_
   have tr : ∀ a b c d e f g h i j : AV, let l := lc_index37 a b c d e f g h; trim ((4,j)::(17,i)::l) l = [(0,a),(1,b),(4,j),(5,d),(7,e),(8,f),(9,g),(16,h)] := by intros; rfl
   refine R_nil (tr ..) ?_; clear tr
   refine then_n ?_
   refine at_ret rfl ?_
   refine blk_r ?_
   refine then_r ?_
   refine then_r ?_
   refine blk_r ?_
   refine then_r ?_
   refine fpure ?_
   refine ⟨?_, rfl⟩
   rw [fidx_hit (v := u) (by omega) hk (by first | assumption | simp_all)]
  ·
   try simp only [decide_eq_true_eq, decide_eq_false_iff_not, Bool.not_eq_true', Bool.not_eq_false', beq_iff_eq, beq_eq_false_iff_ne, ne_eq] at h2
   refine at_skip rfl ?_
   refine blk_n ?_
   refine then_n ?_
   refine rg rfl ?_
   refine Rq ?_
   refine Rq ?_
   have tr : ∀ a b c d e f g h i j : AV, let l := lc_index37 a b c d e f g h; trim ((8,j)::(18,i)::l) l = [(0,a),(1,b),(4,c),(5,d),(7,e),(8,j),(9,g),(16,h)] := by intros; rfl
   refine R_nil (tr ..) ?_; clear tr
   refine then_n ?_
   exact ⟨_, _, ⟨u + 1, _, _, _, _, rfl, rfl, by rfl, by omega, by exact all_step hk (by first | assumption | simp_all)⟩, by rfl, by omega⟩
 ·
  try simp only [decide_eq_true_eq, decide_eq_false_iff_not, Bool.not_eq_true', Bool.not_eq_false', beq_iff_eq, beq_eq_false_iff_ne, ne_eq] at h1
  refine at_exit rfl ?_
  refine then_x ?_
  refine then_x ?_
  refine blk_x ?_
  refine then_n ?_
  refine at_seq rfl ?_
  refine rg rfl ?_
  refine Rq ?_
  have tr : ∀ a b c d e f g h i : AV, let l := lc_index37 a b c d e f g h; trim ((4,i)::l) l = [(0,a),(1,b),(4,i),(5,d),(7,e),(8,f),(9,g),(16,h)] := by intros; rfl
  refine R_nil (tr ..) ?_; clear tr
  refine then_n ?_
  refine at_ret rfl ?_
  refine fpure ?_
  refine ⟨?_, rfl⟩
  rw [fidx_miss (v := u) (by omega) hk]

abbrev lc_find24 (a b c d e : AV) : Env := [(0,a),(1,b),(2,c),(3,d),(4,e)]
theorem find24 (lim : Nat) (H : Heap) (l : List Bt) (m : List Bw) (s : ByteArray) (hl : l.length ≤ 100000) (hm : m.length ≤ 100000) :
    ACall sig lim 24 [.agg [btsAV l, bwsAV m], .v (.string s)] H fun r H' => r = AV.i (idxB l s) ∧ H' = H := by
 refine ACall_pure (fa := fa24) rfl rfl rfl rfl ?_
 have tr : ∀ a0 a1 : AV, env0 fa24.keep [a0, a1] = [(0,a0),(1,a1),(2,.any),(3,.any),(4,.any)] := fun a0 a1 => rfl
 refine W_to (tr _ _) ?_; clear tr
 refine at_seq rfl ?_
 refine rg rfl ?_
 refine R_box rfl (by simp (disch := first | omega | (simp only [List.length_map, List.length_append, List.length_set, List.length_cons, List.length_nil]; omega)) only [go_sem, ↓reduceIte, Nat.reduceEqDiff, reduceCtorEq] <;> rfl) rfl rfl ?_
 refine R_box rfl (by simp (disch := first | omega | (simp only [List.length_map, List.length_append, List.length_set, List.length_cons, List.length_nil]; omega)) only [go_sem, ↓reduceIte, Nat.reduceEqDiff, reduceCtorEq] <;> rfl) rfl rfl ?_
 refine Rq ?_
 have tr : ∀ a b c d e f g h : AV, let l := lc_find24 a b c d e; trim ((4,h)::(3,g)::(2,f)::l) l = [(0,a),(1,b),(2,f),(3,g),(4,h)] := by intros; rfl
 refine R_nil (tr ..) ?_; clear tr
 refine then_n ?_
 refine at_seq rfl ?_
 refine rg rfl ?_
 refine Rq ?_
 refine Rq ?_
 refine Rq ?_
 refine Rcall ?_
 refine ACall_eq (index34 _ _ l s _ hl (by simp [hget])) ?_
 refine Rq ?_
 have tr : ∀ a b c d e f g h i j : AV, let l := lc_find24 a b c d e; trim ((4,j)::(8,i)::(7,h)::(6,g)::(5,f)::l) l = [(0,a),(1,b),(2,c),(3,d),(4,j)] := by intros; rfl
 refine R_nil (tr ..) ?_; clear tr
 refine then_n ?_
 refine at_ret rfl ?_
 refine fpure ?_
 refine ⟨?_, rfl⟩
 rfl

abbrev lc_find26 (a b c d e : AV) : Env := [(0,a),(1,b),(2,c),(3,d),(4,e)]
theorem find26 (lim : Nat) (H : Heap) (l : List Bt) (m : List Bw) (s : ByteArray) (hl : l.length ≤ 100000) (hm : m.length ≤ 100000) :
    ACall sig lim 26 [.agg [btsAV l, bwsAV m], .v (.string s)] H fun r H' => r = AV.i (idxW m s) ∧ H' = H := by
 refine ACall_pure (fa := fa26) rfl rfl rfl rfl ?_
 have tr : ∀ a0 a1 : AV, env0 fa26.keep [a0, a1] = [(0,a0),(1,a1),(2,.any),(3,.any),(4,.any)] := fun a0 a1 => rfl
 refine W_to (tr _ _) ?_; clear tr
 refine at_seq rfl ?_
 refine rg rfl ?_
 refine R_box rfl (by simp (disch := first | omega | (simp only [List.length_map, List.length_append, List.length_set, List.length_cons, List.length_nil]; omega)) only [go_sem, ↓reduceIte, Nat.reduceEqDiff, reduceCtorEq] <;> rfl) rfl rfl ?_
 refine R_box rfl (by simp (disch := first | omega | (simp only [List.length_map, List.length_append, List.length_set, List.length_cons, List.length_nil]; omega)) only [go_sem, ↓reduceIte, Nat.reduceEqDiff, reduceCtorEq] <;> rfl) rfl rfl ?_
 refine Rq ?_
 have tr : ∀ a b c d e f g h : AV, let l := lc_find26 a b c d e; trim ((4,h)::(3,g)::(2,f)::l) l = [(0,a),(1,b),(2,f),(3,g),(4,h)] := by intros; rfl
 refine R_nil (tr ..) ?_; clear tr
 refine then_n ?_
 refine at_seq rfl ?_
 refine rg rfl ?_
 refine Rq ?_
 refine Rq ?_
 refine Rq ?_
 refine Rcall ?_
 refine ACall_eq (index37 _ _ m s _ hm (by simp [hget])) ?_
 refine Rq ?_
 have tr : ∀ a b c d e f g h i j : AV, let l := lc_find26 a b c d e; trim ((4,j)::(8,i)::(7,h)::(6,g)::(5,f)::l) l = [(0,a),(1,b),(2,c),(3,d),(4,j)] := by intros; rfl
 refine R_nil (tr ..) ?_; clear tr
 refine then_n ?_
 refine at_ret rfl ?_
 refine fpure ?_
 refine ⟨?_, rfl⟩
 rfl

abbrev lc_find29 (a b c d e f g h i j k : AV) : Env := [(0,a),(1,b),(2,c),(4,d),(5,e),(6,f),(8,g),(9,h),(10,i),(11,j),(18,k)]
theorem find29 (lim : Nat) (H : Heap) (l : List Bt) (m : List Bw) (s : ByteArray) (hl : l.length ≤ 100000) (hm : m.length ≤ 100000) :
    ACall sig lim 29 [.agg [btsAV l, bwsAV m], .v (.string s)] H fun r H' => r = AV.i (idxB l s) ∧ H' = H := by
 refine ACall_pure (fa := fa29) rfl rfl rfl rfl ?_
 have tr : ∀ a0 a1 : AV, env0 fa29.keep [a0, a1] = [(0,a0),(1,a1),(2,.any),(4,.any),(5,.any),(6,.any),(8,.any),(9,.any),(10,.any),(11,.any),(18,.any)] := fun a0 a1 => rfl
 refine W_to (tr _ _) ?_; clear tr
 refine at_seq rfl ?_
 refine rg rfl ?_
 refine R_box rfl (by simp (disch := first | omega | (simp only [List.length_map, List.length_append, List.length_set, List.length_cons, List.length_nil]; omega)) only [go_sem, ↓reduceIte, Nat.reduceEqDiff, reduceCtorEq] <;> rfl) rfl rfl ?_
 refine Rq ?_
 have tr : ∀ a b c d e f g h i j k m n : AV, let l := lc_find29 a b c d e f g h i j k; trim ((4,n)::(2,m)::l) l = [(0,a),(1,b),(2,m),(4,n),(5,e),(6,f),(8,g),(9,h),(10,i),(11,j),(18,k)] := by intros; rfl
 refine R_nil (tr ..) ?_; clear tr
 refine then_n ?_
 refine at_seq rfl ?_
 refine at_seq rfl ?_
 refine rg rfl ?_
 refine Rq ?_
 refine Rq ?_
 refine Rq ?_
 refine Rq ?_
 have tr : ∀ a b c d e f g h i j k m n o p : AV, let l := lc_find29 a b c d e f g h i j k; trim ((10,p)::(9,o)::(8,n)::(7,m)::l) l = [(0,a),(1,b),(2,c),(4,d),(5,e),(6,f),(8,n),(9,o),(10,p),(11,j),(18,k)] := by intros; rfl
 refine R_nil (tr ..) ?_; clear tr
 refine then_n ?_
 refine at_block rfl ?_
 refine loop_n rfl (fun mm kv H' => ∃ u : Nat, ∃ X : Heap, ∃ x4 x5 x6 x11 x18 : AV, (kv = [(4, x4), (5, x5), (6, x6), (10, AV.i u), (11, x11), (18, x18)]) ∧ (mm = l.length - u) ∧ (H' = H ++ [some [btsAV l, bwsAV m]] ++ X) ∧ (u ≤ l.length) ∧ (∀ k, k < u → (fun u => eqB (gt l u).nm s) k = false)) ⟨0, [], _, _, _, _, _, rfl, rfl, by simp, by omega, by intro k hk; omega⟩ (by rfl) ?_
 rintro mm kv H1 ⟨u, X, x4, x5, x6, x11, x18, rfl, rfl, hX, hu, hk⟩
 have tr : ∀ a b c d e f g h i j k m n o p q r : AV, upd [(0,a),(1,b),(2,c),(4,d),(5,e),(6,f),(8,g),(9,h),(10,i),(11,j),(18,k)] [(4,m),(5,n),(6,o),(10,p),(11,q),(18,r)] = [(0,a),(1,b),(2,c),(4,m),(5,n),(6,o),(8,g),(9,h),(10,p),(11,q),(18,r)] := by intros; rfl
 refine W_to (tr ..) ?_; clear tr
 subst hX
 refine at_seq rfl ?_
 refine rg rfl ?_
 refine Rq ?_
 have tr : ∀ a b c d e f g h i j k m : AV, let l := lc_find29 a b c d e f g h i j k; trim ((11,m)::l) l = [(0,a),(1,b),(2,c),(4,d),(5,e),(6,f),(8,g),(9,h),(10,i),(11,m),(18,k)] := by intros; rfl
 refine R_nil (tr ..) ?_; clear tr
 refine then_n ?_
 refine at_seq rfl ?_
 refine cdd (fun h1 => ?_) (fun h1 => ?_)
 ·
  try simp only [decide_eq_true_eq, decide_eq_false_iff_not, Bool.not_eq_true', Bool.not_eq_false', beq_iff_eq, beq_eq_false_iff_ne, ne_eq] at h1
  refine at_skip rfl ?_
  refine then_n ?_
  refine at_seq rfl ?_
  refine at_block rfl ?_
  refine at_seq rfl ?_
  refine rg rfl ?_
  refine Rq ?_
  refine Rq ?_
  refine Rq ?_
  refine R_alloc (by simp (disch := first | omega | (simp only [List.length_map, List.length_append, List.length_set, List.length_cons, List.length_nil]; omega)) only [go_sem, ↓reduceIte, Nat.reduceEqDiff, reduceCtorEq] <;> rfl) rfl (by simp only [List.map_cons, List.map_nil]; rfl) ?_
  refine Rq ?_
  refine R_store ty31 (by simp (disch := first | omega | (simp only [List.length_map, List.length_append, List.length_set, List.length_cons, List.length_nil]; omega)) only [go_sem, ↓reduceIte, Nat.reduceEqDiff, reduceCtorEq] <;> rfl) (by simp (disch := first | omega | (simp only [List.length_map, List.length_append, List.length_set, List.length_cons, List.length_nil]; omega)) only [go_sem, ↓reduceIte, Nat.reduceEqDiff, reduceCtorEq] <;> rfl) (by simp (disch := first | omega | (simp only [List.length_map, List.length_append, List.length_set, List.length_cons, List.length_nil]; omega)) only [go_sem, ↓reduceIte, Nat.reduceEqDiff, reduceCtorEq] <;> rfl) (by simp) (by rfl) (by simp (disch := first | omega | (simp only [List.length_map, List.length_append, List.length_set, List.length_cons, List.length_nil]; omega)) only [go_sem, ↓reduceIte, Nat.reduceEqDiff, reduceCtorEq] <;> rfl) ?_
  have tr : ∀ a b c d e f g h i j k m n o p q : AV, let l := lc_find29 a b c d e f g h i j k; trim ((5,q)::(6,p)::(14,o)::(13,n)::(12,m)::l) l = [(0,a),(1,b),(2,c),(4,d),(5,q),(6,p),(8,g),(9,h),(10,i),(11,j),(18,k)] := by intros; rfl
  refine R_nil (tr ..) ?_; clear tr
  refine then_n ?_
  refine at_seq rfl ?_
  refine rg rfl ?_
  refine Rq ?_
  refine Rq ?_
  refine Rq ?_
  refine Rq ?_
  have tr : ∀ a b c d e f g h i j k m n o p : AV, let l := lc_find29 a b c d e f g h i j k; trim ((18,p)::(17,o)::(16,n)::(15,m)::l) l = [(0,a),(1,b),(2,c),(4,d),(5,e),(6,f),(8,g),(9,h),(10,i),(11,j),(18,p)] := by intros; rfl
  refine R_nil (tr ..) ?_; clear tr
  refine then_n ?_
  refine cdd (fun h2 => ?_) (fun h2 => ?_)
  ·
   try simp only [decide_eq_true_eq, decide_eq_false_iff_not, Bool.not_eq_true', Bool.not_eq_false', beq_iff_eq, beq_eq_false_iff_ne, ne_eq] at h2
   refine at_seq rfl ?_
   refine rg rfl ?_
   refine Rq ?_
   refine Rq ?_
   have tr : ∀ a b c d e f g h i j k m n : AV, let l := lc_find29 a b c d e f g h i j k; trim ((4,n)::(19,m)::l) l = [(0,a),(1,b),(2,c),(4,n),(5,e),(6,f),(8,g),(9,h),(10,i),(11,j),(18,k)] := by intros; rfl
   refine R_nil (tr ..) ?_; clear tr
   refine then_n ?_
   refine at_ret rfl ?_
   refine blk_r ?_
   refine then_r ?_
   refine then_r ?_
   refine blk_r ?_
   refine then_r ?_
   refine fpure ?_
   refine ⟨?_, rfl⟩
   rw [idxB, fidx_hit (v := u) (by omega) hk (by first | assumption | simp_all [eqB])]
  ·
   try simp only [decide_eq_true_eq, decide_eq_false_iff_not, Bool.not_eq_true', Bool.not_eq_false', beq_iff_eq, beq_eq_false_iff_ne, ne_eq] at h2
   refine at_skip rfl ?_
   refine blk_n ?_
   refine then_n ?_
   refine rg rfl ?_
   refine Rq ?_
   refine Rq ?_
   have tr : ∀ a b c d e f g h i j k m n : AV, let l := lc_find29 a b c d e f g h i j k; trim ((10,n)::(20,m)::l) l = [(0,a),(1,b),(2,c),(4,d),(5,e),(6,f),(8,g),(9,h),(10,n),(11,j),(18,k)] := by intros; rfl
   refine R_nil (tr ..) ?_; clear tr
   refine then_n ?_
   exact ⟨_, _, ⟨u + 1, X ++ [some (btC (gt l u))], _, _, _, _, _, rfl, rfl, by simp; rfl, by omega, by exact all_step hk (by first | assumption | simp_all [eqB])⟩, by rfl, by omega⟩
 ·
  try simp only [decide_eq_true_eq, decide_eq_false_iff_not, Bool.not_eq_true', Bool.not_eq_false', beq_iff_eq, beq_eq_false_iff_ne, ne_eq] at h1
  refine at_exit rfl ?_
  refine then_x ?_
  refine then_x ?_
  refine blk_x ?_
  refine then_n ?_
  refine at_seq rfl ?_
  refine rg rfl ?_
  refine Rq ?_
  have tr : ∀ a b c d e f g h i j k m : AV, let l := lc_find29 a b c d e f g h i j k; trim ((4,m)::l) l = [(0,a),(1,b),(2,c),(4,m),(5,e),(6,f),(8,g),(9,h),(10,i),(11,j),(18,k)] := by intros; rfl
  refine R_nil (tr ..) ?_; clear tr
  refine then_n ?_
  refine at_ret rfl ?_
  refine fpure ?_
  refine ⟨?_, rfl⟩
  rw [idxB, fidx_miss (v := u) (by omega) hk]

abbrev lc_find31 (a b c d e f g h i j k : AV) : Env := [(0,a),(1,b),(2,c),(4,d),(5,e),(6,f),(8,g),(9,h),(10,i),(11,j),(18,k)]
theorem find31 (lim : Nat) (H : Heap) (l : List Bt) (m : List Bw) (s : ByteArray) (hl : l.length ≤ 100000) (hm : m.length ≤ 100000) :
    ACall sig lim 31 [.agg [btsAV l, bwsAV m], .v (.string s)] H fun r H' => r = AV.i (idxW m s) ∧ H' = H := by
 refine ACall_pure (fa := fa31) rfl rfl rfl rfl ?_
 have tr : ∀ a0 a1 : AV, env0 fa31.keep [a0, a1] = [(0,a0),(1,a1),(2,.any),(4,.any),(5,.any),(6,.any),(8,.any),(9,.any),(10,.any),(11,.any),(18,.any)] := fun a0 a1 => rfl
 refine W_to (tr _ _) ?_; clear tr
 refine at_seq rfl ?_
 refine rg rfl ?_
 refine R_box rfl (by simp (disch := first | omega | (simp only [List.length_map, List.length_append, List.length_set, List.length_cons, List.length_nil]; omega)) only [go_sem, ↓reduceIte, Nat.reduceEqDiff, reduceCtorEq] <;> rfl) rfl rfl ?_
 refine Rq ?_
 have tr : ∀ a b c d e f g h i j k m n : AV, let l := lc_find31 a b c d e f g h i j k; trim ((4,n)::(2,m)::l) l = [(0,a),(1,b),(2,m),(4,n),(5,e),(6,f),(8,g),(9,h),(10,i),(11,j),(18,k)] := by intros; rfl
 refine R_nil (tr ..) ?_; clear tr
 refine then_n ?_
 refine at_seq rfl ?_
 refine at_seq rfl ?_
 refine rg rfl ?_
 refine Rq ?_
 refine Rq ?_
 refine Rq ?_
 refine Rq ?_
 have tr : ∀ a b c d e f g h i j k m n o p : AV, let l := lc_find31 a b c d e f g h i j k; trim ((10,p)::(9,o)::(8,n)::(7,m)::l) l = [(0,a),(1,b),(2,c),(4,d),(5,e),(6,f),(8,n),(9,o),(10,p),(11,j),(18,k)] := by intros; rfl
 refine R_nil (tr ..) ?_; clear tr
 refine then_n ?_
 refine at_block rfl ?_
 refine loop_n rfl (fun mm kv H' => ∃ u : Nat, ∃ X : Heap, ∃ x4 x5 x6 x11 x18 : AV, (kv = [(4, x4), (5, x5), (6, x6), (10, AV.i u), (11, x11), (18, x18)]) ∧ (mm = m.length - u) ∧ (H' = H ++ [some [btsAV l, bwsAV m]] ++ X) ∧ (u ≤ m.length) ∧ (∀ k, k < u → (fun u => eqB (gt m u).nm s) k = false)) ⟨0, [], _, _, _, _, _, rfl, rfl, by simp, by omega, by intro k hk; omega⟩ (by rfl) ?_
 rintro mm kv H1 ⟨u, X, x4, x5, x6, x11, x18, rfl, rfl, hX, hu, hk⟩
 have tr : ∀ a b c d e f g h i j k m n o p q r : AV, upd [(0,a),(1,b),(2,c),(4,d),(5,e),(6,f),(8,g),(9,h),(10,i),(11,j),(18,k)] [(4,m),(5,n),(6,o),(10,p),(11,q),(18,r)] = [(0,a),(1,b),(2,c),(4,m),(5,n),(6,o),(8,g),(9,h),(10,p),(11,q),(18,r)] := by intros; rfl
 refine W_to (tr ..) ?_; clear tr
 subst hX
 refine at_seq rfl ?_
 refine rg rfl ?_
 refine Rq ?_
 have tr : ∀ a b c d e f g h i j k m : AV, let l := lc_find31 a b c d e f g h i j k; trim ((11,m)::l) l = [(0,a),(1,b),(2,c),(4,d),(5,e),(6,f),(8,g),(9,h),(10,i),(11,m),(18,k)] := by intros; rfl
 refine R_nil (tr ..) ?_; clear tr
 refine then_n ?_
 refine at_seq rfl ?_
 refine cdd (fun h1 => ?_) (fun h1 => ?_)
 ·
  try simp only [decide_eq_true_eq, decide_eq_false_iff_not, Bool.not_eq_true', Bool.not_eq_false', beq_iff_eq, beq_eq_false_iff_ne, ne_eq] at h1
  refine at_skip rfl ?_
  refine then_n ?_
  refine at_seq rfl ?_
  refine at_block rfl ?_
  refine at_seq rfl ?_
  refine rg rfl ?_
  refine Rq ?_
  refine Rq ?_
  refine Rq ?_
  refine R_alloc (by simp (disch := first | omega | (simp only [List.length_map, List.length_append, List.length_set, List.length_cons, List.length_nil]; omega)) only [go_sem, ↓reduceIte, Nat.reduceEqDiff, reduceCtorEq] <;> rfl) rfl (by simp only [List.map_cons, List.map_nil]; rfl) ?_
  refine Rq ?_
  refine R_store ty65 (by simp (disch := first | omega | (simp only [List.length_map, List.length_append, List.length_set, List.length_cons, List.length_nil]; omega)) only [go_sem, ↓reduceIte, Nat.reduceEqDiff, reduceCtorEq] <;> rfl) (by simp (disch := first | omega | (simp only [List.length_map, List.length_append, List.length_set, List.length_cons, List.length_nil]; omega)) only [go_sem, ↓reduceIte, Nat.reduceEqDiff, reduceCtorEq] <;> rfl) (by simp (disch := first | omega | (simp only [List.length_map, List.length_append, List.length_set, List.length_cons, List.length_nil]; omega)) only [go_sem, ↓reduceIte, Nat.reduceEqDiff, reduceCtorEq] <;> rfl) (by simp) (by rfl) (by simp (disch := first | omega | (simp only [List.length_map, List.length_append, List.length_set, List.length_cons, List.length_nil]; omega)) only [go_sem, ↓reduceIte, Nat.reduceEqDiff, reduceCtorEq] <;> rfl) ?_
  have tr : ∀ a b c d e f g h i j k m n o p q : AV, let l := lc_find31 a b c d e f g h i j k; trim ((5,q)::(6,p)::(14,o)::(13,n)::(12,m)::l) l = [(0,a),(1,b),(2,c),(4,d),(5,q),(6,p),(8,g),(9,h),(10,i),(11,j),(18,k)] := by intros; rfl
  refine R_nil (tr ..) ?_; clear tr
  refine then_n ?_
  refine at_seq rfl ?_
  refine rg rfl ?_
  refine Rq ?_
  refine Rq ?_
  refine Rq ?_
  refine Rq ?_
  have tr : ∀ a b c d e f g h i j k m n o p : AV, let l := lc_find31 a b c d e f g h i j k; trim ((18,p)::(17,o)::(16,n)::(15,m)::l) l = [(0,a),(1,b),(2,c),(4,d),(5,e),(6,f),(8,g),(9,h),(10,i),(11,j),(18,p)] := by intros; rfl
  refine R_nil (tr ..) ?_; clear tr
  refine then_n ?_
  refine cdd (fun h2 => ?_) (fun h2 => ?_)
  ·
   try simp only [decide_eq_true_eq, decide_eq_false_iff_not, Bool.not_eq_true', Bool.not_eq_false', beq_iff_eq, beq_eq_false_iff_ne, ne_eq] at h2
   refine at_seq rfl ?_
   refine rg rfl ?_
   refine Rq ?_
   refine Rq ?_
   have tr : ∀ a b c d e f g h i j k m n : AV, let l := lc_find31 a b c d e f g h i j k; trim ((4,n)::(19,m)::l) l = [(0,a),(1,b),(2,c),(4,n),(5,e),(6,f),(8,g),(9,h),(10,i),(11,j),(18,k)] := by intros; rfl
   refine R_nil (tr ..) ?_; clear tr
   refine then_n ?_
   refine at_ret rfl ?_
   refine blk_r ?_
   refine then_r ?_
   refine then_r ?_
   refine blk_r ?_
   refine then_r ?_
   refine fpure ?_
   refine ⟨?_, rfl⟩
   rw [idxW, fidx_hit (v := u) (by omega) hk (by first | assumption | simp_all [eqB])]
  ·
   try simp only [decide_eq_true_eq, decide_eq_false_iff_not, Bool.not_eq_true', Bool.not_eq_false', beq_iff_eq, beq_eq_false_iff_ne, ne_eq] at h2
   refine at_skip rfl ?_
   refine blk_n ?_
   refine then_n ?_
   refine rg rfl ?_
   refine Rq ?_
   refine Rq ?_
   have tr : ∀ a b c d e f g h i j k m n : AV, let l := lc_find31 a b c d e f g h i j k; trim ((10,n)::(20,m)::l) l = [(0,a),(1,b),(2,c),(4,d),(5,e),(6,f),(8,g),(9,h),(10,n),(11,j),(18,k)] := by intros; rfl
   refine R_nil (tr ..) ?_; clear tr
   refine then_n ?_
   exact ⟨_, _, ⟨u + 1, X ++ [some (bwC (gt m u))], _, _, _, _, _, rfl, rfl, by simp; rfl, by omega, by exact all_step hk (by first | assumption | simp_all [eqB])⟩, by rfl, by omega⟩
 ·
  try simp only [decide_eq_true_eq, decide_eq_false_iff_not, Bool.not_eq_true', Bool.not_eq_false', beq_iff_eq, beq_eq_false_iff_ne, ne_eq] at h1
  refine at_exit rfl ?_
  refine then_x ?_
  refine then_x ?_
  refine blk_x ?_
  refine then_n ?_
  refine at_seq rfl ?_
  refine rg rfl ?_
  refine Rq ?_
  have tr : ∀ a b c d e f g h i j k m : AV, let l := lc_find31 a b c d e f g h i j k; trim ((4,m)::l) l = [(0,a),(1,b),(2,c),(4,m),(5,e),(6,f),(8,g),(9,h),(10,i),(11,j),(18,k)] := by intros; rfl
  refine R_nil (tr ..) ?_; clear tr
  refine then_n ?_
  refine at_ret rfl ?_
  refine fpure ?_
  refine ⟨?_, rfl⟩
  rw [idxW, fidx_miss (v := u) (by omega) hk]

end Go.Proofs.Ytplockpopmaejaa
end
