/-
  Texts of PointsTexts, part 8 of 10. Walks of chapter 51. The steps are written by program (walk.py).
-/
import Derived.Test.YtfnapmdedmbdbaaDoorKPointsTexts6
import Derived.Test.YtfnapmdedmbdbaaDoorKPointsTexts4
section
set_option linter.unusedSimpArgs false
set_option linter.unusedVariables false
set_option maxHeartbeats 1000000
set_option maxRecDepth 20000
namespace Go.Proofs.YtfnapmdedmbdbaaDoor
open Go Go.Am
abbrev lc_name_ok45 (a b c d e f g h i j : AV) : Env := [(0,a),(2,b),(3,c),(4,d),(5,e),(7,f),(8,g),(9,h),(10,i),(41,j)]
theorem name_ok45 (lim : Nat) (H : Heap) (s : ByteArray) (hs : s.size ≤ 9223372036854775807) :
    ACall sig lim 45 [.v (.string s)] H fun r H' => r = .v (.bool (nameS s)) ∧ H' = H := by
 refine ACall_pure (fa := fa45) rfl rfl rfl rfl ?_
 have tr : ∀ a0 : AV, env0 fa45.keep [a0] = lc_name_ok45 a0 .any .any .any .any .any .any .any .any .any := fun a0 => rfl
 refine W_to (tr _) ?_; clear tr
 refine at_seq rfl ?_
 refine rg rfl ?_
 refine Rq ?_
 have tr : ∀ a b c d e f g h i j k : AV, let l := lc_name_ok45 a b c d e f g h i j; trim ((2,k)::l) l = lc_name_ok45 a k c d e f g h i j := by intros; rfl
 refine R_nil (tr ..) ?_; clear tr
 refine then_n ?_
 refine at_seq rfl ?_
 refine at_seq rfl ?_
 refine rg rfl ?_
 refine Rq ?_
 refine R_bytes (b := s) (cv66 s) rfl tk66 tk5u (by simp (disch := first | omega | (simp only [List.length_map, List.length_append, List.length_set, List.length_cons, List.length_nil]; omega)) only [go_sem, ↓reduceIte, Nat.reduceEqDiff, reduceCtorEq] <;> rfl) (by omega) ?_
 obtain ⟨BL, hBL⟩ : ∃ x, x = s.data.toList.map (fun c => AV.v (.int .u8 (c.toNat : Int))) := ⟨_, rfl⟩
 rw [← hBL]
 have hbl : ∀ i, i < s.size → BL[i]? = some (.v (.int .u8 (bt s i))) := fun i hi => by rw [hBL]; exact bt_ld s i hi
 refine Rq ?_
 refine Rq ?_
 have tr : ∀ a b c d e f g h i j k m n o : AV, let l := lc_name_ok45 a b c d e f g h i j; trim ((9,o)::(8,n)::(7,m)::(6,k)::l) l = lc_name_ok45 a b c d e m n o i j := by intros; rfl
 refine R_nil (tr ..) ?_; clear tr
 refine then_n ?_
 refine at_block rfl ?_
 refine loop_n rfl (fun mm kv H' => ∃ u : Nat, ∃ x2 x3 x4 x5 x10 x41 : AV, (kv = [(2, x2), (3, x3), (4, x4), (5, x5), (9, AV.i u), (10, x10), (41, x41)]) ∧ (mm = s.size - u) ∧ (H' = H) ∧ (u ≤ s.size) ∧ (∀ i, i < u → ¬ badN s i)) ⟨0, _, _, _, _, _, _, rfl, rfl, rfl, by omega, by intro i hi; omega⟩ (by rfl) ?_
 rintro mm kv H' ⟨u, x2, x3, x4, x5, x10, x41, rfl, rfl, rfl, hu, hok⟩
 have tr : ∀ a b c d e f g h i j k m n o p q r : AV, upd (lc_name_ok45 a b c d e f g h i j) [(2,k),(3,m),(4,n),(5,o),(9,p),(10,q),(41,r)] = lc_name_ok45 a k m n o f g p q r := by intros; rfl
 refine W_to (tr ..) ?_; clear tr
 refine at_seq rfl ?_
 refine rg rfl ?_
 refine Rq ?_
 have tr : ∀ a b c d e f g h i j k : AV, let l := lc_name_ok45 a b c d e f g h i j; trim ((10,k)::l) l = lc_name_ok45 a b c d e f g h k j := by intros; rfl
 refine R_nil (tr ..) ?_; clear tr
 refine then_n ?_
 refine at_seq rfl ?_
 refine cdd (fun h1 => ?_) (fun h1 => ?_)
 ·
  try simp only [decide_eq_true_eq, decide_eq_false_iff_not, decide_eq_decide, Bool.not_eq_true', Bool.not_eq_false', beq_iff_eq, beq_eq_false_iff_ne, ne_eq, Bool.and_eq_true, Bool.and_eq_false_iff, decide_not] at h1
  refine at_skip rfl ?_
  refine then_n ?_
  refine at_seq rfl ?_
  refine at_block rfl ?_
  refine at_seq rfl ?_
  refine rg rfl ?_
  refine Rq ?_
  refine Rq ?_
  have hbu := hbl u (by omega)
  refine R_q rfl (by simp (disch := first | omega | (simp only [List.length_map, List.length_append, List.length_set, List.length_cons, List.length_nil]; omega)) only [go_sem, ↓reduceIte, Nat.reduceEqDiff, reduceCtorEq, hbu] <;> rfl) ?_
  refine Rq ?_
  refine Rq ?_
  have tr : ∀ a b c d e f g h i j k m n o p : AV, let l := lc_name_ok45 a b c d e f g h i j; trim ((4,p)::(3,o)::(13,n)::(12,m)::(11,k)::l) l = lc_name_ok45 a b o p e f g h i j := by intros; rfl
  refine R_nil (tr ..) ?_; clear tr
  refine then_n ?_
  refine at_seq rfl ?_
  refine rg rfl ?_
  refine Rq ?_
  refine Rq ?_
  refine Rq ?_
  refine Rp_split (fun h2 => ?_) (fun h2 => ?_)
  ·
   try simp only [decide_eq_true_eq, decide_eq_false_iff_not, decide_eq_decide, Bool.not_eq_true', Bool.not_eq_false', beq_iff_eq, beq_eq_false_iff_ne, ne_eq, Bool.and_eq_true, Bool.and_eq_false_iff, decide_not] at h2
   refine Ry ?_
   refine Rq ?_
   refine Ry ?_
   refine Rq ?_
   refine Rq ?_
   refine Rq ?_
   have tr : ∀ a b c d e f g h i j k m n o p q r : AV, let l := lc_name_ok45 a b c d e f g h i j; trim ((5,r)::(19,q)::(18,p)::(17,o)::(16,n)::(15,m)::(14,k)::l) l = lc_name_ok45 a b c d r f g h i j := by intros; rfl
   refine R_nil (tr ..) ?_; clear tr
   refine then_n ?_
   refine at_seq rfl ?_
   refine rg rfl ?_
   refine Rq ?_
   refine Rq ?_
   refine Rq ?_
   refine Rp_split (fun h3 => ?_) (fun h3 => ?_)
   ·
    try simp only [decide_eq_true_eq, decide_eq_false_iff_not, decide_eq_decide, Bool.not_eq_true', Bool.not_eq_false', beq_iff_eq, beq_eq_false_iff_ne, ne_eq, Bool.and_eq_true, Bool.and_eq_false_iff, decide_not] at h3
    refine Ry ?_
    refine Rq ?_
    refine Ry ?_
    refine Rq ?_
    refine Ry ?_
    refine Rq ?_
    refine Rp_split (fun h4 => ?_) (fun h4 => ?_)
    ·
     try simp only [decide_eq_true_eq, decide_eq_false_iff_not, decide_eq_decide, Bool.not_eq_true', Bool.not_eq_false', beq_iff_eq, beq_eq_false_iff_ne, ne_eq, Bool.and_eq_true, Bool.and_eq_false_iff, decide_not] at h4
     refine Rn ?_
     refine Rn ?_
     refine Rn ?_
     refine Ru ?_
     refine Ru ?_
     refine Rn ?_
     refine Rn ?_
     refine Ru ?_
     refine Ru ?_
     refine Ru ?_
     refine Ru ?_
     refine Ru ?_
     refine Ru ?_
     refine Rn ?_
     refine Ry ?_
     refine Rq ?_
     refine Rq ?_
     have tr : ∀ a b c d e f g h i j k m n o p q r s t u v w x y z A B C D E F G : AV, let l := lc_name_ok45 a b c d e f g h i j; trim ((41,G)::(40,F)::(39,E)::(38,D)::(37,C)::(36,B)::(35,A)::(34,z)::(33,y)::(32,x)::(31,w)::(30,v)::(29,u)::(28,t)::(27,s)::(26,r)::(25,q)::(24,p)::(23,o)::(22,n)::(21,m)::(20,k)::l) l = lc_name_ok45 a b c d e f g h i G := by intros; rfl
     refine R_nil (tr ..) ?_; clear tr
     refine then_n ?_
     refine cdt ?_
     refine at_seq rfl ?_
     refine rg rfl ?_
     refine Rq ?_
     have tr : ∀ a b c d e f g h i j k : AV, let l := lc_name_ok45 a b c d e f g h i j; trim ((2,k)::l) l = lc_name_ok45 a k c d e f g h i j := by intros; rfl
     refine R_nil (tr ..) ?_; clear tr
     refine then_n ?_
     refine at_ret rfl ?_
     refine blk_r ?_
     refine then_r ?_
     refine then_r ?_
     refine blk_r ?_
     refine then_r ?_
     first | (refine fpure ?_; refine ⟨?_, rfl⟩; rw [name_bad (i := u) (by omega) (by unfold badN; omega)]; done) | (refine fpure ?_; refine ⟨?_, rfl⟩; by_cases h16 : s.size ≤ 16 <;> first | (rw [name_ok (by omega) (by omega) (fun i hi => hok i (by omega))]; done) | (rw [name_ok (by omega) (by omega) (fun i hi => hok i (by omega))]; exact congrArg (fun z => AV.v (.bool z)) (decide_eq_true (by omega))) | (rw [name_len (by omega)]; done) | (rw [name_len (by omega)]; exact congrArg (fun z => AV.v (.bool z)) (decide_eq_false (by omega))); done)
    ·
     try simp only [decide_eq_true_eq, decide_eq_false_iff_not, decide_eq_decide, Bool.not_eq_true', Bool.not_eq_false', beq_iff_eq, beq_eq_false_iff_ne, ne_eq, Bool.and_eq_true, Bool.and_eq_false_iff, decide_not] at h4
     refine Ry ?_
     refine Rq ?_
     refine Ry ?_
     refine Rq ?_
     refine Ry ?_
     refine Rq ?_
     refine Rp_split (fun h5 => ?_) (fun h5 => ?_)
     ·
      try simp only [decide_eq_true_eq, decide_eq_false_iff_not, decide_eq_decide, Bool.not_eq_true', Bool.not_eq_false', beq_iff_eq, beq_eq_false_iff_ne, ne_eq, Bool.and_eq_true, Bool.and_eq_false_iff, decide_not] at h5
      refine Ry ?_
      refine Rq ?_
      refine Ry ?_
      refine Rq ?_
      refine Ry ?_
      refine Rq ?_
      refine Ry ?_
      refine Rq ?_
      refine Rp_split (fun h6 => ?_) (fun h6 => ?_)
      ·
       try simp only [decide_eq_true_eq, decide_eq_false_iff_not, decide_eq_decide, Bool.not_eq_true', Bool.not_eq_false', beq_iff_eq, beq_eq_false_iff_ne, ne_eq, Bool.and_eq_true, Bool.and_eq_false_iff, decide_not] at h6
       refine Ry ?_
       refine Rq ?_
       refine Ry ?_
       refine Rq ?_
       refine Ry ?_
       refine Rq ?_
       refine Rp_split (fun h7 => ?_) (fun h7 => ?_)
       ·
        try simp only [decide_eq_true_eq, decide_eq_false_iff_not, decide_eq_decide, Bool.not_eq_true', Bool.not_eq_false', beq_iff_eq, beq_eq_false_iff_ne, ne_eq, Bool.and_eq_true, Bool.and_eq_false_iff, decide_not] at h7
        refine Rn ?_
        refine Rn ?_
        refine Ry ?_
        refine Rq ?_
        refine Ry ?_
        refine Rq ?_
        refine Ry ?_
        refine Rq ?_
        refine Rq ?_
        have tr : ∀ a b c d e f g h i j k m n o p q r s t u v w x y z A B C D E F G : AV, let l := lc_name_ok45 a b c d e f g h i j; trim ((41,G)::(40,F)::(39,E)::(38,D)::(37,C)::(36,B)::(35,A)::(34,z)::(33,y)::(32,x)::(31,w)::(30,v)::(29,u)::(28,t)::(27,s)::(26,r)::(25,q)::(24,p)::(23,o)::(22,n)::(21,m)::(20,k)::l) l = lc_name_ok45 a b c d e f g h i G := by intros; rfl
        refine R_nil (tr ..) ?_; clear tr
        refine then_n ?_
        refine cdt ?_
        refine at_seq rfl ?_
        refine rg rfl ?_
        refine Rq ?_
        have tr : ∀ a b c d e f g h i j k : AV, let l := lc_name_ok45 a b c d e f g h i j; trim ((2,k)::l) l = lc_name_ok45 a k c d e f g h i j := by intros; rfl
        refine R_nil (tr ..) ?_; clear tr
        refine then_n ?_
        refine at_ret rfl ?_
        refine blk_r ?_
        refine then_r ?_
        refine then_r ?_
        refine blk_r ?_
        refine then_r ?_
        first | (refine fpure ?_; refine ⟨?_, rfl⟩; rw [name_bad (i := u) (by omega) (by unfold badN; omega)]; done) | (refine fpure ?_; refine ⟨?_, rfl⟩; by_cases h16 : s.size ≤ 16 <;> first | (rw [name_ok (by omega) (by omega) (fun i hi => hok i (by omega))]; done) | (rw [name_ok (by omega) (by omega) (fun i hi => hok i (by omega))]; exact congrArg (fun z => AV.v (.bool z)) (decide_eq_true (by omega))) | (rw [name_len (by omega)]; done) | (rw [name_len (by omega)]; exact congrArg (fun z => AV.v (.bool z)) (decide_eq_false (by omega))); done)
       ·
        try simp only [decide_eq_true_eq, decide_eq_false_iff_not, decide_eq_decide, Bool.not_eq_true', Bool.not_eq_false', beq_iff_eq, beq_eq_false_iff_ne, ne_eq, Bool.and_eq_true, Bool.and_eq_false_iff, decide_not] at h7
        refine Ry ?_
        refine Rq ?_
        refine Ry ?_
        refine Rq ?_
        refine Ry ?_
        refine Rq ?_
        refine Ry ?_
        refine Rq ?_
        refine Ry ?_
        refine Rq ?_
        refine Rq ?_
        have tr : ∀ a b c d e f g h i j k m n o p q r s t u v w x y z A B C D E F G : AV, let l := lc_name_ok45 a b c d e f g h i j; trim ((41,G)::(40,F)::(39,E)::(38,D)::(37,C)::(36,B)::(35,A)::(34,z)::(33,y)::(32,x)::(31,w)::(30,v)::(29,u)::(28,t)::(27,s)::(26,r)::(25,q)::(24,p)::(23,o)::(22,n)::(21,m)::(20,k)::l) l = lc_name_ok45 a b c d e f g h i G := by intros; rfl
        refine R_nil (tr ..) ?_; clear tr
        refine then_n ?_
        refine cdd (fun h8 => ?_) (fun h8 => ?_)
        ·
         try simp only [decide_eq_true_eq, decide_eq_false_iff_not, decide_eq_decide, Bool.not_eq_true', Bool.not_eq_false', beq_iff_eq, beq_eq_false_iff_ne, ne_eq, Bool.and_eq_true, Bool.and_eq_false_iff, decide_not] at h8
         refine at_seq rfl ?_
         refine rg rfl ?_
         refine Rq ?_
         have tr : ∀ a b c d e f g h i j k : AV, let l := lc_name_ok45 a b c d e f g h i j; trim ((2,k)::l) l = lc_name_ok45 a k c d e f g h i j := by intros; rfl
         refine R_nil (tr ..) ?_; clear tr
         refine then_n ?_
         refine at_ret rfl ?_
         refine blk_r ?_
         refine then_r ?_
         refine then_r ?_
         refine blk_r ?_
         refine then_r ?_
         first | (refine fpure ?_; refine ⟨?_, rfl⟩; rw [name_bad (i := u) (by omega) (by unfold badN; omega)]; done) | (refine fpure ?_; refine ⟨?_, rfl⟩; by_cases h16 : s.size ≤ 16 <;> first | (rw [name_ok (by omega) (by omega) (fun i hi => hok i (by omega))]; done) | (rw [name_ok (by omega) (by omega) (fun i hi => hok i (by omega))]; exact congrArg (fun z => AV.v (.bool z)) (decide_eq_true (by omega))) | (rw [name_len (by omega)]; done) | (rw [name_len (by omega)]; exact congrArg (fun z => AV.v (.bool z)) (decide_eq_false (by omega))); done)
        ·
         try simp only [decide_eq_true_eq, decide_eq_false_iff_not, decide_eq_decide, Bool.not_eq_true', Bool.not_eq_false', beq_iff_eq, beq_eq_false_iff_ne, ne_eq, Bool.and_eq_true, Bool.and_eq_false_iff, decide_not] at h8
         refine at_skip rfl ?_
         refine blk_n ?_
         refine then_n ?_
         refine rg rfl ?_
         refine Rq ?_
         refine Rq ?_
         have tr : ∀ a b c d e f g h i j k m : AV, let l := lc_name_ok45 a b c d e f g h i j; trim ((9,m)::(42,k)::l) l = lc_name_ok45 a b c d e f g m i j := by intros; rfl
         refine R_nil (tr ..) ?_; clear tr
         refine then_n ?_
         exact ⟨_, _, ⟨u + 1, _, _, _, _, _, _, rfl, rfl, rfl, by omega, by exact all_step hok (by unfold badN; omega)⟩, by rfl, by omega⟩
      ·
       try simp only [decide_eq_true_eq, decide_eq_false_iff_not, decide_eq_decide, Bool.not_eq_true', Bool.not_eq_false', beq_iff_eq, beq_eq_false_iff_ne, ne_eq, Bool.and_eq_true, Bool.and_eq_false_iff, decide_not] at h6
       refine Rn ?_
       refine Rn ?_
       refine Rn ?_
       refine Ru ?_
       refine Ru ?_
       refine Rn ?_
       refine Ry ?_
       refine Rq ?_
       refine Ry ?_
       refine Rq ?_
       refine Rq ?_
       have tr : ∀ a b c d e f g h i j k m n o p q r s t u v w x y z A B C D E F G : AV, let l := lc_name_ok45 a b c d e f g h i j; trim ((41,G)::(40,F)::(39,E)::(38,D)::(37,C)::(36,B)::(35,A)::(34,z)::(33,y)::(32,x)::(31,w)::(30,v)::(29,u)::(28,t)::(27,s)::(26,r)::(25,q)::(24,p)::(23,o)::(22,n)::(21,m)::(20,k)::l) l = lc_name_ok45 a b c d e f g h i G := by intros; rfl
       refine R_nil (tr ..) ?_; clear tr
       refine then_n ?_
       refine cdf ?_
       refine at_skip rfl ?_
       refine blk_n ?_
       refine then_n ?_
       refine rg rfl ?_
       refine Rq ?_
       refine Rq ?_
       have tr : ∀ a b c d e f g h i j k m : AV, let l := lc_name_ok45 a b c d e f g h i j; trim ((9,m)::(42,k)::l) l = lc_name_ok45 a b c d e f g m i j := by intros; rfl
       refine R_nil (tr ..) ?_; clear tr
       refine then_n ?_
       exact ⟨_, _, ⟨u + 1, _, _, _, _, _, _, rfl, rfl, rfl, by omega, by exact all_step hok (by unfold badN; omega)⟩, by rfl, by omega⟩
     ·
      try simp only [decide_eq_true_eq, decide_eq_false_iff_not, decide_eq_decide, Bool.not_eq_true', Bool.not_eq_false', beq_iff_eq, beq_eq_false_iff_ne, ne_eq, Bool.and_eq_true, Bool.and_eq_false_iff, decide_not] at h5
      refine Rn ?_
      refine Rn ?_
      refine Ry ?_
      refine Rq ?_
      refine Ry ?_
      refine Rq ?_
      refine Rn ?_
      refine Rn ?_
      refine Rn ?_
      refine Ru ?_
      refine Ru ?_
      refine Rn ?_
      refine Ry ?_
      refine Rq ?_
      refine Ry ?_
      refine Rq ?_
      refine Rq ?_
      have tr : ∀ a b c d e f g h i j k m n o p q r s t u v w x y z A B C D E F G : AV, let l := lc_name_ok45 a b c d e f g h i j; trim ((41,G)::(40,F)::(39,E)::(38,D)::(37,C)::(36,B)::(35,A)::(34,z)::(33,y)::(32,x)::(31,w)::(30,v)::(29,u)::(28,t)::(27,s)::(26,r)::(25,q)::(24,p)::(23,o)::(22,n)::(21,m)::(20,k)::l) l = lc_name_ok45 a b c d e f g h i G := by intros; rfl
      refine R_nil (tr ..) ?_; clear tr
      refine then_n ?_
      refine cdf ?_
      refine at_skip rfl ?_
      refine blk_n ?_
      refine then_n ?_
      refine rg rfl ?_
      refine Rq ?_
      refine Rq ?_
      have tr : ∀ a b c d e f g h i j k m : AV, let l := lc_name_ok45 a b c d e f g h i j; trim ((9,m)::(42,k)::l) l = lc_name_ok45 a b c d e f g m i j := by intros; rfl
      refine R_nil (tr ..) ?_; clear tr
      refine then_n ?_
      exact ⟨_, _, ⟨u + 1, _, _, _, _, _, _, rfl, rfl, rfl, by omega, by exact all_step hok (by unfold badN; omega)⟩, by rfl, by omega⟩
   ·
    try simp only [decide_eq_true_eq, decide_eq_false_iff_not, decide_eq_decide, Bool.not_eq_true', Bool.not_eq_false', beq_iff_eq, beq_eq_false_iff_ne, ne_eq, Bool.and_eq_true, Bool.and_eq_false_iff, decide_not] at h3
    refine Rn ?_
    refine Rn ?_
    refine Rn ?_
    refine Ru ?_
    refine Ru ?_
    refine Ru ?_
    refine Ru ?_
    refine Ru ?_
    refine Ru ?_
    refine Ru ?_
    refine Ru ?_
    refine Ru ?_
    refine Ru ?_
    refine Ru ?_
    refine Ru ?_
    refine Ru ?_
    refine Ru ?_
    refine Rn ?_
    refine Rq ?_
    have tr : ∀ a b c d e f g h i j k m n o p q r s t u v w x y z A B C D E F G : AV, let l := lc_name_ok45 a b c d e f g h i j; trim ((41,G)::(40,F)::(39,E)::(38,D)::(37,C)::(36,B)::(35,A)::(34,z)::(33,y)::(32,x)::(31,w)::(30,v)::(29,u)::(28,t)::(27,s)::(26,r)::(25,q)::(24,p)::(23,o)::(22,n)::(21,m)::(20,k)::l) l = lc_name_ok45 a b c d e f g h i G := by intros; rfl
    refine R_nil (tr ..) ?_; clear tr
    refine then_n ?_
    refine cdf ?_
    refine at_skip rfl ?_
    refine blk_n ?_
    refine then_n ?_
    refine rg rfl ?_
    refine Rq ?_
    refine Rq ?_
    have tr : ∀ a b c d e f g h i j k m : AV, let l := lc_name_ok45 a b c d e f g h i j; trim ((9,m)::(42,k)::l) l = lc_name_ok45 a b c d e f g m i j := by intros; rfl
    refine R_nil (tr ..) ?_; clear tr
    refine then_n ?_
    exact ⟨_, _, ⟨u + 1, _, _, _, _, _, _, rfl, rfl, rfl, by omega, by exact all_step hok (by unfold badN; omega)⟩, by rfl, by omega⟩
  ·
   try simp only [decide_eq_true_eq, decide_eq_false_iff_not, decide_eq_decide, Bool.not_eq_true', Bool.not_eq_false', beq_iff_eq, beq_eq_false_iff_ne, ne_eq, Bool.and_eq_true, Bool.and_eq_false_iff, decide_not] at h2
   refine Rn ?_
   refine Rn ?_
   refine Rq ?_
   refine Rq ?_
   have tr : ∀ a b c d e f g h i j k m n o p q r : AV, let l := lc_name_ok45 a b c d e f g h i j; trim ((5,r)::(19,q)::(18,p)::(17,o)::(16,n)::(15,m)::(14,k)::l) l = lc_name_ok45 a b c d r f g h i j := by intros; rfl
   refine R_nil (tr ..) ?_; clear tr
   refine then_n ?_
   refine at_seq rfl ?_
   refine rg rfl ?_
   refine Rq ?_
   refine Rq ?_
   refine Rq ?_
   refine Ry ?_
   refine Rq ?_
   refine Ry ?_
   refine Rq ?_
   refine Ry ?_
   refine Rq ?_
   refine Rp_split (fun h9 => ?_) (fun h9 => ?_)
   ·
    try simp only [decide_eq_true_eq, decide_eq_false_iff_not, decide_eq_decide, Bool.not_eq_true', Bool.not_eq_false', beq_iff_eq, beq_eq_false_iff_ne, ne_eq, Bool.and_eq_true, Bool.and_eq_false_iff, decide_not] at h9
    refine Rn ?_
    refine Rn ?_
    refine Rn ?_
    refine Ru ?_
    refine Ru ?_
    refine Rn ?_
    refine Rn ?_
    refine Ru ?_
    refine Ru ?_
    refine Ru ?_
    refine Ru ?_
    refine Ru ?_
    refine Ru ?_
    refine Rn ?_
    refine Ry ?_
    refine Rq ?_
    refine Rq ?_
    have tr : ∀ a b c d e f g h i j k m n o p q r s t u v w x y z A B C D E F G : AV, let l := lc_name_ok45 a b c d e f g h i j; trim ((41,G)::(40,F)::(39,E)::(38,D)::(37,C)::(36,B)::(35,A)::(34,z)::(33,y)::(32,x)::(31,w)::(30,v)::(29,u)::(28,t)::(27,s)::(26,r)::(25,q)::(24,p)::(23,o)::(22,n)::(21,m)::(20,k)::l) l = lc_name_ok45 a b c d e f g h i G := by intros; rfl
    refine R_nil (tr ..) ?_; clear tr
    refine then_n ?_
    refine cdt ?_
    refine at_seq rfl ?_
    refine rg rfl ?_
    refine Rq ?_
    have tr : ∀ a b c d e f g h i j k : AV, let l := lc_name_ok45 a b c d e f g h i j; trim ((2,k)::l) l = lc_name_ok45 a k c d e f g h i j := by intros; rfl
    refine R_nil (tr ..) ?_; clear tr
    refine then_n ?_
    refine at_ret rfl ?_
    refine blk_r ?_
    refine then_r ?_
    refine then_r ?_
    refine blk_r ?_
    refine then_r ?_
    first | (refine fpure ?_; refine ⟨?_, rfl⟩; rw [name_bad (i := u) (by omega) (by unfold badN; omega)]; done) | (refine fpure ?_; refine ⟨?_, rfl⟩; by_cases h16 : s.size ≤ 16 <;> first | (rw [name_ok (by omega) (by omega) (fun i hi => hok i (by omega))]; done) | (rw [name_ok (by omega) (by omega) (fun i hi => hok i (by omega))]; exact congrArg (fun z => AV.v (.bool z)) (decide_eq_true (by omega))) | (rw [name_len (by omega)]; done) | (rw [name_len (by omega)]; exact congrArg (fun z => AV.v (.bool z)) (decide_eq_false (by omega))); done)
   ·
    try simp only [decide_eq_true_eq, decide_eq_false_iff_not, decide_eq_decide, Bool.not_eq_true', Bool.not_eq_false', beq_iff_eq, beq_eq_false_iff_ne, ne_eq, Bool.and_eq_true, Bool.and_eq_false_iff, decide_not] at h9
    refine Ry ?_
    refine Rq ?_
    refine Ry ?_
    refine Rq ?_
    refine Ry ?_
    refine Rq ?_
    refine Rp_split (fun h10 => ?_) (fun h10 => ?_)
    ·
     try simp only [decide_eq_true_eq, decide_eq_false_iff_not, decide_eq_decide, Bool.not_eq_true', Bool.not_eq_false', beq_iff_eq, beq_eq_false_iff_ne, ne_eq, Bool.and_eq_true, Bool.and_eq_false_iff, decide_not] at h10
     refine Ry ?_
     refine Rq ?_
     refine Ry ?_
     refine Rq ?_
     refine Ry ?_
     refine Rq ?_
     refine Ry ?_
     refine Rq ?_
     refine Rp_split (fun h11 => ?_) (fun h11 => ?_)
     ·
      try simp only [decide_eq_true_eq, decide_eq_false_iff_not, decide_eq_decide, Bool.not_eq_true', Bool.not_eq_false', beq_iff_eq, beq_eq_false_iff_ne, ne_eq, Bool.and_eq_true, Bool.and_eq_false_iff, decide_not] at h11
      refine Ry ?_
      refine Rq ?_
      refine Ry ?_
      refine Rq ?_
      refine Ry ?_
      refine Rq ?_
      refine Rp_split (fun h12 => ?_) (fun h12 => ?_)
      ·
       try simp only [decide_eq_true_eq, decide_eq_false_iff_not, decide_eq_decide, Bool.not_eq_true', Bool.not_eq_false', beq_iff_eq, beq_eq_false_iff_ne, ne_eq, Bool.and_eq_true, Bool.and_eq_false_iff, decide_not] at h12
       refine Rn ?_
       refine Rn ?_
       refine Ry ?_
       refine Rq ?_
       refine Ry ?_
       refine Rq ?_
       refine Ry ?_
       refine Rq ?_
       refine Rq ?_
       have tr : ∀ a b c d e f g h i j k m n o p q r s t u v w x y z A B C D E F G : AV, let l := lc_name_ok45 a b c d e f g h i j; trim ((41,G)::(40,F)::(39,E)::(38,D)::(37,C)::(36,B)::(35,A)::(34,z)::(33,y)::(32,x)::(31,w)::(30,v)::(29,u)::(28,t)::(27,s)::(26,r)::(25,q)::(24,p)::(23,o)::(22,n)::(21,m)::(20,k)::l) l = lc_name_ok45 a b c d e f g h i G := by intros; rfl
       refine R_nil (tr ..) ?_; clear tr
       refine then_n ?_
       refine cdt ?_
       refine at_seq rfl ?_
       refine rg rfl ?_
       refine Rq ?_
       have tr : ∀ a b c d e f g h i j k : AV, let l := lc_name_ok45 a b c d e f g h i j; trim ((2,k)::l) l = lc_name_ok45 a k c d e f g h i j := by intros; rfl
       refine R_nil (tr ..) ?_; clear tr
       refine then_n ?_
       refine at_ret rfl ?_
       refine blk_r ?_
       refine then_r ?_
       refine then_r ?_
       refine blk_r ?_
       refine then_r ?_
       first | (refine fpure ?_; refine ⟨?_, rfl⟩; rw [name_bad (i := u) (by omega) (by unfold badN; omega)]; done) | (refine fpure ?_; refine ⟨?_, rfl⟩; by_cases h16 : s.size ≤ 16 <;> first | (rw [name_ok (by omega) (by omega) (fun i hi => hok i (by omega))]; done) | (rw [name_ok (by omega) (by omega) (fun i hi => hok i (by omega))]; exact congrArg (fun z => AV.v (.bool z)) (decide_eq_true (by omega))) | (rw [name_len (by omega)]; done) | (rw [name_len (by omega)]; exact congrArg (fun z => AV.v (.bool z)) (decide_eq_false (by omega))); done)
      ·
       try simp only [decide_eq_true_eq, decide_eq_false_iff_not, decide_eq_decide, Bool.not_eq_true', Bool.not_eq_false', beq_iff_eq, beq_eq_false_iff_ne, ne_eq, Bool.and_eq_true, Bool.and_eq_false_iff, decide_not] at h12
       refine Ry ?_
       refine Rq ?_
       refine Ry ?_
       refine Rq ?_
       refine Ry ?_
       refine Rq ?_
       refine Ry ?_
       refine Rq ?_
       refine Ry ?_
       refine Rq ?_
       refine Rq ?_
       have tr : ∀ a b c d e f g h i j k m n o p q r s t u v w x y z A B C D E F G : AV, let l := lc_name_ok45 a b c d e f g h i j; trim ((41,G)::(40,F)::(39,E)::(38,D)::(37,C)::(36,B)::(35,A)::(34,z)::(33,y)::(32,x)::(31,w)::(30,v)::(29,u)::(28,t)::(27,s)::(26,r)::(25,q)::(24,p)::(23,o)::(22,n)::(21,m)::(20,k)::l) l = lc_name_ok45 a b c d e f g h i G := by intros; rfl
       refine R_nil (tr ..) ?_; clear tr
       refine then_n ?_
       refine cdd (fun h13 => ?_) (fun h13 => ?_)
       ·
        try simp only [decide_eq_true_eq, decide_eq_false_iff_not, decide_eq_decide, Bool.not_eq_true', Bool.not_eq_false', beq_iff_eq, beq_eq_false_iff_ne, ne_eq, Bool.and_eq_true, Bool.and_eq_false_iff, decide_not] at h13
        refine at_seq rfl ?_
        refine rg rfl ?_
        refine Rq ?_
        have tr : ∀ a b c d e f g h i j k : AV, let l := lc_name_ok45 a b c d e f g h i j; trim ((2,k)::l) l = lc_name_ok45 a k c d e f g h i j := by intros; rfl
        refine R_nil (tr ..) ?_; clear tr
        refine then_n ?_
        refine at_ret rfl ?_
        refine blk_r ?_
        refine then_r ?_
        refine then_r ?_
        refine blk_r ?_
        refine then_r ?_
        first | (refine fpure ?_; refine ⟨?_, rfl⟩; rw [name_bad (i := u) (by omega) (by unfold badN; omega)]; done) | (refine fpure ?_; refine ⟨?_, rfl⟩; by_cases h16 : s.size ≤ 16 <;> first | (rw [name_ok (by omega) (by omega) (fun i hi => hok i (by omega))]; done) | (rw [name_ok (by omega) (by omega) (fun i hi => hok i (by omega))]; exact congrArg (fun z => AV.v (.bool z)) (decide_eq_true (by omega))) | (rw [name_len (by omega)]; done) | (rw [name_len (by omega)]; exact congrArg (fun z => AV.v (.bool z)) (decide_eq_false (by omega))); done)
       ·
        try simp only [decide_eq_true_eq, decide_eq_false_iff_not, decide_eq_decide, Bool.not_eq_true', Bool.not_eq_false', beq_iff_eq, beq_eq_false_iff_ne, ne_eq, Bool.and_eq_true, Bool.and_eq_false_iff, decide_not] at h13
        refine at_skip rfl ?_
        refine blk_n ?_
        refine then_n ?_
        refine rg rfl ?_
        refine Rq ?_
        refine Rq ?_
        have tr : ∀ a b c d e f g h i j k m : AV, let l := lc_name_ok45 a b c d e f g h i j; trim ((9,m)::(42,k)::l) l = lc_name_ok45 a b c d e f g m i j := by intros; rfl
        refine R_nil (tr ..) ?_; clear tr
        refine then_n ?_
        exact ⟨_, _, ⟨u + 1, _, _, _, _, _, _, rfl, rfl, rfl, by omega, by exact all_step hok (by unfold badN; omega)⟩, by rfl, by omega⟩
     ·
      try simp only [decide_eq_true_eq, decide_eq_false_iff_not, decide_eq_decide, Bool.not_eq_true', Bool.not_eq_false', beq_iff_eq, beq_eq_false_iff_ne, ne_eq, Bool.and_eq_true, Bool.and_eq_false_iff, decide_not] at h11
      refine Rn ?_
      refine Rn ?_
      refine Rn ?_
      refine Ru ?_
      refine Ru ?_
      refine Rn ?_
      refine Ry ?_
      refine Rq ?_
      refine Ry ?_
      refine Rq ?_
      refine Rq ?_
      have tr : ∀ a b c d e f g h i j k m n o p q r s t u v w x y z A B C D E F G : AV, let l := lc_name_ok45 a b c d e f g h i j; trim ((41,G)::(40,F)::(39,E)::(38,D)::(37,C)::(36,B)::(35,A)::(34,z)::(33,y)::(32,x)::(31,w)::(30,v)::(29,u)::(28,t)::(27,s)::(26,r)::(25,q)::(24,p)::(23,o)::(22,n)::(21,m)::(20,k)::l) l = lc_name_ok45 a b c d e f g h i G := by intros; rfl
      refine R_nil (tr ..) ?_; clear tr
      refine then_n ?_
      refine cdf ?_
      refine at_skip rfl ?_
      refine blk_n ?_
      refine then_n ?_
      refine rg rfl ?_
      refine Rq ?_
      refine Rq ?_
      have tr : ∀ a b c d e f g h i j k m : AV, let l := lc_name_ok45 a b c d e f g h i j; trim ((9,m)::(42,k)::l) l = lc_name_ok45 a b c d e f g m i j := by intros; rfl
      refine R_nil (tr ..) ?_; clear tr
      refine then_n ?_
      exact ⟨_, _, ⟨u + 1, _, _, _, _, _, _, rfl, rfl, rfl, by omega, by exact all_step hok (by unfold badN; omega)⟩, by rfl, by omega⟩
    ·
     try simp only [decide_eq_true_eq, decide_eq_false_iff_not, decide_eq_decide, Bool.not_eq_true', Bool.not_eq_false', beq_iff_eq, beq_eq_false_iff_ne, ne_eq, Bool.and_eq_true, Bool.and_eq_false_iff, decide_not] at h10
     refine Rn ?_
     refine Rn ?_
     refine Ry ?_
     refine Rq ?_
     refine Ry ?_
     refine Rq ?_
     refine Rn ?_
     refine Rn ?_
     refine Rn ?_
     refine Ru ?_
     refine Ru ?_
     refine Rn ?_
     refine Ry ?_
     refine Rq ?_
     refine Ry ?_
     refine Rq ?_
     refine Rq ?_
     have tr : ∀ a b c d e f g h i j k m n o p q r s t u v w x y z A B C D E F G : AV, let l := lc_name_ok45 a b c d e f g h i j; trim ((41,G)::(40,F)::(39,E)::(38,D)::(37,C)::(36,B)::(35,A)::(34,z)::(33,y)::(32,x)::(31,w)::(30,v)::(29,u)::(28,t)::(27,s)::(26,r)::(25,q)::(24,p)::(23,o)::(22,n)::(21,m)::(20,k)::l) l = lc_name_ok45 a b c d e f g h i G := by intros; rfl
     refine R_nil (tr ..) ?_; clear tr
     refine then_n ?_
     refine cdf ?_
     refine at_skip rfl ?_
     refine blk_n ?_
     refine then_n ?_
     refine rg rfl ?_
     refine Rq ?_
     refine Rq ?_
     have tr : ∀ a b c d e f g h i j k m : AV, let l := lc_name_ok45 a b c d e f g h i j; trim ((9,m)::(42,k)::l) l = lc_name_ok45 a b c d e f g m i j := by intros; rfl
     refine R_nil (tr ..) ?_; clear tr
     refine then_n ?_
     exact ⟨_, _, ⟨u + 1, _, _, _, _, _, _, rfl, rfl, rfl, by omega, by exact all_step hok (by unfold badN; omega)⟩, by rfl, by omega⟩
 ·
  try simp only [decide_eq_true_eq, decide_eq_false_iff_not, decide_eq_decide, Bool.not_eq_true', Bool.not_eq_false', beq_iff_eq, beq_eq_false_iff_ne, ne_eq, Bool.and_eq_true, Bool.and_eq_false_iff, decide_not] at h1
  refine at_exit rfl ?_
  refine then_x ?_
  refine then_x ?_
  refine blk_x ?_
  refine then_n ?_
  refine at_seq rfl ?_
  refine rg rfl ?_
  refine Rq ?_
  refine Rq ?_
  refine Rq ?_
  refine Rq ?_
  refine Rp_split (fun h14 => ?_) (fun h14 => ?_)
  ·
   try simp only [decide_eq_true_eq, decide_eq_false_iff_not, decide_eq_decide, Bool.not_eq_true', Bool.not_eq_false', beq_iff_eq, beq_eq_false_iff_ne, ne_eq, Bool.and_eq_true, Bool.and_eq_false_iff, decide_not] at h14
   refine Ry ?_
   refine Rq ?_
   refine Ry ?_
   refine Rq ?_
   refine Ry ?_
   refine Rq ?_
   refine Rq ?_
   refine Rq ?_
   have tr : ∀ a b c d e f g h i j k m n o p q r s t : AV, let l := lc_name_ok45 a b c d e f g h i j; trim ((2,t)::(50,s)::(49,r)::(48,q)::(47,p)::(46,o)::(45,n)::(44,m)::(43,k)::l) l = lc_name_ok45 a t c d e f g h i j := by intros; rfl
   refine R_nil (tr ..) ?_; clear tr
   refine then_n ?_
   refine at_ret rfl ?_
   first | (refine fpure ?_; refine ⟨?_, rfl⟩; rw [name_bad (i := u) (by omega) (by unfold badN; omega)]; done) | (refine fpure ?_; refine ⟨?_, rfl⟩; by_cases h16 : s.size ≤ 16 <;> first | (rw [name_ok (by omega) (by omega) (fun i hi => hok i (by omega))]; done) | (rw [name_ok (by omega) (by omega) (fun i hi => hok i (by omega))]; exact congrArg (fun z => AV.v (.bool z)) (decide_eq_true (by omega))) | (rw [name_len (by omega)]; done) | (rw [name_len (by omega)]; exact congrArg (fun z => AV.v (.bool z)) (decide_eq_false (by omega))); done)
  ·
   try simp only [decide_eq_true_eq, decide_eq_false_iff_not, decide_eq_decide, Bool.not_eq_true', Bool.not_eq_false', beq_iff_eq, beq_eq_false_iff_ne, ne_eq, Bool.and_eq_true, Bool.and_eq_false_iff, decide_not] at h14
   refine Rn ?_
   refine Rn ?_
   refine Rn ?_
   refine Rq ?_
   refine Rq ?_
   have tr : ∀ a b c d e f g h i j k m n o p q r s t : AV, let l := lc_name_ok45 a b c d e f g h i j; trim ((2,t)::(50,s)::(49,r)::(48,q)::(47,p)::(46,o)::(45,n)::(44,m)::(43,k)::l) l = lc_name_ok45 a t c d e f g h i j := by intros; rfl
   refine R_nil (tr ..) ?_; clear tr
   refine then_n ?_
   refine at_ret rfl ?_
   first | (refine fpure ?_; refine ⟨?_, rfl⟩; rw [name_bad (i := u) (by omega) (by unfold badN; omega)]; done) | (refine fpure ?_; refine ⟨?_, rfl⟩; by_cases h16 : s.size ≤ 16 <;> first | (rw [name_ok (by omega) (by omega) (fun i hi => hok i (by omega))]; done) | (rw [name_ok (by omega) (by omega) (fun i hi => hok i (by omega))]; exact congrArg (fun z => AV.v (.bool z)) (decide_eq_true (by omega))) | (rw [name_len (by omega)]; done) | (rw [name_len (by omega)]; exact congrArg (fun z => AV.v (.bool z)) (decide_eq_false (by omega))); done)

abbrev lc_name_ok48 (a b c d e f g h : AV) : Env := [(0,a),(2,b),(3,c),(4,d),(11,e),(15,f),(26,g),(44,h)]
theorem name_ok48 (lim : Nat) (H : Heap) (s : ByteArray) (hs : s.size ≤ 9223372036854775807) :
    ACall sig lim 48 [.v (.string s)] H fun r H' => r = .v (.bool (nameS s)) ∧ H' = H := by
 refine ACall_pure (fa := fa48) rfl rfl rfl rfl ?_
 have tr : ∀ a0 : AV, env0 fa48.keep [a0] = lc_name_ok48 a0 .any .any .any .any .any .any .any := fun a0 => rfl
 refine W_to (tr _) ?_; clear tr
 refine at_seq rfl ?_
 refine rg rfl ?_
 refine Rq ?_
 have tr : ∀ a b c d e f g h i : AV, let l := lc_name_ok48 a b c d e f g h; trim ((2,i)::l) l = lc_name_ok48 a i c d e f g h := by intros; rfl
 refine R_nil (tr ..) ?_; clear tr
 refine then_n ?_
 refine at_seq rfl ?_
 refine at_seq rfl ?_
 refine rg rfl ?_
 refine Rq ?_
 refine Rq ?_
 refine Rq ?_
 refine Rp_split (fun h1 => ?_) (fun h1 => ?_)
 ·
  try simp only [decide_eq_true_eq, decide_eq_false_iff_not, decide_eq_decide, Bool.not_eq_true', Bool.not_eq_false', beq_iff_eq, beq_eq_false_iff_ne, ne_eq, Bool.and_eq_true, Bool.and_eq_false_iff, decide_not] at h1
  rw [str_e] at h1
  refine Rn ?_
  refine Rn ?_
  refine Rn ?_
  refine Rq ?_
  have tr : ∀ a b c d e f g h i j k m n o p : AV, let l := lc_name_ok48 a b c d e f g h; trim ((11,p)::(10,o)::(9,n)::(8,m)::(7,k)::(6,j)::(5,i)::l) l = lc_name_ok48 a b c d p f g h := by intros; rfl
  refine R_nil (tr ..) ?_; clear tr
  refine then_n ?_
  refine cdt ?_
  refine at_seq rfl ?_
  refine rg rfl ?_
  refine Rq ?_
  have tr : ∀ a b c d e f g h i : AV, let l := lc_name_ok48 a b c d e f g h; trim ((2,i)::l) l = lc_name_ok48 a i c d e f g h := by intros; rfl
  refine R_nil (tr ..) ?_; clear tr
  refine then_n ?_
  refine at_ret rfl ?_
  refine then_r ?_
  first | (refine fpure ?_; refine ⟨?_, rfl⟩; rw [name_bad (i := u) (by omega) (by unfold badN; omega)]; done) | (refine fpure ?_; refine ⟨?_, rfl⟩; by_cases h16 : s.size ≤ 16 <;> first | (rw [name_ok (by omega) (by omega) (fun i hi => hok i (by omega))]; done) | (rw [name_ok (by omega) (by omega) (fun i hi => hok i (by omega))]; exact congrArg (fun z => AV.v (.bool z)) (decide_eq_true (by omega))) | (rw [name_len (by omega)]; done) | (rw [name_len (by omega)]; exact congrArg (fun z => AV.v (.bool z)) (decide_eq_false (by omega))); done)
 ·
  try simp only [decide_eq_true_eq, decide_eq_false_iff_not, decide_eq_decide, Bool.not_eq_true', Bool.not_eq_false', beq_iff_eq, beq_eq_false_iff_ne, ne_eq, Bool.and_eq_true, Bool.and_eq_false_iff, decide_not] at h1
  rw [str_e] at h1
  refine Ry ?_
  refine Rq ?_
  refine Ry ?_
  refine Rq ?_
  refine Ry ?_
  refine Rq ?_
  refine Rq ?_
  have tr : ∀ a b c d e f g h i j k m n o p : AV, let l := lc_name_ok48 a b c d e f g h; trim ((11,p)::(10,o)::(9,n)::(8,m)::(7,k)::(6,j)::(5,i)::l) l = lc_name_ok48 a b c d p f g h := by intros; rfl
  refine R_nil (tr ..) ?_; clear tr
  refine then_n ?_
  refine cdd (fun h2 => ?_) (fun h2 => ?_)
  ·
   try simp only [decide_eq_true_eq, decide_eq_false_iff_not, decide_eq_decide, Bool.not_eq_true', Bool.not_eq_false', beq_iff_eq, beq_eq_false_iff_ne, ne_eq, Bool.and_eq_true, Bool.and_eq_false_iff, decide_not] at h2
   refine at_seq rfl ?_
   refine rg rfl ?_
   refine Rq ?_
   have tr : ∀ a b c d e f g h i : AV, let l := lc_name_ok48 a b c d e f g h; trim ((2,i)::l) l = lc_name_ok48 a i c d e f g h := by intros; rfl
   refine R_nil (tr ..) ?_; clear tr
   refine then_n ?_
   refine at_ret rfl ?_
   refine then_r ?_
   first | (refine fpure ?_; refine ⟨?_, rfl⟩; rw [name_bad (i := u) (by omega) (by unfold badN; omega)]; done) | (refine fpure ?_; refine ⟨?_, rfl⟩; by_cases h16 : s.size ≤ 16 <;> first | (rw [name_ok (by omega) (by omega) (fun i hi => hok i (by omega))]; done) | (rw [name_ok (by omega) (by omega) (fun i hi => hok i (by omega))]; exact congrArg (fun z => AV.v (.bool z)) (decide_eq_true (by omega))) | (rw [name_len (by omega)]; done) | (rw [name_len (by omega)]; exact congrArg (fun z => AV.v (.bool z)) (decide_eq_false (by omega))); done)
  ·
   try simp only [decide_eq_true_eq, decide_eq_false_iff_not, decide_eq_decide, Bool.not_eq_true', Bool.not_eq_false', beq_iff_eq, beq_eq_false_iff_ne, ne_eq, Bool.and_eq_true, Bool.and_eq_false_iff, decide_not] at h2
   refine at_skip rfl ?_
   refine then_n ?_
   refine at_seq rfl ?_
   refine at_seq rfl ?_
   refine rg rfl ?_
   refine Rq ?_
   have tr : ∀ a b c d e f g h i : AV, let l := lc_name_ok48 a b c d e f g h; trim ((3,i)::l) l = lc_name_ok48 a b i d e f g h := by intros; rfl
   refine R_nil (tr ..) ?_; clear tr
   refine then_n ?_
   refine at_block rfl ?_
   refine loop_n rfl (fun mm kv H' => ∃ u : Nat, ∃ x2 x4 x15 x26 x44 : AV, (kv = [(2, x2), (3, AV.i u), (4, x4), (15, x15), (26, x26), (44, x44)]) ∧ (mm = s.size - u) ∧ (H' = H) ∧ (u ≤ s.size) ∧ (∀ i, i < u → ¬ badN s i)) ⟨0, _, _, _, _, _, rfl, rfl, rfl, by omega, by intro i hi; omega⟩ (by rfl) ?_
   rintro mm kv H' ⟨u, x2, x4, x15, x26, x44, rfl, rfl, rfl, hu, hok⟩
   have tr : ∀ a b c d e f g h i j k m n o : AV, upd (lc_name_ok48 a b c d e f g h) [(2,i),(3,j),(4,k),(15,m),(26,n),(44,o)] = lc_name_ok48 a i j k e m n o := by intros; rfl
   refine W_to (tr ..) ?_; clear tr
   refine at_seq rfl ?_
   refine at_seq rfl ?_
   refine rg rfl ?_
   refine Rq ?_
   refine Rq ?_
   refine Rq ?_
   refine Rq ?_
   have tr : ∀ a b c d e f g h i j k m : AV, let l := lc_name_ok48 a b c d e f g h; trim ((15,m)::(14,k)::(13,j)::(12,i)::l) l = lc_name_ok48 a b c d e m g h := by intros; rfl
   refine R_nil (tr ..) ?_; clear tr
   refine then_n ?_
   refine cdd (fun h3 => ?_) (fun h3 => ?_)
   ·
    try simp only [decide_eq_true_eq, decide_eq_false_iff_not, decide_eq_decide, Bool.not_eq_true', Bool.not_eq_false', beq_iff_eq, beq_eq_false_iff_ne, ne_eq, Bool.and_eq_true, Bool.and_eq_false_iff, decide_not] at h3
    refine at_skip rfl ?_
    refine then_n ?_
    refine at_seq rfl ?_
    refine at_block rfl ?_
    refine at_seq rfl ?_
    refine rg rfl ?_
    refine Rq ?_
    refine Rq ?_
    refine R_q (r := .v (.int .u8 (bt s u))) rfl (by simp (disch := first | omega | (simp only [List.length_map, List.length_append, List.length_set, List.length_cons, List.length_nil]; omega)) only [go_sem, ↓reduceIte, Nat.reduceEqDiff, reduceCtorEq] <;> exact ix_str s u (by omega)) ?_
    refine Rq ?_
    have tr : ∀ a b c d e f g h i j k m : AV, let l := lc_name_ok48 a b c d e f g h; trim ((4,m)::(20,k)::(19,j)::(18,i)::l) l = lc_name_ok48 a b c m e f g h := by intros; rfl
    refine R_nil (tr ..) ?_; clear tr
    refine then_n ?_
    refine at_seq rfl ?_
    refine at_seq rfl ?_
    refine rg rfl ?_
    refine Rq ?_
    refine Rq ?_
    refine Rq ?_
    refine Rp_split (fun h4 => ?_) (fun h4 => ?_)
    ·
     try simp only [decide_eq_true_eq, decide_eq_false_iff_not, decide_eq_decide, Bool.not_eq_true', Bool.not_eq_false', beq_iff_eq, beq_eq_false_iff_ne, ne_eq, Bool.and_eq_true, Bool.and_eq_false_iff, decide_not] at h4
     refine Ry ?_
     refine Rq ?_
     refine Ry ?_
     refine Rq ?_
     refine Rq ?_
     have tr : ∀ a b c d e f g h i j k m n o : AV, let l := lc_name_ok48 a b c d e f g h; trim ((26,o)::(25,n)::(24,m)::(23,k)::(22,j)::(21,i)::l) l = lc_name_ok48 a b c d e f o h := by intros; rfl
     refine R_nil (tr ..) ?_; clear tr
     refine then_n ?_
     refine cdd (fun h5 => ?_) (fun h5 => ?_)
     ·
      try simp only [decide_eq_true_eq, decide_eq_false_iff_not, decide_eq_decide, Bool.not_eq_true', Bool.not_eq_false', beq_iff_eq, beq_eq_false_iff_ne, ne_eq, Bool.and_eq_true, Bool.and_eq_false_iff, decide_not] at h5
      refine at_exit rfl ?_
      refine then_x ?_
      refine blk_x ?_
      refine then_n ?_
      refine rg rfl ?_
      refine Rq ?_
      refine Rq ?_
      refine Rq ?_
      have tr : ∀ a b c d e f g h i j k : AV, let l := lc_name_ok48 a b c d e f g h; trim ((3,k)::(17,j)::(16,i)::l) l = lc_name_ok48 a b k d e f g h := by intros; rfl
      refine R_nil (tr ..) ?_; clear tr
      refine then_n ?_
      exact ⟨_, _, ⟨u + 1, _, _, _, _, _, rfl, rfl, rfl, by omega, by exact all_step hok (by unfold badN; omega)⟩, by rfl, by omega⟩
     ·
      try simp only [decide_eq_true_eq, decide_eq_false_iff_not, decide_eq_decide, Bool.not_eq_true', Bool.not_eq_false', beq_iff_eq, beq_eq_false_iff_ne, ne_eq, Bool.and_eq_true, Bool.and_eq_false_iff, decide_not] at h5
      refine at_skip rfl ?_
      refine then_n ?_
      refine at_seq rfl ?_
      refine rg rfl ?_
      refine Rq ?_
      refine Rq ?_
      refine Rq ?_
      refine Rp_split (fun h6 => ?_) (fun h6 => ?_)
      ·
       try simp only [decide_eq_true_eq, decide_eq_false_iff_not, decide_eq_decide, Bool.not_eq_true', Bool.not_eq_false', beq_iff_eq, beq_eq_false_iff_ne, ne_eq, Bool.and_eq_true, Bool.and_eq_false_iff, decide_not] at h6
       refine Rn ?_
       refine Rn ?_
       refine Rn ?_
       refine Ru ?_
       refine Ru ?_
       refine Rn ?_
       refine Rn ?_
       refine Ru ?_
       refine Ru ?_
       refine Ru ?_
       refine Ru ?_
       refine Ru ?_
       refine Ru ?_
       refine Rn ?_
       refine Rq ?_
       have tr : ∀ a b c d e f g h i j k m n o p q r s t u v w x y z A : AV, let l := lc_name_ok48 a b c d e f g h; trim ((44,A)::(43,z)::(42,y)::(41,x)::(40,w)::(39,v)::(38,u)::(37,t)::(36,s)::(35,r)::(34,q)::(33,p)::(32,o)::(31,n)::(30,m)::(29,k)::(28,j)::(27,i)::l) l = lc_name_ok48 a b c d e f g A := by intros; rfl
       refine R_nil (tr ..) ?_; clear tr
       refine then_n ?_
       refine cdt ?_
       refine at_seq rfl ?_
       refine rg rfl ?_
       refine Rq ?_
       have tr : ∀ a b c d e f g h i : AV, let l := lc_name_ok48 a b c d e f g h; trim ((2,i)::l) l = lc_name_ok48 a i c d e f g h := by intros; rfl
       refine R_nil (tr ..) ?_; clear tr
       refine then_n ?_
       refine at_ret rfl ?_
       refine blk_r ?_
       refine then_r ?_
       refine then_r ?_
       refine blk_r ?_
       refine then_r ?_
       first | (refine fpure ?_; refine ⟨?_, rfl⟩; rw [name_bad (i := u) (by omega) (by unfold badN; omega)]; done) | (refine fpure ?_; refine ⟨?_, rfl⟩; by_cases h16 : s.size ≤ 16 <;> first | (rw [name_ok (by omega) (by omega) (fun i hi => hok i (by omega))]; done) | (rw [name_ok (by omega) (by omega) (fun i hi => hok i (by omega))]; exact congrArg (fun z => AV.v (.bool z)) (decide_eq_true (by omega))) | (rw [name_len (by omega)]; done) | (rw [name_len (by omega)]; exact congrArg (fun z => AV.v (.bool z)) (decide_eq_false (by omega))); done)
      ·
       try simp only [decide_eq_true_eq, decide_eq_false_iff_not, decide_eq_decide, Bool.not_eq_true', Bool.not_eq_false', beq_iff_eq, beq_eq_false_iff_ne, ne_eq, Bool.and_eq_true, Bool.and_eq_false_iff, decide_not] at h6
       refine Ry ?_
       refine Rq ?_
       refine Ry ?_
       refine Rq ?_
       refine Ry ?_
       refine Rq ?_
       refine Rp_split (fun h7 => ?_) (fun h7 => ?_)
       ·
        try simp only [decide_eq_true_eq, decide_eq_false_iff_not, decide_eq_decide, Bool.not_eq_true', Bool.not_eq_false', beq_iff_eq, beq_eq_false_iff_ne, ne_eq, Bool.and_eq_true, Bool.and_eq_false_iff, decide_not] at h7
        refine Ry ?_
        refine Rq ?_
        refine Ry ?_
        refine Rq ?_
        refine Ry ?_
        refine Rq ?_
        refine Ry ?_
        refine Rq ?_
        refine Rp_split (fun h8 => ?_) (fun h8 => ?_)
        ·
         try simp only [decide_eq_true_eq, decide_eq_false_iff_not, decide_eq_decide, Bool.not_eq_true', Bool.not_eq_false', beq_iff_eq, beq_eq_false_iff_ne, ne_eq, Bool.and_eq_true, Bool.and_eq_false_iff, decide_not] at h8
         refine Ry ?_
         refine Rq ?_
         refine Ry ?_
         refine Rq ?_
         refine Ry ?_
         refine Rq ?_
         refine Rp_split (fun h9 => ?_) (fun h9 => ?_)
         ·
          try simp only [decide_eq_true_eq, decide_eq_false_iff_not, decide_eq_decide, Bool.not_eq_true', Bool.not_eq_false', beq_iff_eq, beq_eq_false_iff_ne, ne_eq, Bool.and_eq_true, Bool.and_eq_false_iff, decide_not] at h9
          refine Rn ?_
          refine Rn ?_
          refine Ry ?_
          refine Rq ?_
          refine Ry ?_
          refine Rq ?_
          refine Rq ?_
          have tr : ∀ a b c d e f g h i j k m n o p q r s t u v w x y z A : AV, let l := lc_name_ok48 a b c d e f g h; trim ((44,A)::(43,z)::(42,y)::(41,x)::(40,w)::(39,v)::(38,u)::(37,t)::(36,s)::(35,r)::(34,q)::(33,p)::(32,o)::(31,n)::(30,m)::(29,k)::(28,j)::(27,i)::l) l = lc_name_ok48 a b c d e f g A := by intros; rfl
          refine R_nil (tr ..) ?_; clear tr
          refine then_n ?_
          refine cdt ?_
          refine at_seq rfl ?_
          refine rg rfl ?_
          refine Rq ?_
          have tr : ∀ a b c d e f g h i : AV, let l := lc_name_ok48 a b c d e f g h; trim ((2,i)::l) l = lc_name_ok48 a i c d e f g h := by intros; rfl
          refine R_nil (tr ..) ?_; clear tr
          refine then_n ?_
          refine at_ret rfl ?_
          refine blk_r ?_
          refine then_r ?_
          refine then_r ?_
          refine blk_r ?_
          refine then_r ?_
          first | (refine fpure ?_; refine ⟨?_, rfl⟩; rw [name_bad (i := u) (by omega) (by unfold badN; omega)]; done) | (refine fpure ?_; refine ⟨?_, rfl⟩; by_cases h16 : s.size ≤ 16 <;> first | (rw [name_ok (by omega) (by omega) (fun i hi => hok i (by omega))]; done) | (rw [name_ok (by omega) (by omega) (fun i hi => hok i (by omega))]; exact congrArg (fun z => AV.v (.bool z)) (decide_eq_true (by omega))) | (rw [name_len (by omega)]; done) | (rw [name_len (by omega)]; exact congrArg (fun z => AV.v (.bool z)) (decide_eq_false (by omega))); done)
         ·
          try simp only [decide_eq_true_eq, decide_eq_false_iff_not, decide_eq_decide, Bool.not_eq_true', Bool.not_eq_false', beq_iff_eq, beq_eq_false_iff_ne, ne_eq, Bool.and_eq_true, Bool.and_eq_false_iff, decide_not] at h9
          refine Ry ?_
          refine Rq ?_
          refine Ry ?_
          refine Rq ?_
          refine Ry ?_
          refine Rq ?_
          refine Ry ?_
          refine Rq ?_
          refine Rq ?_
          have tr : ∀ a b c d e f g h i j k m n o p q r s t u v w x y z A : AV, let l := lc_name_ok48 a b c d e f g h; trim ((44,A)::(43,z)::(42,y)::(41,x)::(40,w)::(39,v)::(38,u)::(37,t)::(36,s)::(35,r)::(34,q)::(33,p)::(32,o)::(31,n)::(30,m)::(29,k)::(28,j)::(27,i)::l) l = lc_name_ok48 a b c d e f g A := by intros; rfl
          refine R_nil (tr ..) ?_; clear tr
          refine then_n ?_
          refine cdd (fun h10 => ?_) (fun h10 => ?_)
          ·
           try simp only [decide_eq_true_eq, decide_eq_false_iff_not, decide_eq_decide, Bool.not_eq_true', Bool.not_eq_false', beq_iff_eq, beq_eq_false_iff_ne, ne_eq, Bool.and_eq_true, Bool.and_eq_false_iff, decide_not] at h10
           refine at_seq rfl ?_
           refine rg rfl ?_
           refine Rq ?_
           have tr : ∀ a b c d e f g h i : AV, let l := lc_name_ok48 a b c d e f g h; trim ((2,i)::l) l = lc_name_ok48 a i c d e f g h := by intros; rfl
           refine R_nil (tr ..) ?_; clear tr
           refine then_n ?_
           refine at_ret rfl ?_
           refine blk_r ?_
           refine then_r ?_
           refine then_r ?_
           refine blk_r ?_
           refine then_r ?_
           first | (refine fpure ?_; refine ⟨?_, rfl⟩; rw [name_bad (i := u) (by omega) (by unfold badN; omega)]; done) | (refine fpure ?_; refine ⟨?_, rfl⟩; by_cases h16 : s.size ≤ 16 <;> first | (rw [name_ok (by omega) (by omega) (fun i hi => hok i (by omega))]; done) | (rw [name_ok (by omega) (by omega) (fun i hi => hok i (by omega))]; exact congrArg (fun z => AV.v (.bool z)) (decide_eq_true (by omega))) | (rw [name_len (by omega)]; done) | (rw [name_len (by omega)]; exact congrArg (fun z => AV.v (.bool z)) (decide_eq_false (by omega))); done)
          ·
           try simp only [decide_eq_true_eq, decide_eq_false_iff_not, decide_eq_decide, Bool.not_eq_true', Bool.not_eq_false', beq_iff_eq, beq_eq_false_iff_ne, ne_eq, Bool.and_eq_true, Bool.and_eq_false_iff, decide_not] at h10
           refine at_skip rfl ?_
           refine blk_n ?_
           refine then_n ?_
           refine rg rfl ?_
           refine Rq ?_
           refine Rq ?_
           refine Rq ?_
           have tr : ∀ a b c d e f g h i j k : AV, let l := lc_name_ok48 a b c d e f g h; trim ((3,k)::(17,j)::(16,i)::l) l = lc_name_ok48 a b k d e f g h := by intros; rfl
           refine R_nil (tr ..) ?_; clear tr
           refine then_n ?_
           exact ⟨_, _, ⟨u + 1, _, _, _, _, _, rfl, rfl, rfl, by omega, by exact all_step hok (by unfold badN; omega)⟩, by rfl, by omega⟩
        ·
         try simp only [decide_eq_true_eq, decide_eq_false_iff_not, decide_eq_decide, Bool.not_eq_true', Bool.not_eq_false', beq_iff_eq, beq_eq_false_iff_ne, ne_eq, Bool.and_eq_true, Bool.and_eq_false_iff, decide_not] at h8
         refine Rn ?_
         refine Rn ?_
         refine Rn ?_
         refine Ru ?_
         refine Ru ?_
         refine Rn ?_
         refine Ry ?_
         refine Rq ?_
         refine Rq ?_
         have tr : ∀ a b c d e f g h i j k m n o p q r s t u v w x y z A : AV, let l := lc_name_ok48 a b c d e f g h; trim ((44,A)::(43,z)::(42,y)::(41,x)::(40,w)::(39,v)::(38,u)::(37,t)::(36,s)::(35,r)::(34,q)::(33,p)::(32,o)::(31,n)::(30,m)::(29,k)::(28,j)::(27,i)::l) l = lc_name_ok48 a b c d e f g A := by intros; rfl
         refine R_nil (tr ..) ?_; clear tr
         refine then_n ?_
         refine cdf ?_
         refine at_skip rfl ?_
         refine blk_n ?_
         refine then_n ?_
         refine rg rfl ?_
         refine Rq ?_
         refine Rq ?_
         refine Rq ?_
         have tr : ∀ a b c d e f g h i j k : AV, let l := lc_name_ok48 a b c d e f g h; trim ((3,k)::(17,j)::(16,i)::l) l = lc_name_ok48 a b k d e f g h := by intros; rfl
         refine R_nil (tr ..) ?_; clear tr
         refine then_n ?_
         exact ⟨_, _, ⟨u + 1, _, _, _, _, _, rfl, rfl, rfl, by omega, by exact all_step hok (by unfold badN; omega)⟩, by rfl, by omega⟩
       ·
        try simp only [decide_eq_true_eq, decide_eq_false_iff_not, decide_eq_decide, Bool.not_eq_true', Bool.not_eq_false', beq_iff_eq, beq_eq_false_iff_ne, ne_eq, Bool.and_eq_true, Bool.and_eq_false_iff, decide_not] at h7
        refine Rn ?_
        refine Rn ?_
        refine Ry ?_
        refine Rq ?_
        refine Ry ?_
        refine Rq ?_
        refine Rn ?_
        refine Rn ?_
        refine Rn ?_
        refine Ru ?_
        refine Ru ?_
        refine Rn ?_
        refine Ry ?_
        refine Rq ?_
        refine Rq ?_
        have tr : ∀ a b c d e f g h i j k m n o p q r s t u v w x y z A : AV, let l := lc_name_ok48 a b c d e f g h; trim ((44,A)::(43,z)::(42,y)::(41,x)::(40,w)::(39,v)::(38,u)::(37,t)::(36,s)::(35,r)::(34,q)::(33,p)::(32,o)::(31,n)::(30,m)::(29,k)::(28,j)::(27,i)::l) l = lc_name_ok48 a b c d e f g A := by intros; rfl
        refine R_nil (tr ..) ?_; clear tr
        refine then_n ?_
        refine cdf ?_
        refine at_skip rfl ?_
        refine blk_n ?_
        refine then_n ?_
        refine rg rfl ?_
        refine Rq ?_
        refine Rq ?_
        refine Rq ?_
        have tr : ∀ a b c d e f g h i j k : AV, let l := lc_name_ok48 a b c d e f g h; trim ((3,k)::(17,j)::(16,i)::l) l = lc_name_ok48 a b k d e f g h := by intros; rfl
        refine R_nil (tr ..) ?_; clear tr
        refine then_n ?_
        exact ⟨_, _, ⟨u + 1, _, _, _, _, _, rfl, rfl, rfl, by omega, by exact all_step hok (by unfold badN; omega)⟩, by rfl, by omega⟩
    ·
     try simp only [decide_eq_true_eq, decide_eq_false_iff_not, decide_eq_decide, Bool.not_eq_true', Bool.not_eq_false', beq_iff_eq, beq_eq_false_iff_ne, ne_eq, Bool.and_eq_true, Bool.and_eq_false_iff, decide_not] at h4
     refine Rn ?_
     refine Rn ?_
     refine Rq ?_
     have tr : ∀ a b c d e f g h i j k m n o : AV, let l := lc_name_ok48 a b c d e f g h; trim ((26,o)::(25,n)::(24,m)::(23,k)::(22,j)::(21,i)::l) l = lc_name_ok48 a b c d e f o h := by intros; rfl
     refine R_nil (tr ..) ?_; clear tr
     refine then_n ?_
     refine cdf ?_
     refine at_skip rfl ?_
     refine then_n ?_
     refine at_seq rfl ?_
     refine rg rfl ?_
     refine Rq ?_
     refine Rq ?_
     refine Rq ?_
     refine Rp_split (fun h11 => ?_) (fun h11 => ?_)
     ·
      try simp only [decide_eq_true_eq, decide_eq_false_iff_not, decide_eq_decide, Bool.not_eq_true', Bool.not_eq_false', beq_iff_eq, beq_eq_false_iff_ne, ne_eq, Bool.and_eq_true, Bool.and_eq_false_iff, decide_not] at h11
      refine Rn ?_
      refine Rn ?_
      refine Rn ?_
      refine Ru ?_
      refine Ru ?_
      refine Rn ?_
      refine Rn ?_
      refine Ru ?_
      refine Ru ?_
      refine Ru ?_
      refine Ru ?_
      refine Ru ?_
      refine Ru ?_
      refine Rn ?_
      refine Rq ?_
      have tr : ∀ a b c d e f g h i j k m n o p q r s t u v w x y z A : AV, let l := lc_name_ok48 a b c d e f g h; trim ((44,A)::(43,z)::(42,y)::(41,x)::(40,w)::(39,v)::(38,u)::(37,t)::(36,s)::(35,r)::(34,q)::(33,p)::(32,o)::(31,n)::(30,m)::(29,k)::(28,j)::(27,i)::l) l = lc_name_ok48 a b c d e f g A := by intros; rfl
      refine R_nil (tr ..) ?_; clear tr
      refine then_n ?_
      refine cdt ?_
      refine at_seq rfl ?_
      refine rg rfl ?_
      refine Rq ?_
      have tr : ∀ a b c d e f g h i : AV, let l := lc_name_ok48 a b c d e f g h; trim ((2,i)::l) l = lc_name_ok48 a i c d e f g h := by intros; rfl
      refine R_nil (tr ..) ?_; clear tr
      refine then_n ?_
      refine at_ret rfl ?_
      refine blk_r ?_
      refine then_r ?_
      refine then_r ?_
      refine blk_r ?_
      refine then_r ?_
      first | (refine fpure ?_; refine ⟨?_, rfl⟩; rw [name_bad (i := u) (by omega) (by unfold badN; omega)]; done) | (refine fpure ?_; refine ⟨?_, rfl⟩; by_cases h16 : s.size ≤ 16 <;> first | (rw [name_ok (by omega) (by omega) (fun i hi => hok i (by omega))]; done) | (rw [name_ok (by omega) (by omega) (fun i hi => hok i (by omega))]; exact congrArg (fun z => AV.v (.bool z)) (decide_eq_true (by omega))) | (rw [name_len (by omega)]; done) | (rw [name_len (by omega)]; exact congrArg (fun z => AV.v (.bool z)) (decide_eq_false (by omega))); done)
     ·
      try simp only [decide_eq_true_eq, decide_eq_false_iff_not, decide_eq_decide, Bool.not_eq_true', Bool.not_eq_false', beq_iff_eq, beq_eq_false_iff_ne, ne_eq, Bool.and_eq_true, Bool.and_eq_false_iff, decide_not] at h11
      refine Ry ?_
      refine Rq ?_
      refine Ry ?_
      refine Rq ?_
      refine Ry ?_
      refine Rq ?_
      refine Rp_split (fun h12 => ?_) (fun h12 => ?_)
      ·
       try simp only [decide_eq_true_eq, decide_eq_false_iff_not, decide_eq_decide, Bool.not_eq_true', Bool.not_eq_false', beq_iff_eq, beq_eq_false_iff_ne, ne_eq, Bool.and_eq_true, Bool.and_eq_false_iff, decide_not] at h12
       refine Ry ?_
       refine Rq ?_
       refine Ry ?_
       refine Rq ?_
       refine Ry ?_
       refine Rq ?_
       refine Ry ?_
       refine Rq ?_
       refine Rp_split (fun h13 => ?_) (fun h13 => ?_)
       ·
        try simp only [decide_eq_true_eq, decide_eq_false_iff_not, decide_eq_decide, Bool.not_eq_true', Bool.not_eq_false', beq_iff_eq, beq_eq_false_iff_ne, ne_eq, Bool.and_eq_true, Bool.and_eq_false_iff, decide_not] at h13
        refine Ry ?_
        refine Rq ?_
        refine Ry ?_
        refine Rq ?_
        refine Ry ?_
        refine Rq ?_
        refine Rp_split (fun h14 => ?_) (fun h14 => ?_)
        ·
         try simp only [decide_eq_true_eq, decide_eq_false_iff_not, decide_eq_decide, Bool.not_eq_true', Bool.not_eq_false', beq_iff_eq, beq_eq_false_iff_ne, ne_eq, Bool.and_eq_true, Bool.and_eq_false_iff, decide_not] at h14
         refine Rn ?_
         refine Rn ?_
         refine Ry ?_
         refine Rq ?_
         refine Ry ?_
         refine Rq ?_
         refine Rq ?_
         have tr : ∀ a b c d e f g h i j k m n o p q r s t u v w x y z A : AV, let l := lc_name_ok48 a b c d e f g h; trim ((44,A)::(43,z)::(42,y)::(41,x)::(40,w)::(39,v)::(38,u)::(37,t)::(36,s)::(35,r)::(34,q)::(33,p)::(32,o)::(31,n)::(30,m)::(29,k)::(28,j)::(27,i)::l) l = lc_name_ok48 a b c d e f g A := by intros; rfl
         refine R_nil (tr ..) ?_; clear tr
         refine then_n ?_
         refine cdt ?_
         refine at_seq rfl ?_
         refine rg rfl ?_
         refine Rq ?_
         have tr : ∀ a b c d e f g h i : AV, let l := lc_name_ok48 a b c d e f g h; trim ((2,i)::l) l = lc_name_ok48 a i c d e f g h := by intros; rfl
         refine R_nil (tr ..) ?_; clear tr
         refine then_n ?_
         refine at_ret rfl ?_
         refine blk_r ?_
         refine then_r ?_
         refine then_r ?_
         refine blk_r ?_
         refine then_r ?_
         first | (refine fpure ?_; refine ⟨?_, rfl⟩; rw [name_bad (i := u) (by omega) (by unfold badN; omega)]; done) | (refine fpure ?_; refine ⟨?_, rfl⟩; by_cases h16 : s.size ≤ 16 <;> first | (rw [name_ok (by omega) (by omega) (fun i hi => hok i (by omega))]; done) | (rw [name_ok (by omega) (by omega) (fun i hi => hok i (by omega))]; exact congrArg (fun z => AV.v (.bool z)) (decide_eq_true (by omega))) | (rw [name_len (by omega)]; done) | (rw [name_len (by omega)]; exact congrArg (fun z => AV.v (.bool z)) (decide_eq_false (by omega))); done)
        ·
         try simp only [decide_eq_true_eq, decide_eq_false_iff_not, decide_eq_decide, Bool.not_eq_true', Bool.not_eq_false', beq_iff_eq, beq_eq_false_iff_ne, ne_eq, Bool.and_eq_true, Bool.and_eq_false_iff, decide_not] at h14
         refine Ry ?_
         refine Rq ?_
         refine Ry ?_
         refine Rq ?_
         refine Ry ?_
         refine Rq ?_
         refine Ry ?_
         refine Rq ?_
         refine Rq ?_
         have tr : ∀ a b c d e f g h i j k m n o p q r s t u v w x y z A : AV, let l := lc_name_ok48 a b c d e f g h; trim ((44,A)::(43,z)::(42,y)::(41,x)::(40,w)::(39,v)::(38,u)::(37,t)::(36,s)::(35,r)::(34,q)::(33,p)::(32,o)::(31,n)::(30,m)::(29,k)::(28,j)::(27,i)::l) l = lc_name_ok48 a b c d e f g A := by intros; rfl
         refine R_nil (tr ..) ?_; clear tr
         refine then_n ?_
         refine cdd (fun h15 => ?_) (fun h15 => ?_)
         ·
          try simp only [decide_eq_true_eq, decide_eq_false_iff_not, decide_eq_decide, Bool.not_eq_true', Bool.not_eq_false', beq_iff_eq, beq_eq_false_iff_ne, ne_eq, Bool.and_eq_true, Bool.and_eq_false_iff, decide_not] at h15
          refine at_seq rfl ?_
          refine rg rfl ?_
          refine Rq ?_
          have tr : ∀ a b c d e f g h i : AV, let l := lc_name_ok48 a b c d e f g h; trim ((2,i)::l) l = lc_name_ok48 a i c d e f g h := by intros; rfl
          refine R_nil (tr ..) ?_; clear tr
          refine then_n ?_
          refine at_ret rfl ?_
          refine blk_r ?_
          refine then_r ?_
          refine then_r ?_
          refine blk_r ?_
          refine then_r ?_
          first | (refine fpure ?_; refine ⟨?_, rfl⟩; rw [name_bad (i := u) (by omega) (by unfold badN; omega)]; done) | (refine fpure ?_; refine ⟨?_, rfl⟩; by_cases h16 : s.size ≤ 16 <;> first | (rw [name_ok (by omega) (by omega) (fun i hi => hok i (by omega))]; done) | (rw [name_ok (by omega) (by omega) (fun i hi => hok i (by omega))]; exact congrArg (fun z => AV.v (.bool z)) (decide_eq_true (by omega))) | (rw [name_len (by omega)]; done) | (rw [name_len (by omega)]; exact congrArg (fun z => AV.v (.bool z)) (decide_eq_false (by omega))); done)
         ·
          try simp only [decide_eq_true_eq, decide_eq_false_iff_not, decide_eq_decide, Bool.not_eq_true', Bool.not_eq_false', beq_iff_eq, beq_eq_false_iff_ne, ne_eq, Bool.and_eq_true, Bool.and_eq_false_iff, decide_not] at h15
          refine at_skip rfl ?_
          refine blk_n ?_
          refine then_n ?_
          refine rg rfl ?_
          refine Rq ?_
          refine Rq ?_
          refine Rq ?_
          have tr : ∀ a b c d e f g h i j k : AV, let l := lc_name_ok48 a b c d e f g h; trim ((3,k)::(17,j)::(16,i)::l) l = lc_name_ok48 a b k d e f g h := by intros; rfl
          refine R_nil (tr ..) ?_; clear tr
          refine then_n ?_
          exact ⟨_, _, ⟨u + 1, _, _, _, _, _, rfl, rfl, rfl, by omega, by exact all_step hok (by unfold badN; omega)⟩, by rfl, by omega⟩
       ·
        try simp only [decide_eq_true_eq, decide_eq_false_iff_not, decide_eq_decide, Bool.not_eq_true', Bool.not_eq_false', beq_iff_eq, beq_eq_false_iff_ne, ne_eq, Bool.and_eq_true, Bool.and_eq_false_iff, decide_not] at h13
        refine Rn ?_
        refine Rn ?_
        refine Rn ?_
        refine Ru ?_
        refine Ru ?_
        refine Rn ?_
        refine Ry ?_
        refine Rq ?_
        refine Rq ?_
        have tr : ∀ a b c d e f g h i j k m n o p q r s t u v w x y z A : AV, let l := lc_name_ok48 a b c d e f g h; trim ((44,A)::(43,z)::(42,y)::(41,x)::(40,w)::(39,v)::(38,u)::(37,t)::(36,s)::(35,r)::(34,q)::(33,p)::(32,o)::(31,n)::(30,m)::(29,k)::(28,j)::(27,i)::l) l = lc_name_ok48 a b c d e f g A := by intros; rfl
        refine R_nil (tr ..) ?_; clear tr
        refine then_n ?_
        refine cdf ?_
        refine at_skip rfl ?_
        refine blk_n ?_
        refine then_n ?_
        refine rg rfl ?_
        refine Rq ?_
        refine Rq ?_
        refine Rq ?_
        have tr : ∀ a b c d e f g h i j k : AV, let l := lc_name_ok48 a b c d e f g h; trim ((3,k)::(17,j)::(16,i)::l) l = lc_name_ok48 a b k d e f g h := by intros; rfl
        refine R_nil (tr ..) ?_; clear tr
        refine then_n ?_
        exact ⟨_, _, ⟨u + 1, _, _, _, _, _, rfl, rfl, rfl, by omega, by exact all_step hok (by unfold badN; omega)⟩, by rfl, by omega⟩
      ·
       try simp only [decide_eq_true_eq, decide_eq_false_iff_not, decide_eq_decide, Bool.not_eq_true', Bool.not_eq_false', beq_iff_eq, beq_eq_false_iff_ne, ne_eq, Bool.and_eq_true, Bool.and_eq_false_iff, decide_not] at h12
       refine Rn ?_
       refine Rn ?_
       refine Ry ?_
       refine Rq ?_
       refine Ry ?_
       refine Rq ?_
       refine Rn ?_
       refine Rn ?_
       refine Rn ?_
       refine Ru ?_
       refine Ru ?_
       refine Rn ?_
       refine Ry ?_
       refine Rq ?_
       refine Rq ?_
       have tr : ∀ a b c d e f g h i j k m n o p q r s t u v w x y z A : AV, let l := lc_name_ok48 a b c d e f g h; trim ((44,A)::(43,z)::(42,y)::(41,x)::(40,w)::(39,v)::(38,u)::(37,t)::(36,s)::(35,r)::(34,q)::(33,p)::(32,o)::(31,n)::(30,m)::(29,k)::(28,j)::(27,i)::l) l = lc_name_ok48 a b c d e f g A := by intros; rfl
       refine R_nil (tr ..) ?_; clear tr
       refine then_n ?_
       refine cdf ?_
       refine at_skip rfl ?_
       refine blk_n ?_
       refine then_n ?_
       refine rg rfl ?_
       refine Rq ?_
       refine Rq ?_
       refine Rq ?_
       have tr : ∀ a b c d e f g h i j k : AV, let l := lc_name_ok48 a b c d e f g h; trim ((3,k)::(17,j)::(16,i)::l) l = lc_name_ok48 a b k d e f g h := by intros; rfl
       refine R_nil (tr ..) ?_; clear tr
       refine then_n ?_
       exact ⟨_, _, ⟨u + 1, _, _, _, _, _, rfl, rfl, rfl, by omega, by exact all_step hok (by unfold badN; omega)⟩, by rfl, by omega⟩
   ·
    try simp only [decide_eq_true_eq, decide_eq_false_iff_not, decide_eq_decide, Bool.not_eq_true', Bool.not_eq_false', beq_iff_eq, beq_eq_false_iff_ne, ne_eq, Bool.and_eq_true, Bool.and_eq_false_iff, decide_not] at h3
    refine at_exit rfl ?_
    refine then_x ?_
    refine then_x ?_
    refine blk_x ?_
    refine then_n ?_
    refine at_seq rfl ?_
    refine rg rfl ?_
    refine Rq ?_
    have tr : ∀ a b c d e f g h i : AV, let l := lc_name_ok48 a b c d e f g h; trim ((2,i)::l) l = lc_name_ok48 a i c d e f g h := by intros; rfl
    refine R_nil (tr ..) ?_; clear tr
    refine then_n ?_
    refine at_ret rfl ?_
    first | (refine fpure ?_; refine ⟨?_, rfl⟩; rw [name_bad (i := u) (by omega) (by unfold badN; omega)]; done) | (refine fpure ?_; refine ⟨?_, rfl⟩; by_cases h16 : s.size ≤ 16 <;> first | (rw [name_ok (by omega) (by omega) (fun i hi => hok i (by omega))]; done) | (rw [name_ok (by omega) (by omega) (fun i hi => hok i (by omega))]; exact congrArg (fun z => AV.v (.bool z)) (decide_eq_true (by omega))) | (rw [name_len (by omega)]; done) | (rw [name_len (by omega)]; exact congrArg (fun z => AV.v (.bool z)) (decide_eq_false (by omega))); done)

end Go.Proofs.YtfnapmdedmbdbaaDoor
end
section
set_option linter.unusedSimpArgs false
set_option linter.unusedVariables false
set_option maxHeartbeats 1000000
set_option maxRecDepth 20000
namespace Go.Proofs.YtfnapmdedmbdbaaDoor
open Go Go.Am
abbrev lc_within_ok (a b c : AV) : Env := [(0,a),(1,b),(4,c)]
theorem within_ok (lim : Nat) (H : Heap) (n hi : Int) : ACall sig lim 44 [AV.i n, AV.i hi] H fun r H' => r = .v (.bool (decide (0 ≤ n ∧ n ≤ hi))) ∧ H' = H := by
 refine ACall_pure (fa := fa44) rfl rfl rfl rfl ?_
 have tr : ∀ a0 a1 : AV, env0 fa44.keep [a0, a1] = lc_within_ok a0 a1 .any := fun a0 a1 => rfl
 refine W_to (tr _ _) ?_; clear tr
 refine at_seq rfl ?_
 refine rg rfl ?_
 refine Rq ?_
 have tr : ∀ a b c d : AV, let l := lc_within_ok a b c; trim ((4,d)::l) l = lc_within_ok a b d := by intros; rfl
 refine R_nil (tr ..) ?_; clear tr
 refine then_n ?_
 refine at_seq rfl ?_
 refine rg rfl ?_
 refine Rq ?_
 refine Rq ?_
 refine Rq ?_
 refine Rp_split (fun h1 => ?_) (fun h1 => ?_)
 ·
  try simp only [decide_eq_true_eq, decide_eq_false_iff_not, decide_eq_decide, Bool.not_eq_true', Bool.not_eq_false', beq_iff_eq, beq_eq_false_iff_ne, ne_eq, Bool.and_eq_true, Bool.and_eq_false_iff, decide_not] at h1
  refine Ry ?_
  refine Rq ?_
  refine Ry ?_
  refine Rq ?_
  refine Ry ?_
  refine Rq ?_
  refine Rq ?_
  refine Rq ?_
  have tr : ∀ a b c d e f g h i j k : AV, let l := lc_within_ok a b c; trim ((4,k)::(11,j)::(10,i)::(9,h)::(8,g)::(7,f)::(6,e)::(5,d)::l) l = lc_within_ok a b k := by intros; rfl
  refine R_nil (tr ..) ?_; clear tr
  refine then_n ?_
  refine at_ret rfl ?_
  refine fpure ?_
  refine ⟨?_, rfl⟩
  refine congrArg (fun b => AV.v (.bool b)) ?_
  first | rfl | exact (decide_eq_false (by omega)).symm | exact (decide_eq_true (by omega)).symm | (rw [decide_eq_decide]; omega) | (simp; omega)
 ·
  try simp only [decide_eq_true_eq, decide_eq_false_iff_not, decide_eq_decide, Bool.not_eq_true', Bool.not_eq_false', beq_iff_eq, beq_eq_false_iff_ne, ne_eq, Bool.and_eq_true, Bool.and_eq_false_iff, decide_not] at h1
  refine Rn ?_
  refine Rn ?_
  refine Rn ?_
  refine Rq ?_
  refine Rq ?_
  have tr : ∀ a b c d e f g h i j k : AV, let l := lc_within_ok a b c; trim ((4,k)::(11,j)::(10,i)::(9,h)::(8,g)::(7,f)::(6,e)::(5,d)::l) l = lc_within_ok a b k := by intros; rfl
  refine R_nil (tr ..) ?_; clear tr
  refine then_n ?_
  refine at_ret rfl ?_
  refine fpure ?_
  refine ⟨?_, rfl⟩
  refine congrArg (fun b => AV.v (.bool b)) ?_
  first | rfl | exact (decide_eq_false (by omega)).symm | exact (decide_eq_true (by omega)).symm | (rw [decide_eq_decide]; omega) | (simp; omega)

abbrev lc_in_ok (a b : AV) : Env := [(0,a),(2,b)]
theorem in_ok (lim : Nat) (H : Heap) (n : Int) : ACall sig lim 52 [AV.i n] H fun r H' => r = .v (.bool (decide (inS n))) ∧ H' = H := by
 refine ACall_pure (fa := fa52) rfl rfl rfl rfl ?_
 have tr : ∀ a0 : AV, env0 fa52.keep [a0] = lc_in_ok a0 .any := fun a0 => rfl
 refine W_to (tr _) ?_; clear tr
 refine at_seq rfl ?_
 refine rg rfl ?_
 refine Rq ?_
 have tr : ∀ a b c : AV, let l := lc_in_ok a b; trim ((2,c)::l) l = lc_in_ok a c := by intros; rfl
 refine R_nil (tr ..) ?_; clear tr
 refine then_n ?_
 refine at_seq rfl ?_
 refine rg rfl ?_
 refine Rq ?_
 refine Rq ?_
 refine Rq ?_
 refine Rp_split (fun h1 => ?_) (fun h1 => ?_)
 ·
  try simp only [decide_eq_true_eq, decide_eq_false_iff_not, decide_eq_decide, Bool.not_eq_true', Bool.not_eq_false', beq_iff_eq, beq_eq_false_iff_ne, ne_eq, Bool.and_eq_true, Bool.and_eq_false_iff, decide_not] at h1
  refine Ry ?_
  refine Rq ?_
  refine Ry ?_
  refine Rq ?_
  refine Rq ?_
  refine Rq ?_
  have tr : ∀ a b c d e f g h i : AV, let l := lc_in_ok a b; trim ((2,i)::(8,h)::(7,g)::(6,f)::(5,e)::(4,d)::(3,c)::l) l = lc_in_ok a i := by intros; rfl
  refine R_nil (tr ..) ?_; clear tr
  refine then_n ?_
  refine at_ret rfl ?_
  refine fpure ?_
  refine ⟨?_, rfl⟩
  refine congrArg (fun b => AV.v (.bool b)) ?_
  first | rfl | exact (decide_eq_false (by (unfold inS; omega))).symm | exact (decide_eq_true (by (unfold inS; omega))).symm | (rw [decide_eq_decide]; (unfold inS; omega)) | (unfold inS; simp; omega)
 ·
  try simp only [decide_eq_true_eq, decide_eq_false_iff_not, decide_eq_decide, Bool.not_eq_true', Bool.not_eq_false', beq_iff_eq, beq_eq_false_iff_ne, ne_eq, Bool.and_eq_true, Bool.and_eq_false_iff, decide_not] at h1
  refine Rn ?_
  refine Rn ?_
  refine Rq ?_
  refine Rq ?_
  have tr : ∀ a b c d e f g h i : AV, let l := lc_in_ok a b; trim ((2,i)::(8,h)::(7,g)::(6,f)::(5,e)::(4,d)::(3,c)::l) l = lc_in_ok a i := by intros; rfl
  refine R_nil (tr ..) ?_; clear tr
  refine then_n ?_
  refine at_ret rfl ?_
  refine fpure ?_
  refine ⟨?_, rfl⟩
  refine congrArg (fun b => AV.v (.bool b)) ?_
  first | rfl | exact (decide_eq_false (by (unfold inS; omega))).symm | exact (decide_eq_true (by (unfold inS; omega))).symm | (rw [decide_eq_decide]; (unfold inS; omega)) | (unfold inS; simp; omega)

abbrev lc_rate_ok (a b c d e f g h i j k m n o p q : AV) : Env := [(0,a),(1,b),(2,c),(3,d),(4,e),(6,f),(7,g),(8,h),(9,i),(10,j),(19,k),(20,m),(21,n),(25,o),(36,p),(38,q)]
theorem rate_ok (lim : Nat) (H : Heap) (z : St) : ACall sig lim 26 [stA z] H fun r H' => r = .tup [AV.i (rtN z), AV.i (rtD z), .v (.bool (decide (okS z)))] ∧ H' = H := by
 refine ACall_pure (fa := fa26) rfl rfl rfl rfl ?_
 have tr : ∀ a0 : AV, env0 fa26.keep [a0] = lc_rate_ok a0 .any .any .any .any .any .any .any .any .any .any .any .any .any .any .any := fun a0 => rfl
 refine W_to (tr _) ?_; clear tr
 refine at_seq rfl ?_
 refine rg rfl ?_
 refine R_box rfl (by simp (disch := first | omega | (simp only [List.length_map, List.length_append, List.length_set, List.length_cons, List.length_nil]; omega)) only [go_sem, ↓reduceIte, Nat.reduceEqDiff, reduceCtorEq] <;> rfl) rfl rfl ?_
 refine Rq ?_
 refine Rq ?_
 refine Rq ?_
 have tr : ∀ a b c d e f g h i j k m n o p q r s t u : AV, let l := lc_rate_ok a b c d e f g h i j k m n o p q; trim ((4,u)::(3,t)::(2,s)::(1,r)::l) l = lc_rate_ok a r s t u f g h i j k m n o p q := by intros; rfl
 refine R_nil (tr ..) ?_; clear tr
 refine then_n ?_
 refine at_seq rfl ?_
 refine at_seq rfl ?_
 refine rg rfl ?_
 refine Rq ?_
 refine Rq ?_
 refine Rq ?_
 refine Rq ?_
 refine Rq ?_
 refine Rq ?_
 refine Rq ?_
 refine Rq ?_
 refine Rq ?_
 refine Rq ?_
 have tr : ∀ a b c d e f g h i j k m n o p q r s t u v w x y z A : AV, let l := lc_rate_ok a b c d e f g h i j k m n o p q; trim ((20,A)::(19,z)::(18,y)::(17,x)::(16,w)::(15,v)::(14,u)::(13,t)::(12,s)::(11,r)::l) l = lc_rate_ok a b c d e f g h i j z A n o p q := by intros; rfl
 refine R_nil (tr ..) ?_; clear tr
 refine then_n ?_
 refine at_block rfl ?_
 refine loop_n rfl (fun mm kv H' => ∃ i : Nat, ∃ x2 x3 x4 x6 x21 x25 : AV, (kv = [(2, x2), (3, x3), (4, x4), (6, x6), (20, AV.i (i : Int)), (21, x21), (25, x25)]) ∧ (mm = 4 - i) ∧ (H' = H ++ [some (stL z)]) ∧ (i ≤ 4) ∧ (∀ j, j < i → inS (gt4 z j))) ⟨0, _, _, _, _, _, _, rfl, rfl, rfl, by omega, by (intro j hj; omega)⟩ (by rfl) ?_
 rintro mm kv H' ⟨i, x2, x3, x4, x6, x21, x25, rfl, rfl, rfl, hi, hr⟩
 have tr : ∀ a b c d e f g h i j k m n o p q r s t u v w x : AV, upd (lc_rate_ok a b c d e f g h i j k m n o p q) [(2,r),(3,s),(4,t),(6,u),(20,v),(21,w),(25,x)] = lc_rate_ok a b r s t u g h i j k v w x p q := by intros; rfl
 refine W_to (tr ..) ?_; clear tr
 refine at_seq rfl ?_
 refine rg rfl ?_
 refine Rq ?_
 have tr : ∀ a b c d e f g h i j k m n o p q r : AV, let l := lc_rate_ok a b c d e f g h i j k m n o p q; trim ((21,r)::l) l = lc_rate_ok a b c d e f g h i j k m r o p q := by intros; rfl
 refine R_nil (tr ..) ?_; clear tr
 refine then_n ?_
 refine at_seq rfl ?_
 refine cdd (fun h1 => ?_) (fun h1 => ?_)
 ·
  try simp only [decide_eq_true_eq, decide_eq_false_iff_not, decide_eq_decide, Bool.not_eq_true', Bool.not_eq_false', beq_iff_eq, beq_eq_false_iff_ne, ne_eq, Bool.and_eq_true, Bool.and_eq_false_iff, decide_not] at h1
  refine at_skip rfl ?_
  refine then_n ?_
  refine at_seq rfl ?_
  refine at_block rfl ?_
  refine at_seq rfl ?_
  refine rg rfl ?_
  refine R_q (r := AV.i (gt4 z i)) rfl (by simp only [go_sem, ↓reduceIte, Nat.reduceEqDiff]; exact ix77 z i (by omega)) ?_
  refine Rq ?_
  have tr : ∀ a b c d e f g h i j k m n o p q r s : AV, let l := lc_rate_ok a b c d e f g h i j k m n o p q; trim ((6,s)::(22,r)::l) l = lc_rate_ok a b c d e s g h i j k m n o p q := by intros; rfl
  refine R_nil (tr ..) ?_; clear tr
  refine then_n ?_
  refine at_seq rfl ?_
  refine rg rfl ?_
  refine Rq ?_
  refine Rcall ?_
  refine ACall_eq (within_ok _ _ _ _) ?_
  refine Rq ?_
  have tr : ∀ a b c d e f g h i j k m n o p q r s t : AV, let l := lc_rate_ok a b c d e f g h i j k m n o p q; trim ((25,t)::(24,s)::(23,r)::l) l = lc_rate_ok a b c d e f g h i j k m n t p q := by intros; rfl
  refine R_nil (tr ..) ?_; clear tr
  refine then_n ?_
  refine cdd (fun h2 => ?_) (fun h2 => ?_)
  ·
   try simp only [decide_eq_true_eq, decide_eq_false_iff_not, decide_eq_decide, Bool.not_eq_true', Bool.not_eq_false', beq_iff_eq, beq_eq_false_iff_ne, ne_eq, Bool.and_eq_true, Bool.and_eq_false_iff, decide_not] at h2
   refine at_seq rfl ?_
   refine rg rfl ?_
   have hno : ¬ okS z := gt4_no (j := i) (by omega) (by unfold inS; omega)
   refine Rq ?_
   refine Rq ?_
   refine Rq ?_
   have tr : ∀ a b c d e f g h i j k m n o p q r s t : AV, let l := lc_rate_ok a b c d e f g h i j k m n o p q; trim ((4,t)::(3,s)::(2,r)::l) l = lc_rate_ok a b r s t f g h i j k m n o p q := by intros; rfl
   refine R_nil (tr ..) ?_; clear tr
   refine then_n ?_
   refine at_ret rfl ?_
   refine blk_r ?_
   refine then_r ?_
   refine then_r ?_
   refine blk_r ?_
   refine then_r ?_
   first | (refine fpure ?_; refine ⟨?_, rfl⟩; rw [rtN_n hno, rtD_n hno, decide_eq_false hno] <;> rfl; done) | (refine fpure ?_; refine ⟨?_, rfl⟩; rw [rtN_y hok, rtD_y hok, decide_eq_true hok] <;> rfl)
  ·
   try simp only [decide_eq_true_eq, decide_eq_false_iff_not, decide_eq_decide, Bool.not_eq_true', Bool.not_eq_false', beq_iff_eq, beq_eq_false_iff_ne, ne_eq, Bool.and_eq_true, Bool.and_eq_false_iff, decide_not] at h2
   refine at_skip rfl ?_
   refine blk_n ?_
   refine then_n ?_
   refine rg rfl ?_
   have hin : inS (gt4 z i) := by unfold inS; omega
   refine Rq ?_
   refine Rq ?_
   have tr : ∀ a b c d e f g h i j k m n o p q r s : AV, let l := lc_rate_ok a b c d e f g h i j k m n o p q; trim ((20,s)::(26,r)::l) l = lc_rate_ok a b c d e f g h i j k s n o p q := by intros; rfl
   refine R_nil (tr ..) ?_; clear tr
   refine then_n ?_
   exact ⟨_, _, ⟨i + 1, _, _, _, _, _, _, rfl, rfl, rfl, by omega, by (intro j hj; rcases Nat.lt_succ_iff_lt_or_eq.mp hj with h | rfl; exact hr j h; exact hin)⟩, by rfl, by omega⟩
 ·
  try simp only [decide_eq_true_eq, decide_eq_false_iff_not, decide_eq_decide, Bool.not_eq_true', Bool.not_eq_false', beq_iff_eq, beq_eq_false_iff_ne, ne_eq, Bool.and_eq_true, Bool.and_eq_false_iff, decide_not] at h1
  refine at_exit rfl ?_
  refine then_x ?_
  refine then_x ?_
  refine blk_x ?_
  refine then_n ?_
  refine at_seq rfl ?_
  refine rd rfl rfl ?_
  obtain rfl : i = 4 := by omega
  have hok := gt4_ok hr
  have hpr := prod_rng hok
  refine Qq ?_
  refine Qq ?_
  refine Qq ?_
  refine Qq ?_
  refine Qq ?_
  refine Qq ?_
  refine Qq ?_
  refine Qq ?_
  refine Qq ?_
  refine Qq ?_
  refine Qq ?_
  refine Qq ?_
  refine Q_nil ?_
  have tr : ∀ a b c d e f g h i j k m n o p q r s t u v w x y z A B C : AV, let l := lc_rate_ok a b c d e f g h i j k m n o p q; trim ((10,C)::(9,B)::(8,A)::(7,z)::(34,y)::(33,x)::(32,w)::(31,v)::(30,u)::(29,t)::(28,s)::(27,r)::l) l = lc_rate_ok a b c d e f z A B C k m n o p q := by intros; rfl
  refine R_nil (tr ..) ?_; clear tr
  refine then_n ?_
  refine seq_cut rfl (fun s => ∃ x2 x3 x4 x6 x20 x21 x25 x36 : AV, s = ⟨[(0, stA z), (1, .ptr H.length 0), (2, x2), (3, x3), (4, x4), (6, x6), (7, AV.i (nil0 z.bf z.rf)), (8, AV.i (one z.bf)), (9, AV.i (z.ra)), (10, AV.i (z.ba)), (19, .agg [AV.i z.rf, AV.i z.bf, AV.i z.ra, AV.i z.ba]), (20, x20), (21, x21), (25, x25), (36, x36), (38, .any)], H ++ [some (stL z)]⟩) ?_ ?_
  ·
   refine at_seq rfl ?_
   refine rg rfl ?_
   refine Rq ?_
   refine Rq ?_
   have tr : ∀ a b c d e f g h i j k m n o p q r s : AV, let l := lc_rate_ok a b c d e f g h i j k m n o p q; trim ((36,s)::(35,r)::l) l = lc_rate_ok a b c d e f g h i j k m n o s q := by intros; rfl
   refine R_nil (tr ..) ?_; clear tr
   refine then_n ?_
   refine cdd (fun h3 => ?_) (fun h3 => ?_)
   ·
    try simp only [decide_eq_true_eq, decide_eq_false_iff_not, decide_eq_decide, Bool.not_eq_true', Bool.not_eq_false', beq_iff_eq, beq_eq_false_iff_ne, ne_eq, Bool.and_eq_true, Bool.and_eq_false_iff, decide_not] at h3
    refine rg rfl ?_
    refine Rq ?_
    refine Rq ?_
    have tr : ∀ a b c d e f g h i j k m n o p q r s : AV, let l := lc_rate_ok a b c d e f g h i j k m n o p q; trim ((8,s)::(7,r)::l) l = lc_rate_ok a b c d e f r s i j k m n o p q := by intros; rfl
    refine R_nil (tr ..) ?_; clear tr
    refine then_n ?_
    exact ⟨_, _, _, _, _, _, _, _, by first | (rw [nil0_y (by assumption : z.bf = 0), one_y (by assumption : z.bf = 0)]) | (rw [nil0_n (by assumption : ¬ z.bf = 0), one_n (by assumption : ¬ z.bf = 0)])⟩
   ·
    try simp only [decide_eq_true_eq, decide_eq_false_iff_not, decide_eq_decide, Bool.not_eq_true', Bool.not_eq_false', beq_iff_eq, beq_eq_false_iff_ne, ne_eq, Bool.and_eq_true, Bool.and_eq_false_iff, decide_not] at h3
    refine at_skip rfl ?_
    refine then_n ?_
    exact ⟨_, _, _, _, _, _, _, _, by first | (rw [nil0_y (by assumption : z.bf = 0), one_y (by assumption : z.bf = 0)]) | (rw [nil0_n (by assumption : ¬ z.bf = 0), one_n (by assumption : ¬ z.bf = 0)])⟩
  ·
   rintro s ⟨x2, x3, x4, x6, x20, x21, x25, x36, rfl⟩
   refine seq_cut rfl (fun s => ∃ x2 x3 x4 x6 x20 x21 x25 x36 x38 : AV, s = ⟨[(0, stA z), (1, .ptr H.length 0), (2, x2), (3, x3), (4, x4), (6, x6), (7, AV.i (nil0 z.bf z.rf)), (8, AV.i (one z.bf)), (9, AV.i (nil0 z.ba z.ra)), (10, AV.i (one z.ba)), (19, .agg [AV.i z.rf, AV.i z.bf, AV.i z.ra, AV.i z.ba]), (20, x20), (21, x21), (25, x25), (36, x36), (38, x38)], H ++ [some (stL z)]⟩) ?_ ?_
   ·
    refine at_seq rfl ?_
    refine rg rfl ?_
    refine Rq ?_
    refine Rq ?_
    have tr : ∀ a b c d e f g h i j k m n o p q r s : AV, let l := lc_rate_ok a b c d e f g h i j k m n o p q; trim ((38,s)::(37,r)::l) l = lc_rate_ok a b c d e f g h i j k m n o p s := by intros; rfl
    refine R_nil (tr ..) ?_; clear tr
    refine then_n ?_
    refine cdd (fun h4 => ?_) (fun h4 => ?_)
    ·
     try simp only [decide_eq_true_eq, decide_eq_false_iff_not, decide_eq_decide, Bool.not_eq_true', Bool.not_eq_false', beq_iff_eq, beq_eq_false_iff_ne, ne_eq, Bool.and_eq_true, Bool.and_eq_false_iff, decide_not] at h4
     refine rg rfl ?_
     refine Rq ?_
     refine Rq ?_
     have tr : ∀ a b c d e f g h i j k m n o p q r s : AV, let l := lc_rate_ok a b c d e f g h i j k m n o p q; trim ((10,s)::(9,r)::l) l = lc_rate_ok a b c d e f g h r s k m n o p q := by intros; rfl
     refine R_nil (tr ..) ?_; clear tr
     refine then_n ?_
     exact ⟨_, _, _, _, _, _, _, _, _, by first | (rw [nil0_y (by assumption : z.ba = 0), one_y (by assumption : z.ba = 0)]) | (rw [nil0_n (by assumption : ¬ z.ba = 0), one_n (by assumption : ¬ z.ba = 0)])⟩
    ·
     try simp only [decide_eq_true_eq, decide_eq_false_iff_not, decide_eq_decide, Bool.not_eq_true', Bool.not_eq_false', beq_iff_eq, beq_eq_false_iff_ne, ne_eq, Bool.and_eq_true, Bool.and_eq_false_iff, decide_not] at h4
     refine at_skip rfl ?_
     refine then_n ?_
     exact ⟨_, _, _, _, _, _, _, _, _, by first | (rw [nil0_y (by assumption : z.ba = 0), one_y (by assumption : z.ba = 0)]) | (rw [nil0_n (by assumption : ¬ z.ba = 0), one_n (by assumption : ¬ z.ba = 0)])⟩
   ·
    rintro s ⟨x2, x3, x4, x6, x20, x21, x25, x36, x38, rfl⟩
    refine at_seq rfl ?_
    refine rg rfl ?_
    refine Rq ?_
    refine Rq ?_
    refine Rq ?_
    refine Rq ?_
    refine Rq ?_
    refine Rq ?_
    refine Rq ?_
    refine Rq ?_
    refine Rq ?_
    refine Rq ?_
    refine Rq ?_
    refine Rq ?_
    refine Rq ?_
    have tr : ∀ a b c d e f g h i j k m n o p q r s t u v w x y z A B C D : AV, let l := lc_rate_ok a b c d e f g h i j k m n o p q; trim ((4,D)::(3,C)::(2,B)::(48,A)::(47,z)::(46,y)::(45,x)::(44,w)::(43,v)::(42,u)::(41,t)::(40,s)::(39,r)::l) l = lc_rate_ok a b B C D f g h i j k m n o p q := by intros; rfl
    refine R_nil (tr ..) ?_; clear tr
    refine then_n ?_
    refine at_ret rfl ?_
    first | (refine fpure ?_; refine ⟨?_, rfl⟩; rw [rtN_n hno, rtD_n hno, decide_eq_false hno] <;> rfl; done) | (refine fpure ?_; refine ⟨?_, rfl⟩; rw [rtN_y hok, rtD_y hok, decide_eq_true hok] <;> rfl)

abbrev lc_rrate_ok (a b c d e f g h i j : AV) : Env := [(0,a),(1,b),(2,c),(3,d),(4,e),(5,f),(6,g),(7,h),(17,i),(19,j)]
theorem rrate_ok (lim : Nat) (H : Heap) (z : St) (hok : okS z) : ACall sig lim 30 [stA z] H fun r H' => r = .tup [AV.i (rxn z), AV.i (rxd z)] ∧ H' = H := by
 have hpr := prod_rng hok
 refine ACall_pure (fa := fa30) rfl rfl rfl rfl ?_
 have tr : ∀ a0 : AV, env0 fa30.keep [a0] = lc_rrate_ok a0 .any .any .any .any .any .any .any .any .any := fun a0 => rfl
 refine W_to (tr _) ?_; clear tr
 refine at_seq rfl ?_
 refine rg rfl ?_
 refine R_box rfl (by simp (disch := first | omega | (simp only [List.length_map, List.length_append, List.length_set, List.length_cons, List.length_nil]; omega)) only [go_sem, ↓reduceIte, Nat.reduceEqDiff, reduceCtorEq] <;> rfl) rfl rfl ?_
 refine Rq ?_
 refine Rq ?_
 have tr : ∀ a b c d e f g h i j k m n : AV, let l := lc_rrate_ok a b c d e f g h i j; trim ((3,n)::(2,m)::(1,k)::l) l = lc_rrate_ok a k m n e f g h i j := by intros; rfl
 refine R_nil (tr ..) ?_; clear tr
 refine then_n ?_
 refine at_seq rfl ?_
 refine rd rfl rfl ?_
 refine Qq ?_
 refine Qq ?_
 refine Qq ?_
 refine Qq ?_
 refine Qq ?_
 refine Qq ?_
 refine Qq ?_
 refine Qq ?_
 refine Qq ?_
 refine Qq ?_
 refine Qq ?_
 refine Qq ?_
 refine Q_nil ?_
 have tr : ∀ a b c d e f g h i j k m n o p q r s t u v w : AV, let l := lc_rrate_ok a b c d e f g h i j; trim ((7,w)::(6,v)::(5,u)::(4,t)::(15,s)::(14,r)::(13,q)::(12,p)::(11,o)::(10,n)::(9,m)::(8,k)::l) l = lc_rrate_ok a b c d t u v w i j := by intros; rfl
 refine R_nil (tr ..) ?_; clear tr
 refine then_n ?_
 refine seq_cut rfl (fun s => ∃ x17 : AV, s = ⟨[(0, stA z), (1, .ptr H.length 0), (2, AV.i 0), (3, AV.i 0), (4, AV.i (nil0 z.bf z.rf)), (5, AV.i (one z.bf)), (6, AV.i (z.ra)), (7, AV.i (z.ba)), (17, x17), (19, .any)], H ++ [some (stL z)]⟩) ?_ ?_
 ·
  refine at_seq rfl ?_
  refine rg rfl ?_
  refine Rq ?_
  refine Rq ?_
  have tr : ∀ a b c d e f g h i j k m : AV, let l := lc_rrate_ok a b c d e f g h i j; trim ((17,m)::(16,k)::l) l = lc_rrate_ok a b c d e f g h m j := by intros; rfl
  refine R_nil (tr ..) ?_; clear tr
  refine then_n ?_
  refine cdd (fun h1 => ?_) (fun h1 => ?_)
  ·
   try simp only [decide_eq_true_eq, decide_eq_false_iff_not, decide_eq_decide, Bool.not_eq_true', Bool.not_eq_false', beq_iff_eq, beq_eq_false_iff_ne, ne_eq, Bool.and_eq_true, Bool.and_eq_false_iff, decide_not] at h1
   refine rg rfl ?_
   refine Rq ?_
   refine Rq ?_
   have tr : ∀ a b c d e f g h i j k m : AV, let l := lc_rrate_ok a b c d e f g h i j; trim ((5,m)::(4,k)::l) l = lc_rrate_ok a b c d k m g h i j := by intros; rfl
   refine R_nil (tr ..) ?_; clear tr
   refine then_n ?_
   exact ⟨_, by first | (rw [nil0_y (by assumption : z.bf = 0), one_y (by assumption : z.bf = 0)]) | (rw [nil0_n (by assumption : ¬ z.bf = 0), one_n (by assumption : ¬ z.bf = 0)])⟩
  ·
   try simp only [decide_eq_true_eq, decide_eq_false_iff_not, decide_eq_decide, Bool.not_eq_true', Bool.not_eq_false', beq_iff_eq, beq_eq_false_iff_ne, ne_eq, Bool.and_eq_true, Bool.and_eq_false_iff, decide_not] at h1
   refine at_skip rfl ?_
   refine then_n ?_
   exact ⟨_, by first | (rw [nil0_y (by assumption : z.bf = 0), one_y (by assumption : z.bf = 0)]) | (rw [nil0_n (by assumption : ¬ z.bf = 0), one_n (by assumption : ¬ z.bf = 0)])⟩
 ·
  rintro s ⟨x17, rfl⟩
  refine seq_cut rfl (fun s => ∃ x17 x19 : AV, s = ⟨[(0, stA z), (1, .ptr H.length 0), (2, AV.i 0), (3, AV.i 0), (4, AV.i (nil0 z.bf z.rf)), (5, AV.i (one z.bf)), (6, AV.i (nil0 z.ba z.ra)), (7, AV.i (one z.ba)), (17, x17), (19, x19)], H ++ [some (stL z)]⟩) ?_ ?_
  ·
   refine at_seq rfl ?_
   refine rg rfl ?_
   refine Rq ?_
   refine Rq ?_
   have tr : ∀ a b c d e f g h i j k m : AV, let l := lc_rrate_ok a b c d e f g h i j; trim ((19,m)::(18,k)::l) l = lc_rrate_ok a b c d e f g h i m := by intros; rfl
   refine R_nil (tr ..) ?_; clear tr
   refine then_n ?_
   refine cdd (fun h2 => ?_) (fun h2 => ?_)
   ·
    try simp only [decide_eq_true_eq, decide_eq_false_iff_not, decide_eq_decide, Bool.not_eq_true', Bool.not_eq_false', beq_iff_eq, beq_eq_false_iff_ne, ne_eq, Bool.and_eq_true, Bool.and_eq_false_iff, decide_not] at h2
    refine rg rfl ?_
    refine Rq ?_
    refine Rq ?_
    have tr : ∀ a b c d e f g h i j k m : AV, let l := lc_rrate_ok a b c d e f g h i j; trim ((7,m)::(6,k)::l) l = lc_rrate_ok a b c d e f k m i j := by intros; rfl
    refine R_nil (tr ..) ?_; clear tr
    refine then_n ?_
    exact ⟨_, _, by first | (rw [nil0_y (by assumption : z.ba = 0), one_y (by assumption : z.ba = 0)]) | (rw [nil0_n (by assumption : ¬ z.ba = 0), one_n (by assumption : ¬ z.ba = 0)])⟩
   ·
    try simp only [decide_eq_true_eq, decide_eq_false_iff_not, decide_eq_decide, Bool.not_eq_true', Bool.not_eq_false', beq_iff_eq, beq_eq_false_iff_ne, ne_eq, Bool.and_eq_true, Bool.and_eq_false_iff, decide_not] at h2
    refine at_skip rfl ?_
    refine then_n ?_
    exact ⟨_, _, by first | (rw [nil0_y (by assumption : z.ba = 0), one_y (by assumption : z.ba = 0)]) | (rw [nil0_n (by assumption : ¬ z.ba = 0), one_n (by assumption : ¬ z.ba = 0)])⟩
  ·
   rintro s ⟨x17, x19, rfl⟩
   refine at_seq rfl ?_
   refine rg rfl ?_
   refine Rq ?_
   refine Rq ?_
   refine Rq ?_
   refine Rq ?_
   refine Rq ?_
   refine Rq ?_
   refine Rq ?_
   refine Rq ?_
   refine Rq ?_
   refine Rq ?_
   refine Rq ?_
   refine Rq ?_
   have tr : ∀ a b c d e f g h i j k m n o p q r s t u v w : AV, let l := lc_rrate_ok a b c d e f g h i j; trim ((3,w)::(2,v)::(29,u)::(28,t)::(27,s)::(26,r)::(25,q)::(24,p)::(23,o)::(22,n)::(21,m)::(20,k)::l) l = lc_rrate_ok a b v w e f g h i j := by intros; rfl
   refine R_nil (tr ..) ?_; clear tr
   refine then_n ?_
   refine at_ret rfl ?_
   refine fpure ?_
   refine ⟨?_, rfl⟩
   rfl

abbrev lc_valid_ok (a b c : AV) : Env := [(0,a),(1,b),(2,c)]
theorem valid_ok (lim : Nat) (H : Heap) (z : St) : ACall sig lim 29 [stA z] H fun r H' => r = .v (.bool (decide (okS z))) ∧ H' = H := by
 refine ACall_pure (fa := fa29) rfl rfl rfl rfl ?_
 have tr : ∀ a0 : AV, env0 fa29.keep [a0] = lc_valid_ok a0 .any .any := fun a0 => rfl
 refine W_to (tr _) ?_; clear tr
 refine at_seq rfl ?_
 refine rg rfl ?_
 refine R_box rfl (by simp (disch := first | omega | (simp only [List.length_map, List.length_append, List.length_set, List.length_cons, List.length_nil]; omega)) only [go_sem, ↓reduceIte, Nat.reduceEqDiff, reduceCtorEq] <;> rfl) rfl rfl ?_
 refine Rq ?_
 have tr : ∀ a b c d e : AV, let l := lc_valid_ok a b c; trim ((2,e)::(1,d)::l) l = lc_valid_ok a d e := by intros; rfl
 refine R_nil (tr ..) ?_; clear tr
 refine then_n ?_
 refine at_seq rfl ?_
 refine rg rfl ?_
 refine Rq ?_
 refine Rq ?_
 refine Rcall ?_
 refine ACall_eq (in_ok _ _ _) ?_
 refine Rq ?_
 refine Rp_split (fun h1 => ?_) (fun h1 => ?_)
 ·
  try simp only [decide_eq_true_eq, decide_eq_false_iff_not, decide_eq_decide, Bool.not_eq_true', Bool.not_eq_false', beq_iff_eq, beq_eq_false_iff_ne, ne_eq, Bool.and_eq_true, Bool.and_eq_false_iff, decide_not] at h1
  refine Ry ?_
  refine Rq ?_
  refine Ry ?_
  refine Rq ?_
  refine Ry ?_
  refine Rcall ?_
  refine ACall_eq (in_ok _ _ _) ?_
  refine Rq ?_
  refine Rq ?_
  refine Rp_split (fun h2 => ?_) (fun h2 => ?_)
  ·
   try simp only [decide_eq_true_eq, decide_eq_false_iff_not, decide_eq_decide, Bool.not_eq_true', Bool.not_eq_false', beq_iff_eq, beq_eq_false_iff_ne, ne_eq, Bool.and_eq_true, Bool.and_eq_false_iff, decide_not] at h2
   refine Ry ?_
   refine Rq ?_
   refine Ry ?_
   refine Rq ?_
   refine Ry ?_
   refine Rcall ?_
   refine ACall_eq (in_ok _ _ _) ?_
   refine Rq ?_
   refine Rq ?_
   refine Rp_split (fun h3 => ?_) (fun h3 => ?_)
   ·
    try simp only [decide_eq_true_eq, decide_eq_false_iff_not, decide_eq_decide, Bool.not_eq_true', Bool.not_eq_false', beq_iff_eq, beq_eq_false_iff_ne, ne_eq, Bool.and_eq_true, Bool.and_eq_false_iff, decide_not] at h3
    refine Ry ?_
    refine Rq ?_
    refine Ry ?_
    refine Rq ?_
    refine Ry ?_
    refine Rcall ?_
    refine ACall_eq (in_ok _ _ _) ?_
    refine Rq ?_
    refine Rq ?_
    have tr : ∀ a b c d e f g h i j k m n o p q r s t u v w : AV, let l := lc_valid_ok a b c; trim ((2,w)::(20,v)::(19,u)::(18,t)::(17,s)::(16,r)::(15,q)::(14,p)::(13,o)::(12,n)::(11,m)::(10,k)::(9,j)::(8,i)::(7,h)::(6,g)::(5,f)::(4,e)::(3,d)::l) l = lc_valid_ok a b w := by intros; rfl
    refine R_nil (tr ..) ?_; clear tr
    refine then_n ?_
    refine at_ret rfl ?_
    refine fpure ?_
    refine ⟨?_, rfl⟩
    refine congrArg (fun b => AV.v (.bool b)) ?_
    first | rfl | exact (decide_eq_false (fun h => absurd h.1 (by assumption))).symm | exact (decide_eq_false (fun h => absurd h.2.1 (by assumption))).symm | exact (decide_eq_false (fun h => absurd h.2.2.1 (by assumption))).symm | (rw [decide_eq_decide]; exact ⟨fun h => ⟨by assumption, by assumption, by assumption, h⟩, fun h => h.2.2.2⟩)
   ·
    try simp only [decide_eq_true_eq, decide_eq_false_iff_not, decide_eq_decide, Bool.not_eq_true', Bool.not_eq_false', beq_iff_eq, beq_eq_false_iff_ne, ne_eq, Bool.and_eq_true, Bool.and_eq_false_iff, decide_not] at h3
    refine Rn ?_
    refine Rn ?_
    refine Rn ?_
    refine Rq ?_
    refine Rq ?_
    have tr : ∀ a b c d e f g h i j k m n o p q r s t u v w : AV, let l := lc_valid_ok a b c; trim ((2,w)::(20,v)::(19,u)::(18,t)::(17,s)::(16,r)::(15,q)::(14,p)::(13,o)::(12,n)::(11,m)::(10,k)::(9,j)::(8,i)::(7,h)::(6,g)::(5,f)::(4,e)::(3,d)::l) l = lc_valid_ok a b w := by intros; rfl
    refine R_nil (tr ..) ?_; clear tr
    refine then_n ?_
    refine at_ret rfl ?_
    refine fpure ?_
    refine ⟨?_, rfl⟩
    refine congrArg (fun b => AV.v (.bool b)) ?_
    first | rfl | exact (decide_eq_false (fun h => absurd h.1 (by assumption))).symm | exact (decide_eq_false (fun h => absurd h.2.1 (by assumption))).symm | exact (decide_eq_false (fun h => absurd h.2.2.1 (by assumption))).symm | (rw [decide_eq_decide]; exact ⟨fun h => ⟨by assumption, by assumption, by assumption, h⟩, fun h => h.2.2.2⟩)
  ·
   try simp only [decide_eq_true_eq, decide_eq_false_iff_not, decide_eq_decide, Bool.not_eq_true', Bool.not_eq_false', beq_iff_eq, beq_eq_false_iff_ne, ne_eq, Bool.and_eq_true, Bool.and_eq_false_iff, decide_not] at h2
   refine Rn ?_
   refine Rn ?_
   refine Rn ?_
   refine Rq ?_
   refine Rq ?_
   refine Rn ?_
   refine Rn ?_
   refine Rn ?_
   refine Rq ?_
   refine Rq ?_
   have tr : ∀ a b c d e f g h i j k m n o p q r s t u v w : AV, let l := lc_valid_ok a b c; trim ((2,w)::(20,v)::(19,u)::(18,t)::(17,s)::(16,r)::(15,q)::(14,p)::(13,o)::(12,n)::(11,m)::(10,k)::(9,j)::(8,i)::(7,h)::(6,g)::(5,f)::(4,e)::(3,d)::l) l = lc_valid_ok a b w := by intros; rfl
   refine R_nil (tr ..) ?_; clear tr
   refine then_n ?_
   refine at_ret rfl ?_
   refine fpure ?_
   refine ⟨?_, rfl⟩
   refine congrArg (fun b => AV.v (.bool b)) ?_
   first | rfl | exact (decide_eq_false (fun h => absurd h.1 (by assumption))).symm | exact (decide_eq_false (fun h => absurd h.2.1 (by assumption))).symm | exact (decide_eq_false (fun h => absurd h.2.2.1 (by assumption))).symm | (rw [decide_eq_decide]; exact ⟨fun h => ⟨by assumption, by assumption, by assumption, h⟩, fun h => h.2.2.2⟩)
 ·
  try simp only [decide_eq_true_eq, decide_eq_false_iff_not, decide_eq_decide, Bool.not_eq_true', Bool.not_eq_false', beq_iff_eq, beq_eq_false_iff_ne, ne_eq, Bool.and_eq_true, Bool.and_eq_false_iff, decide_not] at h1
  refine Rn ?_
  refine Rn ?_
  refine Rn ?_
  refine Rq ?_
  refine Rq ?_
  refine Rn ?_
  refine Rn ?_
  refine Rn ?_
  refine Rq ?_
  refine Rq ?_
  refine Rn ?_
  refine Rn ?_
  refine Rn ?_
  refine Rq ?_
  refine Rq ?_
  have tr : ∀ a b c d e f g h i j k m n o p q r s t u v w : AV, let l := lc_valid_ok a b c; trim ((2,w)::(20,v)::(19,u)::(18,t)::(17,s)::(16,r)::(15,q)::(14,p)::(13,o)::(12,n)::(11,m)::(10,k)::(9,j)::(8,i)::(7,h)::(6,g)::(5,f)::(4,e)::(3,d)::l) l = lc_valid_ok a b w := by intros; rfl
  refine R_nil (tr ..) ?_; clear tr
  refine then_n ?_
  refine at_ret rfl ?_
  refine fpure ?_
  refine ⟨?_, rfl⟩
  refine congrArg (fun b => AV.v (.bool b)) ?_
  first | rfl | exact (decide_eq_false (fun h => absurd h.1 (by assumption))).symm | exact (decide_eq_false (fun h => absurd h.2.1 (by assumption))).symm | exact (decide_eq_false (fun h => absurd h.2.2.1 (by assumption))).symm | (rw [decide_eq_decide]; exact ⟨fun h => ⟨by assumption, by assumption, by assumption, h⟩, fun h => h.2.2.2⟩)

end Go.Proofs.YtfnapmdedmbdbaaDoor
end
