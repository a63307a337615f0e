/-
  Walks of chapter 48. The steps are written by program (walk.py).
-/
import Derived.Test.YtocmcdejkoejhaaDoorK10
import Derived.Test.YtocmcdejkoejhaaDoorRB
set_option linter.unusedSimpArgs false
set_option linter.unusedVariables false
set_option maxHeartbeats 1000000
set_option maxRecDepth 20000
namespace Go.Proofs.YtocmcdejkoejhaaDoor
open Go Go.Am
abbrev lc_parse_ok (a b c d e f g h i j k m n o p : AV) : Env := [(0,a),(2,b),(3,c),(4,d),(5,e),(6,f),(7,g),(10,h),(12,i),(13,j),(14,k),(15,m),(29,n),(37,o),(40,p)]
theorem parse_ok (lim : Nat) (H : Heap) (s : ByteArray) : ACall sig lim 18 [.v (.string s)] H fun r H' => r = .tup [AV.i (parS s).1, AV.i (parS s).2] ∧ H' = H := by
 refine ACall_pure (fa := fa18) rfl rfl rfl rfl ?_
 have tr : ∀ a0 : AV, env0 fa18.keep [a0] = [(0,a0),(2,.any),(3,.any),(4,.any),(5,.any),(6,.any),(7,.any),(10,.any),(12,.any),(13,.any),(14,.any),(15,.any),(29,.any),(37,.any),(40,.any)] := fun a0 => rfl
 refine W_to (tr _) ?_; clear tr
 refine at_seq rfl ?_
 refine rg rfl ?_
 refine Rq ?_
 refine Rq ?_
 have tr : ∀ a b c d e f g h i j k m n o p q r : AV, let l := lc_parse_ok a b c d e f g h i j k m n o p; trim ((3,r)::(2,q)::l) l = [(0,a),(2,q),(3,r),(4,d),(5,e),(6,f),(7,g),(10,h),(12,i),(13,j),(14,k),(15,m),(29,n),(37,o),(40,p)] := by intros; rfl
 refine R_nil (tr ..) ?_; clear tr
 refine then_n ?_
 refine at_seq rfl ?_
 refine at_seq rfl ?_
 refine rg rfl ?_
 refine Rq ?_
 refine Rq ?_
 refine Rq ?_
 have tr : ∀ a b c d e f g h i j k m n o p q r s : AV, let l := lc_parse_ok a b c d e f g h i j k m n o p; trim ((10,s)::(9,r)::(8,q)::l) l = [(0,a),(2,b),(3,c),(4,d),(5,e),(6,f),(7,g),(10,s),(12,i),(13,j),(14,k),(15,m),(29,n),(37,o),(40,p)] := by intros; rfl
 refine R_nil (tr ..) ?_; clear tr
 refine then_n ?_
 refine cdd (fun h1 => ?_) (fun h1 => ?_)
 ·
  try simp only [decide_eq_true_eq, decide_eq_false_iff_not, Bool.not_eq_true', Bool.not_eq_false', beq_iff_eq, beq_eq_false_iff_ne, ne_eq] at h1
  refine at_seq rfl ?_
  refine rg rfl ?_
  refine Rq ?_
  refine Rq ?_
  have tr : ∀ a b c d e f g h i j k m n o p q r : AV, let l := lc_parse_ok a b c d e f g h i j k m n o p; trim ((3,r)::(2,q)::l) l = [(0,a),(2,q),(3,r),(4,d),(5,e),(6,f),(7,g),(10,h),(12,i),(13,j),(14,k),(15,m),(29,n),(37,o),(40,p)] := by intros; rfl
  refine R_nil (tr ..) ?_; clear tr
  refine then_n ?_
  refine at_ret rfl ?_
  refine then_r ?_
  first | (refine fpure ?_; refine ⟨?_, rfl⟩; rw [par_a (by omega)]; done) | (refine fpure ?_; refine ⟨?_, rfl⟩; rw [par_b (i := u) (by omega) (by omega) (not_dash (by omega) (by omega))]; done) | (refine fpure ?_; refine ⟨?_, rfl⟩; rw [par_b (i := u) (by omega) (by omega) (not_dig (by omega) (by omega))]; done) | (refine fpure ?_; refine ⟨?_, rfl⟩; obtain rfl : u = 10 := (by omega); rw [par_c (by omega) hok] <;> rfl; done)
 ·
  try simp only [decide_eq_true_eq, decide_eq_false_iff_not, Bool.not_eq_true', Bool.not_eq_false', beq_iff_eq, beq_eq_false_iff_ne, ne_eq] at h1
  refine at_skip rfl ?_
  refine then_n ?_
  refine at_seq rfl ?_
  refine rg rfl ?_
  have hsz : s.size = 10 := by omega
  refine A_alloc rfl ?_
  intro H1 n1
  have e1 := n1.len
  have q1 : hget H1 H.length = some ((pst s 0).2.map AV.i) := n1.new
  have tr : ∀ a b c d e f g h i j k m n o p q : AV, let l := lc_parse_ok a b c d e f g h i j k m n o p; trim ((4,q)::l) l = [(0,a),(2,b),(3,c),(4,q),(5,e),(6,f),(7,g),(10,h),(12,i),(13,j),(14,k),(15,m),(29,n),(37,o),(40,p)] := by intros; rfl
  refine R_nil (tr ..) ?_; clear tr
  refine then_n ?_
  refine at_seq rfl ?_
  refine rg rfl ?_
  refine Rq ?_
  have tr : ∀ a b c d e f g h i j k m n o p q : AV, let l := lc_parse_ok a b c d e f g h i j k m n o p; trim ((5,q)::l) l = [(0,a),(2,b),(3,c),(4,d),(5,q),(6,f),(7,g),(10,h),(12,i),(13,j),(14,k),(15,m),(29,n),(37,o),(40,p)] := by intros; rfl
  refine R_nil (tr ..) ?_; clear tr
  refine then_n ?_
  refine at_seq rfl ?_
  refine at_seq rfl ?_
  refine rg rfl ?_
  refine Rq ?_
  refine R_bytes (b := s) (cv53 s) rfl tk53 tk5u (by simp (disch := first | omega | (simp only [List.length_map, List.length_append, List.length_set, List.length_cons, List.length_nil]; omega)) only [go_sem, ↓reduceIte, Nat.reduceEqDiff, reduceCtorEq] <;> rfl) (by omega) ?_
  obtain ⟨BL, hBL⟩ : ∃ x, x = s.data.toList.map (fun c => AV.v (.int .u8 (c.toNat : Int))) := ⟨_, rfl⟩
  rw [← hBL]
  have hbl : ∀ i, i < 10 → BL[i]? = some (.v (.int .u8 (bt s i))) := fun i hi => by rw [hBL]; exact bt_ld s i (by omega)
  refine Rq ?_
  refine Rq ?_
  have tr : ∀ a b c d e f g h i j k m n o p q r s t : AV, let l := lc_parse_ok a b c d e f g h i j k m n o p; trim ((14,t)::(13,s)::(12,r)::(11,q)::l) l = [(0,a),(2,b),(3,c),(4,d),(5,e),(6,f),(7,g),(10,h),(12,r),(13,s),(14,t),(15,m),(29,n),(37,o),(40,p)] := by intros; rfl
  refine R_nil (tr ..) ?_; clear tr
  refine then_n ?_
  refine at_block rfl ?_
  refine loop_n rfl (fun mm kv H' => ∃ u : Nat, ∃ p : Int, ∃ x2 x3 x6 x7 x15 x29 x37 x40 : AV, (kv = [(2, x2), (3, x3), (5, AV.i p), (6, x6), (7, x7), (14, AV.i u), (15, x15), (29, x29), (37, x37), (40, x40)]) ∧ (mm = 10 - u) ∧ (u ≤ 10) ∧ (p = ((pst s u).1 : Int)) ∧ (hget H' H.length = some ((pst s u).2.map AV.i)) ∧ (∀ i, i < u → okB s i)) ⟨0, 0, _, _, _, _, _, _, _, _, rfl, rfl, by omega, by rfl, by exact q1, by intro i hi; omega⟩ (by rfl) ?_
  rintro mm kv HL ⟨u, p, x2, x3, x6, x7, x15, x29, x37, x40, rfl, rfl, hu, hp, qn, hok⟩
  have tr : ∀ a b c d e f g h i j k m n o p q r s t u v w x y z : AV, upd [(0,a),(2,b),(3,c),(4,d),(5,e),(6,f),(7,g),(10,h),(12,i),(13,j),(14,k),(15,m),(29,n),(37,o),(40,p)] [(2,q),(3,r),(5,s),(6,t),(7,u),(14,v),(15,w),(29,x),(37,y),(40,z)] = [(0,a),(2,q),(3,r),(4,d),(5,s),(6,t),(7,u),(10,h),(12,i),(13,j),(14,v),(15,w),(29,x),(37,y),(40,z)] := by intros; rfl
  refine W_to (tr ..) ?_; clear tr
  subst hp
  have hpl := pst_len s u
  have hp3 := pst_lt s u
  have hpr := fun q => pst_small hok hu q
  have hbr := bt_rng s u
  have gx := hpr (pst s u).1
  refine at_seq rfl ?_
  refine rg rfl ?_
  refine Rq ?_
  have tr : ∀ a b c d e f g h i j k m n o p q : AV, let l := lc_parse_ok a b c d e f g h i j k m n o p; trim ((15,q)::l) l = [(0,a),(2,b),(3,c),(4,d),(5,e),(6,f),(7,g),(10,h),(12,i),(13,j),(14,k),(15,q),(29,n),(37,o),(40,p)] := by intros; rfl
  refine R_nil (tr ..) ?_; clear tr
  refine then_n ?_
  refine at_seq rfl ?_
  refine cdd (fun h2 => ?_) (fun h2 => ?_)
  ·
   try simp only [decide_eq_true_eq, decide_eq_false_iff_not, Bool.not_eq_true', Bool.not_eq_false', beq_iff_eq, beq_eq_false_iff_ne, ne_eq] at h2
   refine at_skip rfl ?_
   refine then_n ?_
   refine at_seq rfl ?_
   refine at_block rfl ?_
   refine at_seq rfl ?_
   refine rg rfl ?_
   refine Rq ?_
   refine Rq ?_
   have hbu := hbl u (by omega)
   refine R_q rfl (by simp (disch := first | omega | (simp only [List.length_map, List.length_append, List.length_set, List.length_cons, List.length_nil]; omega)) only [go_sem, ↓reduceIte, Nat.reduceEqDiff, reduceCtorEq, hbu] <;> rfl) ?_
   refine Rq ?_
   refine Rq ?_
   have tr : ∀ a b c d e f g h i j k m n o p q r s t u : AV, let l := lc_parse_ok a b c d e f g h i j k m n o p; trim ((7,u)::(6,t)::(18,s)::(17,r)::(16,q)::l) l = [(0,a),(2,b),(3,c),(4,d),(5,e),(6,t),(7,u),(10,h),(12,i),(13,j),(14,k),(15,m),(29,n),(37,o),(40,p)] := by intros; rfl
   refine R_nil (tr ..) ?_; clear tr
   refine then_n ?_
   refine at_block rfl ?_
   refine at_seq rfl ?_
   refine rg rfl ?_
   refine Rq ?_
   refine Rq ?_
   refine Rq ?_
   refine Rp_split (fun h3 => ?_) (fun h3 => ?_)
   ·
    try simp only [decide_eq_true_eq, decide_eq_false_iff_not, Bool.not_eq_true', Bool.not_eq_false', beq_iff_eq, beq_eq_false_iff_ne, ne_eq] at h3
    refine Rn ?_
    refine Rn ?_
    refine Rq ?_
    refine Rq ?_
    have tr : ∀ a b c d e f g h i j k m n o p q r s t u v w : AV, let l := lc_parse_ok a b c d e f g h i j k m n o p; trim ((29,w)::(35,v)::(34,u)::(33,t)::(32,s)::(31,r)::(30,q)::l) l = [(0,a),(2,b),(3,c),(4,d),(5,e),(6,f),(7,g),(10,h),(12,i),(13,j),(14,k),(15,m),(29,w),(37,o),(40,p)] := by intros; rfl
    refine R_nil (tr ..) ?_; clear tr
    refine then_n ?_
    refine cdt ?_
    refine at_seq rfl ?_
    refine at_seq rfl ?_
    refine rg rfl ?_
    refine Rq ?_
    refine Rq ?_
    have tr : ∀ a b c d e f g h i j k m n o p q r : AV, let l := lc_parse_ok a b c d e f g h i j k m n o p; trim ((37,r)::(36,q)::l) l = [(0,a),(2,b),(3,c),(4,d),(5,e),(6,f),(7,g),(10,h),(12,i),(13,j),(14,k),(15,m),(29,n),(37,r),(40,p)] := by intros; rfl
    refine R_nil (tr ..) ?_; clear tr
    refine then_n ?_
    refine cdd (fun h4 => ?_) (fun h4 => ?_)
    ·
     try simp only [decide_eq_true_eq, decide_eq_false_iff_not, Bool.not_eq_true', Bool.not_eq_false', beq_iff_eq, beq_eq_false_iff_ne, ne_eq] at h4
     refine at_seq rfl ?_
     refine rg rfl ?_
     refine Rq ?_
     refine Rq ?_
     have tr : ∀ a b c d e f g h i j k m n o p q r : AV, let l := lc_parse_ok a b c d e f g h i j k m n o p; trim ((3,r)::(2,q)::l) l = [(0,a),(2,q),(3,r),(4,d),(5,e),(6,f),(7,g),(10,h),(12,i),(13,j),(14,k),(15,m),(29,n),(37,o),(40,p)] := by intros; rfl
     refine R_nil (tr ..) ?_; clear tr
     refine then_n ?_
     refine at_ret rfl ?_
     refine then_r ?_
     refine blk_r ?_
     refine blk_r ?_
     refine then_r ?_
     refine then_r ?_
     refine blk_r ?_
     refine then_r ?_
     first | (refine fpure ?_; refine ⟨?_, rfl⟩; rw [par_a (by omega)]; done) | (refine fpure ?_; refine ⟨?_, rfl⟩; rw [par_b (i := u) (by omega) (by omega) (not_dash (by omega) (by omega))]; done) | (refine fpure ?_; refine ⟨?_, rfl⟩; rw [par_b (i := u) (by omega) (by omega) (not_dig (by omega) (by omega))]; done) | (refine fpure ?_; refine ⟨?_, rfl⟩; obtain rfl : u = 10 := (by omega); rw [par_c (by omega) hok] <;> rfl; done)
    ·
     try simp only [decide_eq_true_eq, decide_eq_false_iff_not, Bool.not_eq_true', Bool.not_eq_false', beq_iff_eq, beq_eq_false_iff_ne, ne_eq] at h4
     refine at_skip rfl ?_
     refine then_n ?_
     refine rg rfl ?_
     refine Rq ?_
     refine Rq ?_
     refine Rq ?_
     have tr : ∀ a b c d e f g h i j k m n o p q r s : AV, let l := lc_parse_ok a b c d e f g h i j k m n o p; trim ((5,s)::(39,r)::(38,q)::l) l = [(0,a),(2,b),(3,c),(4,d),(5,s),(6,f),(7,g),(10,h),(12,i),(13,j),(14,k),(15,m),(29,n),(37,o),(40,p)] := by intros; rfl
     refine R_nil (tr ..) ?_; clear tr
     refine blk_n ?_
     refine blk_n ?_
     refine then_n ?_
     refine rg rfl ?_
     refine Rq ?_
     refine Rq ?_
     have tr : ∀ a b c d e f g h i j k m n o p q r : AV, let l := lc_parse_ok a b c d e f g h i j k m n o p; trim ((14,r)::(47,q)::l) l = [(0,a),(2,b),(3,c),(4,d),(5,e),(6,f),(7,g),(10,h),(12,i),(13,j),(14,r),(15,m),(29,n),(37,o),(40,p)] := by intros; rfl
     refine R_nil (tr ..) ?_; clear tr
     refine then_n ?_
     exact ⟨_, _, ⟨u + 1, ((pst s u).1 : Int) + 1, _, _, _, _, _, _, _, _, rfl, rfl, by omega, by first | (rw [(pst_dash (s := s) (u := u) (by omega)).2]; rfl) | (rw [pst_dig (s := s) (u := u) (by omega)]), by first | exact w2.new | (rw [(pst_dash (s := s) (u := u) (by omega)).1]; exact qn), by exact all_step hok (by first | exact okB_dash (by omega) (by omega) | exact okB_dig (by omega) (by omega))⟩, by rfl, by omega⟩
   ·
    try simp only [decide_eq_true_eq, decide_eq_false_iff_not, Bool.not_eq_true', Bool.not_eq_false', beq_iff_eq, beq_eq_false_iff_ne, ne_eq] at h3
    refine Ry ?_
    refine Rq ?_
    refine Ry ?_
    refine Rq ?_
    refine Rq ?_
    refine Rq ?_
    have tr : ∀ a b c d e f g h i j k m n o p q r s t u v w : AV, let l := lc_parse_ok a b c d e f g h i j k m n o p; trim ((29,w)::(35,v)::(34,u)::(33,t)::(32,s)::(31,r)::(30,q)::l) l = [(0,a),(2,b),(3,c),(4,d),(5,e),(6,f),(7,g),(10,h),(12,i),(13,j),(14,k),(15,m),(29,w),(37,o),(40,p)] := by intros; rfl
    refine R_nil (tr ..) ?_; clear tr
    refine then_n ?_
    refine cdd (fun h5 => ?_) (fun h5 => ?_)
    ·
     try simp only [decide_eq_true_eq, decide_eq_false_iff_not, Bool.not_eq_true', Bool.not_eq_false', beq_iff_eq, beq_eq_false_iff_ne, ne_eq] at h5
     refine at_seq rfl ?_
     refine at_seq rfl ?_
     refine rg rfl ?_
     refine Rq ?_
     refine Rq ?_
     have tr : ∀ a b c d e f g h i j k m n o p q r : AV, let l := lc_parse_ok a b c d e f g h i j k m n o p; trim ((37,r)::(36,q)::l) l = [(0,a),(2,b),(3,c),(4,d),(5,e),(6,f),(7,g),(10,h),(12,i),(13,j),(14,k),(15,m),(29,n),(37,r),(40,p)] := by intros; rfl
     refine R_nil (tr ..) ?_; clear tr
     refine then_n ?_
     refine cdd (fun h6 => ?_) (fun h6 => ?_)
     ·
      try simp only [decide_eq_true_eq, decide_eq_false_iff_not, Bool.not_eq_true', Bool.not_eq_false', beq_iff_eq, beq_eq_false_iff_ne, ne_eq] at h6
      refine at_seq rfl ?_
      refine rg rfl ?_
      refine Rq ?_
      refine Rq ?_
      have tr : ∀ a b c d e f g h i j k m n o p q r : AV, let l := lc_parse_ok a b c d e f g h i j k m n o p; trim ((3,r)::(2,q)::l) l = [(0,a),(2,q),(3,r),(4,d),(5,e),(6,f),(7,g),(10,h),(12,i),(13,j),(14,k),(15,m),(29,n),(37,o),(40,p)] := by intros; rfl
      refine R_nil (tr ..) ?_; clear tr
      refine then_n ?_
      refine at_ret rfl ?_
      refine then_r ?_
      refine blk_r ?_
      refine blk_r ?_
      refine then_r ?_
      refine then_r ?_
      refine blk_r ?_
      refine then_r ?_
      first | (refine fpure ?_; refine ⟨?_, rfl⟩; rw [par_a (by omega)]; done) | (refine fpure ?_; refine ⟨?_, rfl⟩; rw [par_b (i := u) (by omega) (by omega) (not_dash (by omega) (by omega))]; done) | (refine fpure ?_; refine ⟨?_, rfl⟩; rw [par_b (i := u) (by omega) (by omega) (not_dig (by omega) (by omega))]; done) | (refine fpure ?_; refine ⟨?_, rfl⟩; obtain rfl : u = 10 := (by omega); rw [par_c (by omega) hok] <;> rfl; done)
     ·
      try simp only [decide_eq_true_eq, decide_eq_false_iff_not, Bool.not_eq_true', Bool.not_eq_false', beq_iff_eq, beq_eq_false_iff_ne, ne_eq] at h6
      refine at_skip rfl ?_
      refine then_n ?_
      refine rg rfl ?_
      refine Rq ?_
      refine Rq ?_
      refine Rq ?_
      have tr : ∀ a b c d e f g h i j k m n o p q r s : AV, let l := lc_parse_ok a b c d e f g h i j k m n o p; trim ((5,s)::(39,r)::(38,q)::l) l = [(0,a),(2,b),(3,c),(4,d),(5,s),(6,f),(7,g),(10,h),(12,i),(13,j),(14,k),(15,m),(29,n),(37,o),(40,p)] := by intros; rfl
      refine R_nil (tr ..) ?_; clear tr
      refine blk_n ?_
      refine blk_n ?_
      refine then_n ?_
      refine rg rfl ?_
      refine Rq ?_
      refine Rq ?_
      have tr : ∀ a b c d e f g h i j k m n o p q r : AV, let l := lc_parse_ok a b c d e f g h i j k m n o p; trim ((14,r)::(47,q)::l) l = [(0,a),(2,b),(3,c),(4,d),(5,e),(6,f),(7,g),(10,h),(12,i),(13,j),(14,r),(15,m),(29,n),(37,o),(40,p)] := by intros; rfl
      refine R_nil (tr ..) ?_; clear tr
      refine then_n ?_
      exact ⟨_, _, ⟨u + 1, ((pst s u).1 : Int) + 1, _, _, _, _, _, _, _, _, rfl, rfl, by omega, by first | (rw [(pst_dash (s := s) (u := u) (by omega)).2]; rfl) | (rw [pst_dig (s := s) (u := u) (by omega)]), by first | exact w2.new | (rw [(pst_dash (s := s) (u := u) (by omega)).1]; exact qn), by exact all_step hok (by first | exact okB_dash (by omega) (by omega) | exact okB_dig (by omega) (by omega))⟩, by rfl, by omega⟩
    ·
     try simp only [decide_eq_true_eq, decide_eq_false_iff_not, Bool.not_eq_true', Bool.not_eq_false', beq_iff_eq, beq_eq_false_iff_ne, ne_eq] at h5
     refine at_seq rfl ?_
     refine rg rfl ?_
     refine Rq ?_
     refine Rq ?_
     refine Rq ?_
     refine Rp_split (fun h7 => ?_) (fun h7 => ?_)
     ·
      try simp only [decide_eq_true_eq, decide_eq_false_iff_not, Bool.not_eq_true', Bool.not_eq_false', beq_iff_eq, beq_eq_false_iff_ne, ne_eq] at h7
      refine Rn ?_
      refine Rn ?_
      refine Rq ?_
      refine Rq ?_
      have tr : ∀ a b c d e f g h i j k m n o p q r s t u v w : AV, let l := lc_parse_ok a b c d e f g h i j k m n o p; trim ((40,w)::(46,v)::(45,u)::(44,t)::(43,s)::(42,r)::(41,q)::l) l = [(0,a),(2,b),(3,c),(4,d),(5,e),(6,f),(7,g),(10,h),(12,i),(13,j),(14,k),(15,m),(29,n),(37,o),(40,w)] := by intros; rfl
      refine R_nil (tr ..) ?_; clear tr
      refine then_n ?_
      refine cdt ?_
      refine at_seq rfl ?_
      refine rg rfl ?_
      refine Rq ?_
      refine Rq ?_
      have tr : ∀ a b c d e f g h i j k m n o p q r : AV, let l := lc_parse_ok a b c d e f g h i j k m n o p; trim ((3,r)::(2,q)::l) l = [(0,a),(2,q),(3,r),(4,d),(5,e),(6,f),(7,g),(10,h),(12,i),(13,j),(14,k),(15,m),(29,n),(37,o),(40,p)] := by intros; rfl
      refine R_nil (tr ..) ?_; clear tr
      refine then_n ?_
      refine at_ret rfl ?_
      refine blk_r ?_
      refine blk_r ?_
      refine then_r ?_
      refine then_r ?_
      refine blk_r ?_
      refine then_r ?_
      first | (refine fpure ?_; refine ⟨?_, rfl⟩; rw [par_a (by omega)]; done) | (refine fpure ?_; refine ⟨?_, rfl⟩; rw [par_b (i := u) (by omega) (by omega) (not_dash (by omega) (by omega))]; done) | (refine fpure ?_; refine ⟨?_, rfl⟩; rw [par_b (i := u) (by omega) (by omega) (not_dig (by omega) (by omega))]; done) | (refine fpure ?_; refine ⟨?_, rfl⟩; obtain rfl : u = 10 := (by omega); rw [par_c (by omega) hok] <;> rfl; done)
     ·
      try simp only [decide_eq_true_eq, decide_eq_false_iff_not, Bool.not_eq_true', Bool.not_eq_false', beq_iff_eq, beq_eq_false_iff_ne, ne_eq] at h7
      refine Ry ?_
      refine Rq ?_
      refine Ry ?_
      refine Rq ?_
      refine Rq ?_
      refine Rq ?_
      have tr : ∀ a b c d e f g h i j k m n o p q r s t u v w : AV, let l := lc_parse_ok a b c d e f g h i j k m n o p; trim ((40,w)::(46,v)::(45,u)::(44,t)::(43,s)::(42,r)::(41,q)::l) l = [(0,a),(2,b),(3,c),(4,d),(5,e),(6,f),(7,g),(10,h),(12,i),(13,j),(14,k),(15,m),(29,n),(37,o),(40,w)] := by intros; rfl
      refine R_nil (tr ..) ?_; clear tr
      refine then_n ?_
      refine cdd (fun h8 => ?_) (fun h8 => ?_)
      ·
       try simp only [decide_eq_true_eq, decide_eq_false_iff_not, Bool.not_eq_true', Bool.not_eq_false', beq_iff_eq, beq_eq_false_iff_ne, ne_eq] at h8
       refine at_seq rfl ?_
       refine rg rfl ?_
       refine Rq ?_
       refine Rq ?_
       have tr : ∀ a b c d e f g h i j k m n o p q r : AV, let l := lc_parse_ok a b c d e f g h i j k m n o p; trim ((3,r)::(2,q)::l) l = [(0,a),(2,q),(3,r),(4,d),(5,e),(6,f),(7,g),(10,h),(12,i),(13,j),(14,k),(15,m),(29,n),(37,o),(40,p)] := by intros; rfl
       refine R_nil (tr ..) ?_; clear tr
       refine then_n ?_
       refine at_ret rfl ?_
       refine blk_r ?_
       refine blk_r ?_
       refine then_r ?_
       refine then_r ?_
       refine blk_r ?_
       refine then_r ?_
       first | (refine fpure ?_; refine ⟨?_, rfl⟩; rw [par_a (by omega)]; done) | (refine fpure ?_; refine ⟨?_, rfl⟩; rw [par_b (i := u) (by omega) (by omega) (not_dash (by omega) (by omega))]; done) | (refine fpure ?_; refine ⟨?_, rfl⟩; rw [par_b (i := u) (by omega) (by omega) (not_dig (by omega) (by omega))]; done) | (refine fpure ?_; refine ⟨?_, rfl⟩; obtain rfl : u = 10 := (by omega); rw [par_c (by omega) hok] <;> rfl; done)
      ·
       try simp only [decide_eq_true_eq, decide_eq_false_iff_not, Bool.not_eq_true', Bool.not_eq_false', beq_iff_eq, beq_eq_false_iff_ne, ne_eq] at h8
       refine rg rfl ?_
       refine Rq ?_
       refine Rq ?_
       refine Rq ?_
       refine R_q rfl (by simp (disch := first | omega | (simp only [List.length_map, List.length_append, List.length_set, List.length_cons, List.length_nil]; omega)) only [go_sem, ↓reduceIte, Nat.reduceEqDiff, reduceCtorEq, qn] <;> rfl) ?_
       refine Rq ?_
       refine Rq ?_
       refine Rq ?_
       refine Rq ?_
       refine Rq ?_
       refine Rq ?_
       refine A_store ty3 (by simp (disch := first | omega | (simp only [List.length_map, List.length_append, List.length_set, List.length_cons, List.length_nil]; omega)) only [go_sem, ↓reduceIte, Nat.reduceEqDiff, reduceCtorEq] <;> rfl) (by simp (disch := first | omega | (simp only [List.length_map, List.length_append, List.length_set, List.length_cons, List.length_nil]; omega)) only [go_sem, ↓reduceIte, Nat.reduceEqDiff, reduceCtorEq] <;> rfl) qn ⟨by omega, rfl, by simp only [List.length_map]; omega⟩ (set_pst s u (by omega)) ?_
       intro H2 w2
       have tr : ∀ a b c d e f g h i j k m n o p q r s t u v w x y z : AV, let l := lc_parse_ok a b c d e f g h i j k m n o p; trim ((28,z)::(27,y)::(26,x)::(25,w)::(24,v)::(23,u)::(22,t)::(21,s)::(20,r)::(19,q)::l) l = [(0,a),(2,b),(3,c),(4,d),(5,e),(6,f),(7,g),(10,h),(12,i),(13,j),(14,k),(15,m),(29,n),(37,o),(40,p)] := by intros; rfl
       refine R_nil (tr ..) ?_; clear tr
       refine blk_n ?_
       refine blk_n ?_
       refine then_n ?_
       refine rg rfl ?_
       refine Rq ?_
       refine Rq ?_
       have tr : ∀ a b c d e f g h i j k m n o p q r : AV, let l := lc_parse_ok a b c d e f g h i j k m n o p; trim ((14,r)::(47,q)::l) l = [(0,a),(2,b),(3,c),(4,d),(5,e),(6,f),(7,g),(10,h),(12,i),(13,j),(14,r),(15,m),(29,n),(37,o),(40,p)] := by intros; rfl
       refine R_nil (tr ..) ?_; clear tr
       refine then_n ?_
       exact ⟨_, _, ⟨u + 1, ((pst s u).1 : Int), _, _, _, _, _, _, _, _, rfl, rfl, by omega, by first | (rw [(pst_dash (s := s) (u := u) (by omega)).2]; rfl) | (rw [pst_dig (s := s) (u := u) (by omega)]), by first | exact w2.new | (rw [(pst_dash (s := s) (u := u) (by omega)).1]; exact qn), by exact all_step hok (by first | exact okB_dash (by omega) (by omega) | exact okB_dig (by omega) (by omega))⟩, by rfl, by omega⟩
  ·
   try simp only [decide_eq_true_eq, decide_eq_false_iff_not, Bool.not_eq_true', Bool.not_eq_false', beq_iff_eq, beq_eq_false_iff_ne, ne_eq] at h2
   refine at_exit rfl ?_
   refine then_x ?_
   refine then_x ?_
   refine blk_x ?_
   refine then_n ?_
   refine at_seq rfl ?_
   refine rg rfl ?_
   refine Rq ?_
   refine R_q rfl (by simp (disch := first | omega | (simp only [List.length_map, List.length_append, List.length_set, List.length_cons, List.length_nil]; omega)) only [go_sem, ↓reduceIte, Nat.reduceEqDiff, reduceCtorEq, qn] <;> rfl) ?_
   refine Rq ?_
   refine R_q rfl (by simp (disch := first | omega | (simp only [List.length_map, List.length_append, List.length_set, List.length_cons, List.length_nil]; omega)) only [go_sem, ↓reduceIte, Nat.reduceEqDiff, reduceCtorEq, qn] <;> rfl) ?_
   refine Rq ?_
   refine R_q rfl (by simp (disch := first | omega | (simp only [List.length_map, List.length_append, List.length_set, List.length_cons, List.length_nil]; omega)) only [go_sem, ↓reduceIte, Nat.reduceEqDiff, reduceCtorEq, qn] <;> rfl) ?_
   refine Rcall ?_
   refine ACall_eq (day_ok _ _ _ _ _) ?_
   refine Rq ?_
   refine Rq ?_
   refine Rq ?_
   refine Rq ?_
   have tr : ∀ a b c d e f g h i j k m n o p q r s t u v w x y z A : AV, let l := lc_parse_ok a b c d e f g h i j k m n o p; trim ((3,A)::(2,z)::(56,y)::(55,x)::(54,w)::(53,v)::(52,u)::(51,t)::(50,s)::(49,r)::(48,q)::l) l = [(0,a),(2,z),(3,A),(4,d),(5,e),(6,f),(7,g),(10,h),(12,i),(13,j),(14,k),(15,m),(29,n),(37,o),(40,p)] := by intros; rfl
   refine R_nil (tr ..) ?_; clear tr
   refine then_n ?_
   refine at_ret rfl ?_
   first | (refine fpure ?_; refine ⟨?_, rfl⟩; rw [par_a (by omega)]; done) | (refine fpure ?_; refine ⟨?_, rfl⟩; rw [par_b (i := u) (by omega) (by omega) (not_dash (by omega) (by omega))]; done) | (refine fpure ?_; refine ⟨?_, rfl⟩; rw [par_b (i := u) (by omega) (by omega) (not_dig (by omega) (by omega))]; done) | (refine fpure ?_; refine ⟨?_, rfl⟩; obtain rfl : u = 10 := (by omega); rw [par_c (by omega) hok] <;> rfl; done)

abbrev lc_rparse_ok (a b c d e f g h i j k : AV) : Env := [(0,a),(2,b),(3,c),(4,d),(5,e),(6,f),(9,g),(14,h),(22,i),(26,j),(38,k)]
theorem rparse_ok (lim : Nat) (H : Heap) (s : ByteArray) : ACall sig lim 19 [.v (.string s)] H fun r H' => r = .tup [AV.i (parS s).1, AV.i (parS s).2] ∧ H' = H := by
 refine ACall_pure (fa := fa19) rfl rfl rfl rfl ?_
 have tr : ∀ a0 : AV, env0 fa19.keep [a0] = [(0,a0),(2,.any),(3,.any),(4,.any),(5,.any),(6,.any),(9,.any),(14,.any),(22,.any),(26,.any),(38,.any)] := fun a0 => rfl
 refine W_to (tr _) ?_; clear tr
 refine at_seq rfl ?_
 refine rg rfl ?_
 refine Rq ?_
 refine Rq ?_
 have tr : ∀ a b c d e f g h i j k m n : AV, let l := lc_rparse_ok a b c d e f g h i j k; trim ((3,n)::(2,m)::l) l = [(0,a),(2,m),(3,n),(4,d),(5,e),(6,f),(9,g),(14,h),(22,i),(26,j),(38,k)] := by intros; rfl
 refine R_nil (tr ..) ?_; clear tr
 refine then_n ?_
 refine at_seq rfl ?_
 refine at_seq rfl ?_
 refine rg rfl ?_
 refine Rq ?_
 refine Rq ?_
 refine Rq ?_
 have tr : ∀ a b c d e f g h i j k m n o : AV, let l := lc_rparse_ok a b c d e f g h i j k; trim ((9,o)::(8,n)::(7,m)::l) l = [(0,a),(2,b),(3,c),(4,d),(5,e),(6,f),(9,o),(14,h),(22,i),(26,j),(38,k)] := by intros; rfl
 refine R_nil (tr ..) ?_; clear tr
 refine then_n ?_
 refine cdd (fun h1 => ?_) (fun h1 => ?_)
 ·
  try simp only [decide_eq_true_eq, decide_eq_false_iff_not, Bool.not_eq_true', Bool.not_eq_false', beq_iff_eq, beq_eq_false_iff_ne, ne_eq] at h1
  refine at_seq rfl ?_
  refine rg rfl ?_
  refine Rq ?_
  refine Rq ?_
  have tr : ∀ a b c d e f g h i j k m n : AV, let l := lc_rparse_ok a b c d e f g h i j k; trim ((3,n)::(2,m)::l) l = [(0,a),(2,m),(3,n),(4,d),(5,e),(6,f),(9,g),(14,h),(22,i),(26,j),(38,k)] := by intros; rfl
  refine R_nil (tr ..) ?_; clear tr
  refine then_n ?_
  refine at_ret rfl ?_
  refine then_r ?_
  first | (refine fpure ?_; refine ⟨?_, rfl⟩; rw [par_a (by omega)]; done) | (refine fpure ?_; refine ⟨?_, rfl⟩; rw [par_b (i := u) (by omega) (by omega) (not_dash (by omega) (by omega))]; done) | (refine fpure ?_; refine ⟨?_, rfl⟩; rw [par_b (i := u) (by omega) (by omega) (not_dig (by omega) (by omega))]; done) | (refine fpure ?_; refine ⟨?_, rfl⟩; obtain rfl : u = 10 := (by omega); rw [par_c (by omega) hok] <;> rfl; done)
 ·
  try simp only [decide_eq_true_eq, decide_eq_false_iff_not, Bool.not_eq_true', Bool.not_eq_false', beq_iff_eq, beq_eq_false_iff_ne, ne_eq] at h1
  refine at_skip rfl ?_
  refine then_n ?_
  refine at_seq rfl ?_
  refine rg rfl ?_
  have hsz : s.size = 10 := by omega
  refine A_buildSlice (bs54 _ _ _ _ _ _ (by simp (disch := first | omega | (simp only [List.length_map, List.length_append, List.length_set, List.length_cons, List.length_nil]; omega)) only [go_sem, ↓reduceIte, Nat.reduceEqDiff, reduceCtorEq] <;> rfl) (by simp (disch := first | omega | (simp only [List.length_map, List.length_append, List.length_set, List.length_cons, List.length_nil]; omega)) only [go_sem, ↓reduceIte, Nat.reduceEqDiff, reduceCtorEq] <;> rfl) (by simp (disch := first | omega | (simp only [List.length_map, List.length_append, List.length_set, List.length_cons, List.length_nil]; omega)) only [go_sem, ↓reduceIte, Nat.reduceEqDiff, reduceCtorEq] <;> rfl)) ?_
  intro H1 n1
  have e1 := n1.len
  have q1 : hget H1 H.length = some ((pst s 0).2.map AV.i) := n1.new
  refine Rq ?_
  have tr : ∀ a b c d e f g h i j k m n : AV, let l := lc_rparse_ok a b c d e f g h i j k; trim ((4,n)::(10,m)::l) l = [(0,a),(2,b),(3,c),(4,n),(5,e),(6,f),(9,g),(14,h),(22,i),(26,j),(38,k)] := by intros; rfl
  refine R_nil (tr ..) ?_; clear tr
  refine then_n ?_
  refine at_seq rfl ?_
  refine rg rfl ?_
  refine Rq ?_
  have tr : ∀ a b c d e f g h i j k m : AV, let l := lc_rparse_ok a b c d e f g h i j k; trim ((5,m)::l) l = [(0,a),(2,b),(3,c),(4,d),(5,m),(6,f),(9,g),(14,h),(22,i),(26,j),(38,k)] := by intros; rfl
  refine R_nil (tr ..) ?_; clear tr
  refine then_n ?_
  refine at_seq rfl ?_
  refine at_seq rfl ?_
  refine rg rfl ?_
  refine Rq ?_
  have tr : ∀ a b c d e f g h i j k m : AV, let l := lc_rparse_ok a b c d e f g h i j k; trim ((6,m)::l) l = [(0,a),(2,b),(3,c),(4,d),(5,e),(6,m),(9,g),(14,h),(22,i),(26,j),(38,k)] := by intros; rfl
  refine R_nil (tr ..) ?_; clear tr
  refine then_n ?_
  refine at_block rfl ?_
  refine loop_n rfl (fun mm kv H' => ∃ u : Nat, ∃ p : Int, ∃ x2 x3 x14 x22 x26 x38 : AV, (kv = [(2, x2), (3, x3), (5, AV.i p), (6, AV.i u), (14, x14), (22, x22), (26, x26), (38, x38)]) ∧ (mm = 10 - u) ∧ (u ≤ 10) ∧ (p = ((pst s u).1 : Int)) ∧ (hget H' H.length = some ((pst s u).2.map AV.i)) ∧ (∀ i, i < u → okB s i)) ⟨0, 0, _, _, _, _, _, _, rfl, rfl, by omega, by rfl, by exact q1, by intro i hi; omega⟩ (by rfl) ?_
  rintro mm kv HL ⟨u, p, x2, x3, x14, x22, x26, x38, rfl, rfl, hu, hp, qn, hok⟩
  have tr : ∀ a b c d e f g h i j k m n o p q r s t : AV, upd [(0,a),(2,b),(3,c),(4,d),(5,e),(6,f),(9,g),(14,h),(22,i),(26,j),(38,k)] [(2,m),(3,n),(5,o),(6,p),(14,q),(22,r),(26,s),(38,t)] = [(0,a),(2,m),(3,n),(4,d),(5,o),(6,p),(9,g),(14,q),(22,r),(26,s),(38,t)] := by intros; rfl
  refine W_to (tr ..) ?_; clear tr
  subst hp
  have hpl := pst_len s u
  have hp3 := pst_lt s u
  have hpr := fun q => pst_small hok hu q
  have hbr := bt_rng s u
  have gx := hpr (pst s u).1
  refine at_seq rfl ?_
  refine at_seq rfl ?_
  refine rg rfl ?_
  refine Rq ?_
  refine Rq ?_
  refine Rq ?_
  refine Rq ?_
  have tr : ∀ a b c d e f g h i j k m n o p : AV, let l := lc_rparse_ok a b c d e f g h i j k; trim ((14,p)::(13,o)::(12,n)::(11,m)::l) l = [(0,a),(2,b),(3,c),(4,d),(5,e),(6,f),(9,g),(14,p),(22,i),(26,j),(38,k)] := by intros; rfl
  refine R_nil (tr ..) ?_; clear tr
  refine then_n ?_
  refine cdd (fun h2 => ?_) (fun h2 => ?_)
  ·
   try simp only [decide_eq_true_eq, decide_eq_false_iff_not, Bool.not_eq_true', Bool.not_eq_false', beq_iff_eq, beq_eq_false_iff_ne, ne_eq] at h2
   refine at_skip rfl ?_
   refine then_n ?_
   refine at_seq rfl ?_
   refine at_block rfl ?_
   refine at_seq rfl ?_
   refine at_seq rfl ?_
   refine rg rfl ?_
   refine Rq ?_
   refine Rq ?_
   refine Rq ?_
   refine Rp_split (fun h3 => ?_) (fun h3 => ?_)
   ·
    try simp only [decide_eq_true_eq, decide_eq_false_iff_not, Bool.not_eq_true', Bool.not_eq_false', beq_iff_eq, beq_eq_false_iff_ne, ne_eq] at h3
    refine Rn ?_
    refine Rn ?_
    refine Rq ?_
    have tr : ∀ a b c d e f g h i j k m n o p q r : AV, let l := lc_rparse_ok a b c d e f g h i j k; trim ((22,r)::(21,q)::(20,p)::(19,o)::(18,n)::(17,m)::l) l = [(0,a),(2,b),(3,c),(4,d),(5,e),(6,f),(9,g),(14,h),(22,r),(26,j),(38,k)] := by intros; rfl
    refine R_nil (tr ..) ?_; clear tr
    refine then_n ?_
    refine cdt ?_
    refine at_seq rfl ?_
    refine at_seq rfl ?_
    refine rg rfl ?_
    refine Rq ?_
    refine Rq ?_
    refine Rq ?_
    refine Rq ?_
    have tr : ∀ a b c d e f g h i j k m n o p : AV, let l := lc_rparse_ok a b c d e f g h i j k; trim ((26,p)::(25,o)::(24,n)::(23,m)::l) l = [(0,a),(2,b),(3,c),(4,d),(5,e),(6,f),(9,g),(14,h),(22,i),(26,p),(38,k)] := by intros; rfl
    refine R_nil (tr ..) ?_; clear tr
    refine then_n ?_
    refine cdd (fun h4 => ?_) (fun h4 => ?_)
    ·
     try simp only [decide_eq_true_eq, decide_eq_false_iff_not, Bool.not_eq_true', Bool.not_eq_false', beq_iff_eq, beq_eq_false_iff_ne, ne_eq] at h4
     refine at_seq rfl ?_
     refine rg rfl ?_
     refine Rq ?_
     refine Rq ?_
     have tr : ∀ a b c d e f g h i j k m n : AV, let l := lc_rparse_ok a b c d e f g h i j k; trim ((3,n)::(2,m)::l) l = [(0,a),(2,m),(3,n),(4,d),(5,e),(6,f),(9,g),(14,h),(22,i),(26,j),(38,k)] := by intros; rfl
     refine R_nil (tr ..) ?_; clear tr
     refine then_n ?_
     refine at_ret rfl ?_
     refine then_r ?_
     refine then_r ?_
     refine blk_r ?_
     refine then_r ?_
     refine then_r ?_
     refine blk_r ?_
     refine then_r ?_
     first | (refine fpure ?_; refine ⟨?_, rfl⟩; rw [par_a (by omega)]; done) | (refine fpure ?_; refine ⟨?_, rfl⟩; rw [par_b (i := u) (by omega) (by omega) (not_dash (by omega) (by omega))]; done) | (refine fpure ?_; refine ⟨?_, rfl⟩; rw [par_b (i := u) (by omega) (by omega) (not_dig (by omega) (by omega))]; done) | (refine fpure ?_; refine ⟨?_, rfl⟩; obtain rfl : u = 10 := (by omega); rw [par_c (by omega) hok] <;> rfl; done)
    ·
     try simp only [decide_eq_true_eq, decide_eq_false_iff_not, Bool.not_eq_true', Bool.not_eq_false', beq_iff_eq, beq_eq_false_iff_ne, ne_eq] at h4
     refine at_skip rfl ?_
     refine then_n ?_
     refine at_seq rfl ?_
     refine rg rfl ?_
     refine Rq ?_
     refine Rq ?_
     refine Rq ?_
     have tr : ∀ a b c d e f g h i j k m n o : AV, let l := lc_rparse_ok a b c d e f g h i j k; trim ((5,o)::(28,n)::(27,m)::l) l = [(0,a),(2,b),(3,c),(4,d),(5,o),(6,f),(9,g),(14,h),(22,i),(26,j),(38,k)] := by intros; rfl
     refine R_nil (tr ..) ?_; clear tr
     refine then_n ?_
     refine at_exit rfl ?_
     refine then_x ?_
     refine blk_x ?_
     refine then_n ?_
     refine rg rfl ?_
     refine Rq ?_
     refine Rq ?_
     refine Rq ?_
     have tr : ∀ a b c d e f g h i j k m n o : AV, let l := lc_rparse_ok a b c d e f g h i j k; trim ((6,o)::(16,n)::(15,m)::l) l = [(0,a),(2,b),(3,c),(4,d),(5,e),(6,o),(9,g),(14,h),(22,i),(26,j),(38,k)] := by intros; rfl
     refine R_nil (tr ..) ?_; clear tr
     refine then_n ?_
     exact ⟨_, _, ⟨u + 1, ((pst s u).1 : Int) + 1, _, _, _, _, _, _, rfl, rfl, by omega, by first | (rw [(pst_dash (s := s) (u := u) (by omega)).2]; rfl) | (rw [pst_dig (s := s) (u := u) (by omega)]), by first | exact w2.new | (rw [(pst_dash (s := s) (u := u) (by omega)).1]; exact qn), by exact all_step hok (by first | exact okB_dash (by omega) (by omega) | exact okB_dig (by omega) (by omega))⟩, by rfl, by omega⟩
   ·
    try simp only [decide_eq_true_eq, decide_eq_false_iff_not, Bool.not_eq_true', Bool.not_eq_false', beq_iff_eq, beq_eq_false_iff_ne, ne_eq] at h3
    refine Ry ?_
    refine Rq ?_
    refine Ry ?_
    refine Rq ?_
    refine Rq ?_
    have tr : ∀ a b c d e f g h i j k m n o p q r : AV, let l := lc_rparse_ok a b c d e f g h i j k; trim ((22,r)::(21,q)::(20,p)::(19,o)::(18,n)::(17,m)::l) l = [(0,a),(2,b),(3,c),(4,d),(5,e),(6,f),(9,g),(14,h),(22,r),(26,j),(38,k)] := by intros; rfl
    refine R_nil (tr ..) ?_; clear tr
    refine then_n ?_
    refine cdd (fun h5 => ?_) (fun h5 => ?_)
    ·
     try simp only [decide_eq_true_eq, decide_eq_false_iff_not, Bool.not_eq_true', Bool.not_eq_false', beq_iff_eq, beq_eq_false_iff_ne, ne_eq] at h5
     refine at_seq rfl ?_
     refine at_seq rfl ?_
     refine rg rfl ?_
     refine Rq ?_
     refine Rq ?_
     refine Rq ?_
     refine Rq ?_
     have tr : ∀ a b c d e f g h i j k m n o p : AV, let l := lc_rparse_ok a b c d e f g h i j k; trim ((26,p)::(25,o)::(24,n)::(23,m)::l) l = [(0,a),(2,b),(3,c),(4,d),(5,e),(6,f),(9,g),(14,h),(22,i),(26,p),(38,k)] := by intros; rfl
     refine R_nil (tr ..) ?_; clear tr
     refine then_n ?_
     refine cdd (fun h6 => ?_) (fun h6 => ?_)
     ·
      try simp only [decide_eq_true_eq, decide_eq_false_iff_not, Bool.not_eq_true', Bool.not_eq_false', beq_iff_eq, beq_eq_false_iff_ne, ne_eq] at h6
      refine at_seq rfl ?_
      refine rg rfl ?_
      refine Rq ?_
      refine Rq ?_
      have tr : ∀ a b c d e f g h i j k m n : AV, let l := lc_rparse_ok a b c d e f g h i j k; trim ((3,n)::(2,m)::l) l = [(0,a),(2,m),(3,n),(4,d),(5,e),(6,f),(9,g),(14,h),(22,i),(26,j),(38,k)] := by intros; rfl
      refine R_nil (tr ..) ?_; clear tr
      refine then_n ?_
      refine at_ret rfl ?_
      refine then_r ?_
      refine then_r ?_
      refine blk_r ?_
      refine then_r ?_
      refine then_r ?_
      refine blk_r ?_
      refine then_r ?_
      first | (refine fpure ?_; refine ⟨?_, rfl⟩; rw [par_a (by omega)]; done) | (refine fpure ?_; refine ⟨?_, rfl⟩; rw [par_b (i := u) (by omega) (by omega) (not_dash (by omega) (by omega))]; done) | (refine fpure ?_; refine ⟨?_, rfl⟩; rw [par_b (i := u) (by omega) (by omega) (not_dig (by omega) (by omega))]; done) | (refine fpure ?_; refine ⟨?_, rfl⟩; obtain rfl : u = 10 := (by omega); rw [par_c (by omega) hok] <;> rfl; done)
     ·
      try simp only [decide_eq_true_eq, decide_eq_false_iff_not, Bool.not_eq_true', Bool.not_eq_false', beq_iff_eq, beq_eq_false_iff_ne, ne_eq] at h6
      refine at_skip rfl ?_
      refine then_n ?_
      refine at_seq rfl ?_
      refine rg rfl ?_
      refine Rq ?_
      refine Rq ?_
      refine Rq ?_
      have tr : ∀ a b c d e f g h i j k m n o : AV, let l := lc_rparse_ok a b c d e f g h i j k; trim ((5,o)::(28,n)::(27,m)::l) l = [(0,a),(2,b),(3,c),(4,d),(5,o),(6,f),(9,g),(14,h),(22,i),(26,j),(38,k)] := by intros; rfl
      refine R_nil (tr ..) ?_; clear tr
      refine then_n ?_
      refine at_exit rfl ?_
      refine then_x ?_
      refine blk_x ?_
      refine then_n ?_
      refine rg rfl ?_
      refine Rq ?_
      refine Rq ?_
      refine Rq ?_
      have tr : ∀ a b c d e f g h i j k m n o : AV, let l := lc_rparse_ok a b c d e f g h i j k; trim ((6,o)::(16,n)::(15,m)::l) l = [(0,a),(2,b),(3,c),(4,d),(5,e),(6,o),(9,g),(14,h),(22,i),(26,j),(38,k)] := by intros; rfl
      refine R_nil (tr ..) ?_; clear tr
      refine then_n ?_
      exact ⟨_, _, ⟨u + 1, ((pst s u).1 : Int) + 1, _, _, _, _, _, _, rfl, rfl, by omega, by first | (rw [(pst_dash (s := s) (u := u) (by omega)).2]; rfl) | (rw [pst_dig (s := s) (u := u) (by omega)]), by first | exact w2.new | (rw [(pst_dash (s := s) (u := u) (by omega)).1]; exact qn), by exact all_step hok (by first | exact okB_dash (by omega) (by omega) | exact okB_dig (by omega) (by omega))⟩, by rfl, by omega⟩
    ·
     try simp only [decide_eq_true_eq, decide_eq_false_iff_not, Bool.not_eq_true', Bool.not_eq_false', beq_iff_eq, beq_eq_false_iff_ne, ne_eq] at h5
     refine at_skip rfl ?_
     refine then_n ?_
     refine at_seq rfl ?_
     refine at_seq rfl ?_
     refine rg rfl ?_
     refine Rq ?_
     refine Rq ?_
     refine Rq ?_
     refine Rq ?_
     refine Rq ?_
     refine Rp_split (fun h7 => ?_) (fun h7 => ?_)
     ·
      try simp only [decide_eq_true_eq, decide_eq_false_iff_not, Bool.not_eq_true', Bool.not_eq_false', beq_iff_eq, beq_eq_false_iff_ne, ne_eq] at h7
      refine Rn ?_
      refine Rn ?_
      refine Rn ?_
      refine Rn ?_
      refine Rq ?_
      have tr : ∀ a b c d e f g h i j k m n o p q r s t u v : AV, let l := lc_rparse_ok a b c d e f g h i j k; trim ((38,v)::(37,u)::(36,t)::(35,s)::(34,r)::(33,q)::(32,p)::(31,o)::(30,n)::(29,m)::l) l = [(0,a),(2,b),(3,c),(4,d),(5,e),(6,f),(9,g),(14,h),(22,i),(26,j),(38,v)] := by intros; rfl
      refine R_nil (tr ..) ?_; clear tr
      refine then_n ?_
      refine cdt ?_
      refine at_seq rfl ?_
      refine rg rfl ?_
      refine Rq ?_
      refine Rq ?_
      have tr : ∀ a b c d e f g h i j k m n : AV, let l := lc_rparse_ok a b c d e f g h i j k; trim ((3,n)::(2,m)::l) l = [(0,a),(2,m),(3,n),(4,d),(5,e),(6,f),(9,g),(14,h),(22,i),(26,j),(38,k)] := by intros; rfl
      refine R_nil (tr ..) ?_; clear tr
      refine then_n ?_
      refine at_ret rfl ?_
      refine then_r ?_
      refine blk_r ?_
      refine then_r ?_
      refine then_r ?_
      refine blk_r ?_
      refine then_r ?_
      first | (refine fpure ?_; refine ⟨?_, rfl⟩; rw [par_a (by omega)]; done) | (refine fpure ?_; refine ⟨?_, rfl⟩; rw [par_b (i := u) (by omega) (by omega) (not_dash (by omega) (by omega))]; done) | (refine fpure ?_; refine ⟨?_, rfl⟩; rw [par_b (i := u) (by omega) (by omega) (not_dig (by omega) (by omega))]; done) | (refine fpure ?_; refine ⟨?_, rfl⟩; obtain rfl : u = 10 := (by omega); rw [par_c (by omega) hok] <;> rfl; done)
     ·
      try simp only [decide_eq_true_eq, decide_eq_false_iff_not, Bool.not_eq_true', Bool.not_eq_false', beq_iff_eq, beq_eq_false_iff_ne, ne_eq] at h7
      refine Ry ?_
      refine Rq ?_
      refine Ry ?_
      refine Rq ?_
      refine Ry ?_
      refine Rq ?_
      refine Ry ?_
      refine Rq ?_
      refine Rq ?_
      have tr : ∀ a b c d e f g h i j k m n o p q r s t u v : AV, let l := lc_rparse_ok a b c d e f g h i j k; trim ((38,v)::(37,u)::(36,t)::(35,s)::(34,r)::(33,q)::(32,p)::(31,o)::(30,n)::(29,m)::l) l = [(0,a),(2,b),(3,c),(4,d),(5,e),(6,f),(9,g),(14,h),(22,i),(26,j),(38,v)] := by intros; rfl
      refine R_nil (tr ..) ?_; clear tr
      refine then_n ?_
      refine cdd (fun h8 => ?_) (fun h8 => ?_)
      ·
       try simp only [decide_eq_true_eq, decide_eq_false_iff_not, Bool.not_eq_true', Bool.not_eq_false', beq_iff_eq, beq_eq_false_iff_ne, ne_eq] at h8
       refine at_seq rfl ?_
       refine rg rfl ?_
       refine Rq ?_
       refine Rq ?_
       have tr : ∀ a b c d e f g h i j k m n : AV, let l := lc_rparse_ok a b c d e f g h i j k; trim ((3,n)::(2,m)::l) l = [(0,a),(2,m),(3,n),(4,d),(5,e),(6,f),(9,g),(14,h),(22,i),(26,j),(38,k)] := by intros; rfl
       refine R_nil (tr ..) ?_; clear tr
       refine then_n ?_
       refine at_ret rfl ?_
       refine then_r ?_
       refine blk_r ?_
       refine then_r ?_
       refine then_r ?_
       refine blk_r ?_
       refine then_r ?_
       first | (refine fpure ?_; refine ⟨?_, rfl⟩; rw [par_a (by omega)]; done) | (refine fpure ?_; refine ⟨?_, rfl⟩; rw [par_b (i := u) (by omega) (by omega) (not_dash (by omega) (by omega))]; done) | (refine fpure ?_; refine ⟨?_, rfl⟩; rw [par_b (i := u) (by omega) (by omega) (not_dig (by omega) (by omega))]; done) | (refine fpure ?_; refine ⟨?_, rfl⟩; obtain rfl : u = 10 := (by omega); rw [par_c (by omega) hok] <;> rfl; done)
      ·
       try simp only [decide_eq_true_eq, decide_eq_false_iff_not, Bool.not_eq_true', Bool.not_eq_false', beq_iff_eq, beq_eq_false_iff_ne, ne_eq] at h8
       refine at_skip rfl ?_
       refine then_n ?_
       refine rd rfl rfl ?_
       refine Qq ?_
       refine Qq ?_
       refine Qq ?_
       refine Qq ?_
       refine Qq ?_
       refine Q_q rfl (by simp (disch := first | omega | (simp only [List.length_map, List.length_append, List.length_set, List.length_cons, List.length_nil]; omega)) only [go_sem, ↓reduceIte, Nat.reduceEqDiff, reduceCtorEq, qn] <;> rfl) ?_
       refine Qq ?_
       refine Qq ?_
       refine Qq ?_
       refine Qq ?_
       refine Qq ?_
       refine Qq ?_
       refine Qq ?_
       refine Qq ?_
       refine Q_nil ?_
       refine A_store ty3 (by simp (disch := first | omega | (simp only [List.length_map, List.length_append, List.length_set, List.length_cons, List.length_nil]; omega)) only [go_sem, ↓reduceIte, Nat.reduceEqDiff, reduceCtorEq] <;> rfl) (by simp (disch := first | omega | (simp only [List.length_map, List.length_append, List.length_set, List.length_cons, List.length_nil]; omega)) only [go_sem, ↓reduceIte, Nat.reduceEqDiff, reduceCtorEq] <;> rfl) qn ⟨by omega, rfl, by simp only [List.length_map]; omega⟩ (set_pst s u (by omega)) ?_
       intro H2 w2
       have tr : ∀ a b c d e f g h i j k m n o p q r s t u v w x y z : AV, let l := lc_rparse_ok a b c d e f g h i j k; trim ((52,z)::(51,y)::(50,x)::(49,w)::(48,v)::(47,u)::(46,t)::(45,s)::(44,r)::(43,q)::(42,p)::(41,o)::(40,n)::(39,m)::l) l = [(0,a),(2,b),(3,c),(4,d),(5,e),(6,f),(9,g),(14,h),(22,i),(26,j),(38,k)] := by intros; rfl
       refine R_nil (tr ..) ?_; clear tr
       refine blk_n ?_
       refine then_n ?_
       refine rg rfl ?_
       refine Rq ?_
       refine Rq ?_
       refine Rq ?_
       have tr : ∀ a b c d e f g h i j k m n o : AV, let l := lc_rparse_ok a b c d e f g h i j k; trim ((6,o)::(16,n)::(15,m)::l) l = [(0,a),(2,b),(3,c),(4,d),(5,e),(6,o),(9,g),(14,h),(22,i),(26,j),(38,k)] := by intros; rfl
       refine R_nil (tr ..) ?_; clear tr
       refine then_n ?_
       exact ⟨_, _, ⟨u + 1, ((pst s u).1 : Int), _, _, _, _, _, _, rfl, rfl, by omega, by first | (rw [(pst_dash (s := s) (u := u) (by omega)).2]; rfl) | (rw [pst_dig (s := s) (u := u) (by omega)]), by first | exact w2.new | (rw [(pst_dash (s := s) (u := u) (by omega)).1]; exact qn), by exact all_step hok (by first | exact okB_dash (by omega) (by omega) | exact okB_dig (by omega) (by omega))⟩, by rfl, by omega⟩
  ·
   try simp only [decide_eq_true_eq, decide_eq_false_iff_not, Bool.not_eq_true', Bool.not_eq_false', beq_iff_eq, beq_eq_false_iff_ne, ne_eq] at h2
   refine at_exit rfl ?_
   refine then_x ?_
   refine then_x ?_
   refine blk_x ?_
   refine then_n ?_
   refine at_seq rfl ?_
   refine rd rfl rfl ?_
   refine Qq ?_
   refine Qq ?_
   refine Q_q rfl (by simp (disch := first | omega | (simp only [List.length_map, List.length_append, List.length_set, List.length_cons, List.length_nil]; omega)) only [go_sem, ↓reduceIte, Nat.reduceEqDiff, reduceCtorEq, qn] <;> rfl) ?_
   refine Qq ?_
   refine Qq ?_
   refine Q_q rfl (by simp (disch := first | omega | (simp only [List.length_map, List.length_append, List.length_set, List.length_cons, List.length_nil]; omega)) only [go_sem, ↓reduceIte, Nat.reduceEqDiff, reduceCtorEq, qn] <;> rfl) ?_
   refine Qq ?_
   refine Qq ?_
   refine Q_q rfl (by simp (disch := first | omega | (simp only [List.length_map, List.length_append, List.length_set, List.length_cons, List.length_nil]; omega)) only [go_sem, ↓reduceIte, Nat.reduceEqDiff, reduceCtorEq, qn] <;> rfl) ?_
   refine Qcall ?_
   refine ACall_eq (rday_ok _ _ _ _ _) ?_
   refine ⟨rfl, ?_⟩
   refine Qq ?_
   refine Qq ?_
   refine Qq ?_
   refine Qq ?_
   refine Q_nil ?_
   have tr : ∀ a b c d e f g h i j k m n o p q r s t u v w x y z : AV, let l := lc_rparse_ok a b c d e f g h i j k; trim ((3,z)::(2,y)::(64,x)::(63,w)::(62,v)::(61,u)::(60,t)::(59,s)::(58,r)::(57,q)::(56,p)::(55,o)::(54,n)::(53,m)::l) l = [(0,a),(2,y),(3,z),(4,d),(5,e),(6,f),(9,g),(14,h),(22,i),(26,j),(38,k)] := by intros; rfl
   refine R_nil (tr ..) ?_; clear tr
   refine then_n ?_
   refine at_ret rfl ?_
   first | (refine fpure ?_; refine ⟨?_, rfl⟩; rw [par_a (by omega)]; done) | (refine fpure ?_; refine ⟨?_, rfl⟩; rw [par_b (i := u) (by omega) (by omega) (not_dash (by omega) (by omega))]; done) | (refine fpure ?_; refine ⟨?_, rfl⟩; rw [par_b (i := u) (by omega) (by omega) (not_dig (by omega) (by omega))]; done) | (refine fpure ?_; refine ⟨?_, rfl⟩; obtain rfl : u = 10 := (by omega); rw [par_c (by omega) hok] <;> rfl; done)

end Go.Proofs.YtocmcdejkoejhaaDoor
