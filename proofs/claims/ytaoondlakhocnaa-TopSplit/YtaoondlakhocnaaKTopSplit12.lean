/-
  Texts of TopSplit, part 13 of 15. Walks of chapters 37, 39 and 40. The steps are written by program (walk.py).
-/
import Derived.Test.YtaoondlakhocnaaKTopSplit9
import Derived.Test.YtaoondlakhocnaaKTopSplit11
section
set_option linter.unusedSimpArgs false
set_option linter.unusedVariables false
set_option maxHeartbeats 40000000
set_option maxRecDepth 4000
namespace Go.Proofs.Ytaoondlakhocnaa
open Go Go.Am

abbrev lc_join_ok (a b c d e f g h i j : AV) : Env := [(0,a),(2,b),(3,c),(5,d),(6,e),(7,f),(8,g),(9,h),(10,i),(38,j)]
theorem join_ok (lim : Nat) (H : Heap) (l : List Stp) (hl : l.length ≤ 1000) :
    ACall sig lim 21 [stopsAV l] H fun r H' => r = outT (jn l l.length) ∧ H' = H := by
 have qx : True := trivial
 have qw : True := trivial
 have hti : True := trivial
 refine ACall_pure (fa := fa21) rfl rfl rfl rfl ?_
 have tr : ∀ a0 : AV, env0 fa21.keep [a0] = [(0,a0),(2,.any),(3,.any),(5,.any),(6,.any),(7,.any),(8,.any),(9,.any),(10,.any),(38,.any)] := fun a0 => rfl
 refine W_to (tr _) ?_; clear tr
 refine at_seq rfl ?_
 refine rg rfl ?_
 refine Rq ?_
 have tr : ∀ a b c d e f g h i j k : AV, let l := lc_join_ok a b c d e f g h i j; trim ((2,k)::l) l = [(0,a),(2,k),(3,c),(5,d),(6,e),(7,f),(8,g),(9,h),(10,i),(38,j)] := by intros; rfl
 refine R_nil (tr ..) ?_; clear tr
 refine then_n ?_
 refine at_seq rfl ?_
 refine rg rfl ?_
 refine Rq ?_
 have tr : ∀ a b c d e f g h i j k : AV, let l := lc_join_ok a b c d e f g h i j; trim ((3,k)::l) l = [(0,a),(2,b),(3,k),(5,d),(6,e),(7,f),(8,g),(9,h),(10,i),(38,j)] := by intros; rfl
 refine R_nil (tr ..) ?_; clear tr
 refine then_n ?_
 refine at_seq rfl ?_
 refine at_seq rfl ?_
 refine rg rfl ?_
 refine Rq ?_
 refine Rq ?_
 refine Rq ?_
 have tr : ∀ a b c d e f g h i j k m n : AV, let l := lc_join_ok a b c d e f g h i j; trim ((9,n)::(8,m)::(7,k)::l) l = [(0,a),(2,b),(3,c),(5,d),(6,e),(7,k),(8,m),(9,n),(10,i),(38,j)] := by intros; rfl
 refine R_nil (tr ..) ?_; clear tr
 refine then_n ?_
 refine at_block rfl ?_
 refine loop_n rfl (fun mm kv H' => ∃ u : Nat, ∃ o : AV, ∃ x5 x6 x10 x38 : AV, (kv = [(3, o), (5, x5), (6, x6), (9, AV.i u), (10, x10), (38, x38)]) ∧ (mm = l.length - u) ∧ (H.length ≤ H'.length) ∧ (u ≤ l.length) ∧ (OutS H.length H' o (jn l u))) ⟨0, nilS, _, _, _, _, rfl, rfl, by exact Nat.le_refl _, by omega, by exact .inl ⟨rfl, rfl⟩⟩ (by rfl) ?_
 rintro mm kv HB ⟨u, o, x5, x6, x10, x38, rfl, rfl, hHB, hu, hO⟩
 have tr : ∀ a b c d e f g h i j k m n o p q : AV, upd [(0,a),(2,b),(3,c),(5,d),(6,e),(7,f),(8,g),(9,h),(10,i),(38,j)] [(3,k),(5,m),(6,n),(9,o),(10,p),(38,q)] = [(0,a),(2,b),(3,k),(5,m),(6,n),(7,f),(8,g),(9,o),(10,p),(38,q)] := by intros; rfl
 refine W_to (tr ..) ?_; clear tr
 have hpl := jn_len l u
 refine at_seq rfl ?_
 refine rg rfl ?_
 refine Rq ?_
 have tr : ∀ a b c d e f g h i j k : AV, let l := lc_join_ok a b c d e f g h i j; trim ((10,k)::l) l = [(0,a),(2,b),(3,c),(5,d),(6,e),(7,f),(8,g),(9,h),(10,k),(38,j)] := by intros; rfl
 refine R_nil (tr ..) ?_; clear tr
 refine then_n ?_
 refine at_seq rfl ?_
 refine cdd (fun h1 => ?_) (fun h1 => ?_)
 ·
  try simp only [decide_eq_true_eq, decide_eq_false_iff_not, Bool.not_eq_true', Bool.not_eq_false', beq_iff_eq, beq_eq_false_iff_ne, ne_eq] at h1
  refine at_skip rfl ?_
  refine then_n ?_
  refine at_seq rfl ?_
  refine at_block rfl ?_
  refine at_seq rfl ?_
  refine rg rfl ?_
  refine Rq ?_
  refine R_q rfl (by simp (disch := first | omega | (simp only [List.length_map, List.length_append, List.length_set, List.length_cons, List.length_nil]; omega)) only [go_sem, ↓reduceIte, Nat.reduceEqDiff, reduceCtorEq, qx, qw, hti] <;> rfl) ?_
  have hO1 := hO
  have hob := fun b hb => hO.lt (b := b) hb
  refine A_alloc rfl ?_
  intro HC n4
  have en4 := n4.len
  have qx := n4.new
  have hO := hO.mono fun b hb k hk => (n4.old _ (hget_lt hk)).trans hk
  have lqx := hget_lt qx
  refine A_store ty56 (by simp (disch := first | omega | (simp only [List.length_map, List.length_append, List.length_set, List.length_cons, List.length_nil]; omega)) only [go_sem, ↓reduceIte, Nat.reduceEqDiff, reduceCtorEq] <;> rfl) (by simp (disch := first | omega | (simp only [List.length_map, List.length_append, List.length_set, List.length_cons, List.length_nil]; omega)) only [go_sem, ↓reduceIte, Nat.reduceEqDiff, reduceCtorEq, qx] <;> rfl) qx ⟨by omega, rfl, by first | exact Nat.le_refl _ | simp⟩ (show _ = stC (gt l u) from rfl) ?_
  intro HD w4
  have ew4 := w4.len
  have qx := w4.new
  have hO := hO1.mono fun b hb k hk => (w4.old _ (by have := hget_lt hk; omega)).trans ((n4.old _ (hget_lt hk)).trans hk)
  have tr : ∀ a b c d e f g h i j k m n : AV, let l := lc_join_ok a b c d e f g h i j; trim ((5,n)::(12,m)::(11,k)::l) l = [(0,a),(2,b),(3,c),(5,n),(6,e),(7,f),(8,g),(9,h),(10,i),(38,j)] := by intros; rfl
  refine R_nil (tr ..) ?_; clear tr
  refine then_n ?_
  refine at_seq rfl ?_
  refine rg rfl ?_
  refine Rq ?_
  refine R_q rfl (by simp (disch := first | omega | (simp only [List.length_map, List.length_append, List.length_set, List.length_cons, List.length_nil]; omega)) only [go_sem, ↓reduceIte, Nat.reduceEqDiff, reduceCtorEq]; exact hO.len) ?_
  refine Rq ?_
  have tr : ∀ a b c d e f g h i j k m n : AV, let l := lc_join_ok a b c d e f g h i j; trim ((6,n)::(14,m)::(13,k)::l) l = [(0,a),(2,b),(3,c),(5,d),(6,n),(7,f),(8,g),(9,h),(10,i),(38,j)] := by intros; rfl
  refine R_nil (tr ..) ?_; clear tr
  refine then_n ?_
  refine at_seq rfl ?_
  refine rd rfl rfl ?_
  refine Qq ?_
  refine Qq ?_
  refine Qq ?_
  refine Qp_split (fun h2 => ?_) (fun h2 => ?_)
  ·
   try simp only [decide_eq_true_eq, decide_eq_false_iff_not, Bool.not_eq_true', Bool.not_eq_false', beq_iff_eq, beq_eq_false_iff_ne, ne_eq] at h2
   obtain ⟨h0, b, rfl, hb, qw⟩ := hO.resolve_left (fun hh => by have h7 := congrArg List.length hh.1; simp only [List.length_nil] at h7; omega)
   have lqw := hget_lt qw
   have hbx : b ≠ HB.length := by have := hob b rfl; omega
   have hti : (((jn l u).length : Int) - 1).toNat = (jn l u).length - 1 := by omega
   refine Qy ?_
   refine Qq ?_
   refine Qy ?_
   refine Qq ?_
   refine Qy ?_
   refine Qq ?_
   refine Qy ?_
   refine Qq ?_
   refine Qy ?_
   refine Qq ?_
   refine Qy ?_
   refine Q_q rfl (by simp (disch := first | omega | (simp only [List.length_map, List.length_append, List.length_set, List.length_cons, List.length_nil]; omega)) only [go_sem, ↓reduceIte, Nat.reduceEqDiff, reduceCtorEq, qx, qw, hti] <;> rfl) ?_
   refine Qy ?_
   refine Qq ?_
   refine Qy ?_
   refine Q_q rfl (by simp (disch := first | omega | (simp only [List.length_map, List.length_append, List.length_set, List.length_cons, List.length_nil]; omega)) only [go_sem, ↓reduceIte, Nat.reduceEqDiff, reduceCtorEq, qx, qw, hti] <;> rfl) ?_
   refine Qy ?_
   refine Qq ?_
   refine Qq ?_
   refine Qq ?_
   refine Qp_split (fun h3 => ?_) (fun h3 => ?_)
   ·
    try simp only [decide_eq_true_eq, decide_eq_false_iff_not, Bool.not_eq_true', Bool.not_eq_false', beq_iff_eq, beq_eq_false_iff_ne, ne_eq] at h3
    refine Qy ?_
    refine Qq ?_
    refine Qy ?_
    refine Qq ?_
    refine Qy ?_
    refine Qq ?_
    refine Qy ?_
    refine Qq ?_
    refine Qy ?_
    refine Qq ?_
    refine Qy ?_
    refine Q_q rfl (by simp (disch := first | omega | (simp only [List.length_map, List.length_append, List.length_set, List.length_cons, List.length_nil]; omega)) only [go_sem, ↓reduceIte, Nat.reduceEqDiff, reduceCtorEq, qx, qw, hti] <;> rfl) ?_
    refine Qy ?_
    refine Qq ?_
    refine Qy ?_
    refine Q_q rfl (by simp (disch := first | omega | (simp only [List.length_map, List.length_append, List.length_set, List.length_cons, List.length_nil]; omega)) only [go_sem, ↓reduceIte, Nat.reduceEqDiff, reduceCtorEq, qx, qw, hti] <;> rfl) ?_
    refine Qy ?_
    refine Qq ?_
    refine Qq ?_
    refine Q_nil ?_
    have tr : ∀ a b c d e f g h i j k m n o p q r s t u v w x y z A B C D E F G H I : AV, let l := lc_join_ok a b c d e f g h i j; trim ((38,I)::(37,H)::(36,G)::(35,F)::(34,E)::(33,D)::(32,C)::(31,B)::(30,A)::(29,z)::(28,y)::(27,x)::(26,w)::(25,v)::(24,u)::(23,t)::(22,s)::(21,r)::(20,q)::(19,p)::(18,o)::(17,n)::(16,m)::(15,k)::l) l = [(0,a),(2,b),(3,c),(5,d),(6,e),(7,f),(8,g),(9,h),(10,i),(38,I)] := by intros; rfl
    refine R_nil (tr ..) ?_; clear tr
    refine then_n ?_
    refine cdd (fun h4 => ?_) (fun h4 => ?_)
    ·
     try simp only [decide_eq_true_eq, decide_eq_false_iff_not, Bool.not_eq_true', Bool.not_eq_false', beq_iff_eq, beq_eq_false_iff_ne, ne_eq] at h4
     refine rg rfl ?_
     refine Rq ?_
     refine Rq ?_
     refine Rq ?_
     refine Rq ?_
     refine R_q rfl (by simp (disch := first | omega | (simp only [List.length_map, List.length_append, List.length_set, List.length_cons, List.length_nil]; omega)) only [go_sem, ↓reduceIte, Nat.reduceEqDiff, reduceCtorEq, qx, qw, hti] <;> rfl) ?_
     refine Rq ?_
     refine Rq ?_
     have lqx := hget_lt qx
     refine A_store ty2 (by simp (disch := first | omega | (simp only [List.length_map, List.length_append, List.length_set, List.length_cons, List.length_nil]; omega)) only [go_sem, ↓reduceIte, Nat.reduceEqDiff, reduceCtorEq, qx, qw, hti] <;> rfl) (by simp (disch := first | omega | (simp only [List.length_map, List.length_append, List.length_set, List.length_cons, List.length_nil]; omega)) only [go_sem, ↓reduceIte, Nat.reduceEqDiff, reduceCtorEq, qx, qw, hti] <;> rfl) qw ⟨by omega, rfl, by simp only [flat_len]; omega⟩ (k' := flatS ((jn l u).set ((jn l u).length - 1) ⟨(gt (jn l u) ((jn l u).length - 1)).b, (gt l u).a, (gt (jn l u) ((jn l u).length - 1)).w⟩)) (flatS_set1 _ _ _ (by omega)) ?_
     intro HE w5
     have ew5 := w5.len
     have qw2 := w5.new
     have tr : ∀ a b c d e f g h i j k m n o p q r : AV, let l := lc_join_ok a b c d e f g h i j; trim ((45,r)::(44,q)::(43,p)::(42,o)::(41,n)::(40,m)::(39,k)::l) l = [(0,a),(2,b),(3,c),(5,d),(6,e),(7,f),(8,g),(9,h),(10,i),(38,j)] := by intros; rfl
     refine R_nil (tr ..) ?_; clear tr
     refine blk_n ?_
     refine then_n ?_
     refine rg rfl ?_
     refine Rq ?_
     refine Rq ?_
     have tr : ∀ a b c d e f g h i j k m : AV, let l := lc_join_ok a b c d e f g h i j; trim ((9,m)::(50,k)::l) l = [(0,a),(2,b),(3,c),(5,d),(6,e),(7,f),(8,g),(9,m),(10,i),(38,j)] := by intros; rfl
     refine R_nil (tr ..) ?_; clear tr
     refine then_n ?_
     exact ⟨_, _, ⟨u + 1, _, _, _, _, _, rfl, rfl, by first | (show H.length ≤ HK.length; omega) | (show H.length ≤ HE.length; omega), by omega, by first | exact join_hit h0 (by omega) (by omega) hb qw2 | exact join_miss g7 (by omega) rfl (by omega)⟩, by rfl, by omega⟩
    ·
     try simp only [decide_eq_true_eq, decide_eq_false_iff_not, Bool.not_eq_true', Bool.not_eq_false', beq_iff_eq, beq_eq_false_iff_ne, ne_eq] at h4
     refine rg rfl ?_
     refine Rq ?_
     refine R_q rfl (by simp (disch := first | omega | (simp only [List.length_map, List.length_append, List.length_set, List.length_cons, List.length_nil]; omega)) only [go_sem, ↓reduceIte, Nat.reduceEqDiff, reduceCtorEq, qx, qw, hti] <;> rfl) ?_
     refine A_buildSlice (bs25 _ _ _ _ (gt l u) (by simp (disch := first | omega | (simp only [List.length_map, List.length_append, List.length_set, List.length_cons, List.length_nil]; omega)) only [go_sem, ↓reduceIte, Nat.reduceEqDiff, reduceCtorEq, qx] <;> rfl)) ?_
     intro HG n7
     have en7 := n7.len
     have qx := (n7.old _ (hget_lt qx)).trans qx
     have qn := n7.new
     have hO := hO.mono fun b hb k hk => (n7.old _ (hget_lt hk)).trans hk
     obtain ⟨b8, hbl, hbl2, hap⟩ := outS_append (lim := H.length) hO hob qn (Nat.le_refl _) (by omega) (by omega)
     refine A_append (by simp (disch := first | omega | (simp only [List.length_map, List.length_append, List.length_set, List.length_cons, List.length_nil]; omega)) only [go_sem, ↓reduceIte, Nat.reduceEqDiff, reduceCtorEq]; exact hap) ?_
     intro HK g7
     have eg7 := g7.len
     refine Rq ?_
     have tr : ∀ a b c d e f g h i j k m n o p : AV, let l := lc_join_ok a b c d e f g h i j; trim ((3,p)::(49,o)::(48,n)::(47,m)::(46,k)::l) l = [(0,a),(2,b),(3,p),(5,d),(6,e),(7,f),(8,g),(9,h),(10,i),(38,j)] := by intros; rfl
     refine R_nil (tr ..) ?_; clear tr
     refine blk_n ?_
     refine then_n ?_
     refine rg rfl ?_
     refine Rq ?_
     refine Rq ?_
     have tr : ∀ a b c d e f g h i j k m : AV, let l := lc_join_ok a b c d e f g h i j; trim ((9,m)::(50,k)::l) l = [(0,a),(2,b),(3,c),(5,d),(6,e),(7,f),(8,g),(9,m),(10,i),(38,j)] := by intros; rfl
     refine R_nil (tr ..) ?_; clear tr
     refine then_n ?_
     exact ⟨_, _, ⟨u + 1, (.own 3 HG.length 0 ((jn l u).length + 1)), _, _, _, _, rfl, rfl, by first | (show H.length ≤ HK.length; omega) | (show H.length ≤ HE.length; omega), by omega, by first | exact join_hit h0 (by omega) (by omega) hb qw2 | exact join_miss g7 (by omega) rfl (by omega)⟩, by rfl, by omega⟩
   ·
    try simp only [decide_eq_true_eq, decide_eq_false_iff_not, Bool.not_eq_true', Bool.not_eq_false', beq_iff_eq, beq_eq_false_iff_ne, ne_eq] at h3
    refine Qn ?_
    refine Qn ?_
    refine Qn ?_
    refine Qn ?_
    refine Qn ?_
    refine Qn ?_
    refine Qn ?_
    refine Qn ?_
    refine Qn ?_
    refine Qq ?_
    refine Q_nil ?_
    have tr : ∀ a b c d e f g h i j k m n o p q r s t u v w x y z A B C D E F G H I : AV, let l := lc_join_ok a b c d e f g h i j; trim ((38,I)::(37,H)::(36,G)::(35,F)::(34,E)::(33,D)::(32,C)::(31,B)::(30,A)::(29,z)::(28,y)::(27,x)::(26,w)::(25,v)::(24,u)::(23,t)::(22,s)::(21,r)::(20,q)::(19,p)::(18,o)::(17,n)::(16,m)::(15,k)::l) l = [(0,a),(2,b),(3,c),(5,d),(6,e),(7,f),(8,g),(9,h),(10,i),(38,I)] := by intros; rfl
    refine R_nil (tr ..) ?_; clear tr
    refine then_n ?_
    refine cdf ?_
    refine rg rfl ?_
    refine Rq ?_
    refine R_q rfl (by simp (disch := first | omega | (simp only [List.length_map, List.length_append, List.length_set, List.length_cons, List.length_nil]; omega)) only [go_sem, ↓reduceIte, Nat.reduceEqDiff, reduceCtorEq, qx, qw, hti] <;> rfl) ?_
    refine A_buildSlice (bs25 _ _ _ _ (gt l u) (by simp (disch := first | omega | (simp only [List.length_map, List.length_append, List.length_set, List.length_cons, List.length_nil]; omega)) only [go_sem, ↓reduceIte, Nat.reduceEqDiff, reduceCtorEq, qx] <;> rfl)) ?_
    intro HG n7
    have en7 := n7.len
    have qx := (n7.old _ (hget_lt qx)).trans qx
    have qn := n7.new
    have hO := hO.mono fun b hb k hk => (n7.old _ (hget_lt hk)).trans hk
    obtain ⟨b8, hbl, hbl2, hap⟩ := outS_append (lim := H.length) hO hob qn (Nat.le_refl _) (by omega) (by omega)
    refine A_append (by simp (disch := first | omega | (simp only [List.length_map, List.length_append, List.length_set, List.length_cons, List.length_nil]; omega)) only [go_sem, ↓reduceIte, Nat.reduceEqDiff, reduceCtorEq]; exact hap) ?_
    intro HK g7
    have eg7 := g7.len
    refine Rq ?_
    have tr : ∀ a b c d e f g h i j k m n o p : AV, let l := lc_join_ok a b c d e f g h i j; trim ((3,p)::(49,o)::(48,n)::(47,m)::(46,k)::l) l = [(0,a),(2,b),(3,p),(5,d),(6,e),(7,f),(8,g),(9,h),(10,i),(38,j)] := by intros; rfl
    refine R_nil (tr ..) ?_; clear tr
    refine blk_n ?_
    refine then_n ?_
    refine rg rfl ?_
    refine Rq ?_
    refine Rq ?_
    have tr : ∀ a b c d e f g h i j k m : AV, let l := lc_join_ok a b c d e f g h i j; trim ((9,m)::(50,k)::l) l = [(0,a),(2,b),(3,c),(5,d),(6,e),(7,f),(8,g),(9,m),(10,i),(38,j)] := by intros; rfl
    refine R_nil (tr ..) ?_; clear tr
    refine then_n ?_
    exact ⟨_, _, ⟨u + 1, (.own 3 HG.length 0 ((jn l u).length + 1)), _, _, _, _, rfl, rfl, by first | (show H.length ≤ HK.length; omega) | (show H.length ≤ HE.length; omega), by omega, by first | exact join_hit h0 (by omega) (by omega) hb qw2 | exact join_miss g7 (by omega) rfl (by omega)⟩, by rfl, by omega⟩
  ·
   try simp only [decide_eq_true_eq, decide_eq_false_iff_not, Bool.not_eq_true', Bool.not_eq_false', beq_iff_eq, beq_eq_false_iff_ne, ne_eq] at h2
   refine Qn ?_
   refine Qn ?_
   refine Qn ?_
   refine Qn ?_
   refine Qn ?_
   refine Qn ?_
   refine Qn ?_
   refine Qn ?_
   refine Qn ?_
   refine Qq ?_
   refine Qq ?_
   refine Qn ?_
   refine Qn ?_
   refine Qn ?_
   refine Qn ?_
   refine Qn ?_
   refine Qn ?_
   refine Qn ?_
   refine Qn ?_
   refine Qn ?_
   refine Qq ?_
   refine Q_nil ?_
   have tr : ∀ a b c d e f g h i j k m n o p q r s t u v w x y z A B C D E F G H I : AV, let l := lc_join_ok a b c d e f g h i j; trim ((38,I)::(37,H)::(36,G)::(35,F)::(34,E)::(33,D)::(32,C)::(31,B)::(30,A)::(29,z)::(28,y)::(27,x)::(26,w)::(25,v)::(24,u)::(23,t)::(22,s)::(21,r)::(20,q)::(19,p)::(18,o)::(17,n)::(16,m)::(15,k)::l) l = [(0,a),(2,b),(3,c),(5,d),(6,e),(7,f),(8,g),(9,h),(10,i),(38,I)] := by intros; rfl
   refine R_nil (tr ..) ?_; clear tr
   refine then_n ?_
   refine cdf ?_
   refine rg rfl ?_
   refine Rq ?_
   refine R_q rfl (by simp (disch := first | omega | (simp only [List.length_map, List.length_append, List.length_set, List.length_cons, List.length_nil]; omega)) only [go_sem, ↓reduceIte, Nat.reduceEqDiff, reduceCtorEq, qx, qw, hti] <;> rfl) ?_
   refine A_buildSlice (bs25 _ _ _ _ (gt l u) (by simp (disch := first | omega | (simp only [List.length_map, List.length_append, List.length_set, List.length_cons, List.length_nil]; omega)) only [go_sem, ↓reduceIte, Nat.reduceEqDiff, reduceCtorEq, qx] <;> rfl)) ?_
   intro HG n7
   have en7 := n7.len
   have qx := (n7.old _ (hget_lt qx)).trans qx
   have qn := n7.new
   have hO := hO.mono fun b hb k hk => (n7.old _ (hget_lt hk)).trans hk
   obtain ⟨b8, hbl, hbl2, hap⟩ := outS_append (lim := H.length) hO hob qn (Nat.le_refl _) (by omega) (by omega)
   refine A_append (by simp (disch := first | omega | (simp only [List.length_map, List.length_append, List.length_set, List.length_cons, List.length_nil]; omega)) only [go_sem, ↓reduceIte, Nat.reduceEqDiff, reduceCtorEq]; exact hap) ?_
   intro HK g7
   have eg7 := g7.len
   refine Rq ?_
   have tr : ∀ a b c d e f g h i j k m n o p : AV, let l := lc_join_ok a b c d e f g h i j; trim ((3,p)::(49,o)::(48,n)::(47,m)::(46,k)::l) l = [(0,a),(2,b),(3,p),(5,d),(6,e),(7,f),(8,g),(9,h),(10,i),(38,j)] := by intros; rfl
   refine R_nil (tr ..) ?_; clear tr
   refine blk_n ?_
   refine then_n ?_
   refine rg rfl ?_
   refine Rq ?_
   refine Rq ?_
   have tr : ∀ a b c d e f g h i j k m : AV, let l := lc_join_ok a b c d e f g h i j; trim ((9,m)::(50,k)::l) l = [(0,a),(2,b),(3,c),(5,d),(6,e),(7,f),(8,g),(9,m),(10,i),(38,j)] := by intros; rfl
   refine R_nil (tr ..) ?_; clear tr
   refine then_n ?_
   exact ⟨_, _, ⟨u + 1, (.own 3 HG.length 0 ((jn l u).length + 1)), _, _, _, _, rfl, rfl, by first | (show H.length ≤ HK.length; omega) | (show H.length ≤ HE.length; omega), by omega, by first | exact join_hit h0 (by omega) (by omega) hb qw2 | exact join_miss g7 (by omega) rfl (by omega)⟩, by rfl, by omega⟩
 ·
  try simp only [decide_eq_true_eq, decide_eq_false_iff_not, Bool.not_eq_true', Bool.not_eq_false', beq_iff_eq, beq_eq_false_iff_ne, ne_eq] at h1
  refine at_exit rfl ?_
  refine then_x ?_
  refine then_x ?_
  refine blk_x ?_
  refine then_n ?_
  refine at_seq rfl ?_
  refine rg rfl ?_
  refine Rq ?_
  refine Rq ?_
  have tr : ∀ a b c d e f g h i j k m : AV, let l := lc_join_ok a b c d e f g h i j; trim ((2,m)::(51,k)::l) l = [(0,a),(2,m),(3,c),(5,d),(6,e),(7,f),(8,g),(9,h),(10,i),(38,j)] := by intros; rfl
  refine R_nil (tr ..) ?_; clear tr
  refine then_n ?_
  refine at_ret rfl ?_
  obtain rfl : u = l.length := by omega
  refine fpure ?_
  exact ⟨hO.frz, rfl⟩

abbrev lc_rjoin_ok (a b c d e f g h i j : AV) : Env := [(0,a),(2,b),(3,c),(5,d),(6,e),(7,f),(8,g),(9,h),(10,i),(38,j)]
theorem rjoin_ok (lim : Nat) (H : Heap) (l : List Stp) (hl : l.length ≤ 1000) :
    ACall sig lim 47 [stopsAV l] H fun r H' => r = outT (jn l l.length) ∧ H' = H := by
 have qx : True := trivial
 have qw : True := trivial
 have hti : True := trivial
 refine ACall_pure (fa := fa47) rfl rfl rfl rfl ?_
 have tr : ∀ a0 : AV, env0 fa47.keep [a0] = [(0,a0),(2,.any),(3,.any),(5,.any),(6,.any),(7,.any),(8,.any),(9,.any),(10,.any),(38,.any)] := fun a0 => rfl
 refine W_to (tr _) ?_; clear tr
 refine at_seq rfl ?_
 refine rg rfl ?_
 refine Rq ?_
 have tr : ∀ a b c d e f g h i j k : AV, let l := lc_rjoin_ok a b c d e f g h i j; trim ((2,k)::l) l = [(0,a),(2,k),(3,c),(5,d),(6,e),(7,f),(8,g),(9,h),(10,i),(38,j)] := by intros; rfl
 refine R_nil (tr ..) ?_; clear tr
 refine then_n ?_
 refine at_seq rfl ?_
 refine rg rfl ?_
 refine Rq ?_
 have tr : ∀ a b c d e f g h i j k : AV, let l := lc_rjoin_ok a b c d e f g h i j; trim ((3,k)::l) l = [(0,a),(2,b),(3,k),(5,d),(6,e),(7,f),(8,g),(9,h),(10,i),(38,j)] := by intros; rfl
 refine R_nil (tr ..) ?_; clear tr
 refine then_n ?_
 refine at_seq rfl ?_
 refine at_seq rfl ?_
 refine rg rfl ?_
 refine Rq ?_
 refine Rq ?_
 refine Rq ?_
 have tr : ∀ a b c d e f g h i j k m n : AV, let l := lc_rjoin_ok a b c d e f g h i j; trim ((9,n)::(8,m)::(7,k)::l) l = [(0,a),(2,b),(3,c),(5,d),(6,e),(7,k),(8,m),(9,n),(10,i),(38,j)] := by intros; rfl
 refine R_nil (tr ..) ?_; clear tr
 refine then_n ?_
 refine at_block rfl ?_
 refine loop_n rfl (fun mm kv H' => ∃ u : Nat, ∃ o : AV, ∃ x5 x6 x10 x38 : AV, (kv = [(3, o), (5, x5), (6, x6), (9, AV.i u), (10, x10), (38, x38)]) ∧ (mm = l.length - u) ∧ (H.length ≤ H'.length) ∧ (u ≤ l.length) ∧ (OutS H.length H' o (jn l u))) ⟨0, nilS, _, _, _, _, rfl, rfl, by exact Nat.le_refl _, by omega, by exact .inl ⟨rfl, rfl⟩⟩ (by rfl) ?_
 rintro mm kv HB ⟨u, o, x5, x6, x10, x38, rfl, rfl, hHB, hu, hO⟩
 have tr : ∀ a b c d e f g h i j k m n o p q : AV, upd [(0,a),(2,b),(3,c),(5,d),(6,e),(7,f),(8,g),(9,h),(10,i),(38,j)] [(3,k),(5,m),(6,n),(9,o),(10,p),(38,q)] = [(0,a),(2,b),(3,k),(5,m),(6,n),(7,f),(8,g),(9,o),(10,p),(38,q)] := by intros; rfl
 refine W_to (tr ..) ?_; clear tr
 have hpl := jn_len l u
 refine at_seq rfl ?_
 refine rg rfl ?_
 refine Rq ?_
 have tr : ∀ a b c d e f g h i j k : AV, let l := lc_rjoin_ok a b c d e f g h i j; trim ((10,k)::l) l = [(0,a),(2,b),(3,c),(5,d),(6,e),(7,f),(8,g),(9,h),(10,k),(38,j)] := by intros; rfl
 refine R_nil (tr ..) ?_; clear tr
 refine then_n ?_
 refine at_seq rfl ?_
 refine cdd (fun h1 => ?_) (fun h1 => ?_)
 ·
  try simp only [decide_eq_true_eq, decide_eq_false_iff_not, Bool.not_eq_true', Bool.not_eq_false', beq_iff_eq, beq_eq_false_iff_ne, ne_eq] at h1
  refine at_skip rfl ?_
  refine then_n ?_
  refine at_seq rfl ?_
  refine at_block rfl ?_
  refine at_seq rfl ?_
  refine rg rfl ?_
  refine Rq ?_
  refine R_q rfl (by simp (disch := first | omega | (simp only [List.length_map, List.length_append, List.length_set, List.length_cons, List.length_nil]; omega)) only [go_sem, ↓reduceIte, Nat.reduceEqDiff, reduceCtorEq, qx, qw, hti] <;> rfl) ?_
  have hO1 := hO
  have hob := fun b hb => hO.lt (b := b) hb
  refine A_alloc rfl ?_
  intro HC n4
  have en4 := n4.len
  have qx := n4.new
  have hO := hO.mono fun b hb k hk => (n4.old _ (hget_lt hk)).trans hk
  have lqx := hget_lt qx
  refine A_store ty56 (by simp (disch := first | omega | (simp only [List.length_map, List.length_append, List.length_set, List.length_cons, List.length_nil]; omega)) only [go_sem, ↓reduceIte, Nat.reduceEqDiff, reduceCtorEq] <;> rfl) (by simp (disch := first | omega | (simp only [List.length_map, List.length_append, List.length_set, List.length_cons, List.length_nil]; omega)) only [go_sem, ↓reduceIte, Nat.reduceEqDiff, reduceCtorEq, qx] <;> rfl) qx ⟨by omega, rfl, by first | exact Nat.le_refl _ | simp⟩ (show _ = stC (gt l u) from rfl) ?_
  intro HD w4
  have ew4 := w4.len
  have qx := w4.new
  have hO := hO1.mono fun b hb k hk => (w4.old _ (by have := hget_lt hk; omega)).trans ((n4.old _ (hget_lt hk)).trans hk)
  have tr : ∀ a b c d e f g h i j k m n : AV, let l := lc_rjoin_ok a b c d e f g h i j; trim ((5,n)::(12,m)::(11,k)::l) l = [(0,a),(2,b),(3,c),(5,n),(6,e),(7,f),(8,g),(9,h),(10,i),(38,j)] := by intros; rfl
  refine R_nil (tr ..) ?_; clear tr
  refine then_n ?_
  refine at_seq rfl ?_
  refine rg rfl ?_
  refine Rq ?_
  refine R_q rfl (by simp (disch := first | omega | (simp only [List.length_map, List.length_append, List.length_set, List.length_cons, List.length_nil]; omega)) only [go_sem, ↓reduceIte, Nat.reduceEqDiff, reduceCtorEq]; exact hO.len) ?_
  refine Rq ?_
  have tr : ∀ a b c d e f g h i j k m n : AV, let l := lc_rjoin_ok a b c d e f g h i j; trim ((6,n)::(14,m)::(13,k)::l) l = [(0,a),(2,b),(3,c),(5,d),(6,n),(7,f),(8,g),(9,h),(10,i),(38,j)] := by intros; rfl
  refine R_nil (tr ..) ?_; clear tr
  refine then_n ?_
  refine at_seq rfl ?_
  refine at_seq rfl ?_
  refine rd rfl rfl ?_
  refine Qq ?_
  refine Qq ?_
  refine Qq ?_
  refine Qp_split (fun h2 => ?_) (fun h2 => ?_)
  ·
   try simp only [decide_eq_true_eq, decide_eq_false_iff_not, Bool.not_eq_true', Bool.not_eq_false', beq_iff_eq, beq_eq_false_iff_ne, ne_eq] at h2
   obtain ⟨h0, b, rfl, hb, qw⟩ := hO.resolve_left (fun hh => by have h7 := congrArg List.length hh.1; simp only [List.length_nil] at h7; omega)
   have lqw := hget_lt qw
   have hbx : b ≠ HB.length := by have := hob b rfl; omega
   have hti : (((jn l u).length : Int) - 1).toNat = (jn l u).length - 1 := by omega
   refine Qy ?_
   refine Qq ?_
   refine Qy ?_
   refine Qq ?_
   refine Qy ?_
   refine Qq ?_
   refine Qy ?_
   refine Qq ?_
   refine Qy ?_
   refine Qq ?_
   refine Qy ?_
   refine Q_q rfl (by simp (disch := first | omega | (simp only [List.length_map, List.length_append, List.length_set, List.length_cons, List.length_nil]; omega)) only [go_sem, ↓reduceIte, Nat.reduceEqDiff, reduceCtorEq, qx, qw, hti] <;> rfl) ?_
   refine Qy ?_
   refine Qq ?_
   refine Qy ?_
   refine Q_q rfl (by simp (disch := first | omega | (simp only [List.length_map, List.length_append, List.length_set, List.length_cons, List.length_nil]; omega)) only [go_sem, ↓reduceIte, Nat.reduceEqDiff, reduceCtorEq, qx, qw, hti] <;> rfl) ?_
   refine Qy ?_
   refine Qq ?_
   refine Qq ?_
   refine Qq ?_
   refine Qp_split (fun h3 => ?_) (fun h3 => ?_)
   ·
    try simp only [decide_eq_true_eq, decide_eq_false_iff_not, Bool.not_eq_true', Bool.not_eq_false', beq_iff_eq, beq_eq_false_iff_ne, ne_eq] at h3
    refine Qy ?_
    refine Qq ?_
    refine Qy ?_
    refine Qq ?_
    refine Qy ?_
    refine Qq ?_
    refine Qy ?_
    refine Qq ?_
    refine Qy ?_
    refine Qq ?_
    refine Qy ?_
    refine Q_q rfl (by simp (disch := first | omega | (simp only [List.length_map, List.length_append, List.length_set, List.length_cons, List.length_nil]; omega)) only [go_sem, ↓reduceIte, Nat.reduceEqDiff, reduceCtorEq, qx, qw, hti] <;> rfl) ?_
    refine Qy ?_
    refine Qq ?_
    refine Qy ?_
    refine Q_q rfl (by simp (disch := first | omega | (simp only [List.length_map, List.length_append, List.length_set, List.length_cons, List.length_nil]; omega)) only [go_sem, ↓reduceIte, Nat.reduceEqDiff, reduceCtorEq, qx, qw, hti] <;> rfl) ?_
    refine Qy ?_
    refine Qq ?_
    refine Qq ?_
    refine Q_nil ?_
    have tr : ∀ a b c d e f g h i j k m n o p q r s t u v w x y z A B C D E F G H I : AV, let l := lc_rjoin_ok a b c d e f g h i j; trim ((38,I)::(37,H)::(36,G)::(35,F)::(34,E)::(33,D)::(32,C)::(31,B)::(30,A)::(29,z)::(28,y)::(27,x)::(26,w)::(25,v)::(24,u)::(23,t)::(22,s)::(21,r)::(20,q)::(19,p)::(18,o)::(17,n)::(16,m)::(15,k)::l) l = [(0,a),(2,b),(3,c),(5,d),(6,e),(7,f),(8,g),(9,h),(10,i),(38,I)] := by intros; rfl
    refine R_nil (tr ..) ?_; clear tr
    refine then_n ?_
    refine cdd (fun h4 => ?_) (fun h4 => ?_)
    ·
     try simp only [decide_eq_true_eq, decide_eq_false_iff_not, Bool.not_eq_true', Bool.not_eq_false', beq_iff_eq, beq_eq_false_iff_ne, ne_eq] at h4
     refine at_seq rfl ?_
     refine rg rfl ?_
     refine Rq ?_
     refine Rq ?_
     refine Rq ?_
     refine Rq ?_
     refine R_q rfl (by simp (disch := first | omega | (simp only [List.length_map, List.length_append, List.length_set, List.length_cons, List.length_nil]; omega)) only [go_sem, ↓reduceIte, Nat.reduceEqDiff, reduceCtorEq, qx, qw, hti] <;> rfl) ?_
     refine Rq ?_
     refine Rq ?_
     have lqx := hget_lt qx
     refine A_store ty2 (by simp (disch := first | omega | (simp only [List.length_map, List.length_append, List.length_set, List.length_cons, List.length_nil]; omega)) only [go_sem, ↓reduceIte, Nat.reduceEqDiff, reduceCtorEq, qx, qw, hti] <;> rfl) (by simp (disch := first | omega | (simp only [List.length_map, List.length_append, List.length_set, List.length_cons, List.length_nil]; omega)) only [go_sem, ↓reduceIte, Nat.reduceEqDiff, reduceCtorEq, qx, qw, hti] <;> rfl) qw ⟨by omega, rfl, by simp only [flat_len]; omega⟩ (k' := flatS ((jn l u).set ((jn l u).length - 1) ⟨(gt (jn l u) ((jn l u).length - 1)).b, (gt l u).a, (gt (jn l u) ((jn l u).length - 1)).w⟩)) (flatS_set1 _ _ _ (by omega)) ?_
     intro HE w5
     have ew5 := w5.len
     have qw2 := w5.new
     have tr : ∀ a b c d e f g h i j k m n o p q r : AV, let l := lc_rjoin_ok a b c d e f g h i j; trim ((45,r)::(44,q)::(43,p)::(42,o)::(41,n)::(40,m)::(39,k)::l) l = [(0,a),(2,b),(3,c),(5,d),(6,e),(7,f),(8,g),(9,h),(10,i),(38,j)] := by intros; rfl
     refine R_nil (tr ..) ?_; clear tr
     refine then_n ?_
     refine at_exit rfl ?_
     refine then_x ?_
     refine blk_x ?_
     refine then_n ?_
     refine rg rfl ?_
     refine Rq ?_
     refine Rq ?_
     have tr : ∀ a b c d e f g h i j k m : AV, let l := lc_rjoin_ok a b c d e f g h i j; trim ((9,m)::(50,k)::l) l = [(0,a),(2,b),(3,c),(5,d),(6,e),(7,f),(8,g),(9,m),(10,i),(38,j)] := by intros; rfl
     refine R_nil (tr ..) ?_; clear tr
     refine then_n ?_
     exact ⟨_, _, ⟨u + 1, _, _, _, _, _, rfl, rfl, by first | (show H.length ≤ HK.length; omega) | (show H.length ≤ HE.length; omega), by omega, by first | exact join_hit h0 (by omega) (by omega) hb qw2 | exact join_miss g7 (by omega) rfl (by omega)⟩, by rfl, by omega⟩
    ·
     try simp only [decide_eq_true_eq, decide_eq_false_iff_not, Bool.not_eq_true', Bool.not_eq_false', beq_iff_eq, beq_eq_false_iff_ne, ne_eq] at h4
     refine at_skip rfl ?_
     refine then_n ?_
     refine rg rfl ?_
     refine Rq ?_
     refine R_q rfl (by simp (disch := first | omega | (simp only [List.length_map, List.length_append, List.length_set, List.length_cons, List.length_nil]; omega)) only [go_sem, ↓reduceIte, Nat.reduceEqDiff, reduceCtorEq, qx, qw, hti] <;> rfl) ?_
     refine A_buildSlice (bs25 _ _ _ _ (gt l u) (by simp (disch := first | omega | (simp only [List.length_map, List.length_append, List.length_set, List.length_cons, List.length_nil]; omega)) only [go_sem, ↓reduceIte, Nat.reduceEqDiff, reduceCtorEq, qx] <;> rfl)) ?_
     intro HG n7
     have en7 := n7.len
     have qx := (n7.old _ (hget_lt qx)).trans qx
     have qn := n7.new
     have hO := hO.mono fun b hb k hk => (n7.old _ (hget_lt hk)).trans hk
     obtain ⟨b8, hbl, hbl2, hap⟩ := outS_append (lim := H.length) hO hob qn (Nat.le_refl _) (by omega) (by omega)
     refine A_append (by simp (disch := first | omega | (simp only [List.length_map, List.length_append, List.length_set, List.length_cons, List.length_nil]; omega)) only [go_sem, ↓reduceIte, Nat.reduceEqDiff, reduceCtorEq]; exact hap) ?_
     intro HK g7
     have eg7 := g7.len
     refine Rq ?_
     have tr : ∀ a b c d e f g h i j k m n o p : AV, let l := lc_rjoin_ok a b c d e f g h i j; trim ((3,p)::(49,o)::(48,n)::(47,m)::(46,k)::l) l = [(0,a),(2,b),(3,p),(5,d),(6,e),(7,f),(8,g),(9,h),(10,i),(38,j)] := by intros; rfl
     refine R_nil (tr ..) ?_; clear tr
     refine blk_n ?_
     refine then_n ?_
     refine rg rfl ?_
     refine Rq ?_
     refine Rq ?_
     have tr : ∀ a b c d e f g h i j k m : AV, let l := lc_rjoin_ok a b c d e f g h i j; trim ((9,m)::(50,k)::l) l = [(0,a),(2,b),(3,c),(5,d),(6,e),(7,f),(8,g),(9,m),(10,i),(38,j)] := by intros; rfl
     refine R_nil (tr ..) ?_; clear tr
     refine then_n ?_
     exact ⟨_, _, ⟨u + 1, (.own 3 HG.length 0 ((jn l u).length + 1)), _, _, _, _, rfl, rfl, by first | (show H.length ≤ HK.length; omega) | (show H.length ≤ HE.length; omega), by omega, by first | exact join_hit h0 (by omega) (by omega) hb qw2 | exact join_miss g7 (by omega) rfl (by omega)⟩, by rfl, by omega⟩
   ·
    try simp only [decide_eq_true_eq, decide_eq_false_iff_not, Bool.not_eq_true', Bool.not_eq_false', beq_iff_eq, beq_eq_false_iff_ne, ne_eq] at h3
    refine Qn ?_
    refine Qn ?_
    refine Qn ?_
    refine Qn ?_
    refine Qn ?_
    refine Qn ?_
    refine Qn ?_
    refine Qn ?_
    refine Qn ?_
    refine Qq ?_
    refine Q_nil ?_
    have tr : ∀ a b c d e f g h i j k m n o p q r s t u v w x y z A B C D E F G H I : AV, let l := lc_rjoin_ok a b c d e f g h i j; trim ((38,I)::(37,H)::(36,G)::(35,F)::(34,E)::(33,D)::(32,C)::(31,B)::(30,A)::(29,z)::(28,y)::(27,x)::(26,w)::(25,v)::(24,u)::(23,t)::(22,s)::(21,r)::(20,q)::(19,p)::(18,o)::(17,n)::(16,m)::(15,k)::l) l = [(0,a),(2,b),(3,c),(5,d),(6,e),(7,f),(8,g),(9,h),(10,i),(38,I)] := by intros; rfl
    refine R_nil (tr ..) ?_; clear tr
    refine then_n ?_
    refine cdf ?_
    refine at_skip rfl ?_
    refine then_n ?_
    refine rg rfl ?_
    refine Rq ?_
    refine R_q rfl (by simp (disch := first | omega | (simp only [List.length_map, List.length_append, List.length_set, List.length_cons, List.length_nil]; omega)) only [go_sem, ↓reduceIte, Nat.reduceEqDiff, reduceCtorEq, qx, qw, hti] <;> rfl) ?_
    refine A_buildSlice (bs25 _ _ _ _ (gt l u) (by simp (disch := first | omega | (simp only [List.length_map, List.length_append, List.length_set, List.length_cons, List.length_nil]; omega)) only [go_sem, ↓reduceIte, Nat.reduceEqDiff, reduceCtorEq, qx] <;> rfl)) ?_
    intro HG n7
    have en7 := n7.len
    have qx := (n7.old _ (hget_lt qx)).trans qx
    have qn := n7.new
    have hO := hO.mono fun b hb k hk => (n7.old _ (hget_lt hk)).trans hk
    obtain ⟨b8, hbl, hbl2, hap⟩ := outS_append (lim := H.length) hO hob qn (Nat.le_refl _) (by omega) (by omega)
    refine A_append (by simp (disch := first | omega | (simp only [List.length_map, List.length_append, List.length_set, List.length_cons, List.length_nil]; omega)) only [go_sem, ↓reduceIte, Nat.reduceEqDiff, reduceCtorEq]; exact hap) ?_
    intro HK g7
    have eg7 := g7.len
    refine Rq ?_
    have tr : ∀ a b c d e f g h i j k m n o p : AV, let l := lc_rjoin_ok a b c d e f g h i j; trim ((3,p)::(49,o)::(48,n)::(47,m)::(46,k)::l) l = [(0,a),(2,b),(3,p),(5,d),(6,e),(7,f),(8,g),(9,h),(10,i),(38,j)] := by intros; rfl
    refine R_nil (tr ..) ?_; clear tr
    refine blk_n ?_
    refine then_n ?_
    refine rg rfl ?_
    refine Rq ?_
    refine Rq ?_
    have tr : ∀ a b c d e f g h i j k m : AV, let l := lc_rjoin_ok a b c d e f g h i j; trim ((9,m)::(50,k)::l) l = [(0,a),(2,b),(3,c),(5,d),(6,e),(7,f),(8,g),(9,m),(10,i),(38,j)] := by intros; rfl
    refine R_nil (tr ..) ?_; clear tr
    refine then_n ?_
    exact ⟨_, _, ⟨u + 1, (.own 3 HG.length 0 ((jn l u).length + 1)), _, _, _, _, rfl, rfl, by first | (show H.length ≤ HK.length; omega) | (show H.length ≤ HE.length; omega), by omega, by first | exact join_hit h0 (by omega) (by omega) hb qw2 | exact join_miss g7 (by omega) rfl (by omega)⟩, by rfl, by omega⟩
  ·
   try simp only [decide_eq_true_eq, decide_eq_false_iff_not, Bool.not_eq_true', Bool.not_eq_false', beq_iff_eq, beq_eq_false_iff_ne, ne_eq] at h2
   refine Qn ?_
   refine Qn ?_
   refine Qn ?_
   refine Qn ?_
   refine Qn ?_
   refine Qn ?_
   refine Qn ?_
   refine Qn ?_
   refine Qn ?_
   refine Qq ?_
   refine Qq ?_
   refine Qn ?_
   refine Qn ?_
   refine Qn ?_
   refine Qn ?_
   refine Qn ?_
   refine Qn ?_
   refine Qn ?_
   refine Qn ?_
   refine Qn ?_
   refine Qq ?_
   refine Q_nil ?_
   have tr : ∀ a b c d e f g h i j k m n o p q r s t u v w x y z A B C D E F G H I : AV, let l := lc_rjoin_ok a b c d e f g h i j; trim ((38,I)::(37,H)::(36,G)::(35,F)::(34,E)::(33,D)::(32,C)::(31,B)::(30,A)::(29,z)::(28,y)::(27,x)::(26,w)::(25,v)::(24,u)::(23,t)::(22,s)::(21,r)::(20,q)::(19,p)::(18,o)::(17,n)::(16,m)::(15,k)::l) l = [(0,a),(2,b),(3,c),(5,d),(6,e),(7,f),(8,g),(9,h),(10,i),(38,I)] := by intros; rfl
   refine R_nil (tr ..) ?_; clear tr
   refine then_n ?_
   refine cdf ?_
   refine at_skip rfl ?_
   refine then_n ?_
   refine rg rfl ?_
   refine Rq ?_
   refine R_q rfl (by simp (disch := first | omega | (simp only [List.length_map, List.length_append, List.length_set, List.length_cons, List.length_nil]; omega)) only [go_sem, ↓reduceIte, Nat.reduceEqDiff, reduceCtorEq, qx, qw, hti] <;> rfl) ?_
   refine A_buildSlice (bs25 _ _ _ _ (gt l u) (by simp (disch := first | omega | (simp only [List.length_map, List.length_append, List.length_set, List.length_cons, List.length_nil]; omega)) only [go_sem, ↓reduceIte, Nat.reduceEqDiff, reduceCtorEq, qx] <;> rfl)) ?_
   intro HG n7
   have en7 := n7.len
   have qx := (n7.old _ (hget_lt qx)).trans qx
   have qn := n7.new
   have hO := hO.mono fun b hb k hk => (n7.old _ (hget_lt hk)).trans hk
   obtain ⟨b8, hbl, hbl2, hap⟩ := outS_append (lim := H.length) hO hob qn (Nat.le_refl _) (by omega) (by omega)
   refine A_append (by simp (disch := first | omega | (simp only [List.length_map, List.length_append, List.length_set, List.length_cons, List.length_nil]; omega)) only [go_sem, ↓reduceIte, Nat.reduceEqDiff, reduceCtorEq]; exact hap) ?_
   intro HK g7
   have eg7 := g7.len
   refine Rq ?_
   have tr : ∀ a b c d e f g h i j k m n o p : AV, let l := lc_rjoin_ok a b c d e f g h i j; trim ((3,p)::(49,o)::(48,n)::(47,m)::(46,k)::l) l = [(0,a),(2,b),(3,p),(5,d),(6,e),(7,f),(8,g),(9,h),(10,i),(38,j)] := by intros; rfl
   refine R_nil (tr ..) ?_; clear tr
   refine blk_n ?_
   refine then_n ?_
   refine rg rfl ?_
   refine Rq ?_
   refine Rq ?_
   have tr : ∀ a b c d e f g h i j k m : AV, let l := lc_rjoin_ok a b c d e f g h i j; trim ((9,m)::(50,k)::l) l = [(0,a),(2,b),(3,c),(5,d),(6,e),(7,f),(8,g),(9,m),(10,i),(38,j)] := by intros; rfl
   refine R_nil (tr ..) ?_; clear tr
   refine then_n ?_
   exact ⟨_, _, ⟨u + 1, (.own 3 HG.length 0 ((jn l u).length + 1)), _, _, _, _, rfl, rfl, by first | (show H.length ≤ HK.length; omega) | (show H.length ≤ HE.length; omega), by omega, by first | exact join_hit h0 (by omega) (by omega) hb qw2 | exact join_miss g7 (by omega) rfl (by omega)⟩, by rfl, by omega⟩
 ·
  try simp only [decide_eq_true_eq, decide_eq_false_iff_not, Bool.not_eq_true', Bool.not_eq_false', beq_iff_eq, beq_eq_false_iff_ne, ne_eq] at h1
  refine at_exit rfl ?_
  refine then_x ?_
  refine then_x ?_
  refine blk_x ?_
  refine then_n ?_
  refine at_seq rfl ?_
  refine rg rfl ?_
  refine Rq ?_
  refine Rq ?_
  have tr : ∀ a b c d e f g h i j k m : AV, let l := lc_rjoin_ok a b c d e f g h i j; trim ((2,m)::(51,k)::l) l = [(0,a),(2,m),(3,c),(5,d),(6,e),(7,f),(8,g),(9,h),(10,i),(38,j)] := by intros; rfl
  refine R_nil (tr ..) ?_; clear tr
  refine then_n ?_
  refine at_ret rfl ?_
  obtain rfl : u = l.length := by omega
  refine fpure ?_
  exact ⟨hO.frz, rfl⟩

end Go.Proofs.Ytaoondlakhocnaa
end
