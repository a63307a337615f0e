/-
  Texts of PointsSums, part 11 of 15. Walks of chapter 51. The steps are written by program (walk.py).
-/
import Derived.Test.YtfnapmdedmbdbaaDoorKPointsSums8
import Derived.Test.YtfnapmdedmbdbaaDoorKPointsSums9
import Derived.Test.YtfnapmdedmbdbaaDoorKPointsSums5
import Derived.Test.YtfnapmdedmbdbaaDoorKPointsSums7
import Derived.Test.YtfnapmdedmbdbaaDoorKPointsSums6
section
set_option linter.unusedSimpArgs false
set_option linter.unusedVariables false
set_option maxHeartbeats 1000000
set_option maxRecDepth 20000
namespace Go.Proofs.YtfnapmdedmbdbaaDoor
open Go Go.Am
abbrev lc_table_ok (a b c d e f g h i j k m n o p q : AV) : Env := [(0,a),(1,b),(4,c),(5,d),(6,e),(7,f),(8,g),(10,h),(15,i),(20,j),(21,k),(22,m),(30,n),(31,o),(32,p),(33,q)]
theorem table_ok (lim : Nat) (H : Heap) (n : Int) (hn : -9223372036854775808 ≤ n ∧ n ≤ 9223372036854775807) (l : List Pl) : ACall sig lim 16 [AV.i n, plsAV l] H fun r H' => r = .tup [tbAV (tabS n l), AV.i (chS n l)] ∧ H' = H := by
 have q0 : True := trivial
 have q5 : True := trivial
 refine ACall_pure (fa := fa16) rfl rfl rfl rfl ?_
 have tr : ∀ a0 a1 : AV, env0 fa16.keep [a0, a1] = [(0,a0),(1,a1),(4,.any),(5,.any),(6,.any),(7,.any),(8,.any),(10,.any),(15,.any),(20,.any),(21,.any),(22,.any),(30,.any),(31,.any),(32,.any),(33,.any)] := fun a0 a1 => rfl
 refine W_to (tr _ _) ?_; clear tr
 refine at_seq rfl ?_
 refine rg rfl ?_
 refine Rq ?_
 refine Rq ?_
 have tr : ∀ a b c d e f g h i j k m n o p q r s : AV, let l := lc_table_ok a b c d e f g h i j k m n o p q; trim ((5,s)::(4,r)::l) l = [(0,a),(1,b),(4,r),(5,s),(6,e),(7,f),(8,g),(10,h),(15,i),(20,j),(21,k),(22,m),(30,n),(31,o),(32,p),(33,q)] := by intros; rfl
 refine R_nil (tr ..) ?_; clear tr
 refine then_n ?_
 refine at_seq rfl ?_
 refine at_seq rfl ?_
 refine rg rfl ?_
 refine Rq ?_
 refine Rq ?_
 refine Rcall ?_
 refine ACall_eq (check_ok _ _ n hn l) ?_
 refine Rq ?_
 have tr : ∀ a b c d e f g h i j k m n o p q r s t u : AV, let l := lc_table_ok a b c d e f g h i j k m n o p q; trim ((6,u)::(13,t)::(12,s)::(11,r)::l) l = [(0,a),(1,b),(4,c),(5,d),(6,u),(7,f),(8,g),(10,h),(15,i),(20,j),(21,k),(22,m),(30,n),(31,o),(32,p),(33,q)] := by intros; rfl
 refine R_nil (tr ..) ?_; clear tr
 refine then_n ?_
 refine at_seq rfl ?_
 refine rg rfl ?_
 refine Rq ?_
 refine Rq ?_
 have tr : ∀ a b c d e f g h i j k m n o p q r s : AV, let l := lc_table_ok a b c d e f g h i j k m n o p q; trim ((15,s)::(14,r)::l) l = [(0,a),(1,b),(4,c),(5,d),(6,e),(7,f),(8,g),(10,h),(15,s),(20,j),(21,k),(22,m),(30,n),(31,o),(32,p),(33,q)] := by intros; rfl
 refine R_nil (tr ..) ?_; clear tr
 refine then_n ?_
 refine cdd (fun h1 => ?_) (fun h1 => ?_)
 ·
  try simp only [decide_eq_true_eq, decide_eq_false_iff_not, decide_eq_decide, Bool.not_eq_true', Bool.not_eq_false', beq_iff_eq, beq_eq_false_iff_ne, ne_eq, Bool.and_eq_true, Bool.and_eq_false_iff, decide_not] at h1
  refine at_seq rfl ?_
  refine rg rfl ?_
  refine Rq ?_
  refine Rq ?_
  refine Rq ?_
  have tr : ∀ a b c d e f g h i j k m n o p q r s t : AV, let l := lc_table_ok a b c d e f g h i j k m n o p q; trim ((5,t)::(4,s)::(16,r)::l) l = [(0,a),(1,b),(4,s),(5,t),(6,e),(7,f),(8,g),(10,h),(15,i),(20,j),(21,k),(22,m),(30,n),(31,o),(32,p),(33,q)] := by intros; rfl
  refine R_nil (tr ..) ?_; clear tr
  refine then_n ?_
  refine at_ret rfl ?_
  refine then_r ?_
  first | (refine fpure ?_; refine ⟨?_, rfl⟩; rw [tabS_n (by assumption), tbAV_nil] <;> rfl; done) | (refine fin_pure (rs := [.tmp 4, .tmp 5]) rfl (by simp (disch := first | omega | (simp only [List.length_map, List.length_append, List.length_set, List.length_cons, List.length_nil]; omega)) only [go_sem, ↓reduceIte, Nat.reduceEqDiff, reduceCtorEq] <;> rfl) (v := .tup [stsAV (tbS (stds n.toNat l)), AV.i 0]) (by show AV.tup [frz _ _ 7 (.own 10 H.length 0 n.toNat), AV.i 0] = _; rw [frz_ownZ (Nat.lt_irrefl _) q9 (tab_len hc)]) ?_; refine ⟨?_, rfl⟩; rw [tabS_y hc, hc, tbAV_ne (tab_ne hc)])
 ·
  try simp only [decide_eq_true_eq, decide_eq_false_iff_not, decide_eq_decide, Bool.not_eq_true', Bool.not_eq_false', beq_iff_eq, beq_eq_false_iff_ne, ne_eq, Bool.and_eq_true, Bool.and_eq_false_iff, decide_not] at h1
  refine at_skip rfl ?_
  refine then_n ?_
  refine at_seq rfl ?_
  refine rg rfl ?_
  have hc : chS n l = 0 := by first | assumption | omega
  obtain ⟨hn2, hl4, hpl⟩ := chS_z hc
  refine Rq ?_
  refine R_makeSlice (ms27 _ _ n _ _ _ (by omega) (by omega) (by simp (disch := first | omega | (simp only [List.length_map, List.length_append, List.length_set, List.length_cons, List.length_nil]; omega)) only [go_sem, ↓reduceIte, Nat.reduceEqDiff, reduceCtorEq]) (by simp (disch := first | omega | (simp only [List.length_map, List.length_append, List.length_set, List.length_cons, List.length_nil]; omega)) only [go_sem, ↓reduceIte, Nat.reduceEqDiff, reduceCtorEq])) ?_
  refine Rq ?_
  have tr : ∀ a b c d e f g h i j k m n o p q r s t : AV, let l := lc_table_ok a b c d e f g h i j k m n o p q; trim ((7,t)::(18,s)::(17,r)::l) l = [(0,a),(1,b),(4,c),(5,d),(6,e),(7,t),(8,g),(10,h),(15,i),(20,j),(21,k),(22,m),(30,n),(31,o),(32,p),(33,q)] := by intros; rfl
  refine R_nil (tr ..) ?_; clear tr
  refine then_n ?_
  refine at_seq rfl ?_
  refine at_seq rfl ?_
  refine rg rfl ?_
  refine Rq ?_
  refine Rq ?_
  refine Rq ?_
  have tr : ∀ a b c d e f g h i j k m n o p q r s t : AV, let l := lc_table_ok a b c d e f g h i j k m n o p q; trim ((21,t)::(20,s)::(19,r)::l) l = [(0,a),(1,b),(4,c),(5,d),(6,e),(7,f),(8,g),(10,h),(15,i),(20,s),(21,t),(22,m),(30,n),(31,o),(32,p),(33,q)] := by intros; rfl
  refine R_nil (tr ..) ?_; clear tr
  refine then_n ?_
  refine at_block rfl ?_
  refine loop_n rfl (fun mm kv H' => ∃ i : Nat, ∃ zs : List St, ∃ x8 x22 : AV, (kv = [(8, x8), (21, AV.i (i : Int)), (22, x22)]) ∧ (mm = n.toNat - i) ∧ (H' = H ++ [some (flatZ zs)]) ∧ (i ≤ n.toNat) ∧ (zs.length = n.toNat) ∧ (∀ t, t < n.toNat → gz zs t = if t < i then ⟨t, 0, 0, 0, 0, 0, 0, 0, 0, 0⟩ else z0)) ⟨0, List.replicate n.toNat z0, _, _, rfl, rfl, rfl, by omega, by simp, by exact ini_zero _⟩ (by rfl) ?_
  rintro mm kv H' ⟨i, zs, x8, x22, rfl, rfl, rfl, hi, hz, hg⟩
  have tr : ∀ a b c d e f g h i j k m n o p q r s t : AV, upd [(0,a),(1,b),(4,c),(5,d),(6,e),(7,f),(8,g),(10,h),(15,i),(20,j),(21,k),(22,m),(30,n),(31,o),(32,p),(33,q)] [(8,r),(21,s),(22,t)] = [(0,a),(1,b),(4,c),(5,d),(6,e),(7,f),(8,r),(10,h),(15,i),(20,j),(21,s),(22,t),(30,n),(31,o),(32,p),(33,q)] := by intros; rfl
  refine W_to (tr ..) ?_; clear tr
  refine at_seq rfl ?_
  refine rg rfl ?_
  refine Rq ?_
  have tr : ∀ a b c d e f g h i j k m n o p q r : AV, let l := lc_table_ok a b c d e f g h i j k m n o p q; trim ((22,r)::l) l = [(0,a),(1,b),(4,c),(5,d),(6,e),(7,f),(8,g),(10,h),(15,i),(20,j),(21,k),(22,r),(30,n),(31,o),(32,p),(33,q)] := by intros; rfl
  refine R_nil (tr ..) ?_; clear tr
  refine then_n ?_
  refine at_seq rfl ?_
  refine cdd (fun h2 => ?_) (fun h2 => ?_)
  ·
   try simp only [decide_eq_true_eq, decide_eq_false_iff_not, decide_eq_decide, Bool.not_eq_true', Bool.not_eq_false', beq_iff_eq, beq_eq_false_iff_ne, ne_eq, Bool.and_eq_true, Bool.and_eq_false_iff, decide_not] at h2
   refine at_skip rfl ?_
   refine then_n ?_
   refine at_seq rfl ?_
   refine at_block rfl ?_
   refine at_seq rfl ?_
   refine rg rfl ?_
   refine Rq ?_
   refine Rq ?_
   have tr : ∀ a b c d e f g h i j k m n o p q r s : AV, let l := lc_table_ok a b c d e f g h i j k m n o p q; trim ((8,s)::(23,r)::l) l = [(0,a),(1,b),(4,c),(5,d),(6,e),(7,f),(8,s),(10,h),(15,i),(20,j),(21,k),(22,m),(30,n),(31,o),(32,p),(33,q)] := by intros; rfl
   refine R_nil (tr ..) ?_; clear tr
   refine then_n ?_
   refine rg rfl ?_
   refine Rq ?_
   refine Rq ?_
   refine Rq ?_
   refine Rq ?_
   refine Rq ?_
   refine R_store ty3 (by simp (disch := first | omega | (simp only [List.length_map, List.length_append, List.length_set, List.length_cons, List.length_nil]; omega)) only [go_sem, ↓reduceIte, Nat.reduceEqDiff, reduceCtorEq] <;> rfl) (by simp (disch := first | omega | (simp only [List.length_map, List.length_append, List.length_set, List.length_cons, List.length_nil]; omega)) only [go_sem, ↓reduceIte, Nat.reduceEqDiff, reduceCtorEq] <;> rfl) (k := flatZ zs) (by simp (disch := first | omega | (simp only [List.length_map, List.length_append, List.length_set, List.length_cons, List.length_nil]; omega)) only [go_sem, ↓reduceIte, Nat.reduceEqDiff, reduceCtorEq] <;> rfl) ⟨Nat.le_refl _, rfl, by rw [flatZ_len]; show i * 10 + 1 ≤ _; omega⟩ (k' := flatZ (zs.set i { gz zs i with tm := (i : Int) })) (setz zs i i (by omega)) (by simp (disch := first | omega | (simp only [List.length_map, List.length_append, List.length_set, List.length_cons, List.length_nil]; omega)) only [go_sem, ↓reduceIte, Nat.reduceEqDiff, reduceCtorEq] <;> rfl) ?_
   have tr : ∀ a b c d e f g h i j k m n o p q r s t u v : AV, let l := lc_table_ok a b c d e f g h i j k m n o p q; trim ((28,v)::(27,u)::(26,t)::(25,s)::(24,r)::l) l = [(0,a),(1,b),(4,c),(5,d),(6,e),(7,f),(8,g),(10,h),(15,i),(20,j),(21,k),(22,m),(30,n),(31,o),(32,p),(33,q)] := by intros; rfl
   refine R_nil (tr ..) ?_; clear tr
   refine blk_n ?_
   refine then_n ?_
   refine rg rfl ?_
   refine Rq ?_
   refine Rq ?_
   have tr : ∀ a b c d e f g h i j k m n o p q r s : AV, let l := lc_table_ok a b c d e f g h i j k m n o p q; trim ((21,s)::(29,r)::l) l = [(0,a),(1,b),(4,c),(5,d),(6,e),(7,f),(8,g),(10,h),(15,i),(20,j),(21,s),(22,m),(30,n),(31,o),(32,p),(33,q)] := by intros; rfl
   refine R_nil (tr ..) ?_; clear tr
   refine then_n ?_
   exact ⟨_, _, ⟨i + 1, zs.set i { gz zs i with tm := (i : Int) }, _, _, rfl, rfl, rfl, by omega, by (rw [List.length_set]; exact hz), by exact ini_step hz (by omega) hg⟩, by rfl, by omega⟩
  ·
   try simp only [decide_eq_true_eq, decide_eq_false_iff_not, decide_eq_decide, Bool.not_eq_true', Bool.not_eq_false', beq_iff_eq, beq_eq_false_iff_ne, ne_eq, Bool.and_eq_true, Bool.and_eq_false_iff, decide_not] at h2
   refine at_exit rfl ?_
   refine then_x ?_
   refine then_x ?_
   refine blk_x ?_
   refine then_n ?_
   refine at_seq rfl ?_
   refine at_seq rfl ?_
   refine rg rfl ?_
   refine Rq ?_
   refine Rq ?_
   refine Rq ?_
   have tr : ∀ a b c d e f g h i j k m n o p q r s t : AV, let l := lc_table_ok a b c d e f g h i j k m n o p q; trim ((32,t)::(31,s)::(30,r)::l) l = [(0,a),(1,b),(4,c),(5,d),(6,e),(7,f),(8,g),(10,h),(15,i),(20,j),(21,k),(22,m),(30,r),(31,s),(32,t),(33,q)] := by intros; rfl
   refine R_nil (tr ..) ?_; clear tr
   refine then_n ?_
   refine at_block rfl ?_
   refine loop_n rfl (fun mm kv H' => ∃ u : Nat, ∃ x10 x33 : AV, (kv = [(10, x10), (32, AV.i (u : Int)), (33, x33)]) ∧ (mm = l.length - u) ∧ (hget H' H.length = some (flatZ (stds n.toNat (l.take u)))) ∧ (u ≤ l.length)) ⟨0, _, _, rfl, rfl, by (rw [hget_app]; exact congrArg (fun z => some (flatZ z)) (stds_nil _ l hz (fun t ht => by rw [hg t ht, if_pos (by omega)]))), by omega⟩ (by rfl) ?_
   rintro mm kv HB ⟨u, x10, x33, rfl, rfl, q0, hu⟩
   have tr : ∀ a b c d e f g h i j k m n o p q r s t : AV, upd [(0,a),(1,b),(4,c),(5,d),(6,e),(7,f),(8,g),(10,h),(15,i),(20,j),(21,k),(22,m),(30,n),(31,o),(32,p),(33,q)] [(10,r),(32,s),(33,t)] = [(0,a),(1,b),(4,c),(5,d),(6,e),(7,f),(8,g),(10,r),(15,i),(20,j),(21,k),(22,m),(30,n),(31,o),(32,s),(33,t)] := by intros; rfl
   refine W_to (tr ..) ?_; clear tr
   refine at_seq rfl ?_
   refine rg rfl ?_
   refine Rq ?_
   have tr : ∀ a b c d e f g h i j k m n o p q r : AV, let l := lc_table_ok a b c d e f g h i j k m n o p q; trim ((33,r)::l) l = [(0,a),(1,b),(4,c),(5,d),(6,e),(7,f),(8,g),(10,h),(15,i),(20,j),(21,k),(22,m),(30,n),(31,o),(32,p),(33,r)] := by intros; rfl
   refine R_nil (tr ..) ?_; clear tr
   refine then_n ?_
   refine at_seq rfl ?_
   refine cdd (fun h3 => ?_) (fun h3 => ?_)
   ·
    try simp only [decide_eq_true_eq, decide_eq_false_iff_not, decide_eq_decide, Bool.not_eq_true', Bool.not_eq_false', beq_iff_eq, beq_eq_false_iff_ne, ne_eq, Bool.and_eq_true, Bool.and_eq_false_iff, decide_not] at h3
    refine at_skip rfl ?_
    refine then_n ?_
    refine at_seq rfl ?_
    refine at_block rfl ?_
    refine at_seq rfl ?_
    refine rg rfl ?_
    have hul : u < l.length := by omega
    have hpz := hpl u hul
    have hpp := plE_z hpz
    refine Rq ?_
    refine R_q rfl (by simp (disch := first | omega | (simp only [List.length_map, List.length_append, List.length_set, List.length_cons, List.length_nil]; omega)) only [go_sem, ↓reduceIte, Nat.reduceEqDiff, reduceCtorEq, q0, q5] <;> rfl) ?_
    have lq0 := hget_lt q0
    refine A_alloc rfl ?_
    intro H5 n5
    have en5 := n5.len
    have q0 := (n5.old _ (hget_lt q0)).trans q0
    have q5 := n5.new
    refine A_store ty34 (by simp (disch := first | omega | (simp only [List.length_map, List.length_append, List.length_set, List.length_cons, List.length_nil]; omega)) only [go_sem, ↓reduceIte, Nat.reduceEqDiff, reduceCtorEq] <;> rfl) (by simp (disch := first | omega | (simp only [List.length_map, List.length_append, List.length_set, List.length_cons, List.length_nil]; omega)) only [go_sem, ↓reduceIte, Nat.reduceEqDiff, reduceCtorEq] <;> rfl) q5 ⟨by omega, rfl, Nat.le_refl 8⟩ (k' := plC (gp l u)) rfl ?_
    intro H6 w6
    have q0 := (w6.old _ (by omega)).trans q0
    have q5 := w6.new
    have e6 := w6.len
    have tr : ∀ a b c d e f g h i j k m n o p q r s t : AV, let l := lc_table_ok a b c d e f g h i j k m n o p q; trim ((10,t)::(35,s)::(34,r)::l) l = [(0,a),(1,b),(4,c),(5,d),(6,e),(7,f),(8,g),(10,t),(15,i),(20,j),(21,k),(22,m),(30,n),(31,o),(32,p),(33,q)] := by intros; rfl
    refine R_nil (tr ..) ?_; clear tr
    refine then_n ?_
    refine at_seq rfl ?_
    refine rd rfl rfl ?_
    refine Qq ?_
    refine Qq ?_
    refine Q_q rfl (by simp (disch := first | omega | (simp only [List.length_map, List.length_append, List.length_set, List.length_cons, List.length_nil]; omega)) only [go_sem, ↓reduceIte, Nat.reduceEqDiff, reduceCtorEq, q0, q5] <;> rfl) ?_
    refine Qq ?_
    refine Q_q rfl (by simp (disch := first | omega | (simp only [List.length_map, List.length_append, List.length_set, List.length_cons, List.length_nil]; omega)) only [go_sem, ↓reduceIte, Nat.reduceEqDiff, reduceCtorEq, q0, q5] <;> rfl) ?_
    refine Qq ?_
    refine Q_q rfl (by simp (disch := first | omega | (simp only [List.length_map, List.length_append, List.length_set, List.length_cons, List.length_nil]; omega)) only [go_sem, ↓reduceIte, Nat.reduceEqDiff, reduceCtorEq, q0, q5] <;> rfl) ?_
    refine Qq ?_
    refine Q_q rfl (by simp (disch := first | omega | (simp only [List.length_map, List.length_append, List.length_set, List.length_cons, List.length_nil]; omega)) only [go_sem, ↓reduceIte, Nat.reduceEqDiff, reduceCtorEq, q0, q5] <;> rfl) ?_
    refine Qq ?_
    refine Q_q rfl (by simp (disch := first | omega | (simp only [List.length_map, List.length_append, List.length_set, List.length_cons, List.length_nil]; omega)) only [go_sem, ↓reduceIte, Nat.reduceEqDiff, reduceCtorEq, q0, q5] <;> rfl) ?_
    refine Qq ?_
    refine Q_q rfl (by simp (disch := first | omega | (simp only [List.length_map, List.length_append, List.length_set, List.length_cons, List.length_nil]; omega)) only [go_sem, ↓reduceIte, Nat.reduceEqDiff, reduceCtorEq, q0, q5] <;> rfl) ?_
    refine Q_nil ?_
    refine Rcall ?_
    refine ACall_mono (count2_ok _ _ H.length (stds n.toNat (l.take u)) (gp l u).ho.toNat (by rw [stds_len]; omega) (Nat.le_refl _) q0 u (by omega) (by rw [stds_get (by omega)]; have h9 := stdS_inv hpl (((gp l u).ho.toNat : Nat) : Int) u (by omega); rw [h9.1]; exact h9) (gp l u) (gp l u).hr (gp l u).hb (gp l u).ar (gp l u).ab 1 (by omega) (by omega) (by omega) (by omega) (.inl rfl)) ?_
    rintro _ H7 ⟨rfl, q0, b7⟩
    have q5 := (b7.old _ (by omega) (by omega)).trans q5
    have e7 := b7.len
    have tr : ∀ a b c d e f g h i j k m n o p q r s t u v w x y z A B C D E : AV, let l := lc_table_ok a b c d e f g h i j k m n o p q; trim ((49,E)::(48,D)::(47,C)::(46,B)::(45,A)::(44,z)::(43,y)::(42,x)::(41,w)::(40,v)::(39,u)::(38,t)::(37,s)::(36,r)::l) l = [(0,a),(1,b),(4,c),(5,d),(6,e),(7,f),(8,g),(10,h),(15,i),(20,j),(21,k),(22,m),(30,n),(31,o),(32,p),(33,q)] := by intros; rfl
    refine R_nil (tr ..) ?_; clear tr
    refine then_n ?_
    refine rd rfl rfl ?_
    refine Qq ?_
    refine Qq ?_
    refine Q_q rfl (by simp (disch := first | omega | (simp only [List.length_map, List.length_append, List.length_set, List.length_cons, List.length_nil]; omega)) only [go_sem, ↓reduceIte, Nat.reduceEqDiff, reduceCtorEq, q0, q5] <;> rfl) ?_
    refine Qq ?_
    refine Q_q rfl (by simp (disch := first | omega | (simp only [List.length_map, List.length_append, List.length_set, List.length_cons, List.length_nil]; omega)) only [go_sem, ↓reduceIte, Nat.reduceEqDiff, reduceCtorEq, q0, q5] <;> rfl) ?_
    refine Qq ?_
    refine Q_q rfl (by simp (disch := first | omega | (simp only [List.length_map, List.length_append, List.length_set, List.length_cons, List.length_nil]; omega)) only [go_sem, ↓reduceIte, Nat.reduceEqDiff, reduceCtorEq, q0, q5] <;> rfl) ?_
    refine Qq ?_
    refine Q_q rfl (by simp (disch := first | omega | (simp only [List.length_map, List.length_append, List.length_set, List.length_cons, List.length_nil]; omega)) only [go_sem, ↓reduceIte, Nat.reduceEqDiff, reduceCtorEq, q0, q5] <;> rfl) ?_
    refine Qq ?_
    refine Q_q rfl (by simp (disch := first | omega | (simp only [List.length_map, List.length_append, List.length_set, List.length_cons, List.length_nil]; omega)) only [go_sem, ↓reduceIte, Nat.reduceEqDiff, reduceCtorEq, q0, q5] <;> rfl) ?_
    refine Qq ?_
    refine Q_q rfl (by simp (disch := first | omega | (simp only [List.length_map, List.length_append, List.length_set, List.length_cons, List.length_nil]; omega)) only [go_sem, ↓reduceIte, Nat.reduceEqDiff, reduceCtorEq, q0, q5] <;> rfl) ?_
    refine Q_nil ?_
    refine Rcall ?_
    refine ACall_mono (count2_ok _ _ H.length ((stds n.toNat (l.take u)).set (gp l u).ho.toNat (cnS (gz (stds n.toNat (l.take u)) (gp l u).ho.toNat) (gp l u).wi (gp l u).hr (gp l u).hb (gp l u).ar (gp l u).ab 1)) (gp l u).aw.toNat (by rw [List.length_set, stds_len]; omega) (Nat.le_refl _) q0 u (by omega) (by rw [gz_set (by rw [stds_len]; omega), if_neg (by omega), stds_get (by omega)]; have h9 := stdS_inv hpl (((gp l u).aw.toNat : Nat) : Int) u (by omega); rw [h9.1]; exact h9) (gp l u) (gp l u).ar (gp l u).ab (gp l u).hr (gp l u).hb 2 (by omega) (by omega) (by omega) (by omega) (.inr rfl)) ?_
    rintro _ H8 ⟨rfl, q0, b8⟩
    rw [gz_set (by rw [stds_len]; omega), if_neg (by omega), stds_step (by omega) hul hpz] at q0
    have tr : ∀ a b c d e f g h i j k m n o p q r s t u v w x y z A B C D E : AV, let l := lc_table_ok a b c d e f g h i j k m n o p q; trim ((63,E)::(62,D)::(61,C)::(60,B)::(59,A)::(58,z)::(57,y)::(56,x)::(55,w)::(54,v)::(53,u)::(52,t)::(51,s)::(50,r)::l) l = [(0,a),(1,b),(4,c),(5,d),(6,e),(7,f),(8,g),(10,h),(15,i),(20,j),(21,k),(22,m),(30,n),(31,o),(32,p),(33,q)] := by intros; rfl
    refine R_nil (tr ..) ?_; clear tr
    refine blk_n ?_
    refine then_n ?_
    refine rg rfl ?_
    refine Rq ?_
    refine Rq ?_
    have tr : ∀ a b c d e f g h i j k m n o p q r s : AV, let l := lc_table_ok a b c d e f g h i j k m n o p q; trim ((32,s)::(64,r)::l) l = [(0,a),(1,b),(4,c),(5,d),(6,e),(7,f),(8,g),(10,h),(15,i),(20,j),(21,k),(22,m),(30,n),(31,o),(32,s),(33,q)] := by intros; rfl
    refine R_nil (tr ..) ?_; clear tr
    refine then_n ?_
    exact ⟨_, _, ⟨u + 1, _, _, rfl, rfl, by exact q0, by omega⟩, by rfl, by omega⟩
   ·
    try simp only [decide_eq_true_eq, decide_eq_false_iff_not, decide_eq_decide, Bool.not_eq_true', Bool.not_eq_false', beq_iff_eq, beq_eq_false_iff_ne, ne_eq, Bool.and_eq_true, Bool.and_eq_false_iff, decide_not] at h3
    refine at_exit rfl ?_
    refine then_x ?_
    refine then_x ?_
    refine blk_x ?_
    refine then_n ?_
    refine at_seq rfl ?_
    refine rg rfl ?_
    obtain rfl : u = l.length := by omega
    rw [List.take_length] at q0
    refine Rq ?_
    refine Rcall ?_
    refine ACall_eff (p := sortV) rfl rfl rfl (sort_eff (n := n.toNat) q0 (Nat.le_refl _) (by omega) (stds_len _ _) (by omega) (tab_ok hc).1 (tab_ok hc).2) ?_
    have w9 := MWrote.of HB (flatZ (tbS (stds n.toNat l))) (hget_lt q0)
    have q9 := w9.new
    have tr : ∀ a b c d e f g h i j k m n o p q r s : AV, let l := lc_table_ok a b c d e f g h i j k m n o p q; trim ((66,s)::(65,r)::l) l = [(0,a),(1,b),(4,c),(5,d),(6,e),(7,f),(8,g),(10,h),(15,i),(20,j),(21,k),(22,m),(30,n),(31,o),(32,p),(33,q)] := by intros; rfl
    refine R_nil (tr ..) ?_; clear tr
    refine then_n ?_
    refine at_seq rfl ?_
    refine rg rfl ?_
    refine Rq ?_
    refine Rq ?_
    refine Rq ?_
    have tr : ∀ a b c d e f g h i j k m n o p q r s t : AV, let l := lc_table_ok a b c d e f g h i j k m n o p q; trim ((5,t)::(4,s)::(67,r)::l) l = [(0,a),(1,b),(4,s),(5,t),(6,e),(7,f),(8,g),(10,h),(15,i),(20,j),(21,k),(22,m),(30,n),(31,o),(32,p),(33,q)] := by intros; rfl
    refine R_nil (tr ..) ?_; clear tr
    refine then_n ?_
    refine at_ret rfl ?_
    first | (refine fpure ?_; refine ⟨?_, rfl⟩; rw [tabS_n (by assumption), tbAV_nil] <;> rfl; done) | (refine fin_pure (rs := [.tmp 4, .tmp 5]) rfl (by simp (disch := first | omega | (simp only [List.length_map, List.length_append, List.length_set, List.length_cons, List.length_nil]; omega)) only [go_sem, ↓reduceIte, Nat.reduceEqDiff, reduceCtorEq] <;> rfl) (v := .tup [stsAV (tbS (stds n.toNat l)), AV.i 0]) (by show AV.tup [frz _ _ 7 (.own 10 H.length 0 n.toNat), AV.i 0] = _; rw [frz_ownZ (Nat.lt_irrefl _) q9 (tab_len hc)]) ?_; refine ⟨?_, rfl⟩; rw [tabS_y hc, hc, tbAV_ne (tab_ne hc)])

end Go.Proofs.YtfnapmdedmbdbaaDoor
end
section
set_option linter.unusedVariables false
namespace Go.Proofs.YtfnapmdedmbdbaaDoor
open Go Go.Am
/-! ### The callees that are taken by contract -/
theorem add64_ok (lim : Nat) (H : Heap) (x y c : Int) (h : 0 ≤ x ∧ 0 ≤ y ∧ 0 ≤ c ∧ c ≤ 1) : ACall sig lim 61 [u6 x, u6 y, u6 c] H fun r H' => r = .tup [u6 ((x + y + c) % 18446744073709551616), u6 ((x + y + c) / 18446744073709551616)] ∧ H' = H :=
  ⟨1, _, H, by show Option.map _ (add64V [u6 x, u6 y, u6 c] H) = _; simp only [add64V, if_pos h]; rfl, rfl, rfl⟩
theorem mul64_ok (lim : Nat) (H : Heap) (x y : Int) (h : (0 ≤ x ∧ x ≤ 18446744073709551615) ∧ 0 ≤ y ∧ y ≤ 18446744073709551615) : ACall sig lim 50 [u6 x, u6 y] H fun r H' => r = .tup [u6 (x * y / 18446744073709551616), u6 (x * y % 18446744073709551616)] ∧ H' = H :=
  ⟨1, _, H, by show Option.map _ (mul64V [u6 x, u6 y] H) = _; simp only [mul64V, if_pos h]; rfl, rfl, rfl⟩
end Go.Proofs.YtfnapmdedmbdbaaDoor
end
section
set_option linter.unusedSimpArgs false
set_option linter.unusedVariables false
set_option maxHeartbeats 1000000
set_option maxRecDepth 20000
namespace Go.Proofs.YtfnapmdedmbdbaaDoor
open Go Go.Am
abbrev lc_word_ok (a b c d : AV) : Env := [(0,a),(2,b),(3,c),(5,d)]
theorem word_ok (lim : Nat) (H : Heap) (n : Int) (hn : -9223372036854775808 ≤ n ∧ n ≤ 9223372036854775807) : ACall sig lim 49 [AV.i n] H fun r H' => r = .tup [u6 (ab n), .v (.bool (decide (n < 0)))] ∧ H' = H := by
 refine ACall_pure (fa := fa49) rfl rfl rfl rfl ?_
 have tr : ∀ a0 : AV, env0 fa49.keep [a0] = [(0,a0),(2,.any),(3,.any),(5,.any)] := fun a0 => rfl
 refine W_to (tr _) ?_; clear tr
 refine at_seq rfl ?_
 refine rg rfl ?_
 refine Rq ?_
 refine Rq ?_
 have tr : ∀ a b c d e f : AV, let l := lc_word_ok a b c d; trim ((3,f)::(2,e)::l) l = [(0,a),(2,e),(3,f),(5,d)] := by intros; rfl
 refine R_nil (tr ..) ?_; clear tr
 refine then_n ?_
 refine at_seq rfl ?_
 refine at_seq rfl ?_
 refine rg rfl ?_
 refine Rq ?_
 refine Rq ?_
 have tr : ∀ a b c d e f : AV, let l := lc_word_ok a b c d; trim ((5,f)::(4,e)::l) l = [(0,a),(2,b),(3,c),(5,f)] := by intros; rfl
 refine R_nil (tr ..) ?_; clear tr
 refine then_n ?_
 refine cdd (fun h1 => ?_) (fun h1 => ?_)
 ·
  try simp only [decide_eq_true_eq, decide_eq_false_iff_not, decide_eq_decide, Bool.not_eq_true', Bool.not_eq_false', beq_iff_eq, beq_eq_false_iff_ne, ne_eq, Bool.and_eq_true, Bool.and_eq_false_iff, decide_not] at h1
  refine at_seq rfl ?_
  refine rg rfl ?_
  refine Rq ?_
  refine Rq ?_
  refine Rq ?_
  refine Rq ?_
  refine Rq ?_
  have tr : ∀ a b c d e f g h i : AV, let l := lc_word_ok a b c d; trim ((3,i)::(2,h)::(8,g)::(7,f)::(6,e)::l) l = [(0,a),(2,h),(3,i),(5,d)] := by intros; rfl
  refine R_nil (tr ..) ?_; clear tr
  refine then_n ?_
  refine at_ret rfl ?_
  refine then_r ?_
  refine fpure ?_
  refine ⟨?_, rfl⟩
  first | (rw [ab_neg (by omega)]; exact tup2 (by omega) (by simp; omega)) | (rw [ab_pos (by omega)]; exact tup2 (by omega) (by simp; omega))
 ·
  try simp only [decide_eq_true_eq, decide_eq_false_iff_not, decide_eq_decide, Bool.not_eq_true', Bool.not_eq_false', beq_iff_eq, beq_eq_false_iff_ne, ne_eq, Bool.and_eq_true, Bool.and_eq_false_iff, decide_not] at h1
  refine at_skip rfl ?_
  refine then_n ?_
  refine at_seq rfl ?_
  refine rg rfl ?_
  refine Rq ?_
  refine Rq ?_
  refine Rq ?_
  refine Rq ?_
  have tr : ∀ a b c d e f g h : AV, let l := lc_word_ok a b c d; trim ((3,h)::(2,g)::(10,f)::(9,e)::l) l = [(0,a),(2,g),(3,h),(5,d)] := by intros; rfl
  refine R_nil (tr ..) ?_; clear tr
  refine then_n ?_
  refine at_ret rfl ?_
  refine fpure ?_
  refine ⟨?_, rfl⟩
  first | (rw [ab_neg (by omega)]; exact tup2 (by omega) (by simp; omega)) | (rw [ab_pos (by omega)]; exact tup2 (by omega) (by simp; omega))

abbrev lc_made_ok (a b c d e f g h i : AV) : Env := [(0,a),(1,b),(2,c),(6,d),(7,e),(8,f),(10,g),(12,h),(27,i)]
theorem made_ok (lim : Nat) (H : Heap) (h l : Int) (hh : 0 ≤ h ∧ h ≤ 18446744073709551615) (hl : 0 ≤ l ∧ l ≤ 18446744073709551615) (neg : Bool) : ACall sig lim 51 [u6 h, u6 l, .v (.bool neg)] H fun r H' => r = .tup [wv (fS (sg neg (h * 18446744073709551616 + l))).1, .v (.bool (fS (sg neg (h * 18446744073709551616 + l))).2)] ∧ H' = H := by
 refine ACall_pure (fa := fa51) rfl rfl rfl rfl ?_
 have tr : ∀ a0 a1 a2 : AV, env0 fa51.keep [a0, a1, a2] = [(0,a0),(1,a1),(2,a2),(6,.any),(7,.any),(8,.any),(10,.any),(12,.any),(27,.any)] := fun a0 a1 a2 => rfl
 refine W_to (tr _ _ _) ?_; clear tr
 refine at_seq rfl ?_
 refine rg rfl ?_
 refine R_alloc (by simp (disch := first | omega | (simp only [List.length_map, List.length_append, List.length_set, List.length_cons, List.length_nil]; omega)) only [go_sem, ↓reduceIte, Nat.reduceEqDiff, reduceCtorEq] <;> rfl) rfl (by simp only [List.map_cons, List.map_nil]; rfl) ?_
 refine Rq ?_
 have tr : ∀ a b c d e f g h i j k : AV, let l := lc_made_ok a b c d e f g h i; trim ((7,k)::(6,j)::l) l = [(0,a),(1,b),(2,c),(6,j),(7,k),(8,f),(10,g),(12,h),(27,i)] := by intros; rfl
 refine R_nil (tr ..) ?_; clear tr
 refine then_n ?_
 refine at_seq rfl ?_
 refine at_seq rfl ?_
 refine rg rfl ?_
 refine Rq ?_
 refine Rq ?_
 have tr : ∀ a b c d e f g h i j k : AV, let l := lc_made_ok a b c d e f g h i; trim ((10,k)::(9,j)::l) l = [(0,a),(1,b),(2,c),(6,d),(7,e),(8,f),(10,k),(12,h),(27,i)] := by intros; rfl
 refine R_nil (tr ..) ?_; clear tr
 refine then_n ?_
 refine cdd (fun h1 => ?_) (fun h1 => ?_)
 ·
  try simp only [decide_eq_true_eq, decide_eq_false_iff_not, decide_eq_decide, Bool.not_eq_true', Bool.not_eq_false', beq_iff_eq, beq_eq_false_iff_ne, ne_eq, Bool.and_eq_true, Bool.and_eq_false_iff, decide_not] at h1
  refine at_seq rfl ?_
  refine at_seq rfl ?_
  refine rg rfl ?_
  refine Rq ?_
  refine Rq ?_
  have tr : ∀ a b c d e f g h i j k : AV, let l := lc_made_ok a b c d e f g h i; trim ((12,k)::(11,j)::l) l = [(0,a),(1,b),(2,c),(6,d),(7,e),(8,f),(10,g),(12,k),(27,i)] := by intros; rfl
  refine R_nil (tr ..) ?_; clear tr
  refine then_n ?_
  refine cdd (fun h2 => ?_) (fun h2 => ?_)
  ·
   try simp only [decide_eq_true_eq, decide_eq_false_iff_not, decide_eq_decide, Bool.not_eq_true', Bool.not_eq_false', beq_iff_eq, beq_eq_false_iff_ne, ne_eq, Bool.and_eq_true, Bool.and_eq_false_iff, decide_not] at h2
   refine at_seq rfl ?_
   refine rg rfl ?_
   refine Rq ?_
   refine R_store ty51 (by simp (disch := first | omega | (simp only [List.length_map, List.length_append, List.length_set, List.length_cons, List.length_nil]; omega)) only [go_sem, ↓reduceIte, Nat.reduceEqDiff, reduceCtorEq] <;> rfl) (by simp (disch := first | omega | (simp only [List.length_map, List.length_append, List.length_set, List.length_cons, List.length_nil]; omega)) only [go_sem, ↓reduceIte, Nat.reduceEqDiff, reduceCtorEq] <;> rfl) (by simp (disch := first | omega | (simp only [List.length_map, List.length_append, List.length_set, List.length_cons, List.length_nil]; omega)) only [go_sem, ↓reduceIte, Nat.reduceEqDiff, reduceCtorEq] <;> rfl) (by simp) (by rfl) (by simp (disch := first | omega | (simp only [List.length_map, List.length_append, List.length_set, List.length_cons, List.length_nil]; omega)) only [go_sem, ↓reduceIte, Nat.reduceEqDiff, reduceCtorEq] <;> rfl) ?_
   refine Rq ?_
   have tr : ∀ a b c d e f g h i j k : AV, let l := lc_made_ok a b c d e f g h i; trim ((7,k)::(13,j)::l) l = [(0,a),(1,b),(2,c),(6,d),(7,k),(8,f),(10,g),(12,h),(27,i)] := by intros; rfl
   refine R_nil (tr ..) ?_; clear tr
   refine then_n ?_
   refine at_ret rfl ?_
   refine then_r ?_
   refine then_r ?_
   first | (refine fin_pure (rs := [.cell 6 51, .tmp 7]) rfl (by simp (disch := first | omega | (simp only [List.length_map, List.length_append, List.length_set, List.length_cons, List.length_nil]; omega)) only [go_sem, ↓reduceIte, Nat.reduceEqDiff, reduceCtorEq] <;> rfl) (by simp (disch := first | omega | (simp only [List.length_map, List.length_append, List.length_set, List.length_cons, List.length_nil]; omega)) only [go_sem, ↓reduceIte, Nat.reduceEqDiff, reduceCtorEq] <;> rfl) ?_; refine ⟨?_, rfl⟩; rw [sg_f (by assumption), fS_y (by unfold Fw; omega)]; exact tupW (by omega) (by omega) rfl; done) | (refine fin_pure (rs := [.cell 6 51, .tmp 7]) rfl (by simp (disch := first | omega | (simp only [List.length_map, List.length_append, List.length_set, List.length_cons, List.length_nil]; omega)) only [go_sem, ↓reduceIte, Nat.reduceEqDiff, reduceCtorEq] <;> rfl) (by simp (disch := first | omega | (simp only [List.length_map, List.length_append, List.length_set, List.length_cons, List.length_nil]; omega)) only [go_sem, ↓reduceIte, Nat.reduceEqDiff, reduceCtorEq] <;> rfl) ?_; refine ⟨?_, rfl⟩; rw [sg_f (by assumption), fS_n (by unfold Fw; omega)]; exact tupW (by omega) (by omega) rfl; done) | (refine fin_pure (rs := [.cell 6 51, .tmp 7]) rfl (by simp (disch := first | omega | (simp only [List.length_map, List.length_append, List.length_set, List.length_cons, List.length_nil]; omega)) only [go_sem, ↓reduceIte, Nat.reduceEqDiff, reduceCtorEq] <;> rfl) (by simp (disch := first | omega | (simp only [List.length_map, List.length_append, List.length_set, List.length_cons, List.length_nil]; omega)) only [go_sem, ↓reduceIte, Nat.reduceEqDiff, reduceCtorEq] <;> rfl) ?_; refine ⟨?_, rfl⟩; rw [sg_t (by assumption), fS_y (by unfold Fw; omega)]; exact tupW (by omega) (by omega) rfl; done) | (refine fin_pure (rs := [.cell 6 51, .tmp 7]) rfl (by simp (disch := first | omega | (simp only [List.length_map, List.length_append, List.length_set, List.length_cons, List.length_nil]; omega)) only [go_sem, ↓reduceIte, Nat.reduceEqDiff, reduceCtorEq] <;> rfl) (by simp (disch := first | omega | (simp only [List.length_map, List.length_append, List.length_set, List.length_cons, List.length_nil]; omega)) only [go_sem, ↓reduceIte, Nat.reduceEqDiff, reduceCtorEq] <;> rfl) ?_; refine ⟨?_, rfl⟩; rw [sg_t (by assumption), fS_n (by unfold Fw; omega)]; exact tupW (by omega) (by omega) rfl; done)
  ·
   try simp only [decide_eq_true_eq, decide_eq_false_iff_not, decide_eq_decide, Bool.not_eq_true', Bool.not_eq_false', beq_iff_eq, beq_eq_false_iff_ne, ne_eq, Bool.and_eq_true, Bool.and_eq_false_iff, decide_not] at h2
   refine at_skip rfl ?_
   refine then_n ?_
   refine at_seq rfl ?_
   refine rg rfl ?_
   refine Rq ?_
   refine Rq ?_
   refine Rq ?_
   refine Rq ?_
   refine R_store ty51 (by simp (disch := first | omega | (simp only [List.length_map, List.length_append, List.length_set, List.length_cons, List.length_nil]; omega)) only [go_sem, ↓reduceIte, Nat.reduceEqDiff, reduceCtorEq] <;> rfl) (by simp (disch := first | omega | (simp only [List.length_map, List.length_append, List.length_set, List.length_cons, List.length_nil]; omega)) only [go_sem, ↓reduceIte, Nat.reduceEqDiff, reduceCtorEq] <;> rfl) (by simp (disch := first | omega | (simp only [List.length_map, List.length_append, List.length_set, List.length_cons, List.length_nil]; omega)) only [go_sem, ↓reduceIte, Nat.reduceEqDiff, reduceCtorEq] <;> rfl) (by simp) (by rfl) (by simp (disch := first | omega | (simp only [List.length_map, List.length_append, List.length_set, List.length_cons, List.length_nil]; omega)) only [go_sem, ↓reduceIte, Nat.reduceEqDiff, reduceCtorEq] <;> rfl) ?_
   refine Rq ?_
   have tr : ∀ a b c d e f g h i j k m n o : AV, let l := lc_made_ok a b c d e f g h i; trim ((7,o)::(17,n)::(16,m)::(15,k)::(14,j)::l) l = [(0,a),(1,b),(2,c),(6,d),(7,o),(8,f),(10,g),(12,h),(27,i)] := by intros; rfl
   refine R_nil (tr ..) ?_; clear tr
   refine then_n ?_
   refine at_ret rfl ?_
   refine then_r ?_
   first | (refine fin_pure (rs := [.cell 6 51, .tmp 7]) rfl (by simp (disch := first | omega | (simp only [List.length_map, List.length_append, List.length_set, List.length_cons, List.length_nil]; omega)) only [go_sem, ↓reduceIte, Nat.reduceEqDiff, reduceCtorEq] <;> rfl) (by simp (disch := first | omega | (simp only [List.length_map, List.length_append, List.length_set, List.length_cons, List.length_nil]; omega)) only [go_sem, ↓reduceIte, Nat.reduceEqDiff, reduceCtorEq] <;> rfl) ?_; refine ⟨?_, rfl⟩; rw [sg_f (by assumption), fS_y (by unfold Fw; omega)]; exact tupW (by omega) (by omega) rfl; done) | (refine fin_pure (rs := [.cell 6 51, .tmp 7]) rfl (by simp (disch := first | omega | (simp only [List.length_map, List.length_append, List.length_set, List.length_cons, List.length_nil]; omega)) only [go_sem, ↓reduceIte, Nat.reduceEqDiff, reduceCtorEq] <;> rfl) (by simp (disch := first | omega | (simp only [List.length_map, List.length_append, List.length_set, List.length_cons, List.length_nil]; omega)) only [go_sem, ↓reduceIte, Nat.reduceEqDiff, reduceCtorEq] <;> rfl) ?_; refine ⟨?_, rfl⟩; rw [sg_f (by assumption), fS_n (by unfold Fw; omega)]; exact tupW (by omega) (by omega) rfl; done) | (refine fin_pure (rs := [.cell 6 51, .tmp 7]) rfl (by simp (disch := first | omega | (simp only [List.length_map, List.length_append, List.length_set, List.length_cons, List.length_nil]; omega)) only [go_sem, ↓reduceIte, Nat.reduceEqDiff, reduceCtorEq] <;> rfl) (by simp (disch := first | omega | (simp only [List.length_map, List.length_append, List.length_set, List.length_cons, List.length_nil]; omega)) only [go_sem, ↓reduceIte, Nat.reduceEqDiff, reduceCtorEq] <;> rfl) ?_; refine ⟨?_, rfl⟩; rw [sg_t (by assumption), fS_y (by unfold Fw; omega)]; exact tupW (by omega) (by omega) rfl; done) | (refine fin_pure (rs := [.cell 6 51, .tmp 7]) rfl (by simp (disch := first | omega | (simp only [List.length_map, List.length_append, List.length_set, List.length_cons, List.length_nil]; omega)) only [go_sem, ↓reduceIte, Nat.reduceEqDiff, reduceCtorEq] <;> rfl) (by simp (disch := first | omega | (simp only [List.length_map, List.length_append, List.length_set, List.length_cons, List.length_nil]; omega)) only [go_sem, ↓reduceIte, Nat.reduceEqDiff, reduceCtorEq] <;> rfl) ?_; refine ⟨?_, rfl⟩; rw [sg_t (by assumption), fS_n (by unfold Fw; omega)]; exact tupW (by omega) (by omega) rfl; done)
 ·
  try simp only [decide_eq_true_eq, decide_eq_false_iff_not, decide_eq_decide, Bool.not_eq_true', Bool.not_eq_false', beq_iff_eq, beq_eq_false_iff_ne, ne_eq, Bool.and_eq_true, Bool.and_eq_false_iff, decide_not] at h1
  refine at_skip rfl ?_
  refine then_n ?_
  refine at_seq rfl ?_
  refine at_seq rfl ?_
  refine rg rfl ?_
  refine Rq ?_
  refine Rq ?_
  refine Rq ?_
  refine Rp_split (fun h3 => ?_) (fun h3 => ?_)
  ·
   try simp only [decide_eq_true_eq, decide_eq_false_iff_not, decide_eq_decide, Bool.not_eq_true', Bool.not_eq_false', beq_iff_eq, beq_eq_false_iff_ne, ne_eq, Bool.and_eq_true, Bool.and_eq_false_iff, decide_not] at h3
   refine Rn ?_
   refine Rn ?_
   refine Rn ?_
   refine Ru ?_
   refine Ru ?_
   refine Rn ?_
   refine Rq ?_
   have tr : ∀ a b c d e f g h i j k m n o p q r s t : AV, let l := lc_made_ok a b c d e f g h i; trim ((27,t)::(26,s)::(25,r)::(24,q)::(23,p)::(22,o)::(21,n)::(20,m)::(19,k)::(18,j)::l) l = [(0,a),(1,b),(2,c),(6,d),(7,e),(8,f),(10,g),(12,h),(27,t)] := by intros; rfl
   refine R_nil (tr ..) ?_; clear tr
   refine then_n ?_
   refine cdt ?_
   refine at_seq rfl ?_
   refine rg rfl ?_
   refine Rq ?_
   refine R_store ty51 (by simp (disch := first | omega | (simp only [List.length_map, List.length_append, List.length_set, List.length_cons, List.length_nil]; omega)) only [go_sem, ↓reduceIte, Nat.reduceEqDiff, reduceCtorEq] <;> rfl) (by simp (disch := first | omega | (simp only [List.length_map, List.length_append, List.length_set, List.length_cons, List.length_nil]; omega)) only [go_sem, ↓reduceIte, Nat.reduceEqDiff, reduceCtorEq] <;> rfl) (by simp (disch := first | omega | (simp only [List.length_map, List.length_append, List.length_set, List.length_cons, List.length_nil]; omega)) only [go_sem, ↓reduceIte, Nat.reduceEqDiff, reduceCtorEq] <;> rfl) (by simp) (by rfl) (by simp (disch := first | omega | (simp only [List.length_map, List.length_append, List.length_set, List.length_cons, List.length_nil]; omega)) only [go_sem, ↓reduceIte, Nat.reduceEqDiff, reduceCtorEq] <;> rfl) ?_
   refine Rq ?_
   have tr : ∀ a b c d e f g h i j k : AV, let l := lc_made_ok a b c d e f g h i; trim ((7,k)::(28,j)::l) l = [(0,a),(1,b),(2,c),(6,d),(7,k),(8,f),(10,g),(12,h),(27,i)] := by intros; rfl
   refine R_nil (tr ..) ?_; clear tr
   refine then_n ?_
   refine at_ret rfl ?_
   refine then_r ?_
   first | (refine fin_pure (rs := [.cell 6 51, .tmp 7]) rfl (by simp (disch := first | omega | (simp only [List.length_map, List.length_append, List.length_set, List.length_cons, List.length_nil]; omega)) only [go_sem, ↓reduceIte, Nat.reduceEqDiff, reduceCtorEq] <;> rfl) (by simp (disch := first | omega | (simp only [List.length_map, List.length_append, List.length_set, List.length_cons, List.length_nil]; omega)) only [go_sem, ↓reduceIte, Nat.reduceEqDiff, reduceCtorEq] <;> rfl) ?_; refine ⟨?_, rfl⟩; rw [sg_f (by assumption), fS_y (by unfold Fw; omega)]; exact tupW (by omega) (by omega) rfl; done) | (refine fin_pure (rs := [.cell 6 51, .tmp 7]) rfl (by simp (disch := first | omega | (simp only [List.length_map, List.length_append, List.length_set, List.length_cons, List.length_nil]; omega)) only [go_sem, ↓reduceIte, Nat.reduceEqDiff, reduceCtorEq] <;> rfl) (by simp (disch := first | omega | (simp only [List.length_map, List.length_append, List.length_set, List.length_cons, List.length_nil]; omega)) only [go_sem, ↓reduceIte, Nat.reduceEqDiff, reduceCtorEq] <;> rfl) ?_; refine ⟨?_, rfl⟩; rw [sg_f (by assumption), fS_n (by unfold Fw; omega)]; exact tupW (by omega) (by omega) rfl; done) | (refine fin_pure (rs := [.cell 6 51, .tmp 7]) rfl (by simp (disch := first | omega | (simp only [List.length_map, List.length_append, List.length_set, List.length_cons, List.length_nil]; omega)) only [go_sem, ↓reduceIte, Nat.reduceEqDiff, reduceCtorEq] <;> rfl) (by simp (disch := first | omega | (simp only [List.length_map, List.length_append, List.length_set, List.length_cons, List.length_nil]; omega)) only [go_sem, ↓reduceIte, Nat.reduceEqDiff, reduceCtorEq] <;> rfl) ?_; refine ⟨?_, rfl⟩; rw [sg_t (by assumption), fS_y (by unfold Fw; omega)]; exact tupW (by omega) (by omega) rfl; done) | (refine fin_pure (rs := [.cell 6 51, .tmp 7]) rfl (by simp (disch := first | omega | (simp only [List.length_map, List.length_append, List.length_set, List.length_cons, List.length_nil]; omega)) only [go_sem, ↓reduceIte, Nat.reduceEqDiff, reduceCtorEq] <;> rfl) (by simp (disch := first | omega | (simp only [List.length_map, List.length_append, List.length_set, List.length_cons, List.length_nil]; omega)) only [go_sem, ↓reduceIte, Nat.reduceEqDiff, reduceCtorEq] <;> rfl) ?_; refine ⟨?_, rfl⟩; rw [sg_t (by assumption), fS_n (by unfold Fw; omega)]; exact tupW (by omega) (by omega) rfl; done)
  ·
   try simp only [decide_eq_true_eq, decide_eq_false_iff_not, decide_eq_decide, Bool.not_eq_true', Bool.not_eq_false', beq_iff_eq, beq_eq_false_iff_ne, ne_eq, Bool.and_eq_true, Bool.and_eq_false_iff, decide_not] at h3
   refine Ry ?_
   refine Rq ?_
   refine Ry ?_
   refine Rq ?_
   refine Ry ?_
   refine Rq ?_
   refine Rp_split (fun h4 => ?_) (fun h4 => ?_)
   ·
    try simp only [decide_eq_true_eq, decide_eq_false_iff_not, decide_eq_decide, Bool.not_eq_true', Bool.not_eq_false', beq_iff_eq, beq_eq_false_iff_ne, ne_eq, Bool.and_eq_true, Bool.and_eq_false_iff, decide_not] at h4
    refine Ry ?_
    refine Rq ?_
    refine Ry ?_
    refine Rq ?_
    refine Ry ?_
    refine Rq ?_
    refine Rq ?_
    have tr : ∀ a b c d e f g h i j k m n o p q r s t : AV, let l := lc_made_ok a b c d e f g h i; trim ((27,t)::(26,s)::(25,r)::(24,q)::(23,p)::(22,o)::(21,n)::(20,m)::(19,k)::(18,j)::l) l = [(0,a),(1,b),(2,c),(6,d),(7,e),(8,f),(10,g),(12,h),(27,t)] := by intros; rfl
    refine R_nil (tr ..) ?_; clear tr
    refine then_n ?_
    refine cdd (fun h5 => ?_) (fun h5 => ?_)
    ·
     try simp only [decide_eq_true_eq, decide_eq_false_iff_not, decide_eq_decide, Bool.not_eq_true', Bool.not_eq_false', beq_iff_eq, beq_eq_false_iff_ne, ne_eq, Bool.and_eq_true, Bool.and_eq_false_iff, decide_not] at h5
     refine at_seq rfl ?_
     refine rg rfl ?_
     refine Rq ?_
     refine R_store ty51 (by simp (disch := first | omega | (simp only [List.length_map, List.length_append, List.length_set, List.length_cons, List.length_nil]; omega)) only [go_sem, ↓reduceIte, Nat.reduceEqDiff, reduceCtorEq] <;> rfl) (by simp (disch := first | omega | (simp only [List.length_map, List.length_append, List.length_set, List.length_cons, List.length_nil]; omega)) only [go_sem, ↓reduceIte, Nat.reduceEqDiff, reduceCtorEq] <;> rfl) (by simp (disch := first | omega | (simp only [List.length_map, List.length_append, List.length_set, List.length_cons, List.length_nil]; omega)) only [go_sem, ↓reduceIte, Nat.reduceEqDiff, reduceCtorEq] <;> rfl) (by simp) (by rfl) (by simp (disch := first | omega | (simp only [List.length_map, List.length_append, List.length_set, List.length_cons, List.length_nil]; omega)) only [go_sem, ↓reduceIte, Nat.reduceEqDiff, reduceCtorEq] <;> rfl) ?_
     refine Rq ?_
     have tr : ∀ a b c d e f g h i j k : AV, let l := lc_made_ok a b c d e f g h i; trim ((7,k)::(28,j)::l) l = [(0,a),(1,b),(2,c),(6,d),(7,k),(8,f),(10,g),(12,h),(27,i)] := by intros; rfl
     refine R_nil (tr ..) ?_; clear tr
     refine then_n ?_
     refine at_ret rfl ?_
     refine then_r ?_
     first | (refine fin_pure (rs := [.cell 6 51, .tmp 7]) rfl (by simp (disch := first | omega | (simp only [List.length_map, List.length_append, List.length_set, List.length_cons, List.length_nil]; omega)) only [go_sem, ↓reduceIte, Nat.reduceEqDiff, reduceCtorEq] <;> rfl) (by simp (disch := first | omega | (simp only [List.length_map, List.length_append, List.length_set, List.length_cons, List.length_nil]; omega)) only [go_sem, ↓reduceIte, Nat.reduceEqDiff, reduceCtorEq] <;> rfl) ?_; refine ⟨?_, rfl⟩; rw [sg_f (by assumption), fS_y (by unfold Fw; omega)]; exact tupW (by omega) (by omega) rfl; done) | (refine fin_pure (rs := [.cell 6 51, .tmp 7]) rfl (by simp (disch := first | omega | (simp only [List.length_map, List.length_append, List.length_set, List.length_cons, List.length_nil]; omega)) only [go_sem, ↓reduceIte, Nat.reduceEqDiff, reduceCtorEq] <;> rfl) (by simp (disch := first | omega | (simp only [List.length_map, List.length_append, List.length_set, List.length_cons, List.length_nil]; omega)) only [go_sem, ↓reduceIte, Nat.reduceEqDiff, reduceCtorEq] <;> rfl) ?_; refine ⟨?_, rfl⟩; rw [sg_f (by assumption), fS_n (by unfold Fw; omega)]; exact tupW (by omega) (by omega) rfl; done) | (refine fin_pure (rs := [.cell 6 51, .tmp 7]) rfl (by simp (disch := first | omega | (simp only [List.length_map, List.length_append, List.length_set, List.length_cons, List.length_nil]; omega)) only [go_sem, ↓reduceIte, Nat.reduceEqDiff, reduceCtorEq] <;> rfl) (by simp (disch := first | omega | (simp only [List.length_map, List.length_append, List.length_set, List.length_cons, List.length_nil]; omega)) only [go_sem, ↓reduceIte, Nat.reduceEqDiff, reduceCtorEq] <;> rfl) ?_; refine ⟨?_, rfl⟩; rw [sg_t (by assumption), fS_y (by unfold Fw; omega)]; exact tupW (by omega) (by omega) rfl; done) | (refine fin_pure (rs := [.cell 6 51, .tmp 7]) rfl (by simp (disch := first | omega | (simp only [List.length_map, List.length_append, List.length_set, List.length_cons, List.length_nil]; omega)) only [go_sem, ↓reduceIte, Nat.reduceEqDiff, reduceCtorEq] <;> rfl) (by simp (disch := first | omega | (simp only [List.length_map, List.length_append, List.length_set, List.length_cons, List.length_nil]; omega)) only [go_sem, ↓reduceIte, Nat.reduceEqDiff, reduceCtorEq] <;> rfl) ?_; refine ⟨?_, rfl⟩; rw [sg_t (by assumption), fS_n (by unfold Fw; omega)]; exact tupW (by omega) (by omega) rfl; done)
    ·
     try simp only [decide_eq_true_eq, decide_eq_false_iff_not, decide_eq_decide, Bool.not_eq_true', Bool.not_eq_false', beq_iff_eq, beq_eq_false_iff_ne, ne_eq, Bool.and_eq_true, Bool.and_eq_false_iff, decide_not] at h5
     refine at_skip rfl ?_
     refine then_n ?_
     refine at_seq rfl ?_
     refine rg rfl ?_
     refine Rq ?_
     refine Rq ?_
     refine Rcall ?_
     refine ACall_eq (add64_ok _ _ _ _ _ (by omega)) ?_
     refine Rq ?_
     refine Rq ?_
     refine Rq ?_
     refine Rq ?_
     refine Rq ?_
     have tr : ∀ a b c d e f g h i j k m n o p q r : AV, let l := lc_made_ok a b c d e f g h i; trim ((8,r)::(1,q)::(34,p)::(33,o)::(29,n)::(32,m)::(31,k)::(30,j)::l) l = [(0,a),(1,q),(2,c),(6,d),(7,e),(8,r),(10,g),(12,h),(27,i)] := by intros; rfl
     refine R_nil (tr ..) ?_; clear tr
     refine then_n ?_
     refine at_seq rfl ?_
     refine rg rfl ?_
     refine Rq ?_
     refine Rq ?_
     refine Rq ?_
     refine Rcall ?_
     refine ACall_eq (add64_ok _ _ _ _ _ (by omega)) ?_
     refine Rq ?_
     refine Rq ?_
     refine Rq ?_
     refine Rq ?_
     have tr : ∀ a b c d e f g h i j k m n o p q r : AV, let l := lc_made_ok a b c d e f g h i; trim ((0,r)::(41,q)::(40,p)::(35,o)::(39,n)::(38,m)::(37,k)::(36,j)::l) l = [(0,r),(1,b),(2,c),(6,d),(7,e),(8,f),(10,g),(12,h),(27,i)] := by intros; rfl
     refine R_nil (tr ..) ?_; clear tr
     refine then_n ?_
     refine at_seq rfl ?_
     refine rg rfl ?_
     refine Rq ?_
     refine Rq ?_
     refine Rq ?_
     refine Rq ?_
     refine R_store ty51 (by simp (disch := first | omega | (simp only [List.length_map, List.length_append, List.length_set, List.length_cons, List.length_nil]; omega)) only [go_sem, ↓reduceIte, Nat.reduceEqDiff, reduceCtorEq] <;> rfl) (by simp (disch := first | omega | (simp only [List.length_map, List.length_append, List.length_set, List.length_cons, List.length_nil]; omega)) only [go_sem, ↓reduceIte, Nat.reduceEqDiff, reduceCtorEq] <;> rfl) (by simp (disch := first | omega | (simp only [List.length_map, List.length_append, List.length_set, List.length_cons, List.length_nil]; omega)) only [go_sem, ↓reduceIte, Nat.reduceEqDiff, reduceCtorEq] <;> rfl) (by simp) (by rfl) (by simp (disch := first | omega | (simp only [List.length_map, List.length_append, List.length_set, List.length_cons, List.length_nil]; omega)) only [go_sem, ↓reduceIte, Nat.reduceEqDiff, reduceCtorEq] <;> rfl) ?_
     refine Rq ?_
     have tr : ∀ a b c d e f g h i j k m n o : AV, let l := lc_made_ok a b c d e f g h i; trim ((7,o)::(45,n)::(44,m)::(43,k)::(42,j)::l) l = [(0,a),(1,b),(2,c),(6,d),(7,o),(8,f),(10,g),(12,h),(27,i)] := by intros; rfl
     refine R_nil (tr ..) ?_; clear tr
     refine then_n ?_
     refine at_ret rfl ?_
     first | (refine fin_pure (rs := [.cell 6 51, .tmp 7]) rfl (by simp (disch := first | omega | (simp only [List.length_map, List.length_append, List.length_set, List.length_cons, List.length_nil]; omega)) only [go_sem, ↓reduceIte, Nat.reduceEqDiff, reduceCtorEq] <;> rfl) (by simp (disch := first | omega | (simp only [List.length_map, List.length_append, List.length_set, List.length_cons, List.length_nil]; omega)) only [go_sem, ↓reduceIte, Nat.reduceEqDiff, reduceCtorEq] <;> rfl) ?_; refine ⟨?_, rfl⟩; rw [sg_f (by assumption), fS_y (by unfold Fw; omega)]; exact tupW (by omega) (by omega) rfl; done) | (refine fin_pure (rs := [.cell 6 51, .tmp 7]) rfl (by simp (disch := first | omega | (simp only [List.length_map, List.length_append, List.length_set, List.length_cons, List.length_nil]; omega)) only [go_sem, ↓reduceIte, Nat.reduceEqDiff, reduceCtorEq] <;> rfl) (by simp (disch := first | omega | (simp only [List.length_map, List.length_append, List.length_set, List.length_cons, List.length_nil]; omega)) only [go_sem, ↓reduceIte, Nat.reduceEqDiff, reduceCtorEq] <;> rfl) ?_; refine ⟨?_, rfl⟩; rw [sg_f (by assumption), fS_n (by unfold Fw; omega)]; exact tupW (by omega) (by omega) rfl; done) | (refine fin_pure (rs := [.cell 6 51, .tmp 7]) rfl (by simp (disch := first | omega | (simp only [List.length_map, List.length_append, List.length_set, List.length_cons, List.length_nil]; omega)) only [go_sem, ↓reduceIte, Nat.reduceEqDiff, reduceCtorEq] <;> rfl) (by simp (disch := first | omega | (simp only [List.length_map, List.length_append, List.length_set, List.length_cons, List.length_nil]; omega)) only [go_sem, ↓reduceIte, Nat.reduceEqDiff, reduceCtorEq] <;> rfl) ?_; refine ⟨?_, rfl⟩; rw [sg_t (by assumption), fS_y (by unfold Fw; omega)]; exact tupW (by omega) (by omega) rfl; done) | (refine fin_pure (rs := [.cell 6 51, .tmp 7]) rfl (by simp (disch := first | omega | (simp only [List.length_map, List.length_append, List.length_set, List.length_cons, List.length_nil]; omega)) only [go_sem, ↓reduceIte, Nat.reduceEqDiff, reduceCtorEq] <;> rfl) (by simp (disch := first | omega | (simp only [List.length_map, List.length_append, List.length_set, List.length_cons, List.length_nil]; omega)) only [go_sem, ↓reduceIte, Nat.reduceEqDiff, reduceCtorEq] <;> rfl) ?_; refine ⟨?_, rfl⟩; rw [sg_t (by assumption), fS_n (by unfold Fw; omega)]; exact tupW (by omega) (by omega) rfl; done)
   ·
    try simp only [decide_eq_true_eq, decide_eq_false_iff_not, decide_eq_decide, Bool.not_eq_true', Bool.not_eq_false', beq_iff_eq, beq_eq_false_iff_ne, ne_eq, Bool.and_eq_true, Bool.and_eq_false_iff, decide_not] at h4
    refine Rn ?_
    refine Rn ?_
    refine Ry ?_
    refine Rq ?_
    refine Rq ?_
    have tr : ∀ a b c d e f g h i j k m n o p q r s t : AV, let l := lc_made_ok a b c d e f g h i; trim ((27,t)::(26,s)::(25,r)::(24,q)::(23,p)::(22,o)::(21,n)::(20,m)::(19,k)::(18,j)::l) l = [(0,a),(1,b),(2,c),(6,d),(7,e),(8,f),(10,g),(12,h),(27,t)] := by intros; rfl
    refine R_nil (tr ..) ?_; clear tr
    refine then_n ?_
    refine cdf ?_
    refine at_skip rfl ?_
    refine then_n ?_
    refine at_seq rfl ?_
    refine rg rfl ?_
    refine Rq ?_
    refine Rq ?_
    refine Rcall ?_
    refine ACall_eq (add64_ok _ _ _ _ _ (by omega)) ?_
    refine Rq ?_
    refine Rq ?_
    refine Rq ?_
    refine Rq ?_
    refine Rq ?_
    have tr : ∀ a b c d e f g h i j k m n o p q r : AV, let l := lc_made_ok a b c d e f g h i; trim ((8,r)::(1,q)::(34,p)::(33,o)::(29,n)::(32,m)::(31,k)::(30,j)::l) l = [(0,a),(1,q),(2,c),(6,d),(7,e),(8,r),(10,g),(12,h),(27,i)] := by intros; rfl
    refine R_nil (tr ..) ?_; clear tr
    refine then_n ?_
    refine at_seq rfl ?_
    refine rg rfl ?_
    refine Rq ?_
    refine Rq ?_
    refine Rq ?_
    refine Rcall ?_
    refine ACall_eq (add64_ok _ _ _ _ _ (by omega)) ?_
    refine Rq ?_
    refine Rq ?_
    refine Rq ?_
    refine Rq ?_
    have tr : ∀ a b c d e f g h i j k m n o p q r : AV, let l := lc_made_ok a b c d e f g h i; trim ((0,r)::(41,q)::(40,p)::(35,o)::(39,n)::(38,m)::(37,k)::(36,j)::l) l = [(0,r),(1,b),(2,c),(6,d),(7,e),(8,f),(10,g),(12,h),(27,i)] := by intros; rfl
    refine R_nil (tr ..) ?_; clear tr
    refine then_n ?_
    refine at_seq rfl ?_
    refine rg rfl ?_
    refine Rq ?_
    refine Rq ?_
    refine Rq ?_
    refine Rq ?_
    refine R_store ty51 (by simp (disch := first | omega | (simp only [List.length_map, List.length_append, List.length_set, List.length_cons, List.length_nil]; omega)) only [go_sem, ↓reduceIte, Nat.reduceEqDiff, reduceCtorEq] <;> rfl) (by simp (disch := first | omega | (simp only [List.length_map, List.length_append, List.length_set, List.length_cons, List.length_nil]; omega)) only [go_sem, ↓reduceIte, Nat.reduceEqDiff, reduceCtorEq] <;> rfl) (by simp (disch := first | omega | (simp only [List.length_map, List.length_append, List.length_set, List.length_cons, List.length_nil]; omega)) only [go_sem, ↓reduceIte, Nat.reduceEqDiff, reduceCtorEq] <;> rfl) (by simp) (by rfl) (by simp (disch := first | omega | (simp only [List.length_map, List.length_append, List.length_set, List.length_cons, List.length_nil]; omega)) only [go_sem, ↓reduceIte, Nat.reduceEqDiff, reduceCtorEq] <;> rfl) ?_
    refine Rq ?_
    have tr : ∀ a b c d e f g h i j k m n o : AV, let l := lc_made_ok a b c d e f g h i; trim ((7,o)::(45,n)::(44,m)::(43,k)::(42,j)::l) l = [(0,a),(1,b),(2,c),(6,d),(7,o),(8,f),(10,g),(12,h),(27,i)] := by intros; rfl
    refine R_nil (tr ..) ?_; clear tr
    refine then_n ?_
    refine at_ret rfl ?_
    first | (refine fin_pure (rs := [.cell 6 51, .tmp 7]) rfl (by simp (disch := first | omega | (simp only [List.length_map, List.length_append, List.length_set, List.length_cons, List.length_nil]; omega)) only [go_sem, ↓reduceIte, Nat.reduceEqDiff, reduceCtorEq] <;> rfl) (by simp (disch := first | omega | (simp only [List.length_map, List.length_append, List.length_set, List.length_cons, List.length_nil]; omega)) only [go_sem, ↓reduceIte, Nat.reduceEqDiff, reduceCtorEq] <;> rfl) ?_; refine ⟨?_, rfl⟩; rw [sg_f (by assumption), fS_y (by unfold Fw; omega)]; exact tupW (by omega) (by omega) rfl; done) | (refine fin_pure (rs := [.cell 6 51, .tmp 7]) rfl (by simp (disch := first | omega | (simp only [List.length_map, List.length_append, List.length_set, List.length_cons, List.length_nil]; omega)) only [go_sem, ↓reduceIte, Nat.reduceEqDiff, reduceCtorEq] <;> rfl) (by simp (disch := first | omega | (simp only [List.length_map, List.length_append, List.length_set, List.length_cons, List.length_nil]; omega)) only [go_sem, ↓reduceIte, Nat.reduceEqDiff, reduceCtorEq] <;> rfl) ?_; refine ⟨?_, rfl⟩; rw [sg_f (by assumption), fS_n (by unfold Fw; omega)]; exact tupW (by omega) (by omega) rfl; done) | (refine fin_pure (rs := [.cell 6 51, .tmp 7]) rfl (by simp (disch := first | omega | (simp only [List.length_map, List.length_append, List.length_set, List.length_cons, List.length_nil]; omega)) only [go_sem, ↓reduceIte, Nat.reduceEqDiff, reduceCtorEq] <;> rfl) (by simp (disch := first | omega | (simp only [List.length_map, List.length_append, List.length_set, List.length_cons, List.length_nil]; omega)) only [go_sem, ↓reduceIte, Nat.reduceEqDiff, reduceCtorEq] <;> rfl) ?_; refine ⟨?_, rfl⟩; rw [sg_t (by assumption), fS_y (by unfold Fw; omega)]; exact tupW (by omega) (by omega) rfl; done) | (refine fin_pure (rs := [.cell 6 51, .tmp 7]) rfl (by simp (disch := first | omega | (simp only [List.length_map, List.length_append, List.length_set, List.length_cons, List.length_nil]; omega)) only [go_sem, ↓reduceIte, Nat.reduceEqDiff, reduceCtorEq] <;> rfl) (by simp (disch := first | omega | (simp only [List.length_map, List.length_append, List.length_set, List.length_cons, List.length_nil]; omega)) only [go_sem, ↓reduceIte, Nat.reduceEqDiff, reduceCtorEq] <;> rfl) ?_; refine ⟨?_, rfl⟩; rw [sg_t (by assumption), fS_n (by unfold Fw; omega)]; exact tupW (by omega) (by omega) rfl; done)

abbrev lc_cmp_ok (a b c d e f g : AV) : Env := [(0,a),(1,b),(2,c),(3,d),(4,e),(5,f),(25,g)]
theorem cmp_ok (lim : Nat) (H : Heap) (x : Int) (hx : Fw x) (y : Int) (hy : Fw y) : ACall sig lim 27 [wv x, wv y] H fun r H' => r = AV.i (cmpS x y) ∧ H' = H := by
 have fx := hx
 unfold Fw at fx
 have fy := hy
 unfold Fw at fy
 refine ACall_pure (fa := fa27) rfl rfl rfl rfl ?_
 have tr : ∀ a0 a1 : AV, env0 fa27.keep [a0, a1] = [(0,a0),(1,a1),(2,.any),(3,.any),(4,.any),(5,.any),(25,.any)] := fun a0 a1 => rfl
 refine W_to (tr _ _) ?_; clear tr
 refine at_seq rfl ?_
 refine rg rfl ?_
 refine R_box rfl (by simp (disch := first | omega | (simp only [List.length_map, List.length_append, List.length_set, List.length_cons, List.length_nil]; omega)) only [go_sem, ↓reduceIte, Nat.reduceEqDiff, reduceCtorEq] <;> rfl) rfl rfl ?_
 refine R_box rfl (by simp (disch := first | omega | (simp only [List.length_map, List.length_append, List.length_set, List.length_cons, List.length_nil]; omega)) only [go_sem, ↓reduceIte, Nat.reduceEqDiff, reduceCtorEq] <;> rfl) rfl rfl ?_
 refine Rq ?_
 have tr : ∀ a b c d e f g h i j : AV, let l := lc_cmp_ok a b c d e f g; trim ((4,j)::(3,i)::(2,h)::l) l = [(0,a),(1,b),(2,h),(3,i),(4,j),(5,f),(25,g)] := by intros; rfl
 refine R_nil (tr ..) ?_; clear tr
 refine then_n ?_
 refine at_seq rfl ?_
 refine at_block rfl ?_
 refine at_seq rfl ?_
 refine rg rfl ?_
 refine Rq ?_
 refine Rq ?_
 refine Rq ?_
 refine Rq ?_
 refine Rq ?_
 refine Rq ?_
 refine Rp_split (fun h1 => ?_) (fun h1 => ?_)
 ·
  try simp only [decide_eq_true_eq, decide_eq_false_iff_not, decide_eq_decide, Bool.not_eq_true', Bool.not_eq_false', beq_iff_eq, beq_eq_false_iff_ne, ne_eq, Bool.and_eq_true, Bool.and_eq_false_iff, decide_not] at h1
  refine Rn ?_
  refine Rn ?_
  refine Rn ?_
  refine Rn ?_
  refine Rn ?_
  refine Rn ?_
  refine Ru ?_
  refine Ru ?_
  refine Ru ?_
  refine Ru ?_
  refine Ru ?_
  refine Rn ?_
  refine Rq ?_
  refine Rq ?_
  have tr : ∀ a b c d e f g h i j k m n o p q r s t u v w x y z A B : AV, let l := lc_cmp_ok a b c d e f g; trim ((5,B)::(24,A)::(23,z)::(22,y)::(21,x)::(20,w)::(19,v)::(18,u)::(17,t)::(16,s)::(15,r)::(14,q)::(13,p)::(12,o)::(11,n)::(10,m)::(9,k)::(8,j)::(7,i)::(6,h)::l) l = [(0,a),(1,b),(2,c),(3,d),(4,e),(5,B),(25,g)] := by intros; rfl
  refine R_nil (tr ..) ?_; clear tr
  refine then_n ?_
  refine cdt ?_
  refine at_seq rfl ?_
  refine rg rfl ?_
  refine Rq ?_
  have tr : ∀ a b c d e f g h : AV, let l := lc_cmp_ok a b c d e f g; trim ((4,h)::l) l = [(0,a),(1,b),(2,c),(3,d),(4,h),(5,f),(25,g)] := by intros; rfl
  refine R_nil (tr ..) ?_; clear tr
  refine then_n ?_
  refine at_ret rfl ?_
  refine blk_r ?_
  refine then_r ?_
  first | (refine fpure ?_; refine ⟨?_, rfl⟩; rw [cmpS, if_pos (by omega)]; done) | (refine fpure ?_; refine ⟨?_, rfl⟩; rw [cmpS, if_neg (by omega), if_pos (by omega)]; done) | (refine fpure ?_; refine ⟨?_, rfl⟩; rw [cmpS, if_neg (by omega), if_neg (by omega)]; done)
 ·
  try simp only [decide_eq_true_eq, decide_eq_false_iff_not, decide_eq_decide, Bool.not_eq_true', Bool.not_eq_false', beq_iff_eq, beq_eq_false_iff_ne, ne_eq, Bool.and_eq_true, Bool.and_eq_false_iff, decide_not] at h1
  refine Ry ?_
  refine Rq ?_
  refine Ry ?_
  refine Rq ?_
  refine Ry ?_
  refine Rq ?_
  refine Ry ?_
  refine Rq ?_
  refine Ry ?_
  refine Rq ?_
  refine Ry ?_
  refine Rq ?_
  refine Rp_split (fun h2 => ?_) (fun h2 => ?_)
  ·
   try simp only [decide_eq_true_eq, decide_eq_false_iff_not, decide_eq_decide, Bool.not_eq_true', Bool.not_eq_false', beq_iff_eq, beq_eq_false_iff_ne, ne_eq, Bool.and_eq_true, Bool.and_eq_false_iff, decide_not] at h2
   refine Ry ?_
   refine Rq ?_
   refine Ry ?_
   refine Rq ?_
   refine Ry ?_
   refine Rq ?_
   refine Ry ?_
   refine Rq ?_
   refine Ry ?_
   refine Rq ?_
   refine Ry ?_
   refine Rq ?_
   refine Rq ?_
   refine Rq ?_
   have tr : ∀ a b c d e f g h i j k m n o p q r s t u v w x y z A B : AV, let l := lc_cmp_ok a b c d e f g; trim ((5,B)::(24,A)::(23,z)::(22,y)::(21,x)::(20,w)::(19,v)::(18,u)::(17,t)::(16,s)::(15,r)::(14,q)::(13,p)::(12,o)::(11,n)::(10,m)::(9,k)::(8,j)::(7,i)::(6,h)::l) l = [(0,a),(1,b),(2,c),(3,d),(4,e),(5,B),(25,g)] := by intros; rfl
   refine R_nil (tr ..) ?_; clear tr
   refine then_n ?_
   refine cdd (fun h3 => ?_) (fun h3 => ?_)
   ·
    try simp only [decide_eq_true_eq, decide_eq_false_iff_not, decide_eq_decide, Bool.not_eq_true', Bool.not_eq_false', beq_iff_eq, beq_eq_false_iff_ne, ne_eq, Bool.and_eq_true, Bool.and_eq_false_iff, decide_not] at h3
    refine at_seq rfl ?_
    refine rg rfl ?_
    refine Rq ?_
    have tr : ∀ a b c d e f g h : AV, let l := lc_cmp_ok a b c d e f g; trim ((4,h)::l) l = [(0,a),(1,b),(2,c),(3,d),(4,h),(5,f),(25,g)] := by intros; rfl
    refine R_nil (tr ..) ?_; clear tr
    refine then_n ?_
    refine at_ret rfl ?_
    refine blk_r ?_
    refine then_r ?_
    first | (refine fpure ?_; refine ⟨?_, rfl⟩; rw [cmpS, if_pos (by omega)]; done) | (refine fpure ?_; refine ⟨?_, rfl⟩; rw [cmpS, if_neg (by omega), if_pos (by omega)]; done) | (refine fpure ?_; refine ⟨?_, rfl⟩; rw [cmpS, if_neg (by omega), if_neg (by omega)]; done)
   ·
    try simp only [decide_eq_true_eq, decide_eq_false_iff_not, decide_eq_decide, Bool.not_eq_true', Bool.not_eq_false', beq_iff_eq, beq_eq_false_iff_ne, ne_eq, Bool.and_eq_true, Bool.and_eq_false_iff, decide_not] at h3
    refine at_seq rfl ?_
    refine rg rfl ?_
    refine Rq ?_
    refine Rq ?_
    refine Rq ?_
    refine Rq ?_
    have tr : ∀ a b c d e f g h i j k : AV, let l := lc_cmp_ok a b c d e f g; trim ((25,k)::(28,j)::(27,i)::(26,h)::l) l = [(0,a),(1,b),(2,c),(3,d),(4,e),(5,f),(25,k)] := by intros; rfl
    refine R_nil (tr ..) ?_; clear tr
    refine then_n ?_
    refine cdd (fun h4 => ?_) (fun h4 => ?_)
    ·
     try simp only [decide_eq_true_eq, decide_eq_false_iff_not, decide_eq_decide, Bool.not_eq_true', Bool.not_eq_false', beq_iff_eq, beq_eq_false_iff_ne, ne_eq, Bool.and_eq_true, Bool.and_eq_false_iff, decide_not] at h4
     refine at_seq rfl ?_
     refine rg rfl ?_
     refine Rq ?_
     have tr : ∀ a b c d e f g h : AV, let l := lc_cmp_ok a b c d e f g; trim ((4,h)::l) l = [(0,a),(1,b),(2,c),(3,d),(4,h),(5,f),(25,g)] := by intros; rfl
     refine R_nil (tr ..) ?_; clear tr
     refine then_n ?_
     refine at_ret rfl ?_
     refine blk_r ?_
     refine then_r ?_
     first | (refine fpure ?_; refine ⟨?_, rfl⟩; rw [cmpS, if_pos (by omega)]; done) | (refine fpure ?_; refine ⟨?_, rfl⟩; rw [cmpS, if_neg (by omega), if_pos (by omega)]; done) | (refine fpure ?_; refine ⟨?_, rfl⟩; rw [cmpS, if_neg (by omega), if_neg (by omega)]; done)
    ·
     try simp only [decide_eq_true_eq, decide_eq_false_iff_not, decide_eq_decide, Bool.not_eq_true', Bool.not_eq_false', beq_iff_eq, beq_eq_false_iff_ne, ne_eq, Bool.and_eq_true, Bool.and_eq_false_iff, decide_not] at h4
     refine at_skip rfl ?_
     refine blk_n ?_
     refine then_n ?_
     refine at_seq rfl ?_
     refine rg rfl ?_
     refine Rq ?_
     have tr : ∀ a b c d e f g h : AV, let l := lc_cmp_ok a b c d e f g; trim ((4,h)::l) l = [(0,a),(1,b),(2,c),(3,d),(4,h),(5,f),(25,g)] := by intros; rfl
     refine R_nil (tr ..) ?_; clear tr
     refine then_n ?_
     refine at_ret rfl ?_
     first | (refine fpure ?_; refine ⟨?_, rfl⟩; rw [cmpS, if_pos (by omega)]; done) | (refine fpure ?_; refine ⟨?_, rfl⟩; rw [cmpS, if_neg (by omega), if_pos (by omega)]; done) | (refine fpure ?_; refine ⟨?_, rfl⟩; rw [cmpS, if_neg (by omega), if_neg (by omega)]; done)
  ·
   try simp only [decide_eq_true_eq, decide_eq_false_iff_not, decide_eq_decide, Bool.not_eq_true', Bool.not_eq_false', beq_iff_eq, beq_eq_false_iff_ne, ne_eq, Bool.and_eq_true, Bool.and_eq_false_iff, decide_not] at h2
   refine Rn ?_
   refine Rn ?_
   refine Rn ?_
   refine Rn ?_
   refine Rn ?_
   refine Ry ?_
   refine Rq ?_
   refine Rq ?_
   refine Rq ?_
   have tr : ∀ a b c d e f g h i j k m n o p q r s t u v w x y z A B : AV, let l := lc_cmp_ok a b c d e f g; trim ((5,B)::(24,A)::(23,z)::(22,y)::(21,x)::(20,w)::(19,v)::(18,u)::(17,t)::(16,s)::(15,r)::(14,q)::(13,p)::(12,o)::(11,n)::(10,m)::(9,k)::(8,j)::(7,i)::(6,h)::l) l = [(0,a),(1,b),(2,c),(3,d),(4,e),(5,B),(25,g)] := by intros; rfl
   refine R_nil (tr ..) ?_; clear tr
   refine then_n ?_
   refine cdf ?_
   refine at_seq rfl ?_
   refine rg rfl ?_
   refine Rq ?_
   refine Rq ?_
   refine Rq ?_
   refine Rq ?_
   have tr : ∀ a b c d e f g h i j k : AV, let l := lc_cmp_ok a b c d e f g; trim ((25,k)::(28,j)::(27,i)::(26,h)::l) l = [(0,a),(1,b),(2,c),(3,d),(4,e),(5,f),(25,k)] := by intros; rfl
   refine R_nil (tr ..) ?_; clear tr
   refine then_n ?_
   refine cdd (fun h5 => ?_) (fun h5 => ?_)
   ·
    try simp only [decide_eq_true_eq, decide_eq_false_iff_not, decide_eq_decide, Bool.not_eq_true', Bool.not_eq_false', beq_iff_eq, beq_eq_false_iff_ne, ne_eq, Bool.and_eq_true, Bool.and_eq_false_iff, decide_not] at h5
    refine at_seq rfl ?_
    refine rg rfl ?_
    refine Rq ?_
    have tr : ∀ a b c d e f g h : AV, let l := lc_cmp_ok a b c d e f g; trim ((4,h)::l) l = [(0,a),(1,b),(2,c),(3,d),(4,h),(5,f),(25,g)] := by intros; rfl
    refine R_nil (tr ..) ?_; clear tr
    refine then_n ?_
    refine at_ret rfl ?_
    refine blk_r ?_
    refine then_r ?_
    first | (refine fpure ?_; refine ⟨?_, rfl⟩; rw [cmpS, if_pos (by omega)]; done) | (refine fpure ?_; refine ⟨?_, rfl⟩; rw [cmpS, if_neg (by omega), if_pos (by omega)]; done) | (refine fpure ?_; refine ⟨?_, rfl⟩; rw [cmpS, if_neg (by omega), if_neg (by omega)]; done)
   ·
    try simp only [decide_eq_true_eq, decide_eq_false_iff_not, decide_eq_decide, Bool.not_eq_true', Bool.not_eq_false', beq_iff_eq, beq_eq_false_iff_ne, ne_eq, Bool.and_eq_true, Bool.and_eq_false_iff, decide_not] at h5
    refine at_skip rfl ?_
    refine blk_n ?_
    refine then_n ?_
    refine at_seq rfl ?_
    refine rg rfl ?_
    refine Rq ?_
    have tr : ∀ a b c d e f g h : AV, let l := lc_cmp_ok a b c d e f g; trim ((4,h)::l) l = [(0,a),(1,b),(2,c),(3,d),(4,h),(5,f),(25,g)] := by intros; rfl
    refine R_nil (tr ..) ?_; clear tr
    refine then_n ?_
    refine at_ret rfl ?_
    first | (refine fpure ?_; refine ⟨?_, rfl⟩; rw [cmpS, if_pos (by omega)]; done) | (refine fpure ?_; refine ⟨?_, rfl⟩; rw [cmpS, if_neg (by omega), if_pos (by omega)]; done) | (refine fpure ?_; refine ⟨?_, rfl⟩; rw [cmpS, if_neg (by omega), if_neg (by omega)]; done)

abbrev lc_rcmp_ok (a b c d e f g : AV) : Env := [(0,a),(1,b),(2,c),(3,d),(4,e),(7,f),(26,g)]
theorem rcmp_ok (lim : Nat) (H : Heap) (x : Int) (hx : Fw x) (y : Int) (hy : Fw y) : ACall sig lim 31 [wv x, wv y] H fun r H' => r = AV.i (cmpS x y) ∧ H' = H := by
 have fx := hx
 unfold Fw at fx
 have fy := hy
 unfold Fw at fy
 refine ACall_pure (fa := fa31) rfl rfl rfl rfl ?_
 have tr : ∀ a0 a1 : AV, env0 fa31.keep [a0, a1] = [(0,a0),(1,a1),(2,.any),(3,.any),(4,.any),(7,.any),(26,.any)] := fun a0 a1 => rfl
 refine W_to (tr _ _) ?_; clear tr
 refine at_seq rfl ?_
 refine rg rfl ?_
 refine R_box rfl (by simp (disch := first | omega | (simp only [List.length_map, List.length_append, List.length_set, List.length_cons, List.length_nil]; omega)) only [go_sem, ↓reduceIte, Nat.reduceEqDiff, reduceCtorEq] <;> rfl) rfl rfl ?_
 refine R_box rfl (by simp (disch := first | omega | (simp only [List.length_map, List.length_append, List.length_set, List.length_cons, List.length_nil]; omega)) only [go_sem, ↓reduceIte, Nat.reduceEqDiff, reduceCtorEq] <;> rfl) rfl rfl ?_
 refine Rq ?_
 have tr : ∀ a b c d e f g h i j : AV, let l := lc_rcmp_ok a b c d e f g; trim ((4,j)::(3,i)::(2,h)::l) l = [(0,a),(1,b),(2,h),(3,i),(4,j),(7,f),(26,g)] := by intros; rfl
 refine R_nil (tr ..) ?_; clear tr
 refine then_n ?_
 refine at_seq rfl ?_
 refine at_seq rfl ?_
 refine rg rfl ?_
 refine Rq ?_
 refine Rq ?_
 refine Rq ?_
 have tr : ∀ a b c d e f g h i j : AV, let l := lc_rcmp_ok a b c d e f g; trim ((7,j)::(6,i)::(5,h)::l) l = [(0,a),(1,b),(2,c),(3,d),(4,e),(7,j),(26,g)] := by intros; rfl
 refine R_nil (tr ..) ?_; clear tr
 refine then_n ?_
 refine cdd (fun h1 => ?_) (fun h1 => ?_)
 ·
  try simp only [decide_eq_true_eq, decide_eq_false_iff_not, decide_eq_decide, Bool.not_eq_true', Bool.not_eq_false', beq_iff_eq, beq_eq_false_iff_ne, ne_eq, Bool.and_eq_true, Bool.and_eq_false_iff, decide_not] at h1
  refine at_seq rfl ?_
  refine rg rfl ?_
  refine Rq ?_
  have tr : ∀ a b c d e f g h : AV, let l := lc_rcmp_ok a b c d e f g; trim ((4,h)::l) l = [(0,a),(1,b),(2,c),(3,d),(4,h),(7,f),(26,g)] := by intros; rfl
  refine R_nil (tr ..) ?_; clear tr
  refine then_n ?_
  refine at_ret rfl ?_
  refine then_r ?_
  first | (refine fpure ?_; refine ⟨?_, rfl⟩; rw [cmpS, if_pos (by omega)]; done) | (refine fpure ?_; refine ⟨?_, rfl⟩; rw [cmpS, if_neg (by omega), if_pos (by omega)]; done) | (refine fpure ?_; refine ⟨?_, rfl⟩; rw [cmpS, if_neg (by omega), if_neg (by omega)]; done)
 ·
  try simp only [decide_eq_true_eq, decide_eq_false_iff_not, decide_eq_decide, Bool.not_eq_true', Bool.not_eq_false', beq_iff_eq, beq_eq_false_iff_ne, ne_eq, Bool.and_eq_true, Bool.and_eq_false_iff, decide_not] at h1
  refine at_skip rfl ?_
  refine then_n ?_
  refine at_seq rfl ?_
  refine at_seq rfl ?_
  refine rg rfl ?_
  refine Rq ?_
  refine Rq ?_
  refine Rq ?_
  refine Rq ?_
  refine Rq ?_
  refine Rq ?_
  refine Rp_split (fun h2 => ?_) (fun h2 => ?_)
  ·
   try simp only [decide_eq_true_eq, decide_eq_false_iff_not, decide_eq_decide, Bool.not_eq_true', Bool.not_eq_false', beq_iff_eq, beq_eq_false_iff_ne, ne_eq, Bool.and_eq_true, Bool.and_eq_false_iff, decide_not] at h2
   refine Rn ?_
   refine Rn ?_
   refine Rn ?_
   refine Rn ?_
   refine Rn ?_
   refine Rn ?_
   refine Ru ?_
   refine Ru ?_
   refine Ru ?_
   refine Ru ?_
   refine Ru ?_
   refine Rn ?_
   refine Rq ?_
   have tr : ∀ a b c d e f g h i j k m n o p q r s t u v w x y z A : AV, let l := lc_rcmp_ok a b c d e f g; trim ((26,A)::(25,z)::(24,y)::(23,x)::(22,w)::(21,v)::(20,u)::(19,t)::(18,s)::(17,r)::(16,q)::(15,p)::(14,o)::(13,n)::(12,m)::(11,k)::(10,j)::(9,i)::(8,h)::l) l = [(0,a),(1,b),(2,c),(3,d),(4,e),(7,f),(26,A)] := by intros; rfl
   refine R_nil (tr ..) ?_; clear tr
   refine then_n ?_
   refine cdt ?_
   refine at_seq rfl ?_
   refine rg rfl ?_
   refine Rq ?_
   have tr : ∀ a b c d e f g h : AV, let l := lc_rcmp_ok a b c d e f g; trim ((4,h)::l) l = [(0,a),(1,b),(2,c),(3,d),(4,h),(7,f),(26,g)] := by intros; rfl
   refine R_nil (tr ..) ?_; clear tr
   refine then_n ?_
   refine at_ret rfl ?_
   refine then_r ?_
   first | (refine fpure ?_; refine ⟨?_, rfl⟩; rw [cmpS, if_pos (by omega)]; done) | (refine fpure ?_; refine ⟨?_, rfl⟩; rw [cmpS, if_neg (by omega), if_pos (by omega)]; done) | (refine fpure ?_; refine ⟨?_, rfl⟩; rw [cmpS, if_neg (by omega), if_neg (by omega)]; done)
  ·
   try simp only [decide_eq_true_eq, decide_eq_false_iff_not, decide_eq_decide, Bool.not_eq_true', Bool.not_eq_false', beq_iff_eq, beq_eq_false_iff_ne, ne_eq, Bool.and_eq_true, Bool.and_eq_false_iff, decide_not] at h2
   refine Ry ?_
   refine Rq ?_
   refine Ry ?_
   refine Rq ?_
   refine Ry ?_
   refine Rq ?_
   refine Ry ?_
   refine Rq ?_
   refine Ry ?_
   refine Rq ?_
   refine Ry ?_
   refine Rq ?_
   refine Rp_split (fun h3 => ?_) (fun h3 => ?_)
   ·
    try simp only [decide_eq_true_eq, decide_eq_false_iff_not, decide_eq_decide, Bool.not_eq_true', Bool.not_eq_false', beq_iff_eq, beq_eq_false_iff_ne, ne_eq, Bool.and_eq_true, Bool.and_eq_false_iff, decide_not] at h3
    refine Ry ?_
    refine Rq ?_
    refine Ry ?_
    refine Rq ?_
    refine Ry ?_
    refine Rq ?_
    refine Ry ?_
    refine Rq ?_
    refine Ry ?_
    refine Rq ?_
    refine Ry ?_
    refine Rq ?_
    refine Rq ?_
    have tr : ∀ a b c d e f g h i j k m n o p q r s t u v w x y z A : AV, let l := lc_rcmp_ok a b c d e f g; trim ((26,A)::(25,z)::(24,y)::(23,x)::(22,w)::(21,v)::(20,u)::(19,t)::(18,s)::(17,r)::(16,q)::(15,p)::(14,o)::(13,n)::(12,m)::(11,k)::(10,j)::(9,i)::(8,h)::l) l = [(0,a),(1,b),(2,c),(3,d),(4,e),(7,f),(26,A)] := by intros; rfl
    refine R_nil (tr ..) ?_; clear tr
    refine then_n ?_
    refine cdd (fun h4 => ?_) (fun h4 => ?_)
    ·
     try simp only [decide_eq_true_eq, decide_eq_false_iff_not, decide_eq_decide, Bool.not_eq_true', Bool.not_eq_false', beq_iff_eq, beq_eq_false_iff_ne, ne_eq, Bool.and_eq_true, Bool.and_eq_false_iff, decide_not] at h4
     refine at_seq rfl ?_
     refine rg rfl ?_
     refine Rq ?_
     have tr : ∀ a b c d e f g h : AV, let l := lc_rcmp_ok a b c d e f g; trim ((4,h)::l) l = [(0,a),(1,b),(2,c),(3,d),(4,h),(7,f),(26,g)] := by intros; rfl
     refine R_nil (tr ..) ?_; clear tr
     refine then_n ?_
     refine at_ret rfl ?_
     refine then_r ?_
     first | (refine fpure ?_; refine ⟨?_, rfl⟩; rw [cmpS, if_pos (by omega)]; done) | (refine fpure ?_; refine ⟨?_, rfl⟩; rw [cmpS, if_neg (by omega), if_pos (by omega)]; done) | (refine fpure ?_; refine ⟨?_, rfl⟩; rw [cmpS, if_neg (by omega), if_neg (by omega)]; done)
    ·
     try simp only [decide_eq_true_eq, decide_eq_false_iff_not, decide_eq_decide, Bool.not_eq_true', Bool.not_eq_false', beq_iff_eq, beq_eq_false_iff_ne, ne_eq, Bool.and_eq_true, Bool.and_eq_false_iff, decide_not] at h4
     refine at_skip rfl ?_
     refine then_n ?_
     refine at_seq rfl ?_
     refine rg rfl ?_
     refine Rq ?_
     have tr : ∀ a b c d e f g h : AV, let l := lc_rcmp_ok a b c d e f g; trim ((4,h)::l) l = [(0,a),(1,b),(2,c),(3,d),(4,h),(7,f),(26,g)] := by intros; rfl
     refine R_nil (tr ..) ?_; clear tr
     refine then_n ?_
     refine at_ret rfl ?_
     first | (refine fpure ?_; refine ⟨?_, rfl⟩; rw [cmpS, if_pos (by omega)]; done) | (refine fpure ?_; refine ⟨?_, rfl⟩; rw [cmpS, if_neg (by omega), if_pos (by omega)]; done) | (refine fpure ?_; refine ⟨?_, rfl⟩; rw [cmpS, if_neg (by omega), if_neg (by omega)]; done)
   ·
    try simp only [decide_eq_true_eq, decide_eq_false_iff_not, decide_eq_decide, Bool.not_eq_true', Bool.not_eq_false', beq_iff_eq, beq_eq_false_iff_ne, ne_eq, Bool.and_eq_true, Bool.and_eq_false_iff, decide_not] at h3
    refine Rn ?_
    refine Rn ?_
    refine Rn ?_
    refine Rn ?_
    refine Rn ?_
    refine Ry ?_
    refine Rq ?_
    refine Rq ?_
    have tr : ∀ a b c d e f g h i j k m n o p q r s t u v w x y z A : AV, let l := lc_rcmp_ok a b c d e f g; trim ((26,A)::(25,z)::(24,y)::(23,x)::(22,w)::(21,v)::(20,u)::(19,t)::(18,s)::(17,r)::(16,q)::(15,p)::(14,o)::(13,n)::(12,m)::(11,k)::(10,j)::(9,i)::(8,h)::l) l = [(0,a),(1,b),(2,c),(3,d),(4,e),(7,f),(26,A)] := by intros; rfl
    refine R_nil (tr ..) ?_; clear tr
    refine then_n ?_
    refine cdf ?_
    refine at_skip rfl ?_
    refine then_n ?_
    refine at_seq rfl ?_
    refine rg rfl ?_
    refine Rq ?_
    have tr : ∀ a b c d e f g h : AV, let l := lc_rcmp_ok a b c d e f g; trim ((4,h)::l) l = [(0,a),(1,b),(2,c),(3,d),(4,h),(7,f),(26,g)] := by intros; rfl
    refine R_nil (tr ..) ?_; clear tr
    refine then_n ?_
    refine at_ret rfl ?_
    first | (refine fpure ?_; refine ⟨?_, rfl⟩; rw [cmpS, if_pos (by omega)]; done) | (refine fpure ?_; refine ⟨?_, rfl⟩; rw [cmpS, if_neg (by omega), if_pos (by omega)]; done) | (refine fpure ?_; refine ⟨?_, rfl⟩; rw [cmpS, if_neg (by omega), if_neg (by omega)]; done)

abbrev lc_mul_ok (a b c d e f g h i j : AV) : Env := [(0,a),(1,b),(4,c),(5,d),(6,e),(7,f),(8,g),(9,h),(10,i),(11,j)]
theorem mul_ok (lim : Nat) (H : Heap) (a : Int) (ha : -9223372036854775808 ≤ a ∧ a ≤ 9223372036854775807) (b : Int) (hb : -9223372036854775808 ≤ b ∧ b ≤ 9223372036854775807) : ACall sig lim 28 [AV.i a, AV.i b] H fun r H' => r = wv (a * b) ∧ H' = H := by
 have har := ab_rng a
 have hbr := ab_rng b
 have hp := mul_pos' (ab_rng a) (ab_rng b)
 have ha1 := ab_le ha
 have hb1 := ab_le hb
 have hq := mul_le' (ab_rng a) ha1 (ab_rng b) hb1
 refine ACall_pure (fa := fa28) rfl rfl rfl rfl ?_
 have tr : ∀ a0 a1 : AV, env0 fa28.keep [a0, a1] = [(0,a0),(1,a1),(4,.any),(5,.any),(6,.any),(7,.any),(8,.any),(9,.any),(10,.any),(11,.any)] := fun a0 a1 => rfl
 refine W_to (tr _ _) ?_; clear tr
 refine at_seq rfl ?_
 refine rg rfl ?_
 refine R_alloc (by simp (disch := first | omega | (simp only [List.length_map, List.length_append, List.length_set, List.length_cons, List.length_nil]; omega)) only [go_sem, ↓reduceIte, Nat.reduceEqDiff, reduceCtorEq] <;> rfl) rfl (by simp only [List.map_cons, List.map_nil]; rfl) ?_
 have tr : ∀ a b c d e f g h i j k : AV, let l := lc_mul_ok a b c d e f g h i j; trim ((4,k)::l) l = [(0,a),(1,b),(4,k),(5,d),(6,e),(7,f),(8,g),(9,h),(10,i),(11,j)] := by intros; rfl
 refine R_nil (tr ..) ?_; clear tr
 refine then_n ?_
 refine at_seq rfl ?_
 refine rg rfl ?_
 refine Rq ?_
 refine Rcall ?_
 refine ACall_eq (word_ok _ _ _ (by omega)) ?_
 refine Rq ?_
 refine Rq ?_
 refine Rq ?_
 refine Rq ?_
 refine Rq ?_
 have tr : ∀ a b c d e f g h i j k m n o p q r : AV, let l := lc_mul_ok a b c d e f g h i j; trim ((6,r)::(5,q)::(17,p)::(16,o)::(13,n)::(15,m)::(14,k)::l) l = [(0,a),(1,b),(4,c),(5,q),(6,r),(7,f),(8,g),(9,h),(10,i),(11,j)] := by intros; rfl
 refine R_nil (tr ..) ?_; clear tr
 refine then_n ?_
 refine at_seq rfl ?_
 refine rg rfl ?_
 refine Rq ?_
 refine Rcall ?_
 refine ACall_eq (word_ok _ _ _ (by omega)) ?_
 refine Rq ?_
 refine Rq ?_
 refine Rq ?_
 refine Rq ?_
 refine Rq ?_
 have tr : ∀ a b c d e f g h i j k m n o p q r : AV, let l := lc_mul_ok a b c d e f g h i j; trim ((8,r)::(7,q)::(22,p)::(21,o)::(18,n)::(20,m)::(19,k)::l) l = [(0,a),(1,b),(4,c),(5,d),(6,e),(7,q),(8,r),(9,h),(10,i),(11,j)] := by intros; rfl
 refine R_nil (tr ..) ?_; clear tr
 refine then_n ?_
 refine at_seq rfl ?_
 refine rg rfl ?_
 refine Rq ?_
 refine Rq ?_
 refine Rcall ?_
 refine ACall_eq (mul64_ok _ _ _ _ (by omega)) ?_
 refine Rq ?_
 refine Rq ?_
 refine Rq ?_
 refine Rq ?_
 refine Rq ?_
 have tr : ∀ a b c d e f g h i j k m n o p q r s : AV, let l := lc_mul_ok a b c d e f g h i j; trim ((10,s)::(9,r)::(28,q)::(27,p)::(23,o)::(26,n)::(25,m)::(24,k)::l) l = [(0,a),(1,b),(4,c),(5,d),(6,e),(7,f),(8,g),(9,r),(10,s),(11,j)] := by intros; rfl
 refine R_nil (tr ..) ?_; clear tr
 refine then_n ?_
 refine at_seq rfl ?_
 refine rg rfl ?_
 refine Rq ?_
 refine Rq ?_
 refine Rq ?_
 refine Rq ?_
 refine Rq ?_
 refine Rcall ?_
 obtain ⟨P, hP⟩ : ∃ P, P = ab a * ab b := ⟨_, rfl⟩
 rw [← hP] at hp hq ⊢
 refine ACall_eq (made_ok _ _ _ _ (by omega) (by omega) _) ?_
 have hm : sg (!(decide (a < 0) == decide (b < 0))) (P / 18446744073709551616 * 18446744073709551616 + P % 18446744073709551616) = a * b := by
   rw [show P / 18446744073709551616 * 18446744073709551616 + P % 18446744073709551616 = ab a * ab b by omega]; exact ab_mul a b
 rw [hm, fS_y (show Fw (a * b) from ab_fit ha hb)]
 refine Rq ?_
 refine Rq ?_
 refine Rq ?_
 refine R_alloc (by simp (disch := first | omega | (simp only [List.length_map, List.length_append, List.length_set, List.length_cons, List.length_nil]; omega)) only [go_sem, ↓reduceIte, Nat.reduceEqDiff, reduceCtorEq] <;> rfl) rfl (by simp only [List.map_cons, List.map_nil]; rfl) ?_
 refine R_store ty51 (by simp (disch := first | omega | (simp only [List.length_map, List.length_append, List.length_set, List.length_cons, List.length_nil]; omega)) only [go_sem, ↓reduceIte, Nat.reduceEqDiff, reduceCtorEq] <;> rfl) (by simp (disch := first | omega | (simp only [List.length_map, List.length_append, List.length_set, List.length_cons, List.length_nil]; omega)) only [go_sem, ↓reduceIte, Nat.reduceEqDiff, reduceCtorEq] <;> rfl) (by simp (disch := first | omega | (simp only [List.length_map, List.length_append, List.length_set, List.length_cons, List.length_nil]; omega)) only [go_sem, ↓reduceIte, Nat.reduceEqDiff, reduceCtorEq] <;> rfl) (by simp) (by rfl) (by simp (disch := first | omega | (simp only [List.length_map, List.length_append, List.length_set, List.length_cons, List.length_nil]; omega)) only [go_sem, ↓reduceIte, Nat.reduceEqDiff, reduceCtorEq] <;> rfl) ?_
 refine Rq ?_
 have tr : ∀ a b c d e f g h i j k m n o p q r s t u v : AV, let l := lc_mul_ok a b c d e f g h i j; trim ((12,v)::(11,u)::(37,t)::(36,s)::(29,r)::(35,q)::(34,p)::(33,o)::(32,n)::(31,m)::(30,k)::l) l = [(0,a),(1,b),(4,c),(5,d),(6,e),(7,f),(8,g),(9,h),(10,i),(11,u)] := by intros; rfl
 refine R_nil (tr ..) ?_; clear tr
 refine then_n ?_
 refine at_seq rfl ?_
 refine rg rfl ?_
 refine Rq ?_
 refine R_store ty51 (by simp (disch := first | omega | (simp only [List.length_map, List.length_append, List.length_set, List.length_cons, List.length_nil]; omega)) only [go_sem, ↓reduceIte, Nat.reduceEqDiff, reduceCtorEq] <;> rfl) (by simp (disch := first | omega | (simp only [List.length_map, List.length_append, List.length_set, List.length_cons, List.length_nil]; omega)) only [go_sem, ↓reduceIte, Nat.reduceEqDiff, reduceCtorEq] <;> rfl) (by simp (disch := first | omega | (simp only [List.length_map, List.length_append, List.length_set, List.length_cons, List.length_nil]; omega)) only [go_sem, ↓reduceIte, Nat.reduceEqDiff, reduceCtorEq] <;> rfl) (by simp) (by rfl) (by simp (disch := first | omega | (simp only [List.length_map, List.length_append, List.length_set, List.length_cons, List.length_nil]; omega)) only [go_sem, ↓reduceIte, Nat.reduceEqDiff, reduceCtorEq] <;> rfl) ?_
 have tr : ∀ a b c d e f g h i j k : AV, let l := lc_mul_ok a b c d e f g h i j; trim ((38,k)::l) l = [(0,a),(1,b),(4,c),(5,d),(6,e),(7,f),(8,g),(9,h),(10,i),(11,j)] := by intros; rfl
 refine R_nil (tr ..) ?_; clear tr
 refine then_n ?_
 refine at_ret rfl ?_
 refine fin_pure (rs := [.cell 4 51]) rfl (by simp (disch := first | omega | (simp only [List.length_map, List.length_append, List.length_set, List.length_cons, List.length_nil]; omega)) only [go_sem, ↓reduceIte, Nat.reduceEqDiff, reduceCtorEq] <;> rfl) (by simp (disch := first | omega | (simp only [List.length_map, List.length_append, List.length_set, List.length_cons, List.length_nil]; omega)) only [go_sem, ↓reduceIte, Nat.reduceEqDiff, reduceCtorEq] <;> rfl) ?_
 refine ⟨?_, rfl⟩
 rfl

end Go.Proofs.YtfnapmdedmbdbaaDoor
end
section
set_option linter.unusedVariables false
namespace Go.Proofs.YtfnapmdedmbdbaaDoor
open Go Go.Am
theorem or_u6 (a b : Nat) (s : Nat) (hb : b < 2 ^ s) (h : a * 2 ^ s + b < 18446744073709551616) (t : TypeId) : binV Tryd.prog .or t (u6 ((a * 2 ^ s : Nat) : Int)) (u6 (b : Int)) = some (u6 ((a * 2 ^ s + b : Nat) : Int)) := by
  simp only [binV, intBin, if_true, Option.map_some]
  have hbits : IntKind.u64.bits = 64 := rfl
  rw [hbits]
  have h1 : (BitVec.ofInt 64 ((a * 2 ^ s : Nat) : Int) ||| BitVec.ofInt 64 (b : Int)).toNat = a * 2 ^ s + b := by
    rw [BitVec.toNat_or, BitVec.toNat_ofInt, BitVec.toNat_ofInt]
    have e1 : (((a * 2 ^ s : Nat) : Int) % (2 ^ 64 : Nat)).toNat = a * 2 ^ s := by omega
    have e2 : ((b : Int) % (2 ^ 64 : Nat)).toNat = b := by omega
    rw [e1, e2]
    have := Nat.shiftLeft_add_eq_or_of_lt hb a
    rw [Nat.shiftLeft_eq] at this
    exact this.symm
  rw [h1, wrap_u]
  congr 3
  omega
theorem shl_u6 (a : Int) (s : Nat) (hs : s ≤ 64) (t : TypeId) (k : IntKind) : binV Tryd.prog .shl t (u6 a) (.v (.int k (s : Int))) = some (u6 (a * (2 : Int) ^ s % 18446744073709551616)) := by
  simp only [binV, shiftBin]
  rw [if_neg (by omega)]
  have hb : IntKind.u64.bits = 64 := rfl
  simp only [Option.map_some, Int.toNat_natCast, hb, Nat.min_eq_left hs, wrap_u]
theorem shr_u6 (a : Int) (s : Nat) (hs : s ≤ 64) (t : TypeId) (k : IntKind) : binV Tryd.prog .shr t (u6 a) (.v (.int k (s : Int))) = some (u6 (a / (2 : Int) ^ s)) := by
  simp only [binV, shiftBin]
  rw [if_neg (by omega)]
  have hb : IntKind.u64.bits = 64 := rfl
  simp only [Option.map_some, Int.toNat_natCast, hb, Nat.min_eq_left hs]
  rw [Int.fdiv_eq_ediv_of_nonneg _ (Int.le_of_lt (Int.pow_pos (by decide)))]
theorem and32 (a : Int) (h0 : 0 ≤ a) (h1 : a ≤ 18446744073709551615) (t : TypeId) : binV Tryd.prog .and t (u6 a) (u6 4294967295) = some (u6 (a % 4294967296)) := by
  obtain ⟨m, rfl⟩ : ∃ m : Nat, a = (m : Int) := ⟨a.toNat, by omega⟩
  simp only [binV, intBin, if_true, Option.map_some]
  have hbits : IntKind.u64.bits = 64 := rfl
  rw [hbits]
  have h2 : (BitVec.ofInt 64 (m : Int) &&& BitVec.ofInt 64 (4294967295 : Int)).toNat = m % 4294967296 := by
    rw [BitVec.toNat_and, BitVec.toNat_ofInt, BitVec.toNat_ofInt]
    have e1 : ((m : Int) % (2 ^ 64 : Nat)).toNat = m := by omega
    have e2 : ((4294967295 : Int) % (2 ^ 64 : Nat)).toNat = 4294967295 := by decide
    rw [e1, e2]
    exact Nat.and_two_pow_sub_one_eq_mod m 32
  rw [h2, wrap_u]
  congr 3
  omega
theorem shr32 (a : Int) (t : TypeId) (k : IntKind) : binV Tryd.prog .shr t (u6 a) (.v (.int k 32)) = some (u6 (a / 4294967296)) := shr_u6 a 32 (by decide) t k
def pw : Nat → Int
  | 0 => 1
  | n + 1 => pw n * 4294967296
def val : List Int → Int
  | [] => 0
  | x :: r => x + 4294967296 * val r
theorem pw_pos : ∀ n, 0 < pw n
  | 0 => by decide
  | n + 1 => by have := pw_pos n; rw [pw]; omega
theorem pw_add (a : Nat) : ∀ b, pw (a + b) = pw a * pw b
  | 0 => by simp [pw]
  | b + 1 => by rw [← Nat.add_assoc, pw, pw, pw_add a b]; grind
theorem pw4 : pw 4 = 340282366920938463463374607431768211456 := by decide
theorem val_set : ∀ (l : List Int) (j : Nat) (v : Int), j < l.length → val (l.set j v) = val l + (v - gt l j) * pw j
  | [], j, v, h => by simp at h
  | x :: r, 0, v, h => by
    rw [List.set_cons_zero, val, val]
    show _ = x + 4294967296 * val r + (v - x) * 1
    omega
  | x :: r, j + 1, v, h => by
    have ih := val_set r j v (by simpa using h)
    rw [List.set_cons_succ, val, val, ih, pw]
    show _ = x + 4294967296 * val r + (v - gt r j) * (pw j * 4294967296)
    grind
def lm (m : Int) : List Int := [m % 4294967296, m / 4294967296 % 4294967296, m / 18446744073709551616 % 4294967296, m / 79228162514264337593543950336 % 4294967296]
theorem lm_len (m : Int) : (lm m).length = 4 := rfl
attribute [simp] lm_len
theorem lm_gt (m : Int) (i : Nat) (h : i < 4) : gt (lm m) i = m / pw i % 4294967296 := by
  match i, h with
  | 0, _ => show m % 4294967296 = m / 1 % 4294967296; rw [Int.ediv_one]
  | 1, _ => rfl
  | 2, _ => rfl
  | 3, _ => rfl
theorem lm_rng (m : Int) (i : Nat) (h : i < 4) : 0 ≤ gt (lm m) i ∧ gt (lm m) i ≤ 4294967295 := by
  rw [lm_gt m i h]; omega
theorem mod_succ (m p : Int) (hp : 0 < p) : m % (p * 4294967296) = m % p + m / p % 4294967296 * p := by
  have h1 := Int.mul_ediv_add_emod m p
  have h2 := Int.mul_ediv_add_emod (m / p) 4294967296
  have h3 := Int.emod_nonneg m (show p ≠ 0 by omega)
  have h4 := Int.emod_lt_of_pos m hp
  have h5 : 0 ≤ m / p % 4294967296 ∧ m / p % 4294967296 ≤ 4294967295 := by omega
  have h6 := mul_pos' h5.1 (Int.le_of_lt hp)
  have h7 : m / p % 4294967296 * p ≤ 4294967295 * p := Int.mul_le_mul_of_nonneg_right h5.2 (by omega)
  have hu := (Int.ediv_emod_unique (show 0 < p * 4294967296 by omega) (a := m) (r := m % p + m / p % 4294967296 * p) (q := m / p / 4294967296)).mpr ⟨by
    generalize m / p % 4294967296 = b at *
    generalize m / p / 4294967296 = c at *
    generalize m / p = d at *
    generalize m % p = e at *
    subst h2
    grind, by omega, by omega⟩
  exact hu.2
theorem lim_lt {l : List Int} {j : Nat} (h : ∀ j, j < 8 → 0 ≤ gt l j ∧ gt l j ≤ 4294967295) (hj : j < 8) : 0 ≤ gt l j ∧ gt l j ≤ 4294967295 := h j hj
theorem times_step {l : List Int} {M K c : Int} {i k : Nat} (hl : l.length = 8) (hi : i < 4) (hk : k < 4) (hr : 0 ≤ gt l (i + k) ∧ gt l (i + k) ≤ 4294967295) (hc : 0 ≤ c ∧ c ≤ 4294967295)
    (hv : val l + c * pw (i + k) = M % pw i * K + gt (lm M) i * pw i * (K % pw k)) {n : Int} (hn : n = gt (lm M) i * gt (lm K) k + gt l (i + k) + c) :
    val (l.set (i + k) (n % 4294967296)) + n / 4294967296 * pw (i + (k + 1)) = M % pw i * K + gt (lm M) i * pw i * (K % pw (k + 1)) := by
  rw [val_set l (i + k) _ (by omega), show i + (k + 1) = (i + k) + 1 by omega, pw, pw, mod_succ K (pw k) (pw_pos k), ← lm_gt K k hk]
  have e := pw_add i k
  have h2 := Int.mul_ediv_add_emod n 4294967296
  generalize gt (lm M) i = a at *
  generalize gt (lm K) k = b at *
  generalize gt l (i + k) = x at *
  generalize n / 4294967296 = d at *
  generalize n % 4294967296 = r at *
  generalize pw (i + k) = p at *
  generalize M % pw i * K = R at *
  generalize K % pw k = S at *
  generalize pw i = u at *
  generalize pw k = w at *
  subst hn
  subst e
  grind
theorem times_init {l : List Int} {M K : Int} {i : Nat} (hv : val l = M % pw i * K) : val l + 0 * pw (i + 0) = M % pw i * K + gt (lm M) i * pw i * (K % pw 0) := by
  rw [show pw 0 = 1 from rfl, Int.emod_one, hv]; omega
theorem times_row {l : List Int} {M K c : Int} {i : Nat} (hK : 0 ≤ K ∧ K ≤ 340282366920938463463374607431768211455) (hl : l.length = 8) (hi : i < 4) (hz : gt l (i + 4) = 0)
    (hv : val l + c * pw (i + 4) = M % pw i * K + gt (lm M) i * pw i * (K % pw 4)) : val (l.set (i + 4) c) = M % pw (i + 1) * K := by
  rw [val_set l (i + 4) _ (by omega), hz, show pw (i + 1) = pw i * 4294967296 from rfl, mod_succ M (pw i) (pw_pos i), ← lm_gt M i hi]
  rw [pw4, Int.emod_eq_of_lt hK.1 (by omega)] at hv
  generalize pw (i + 4) = p at *
  generalize gt (lm M) i = a at *
  generalize M % pw i = R at *
  generalize pw i = u at *
  grind
theorem times_end {l : List Int} {M K : Int} (hM : 0 ≤ M ∧ M ≤ 340282366920938463463374607431768211455) (hv : val l = M % pw 4 * K) : val l = M * K := by
  rw [hv, pw4, Int.emod_eq_of_lt hM.1 (by omega)]
theorem eight {l : List Int} (h : l.length = 8) : ∃ a b c d e f g h, l = [a, b, c, d, e, f, g, h] := by
  match l, h with
  | [a, b, c, d, e, f, g, h], _ => exact ⟨a, b, c, d, e, f, g, h, rfl⟩
theorem gt_zero8 (j : Nat) : gt (List.replicate 8 (0 : Int)) j = 0 := by
  match j with
  | 0 | 1 | 2 | 3 | 4 | 5 | 6 | 7 => rfl
  | n + 8 => rfl
/-! ### Arrays -/
/-- A number as the array of its four limbs. -/
abbrev lv (m : Int) : AV := .agg ((lm m).map u6)
theorem lv_eq {m a b c d : Int} (h0 : a = m % 4294967296) (h1 : b = m / 4294967296 % 4294967296) (h2 : c = m / 18446744073709551616 % 4294967296) (h3 : d = m / 79228162514264337593543950336 % 4294967296) : AV.agg [u6 a, u6 b, u6 c, u6 d] = lv m := by
  subst h0 h1 h2 h3; rfl
set_option maxRecDepth 20000
theorem iap57 (b o : Nat) (k : IntKind) (i : Int) (h0 : 0 ≤ i) (h1 : i < 4) : indexAddrV Tryd.prog 95 (.ptr b o) (.v (.int k i)) = some (.ptr b (o + i.toNat)) := by
  rw [ia_ptr _ 95 49 _ 4 tk95 ty49, if_pos ⟨h0, h1⟩]; rw [Nat.mul_one]
theorem iap75 (b o : Nat) (k : IntKind) (i : Int) (h0 : 0 ≤ i) (h1 : i < 8) : indexAddrV Tryd.prog 118 (.ptr b o) (.v (.int k i)) = some (.ptr b (o + i.toNat)) := by
  rw [ia_ptr _ 118 49 _ 8 tk118 ty49, if_pos ⟨h0, h1⟩]; rw [Nat.mul_one]
theorem bld57 (a b c d : Int) : buildV Tryd.prog 95 [(0, u6 a), (1, u6 b), (2, u6 c), (3, u6 d)] = some (.agg [u6 a, u6 b, u6 c, u6 d]) := by kernel_rfl
theorem shl32 (a : Int) (t : TypeId) (k : IntKind) : binV Tryd.prog .shl t (u6 a) (.v (.int k 32)) = some (u6 (a * 4294967296 % 18446744073709551616)) := shl_u6 a 32 (by decide) t k
theorem or32 (a b : Int) (ha : 0 ≤ a ∧ a ≤ 4294967295) (hb : 0 ≤ b ∧ b ≤ 4294967295) (t : TypeId) : binV Tryd.prog .or t (u6 (a * 4294967296 % 18446744073709551616)) (u6 b) = some (u6 (a * 4294967296 + b)) := by
  obtain ⟨m, rfl⟩ : ∃ m : Nat, a = (m : Int) := ⟨a.toNat, by omega⟩
  obtain ⟨n, rfl⟩ : ∃ n : Nat, b = (n : Int) := ⟨b.toNat, by omega⟩
  have h32 : (2 : Nat) ^ 32 = 4294967296 := by decide
  have h := or_u6 m n 32 (by rw [h32]; omega) (by rw [h32]; omega) t
  rw [h32] at h
  have e1 : ((m * 4294967296 : Nat) : Int) = (m : Int) * 4294967296 % 18446744073709551616 := by omega
  have e2 : ((m * 4294967296 + n : Nat) : Int) = (m : Int) * 4294967296 + (n : Int) := by rw [Int.natCast_add, Int.natCast_mul]; rfl
  rw [e1, e2] at h
  exact h
theorem take4 (x y z w : AV) : List.take 4 [x, y, z, w] = [x, y, z, w] := rfl
theorem sL4 (x y z w a b c d : AV) : setL [x, y, z, w] 0 [a, b, c, d] = [a, b, c, d] := rfl
attribute [go_sem] iap57 iap75 bld57 shl32 or32 take4 sL4
theorem toNat_add4 (u : Nat) : Int.toNat ((u : Int) + 4) = u + 4 := rfl
theorem tupL {m a b c d : Int} {p q : Bool} (h0 : a = m % 4294967296) (h1 : b = m / 4294967296 % 4294967296) (h2 : c = m / 18446744073709551616 % 4294967296) (h3 : d = m / 79228162514264337593543950336 % 4294967296) (hp : p = q) : AV.tup [.agg [u6 a, u6 b, u6 c, u6 d], .v (.bool p)] = AV.tup [lv m, .v (.bool q)] := by rw [lv_eq h0 h1 h2 h3, hp]
theorem ACall1 {lim : Nat} {f : FuncId} {x y : AV} {H : Heap} {K : AV → Heap → Prop} (h : x = y) (hk : ACall sig lim f [y] H K) : ACall sig lim f [x] H K := by subst h; exact hk
theorem len0 (H : Heap) : H.length + 0 = H.length := rfl
end Go.Proofs.YtfnapmdedmbdbaaDoor
end
