/-
  Texts of RaceOf, part 12 of 16. Walks of chapter 51. The steps are written by program (walk.py).
-/
import Derived.Test.YtfnapmdedmbdbaaKRaceOf9
import Derived.Test.YtfnapmdedmbdbaaKRaceOf10
import Derived.Test.YtfnapmdedmbdbaaKRaceOf7
import Derived.Test.YtfnapmdedmbdbaaKRaceOf8
section
set_option linter.unusedSimpArgs false
set_option linter.unusedVariables false
set_option maxHeartbeats 1000000
set_option maxRecDepth 20000
namespace Go.Proofs.Ytfnapmdedmbdbaa
open Go Go.Am
abbrev lc_table_ok (a b c d e f g h i j k m n o p q : AV) : Env := [(0,a),(1,b),(4,c),(5,d),(6,e),(7,f),(8,g),(10,h),(15,i),(20,j),(21,k),(22,m),(30,n),(31,o),(32,p),(33,q)]
theorem table_ok (lim : Nat) (H : Heap) (n : Int) (hn : -9223372036854775808 ≤ n ∧ n ≤ 9223372036854775807) (l : List Pl) : ACall sig lim 12 [AV.i n, plsAV l] H fun r H' => r = .tup [tbAV (tabS n l), AV.i (chS n l)] ∧ H' = H := by
 have q0 : True := trivial
 have q5 : True := trivial
 refine ACall_pure (fa := fa12) rfl rfl rfl rfl ?_
 have tr : ∀ a0 a1 : AV, env0 fa12.keep [a0, a1] = [(0,a0),(1,a1),(4,.any),(5,.any),(6,.any),(7,.any),(8,.any),(10,.any),(15,.any),(20,.any),(21,.any),(22,.any),(30,.any),(31,.any),(32,.any),(33,.any)] := fun a0 a1 => rfl
 refine W_to (tr _ _) ?_; clear tr
 refine at_seq rfl ?_
 refine rg rfl ?_
 refine Rq ?_
 refine Rq ?_
 have tr : ∀ a b c d e f g h i j k m n o p q r s : AV, let l := lc_table_ok a b c d e f g h i j k m n o p q; trim ((5,s)::(4,r)::l) l = [(0,a),(1,b),(4,r),(5,s),(6,e),(7,f),(8,g),(10,h),(15,i),(20,j),(21,k),(22,m),(30,n),(31,o),(32,p),(33,q)] := by intros; rfl
 refine R_nil (tr ..) ?_; clear tr
 refine then_n ?_
 refine at_seq rfl ?_
 refine at_seq rfl ?_
 refine rg rfl ?_
 refine Rq ?_
 refine Rq ?_
 refine Rcall ?_
 refine ACall_eq (check_ok _ _ n hn l) ?_
 refine Rq ?_
 have tr : ∀ a b c d e f g h i j k m n o p q r s t u : AV, let l := lc_table_ok a b c d e f g h i j k m n o p q; trim ((6,u)::(13,t)::(12,s)::(11,r)::l) l = [(0,a),(1,b),(4,c),(5,d),(6,u),(7,f),(8,g),(10,h),(15,i),(20,j),(21,k),(22,m),(30,n),(31,o),(32,p),(33,q)] := by intros; rfl
 refine R_nil (tr ..) ?_; clear tr
 refine then_n ?_
 refine at_seq rfl ?_
 refine rg rfl ?_
 refine Rq ?_
 refine Rq ?_
 have tr : ∀ a b c d e f g h i j k m n o p q r s : AV, let l := lc_table_ok a b c d e f g h i j k m n o p q; trim ((15,s)::(14,r)::l) l = [(0,a),(1,b),(4,c),(5,d),(6,e),(7,f),(8,g),(10,h),(15,s),(20,j),(21,k),(22,m),(30,n),(31,o),(32,p),(33,q)] := by intros; rfl
 refine R_nil (tr ..) ?_; clear tr
 refine then_n ?_
 refine cdd (fun h1 => ?_) (fun h1 => ?_)
 ·
  try simp only [decide_eq_true_eq, decide_eq_false_iff_not, decide_eq_decide, Bool.not_eq_true', Bool.not_eq_false', beq_iff_eq, beq_eq_false_iff_ne, ne_eq, Bool.and_eq_true, Bool.and_eq_false_iff, decide_not] at h1
  refine at_seq rfl ?_
  refine rg rfl ?_
  refine Rq ?_
  refine Rq ?_
  refine Rq ?_
  have tr : ∀ a b c d e f g h i j k m n o p q r s t : AV, let l := lc_table_ok a b c d e f g h i j k m n o p q; trim ((5,t)::(4,s)::(16,r)::l) l = [(0,a),(1,b),(4,s),(5,t),(6,e),(7,f),(8,g),(10,h),(15,i),(20,j),(21,k),(22,m),(30,n),(31,o),(32,p),(33,q)] := by intros; rfl
  refine R_nil (tr ..) ?_; clear tr
  refine then_n ?_
  refine at_ret rfl ?_
  refine then_r ?_
  first | (refine fpure ?_; refine ⟨?_, rfl⟩; rw [tabS_n (by assumption), tbAV_nil] <;> rfl; done) | (refine fin_pure (rs := [.tmp 4, .tmp 5]) rfl (by simp (disch := first | omega | (simp only [List.length_map, List.length_append, List.length_set, List.length_cons, List.length_nil]; omega)) only [go_sem, ↓reduceIte, Nat.reduceEqDiff, reduceCtorEq] <;> rfl) (v := .tup [stsAV (tbS (stds n.toNat l)), AV.i 0]) (by show AV.tup [frz _ _ 7 (.own 10 H.length 0 n.toNat), AV.i 0] = _; rw [frz_ownZ (Nat.lt_irrefl _) q9 (tab_len hc)]) ?_; refine ⟨?_, rfl⟩; rw [tabS_y hc, hc, tbAV_ne (tab_ne hc)])
 ·
  try simp only [decide_eq_true_eq, decide_eq_false_iff_not, decide_eq_decide, Bool.not_eq_true', Bool.not_eq_false', beq_iff_eq, beq_eq_false_iff_ne, ne_eq, Bool.and_eq_true, Bool.and_eq_false_iff, decide_not] at h1
  refine at_skip rfl ?_
  refine then_n ?_
  refine at_seq rfl ?_
  refine rg rfl ?_
  have hc : chS n l = 0 := by first | assumption | omega
  obtain ⟨hn2, hl4, hpl⟩ := chS_z hc
  refine Rq ?_
  refine R_makeSlice (ms27 _ _ n _ _ _ (by omega) (by omega) (by simp (disch := first | omega | (simp only [List.length_map, List.length_append, List.length_set, List.length_cons, List.length_nil]; omega)) only [go_sem, ↓reduceIte, Nat.reduceEqDiff, reduceCtorEq]) (by simp (disch := first | omega | (simp only [List.length_map, List.length_append, List.length_set, List.length_cons, List.length_nil]; omega)) only [go_sem, ↓reduceIte, Nat.reduceEqDiff, reduceCtorEq])) ?_
  refine Rq ?_
  have tr : ∀ a b c d e f g h i j k m n o p q r s t : AV, let l := lc_table_ok a b c d e f g h i j k m n o p q; trim ((7,t)::(18,s)::(17,r)::l) l = [(0,a),(1,b),(4,c),(5,d),(6,e),(7,t),(8,g),(10,h),(15,i),(20,j),(21,k),(22,m),(30,n),(31,o),(32,p),(33,q)] := by intros; rfl
  refine R_nil (tr ..) ?_; clear tr
  refine then_n ?_
  refine at_seq rfl ?_
  refine at_seq rfl ?_
  refine rg rfl ?_
  refine Rq ?_
  refine Rq ?_
  refine Rq ?_
  have tr : ∀ a b c d e f g h i j k m n o p q r s t : AV, let l := lc_table_ok a b c d e f g h i j k m n o p q; trim ((21,t)::(20,s)::(19,r)::l) l = [(0,a),(1,b),(4,c),(5,d),(6,e),(7,f),(8,g),(10,h),(15,i),(20,s),(21,t),(22,m),(30,n),(31,o),(32,p),(33,q)] := by intros; rfl
  refine R_nil (tr ..) ?_; clear tr
  refine then_n ?_
  refine at_block rfl ?_
  refine loop_n rfl (fun mm kv H' => ∃ i : Nat, ∃ zs : List St, ∃ x8 x22 : AV, (kv = [(8, x8), (21, AV.i (i : Int)), (22, x22)]) ∧ (mm = n.toNat - i) ∧ (H' = H ++ [some (flatZ zs)]) ∧ (i ≤ n.toNat) ∧ (zs.length = n.toNat) ∧ (∀ t, t < n.toNat → gz zs t = if t < i then ⟨t, 0, 0, 0, 0, 0, 0, 0, 0, 0⟩ else z0)) ⟨0, List.replicate n.toNat z0, _, _, rfl, rfl, rfl, by omega, by simp, by exact ini_zero _⟩ (by rfl) ?_
  rintro mm kv H' ⟨i, zs, x8, x22, rfl, rfl, rfl, hi, hz, hg⟩
  have tr : ∀ a b c d e f g h i j k m n o p q r s t : AV, upd [(0,a),(1,b),(4,c),(5,d),(6,e),(7,f),(8,g),(10,h),(15,i),(20,j),(21,k),(22,m),(30,n),(31,o),(32,p),(33,q)] [(8,r),(21,s),(22,t)] = [(0,a),(1,b),(4,c),(5,d),(6,e),(7,f),(8,r),(10,h),(15,i),(20,j),(21,s),(22,t),(30,n),(31,o),(32,p),(33,q)] := by intros; rfl
  refine W_to (tr ..) ?_; clear tr
  refine at_seq rfl ?_
  refine rg rfl ?_
  refine Rq ?_
  have tr : ∀ a b c d e f g h i j k m n o p q r : AV, let l := lc_table_ok a b c d e f g h i j k m n o p q; trim ((22,r)::l) l = [(0,a),(1,b),(4,c),(5,d),(6,e),(7,f),(8,g),(10,h),(15,i),(20,j),(21,k),(22,r),(30,n),(31,o),(32,p),(33,q)] := by intros; rfl
  refine R_nil (tr ..) ?_; clear tr
  refine then_n ?_
  refine at_seq rfl ?_
  refine cdd (fun h2 => ?_) (fun h2 => ?_)
  ·
   try simp only [decide_eq_true_eq, decide_eq_false_iff_not, decide_eq_decide, Bool.not_eq_true', Bool.not_eq_false', beq_iff_eq, beq_eq_false_iff_ne, ne_eq, Bool.and_eq_true, Bool.and_eq_false_iff, decide_not] at h2
   refine at_skip rfl ?_
   refine then_n ?_
   refine at_seq rfl ?_
   refine at_block rfl ?_
   refine at_seq rfl ?_
   refine rg rfl ?_
   refine Rq ?_
   refine Rq ?_
   have tr : ∀ a b c d e f g h i j k m n o p q r s : AV, let l := lc_table_ok a b c d e f g h i j k m n o p q; trim ((8,s)::(23,r)::l) l = [(0,a),(1,b),(4,c),(5,d),(6,e),(7,f),(8,s),(10,h),(15,i),(20,j),(21,k),(22,m),(30,n),(31,o),(32,p),(33,q)] := by intros; rfl
   refine R_nil (tr ..) ?_; clear tr
   refine then_n ?_
   refine rg rfl ?_
   refine Rq ?_
   refine Rq ?_
   refine Rq ?_
   refine Rq ?_
   refine Rq ?_
   refine R_store ty3 (by simp (disch := first | omega | (simp only [List.length_map, List.length_append, List.length_set, List.length_cons, List.length_nil]; omega)) only [go_sem, ↓reduceIte, Nat.reduceEqDiff, reduceCtorEq] <;> rfl) (by simp (disch := first | omega | (simp only [List.length_map, List.length_append, List.length_set, List.length_cons, List.length_nil]; omega)) only [go_sem, ↓reduceIte, Nat.reduceEqDiff, reduceCtorEq] <;> rfl) (k := flatZ zs) (by simp (disch := first | omega | (simp only [List.length_map, List.length_append, List.length_set, List.length_cons, List.length_nil]; omega)) only [go_sem, ↓reduceIte, Nat.reduceEqDiff, reduceCtorEq] <;> rfl) ⟨Nat.le_refl _, rfl, by rw [flatZ_len]; show i * 10 + 1 ≤ _; omega⟩ (k' := flatZ (zs.set i { gz zs i with tm := (i : Int) })) (setz zs i i (by omega)) (by simp (disch := first | omega | (simp only [List.length_map, List.length_append, List.length_set, List.length_cons, List.length_nil]; omega)) only [go_sem, ↓reduceIte, Nat.reduceEqDiff, reduceCtorEq] <;> rfl) ?_
   have tr : ∀ a b c d e f g h i j k m n o p q r s t u v : AV, let l := lc_table_ok a b c d e f g h i j k m n o p q; trim ((28,v)::(27,u)::(26,t)::(25,s)::(24,r)::l) l = [(0,a),(1,b),(4,c),(5,d),(6,e),(7,f),(8,g),(10,h),(15,i),(20,j),(21,k),(22,m),(30,n),(31,o),(32,p),(33,q)] := by intros; rfl
   refine R_nil (tr ..) ?_; clear tr
   refine blk_n ?_
   refine then_n ?_
   refine rg rfl ?_
   refine Rq ?_
   refine Rq ?_
   have tr : ∀ a b c d e f g h i j k m n o p q r s : AV, let l := lc_table_ok a b c d e f g h i j k m n o p q; trim ((21,s)::(29,r)::l) l = [(0,a),(1,b),(4,c),(5,d),(6,e),(7,f),(8,g),(10,h),(15,i),(20,j),(21,s),(22,m),(30,n),(31,o),(32,p),(33,q)] := by intros; rfl
   refine R_nil (tr ..) ?_; clear tr
   refine then_n ?_
   exact ⟨_, _, ⟨i + 1, zs.set i { gz zs i with tm := (i : Int) }, _, _, rfl, rfl, rfl, by omega, by (rw [List.length_set]; exact hz), by exact ini_step hz (by omega) hg⟩, by rfl, by omega⟩
  ·
   try simp only [decide_eq_true_eq, decide_eq_false_iff_not, decide_eq_decide, Bool.not_eq_true', Bool.not_eq_false', beq_iff_eq, beq_eq_false_iff_ne, ne_eq, Bool.and_eq_true, Bool.and_eq_false_iff, decide_not] at h2
   refine at_exit rfl ?_
   refine then_x ?_
   refine then_x ?_
   refine blk_x ?_
   refine then_n ?_
   refine at_seq rfl ?_
   refine at_seq rfl ?_
   refine rg rfl ?_
   refine Rq ?_
   refine Rq ?_
   refine Rq ?_
   have tr : ∀ a b c d e f g h i j k m n o p q r s t : AV, let l := lc_table_ok a b c d e f g h i j k m n o p q; trim ((32,t)::(31,s)::(30,r)::l) l = [(0,a),(1,b),(4,c),(5,d),(6,e),(7,f),(8,g),(10,h),(15,i),(20,j),(21,k),(22,m),(30,r),(31,s),(32,t),(33,q)] := by intros; rfl
   refine R_nil (tr ..) ?_; clear tr
   refine then_n ?_
   refine at_block rfl ?_
   refine loop_n rfl (fun mm kv H' => ∃ u : Nat, ∃ x10 x33 : AV, (kv = [(10, x10), (32, AV.i (u : Int)), (33, x33)]) ∧ (mm = l.length - u) ∧ (hget H' H.length = some (flatZ (stds n.toNat (l.take u)))) ∧ (u ≤ l.length)) ⟨0, _, _, rfl, rfl, by (rw [hget_app]; exact congrArg (fun z => some (flatZ z)) (stds_nil _ l hz (fun t ht => by rw [hg t ht, if_pos (by omega)]))), by omega⟩ (by rfl) ?_
   rintro mm kv HB ⟨u, x10, x33, rfl, rfl, q0, hu⟩
   have tr : ∀ a b c d e f g h i j k m n o p q r s t : AV, upd [(0,a),(1,b),(4,c),(5,d),(6,e),(7,f),(8,g),(10,h),(15,i),(20,j),(21,k),(22,m),(30,n),(31,o),(32,p),(33,q)] [(10,r),(32,s),(33,t)] = [(0,a),(1,b),(4,c),(5,d),(6,e),(7,f),(8,g),(10,r),(15,i),(20,j),(21,k),(22,m),(30,n),(31,o),(32,s),(33,t)] := by intros; rfl
   refine W_to (tr ..) ?_; clear tr
   refine at_seq rfl ?_
   refine rg rfl ?_
   refine Rq ?_
   have tr : ∀ a b c d e f g h i j k m n o p q r : AV, let l := lc_table_ok a b c d e f g h i j k m n o p q; trim ((33,r)::l) l = [(0,a),(1,b),(4,c),(5,d),(6,e),(7,f),(8,g),(10,h),(15,i),(20,j),(21,k),(22,m),(30,n),(31,o),(32,p),(33,r)] := by intros; rfl
   refine R_nil (tr ..) ?_; clear tr
   refine then_n ?_
   refine at_seq rfl ?_
   refine cdd (fun h3 => ?_) (fun h3 => ?_)
   ·
    try simp only [decide_eq_true_eq, decide_eq_false_iff_not, decide_eq_decide, Bool.not_eq_true', Bool.not_eq_false', beq_iff_eq, beq_eq_false_iff_ne, ne_eq, Bool.and_eq_true, Bool.and_eq_false_iff, decide_not] at h3
    refine at_skip rfl ?_
    refine then_n ?_
    refine at_seq rfl ?_
    refine at_block rfl ?_
    refine at_seq rfl ?_
    refine rg rfl ?_
    have hul : u < l.length := by omega
    have hpz := hpl u hul
    have hpp := plE_z hpz
    refine Rq ?_
    refine R_q rfl (by simp (disch := first | omega | (simp only [List.length_map, List.length_append, List.length_set, List.length_cons, List.length_nil]; omega)) only [go_sem, ↓reduceIte, Nat.reduceEqDiff, reduceCtorEq, q0, q5] <;> rfl) ?_
    have lq0 := hget_lt q0
    refine A_alloc rfl ?_
    intro H5 n5
    have en5 := n5.len
    have q0 := (n5.old _ (hget_lt q0)).trans q0
    have q5 := n5.new
    refine A_store ty67 (by simp (disch := first | omega | (simp only [List.length_map, List.length_append, List.length_set, List.length_cons, List.length_nil]; omega)) only [go_sem, ↓reduceIte, Nat.reduceEqDiff, reduceCtorEq] <;> rfl) (by simp (disch := first | omega | (simp only [List.length_map, List.length_append, List.length_set, List.length_cons, List.length_nil]; omega)) only [go_sem, ↓reduceIte, Nat.reduceEqDiff, reduceCtorEq] <;> rfl) q5 ⟨by omega, rfl, Nat.le_refl 8⟩ (k' := plC (gp l u)) rfl ?_
    intro H6 w6
    have q0 := (w6.old _ (by omega)).trans q0
    have q5 := w6.new
    have e6 := w6.len
    have tr : ∀ a b c d e f g h i j k m n o p q r s t : AV, let l := lc_table_ok a b c d e f g h i j k m n o p q; trim ((10,t)::(35,s)::(34,r)::l) l = [(0,a),(1,b),(4,c),(5,d),(6,e),(7,f),(8,g),(10,t),(15,i),(20,j),(21,k),(22,m),(30,n),(31,o),(32,p),(33,q)] := by intros; rfl
    refine R_nil (tr ..) ?_; clear tr
    refine then_n ?_
    refine at_seq rfl ?_
    refine rd rfl rfl ?_
    refine Qq ?_
    refine Qq ?_
    refine Q_q rfl (by simp (disch := first | omega | (simp only [List.length_map, List.length_append, List.length_set, List.length_cons, List.length_nil]; omega)) only [go_sem, ↓reduceIte, Nat.reduceEqDiff, reduceCtorEq, q0, q5] <;> rfl) ?_
    refine Qq ?_
    refine Q_q rfl (by simp (disch := first | omega | (simp only [List.length_map, List.length_append, List.length_set, List.length_cons, List.length_nil]; omega)) only [go_sem, ↓reduceIte, Nat.reduceEqDiff, reduceCtorEq, q0, q5] <;> rfl) ?_
    refine Qq ?_
    refine Q_q rfl (by simp (disch := first | omega | (simp only [List.length_map, List.length_append, List.length_set, List.length_cons, List.length_nil]; omega)) only [go_sem, ↓reduceIte, Nat.reduceEqDiff, reduceCtorEq, q0, q5] <;> rfl) ?_
    refine Qq ?_
    refine Q_q rfl (by simp (disch := first | omega | (simp only [List.length_map, List.length_append, List.length_set, List.length_cons, List.length_nil]; omega)) only [go_sem, ↓reduceIte, Nat.reduceEqDiff, reduceCtorEq, q0, q5] <;> rfl) ?_
    refine Qq ?_
    refine Q_q rfl (by simp (disch := first | omega | (simp only [List.length_map, List.length_append, List.length_set, List.length_cons, List.length_nil]; omega)) only [go_sem, ↓reduceIte, Nat.reduceEqDiff, reduceCtorEq, q0, q5] <;> rfl) ?_
    refine Qq ?_
    refine Q_q rfl (by simp (disch := first | omega | (simp only [List.length_map, List.length_append, List.length_set, List.length_cons, List.length_nil]; omega)) only [go_sem, ↓reduceIte, Nat.reduceEqDiff, reduceCtorEq, q0, q5] <;> rfl) ?_
    refine Q_nil ?_
    refine Rcall ?_
    refine ACall_mono (count2_ok _ _ H.length (stds n.toNat (l.take u)) (gp l u).ho.toNat (by rw [stds_len]; omega) (Nat.le_refl _) q0 u (by omega) (by rw [stds_get (by omega)]; have h9 := stdS_inv hpl (((gp l u).ho.toNat : Nat) : Int) u (by omega); rw [h9.1]; exact h9) (gp l u) (gp l u).hr (gp l u).hb (gp l u).ar (gp l u).ab 1 (by omega) (by omega) (by omega) (by omega) (.inl rfl)) ?_
    rintro _ H7 ⟨rfl, q0, b7⟩
    have q5 := (b7.old _ (by omega) (by omega)).trans q5
    have e7 := b7.len
    have tr : ∀ a b c d e f g h i j k m n o p q r s t u v w x y z A B C D E : AV, let l := lc_table_ok a b c d e f g h i j k m n o p q; trim ((49,E)::(48,D)::(47,C)::(46,B)::(45,A)::(44,z)::(43,y)::(42,x)::(41,w)::(40,v)::(39,u)::(38,t)::(37,s)::(36,r)::l) l = [(0,a),(1,b),(4,c),(5,d),(6,e),(7,f),(8,g),(10,h),(15,i),(20,j),(21,k),(22,m),(30,n),(31,o),(32,p),(33,q)] := by intros; rfl
    refine R_nil (tr ..) ?_; clear tr
    refine then_n ?_
    refine rd rfl rfl ?_
    refine Qq ?_
    refine Qq ?_
    refine Q_q rfl (by simp (disch := first | omega | (simp only [List.length_map, List.length_append, List.length_set, List.length_cons, List.length_nil]; omega)) only [go_sem, ↓reduceIte, Nat.reduceEqDiff, reduceCtorEq, q0, q5] <;> rfl) ?_
    refine Qq ?_
    refine Q_q rfl (by simp (disch := first | omega | (simp only [List.length_map, List.length_append, List.length_set, List.length_cons, List.length_nil]; omega)) only [go_sem, ↓reduceIte, Nat.reduceEqDiff, reduceCtorEq, q0, q5] <;> rfl) ?_
    refine Qq ?_
    refine Q_q rfl (by simp (disch := first | omega | (simp only [List.length_map, List.length_append, List.length_set, List.length_cons, List.length_nil]; omega)) only [go_sem, ↓reduceIte, Nat.reduceEqDiff, reduceCtorEq, q0, q5] <;> rfl) ?_
    refine Qq ?_
    refine Q_q rfl (by simp (disch := first | omega | (simp only [List.length_map, List.length_append, List.length_set, List.length_cons, List.length_nil]; omega)) only [go_sem, ↓reduceIte, Nat.reduceEqDiff, reduceCtorEq, q0, q5] <;> rfl) ?_
    refine Qq ?_
    refine Q_q rfl (by simp (disch := first | omega | (simp only [List.length_map, List.length_append, List.length_set, List.length_cons, List.length_nil]; omega)) only [go_sem, ↓reduceIte, Nat.reduceEqDiff, reduceCtorEq, q0, q5] <;> rfl) ?_
    refine Qq ?_
    refine Q_q rfl (by simp (disch := first | omega | (simp only [List.length_map, List.length_append, List.length_set, List.length_cons, List.length_nil]; omega)) only [go_sem, ↓reduceIte, Nat.reduceEqDiff, reduceCtorEq, q0, q5] <;> rfl) ?_
    refine Q_nil ?_
    refine Rcall ?_
    refine ACall_mono (count2_ok _ _ H.length ((stds n.toNat (l.take u)).set (gp l u).ho.toNat (cnS (gz (stds n.toNat (l.take u)) (gp l u).ho.toNat) (gp l u).wi (gp l u).hr (gp l u).hb (gp l u).ar (gp l u).ab 1)) (gp l u).aw.toNat (by rw [List.length_set, stds_len]; omega) (Nat.le_refl _) q0 u (by omega) (by rw [gz_set (by rw [stds_len]; omega), if_neg (by omega), stds_get (by omega)]; have h9 := stdS_inv hpl (((gp l u).aw.toNat : Nat) : Int) u (by omega); rw [h9.1]; exact h9) (gp l u) (gp l u).ar (gp l u).ab (gp l u).hr (gp l u).hb 2 (by omega) (by omega) (by omega) (by omega) (.inr rfl)) ?_
    rintro _ H8 ⟨rfl, q0, b8⟩
    rw [gz_set (by rw [stds_len]; omega), if_neg (by omega), stds_step (by omega) hul hpz] at q0
    have tr : ∀ a b c d e f g h i j k m n o p q r s t u v w x y z A B C D E : AV, let l := lc_table_ok a b c d e f g h i j k m n o p q; trim ((63,E)::(62,D)::(61,C)::(60,B)::(59,A)::(58,z)::(57,y)::(56,x)::(55,w)::(54,v)::(53,u)::(52,t)::(51,s)::(50,r)::l) l = [(0,a),(1,b),(4,c),(5,d),(6,e),(7,f),(8,g),(10,h),(15,i),(20,j),(21,k),(22,m),(30,n),(31,o),(32,p),(33,q)] := by intros; rfl
    refine R_nil (tr ..) ?_; clear tr
    refine blk_n ?_
    refine then_n ?_
    refine rg rfl ?_
    refine Rq ?_
    refine Rq ?_
    have tr : ∀ a b c d e f g h i j k m n o p q r s : AV, let l := lc_table_ok a b c d e f g h i j k m n o p q; trim ((32,s)::(64,r)::l) l = [(0,a),(1,b),(4,c),(5,d),(6,e),(7,f),(8,g),(10,h),(15,i),(20,j),(21,k),(22,m),(30,n),(31,o),(32,s),(33,q)] := by intros; rfl
    refine R_nil (tr ..) ?_; clear tr
    refine then_n ?_
    exact ⟨_, _, ⟨u + 1, _, _, rfl, rfl, by exact q0, by omega⟩, by rfl, by omega⟩
   ·
    try simp only [decide_eq_true_eq, decide_eq_false_iff_not, decide_eq_decide, Bool.not_eq_true', Bool.not_eq_false', beq_iff_eq, beq_eq_false_iff_ne, ne_eq, Bool.and_eq_true, Bool.and_eq_false_iff, decide_not] at h3
    refine at_exit rfl ?_
    refine then_x ?_
    refine then_x ?_
    refine blk_x ?_
    refine then_n ?_
    refine at_seq rfl ?_
    refine rg rfl ?_
    obtain rfl : u = l.length := by omega
    rw [List.take_length] at q0
    refine Rq ?_
    refine Rcall ?_
    refine ACall_eff (p := sortV) rfl rfl rfl (sort_eff (n := n.toNat) q0 (Nat.le_refl _) (by omega) (stds_len _ _) (by omega) (tab_ok hc).1 (tab_ok hc).2) ?_
    have w9 := MWrote.of HB (flatZ (tbS (stds n.toNat l))) (hget_lt q0)
    have q9 := w9.new
    have tr : ∀ a b c d e f g h i j k m n o p q r s : AV, let l := lc_table_ok a b c d e f g h i j k m n o p q; trim ((66,s)::(65,r)::l) l = [(0,a),(1,b),(4,c),(5,d),(6,e),(7,f),(8,g),(10,h),(15,i),(20,j),(21,k),(22,m),(30,n),(31,o),(32,p),(33,q)] := by intros; rfl
    refine R_nil (tr ..) ?_; clear tr
    refine then_n ?_
    refine at_seq rfl ?_
    refine rg rfl ?_
    refine Rq ?_
    refine Rq ?_
    refine Rq ?_
    have tr : ∀ a b c d e f g h i j k m n o p q r s t : AV, let l := lc_table_ok a b c d e f g h i j k m n o p q; trim ((5,t)::(4,s)::(67,r)::l) l = [(0,a),(1,b),(4,s),(5,t),(6,e),(7,f),(8,g),(10,h),(15,i),(20,j),(21,k),(22,m),(30,n),(31,o),(32,p),(33,q)] := by intros; rfl
    refine R_nil (tr ..) ?_; clear tr
    refine then_n ?_
    refine at_ret rfl ?_
    first | (refine fpure ?_; refine ⟨?_, rfl⟩; rw [tabS_n (by assumption), tbAV_nil] <;> rfl; done) | (refine fin_pure (rs := [.tmp 4, .tmp 5]) rfl (by simp (disch := first | omega | (simp only [List.length_map, List.length_append, List.length_set, List.length_cons, List.length_nil]; omega)) only [go_sem, ↓reduceIte, Nat.reduceEqDiff, reduceCtorEq] <;> rfl) (v := .tup [stsAV (tbS (stds n.toNat l)), AV.i 0]) (by show AV.tup [frz _ _ 7 (.own 10 H.length 0 n.toNat), AV.i 0] = _; rw [frz_ownZ (Nat.lt_irrefl _) q9 (tab_len hc)]) ?_; refine ⟨?_, rfl⟩; rw [tabS_y hc, hc, tbAV_ne (tab_ne hc)])

end Go.Proofs.Ytfnapmdedmbdbaa
end
section
set_option linter.unusedSimpArgs false
set_option linter.unusedVariables false
set_option maxHeartbeats 4000000
set_option maxRecDepth 20000
namespace Go.Proofs.Ytfnapmdedmbdbaa
open Go Go.Am
abbrev lc_raceof5_ok (a b c d e f g h i j k m n o p q : AV) : Env := [(0,a),(1,b),(2,c),(6,d),(7,e),(8,f),(9,g),(10,h),(12,i),(13,j),(21,k),(29,m),(30,n),(31,o),(32,p),(46,q)]
theorem raceof5_ok (lim : Nat) (H : Heap) (n : Int) (hn : -9223372036854775808 ≤ n ∧ n ≤ 9223372036854775807) (l : List Pl) (L : List Pr) (hL : L.length ≤ 100) : ACall sig lim 5 [AV.i n, plsAV l, prsAV L] H fun r H' => r = .tup [ofA n l L, AV.i (ofE n l L)] ∧ H' = H := by
 have q6 : True := trivial
 have q10 : True := trivial
 have qP : True := trivial
 have q12 : True := trivial
 refine ACall_pure (fa := fa5) rfl rfl rfl rfl ?_
 have tr : ∀ a0 a1 a2 : AV, env0 fa5.keep [a0, a1, a2] = [(0,a0),(1,a1),(2,a2),(6,.any),(7,.any),(8,.any),(9,.any),(10,.any),(12,.any),(13,.any),(21,.any),(29,.any),(30,.any),(31,.any),(32,.any),(46,.any)] := fun a0 a1 a2 => rfl
 refine W_to (tr _ _ _) ?_; clear tr
 refine at_seq rfl ?_
 refine rg rfl ?_
 refine A_alloc rfl ?_
 intro H1 n0
 have en0 := n0.len
 have q6 : hget H1 H.length = some [nilP, nilP] := n0.new
 refine Rq ?_
 have tr : ∀ a b c d e f g h i j k m n o p q r s : AV, let l := lc_raceof5_ok a b c d e f g h i j k m n o p q; trim ((7,s)::(6,r)::l) l = [(0,a),(1,b),(2,c),(6,r),(7,s),(8,f),(9,g),(10,h),(12,i),(13,j),(21,k),(29,m),(30,n),(31,o),(32,p),(46,q)] := by intros; rfl
 refine R_nil (tr ..) ?_; clear tr
 refine then_n ?_
 refine at_seq rfl ?_
 refine rg rfl ?_
 refine Rq ?_
 refine Rq ?_
 refine Rcall ?_
 refine ACall_eq (table_ok _ _ n hn l) ?_
 refine Rq ?_
 refine Rq ?_
 refine Rq ?_
 refine Rq ?_
 refine Rq ?_
 have tr : ∀ a b c d e f g h i j k m n o p q r s t u v w x y : AV, let l := lc_raceof5_ok a b c d e f g h i j k m n o p q; trim ((9,y)::(8,x)::(19,w)::(18,v)::(14,u)::(17,t)::(16,s)::(15,r)::l) l = [(0,a),(1,b),(2,c),(6,d),(7,e),(8,x),(9,y),(10,h),(12,i),(13,j),(21,k),(29,m),(30,n),(31,o),(32,p),(46,q)] := by intros; rfl
 refine R_nil (tr ..) ?_; clear tr
 refine then_n ?_
 refine at_seq rfl ?_
 refine at_seq rfl ?_
 refine rg rfl ?_
 refine Rq ?_
 refine Rq ?_
 have tr : ∀ a b c d e f g h i j k m n o p q r s : AV, let l := lc_raceof5_ok a b c d e f g h i j k m n o p q; trim ((21,s)::(20,r)::l) l = [(0,a),(1,b),(2,c),(6,d),(7,e),(8,f),(9,g),(10,h),(12,i),(13,j),(21,s),(29,m),(30,n),(31,o),(32,p),(46,q)] := by intros; rfl
 refine R_nil (tr ..) ?_; clear tr
 refine then_n ?_
 refine cdd (fun h1 => ?_) (fun h1 => ?_)
 ·
  try simp only [decide_eq_true_eq, decide_eq_false_iff_not, Bool.not_eq_true', Bool.not_eq_false', beq_iff_eq, beq_eq_false_iff_ne, ne_eq] at h1
  refine at_seq rfl ?_
  refine rg rfl ?_
  refine Rq ?_
  refine Rq ?_
  have lq6 := hget_lt q6
  refine A_store ty27 (by simp (disch := first | omega | (simp only [List.length_map, List.length_append, List.length_set, List.length_cons, List.length_nil]; omega)) only [go_sem, ↓reduceIte, Nat.reduceEqDiff, reduceCtorEq, q6] <;> rfl) (by simp (disch := first | omega | (simp only [List.length_map, List.length_append, List.length_set, List.length_cons, List.length_nil]; omega)) only [go_sem, ↓reduceIte, Nat.reduceEqDiff, reduceCtorEq, q6] <;> rfl) q6 ⟨by omega, rfl, by first | exact Nat.le_refl _ | simp⟩ (k' := [nilP, nilP]) rfl ?_
  intro HE wE
  have ewE := wE.len
  have q6 := wE.new
  refine Rq ?_
  have tr : ∀ a b c d e f g h i j k m n o p q r s t : AV, let l := lc_raceof5_ok a b c d e f g h i j k m n o p q; trim ((7,t)::(23,s)::(22,r)::l) l = [(0,a),(1,b),(2,c),(6,d),(7,t),(8,f),(9,g),(10,h),(12,i),(13,j),(21,k),(29,m),(30,n),(31,o),(32,p),(46,q)] := by intros; rfl
  refine R_nil (tr ..) ?_; clear tr
  refine then_n ?_
  refine at_ret rfl ?_
  refine then_r ?_
  refine fin_pure (rs := [.cell 6 27, .tmp 7]) rfl (by simp (disch := first | omega | (simp only [List.length_map, List.length_append, List.length_set, List.length_cons, List.length_nil]; omega)) only [go_sem, ↓reduceIte, Nat.reduceEqDiff, reduceCtorEq, q6] <;> rfl) (v := .tup [.agg [nilP, nilP], AV.i (chS n l)]) (by rfl) ?_
  refine ⟨?_, rfl⟩
  rw [(of_1 L (by assumption)).1, (of_1 L (by assumption)).2]
 ·
  try simp only [decide_eq_true_eq, decide_eq_false_iff_not, Bool.not_eq_true', Bool.not_eq_false', beq_iff_eq, beq_eq_false_iff_ne, ne_eq] at h1
  refine at_skip rfl ?_
  refine then_n ?_
  refine at_seq rfl ?_
  refine rls2 rfl rfl ?_
  have hc : chS n l = 0 := by first | assumption | omega
  obtain ⟨hn2, hl4, hpl⟩ := chS_z hc
  obtain ⟨zs, hzs⟩ : ∃ zs, zs = tabS n l := ⟨_, rfl⟩
  obtain ⟨hz0, hzl, hzt⟩ := tab_row hzs hc
  rewrite [← hzs, tbAV_ne hz0]
  refine Lq ?_
  refine Lq ?_
  refine L_nil ?_
  refine R_makeSlice (ms25 _ _ n _ _ _ (by omega) (by omega) (by simp (disch := first | omega | (simp only [List.length_map, List.length_append, List.length_set, List.length_cons, List.length_nil]; omega)) only [go_sem, ↓reduceIte, Nat.reduceEqDiff, reduceCtorEq]) (by simp (disch := first | omega | (simp only [List.length_map, List.length_append, List.length_set, List.length_cons, List.length_nil]; omega)) only [go_sem, ↓reduceIte, Nat.reduceEqDiff, reduceCtorEq])) ?_
  refine Rcall ?_
  refine ACall_eq (clone_ok _ _ L (by omega)) ?_
  refine R_q rfl (by simp (disch := first | omega | (simp only [List.length_map, List.length_append, List.length_set, List.length_cons, List.length_nil]; omega)) only [go_sem, ↓reduceIte, Nat.reduceEqDiff, reduceCtorEq]; exact bld27 rfl rfl) ?_
  refine R_alloc (z := [.slice none 0 0, .slice none 0 0]) (by simp (disch := first | omega | (simp only [List.length_map, List.length_append, List.length_set, List.length_cons, List.length_nil]; omega)) only [go_sem, ↓reduceIte, Nat.reduceEqDiff, reduceCtorEq] <;> rfl) rfl (H' := _ ++ [some [nilP, nilP]]) rfl ?_
  refine R_end ⟨?_, ?_⟩
  ·
   refine ⟨?_, ?_⟩
   ·
    refine R_makeSlice (ms25 _ _ n _ _ _ (by omega) (by omega) (by simp (disch := first | omega | (simp only [List.length_map, List.length_append, List.length_set, List.length_cons, List.length_nil]; omega)) only [go_sem, ↓reduceIte, Nat.reduceEqDiff, reduceCtorEq]) (by simp (disch := first | omega | (simp only [List.length_map, List.length_append, List.length_set, List.length_cons, List.length_nil]; omega)) only [go_sem, ↓reduceIte, Nat.reduceEqDiff, reduceCtorEq])) ?_
    refine Rcall ?_
    refine ACall_eq (clone_ok _ _ L (by omega)) ?_
    refine R_alloc (z := [.slice none 0 0, .slice none 0 0]) (by simp (disch := first | omega | (simp only [List.length_map, List.length_append, List.length_set, List.length_cons, List.length_nil]; omega)) only [go_sem, ↓reduceIte, Nat.reduceEqDiff, reduceCtorEq] <;> rfl) rfl (H' := _ ++ [some [nilP, nilP]]) rfl ?_
    refine R_q rfl (by simp (disch := first | omega | (simp only [List.length_map, List.length_append, List.length_set, List.length_cons, List.length_nil]; omega)) only [go_sem, ↓reduceIte, Nat.reduceEqDiff, reduceCtorEq]; exact bld27 rfl rfl) ?_
    refine R_end ?_
    refine ⟨[0, 1], by simp [hset], by simp [hset], by simp [hset], by decide, by decide, by decide, ?_, ?_⟩
    · intro t ht
      simp only [List.mem_cons, List.not_mem_nil, or_false] at ht
      rcases ht with rfl | rfl
      · simp only [get_cons, put_some, ↓reduceIte, Nat.reduceEqDiff, ren_os, ren_oo, ren_p8, List.length_append, List.length_cons, List.length_nil, hset, List.length_set, Nat.zero_add, Nat.add_assoc, Nat.reduceAdd, rnB_add, rnB_zero]
        first | done | rfl
      · simp only [get_cons, put_some, ↓reduceIte, Nat.reduceEqDiff, ren_os, ren_oo, ren_p8, List.length_append, List.length_cons, List.length_nil, hset, List.length_set, Nat.zero_add, Nat.add_assoc, Nat.reduceAdd, rnB_add, rnB_zero]
        first | done | rfl
    · intro k hk
      simp only [List.mem_cons, List.not_mem_nil, or_false] at hk
      rcases hk with rfl | rfl <;> first | (simp [hget, hset, ints_ren, prs_ren]; done) | (simp [hget, hset, ints_ren, prs_ren, ren])
   refine ⟨?_, ?_⟩
   ·
    refine R_makeSlice (ms25 _ _ n _ _ _ (by omega) (by omega) (by simp (disch := first | omega | (simp only [List.length_map, List.length_append, List.length_set, List.length_cons, List.length_nil]; omega)) only [go_sem, ↓reduceIte, Nat.reduceEqDiff, reduceCtorEq]) (by simp (disch := first | omega | (simp only [List.length_map, List.length_append, List.length_set, List.length_cons, List.length_nil]; omega)) only [go_sem, ↓reduceIte, Nat.reduceEqDiff, reduceCtorEq])) ?_
    refine R_alloc (z := [.slice none 0 0, .slice none 0 0]) (by simp (disch := first | omega | (simp only [List.length_map, List.length_append, List.length_set, List.length_cons, List.length_nil]; omega)) only [go_sem, ↓reduceIte, Nat.reduceEqDiff, reduceCtorEq] <;> rfl) rfl (H' := _ ++ [some [nilP, nilP]]) rfl ?_
    refine Rcall ?_
    refine ACall_eq (clone_ok _ _ L (by omega)) ?_
    refine R_q rfl (by simp (disch := first | omega | (simp only [List.length_map, List.length_append, List.length_set, List.length_cons, List.length_nil]; omega)) only [go_sem, ↓reduceIte, Nat.reduceEqDiff, reduceCtorEq]; exact bld27 rfl rfl) ?_
    refine R_end ?_
    refine ⟨[0, 1], by simp [hset], by simp [hset], by simp [hset], by decide, by decide, by decide, ?_, ?_⟩
    · intro t ht
      simp only [List.mem_cons, List.not_mem_nil, or_false] at ht
      rcases ht with rfl | rfl
      · simp only [get_cons, put_some, ↓reduceIte, Nat.reduceEqDiff, ren_os, ren_oo, ren_p8, List.length_append, List.length_cons, List.length_nil, hset, List.length_set, Nat.zero_add, Nat.add_assoc, Nat.reduceAdd, rnB_add, rnB_zero]
        first | done | rfl
      · simp only [get_cons, put_some, ↓reduceIte, Nat.reduceEqDiff, ren_os, ren_oo, ren_p8, List.length_append, List.length_cons, List.length_nil, hset, List.length_set, Nat.zero_add, Nat.add_assoc, Nat.reduceAdd, rnB_add, rnB_zero]
        first | done | rfl
    · intro k hk
      simp only [List.mem_cons, List.not_mem_nil, or_false] at hk
      rcases hk with rfl | rfl <;> first | (simp [hget, hset, ints_ren, prs_ren]; done) | (simp [hget, hset, ints_ren, prs_ren, ren])
   refine ⟨?_, ?_⟩
   ·
    refine Rcall ?_
    refine ACall_eq (clone_ok _ _ L (by omega)) ?_
    refine R_makeSlice (ms25 _ _ n _ _ _ (by omega) (by omega) (by simp (disch := first | omega | (simp only [List.length_map, List.length_append, List.length_set, List.length_cons, List.length_nil]; omega)) only [go_sem, ↓reduceIte, Nat.reduceEqDiff, reduceCtorEq]) (by simp (disch := first | omega | (simp only [List.length_map, List.length_append, List.length_set, List.length_cons, List.length_nil]; omega)) only [go_sem, ↓reduceIte, Nat.reduceEqDiff, reduceCtorEq])) ?_
    refine R_q rfl (by simp (disch := first | omega | (simp only [List.length_map, List.length_append, List.length_set, List.length_cons, List.length_nil]; omega)) only [go_sem, ↓reduceIte, Nat.reduceEqDiff, reduceCtorEq]; exact bld27 rfl rfl) ?_
    refine R_alloc (z := [.slice none 0 0, .slice none 0 0]) (by simp (disch := first | omega | (simp only [List.length_map, List.length_append, List.length_set, List.length_cons, List.length_nil]; omega)) only [go_sem, ↓reduceIte, Nat.reduceEqDiff, reduceCtorEq] <;> rfl) rfl (H' := _ ++ [some [nilP, nilP]]) rfl ?_
    refine R_end ?_
    refine ⟨[0, 1], by simp [hset], by simp [hset], by simp [hset], by decide, by decide, by decide, ?_, ?_⟩
    · intro t ht
      simp only [List.mem_cons, List.not_mem_nil, or_false] at ht
      rcases ht with rfl | rfl
      · simp only [get_cons, put_some, ↓reduceIte, Nat.reduceEqDiff, ren_os, ren_oo, ren_p8, List.length_append, List.length_cons, List.length_nil, hset, List.length_set, Nat.zero_add, Nat.add_assoc, Nat.reduceAdd, rnB_add, rnB_zero]
        first | done | rfl
      · simp only [get_cons, put_some, ↓reduceIte, Nat.reduceEqDiff, ren_os, ren_oo, ren_p8, List.length_append, List.length_cons, List.length_nil, hset, List.length_set, Nat.zero_add, Nat.add_assoc, Nat.reduceAdd, rnB_add, rnB_zero]
        first | done | rfl
    · intro k hk
      simp only [List.mem_cons, List.not_mem_nil, or_false] at hk
      rcases hk with rfl | rfl <;> first | (simp [hget, hset, ints_ren, prs_ren]; done) | (simp [hget, hset, ints_ren, prs_ren, ren])
   refine ⟨?_, ?_⟩
   ·
    refine Rcall ?_
    refine ACall_eq (clone_ok _ _ L (by omega)) ?_
    refine R_makeSlice (ms25 _ _ n _ _ _ (by omega) (by omega) (by simp (disch := first | omega | (simp only [List.length_map, List.length_append, List.length_set, List.length_cons, List.length_nil]; omega)) only [go_sem, ↓reduceIte, Nat.reduceEqDiff, reduceCtorEq]) (by simp (disch := first | omega | (simp only [List.length_map, List.length_append, List.length_set, List.length_cons, List.length_nil]; omega)) only [go_sem, ↓reduceIte, Nat.reduceEqDiff, reduceCtorEq])) ?_
    refine R_alloc (z := [.slice none 0 0, .slice none 0 0]) (by simp (disch := first | omega | (simp only [List.length_map, List.length_append, List.length_set, List.length_cons, List.length_nil]; omega)) only [go_sem, ↓reduceIte, Nat.reduceEqDiff, reduceCtorEq] <;> rfl) rfl (H' := _ ++ [some [nilP, nilP]]) rfl ?_
    refine R_q rfl (by simp (disch := first | omega | (simp only [List.length_map, List.length_append, List.length_set, List.length_cons, List.length_nil]; omega)) only [go_sem, ↓reduceIte, Nat.reduceEqDiff, reduceCtorEq]; exact bld27 rfl rfl) ?_
    refine R_end ?_
    refine ⟨[0, 1], by simp [hset], by simp [hset], by simp [hset], by decide, by decide, by decide, ?_, ?_⟩
    · intro t ht
      simp only [List.mem_cons, List.not_mem_nil, or_false] at ht
      rcases ht with rfl | rfl
      · simp only [get_cons, put_some, ↓reduceIte, Nat.reduceEqDiff, ren_os, ren_oo, ren_p8, List.length_append, List.length_cons, List.length_nil, hset, List.length_set, Nat.zero_add, Nat.add_assoc, Nat.reduceAdd, rnB_add, rnB_zero]
        first | done | rfl
      · simp only [get_cons, put_some, ↓reduceIte, Nat.reduceEqDiff, ren_os, ren_oo, ren_p8, List.length_append, List.length_cons, List.length_nil, hset, List.length_set, Nat.zero_add, Nat.add_assoc, Nat.reduceAdd, rnB_add, rnB_zero]
        first | done | rfl
    · intro k hk
      simp only [List.mem_cons, List.not_mem_nil, or_false] at hk
      rcases hk with rfl | rfl <;> first | (simp [hget, hset, ints_ren, prs_ren]; done) | (simp [hget, hset, ints_ren, prs_ren, ren])
   refine ⟨?_, ?_⟩
   ·
    refine Rcall ?_
    refine ACall_eq (clone_ok _ _ L (by omega)) ?_
    refine R_alloc (z := [.slice none 0 0, .slice none 0 0]) (by simp (disch := first | omega | (simp only [List.length_map, List.length_append, List.length_set, List.length_cons, List.length_nil]; omega)) only [go_sem, ↓reduceIte, Nat.reduceEqDiff, reduceCtorEq] <;> rfl) rfl (H' := _ ++ [some [nilP, nilP]]) rfl ?_
    refine R_makeSlice (ms25 _ _ n _ _ _ (by omega) (by omega) (by simp (disch := first | omega | (simp only [List.length_map, List.length_append, List.length_set, List.length_cons, List.length_nil]; omega)) only [go_sem, ↓reduceIte, Nat.reduceEqDiff, reduceCtorEq]) (by simp (disch := first | omega | (simp only [List.length_map, List.length_append, List.length_set, List.length_cons, List.length_nil]; omega)) only [go_sem, ↓reduceIte, Nat.reduceEqDiff, reduceCtorEq])) ?_
    refine R_q rfl (by simp (disch := first | omega | (simp only [List.length_map, List.length_append, List.length_set, List.length_cons, List.length_nil]; omega)) only [go_sem, ↓reduceIte, Nat.reduceEqDiff, reduceCtorEq]; exact bld27 rfl rfl) ?_
    refine R_end ?_
    refine ⟨[1, 0], by simp [hset], by simp [hset], by simp [hset], by decide, by decide, by decide, ?_, ?_⟩
    · intro t ht
      simp only [List.mem_cons, List.not_mem_nil, or_false] at ht
      rcases ht with rfl | rfl
      · simp only [get_cons, put_some, ↓reduceIte, Nat.reduceEqDiff, ren_os, ren_oo, ren_p8, List.length_append, List.length_cons, List.length_nil, hset, List.length_set, Nat.zero_add, Nat.add_assoc, Nat.reduceAdd, rnB_add, rnB_zero]
        first | done | rfl
      · simp only [get_cons, put_some, ↓reduceIte, Nat.reduceEqDiff, ren_os, ren_oo, ren_p8, List.length_append, List.length_cons, List.length_nil, hset, List.length_set, Nat.zero_add, Nat.add_assoc, Nat.reduceAdd, rnB_add, rnB_zero]
        first | done | rfl
    · intro k hk
      simp only [List.mem_cons, List.not_mem_nil, or_false] at hk
      rcases hk with rfl | rfl <;> first | (simp [hget, hset, ints_ren, prs_ren]; done) | (simp [hget, hset, ints_ren, prs_ren, ren])
   refine ⟨?_, ?_⟩
   ·
    refine R_alloc (z := [.slice none 0 0, .slice none 0 0]) (by simp (disch := first | omega | (simp only [List.length_map, List.length_append, List.length_set, List.length_cons, List.length_nil]; omega)) only [go_sem, ↓reduceIte, Nat.reduceEqDiff, reduceCtorEq] <;> rfl) rfl (H' := _ ++ [some [nilP, nilP]]) rfl ?_
    refine R_makeSlice (ms25 _ _ n _ _ _ (by omega) (by omega) (by simp (disch := first | omega | (simp only [List.length_map, List.length_append, List.length_set, List.length_cons, List.length_nil]; omega)) only [go_sem, ↓reduceIte, Nat.reduceEqDiff, reduceCtorEq]) (by simp (disch := first | omega | (simp only [List.length_map, List.length_append, List.length_set, List.length_cons, List.length_nil]; omega)) only [go_sem, ↓reduceIte, Nat.reduceEqDiff, reduceCtorEq])) ?_
    refine Rcall ?_
    refine ACall_eq (clone_ok _ _ L (by omega)) ?_
    refine R_q rfl (by simp (disch := first | omega | (simp only [List.length_map, List.length_append, List.length_set, List.length_cons, List.length_nil]; omega)) only [go_sem, ↓reduceIte, Nat.reduceEqDiff, reduceCtorEq]; exact bld27 rfl rfl) ?_
    refine R_end ?_
    refine ⟨[1, 0], by simp [hset], by simp [hset], by simp [hset], by decide, by decide, by decide, ?_, ?_⟩
    · intro t ht
      simp only [List.mem_cons, List.not_mem_nil, or_false] at ht
      rcases ht with rfl | rfl
      · simp only [get_cons, put_some, ↓reduceIte, Nat.reduceEqDiff, ren_os, ren_oo, ren_p8, List.length_append, List.length_cons, List.length_nil, hset, List.length_set, Nat.zero_add, Nat.add_assoc, Nat.reduceAdd, rnB_add, rnB_zero]
        first | done | rfl
      · simp only [get_cons, put_some, ↓reduceIte, Nat.reduceEqDiff, ren_os, ren_oo, ren_p8, List.length_append, List.length_cons, List.length_nil, hset, List.length_set, Nat.zero_add, Nat.add_assoc, Nat.reduceAdd, rnB_add, rnB_zero]
        first | done | rfl
    · intro k hk
      simp only [List.mem_cons, List.not_mem_nil, or_false] at hk
      rcases hk with rfl | rfl <;> first | (simp [hget, hset, ints_ren, prs_ren]; done) | (simp [hget, hset, ints_ren, prs_ren, ren])
   refine ⟨?_, ?_⟩
   ·
    refine R_alloc (z := [.slice none 0 0, .slice none 0 0]) (by simp (disch := first | omega | (simp only [List.length_map, List.length_append, List.length_set, List.length_cons, List.length_nil]; omega)) only [go_sem, ↓reduceIte, Nat.reduceEqDiff, reduceCtorEq] <;> rfl) rfl (H' := _ ++ [some [nilP, nilP]]) rfl ?_
    refine Rcall ?_
    refine ACall_eq (clone_ok _ _ L (by omega)) ?_
    refine R_makeSlice (ms25 _ _ n _ _ _ (by omega) (by omega) (by simp (disch := first | omega | (simp only [List.length_map, List.length_append, List.length_set, List.length_cons, List.length_nil]; omega)) only [go_sem, ↓reduceIte, Nat.reduceEqDiff, reduceCtorEq]) (by simp (disch := first | omega | (simp only [List.length_map, List.length_append, List.length_set, List.length_cons, List.length_nil]; omega)) only [go_sem, ↓reduceIte, Nat.reduceEqDiff, reduceCtorEq])) ?_
    refine R_q rfl (by simp (disch := first | omega | (simp only [List.length_map, List.length_append, List.length_set, List.length_cons, List.length_nil]; omega)) only [go_sem, ↓reduceIte, Nat.reduceEqDiff, reduceCtorEq]; exact bld27 rfl rfl) ?_
    refine R_end ?_
    refine ⟨[1, 0], by simp [hset], by simp [hset], by simp [hset], by decide, by decide, by decide, ?_, ?_⟩
    · intro t ht
      simp only [List.mem_cons, List.not_mem_nil, or_false] at ht
      rcases ht with rfl | rfl
      · simp only [get_cons, put_some, ↓reduceIte, Nat.reduceEqDiff, ren_os, ren_oo, ren_p8, List.length_append, List.length_cons, List.length_nil, hset, List.length_set, Nat.zero_add, Nat.add_assoc, Nat.reduceAdd, rnB_add, rnB_zero]
        first | done | rfl
      · simp only [get_cons, put_some, ↓reduceIte, Nat.reduceEqDiff, ren_os, ren_oo, ren_p8, List.length_append, List.length_cons, List.length_nil, hset, List.length_set, Nat.zero_add, Nat.add_assoc, Nat.reduceAdd, rnB_add, rnB_zero]
        first | done | rfl
    · intro k hk
      simp only [List.mem_cons, List.not_mem_nil, or_false] at hk
      rcases hk with rfl | rfl <;> first | (simp [hget, hset, ints_ren, prs_ren]; done) | (simp [hget, hset, ints_ren, prs_ren, ren])
   exact trivial
  rewrite [keep_two]
  refine Rp_env (e' := [(28, _), (10, _), (24, .any), (25, .any), (26, .any), (27, .any), (28, .any), (10, .any), (0, _), (1, _), (2, _), (6, _), (7, _), (8, _), (9, _), (10, _), (12, _), (13, _), (21, _), (29, _), (30, _), (31, _), (32, _), (46, _)]) rfl ?_
  simp only [put_some, get_cons, ↓reduceIte, Nat.reduceEqDiff]
  have q6 := (two_low (A := some ((List.replicate n.toNat (0 : Int)).map AV.i)) (B := some [nilP, nilP]) (hget_lt q6)).trans q6
  have qP := two_0 H1 (some ((List.replicate n.toNat (0 : Int)).map AV.i)) (some [nilP, nilP])
  have q10 := two_1 H1 (some ((List.replicate n.toNat (0 : Int)).map AV.i)) (some [nilP, nilP])
  have eHN : (H1 ++ [some ((List.replicate n.toNat (0 : Int)).map AV.i)] ++ [some [nilP, nilP]]).length = H1.length + 2 := by simp
  simp only [List.length_append, List.length_cons, List.length_nil, Nat.zero_add]
  obtain ⟨bP, hbP⟩ : ∃ b, b = H1.length := ⟨_, rfl⟩
  obtain ⟨bR, hbR⟩ : ∃ b, b = H1.length + 1 := ⟨_, rfl⟩
  generalize H1 ++ [some ((List.replicate n.toNat (0 : Int)).map AV.i)] ++ [some [nilP, nilP]] = HN at q6 qP q10 eHN ⊢
  rewrite [← hbP] at qP
  rewrite [← hbR] at q10
  rewrite [← hbR, ← hbP]
  have lq6 := hget_lt q6
  have lq10 := hget_lt q10
  have lqP := hget_lt qP
  refine A_store ty27 (by simp (disch := first | omega | (simp only [List.length_map, List.length_append, List.length_set, List.length_cons, List.length_nil]; omega)) only [go_sem, ↓reduceIte, Nat.reduceEqDiff, reduceCtorEq, q6, q10, qP] <;> rfl) (by simp (disch := first | omega | (simp only [List.length_map, List.length_append, List.length_set, List.length_cons, List.length_nil]; omega)) only [go_sem, ↓reduceIte, Nat.reduceEqDiff, reduceCtorEq, q6, q10, qP] <;> rfl) q10 ⟨by omega, rfl, by first | exact Nat.le_refl _ | simp⟩ (k' := [.own 1 bP 0 n.toNat, prsAV L]) rfl ?_
  intro H3 w1
  have ew1 := w1.len
  have q6 := (w1.old _ (by omega)).trans q6
  have qP := (w1.old _ (by omega)).trans qP
  have q10 := w1.new
  have tr : ∀ a b c d e f g h i j k m n o p q r s t u v w x y : AV, let l := lc_raceof5_ok a b c d e f g h i j k m n o p q; trim ((28,y)::(10,x)::(24,w)::(25,v)::(26,u)::(27,t)::(28,s)::(10,r)::l) l = [(0,a),(1,b),(2,c),(6,d),(7,e),(8,f),(9,g),(10,x),(12,i),(13,j),(21,k),(29,m),(30,n),(31,o),(32,p),(46,q)] := by intros; rfl
  refine R_nil (tr ..) ?_; clear tr
  refine then_n ?_
  refine at_seq rfl ?_
  refine at_seq rfl ?_
  refine rg rfl ?_
  refine Rq ?_
  refine Rq ?_
  refine Rq ?_
  have tr : ∀ a b c d e f g h i j k m n o p q r s t : AV, let l := lc_raceof5_ok a b c d e f g h i j k m n o p q; trim ((31,t)::(30,s)::(29,r)::l) l = [(0,a),(1,b),(2,c),(6,d),(7,e),(8,f),(9,g),(10,h),(12,i),(13,j),(21,k),(29,r),(30,s),(31,t),(32,p),(46,q)] := by intros; rfl
  refine R_nil (tr ..) ?_; clear tr
  refine then_n ?_
  refine at_block rfl ?_
  refine loop_n rfl (fun mm kv H' => ∃ u : Nat, ∃ x12 x32 : AV, (kv = [(12, x12), (31, AV.i (u : Int)), (32, x32)]) ∧ (mm = zs.length - u) ∧ (hget H' H.length = some [nilP, nilP]) ∧ (hget H' bR = some [.own 1 bP 0 n.toNat, prsAV L]) ∧ (hget H' bP = some ((ptsN n.toNat zs u).map AV.i)) ∧ (u ≤ zs.length) ∧ (HN.length ≤ H'.length)) ⟨0, _, _, rfl, rfl, by exact q6, by exact q10, by exact qP, by omega, by omega⟩ (by rfl) ?_
  rintro mm kv HB ⟨u, x12, x32, rfl, rfl, q6, q10, qP, hu, hHB⟩
  have tr : ∀ a b c d e f g h i j k m n o p q r s t : AV, upd [(0,a),(1,b),(2,c),(6,d),(7,e),(8,f),(9,g),(10,h),(12,i),(13,j),(21,k),(29,m),(30,n),(31,o),(32,p),(46,q)] [(12,r),(31,s),(32,t)] = [(0,a),(1,b),(2,c),(6,d),(7,e),(8,f),(9,g),(10,h),(12,r),(13,j),(21,k),(29,m),(30,n),(31,s),(32,t),(46,q)] := by intros; rfl
  refine W_to (tr ..) ?_; clear tr
  refine at_seq rfl ?_
  refine rg rfl ?_
  refine Rq ?_
  have tr : ∀ a b c d e f g h i j k m n o p q r : AV, let l := lc_raceof5_ok a b c d e f g h i j k m n o p q; trim ((32,r)::l) l = [(0,a),(1,b),(2,c),(6,d),(7,e),(8,f),(9,g),(10,h),(12,i),(13,j),(21,k),(29,m),(30,n),(31,o),(32,r),(46,q)] := by intros; rfl
  refine R_nil (tr ..) ?_; clear tr
  refine then_n ?_
  refine at_seq rfl ?_
  refine cdd (fun h2 => ?_) (fun h2 => ?_)
  ·
   try simp only [decide_eq_true_eq, decide_eq_false_iff_not, Bool.not_eq_true', Bool.not_eq_false', beq_iff_eq, beq_eq_false_iff_ne, ne_eq] at h2
   refine at_skip rfl ?_
   refine then_n ?_
   refine at_seq rfl ?_
   refine at_block rfl ?_
   refine at_seq rfl ?_
   refine rg rfl ?_
   refine Rq ?_
   refine R_q rfl (by simp (disch := first | omega | (simp only [List.length_map, List.length_append, List.length_set, List.length_cons, List.length_nil]; omega)) only [go_sem, ↓reduceIte, Nat.reduceEqDiff, reduceCtorEq, q6, q10, qP, q12] <;> rfl) ?_
   refine A_alloc rfl ?_
   intro H4 n2
   have en2 := n2.len
   have q6 := (n2.old _ (hget_lt q6)).trans q6
   have q10 := (n2.old _ (hget_lt q10)).trans q10
   have qP := (n2.old _ (hget_lt qP)).trans qP
   have q12 := n2.new
   have lq6 := hget_lt q6
   have lq10 := hget_lt q10
   have lqP := hget_lt qP
   have lq12 := hget_lt q12
   refine A_store ty47 (by simp (disch := first | omega | (simp only [List.length_map, List.length_append, List.length_set, List.length_cons, List.length_nil]; omega)) only [go_sem, ↓reduceIte, Nat.reduceEqDiff, reduceCtorEq, q6, q10, qP, q12] <;> rfl) (by simp (disch := first | omega | (simp only [List.length_map, List.length_append, List.length_set, List.length_cons, List.length_nil]; omega)) only [go_sem, ↓reduceIte, Nat.reduceEqDiff, reduceCtorEq, q6, q10, qP, q12] <;> rfl) q12 ⟨by omega, rfl, Nat.le_refl 10⟩ (k' := stL (gz zs u)) rfl ?_
   intro H5 w2
   have ew2 := w2.len
   have q6 := (w2.old _ (by omega)).trans q6
   have q10 := (w2.old _ (by omega)).trans q10
   have qP := (w2.old _ (by omega)).trans qP
   have q12 := w2.new
   have tr : ∀ a b c d e f g h i j k m n o p q r s t : AV, let l := lc_raceof5_ok a b c d e f g h i j k m n o p q; trim ((12,t)::(34,s)::(33,r)::l) l = [(0,a),(1,b),(2,c),(6,d),(7,e),(8,f),(9,g),(10,h),(12,t),(13,j),(21,k),(29,m),(30,n),(31,o),(32,p),(46,q)] := by intros; rfl
   refine R_nil (tr ..) ?_; clear tr
   refine then_n ?_
   refine rg rfl ?_
   have hut := hzt u (by omega)
   have hpl := pts_len n.toNat zs u
   refine Rq ?_
   refine R_q rfl (by simp (disch := first | omega | (simp only [List.length_map, List.length_append, List.length_set, List.length_cons, List.length_nil]; omega)) only [go_sem, ↓reduceIte, Nat.reduceEqDiff, reduceCtorEq, q6, q10, qP, q12] <;> rfl) ?_
   refine Rq ?_
   refine R_q rfl (by simp (disch := first | omega | (simp only [List.length_map, List.length_append, List.length_set, List.length_cons, List.length_nil]; omega)) only [go_sem, ↓reduceIte, Nat.reduceEqDiff, reduceCtorEq, q6, q10, qP, q12] <;> rfl) ?_
   refine Rq ?_
   refine R_q rfl (by simp (disch := first | omega | (simp only [List.length_map, List.length_append, List.length_set, List.length_cons, List.length_nil]; omega)) only [go_sem, ↓reduceIte, Nat.reduceEqDiff, reduceCtorEq, q6, q10, qP, q12] <;> rfl) ?_
   refine Rq ?_
   have lq6 := hget_lt q6
   have lq10 := hget_lt q10
   have lqP := hget_lt qP
   have lq12 := hget_lt q12
   refine A_store ty3 (by simp (disch := first | omega | (simp only [List.length_map, List.length_append, List.length_set, List.length_cons, List.length_nil]; omega)) only [go_sem, ↓reduceIte, Nat.reduceEqDiff, reduceCtorEq, q6, q10, qP, q12] <;> rfl) (by simp (disch := first | omega | (simp only [List.length_map, List.length_append, List.length_set, List.length_cons, List.length_nil]; omega)) only [go_sem, ↓reduceIte, Nat.reduceEqDiff, reduceCtorEq, q6, q10, qP, q12] <;> rfl) qP ⟨by omega, rfl, by simp only [List.length_map, pts_len]; omega⟩ (k' := (ptsN n.toNat zs (u + 1)).map AV.i) (by rw [setL_map]; rfl) ?_
   intro H6 w3
   have ew3 := w3.len
   have q6 := (w3.old _ (by omega)).trans q6
   have q10 := (w3.old _ (by omega)).trans q10
   have q12 := (w3.old _ (by omega)).trans q12
   have qP := w3.new
   have tr : ∀ a b c d e f g h i j k m n o p q r s t u v w x : AV, let l := lc_raceof5_ok a b c d e f g h i j k m n o p q; trim ((41,x)::(40,w)::(39,v)::(38,u)::(37,t)::(36,s)::(35,r)::l) l = [(0,a),(1,b),(2,c),(6,d),(7,e),(8,f),(9,g),(10,h),(12,i),(13,j),(21,k),(29,m),(30,n),(31,o),(32,p),(46,q)] := by intros; rfl
   refine R_nil (tr ..) ?_; clear tr
   refine blk_n ?_
   refine then_n ?_
   refine rg rfl ?_
   refine Rq ?_
   refine Rq ?_
   have tr : ∀ a b c d e f g h i j k m n o p q r s : AV, let l := lc_raceof5_ok a b c d e f g h i j k m n o p q; trim ((31,s)::(42,r)::l) l = [(0,a),(1,b),(2,c),(6,d),(7,e),(8,f),(9,g),(10,h),(12,i),(13,j),(21,k),(29,m),(30,n),(31,s),(32,p),(46,q)] := by intros; rfl
   refine R_nil (tr ..) ?_; clear tr
   refine then_n ?_
   exact ⟨_, _, ⟨u + 1, _, _, rfl, rfl, by exact q6, by exact q10, by exact qP, by omega, by (show HN.length ≤ H6.length; omega)⟩, by rfl, by omega⟩
  ·
   try simp only [decide_eq_true_eq, decide_eq_false_iff_not, Bool.not_eq_true', Bool.not_eq_false', beq_iff_eq, beq_eq_false_iff_ne, ne_eq] at h2
   refine at_exit rfl ?_
   refine then_x ?_
   refine then_x ?_
   refine blk_x ?_
   refine then_n ?_
   refine at_seq rfl ?_
   refine at_seq rfl ?_
   refine rg rfl ?_
   obtain rfl : u = zs.length := by omega
   refine R_q rfl (by simp (disch := first | omega | (simp only [List.length_map, List.length_append, List.length_set, List.length_cons, List.length_nil]; omega)) only [go_sem, ↓reduceIte, Nat.reduceEqDiff, reduceCtorEq, q6, q10, qP, q12] <;> rfl) ?_
   refine Rcall ?_
   refine ACall_eq (chk53_x _ _ (ptsN n.toNat zs zs.length) L _ (frz_of L qP (pts_len ..).symm)) ?_
   refine Rq ?_
   have tr : ∀ a b c d e f g h i j k m n o p q r s t : AV, let l := lc_raceof5_ok a b c d e f g h i j k m n o p q; trim ((13,t)::(44,s)::(43,r)::l) l = [(0,a),(1,b),(2,c),(6,d),(7,e),(8,f),(9,g),(10,h),(12,i),(13,t),(21,k),(29,m),(30,n),(31,o),(32,p),(46,q)] := by intros; rfl
   refine R_nil (tr ..) ?_; clear tr
   refine then_n ?_
   refine at_seq rfl ?_
   refine rg rfl ?_
   refine Rq ?_
   refine Rq ?_
   have tr : ∀ a b c d e f g h i j k m n o p q r s : AV, let l := lc_raceof5_ok a b c d e f g h i j k m n o p q; trim ((46,s)::(45,r)::l) l = [(0,a),(1,b),(2,c),(6,d),(7,e),(8,f),(9,g),(10,h),(12,i),(13,j),(21,k),(29,m),(30,n),(31,o),(32,p),(46,s)] := by intros; rfl
   refine R_nil (tr ..) ?_; clear tr
   refine then_n ?_
   refine cdd (fun h3 => ?_) (fun h3 => ?_)
   ·
    try simp only [decide_eq_true_eq, decide_eq_false_iff_not, Bool.not_eq_true', Bool.not_eq_false', beq_iff_eq, beq_eq_false_iff_ne, ne_eq] at h3
    refine at_seq rfl ?_
    refine rg rfl ?_
    refine Rq ?_
    refine Rq ?_
    have lq6 := hget_lt q6
    have lq10 := hget_lt q10
    have lqP := hget_lt qP
    refine A_store ty27 (by simp (disch := first | omega | (simp only [List.length_map, List.length_append, List.length_set, List.length_cons, List.length_nil]; omega)) only [go_sem, ↓reduceIte, Nat.reduceEqDiff, reduceCtorEq, q6, q10, qP] <;> rfl) (by simp (disch := first | omega | (simp only [List.length_map, List.length_append, List.length_set, List.length_cons, List.length_nil]; omega)) only [go_sem, ↓reduceIte, Nat.reduceEqDiff, reduceCtorEq, q6, q10, qP] <;> rfl) q6 ⟨by omega, rfl, by first | exact Nat.le_refl _ | simp⟩ (k' := [nilP, nilP]) rfl ?_
    intro HE wE
    have ewE := wE.len
    have q10 := (wE.old _ (by omega)).trans q10
    have qP := (wE.old _ (by omega)).trans qP
    have q6 := wE.new
    refine Rq ?_
    have tr : ∀ a b c d e f g h i j k m n o p q r s t : AV, let l := lc_raceof5_ok a b c d e f g h i j k m n o p q; trim ((7,t)::(48,s)::(47,r)::l) l = [(0,a),(1,b),(2,c),(6,d),(7,t),(8,f),(9,g),(10,h),(12,i),(13,j),(21,k),(29,m),(30,n),(31,o),(32,p),(46,q)] := by intros; rfl
    refine R_nil (tr ..) ?_; clear tr
    refine then_n ?_
    refine at_ret rfl ?_
    refine then_r ?_
    refine fin_pure (rs := [.cell 6 27, .tmp 7]) rfl (by simp (disch := first | omega | (simp only [List.length_map, List.length_append, List.length_set, List.length_cons, List.length_nil]; omega)) only [go_sem, ↓reduceIte, Nat.reduceEqDiff, reduceCtorEq, q6] <;> rfl) (v := .tup [.agg [nilP, nilP], AV.i (rchkS (ptsN n.toNat zs zs.length) L)]) (by rfl) ?_
    refine ⟨?_, rfl⟩
    rw [(of_2 hzs hc (by assumption)).1, (of_2 hzs hc (by assumption)).2]
   ·
    try simp only [decide_eq_true_eq, decide_eq_false_iff_not, Bool.not_eq_true', Bool.not_eq_false', beq_iff_eq, beq_eq_false_iff_ne, ne_eq] at h3
    refine at_skip rfl ?_
    refine then_n ?_
    refine at_seq rfl ?_
    refine rg rfl ?_
    refine R_q rfl (by simp (disch := first | omega | (simp only [List.length_map, List.length_append, List.length_set, List.length_cons, List.length_nil]; omega)) only [go_sem, ↓reduceIte, Nat.reduceEqDiff, reduceCtorEq, q6, q10, qP, q12] <;> rfl) ?_
    have lq6 := hget_lt q6
    have lq10 := hget_lt q10
    have lqP := hget_lt qP
    refine A_store ty27 (by simp (disch := first | omega | (simp only [List.length_map, List.length_append, List.length_set, List.length_cons, List.length_nil]; omega)) only [go_sem, ↓reduceIte, Nat.reduceEqDiff, reduceCtorEq, q6, q10, qP] <;> rfl) (by simp (disch := first | omega | (simp only [List.length_map, List.length_append, List.length_set, List.length_cons, List.length_nil]; omega)) only [go_sem, ↓reduceIte, Nat.reduceEqDiff, reduceCtorEq, q6, q10, qP] <;> rfl) q6 ⟨by omega, rfl, by first | exact Nat.le_refl _ | simp⟩ (k' := [.own 1 bP 0 n.toNat, prsAV L]) rfl ?_
    intro HE wE
    have ewE := wE.len
    have q10 := (wE.old _ (by omega)).trans q10
    have qP := (wE.old _ (by omega)).trans qP
    have q6 := wE.new
    refine Rq ?_
    have tr : ∀ a b c d e f g h i j k m n o p q r s : AV, let l := lc_raceof5_ok a b c d e f g h i j k m n o p q; trim ((7,s)::(49,r)::l) l = [(0,a),(1,b),(2,c),(6,d),(7,s),(8,f),(9,g),(10,h),(12,i),(13,j),(21,k),(29,m),(30,n),(31,o),(32,p),(46,q)] := by intros; rfl
    refine R_nil (tr ..) ?_; clear tr
    refine then_n ?_
    refine at_ret rfl ?_
    refine fin_pure (rs := [.cell 6 27, .tmp 7]) rfl (by simp (disch := first | omega | (simp only [List.length_map, List.length_append, List.length_set, List.length_cons, List.length_nil]; omega)) only [go_sem, ↓reduceIte, Nat.reduceEqDiff, reduceCtorEq, q6] <;> rfl) (v := .tup [.agg (raceC (ptsN n.toNat zs zs.length) L), AV.i 0]) (by show AV.tup [frz _ _ 7 _, AV.i 0] = _; rw [frz_ofb L qP (by omega) (pts_len ..).symm]) ?_
    refine ⟨?_, rfl⟩
    rw [(of_3 hzs hc (by assumption)).1, (of_3 hzs hc (by assumption)).2]

end Go.Proofs.Ytfnapmdedmbdbaa
end
