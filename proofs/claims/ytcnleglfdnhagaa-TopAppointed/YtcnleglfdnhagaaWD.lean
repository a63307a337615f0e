/-
  Walks of chapter 55. The steps are written by program (walk.py).
-/
import Derived.Test.YtcnleglfdnhagaaMz
import Derived.Test.YtcnleglfdnhagaaNB
import Derived.Test.YtcnleglfdnhagaaSig
set_option linter.unusedSimpArgs false
set_option linter.unusedVariables false
set_option maxHeartbeats 4000000
set_option maxRecDepth 20000
namespace Go.Proofs.Ytcnleglfdnhagaa
open Go Go.Am
abbrev lc_new_w (a b c d e f g h i j k m n o p q r s t u : AV) : Env := [(0,a),(1,b),(4,c),(5,d),(7,e),(8,f),(9,g),(10,h),(11,i),(17,j),(18,k),(19,m),(20,n),(26,o),(27,p),(28,q),(29,r),(61,s),(62,t),(63,u)]
theorem new_w (lim : Nat) (l : List Du) (us : List Um) (H : Heap) (hlim : lim ≤ H.length) (h0 : 0 < l.length) (hl : l.length ≤ 100) (hul : us.length ≤ 1000) (hds : ∀ u, (gt us u).ds.length ≤ 1000000) : ACall sig lim 11 [dusAV l, umsAV us] H fun r H' => NewOK H H' r l us := by
 have hst : True := trivial
 have hd : True := trivial
 have hrow : True := trivial
 have hum : True := trivial
 refine ACall_own (fa := fa11) rfl rfl rfl rfl ?_
 have tr : ∀ a0 a1 : AV, env0 fa11.keep [a0, a1] = [(0,a0),(1,a1),(4,.any),(5,.any),(7,.any),(8,.any),(9,.any),(10,.any),(11,.any),(17,.any),(18,.any),(19,.any),(20,.any),(26,.any),(27,.any),(28,.any),(29,.any),(61,.any),(62,.any),(63,.any)] := fun a0 a1 => rfl
 refine W_to (tr _ _) ?_; clear tr
 refine at_seq rfl ?_
 refine rg rfl ?_
 refine Rq ?_
 have tr : ∀ a b c d e f g h i j k m n o p q r s t u v : AV, let l := lc_new_w a b c d e f g h i j k m n o p q r s t u; trim ((4,v)::l) l = [(0,a),(1,b),(4,v),(5,d),(7,e),(8,f),(9,g),(10,h),(11,i),(17,j),(18,k),(19,m),(20,n),(26,o),(27,p),(28,q),(29,r),(61,s),(62,t),(63,u)] := by intros; rfl
 refine R_nil (tr ..) ?_; clear tr
 refine then_n ?_
 refine at_seq rfl ?_
 refine rg rfl ?_
 refine Rq ?_
 refine Rq ?_
 refine A_makeSlice (ms25 _ _ (us.length : Int) _ _ _ (by omega) (by omega) (by simp (disch := first | omega | (simp only [List.length_map, List.length_append, List.length_set, List.length_cons, List.length_nil]; omega)) only [go_sem, ↓reduceIte, Nat.reduceEqDiff, reduceCtorEq, hst, hd, hrow, hum]) (by simp (disch := first | omega | (simp only [List.length_map, List.length_append, List.length_set, List.length_cons, List.length_nil]; omega)) only [go_sem, ↓reduceIte, Nat.reduceEqDiff, reduceCtorEq, hst, hd, hrow, hum])) ?_
 intro HA nA
 rw [Int.toNat_natCast] at nA ⊢
 have eA := nA.len
 refine Rq ?_
 refine A_box rfl (by simp (disch := first | omega | (simp only [List.length_map, List.length_append, List.length_set, List.length_cons, List.length_nil]; omega)) only [go_sem, ↓reduceIte, Nat.reduceEqDiff, reduceCtorEq, hst, hd, hrow, hum]; rfl) ?_
 intro HB nB
 have eB := nB.len
 have W0 : NmW H HB us.length (fun i => us.map (mayB (gt l i))) 0 0 nilI nilI [] := ⟨by rw [← eA]; exact nB.new, (nB.old _ (by omega)).trans nA.new, .inl ⟨rfl, rfl⟩, .inl ⟨rfl, rfl⟩, fun _ => rfl, rfl, fun i hi => absurd hi (Nat.not_lt_zero _), fun c hc => (nB.old c (by omega)).trans (nA.old c hc), by omega⟩
 rw [eA]
 refine Rq ?_
 have tr : ∀ a b c d e f g h i j k m n o p q r s t u v w x y z A : AV, let l := lc_new_w a b c d e f g h i j k m n o p q r s t u; trim ((5,A)::(16,z)::(15,y)::(14,x)::(13,w)::(12,v)::l) l = [(0,a),(1,b),(4,c),(5,A),(7,e),(8,f),(9,g),(10,h),(11,i),(17,j),(18,k),(19,m),(20,n),(26,o),(27,p),(28,q),(29,r),(61,s),(62,t),(63,u)] := by intros; rfl
 refine R_nil (tr ..) ?_; clear tr
 refine then_n ?_
 refine at_seq rfl ?_
 refine at_seq rfl ?_
 refine rg rfl ?_
 refine Rq ?_
 refine Rq ?_
 refine Rq ?_
 have tr : ∀ a b c d e f g h i j k m n o p q r s t u v w x : AV, let l := lc_new_w a b c d e f g h i j k m n o p q r s t u; trim ((19,x)::(18,w)::(17,v)::l) l = [(0,a),(1,b),(4,c),(5,d),(7,e),(8,f),(9,g),(10,h),(11,i),(17,v),(18,w),(19,x),(20,n),(26,o),(27,p),(28,q),(29,r),(61,s),(62,t),(63,u)] := by intros; rfl
 refine R_nil (tr ..) ?_; clear tr
 refine then_n ?_
 refine at_block rfl ?_
 refine loop_n rfl (fun mm kv H' => ∃ m : Nat, ∃ oM : AV, ∃ oN : AV, ∃ rs : List Nat, ∃ x7 x8 x9 x10 x20 x26 x27 x28 x29 : AV, (kv = [(7, x7), (8, x8), (9, x9), (10, x10), (19, AV.i (m : Int)), (20, x20), (26, x26), (27, x27), (28, x28), (29, x29)]) ∧ (mm = l.length - m) ∧ (NmW H H' us.length (fun i => us.map (mayB (gt l i))) m m oM oN rs) ∧ (m ≤ l.length)) ⟨0, nilI, nilI, [], _, _, _, _, _, _, _, _, _, rfl, rfl, by exact W0, by omega⟩ (by rfl) ?_
 rintro mm kv H1 ⟨m, oM, oN, rs, x7, x8, x9, x10, x20, x26, x27, x28, x29, rfl, rfl, W1, hm⟩
 have tr : ∀ a b c d e f g h i j k m n o p q r s t u v w x y z A B C D E : AV, upd [(0,a),(1,b),(4,c),(5,d),(7,e),(8,f),(9,g),(10,h),(11,i),(17,j),(18,k),(19,m),(20,n),(26,o),(27,p),(28,q),(29,r),(61,s),(62,t),(63,u)] [(7,v),(8,w),(9,x),(10,y),(19,z),(20,A),(26,B),(27,C),(28,D),(29,E)] = [(0,a),(1,b),(4,c),(5,d),(7,v),(8,w),(9,x),(10,y),(11,i),(17,j),(18,k),(19,z),(20,A),(26,B),(27,C),(28,D),(29,E),(61,s),(62,t),(63,u)] := by intros; rfl
 refine W_to (tr ..) ?_; clear tr
 have hst := W1.st
 have hl1 := W1.len
 refine at_seq rfl ?_
 refine rg rfl ?_
 refine Rq ?_
 have tr : ∀ a b c d e f g h i j k m n o p q r s t u v : AV, let l := lc_new_w a b c d e f g h i j k m n o p q r s t u; trim ((20,v)::l) l = [(0,a),(1,b),(4,c),(5,d),(7,e),(8,f),(9,g),(10,h),(11,i),(17,j),(18,k),(19,m),(20,v),(26,o),(27,p),(28,q),(29,r),(61,s),(62,t),(63,u)] := by intros; rfl
 refine R_nil (tr ..) ?_; clear tr
 refine then_n ?_
 refine at_seq rfl ?_
 refine cdd (fun h1 => ?_) (fun h1 => ?_)
 ·
  try simp only [decide_eq_true_eq, decide_eq_false_iff_not, Bool.not_eq_true', Bool.not_eq_false', beq_iff_eq, beq_eq_false_iff_ne, ne_eq] at h1
  refine at_skip rfl ?_
  refine then_n ?_
  refine at_seq rfl ?_
  refine at_block rfl ?_
  refine at_seq rfl ?_
  refine rg rfl ?_
  refine Rq ?_
  refine R_q rfl (by simp (disch := first | omega | (simp only [List.length_map, List.length_append, List.length_set, List.length_cons, List.length_nil]; omega)) only [go_sem, ↓reduceIte, Nat.reduceEqDiff, reduceCtorEq, hst, hd, hrow, hum]; rfl) ?_
  refine A_alloc rfl ?_
  intro HC nC
  have eC := nC.len
  refine A_store ty32 (by simp (disch := first | omega | (simp only [List.length_map, List.length_append, List.length_set, List.length_cons, List.length_nil]; omega)) only [go_sem, ↓reduceIte, Nat.reduceEqDiff, reduceCtorEq, hst, hd, hrow, hum] <;> rfl) (by simp (disch := first | omega | (simp only [List.length_map, List.length_append, List.length_set, List.length_cons, List.length_nil]; omega)) only [go_sem, ↓reduceIte, Nat.reduceEqDiff, reduceCtorEq, hst, hd, hrow, hum] <;> rfl) nC.new ⟨by omega, rfl, Nat.le_refl 4⟩ (k' := duC (gt l m)) rfl ?_
  intro HD wD
  have eD := wD.len
  have hd := wD.new
  have tr : ∀ a b c d e f g h i j k m n o p q r s t u v w x : AV, let l := lc_new_w a b c d e f g h i j k m n o p q r s t u; trim ((7,x)::(22,w)::(21,v)::l) l = [(0,a),(1,b),(4,c),(5,d),(7,x),(8,f),(9,g),(10,h),(11,i),(17,j),(18,k),(19,m),(20,n),(26,o),(27,p),(28,q),(29,r),(61,s),(62,t),(63,u)] := by intros; rfl
  refine R_nil (tr ..) ?_; clear tr
  refine then_n ?_
  refine at_seq rfl ?_
  refine rg rfl ?_
  refine Rq ?_
  refine Rq ?_
  refine A_makeSlice (ms62 _ _ (us.length : Int) _ _ _ (by omega) (by omega) (by simp (disch := first | omega | (simp only [List.length_map, List.length_append, List.length_set, List.length_cons, List.length_nil]; omega)) only [go_sem, ↓reduceIte, Nat.reduceEqDiff, reduceCtorEq, hst, hd, hrow, hum]) (by simp (disch := first | omega | (simp only [List.length_map, List.length_append, List.length_set, List.length_cons, List.length_nil]; omega)) only [go_sem, ↓reduceIte, Nat.reduceEqDiff, reduceCtorEq, hst, hd, hrow, hum])) ?_
  intro HE nE
  rw [Int.toNat_natCast] at nE ⊢
  have eE := nE.len
  have hrow := nE.new
  have hd := (nE.old _ (by omega)).trans hd
  refine Rq ?_
  have tr : ∀ a b c d e f g h i j k m n o p q r s t u v w x y : AV, let l := lc_new_w a b c d e f g h i j k m n o p q r s t u; trim ((8,y)::(25,x)::(24,w)::(23,v)::l) l = [(0,a),(1,b),(4,c),(5,d),(7,e),(8,y),(9,g),(10,h),(11,i),(17,j),(18,k),(19,m),(20,n),(26,o),(27,p),(28,q),(29,r),(61,s),(62,t),(63,u)] := by intros; rfl
  refine R_nil (tr ..) ?_; clear tr
  refine then_n ?_
  refine at_seq rfl ?_
  refine at_seq rfl ?_
  refine rg rfl ?_
  refine Rq ?_
  refine Rq ?_
  refine Rq ?_
  have tr : ∀ a b c d e f g h i j k m n o p q r s t u v w x : AV, let l := lc_new_w a b c d e f g h i j k m n o p q r s t u; trim ((28,x)::(27,w)::(26,v)::l) l = [(0,a),(1,b),(4,c),(5,d),(7,e),(8,f),(9,g),(10,h),(11,i),(17,j),(18,k),(19,m),(20,n),(26,v),(27,w),(28,x),(29,r),(61,s),(62,t),(63,u)] := by intros; rfl
  refine R_nil (tr ..) ?_; clear tr
  refine then_n ?_
  refine at_block rfl ?_
  refine loop_n rfl (fun mm kv H' => ∃ u : Nat, ∃ x9 x10 x29 : AV, (kv = [(9, x9), (10, x10), (28, AV.i (u : Int)), (29, x29)]) ∧ (mm = us.length - u) ∧ (hget H' H1.length = some (duC (gt l m))) ∧ (hget H' HD.length = some ((rowU (fun i => mayB (gt l m) (gt us i)) us.length u).map bv)) ∧ (∀ c, c < H1.length → hget H' c = hget H1 c) ∧ (H1.length + 2 ≤ H'.length) ∧ (u ≤ us.length)) ⟨0, _, _, _, rfl, rfl, by exact hd, by (rw [rowU_0]; exact hrow), by exact fun c hc => (nE.old c (by omega)).trans ((wD.old c (by omega)).trans (nC.old c hc)), by omega, by omega⟩ (by rfl) ?_
  rintro mm kv H2 ⟨u, x9, x10, x29, rfl, rfl, qd, qr, qk, ql, hu⟩
  have tr : ∀ a b c d e f g h i j k m n o p q r s t u v w x y : AV, upd [(0,a),(1,b),(4,c),(5,d),(7,e),(8,f),(9,g),(10,h),(11,i),(17,j),(18,k),(19,m),(20,n),(26,o),(27,p),(28,q),(29,r),(61,s),(62,t),(63,u)] [(9,v),(10,w),(28,x),(29,y)] = [(0,a),(1,b),(4,c),(5,d),(7,e),(8,f),(9,v),(10,w),(11,i),(17,j),(18,k),(19,m),(20,n),(26,o),(27,p),(28,x),(29,y),(61,s),(62,t),(63,u)] := by intros; rfl
  refine W_to (tr ..) ?_; clear tr
  have hst := (qk _ (by omega)).trans hst
  have hd := qd
  have hrow := qr
  have hlu := rowU_len (fun i => mayB (gt l m) (gt us i)) us.length u
  refine at_seq rfl ?_
  refine rg rfl ?_
  refine Rq ?_
  have tr : ∀ a b c d e f g h i j k m n o p q r s t u v : AV, let l := lc_new_w a b c d e f g h i j k m n o p q r s t u; trim ((29,v)::l) l = [(0,a),(1,b),(4,c),(5,d),(7,e),(8,f),(9,g),(10,h),(11,i),(17,j),(18,k),(19,m),(20,n),(26,o),(27,p),(28,q),(29,v),(61,s),(62,t),(63,u)] := by intros; rfl
  refine R_nil (tr ..) ?_; clear tr
  refine then_n ?_
  refine at_seq rfl ?_
  refine cdd (fun h2 => ?_) (fun h2 => ?_)
  ·
   try simp only [decide_eq_true_eq, decide_eq_false_iff_not, Bool.not_eq_true', Bool.not_eq_false', beq_iff_eq, beq_eq_false_iff_ne, ne_eq] at h2
   refine at_skip rfl ?_
   refine then_n ?_
   refine at_seq rfl ?_
   refine at_block rfl ?_
   refine at_seq rfl ?_
   refine rg rfl ?_
   refine Rq ?_
   refine Rq ?_
   refine R_q rfl (by simp (disch := first | omega | (simp only [List.length_map, List.length_append, List.length_set, List.length_cons, List.length_nil]; omega)) only [go_sem, ↓reduceIte, Nat.reduceEqDiff, reduceCtorEq, hst, hd, hrow, hum]; rfl) ?_
   refine A_alloc rfl ?_
   intro HF nF
   have eF := nF.len
   refine Rq ?_
   refine A_store ty35 (by simp (disch := first | omega | (simp only [List.length_map, List.length_append, List.length_set, List.length_cons, List.length_nil]; omega)) only [go_sem, ↓reduceIte, Nat.reduceEqDiff, reduceCtorEq, hst, hd, hrow, hum] <;> rfl) (by simp (disch := first | omega | (simp only [List.length_map, List.length_append, List.length_set, List.length_cons, List.length_nil]; omega)) only [go_sem, ↓reduceIte, Nat.reduceEqDiff, reduceCtorEq, hst, hd, hrow, hum] <;> rfl) nF.new ⟨by omega, rfl, Nat.le_refl 3⟩ (k' := umC (gt us u)) rfl ?_
   intro HG wG
   have eG := wG.len
   have hum := wG.new
   have hd := (wG.old _ (by omega)).trans ((nF.old _ (by omega)).trans hd)
   have hrow := (wG.old _ (by omega)).trans ((nF.old _ (by omega)).trans hrow)
   have tr : ∀ a b c d e f g h i j k m n o p q r s t u v w x y z : AV, let l := lc_new_w a b c d e f g h i j k m n o p q r s t u; trim ((9,z)::(10,y)::(32,x)::(31,w)::(30,v)::l) l = [(0,a),(1,b),(4,c),(5,d),(7,e),(8,f),(9,z),(10,y),(11,i),(17,j),(18,k),(19,m),(20,n),(26,o),(27,p),(28,q),(29,r),(61,s),(62,t),(63,u)] := by intros; rfl
   refine R_nil (tr ..) ?_; clear tr
   refine then_n ?_
   refine rg rfl ?_
   refine Rq ?_
   refine Rq ?_
   refine R_q rfl (by simp (disch := first | omega | (simp only [List.length_map, List.length_append, List.length_set, List.length_cons, List.length_nil]; omega)) only [go_sem, ↓reduceIte, Nat.reduceEqDiff, reduceCtorEq, hst, hd, hrow, hum]; rfl) ?_
   refine R_q rfl (by simp (disch := first | omega | (simp only [List.length_map, List.length_append, List.length_set, List.length_cons, List.length_nil]; omega)) only [go_sem, ↓reduceIte, Nat.reduceEqDiff, reduceCtorEq, hst, hd, hrow, hum]; rfl) ?_
   refine Rcall ?_
   refine ACall_eq (may_ok _ _ (gt l m) (gt us u) (hds u)) ?_
   refine Rq ?_
   refine A_store ty4 (by simp (disch := first | omega | (simp only [List.length_map, List.length_append, List.length_set, List.length_cons, List.length_nil]; omega)) only [go_sem, ↓reduceIte, Nat.reduceEqDiff, reduceCtorEq, hst, hd, hrow, hum] <;> rfl) (by simp (disch := first | omega | (simp only [List.length_map, List.length_append, List.length_set, List.length_cons, List.length_nil]; omega)) only [go_sem, ↓reduceIte, Nat.reduceEqDiff, reduceCtorEq, hst, hd, hrow, hum] <;> rfl) hrow ⟨by omega, rfl, by simp only [List.length_map]; show u + 1 ≤ _; omega⟩ (setm bv _ u (mayB (gt l m) (gt us u)) (by omega)) ?_
   intro HI wI
   have eI := wI.len
   have hrow := wI.new
   have hd := (wI.old _ (by omega)).trans hd
   have tr : ∀ a b c d e f g h i j k m n o p q r s t u v w x y z A : AV, let l := lc_new_w a b c d e f g h i j k m n o p q r s t u; trim ((38,A)::(37,z)::(36,y)::(35,x)::(34,w)::(33,v)::l) l = [(0,a),(1,b),(4,c),(5,d),(7,e),(8,f),(9,g),(10,h),(11,i),(17,j),(18,k),(19,m),(20,n),(26,o),(27,p),(28,q),(29,r),(61,s),(62,t),(63,u)] := by intros; rfl
   refine R_nil (tr ..) ?_; clear tr
   refine blk_n ?_
   refine then_n ?_
   refine rg rfl ?_
   refine Rq ?_
   refine Rq ?_
   have tr : ∀ a b c d e f g h i j k m n o p q r s t u v w : AV, let l := lc_new_w a b c d e f g h i j k m n o p q r s t u; trim ((28,w)::(39,v)::l) l = [(0,a),(1,b),(4,c),(5,d),(7,e),(8,f),(9,g),(10,h),(11,i),(17,j),(18,k),(19,m),(20,n),(26,o),(27,p),(28,w),(29,r),(61,s),(62,t),(63,u)] := by intros; rfl
   refine R_nil (tr ..) ?_; clear tr
   refine then_n ?_
   exact ⟨_, _, ⟨u + 1, _, _, _, rfl, rfl, by exact hd, by (rw [rowU_set _ (by omega)] at hrow; exact hrow), by exact fun c hc => (wI.old c (by omega)).trans ((wG.old c (by omega)).trans ((nF.old c (by omega)).trans (qk c hc))), by (show H1.length + 2 ≤ HI.length; omega), by omega⟩, by rfl, by omega⟩
  ·
   try simp only [decide_eq_true_eq, decide_eq_false_iff_not, Bool.not_eq_true', Bool.not_eq_false', beq_iff_eq, beq_eq_false_iff_ne, ne_eq] at h2
   refine at_exit rfl ?_
   refine then_x ?_
   refine then_x ?_
   refine blk_x ?_
   refine then_n ?_
   refine at_seq rfl ?_
   refine rg rfl ?_
   refine Rq ?_
   refine Rq ?_
   refine Rq ?_
   refine Rq ?_
   refine R_q rfl (by simp (disch := first | omega | (simp only [List.length_map, List.length_append, List.length_set, List.length_cons, List.length_nil]; omega)) only [go_sem, ↓reduceIte, Nat.reduceEqDiff, reduceCtorEq, hst, hd, hrow, hum]; rfl) ?_
   refine Rq ?_
   refine A_buildSlice (bs59 _ _ _ _ HD.length us.length (by simp (disch := first | omega | (simp only [List.length_map, List.length_append, List.length_set, List.length_cons, List.length_nil]; omega)) only [go_sem, ↓reduceIte, Nat.reduceEqDiff, reduceCtorEq, hst, hd, hrow, hum])) ?_
   intro HJ nJ
   have eJ := nJ.len
   obtain rfl : u = us.length := by omega
   rw [rowU_n] at hrow
   have W2 := W1.grow qk (by omega)
   obtain ⟨cb, hcl, hcb, HK, hap, gK⟩ := outR_append (lim := lim) (r := HD.length) (n := us.length) ((W2.grow (fun c hc => nJ.old c hc) (by omega)).rM) nJ.new (by omega) (by omega) (by have := W1.rl; omega)
   rw [W1.rl] at hap
   refine A_append ⟨HK, by simp (disch := first | omega | (simp only [List.length_map, List.length_append, List.length_set, List.length_cons, List.length_nil]; omega)) only [go_sem, ↓reduceIte, Nat.reduceEqDiff, reduceCtorEq, hst, hd, hrow, hum]; exact hap, gK⟩ ?_
   intro HL gL
   have eL := gL.len
   have hst := (gL.old _ (by omega) (by omega)).trans ((nJ.old _ (by omega)).trans W2.st)
   refine Rq ?_
   refine Rq ?_
   refine A_store ty59 (by simp (disch := first | omega | (simp only [List.length_map, List.length_append, List.length_set, List.length_cons, List.length_nil]; omega)) only [go_sem, ↓reduceIte, Nat.reduceEqDiff, reduceCtorEq, hst, hd, hrow, hum] <;> rfl) (by simp (disch := first | omega | (simp only [List.length_map, List.length_append, List.length_set, List.length_cons, List.length_nil]; omega)) only [go_sem, ↓reduceIte, Nat.reduceEqDiff, reduceCtorEq, hst, hd, hrow, hum] <;> rfl) hst ⟨by omega, rfl, by simp⟩ (k' := _) (by rw [setL_one] <;> rfl) ?_
   intro HM wM
   have eM := wM.len
   have W3 := nm_row W2 (by omega) hrow rfl nJ hcl hcb gL wM
   have hst := W3.st
   have tr : ∀ a b c d e f g h i j k m n o p q r s t u v w x y z A B C D E : AV, let l := lc_new_w a b c d e f g h i j k m n o p q r s t u; trim ((49,E)::(48,D)::(47,C)::(46,B)::(45,A)::(44,z)::(43,y)::(42,x)::(41,w)::(40,v)::l) l = [(0,a),(1,b),(4,c),(5,d),(7,e),(8,f),(9,g),(10,h),(11,i),(17,j),(18,k),(19,m),(20,n),(26,o),(27,p),(28,q),(29,r),(61,s),(62,t),(63,u)] := by intros; rfl
   refine R_nil (tr ..) ?_; clear tr
   refine then_n ?_
   refine rg rfl ?_
   refine Rq ?_
   refine Rq ?_
   refine Rq ?_
   refine Rq ?_
   refine R_q rfl (by simp (disch := first | omega | (simp only [List.length_map, List.length_append, List.length_set, List.length_cons, List.length_nil]; omega)) only [go_sem, ↓reduceIte, Nat.reduceEqDiff, reduceCtorEq, hst, hd, hrow, hum]; rfl) ?_
   refine A_buildSlice (bs25 _ _ _ _ 2 (by simp (disch := first | omega | (simp only [List.length_map, List.length_append, List.length_set, List.length_cons, List.length_nil]; omega)) only [go_sem, ↓reduceIte, Nat.reduceEqDiff, reduceCtorEq, hst, hd, hrow, hum])) ?_
   intro HN nN
   have eN := nN.len
   obtain ⟨cb2, hcl2, hcb2, HO, hap2, gO⟩ := outI_append2 (lim := lim) (v := 2) ((W3.grow (fun c hc => nN.old c hc) (by omega)).rN) nN.new (by omega) (by omega) (by rw [List.length_replicate]; omega) (fun h => W3.n0 (by simpa using h))
   rw [List.length_replicate] at hap2
   refine A_append ⟨HO, by simp (disch := first | omega | (simp only [List.length_map, List.length_append, List.length_set, List.length_cons, List.length_nil]; omega)) only [go_sem, ↓reduceIte, Nat.reduceEqDiff, reduceCtorEq, hst, hd, hrow, hum]; exact hap2, gO⟩ ?_
   intro HP gP
   have eP := gP.len
   have hst := (gP.old _ (by omega) (by omega)).trans ((nN.old _ (by omega)).trans hst)
   refine Rq ?_
   refine Rq ?_
   refine A_store ty25 (by simp (disch := first | omega | (simp only [List.length_map, List.length_append, List.length_set, List.length_cons, List.length_nil]; omega)) only [go_sem, ↓reduceIte, Nat.reduceEqDiff, reduceCtorEq, hst, hd, hrow, hum] <;> rfl) (by simp (disch := first | omega | (simp only [List.length_map, List.length_append, List.length_set, List.length_cons, List.length_nil]; omega)) only [go_sem, ↓reduceIte, Nat.reduceEqDiff, reduceCtorEq, hst, hd, hrow, hum] <;> rfl) hst ⟨by omega, rfl, by simp⟩ (k' := _) (by rw [setL_one] <;> rfl) ?_
   intro HQ wQ
   have eQ := wQ.len
   have W4 := nm_need W3 nN hcl2 hcb2 gP wQ
   have tr : ∀ a b c d e f g h i j k m n o p q r s t u v w x y z A B C D : AV, let l := lc_new_w a b c d e f g h i j k m n o p q r s t u; trim ((58,D)::(57,C)::(56,B)::(55,A)::(54,z)::(53,y)::(52,x)::(51,w)::(50,v)::l) l = [(0,a),(1,b),(4,c),(5,d),(7,e),(8,f),(9,g),(10,h),(11,i),(17,j),(18,k),(19,m),(20,n),(26,o),(27,p),(28,q),(29,r),(61,s),(62,t),(63,u)] := by intros; rfl
   refine R_nil (tr ..) ?_; clear tr
   refine blk_n ?_
   refine then_n ?_
   refine rg rfl ?_
   refine Rq ?_
   refine Rq ?_
   have tr : ∀ a b c d e f g h i j k m n o p q r s t u v w : AV, let l := lc_new_w a b c d e f g h i j k m n o p q r s t u; trim ((19,w)::(59,v)::l) l = [(0,a),(1,b),(4,c),(5,d),(7,e),(8,f),(9,g),(10,h),(11,i),(17,j),(18,k),(19,w),(20,n),(26,o),(27,p),(28,q),(29,r),(61,s),(62,t),(63,u)] := by intros; rfl
   refine R_nil (tr ..) ?_; clear tr
   refine then_n ?_
   exact ⟨_, _, ⟨m + 1, .own 1 HJ.length 0 (m + 1), .own 1 HN.length 0 (m + 1), rs ++ [HD.length], _, _, _, _, _, _, _, _, _, rfl, rfl, by exact W4, by omega⟩, by rfl, by omega⟩
 ·
  try simp only [decide_eq_true_eq, decide_eq_false_iff_not, Bool.not_eq_true', Bool.not_eq_false', beq_iff_eq, beq_eq_false_iff_ne, ne_eq] at h1
  refine at_exit rfl ?_
  refine then_x ?_
  refine then_x ?_
  refine blk_x ?_
  refine then_n ?_
  refine at_seq rfl ?_
  refine at_seq rfl ?_
  refine rg rfl ?_
  refine Rq ?_
  refine Rq ?_
  refine Rq ?_
  have tr : ∀ a b c d e f g h i j k m n o p q r s t u v w x : AV, let l := lc_new_w a b c d e f g h i j k m n o p q r s t u; trim ((62,x)::(61,w)::(60,v)::l) l = [(0,a),(1,b),(4,c),(5,d),(7,e),(8,f),(9,g),(10,h),(11,i),(17,j),(18,k),(19,m),(20,n),(26,o),(27,p),(28,q),(29,r),(61,w),(62,x),(63,u)] := by intros; rfl
  refine R_nil (tr ..) ?_; clear tr
  refine then_n ?_
  refine at_block rfl ?_
  refine loop_n rfl (fun mm kv H' => ∃ u : Nat, ∃ x11 x63 : AV, (kv = [(11, x11), (62, AV.i (u : Int)), (63, x63)]) ∧ (mm = us.length - u) ∧ (hget H' H.length = some ((usU us.length u).map AV.i)) ∧ (∀ c, c ≠ H.length → hget H' c = hget H1 c) ∧ (H'.length = H1.length) ∧ (u ≤ us.length)) ⟨0, _, _, rfl, rfl, by (unfold usU; simpa using W1.hu), by exact fun _ _ => rfl, by rfl, by omega⟩ (by rfl) ?_
  rintro mm kv H5 ⟨u, x11, x63, rfl, rfl, q5, k5, e5, hu⟩
  have tr : ∀ a b c d e f g h i j k m n o p q r s t u v w x : AV, upd [(0,a),(1,b),(4,c),(5,d),(7,e),(8,f),(9,g),(10,h),(11,i),(17,j),(18,k),(19,m),(20,n),(26,o),(27,p),(28,q),(29,r),(61,s),(62,t),(63,u)] [(11,v),(62,w),(63,x)] = [(0,a),(1,b),(4,c),(5,d),(7,e),(8,f),(9,g),(10,h),(11,v),(17,j),(18,k),(19,m),(20,n),(26,o),(27,p),(28,q),(29,r),(61,s),(62,w),(63,x)] := by intros; rfl
  refine W_to (tr ..) ?_; clear tr
  have hst := (k5 _ (by omega)).trans hst
  have hum := q5
  have hlu := usU_len us.length u hu
  refine at_seq rfl ?_
  refine rg rfl ?_
  refine Rq ?_
  have tr : ∀ a b c d e f g h i j k m n o p q r s t u v : AV, let l := lc_new_w a b c d e f g h i j k m n o p q r s t u; trim ((63,v)::l) l = [(0,a),(1,b),(4,c),(5,d),(7,e),(8,f),(9,g),(10,h),(11,i),(17,j),(18,k),(19,m),(20,n),(26,o),(27,p),(28,q),(29,r),(61,s),(62,t),(63,v)] := by intros; rfl
  refine R_nil (tr ..) ?_; clear tr
  refine then_n ?_
  refine at_seq rfl ?_
  refine cdd (fun h3 => ?_) (fun h3 => ?_)
  ·
   try simp only [decide_eq_true_eq, decide_eq_false_iff_not, Bool.not_eq_true', Bool.not_eq_false', beq_iff_eq, beq_eq_false_iff_ne, ne_eq] at h3
   refine at_skip rfl ?_
   refine then_n ?_
   refine at_seq rfl ?_
   refine at_block rfl ?_
   refine at_seq rfl ?_
   refine rg rfl ?_
   refine Rq ?_
   refine Rq ?_
   have tr : ∀ a b c d e f g h i j k m n o p q r s t u v w : AV, let l := lc_new_w a b c d e f g h i j k m n o p q r s t u; trim ((11,w)::(64,v)::l) l = [(0,a),(1,b),(4,c),(5,d),(7,e),(8,f),(9,g),(10,h),(11,w),(17,j),(18,k),(19,m),(20,n),(26,o),(27,p),(28,q),(29,r),(61,s),(62,t),(63,u)] := by intros; rfl
   refine R_nil (tr ..) ?_; clear tr
   refine then_n ?_
   refine rg rfl ?_
   refine Rq ?_
   refine Rq ?_
   refine Rq ?_
   refine R_q rfl (by simp (disch := first | omega | (simp only [List.length_map, List.length_append, List.length_set, List.length_cons, List.length_nil]; omega)) only [go_sem, ↓reduceIte, Nat.reduceEqDiff, reduceCtorEq, hst, hd, hrow, hum]; rfl) ?_
   refine Rq ?_
   refine Rq ?_
   refine A_store ty3 (by simp (disch := first | omega | (simp only [List.length_map, List.length_append, List.length_set, List.length_cons, List.length_nil]; omega)) only [go_sem, ↓reduceIte, Nat.reduceEqDiff, reduceCtorEq, hst, hd, hrow, hum] <;> rfl) (by simp (disch := first | omega | (simp only [List.length_map, List.length_append, List.length_set, List.length_cons, List.length_nil]; omega)) only [go_sem, ↓reduceIte, Nat.reduceEqDiff, reduceCtorEq, hst, hd, hrow, hum] <;> rfl) hum ⟨by omega, rfl, by simp only [List.length_map]; show u + 1 ≤ _; omega⟩ (setm AV.i _ u (-1) (by omega)) ?_
   intro H6 w6
   have tr : ∀ a b c d e f g h i j k m n o p q r s t u v w x y z A : AV, let l := lc_new_w a b c d e f g h i j k m n o p q r s t u; trim ((70,A)::(69,z)::(68,y)::(67,x)::(66,w)::(65,v)::l) l = [(0,a),(1,b),(4,c),(5,d),(7,e),(8,f),(9,g),(10,h),(11,i),(17,j),(18,k),(19,m),(20,n),(26,o),(27,p),(28,q),(29,r),(61,s),(62,t),(63,u)] := by intros; rfl
   refine R_nil (tr ..) ?_; clear tr
   refine blk_n ?_
   refine then_n ?_
   refine rg rfl ?_
   refine Rq ?_
   refine Rq ?_
   have tr : ∀ a b c d e f g h i j k m n o p q r s t u v w : AV, let l := lc_new_w a b c d e f g h i j k m n o p q r s t u; trim ((62,w)::(71,v)::l) l = [(0,a),(1,b),(4,c),(5,d),(7,e),(8,f),(9,g),(10,h),(11,i),(17,j),(18,k),(19,m),(20,n),(26,o),(27,p),(28,q),(29,r),(61,s),(62,w),(63,u)] := by intros; rfl
   refine R_nil (tr ..) ?_; clear tr
   refine then_n ?_
   exact ⟨_, _, ⟨u + 1, _, _, rfl, rfl, by (have q6 := w6.new; rw [usU_set (by omega)] at q6; exact q6), by exact fun c hc => (w6.old c hc).trans (k5 c hc), by (rw [w6.len]; exact e5), by omega⟩, by rfl, by omega⟩
  ·
   try simp only [decide_eq_true_eq, decide_eq_false_iff_not, Bool.not_eq_true', Bool.not_eq_false', beq_iff_eq, beq_eq_false_iff_ne, ne_eq] at h3
   refine at_exit rfl ?_
   refine then_x ?_
   refine then_x ?_
   refine blk_x ?_
   refine then_n ?_
   refine at_seq rfl ?_
   refine rg rfl ?_
   refine Rq ?_
   refine Rq ?_
   have tr : ∀ a b c d e f g h i j k m n o p q r s t u v w : AV, let l := lc_new_w a b c d e f g h i j k m n o p q r s t u; trim ((4,w)::(72,v)::l) l = [(0,a),(1,b),(4,w),(5,d),(7,e),(8,f),(9,g),(10,h),(11,i),(17,j),(18,k),(19,m),(20,n),(26,o),(27,p),(28,q),(29,r),(61,s),(62,t),(63,u)] := by intros; rfl
   refine R_nil (tr ..) ?_; clear tr
   refine then_n ?_
   refine at_ret rfl ?_
   refine fin_own rfl (by simp only [go_sem, ↓reduceIte, Nat.reduceEqDiff]; rfl) ?_
   obtain rfl : u = us.length := by omega
   obtain rfl : m = l.length := by omega
   exact new_ok W1 h0 q5 k5 e5

end Go.Proofs.Ytcnleglfdnhagaa
