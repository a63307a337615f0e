/-
  Walks of the seat of TopReserve. The steps are written by program (walk.py).
-/
import Derived.Test.YtkjgmpjnhfmecaaNw
import Derived.Test.YtkjgmpjnhfmecaaRB
import Derived.Test.YtkjgmpjnhfmecaaRC
set_option linter.unusedSimpArgs false
set_option linter.unusedVariables false
set_option maxHeartbeats 40000000
set_option maxRecDepth 4000
namespace Go.Proofs.Ytkjgmpjnhfmecaa
open Go Go.Am

abbrev lc_narrow_ok (a b c d e f g h i j k m n o p q r s t u v w x : AV) : Env := [(0,a),(1,b),(2,c),(6,d),(7,e),(8,f),(10,g),(12,h),(14,i),(15,j),(16,k),(17,m),(18,n),(19,o),(38,p),(39,q),(40,r),(41,s),(45,t),(46,u),(47,v),(48,w),(66,x)]
theorem narrow_ok (lim : Nat) (H : Heap) (x x' : AV) (J : List Jb) (hx : frz H 0 8 x = x') (hJ : AnyJ x' J) (hJl : J.length ≤ 400) (y : AV) (cs : List Int) (hy : frz H 0 8 y = intsAV cs) (hcl : cs.length ≤ 400) (h01 : ∀ i, i < cs.length → gt cs i = 0 ∨ gt cs i = 1) (first : Int) (g1 : 0 ≤ first ∧ first ≤ 109572) (hv : ∃ x y, x < J.length ∧ y < J.length ∧ viol J cs first (gt J x).f (gt J y).t) :
    ACall sig lim 17 [x, AV.i first, y] H fun r H' => (∃ a b : Int, r = .agg [AV.i a, AV.i b] ∧ viol J cs first a b) ∧ H' = H := by
 have hargs : [x, AV.i first, y].map (frz H 0 8) = [x', AV.i first, intsAV cs] := by
   show [frz H 0 8 x, frz H 0 8 (AV.i first), frz H 0 8 y] = _
   rw [hx, hy]
   try rfl
 have hJ0 : 0 < J.length := by
   obtain ⟨x, y, hx, _⟩ := hv
   omega
 obtain rfl := hJ.sl hJ0
 have hfl : (fsJ J).length = J.length := by simp [fsJ]
 have htl : (tsJ J).length = J.length := by simp [tsJ]
 have hC0 : (Lib.compact (srtL (fsJ J))).length ≤ 400 := by
   have h1 := compact_le (srtL (fsJ J))
   have h2 := srtL_len (fsJ J)
   omega
 have q6 : True := trivial
 have q7 : True := trivial
 have q8 : True := trivial
 have q10 : True := trivial
 have q15 : True := trivial
 refine ACall_data (fa := fa17) rfl rfl rfl rfl hargs ?_
 have tr : ∀ a0 a1 a2 : AV, env0 fa17.keep [a0, a1, a2] = [(0,a0),(1,a1),(2,a2),(6,.any),(7,.any),(8,.any),(10,.any),(12,.any),(14,.any),(15,.any),(16,.any),(17,.any),(18,.any),(19,.any),(38,.any),(39,.any),(40,.any),(41,.any),(45,.any),(46,.any),(47,.any),(48,.any),(66,.any)] := fun a0 a1 a2 => rfl
 refine W_to (tr _ _ _) ?_; clear tr
 refine at_seq rfl ?_
 refine rg rfl ?_
 refine A_alloc rfl ?_
 intro H1 n1
 have q6 : hget H1 0 = some [AV.i 0, AV.i 0] := n1.new
 have e1 := n1.len
 have tr : ∀ a b c d e f g h i j k m n o p q r s t u v w x y : AV, let l := lc_narrow_ok a b c d e f g h i j k m n o p q r s t u v w x; trim ((6,y)::l) l = [(0,a),(1,b),(2,c),(6,y),(7,e),(8,f),(10,g),(12,h),(14,i),(15,j),(16,k),(17,m),(18,n),(19,o),(38,p),(39,q),(40,r),(41,s),(45,t),(46,u),(47,v),(48,w),(66,x)] := by intros; rfl
 refine R_nil (tr ..) ?_; clear tr
 refine then_n ?_
 refine at_seq rfl ?_
 refine rg rfl ?_
 refine Rq ?_
 refine Rq ?_
 have tr : ∀ a b c d e f g h i j k m n o p q r s t u v w x y z : AV, let l := lc_narrow_ok a b c d e f g h i j k m n o p q r s t u v w x; trim ((8,z)::(7,y)::l) l = [(0,a),(1,b),(2,c),(6,d),(7,y),(8,z),(10,g),(12,h),(14,i),(15,j),(16,k),(17,m),(18,n),(19,o),(38,p),(39,q),(40,r),(41,s),(45,t),(46,u),(47,v),(48,w),(66,x)] := by intros; rfl
 refine R_nil (tr ..) ?_; clear tr
 refine then_n ?_
 refine at_seq rfl ?_
 refine at_seq rfl ?_
 refine rg rfl ?_
 refine Rq ?_
 refine Rq ?_
 refine Rq ?_
 have tr : ∀ a b c d e f g h i j k m n o p q r s t u v w x y z A : AV, let l := lc_narrow_ok a b c d e f g h i j k m n o p q r s t u v w x; trim ((18,A)::(17,z)::(16,y)::l) l = [(0,a),(1,b),(2,c),(6,d),(7,e),(8,f),(10,g),(12,h),(14,i),(15,j),(16,y),(17,z),(18,A),(19,o),(38,p),(39,q),(40,r),(41,s),(45,t),(46,u),(47,v),(48,w),(66,x)] := by intros; rfl
 refine R_nil (tr ..) ?_; clear tr
 refine then_n ?_
 refine at_block rfl ?_
 refine loop_n rfl (fun mm kv H' => ∃ u : Nat, ∃ o7 : AV, ∃ o8 : AV, ∃ x10 x19 : AV, (kv = [(7, o7), (8, o8), (10, x10), (18, AV.i u), (19, x19)]) ∧ (mm = J.length - u) ∧ (u ≤ J.length) ∧ (hget H' 0 = some [AV.i 0, AV.i 0]) ∧ (Two H' o7 o8 u ((fsJ J).take u) ((tsJ J).take u))) ⟨0, nilO, nilO, _, _, rfl, rfl, by omega, by exact q6, by exact two_0 _ J⟩ (by rfl) ?_
 rintro mm kv HL ⟨u, o7, o8, x10, x19, rfl, rfl, hu, q6, hT⟩
 have tr : ∀ a b c d e f g h i j k m n o p q r s t u v w x y z A B C : AV, upd [(0,a),(1,b),(2,c),(6,d),(7,e),(8,f),(10,g),(12,h),(14,i),(15,j),(16,k),(17,m),(18,n),(19,o),(38,p),(39,q),(40,r),(41,s),(45,t),(46,u),(47,v),(48,w),(66,x)] [(7,y),(8,z),(10,A),(18,B),(19,C)] = [(0,a),(1,b),(2,c),(6,d),(7,y),(8,z),(10,A),(12,h),(14,i),(15,j),(16,k),(17,m),(18,B),(19,C),(38,p),(39,q),(40,r),(41,s),(45,t),(46,u),(47,v),(48,w),(66,x)] := by intros; rfl
 refine W_to (tr ..) ?_; clear tr
 refine at_seq rfl ?_
 refine rg rfl ?_
 refine Rq ?_
 have tr : ∀ a b c d e f g h i j k m n o p q r s t u v w x y : AV, let l := lc_narrow_ok a b c d e f g h i j k m n o p q r s t u v w x; trim ((19,y)::l) l = [(0,a),(1,b),(2,c),(6,d),(7,e),(8,f),(10,g),(12,h),(14,i),(15,j),(16,k),(17,m),(18,n),(19,y),(38,p),(39,q),(40,r),(41,s),(45,t),(46,u),(47,v),(48,w),(66,x)] := by intros; rfl
 refine R_nil (tr ..) ?_; clear tr
 refine then_n ?_
 refine at_seq rfl ?_
 refine cdd (fun h1 => ?_) (fun h1 => ?_)
 ·
  try simp only [decide_eq_true_eq, decide_eq_false_iff_not, Bool.not_eq_true', Bool.not_eq_false', beq_iff_eq, beq_eq_false_iff_ne, ne_eq] at h1
  refine at_skip rfl ?_
  refine then_n ?_
  refine at_seq rfl ?_
  refine at_block rfl ?_
  refine at_seq rfl ?_
  refine rg rfl ?_
  refine Rq ?_
  refine R_q rfl (by simp (disch := first | omega | (simp only [List.length_map, List.length_append, List.length_set, List.length_cons, List.length_nil]; omega)) only [go_sem, ↓reduceIte, Nat.reduceEqDiff, reduceCtorEq, q6, q7, q8, q10, q15]; rfl) ?_
  have m6 := hget_lt q6
  have hT0 := hT
  refine A_alloc rfl ?_
  intro H4 n4
  have en4 := n4.len
  have q6 := (n4.old _ (hget_lt q6)).trans q6
  have q10 := n4.new
  have l6 := hget_lt q6
  have l10 := hget_lt q10
  refine A_store ty43 (by simp (disch := first | omega | (simp only [List.length_map, List.length_append, List.length_set, List.length_cons, List.length_nil]; omega)) only [go_sem, ↓reduceIte, Nat.reduceEqDiff, reduceCtorEq, q10] <;> rfl) (by simp (disch := first | omega | (simp only [List.length_map, List.length_append, List.length_set, List.length_cons, List.length_nil]; omega)) only [go_sem, ↓reduceIte, Nat.reduceEqDiff, reduceCtorEq, q10] <;> rfl) q10 ⟨by omega, rfl, by first | exact Nat.le_refl _ | simp⟩ (k' := jbC (gt J u)) rfl ?_
  intro H4w w4
  have ew4 := w4.len
  have q6 := (w4.old _ (by omega)).trans q6
  have q10 := w4.new
  have hT := hT0.rec n4 w4
  have tr : ∀ a b c d e f g h i j k m n o p q r s t u v w x y z A : AV, let l := lc_narrow_ok a b c d e f g h i j k m n o p q r s t u v w x; trim ((10,A)::(21,z)::(20,y)::l) l = [(0,a),(1,b),(2,c),(6,d),(7,e),(8,f),(10,A),(12,h),(14,i),(15,j),(16,k),(17,m),(18,n),(19,o),(38,p),(39,q),(40,r),(41,s),(45,t),(46,u),(47,v),(48,w),(66,x)] := by intros; rfl
  refine R_nil (tr ..) ?_; clear tr
  refine then_n ?_
  refine rlsL rfl rfl ?_
  refine Lq ?_
  refine Lq ?_
  refine L_q rfl (by simp (disch := first | omega | (simp only [List.length_map, List.length_append, List.length_set, List.length_cons, List.length_nil]; omega)) only [go_sem, ↓reduceIte, Nat.reduceEqDiff, reduceCtorEq, q6, q7, q8, q10, q15]; rfl) rfl ?_
  refine Lq ?_
  refine Lq ?_
  refine L_q rfl (by simp (disch := first | omega | (simp only [List.length_map, List.length_append, List.length_set, List.length_cons, List.length_nil]; omega)) only [go_sem, ↓reduceIte, Nat.reduceEqDiff, reduceCtorEq, q6, q7, q8, q10, q15]; rfl) rfl ?_
  refine L_nil ?_
  refine Ms ?_
  refine R_buildSlice (bs44' _ _ (H4w.length) _ _ (gt J u).f (by simp (disch := first | omega | (simp only [List.length_map, List.length_append, List.length_set, List.length_cons, List.length_nil]; omega)) only [go_sem, ↓reduceIte, Nat.reduceEqDiff, reduceCtorEq, q10] <;> rfl) (by simp [clr_len])) ?_
  refine R_end ?_
  refine M_step (wr_app (v := o7) (by simp (disch := first | omega | (simp only [List.length_map, List.length_append, List.length_set, List.length_cons, List.length_nil]; omega)) only [go_sem, ↓reduceIte, Nat.reduceEqDiff, reduceCtorEq] <;> rfl) (fun z b o n he => by have hb := hT0.ltx he; exact (show b ∉ [HL.length, HL.length] by simp only [List.mem_cons, List.not_mem_nil, or_false]; omega))) ?_
  refine R_append (by simp (disch := first | omega | (simp only [List.length_map, List.length_append, List.length_set, List.length_cons, List.length_nil]; omega)) only [go_sem, ↓reduceIte, Nat.reduceEqDiff, reduceCtorEq]; exact two_app' (X := [some [AV.i (gt J u).f]]) (m := H4w.length + 1) (v := (gt J u).f) hT (by omega) (by simp) (by simp) (by simp [hget])) ?_
  refine R_end ?_
  refine Ms ?_
  refine R_buildSlice (bs44' _ _ (H4w.length + 2) _ _ (gt J u).t (by simp (disch := first | omega | (simp only [List.length_map, List.length_append, List.length_set, List.length_cons, List.length_nil]; omega)) only [go_sem, ↓reduceIte, Nat.reduceEqDiff, reduceCtorEq, q10] <;> rfl) (by simp [clr_len])) ?_
  refine R_end ?_
  refine M_nil ⟨?_, ?_⟩
  ·
   refine ⟨?_, ?_⟩
   ·
    refine Ms ?_
    refine R_buildSlice (bs44' _ _ (H4w.length) _ _ (gt J u).f (by simp (disch := first | omega | (simp only [List.length_map, List.length_append, List.length_set, List.length_cons, List.length_nil]; omega)) only [go_sem, ↓reduceIte, Nat.reduceEqDiff, reduceCtorEq, q10] <;> rfl) (by simp [clr_len])) ?_
    refine R_end ?_
    refine Ms ?_
    refine R_buildSlice (bs44' _ _ (H4w.length + 1) _ _ (gt J u).t (by simp (disch := first | omega | (simp only [List.length_map, List.length_append, List.length_set, List.length_cons, List.length_nil]; omega)) only [go_sem, ↓reduceIte, Nat.reduceEqDiff, reduceCtorEq, q10] <;> rfl) (by simp [clr_len])) ?_
    refine R_end ?_
    refine M_step (wr_app (v := o7) (by simp (disch := first | omega | (simp only [List.length_map, List.length_append, List.length_set, List.length_cons, List.length_nil]; omega)) only [go_sem, ↓reduceIte, Nat.reduceEqDiff, reduceCtorEq] <;> rfl) (fun z b o n he => by have hb := hT0.ltx he; exact (show b ∉ [HL.length, HL.length] by simp only [List.mem_cons, List.not_mem_nil, or_false]; omega))) ?_
    refine R_append (by simp (disch := first | omega | (simp only [List.length_map, List.length_append, List.length_set, List.length_cons, List.length_nil]; omega)) only [go_sem, ↓reduceIte, Nat.reduceEqDiff, reduceCtorEq]; exact two_app' (X := [some [AV.i (gt J u).f], some [AV.i (gt J u).t]]) (m := H4w.length + 2) (v := (gt J u).f) hT (by omega) (by simp) (by simp) (by simp [hget])) ?_
    refine R_end ?_
    refine M_nil ?_
    refine three_021 (A := [(gt J u).f]) (B := ((fsJ J).take u) ++ [(gt J u).f]) (C := [(gt J u).t]) (clr_len _ _) ?_
    intro t ht
    simp only [List.mem_cons, List.not_mem_nil, or_false] at ht
    rcases ht with rfl | rfl | rfl
    · simp only [get_cons, put_some, ↓reduceIte, Nat.reduceEqDiff]
      show AV.own 1 (rnB _ _ (H4w.length + 2)) 0 _ = _
      rw [rn_new]
      rfl
    · simp only [get_cons, put_some, ↓reduceIte, Nat.reduceEqDiff]
      exact hT.ren _
    · simp only [get_cons, put_some, ↓reduceIte, Nat.reduceEqDiff]
      show AV.own 1 (rnB _ _ (H4w.length + 1)) 0 _ = _
      rw [rn_new]
      rfl
   refine ⟨?_, ?_⟩
   ·
    refine Ms ?_
    refine R_buildSlice (bs44' _ _ (H4w.length) _ _ (gt J u).t (by simp (disch := first | omega | (simp only [List.length_map, List.length_append, List.length_set, List.length_cons, List.length_nil]; omega)) only [go_sem, ↓reduceIte, Nat.reduceEqDiff, reduceCtorEq, q10] <;> rfl) (by simp [clr_len])) ?_
    refine R_end ?_
    refine Ms ?_
    refine R_buildSlice (bs44' _ _ (H4w.length + 1) _ _ (gt J u).f (by simp (disch := first | omega | (simp only [List.length_map, List.length_append, List.length_set, List.length_cons, List.length_nil]; omega)) only [go_sem, ↓reduceIte, Nat.reduceEqDiff, reduceCtorEq, q10] <;> rfl) (by simp [clr_len])) ?_
    refine R_end ?_
    refine M_step (wr_app (v := o7) (by simp (disch := first | omega | (simp only [List.length_map, List.length_append, List.length_set, List.length_cons, List.length_nil]; omega)) only [go_sem, ↓reduceIte, Nat.reduceEqDiff, reduceCtorEq] <;> rfl) (fun z b o n he => by have hb := hT0.ltx he; exact (show b ∉ [HL.length, HL.length] by simp only [List.mem_cons, List.not_mem_nil, or_false]; omega))) ?_
    refine R_append (by simp (disch := first | omega | (simp only [List.length_map, List.length_append, List.length_set, List.length_cons, List.length_nil]; omega)) only [go_sem, ↓reduceIte, Nat.reduceEqDiff, reduceCtorEq]; exact two_app' (X := [some [AV.i (gt J u).t], some [AV.i (gt J u).f]]) (m := H4w.length + 2) (v := (gt J u).f) hT (by omega) (by simp) (by simp) (by simp [hget])) ?_
    refine R_end ?_
    refine M_nil ?_
    refine three_120 (A := [(gt J u).f]) (B := ((fsJ J).take u) ++ [(gt J u).f]) (C := [(gt J u).t]) (clr_len _ _) ?_
    intro t ht
    simp only [List.mem_cons, List.not_mem_nil, or_false] at ht
    rcases ht with rfl | rfl | rfl
    · simp only [get_cons, put_some, ↓reduceIte, Nat.reduceEqDiff]
      show AV.own 1 (rnB _ _ (H4w.length + 2)) 0 _ = _
      rw [rn_new]
      rfl
    · simp only [get_cons, put_some, ↓reduceIte, Nat.reduceEqDiff]
      exact hT.ren _
    · simp only [get_cons, put_some, ↓reduceIte, Nat.reduceEqDiff]
      show AV.own 1 (rnB _ _ (H4w.length)) 0 _ = _
      rw [rn_new0]
      rfl
   exact trivial
  refine Rp_env (e' := [(26, _), (27, _), (30, _), (22, .any), (23, .any), (24, .any), (25, .any), (26, .any), (27, .any), (28, .any), (29, .any), (30, .any), (31, .any), (7, .any), (8, .any), (0, _), (1, _), (2, _), (6, _), (7, _), (8, _), (10, _), (12, _), (14, _), (15, _), (16, _), (17, _), (18, _), (19, _), (38, _), (39, _), (40, _), (41, _), (45, _), (46, _), (47, _), (48, _), (66, _)]) rfl ?_
  simp only [put_some, get_cons, ↓reduceIte, Nat.reduceEqDiff]
  obtain ⟨HN, hN0, hN1, hN2, hN3, hN4⟩ := keep3 (clr_len o7 H4w) [(gt J u).f] (((fsJ J).take u) ++ [(gt J u).f]) [(gt J u).t]
  rewrite [show keepP [0, 1, 2] H4w.length (clr o7 H4w ++ [some [AV.i (gt J u).f]] ++ [some ((((fsJ J).take u) ++ [(gt J u).f]).map AV.i)] ++ [some [AV.i (gt J u).t]]) = HN from hN0]
  obtain ⟨bn, hbn, HA, ha, hg⟩ := two_next hT (by omega) hN1 hN2 hN3 hN4
  refine A_append ⟨HA, by simp (disch := first | omega | (simp only [List.length_map, List.length_append, List.length_set, List.length_cons, List.length_nil]; omega)) only [go_sem, ↓reduceIte, Nat.reduceEqDiff, reduceCtorEq]; exact ha, hg⟩ ?_
  intro H5 g5
  have e5 := g5.len
  have q6 := (g5.old 0 (by omega) (by omega)).trans (hN4 0 [0, 0] (clr_get hT q6 (fun z o n he => by have := hT.ge1 he; omega)))
  have hT := two_done hT hN1 hN2 hbn g5
  refine Rq ?_
  refine Rq ?_
  have tr : ∀ a b c d e f g h i j k m n o p q r s t u v w x y z A B C D E F G H I J K L M N O P : AV, let l := lc_narrow_ok a b c d e f g h i j k m n o p q r s t u v w x; trim ((8,P)::(7,O)::(31,N)::(26,M)::(27,L)::(30,K)::(22,J)::(23,I)::(24,H)::(25,G)::(26,F)::(27,E)::(28,D)::(29,C)::(30,B)::(31,A)::(7,z)::(8,y)::l) l = [(0,a),(1,b),(2,c),(6,d),(7,O),(8,P),(10,g),(12,h),(14,i),(15,j),(16,k),(17,m),(18,n),(19,o),(38,p),(39,q),(40,r),(41,s),(45,t),(46,u),(47,v),(48,w),(66,x)] := by intros; rfl
  refine R_nil (tr ..) ?_; clear tr
  refine blk_n ?_
  refine then_n ?_
  refine rg rfl ?_
  refine Rq ?_
  refine Rq ?_
  have tr : ∀ a b c d e f g h i j k m n o p q r s t u v w x y z : AV, let l := lc_narrow_ok a b c d e f g h i j k m n o p q r s t u v w x; trim ((18,z)::(32,y)::l) l = [(0,a),(1,b),(2,c),(6,d),(7,e),(8,f),(10,g),(12,h),(14,i),(15,j),(16,k),(17,m),(18,z),(19,o),(38,p),(39,q),(40,r),(41,s),(45,t),(46,u),(47,v),(48,w),(66,x)] := by intros; rfl
  refine R_nil (tr ..) ?_; clear tr
  refine then_n ?_
  exact ⟨_, _, ⟨u + 1, _, _, _, _, rfl, rfl, by omega, by exact q6, by (rw [fs_step (by omega), ts_step (by omega)]; exact hT)⟩, by rfl, by omega⟩
 ·
  try simp only [decide_eq_true_eq, decide_eq_false_iff_not, Bool.not_eq_true', Bool.not_eq_false', beq_iff_eq, beq_eq_false_iff_ne, ne_eq] at h1
  refine at_exit rfl ?_
  refine then_x ?_
  refine then_x ?_
  refine blk_x ?_
  refine then_n ?_
  refine at_seq rfl ?_
  refine rg rfl ?_
  have huJ : u = J.length := by omega
  subst huJ
  obtain ⟨-, -, hT⟩ := hT
  obtain ⟨-, bf, bt, rfl, rfl, hb1, hb2, hbne, q7, q8⟩ := hT.resolve_left (fun hh => by omega)
  rewrite [List.take_of_length_le (Nat.le_of_eq hfl)] at q7
  rewrite [List.take_of_length_le (Nat.le_of_eq htl)] at q8
  refine Rq ?_
  refine Rcall ?_
  refine ACall_eff (p := sortV) rfl rfl rfl (sort_eff q7 (by omega) (by exact hfl) (by omega) (Nat.zero_le _)) ?_
  have w7 := MWrote.of HL ((srtL (fsJ J)).map AV.i) (hget_lt q7)
  have ew7 := w7.len
  have q6 := (w7.old _ (by omega)).trans q6
  have q8 := (w7.old _ (by omega)).trans q8
  have q7 := w7.new
  generalize hset HL _ (some ((srtL (fsJ J)).map AV.i)) = HL1 at w7 ew7 q7 q6 q8 ⊢
  have tr : ∀ a b c d e f g h i j k m n o p q r s t u v w x y z : AV, let l := lc_narrow_ok a b c d e f g h i j k m n o p q r s t u v w x; trim ((34,z)::(33,y)::l) l = [(0,a),(1,b),(2,c),(6,d),(7,e),(8,f),(10,g),(12,h),(14,i),(15,j),(16,k),(17,m),(18,n),(19,o),(38,p),(39,q),(40,r),(41,s),(45,t),(46,u),(47,v),(48,w),(66,x)] := by intros; rfl
  refine R_nil (tr ..) ?_; clear tr
  refine then_n ?_
  refine at_seq rfl ?_
  refine rg rfl ?_
  refine Rq ?_
  refine Rcall ?_
  refine ACall_eff (p := sortV) rfl rfl rfl (sort_eff q8 (by omega) (by exact htl) (by omega) (Nat.zero_le _)) ?_
  have w8 := MWrote.of HL1 ((srtL (tsJ J)).map AV.i) (hget_lt q8)
  have ew8 := w8.len
  have q6 := (w8.old _ (by omega)).trans q6
  have q7 := (w8.old _ (by omega)).trans q7
  have q8 := w8.new
  generalize hset HL1 _ (some ((srtL (tsJ J)).map AV.i)) = HL2 at w8 ew8 q8 q6 q7 ⊢
  have tr : ∀ a b c d e f g h i j k m n o p q r s t u v w x y z : AV, let l := lc_narrow_ok a b c d e f g h i j k m n o p q r s t u v w x; trim ((36,z)::(35,y)::l) l = [(0,a),(1,b),(2,c),(6,d),(7,e),(8,f),(10,g),(12,h),(14,i),(15,j),(16,k),(17,m),(18,n),(19,o),(38,p),(39,q),(40,r),(41,s),(45,t),(46,u),(47,v),(48,w),(66,x)] := by intros; rfl
  refine R_nil (tr ..) ?_; clear tr
  refine then_n ?_
  refine at_seq rfl ?_
  refine at_seq rfl ?_
  refine rg rfl ?_
  refine Rq ?_
  refine Rcall ?_
  refine ACall_eff (p := compactV) rfl rfl rfl (compact_eff q7 (by omega) (by rw [srtL_len]; exact hfl) (by omega) (Nat.zero_le _)) ?_
  have w9 := MWrote.of HL2 ((cmpL (srtL (fsJ J))).map AV.i) (hget_lt q7)
  have ew9 := w9.len
  have q6 := (w9.old _ (by omega)).trans q6
  have q8 := (w9.old _ (by omega)).trans q8
  have q7 := w9.new
  generalize hset HL2 _ (some ((cmpL (srtL (fsJ J))).map AV.i)) = HL3 at w9 ew9 q7 q6 q8 ⊢
  refine Rq ?_
  refine Rq ?_
  have tr : ∀ a b c d e f g h i j k m n o p q r s t u v w x y z A B : AV, let l := lc_narrow_ok a b c d e f g h i j k m n o p q r s t u v w x; trim ((40,B)::(39,A)::(38,z)::(37,y)::l) l = [(0,a),(1,b),(2,c),(6,d),(7,e),(8,f),(10,g),(12,h),(14,i),(15,j),(16,k),(17,m),(18,n),(19,o),(38,z),(39,A),(40,B),(41,s),(45,t),(46,u),(47,v),(48,w),(66,x)] := by intros; rfl
  refine R_nil (tr ..) ?_; clear tr
  refine then_n ?_
  refine at_block rfl ?_
  refine loop_n rfl (fun mm kv H' => ∃ i : Nat, ∃ Z : List Int, ∃ x12 x14 x15 x41 x45 x46 x47 x48 x66 : AV, (kv = [(12, x12), (14, x14), (15, x15), (40, AV.i i), (41, x41), (45, x45), (46, x46), (47, x47), (48, x48), (66, x66)]) ∧ (mm = (Lib.compact (srtL (fsJ J))).length - i) ∧ (i ≤ (Lib.compact (srtL (fsJ J))).length) ∧ (hget H' 0 = some [AV.i 0, AV.i 0]) ∧ (hget H' bf = some ((cmpL (srtL (fsJ J))).map AV.i)) ∧ (hget H' bt = some (Z.map AV.i)) ∧ (Z.length = J.length) ∧ (∀ t, t ∈ tsJ J → t ∈ Z) ∧ (∀ i', i' < i → ∀ y, y < J.length → ¬ viol J cs first (gt (Lib.compact (srtL (fsJ J))) i') (gt J y).t)) ⟨0, srtL (tsJ J), _, _, _, _, _, _, _, _, _, rfl, rfl, by omega, by exact q6, by exact q7, by exact q8, by (rw [srtL_len]; exact htl), by exact fun t ht => mem_srtL.2 ht, by intro i hi; omega⟩ (by rfl) ?_
  rintro mm kv HP ⟨i, Z, x12, x14, x15, x41, x45, x46, x47, x48, x66, rfl, rfl, hi, q6, q7, q8, hZl, hZ, hno⟩
  have tr : ∀ a b c d e f g h i j k m n o p q r s t u v w x y z A B C D E F G H : AV, upd [(0,a),(1,b),(2,c),(6,d),(7,e),(8,f),(10,g),(12,h),(14,i),(15,j),(16,k),(17,m),(18,n),(19,o),(38,p),(39,q),(40,r),(41,s),(45,t),(46,u),(47,v),(48,w),(66,x)] [(12,y),(14,z),(15,A),(40,B),(41,C),(45,D),(46,E),(47,F),(48,G),(66,H)] = [(0,a),(1,b),(2,c),(6,d),(7,e),(8,f),(10,g),(12,y),(14,z),(15,A),(16,k),(17,m),(18,n),(19,o),(38,p),(39,q),(40,B),(41,C),(45,D),(46,E),(47,F),(48,G),(66,H)] := by intros; rfl
  refine W_to (tr ..) ?_; clear tr
  refine at_seq rfl ?_
  refine rg rfl ?_
  refine Rq ?_
  have tr : ∀ a b c d e f g h i j k m n o p q r s t u v w x y : AV, let l := lc_narrow_ok a b c d e f g h i j k m n o p q r s t u v w x; trim ((41,y)::l) l = [(0,a),(1,b),(2,c),(6,d),(7,e),(8,f),(10,g),(12,h),(14,i),(15,j),(16,k),(17,m),(18,n),(19,o),(38,p),(39,q),(40,r),(41,y),(45,t),(46,u),(47,v),(48,w),(66,x)] := by intros; rfl
  refine R_nil (tr ..) ?_; clear tr
  refine then_n ?_
  refine at_seq rfl ?_
  refine cdd (fun h2 => ?_) (fun h2 => ?_)
  ·
   try simp only [decide_eq_true_eq, decide_eq_false_iff_not, Bool.not_eq_true', Bool.not_eq_false', beq_iff_eq, beq_eq_false_iff_ne, ne_eq] at h2
   refine at_skip rfl ?_
   refine then_n ?_
   refine at_seq rfl ?_
   refine at_block rfl ?_
   refine at_seq rfl ?_
   refine rg rfl ?_
   refine Rq ?_
   refine R_q (r := AV.i (gt (Lib.compact (srtL (fsJ J))) i)) rfl (by simp (disch := first | omega | (simp only [List.length_map, List.length_append, List.length_set, List.length_cons, List.length_nil]; omega)) only [go_sem, ↓reduceIte, Nat.reduceEqDiff, reduceCtorEq, q7] <;> exact cmp_at (by omega)) ?_
   refine Rq ?_
   have tr : ∀ a b c d e f g h i j k m n o p q r s t u v w x y z A : AV, let l := lc_narrow_ok a b c d e f g h i j k m n o p q r s t u v w x; trim ((12,A)::(43,z)::(42,y)::l) l = [(0,a),(1,b),(2,c),(6,d),(7,e),(8,f),(10,g),(12,A),(14,i),(15,j),(16,k),(17,m),(18,n),(19,o),(38,p),(39,q),(40,r),(41,s),(45,t),(46,u),(47,v),(48,w),(66,x)] := by intros; rfl
   refine R_nil (tr ..) ?_; clear tr
   refine then_n ?_
   refine at_seq rfl ?_
   refine rg rfl ?_
   have hcz := compact_le Z
   refine Rq ?_
   refine Rcall ?_
   refine ACall_eff (p := compactV) rfl rfl rfl (compact_eff q8 (by omega) (by exact hZl) (by omega) (Nat.zero_le _)) ?_
   have wa := MWrote.of HP ((cmpL Z).map AV.i) (hget_lt q8)
   have ewa := wa.len
   have q6 := (wa.old _ (by omega)).trans q6
   have q7 := (wa.old _ (by omega)).trans q7
   have q8 := wa.new
   generalize hset HP _ (some ((cmpL Z).map AV.i)) = HP1 at wa ewa q8 q6 q7 ⊢
   refine Rq ?_
   refine Rq ?_
   have tr : ∀ a b c d e f g h i j k m n o p q r s t u v w x y z A B : AV, let l := lc_narrow_ok a b c d e f g h i j k m n o p q r s t u v w x; trim ((47,B)::(46,A)::(45,z)::(44,y)::l) l = [(0,a),(1,b),(2,c),(6,d),(7,e),(8,f),(10,g),(12,h),(14,i),(15,j),(16,k),(17,m),(18,n),(19,o),(38,p),(39,q),(40,r),(41,s),(45,z),(46,A),(47,B),(48,w),(66,x)] := by intros; rfl
   refine R_nil (tr ..) ?_; clear tr
   refine then_n ?_
   refine at_block rfl ?_
   refine loop_n rfl (fun mm kv H' => ∃ j : Nat, ∃ x14 x15 x48 x66 : AV, (kv = [(14, x14), (15, x15), (47, AV.i j), (48, x48), (66, x66)]) ∧ (mm = (Lib.compact Z).length - j) ∧ (j ≤ (Lib.compact Z).length) ∧ (hget H' 0 = some [AV.i 0, AV.i 0]) ∧ (hget H' bf = some ((cmpL (srtL (fsJ J))).map AV.i)) ∧ (hget H' bt = some ((cmpL Z).map AV.i)) ∧ (∀ j', j' < j → ¬ viol J cs first (gt (Lib.compact (srtL (fsJ J))) i) (gt (Lib.compact Z) j'))) ⟨0, _, _, _, _, rfl, rfl, by omega, by exact q6, by exact q7, by exact q8, by intro j hj; omega⟩ (by rfl) ?_
   rintro mm kv HR ⟨j, x14, x15, x48, x66, rfl, rfl, hj, q6, q7, q8, hnj⟩
   have tr : ∀ a b c d e f g h i j k m n o p q r s t u v w x y z A B C : AV, upd [(0,a),(1,b),(2,c),(6,d),(7,e),(8,f),(10,g),(12,h),(14,i),(15,j),(16,k),(17,m),(18,n),(19,o),(38,p),(39,q),(40,r),(41,s),(45,t),(46,u),(47,v),(48,w),(66,x)] [(14,y),(15,z),(47,A),(48,B),(66,C)] = [(0,a),(1,b),(2,c),(6,d),(7,e),(8,f),(10,g),(12,h),(14,y),(15,z),(16,k),(17,m),(18,n),(19,o),(38,p),(39,q),(40,r),(41,s),(45,t),(46,u),(47,A),(48,B),(66,C)] := by intros; rfl
   refine W_to (tr ..) ?_; clear tr
   refine at_seq rfl ?_
   refine rg rfl ?_
   refine Rq ?_
   have tr : ∀ a b c d e f g h i j k m n o p q r s t u v w x y : AV, let l := lc_narrow_ok a b c d e f g h i j k m n o p q r s t u v w x; trim ((48,y)::l) l = [(0,a),(1,b),(2,c),(6,d),(7,e),(8,f),(10,g),(12,h),(14,i),(15,j),(16,k),(17,m),(18,n),(19,o),(38,p),(39,q),(40,r),(41,s),(45,t),(46,u),(47,v),(48,y),(66,x)] := by intros; rfl
   refine R_nil (tr ..) ?_; clear tr
   refine then_n ?_
   refine at_seq rfl ?_
   refine cdd (fun h3 => ?_) (fun h3 => ?_)
   ·
    try simp only [decide_eq_true_eq, decide_eq_false_iff_not, Bool.not_eq_true', Bool.not_eq_false', beq_iff_eq, beq_eq_false_iff_ne, ne_eq] at h3
    refine at_skip rfl ?_
    refine then_n ?_
    refine at_seq rfl ?_
    refine at_block rfl ?_
    refine at_seq rfl ?_
    refine rg rfl ?_
    refine Rq ?_
    refine R_q (r := AV.i (gt (Lib.compact Z) j)) rfl (by simp (disch := first | omega | (simp only [List.length_map, List.length_append, List.length_set, List.length_cons, List.length_nil]; omega)) only [go_sem, ↓reduceIte, Nat.reduceEqDiff, reduceCtorEq, q8] <;> exact cmp_at (by omega)) ?_
    refine Rq ?_
    have tr : ∀ a b c d e f g h i j k m n o p q r s t u v w x y z A : AV, let l := lc_narrow_ok a b c d e f g h i j k m n o p q r s t u v w x; trim ((14,A)::(50,z)::(49,y)::l) l = [(0,a),(1,b),(2,c),(6,d),(7,e),(8,f),(10,g),(12,h),(14,A),(15,j),(16,k),(17,m),(18,n),(19,o),(38,p),(39,q),(40,r),(41,s),(45,t),(46,u),(47,v),(48,w),(66,x)] := by intros; rfl
    refine R_nil (tr ..) ?_; clear tr
    refine then_n ?_
    refine at_seq rfl ?_
    refine rg rfl ?_
    refine Rq ?_
    refine Rq ?_
    refine Rq ?_
    have mq6 := hget_lt q6
    have mq7 := hget_lt q7
    have mq8 := hget_lt q8
    refine A_alloc rfl ?_
    intro HT nT
    have enT := nT.len
    have q6 := (nT.old _ (hget_lt q6)).trans q6
    have q7 := (nT.old _ (hget_lt q7)).trans q7
    have q8 := (nT.old _ (hget_lt q8)).trans q8
    have q15 := nT.new
    have lq6 := hget_lt q6
    have lq7 := hget_lt q7
    have lq8 := hget_lt q8
    have lq15 := hget_lt q15
    refine A_store ty45 (by simp (disch := first | omega | (simp only [List.length_map, List.length_append, List.length_set, List.length_cons, List.length_nil]; omega)) only [go_sem, ↓reduceIte, Nat.reduceEqDiff, reduceCtorEq, q15] <;> rfl) (by simp (disch := first | omega | (simp only [List.length_map, List.length_append, List.length_set, List.length_cons, List.length_nil]; omega)) only [go_sem, ↓reduceIte, Nat.reduceEqDiff, reduceCtorEq, q15] <;> rfl) q15 ⟨by omega, rfl, by first | exact Nat.le_refl _ | simp⟩ (k' := [AV.i (gt (Lib.compact (srtL (fsJ J))) i), AV.i (gt (Lib.compact Z) j)]) rfl ?_
    intro HTw wT
    have ewT := wT.len
    have q6 := (wT.old _ (by omega)).trans q6
    have q7 := (wT.old _ (by omega)).trans q7
    have q8 := (wT.old _ (by omega)).trans q8
    have q15 := wT.new
    have tr : ∀ a b c d e f g h i j k m n o p q r s t u v w x y z A B : AV, let l := lc_narrow_ok a b c d e f g h i j k m n o p q r s t u v w x; trim ((15,B)::(53,A)::(52,z)::(51,y)::l) l = [(0,a),(1,b),(2,c),(6,d),(7,e),(8,f),(10,g),(12,h),(14,i),(15,B),(16,k),(17,m),(18,n),(19,o),(38,p),(39,q),(40,r),(41,s),(45,t),(46,u),(47,v),(48,w),(66,x)] := by intros; rfl
    refine R_nil (tr ..) ?_; clear tr
    refine then_n ?_
    refine at_seq rfl ?_
    refine rd rfl rfl ?_
    refine Qq ?_
    refine Qq ?_
    refine Qq ?_
    refine Qq ?_
    refine Qp_split (fun h4 => ?_) (fun h4 => ?_)
    ·
     try simp only [decide_eq_true_eq, decide_eq_false_iff_not, Bool.not_eq_true', Bool.not_eq_false', beq_iff_eq, beq_eq_false_iff_ne, ne_eq] at h4
     refine Qy ?_
     refine Qq ?_
     refine Qy ?_
     refine Q_q rfl (by simp (disch := first | omega | (simp only [List.length_map, List.length_append, List.length_set, List.length_cons, List.length_nil]; omega)) only [go_sem, ↓reduceIte, Nat.reduceEqDiff, reduceCtorEq, q6, q7, q8, q10, q15]; rfl) ?_
     refine Qy ?_
     refine Qcall ?_
     refine ACall_eq (inside_ok _ _ _ _ J (frz_jb _ J) (.inl rfl) hJl (gt (Lib.compact (srtL (fsJ J))) i) (gt (Lib.compact Z) j)) ?_
     refine ⟨rfl, ?_⟩
     refine Qy ?_
     refine Q_q rfl (by simp (disch := first | omega | (simp only [List.length_map, List.length_append, List.length_set, List.length_cons, List.length_nil]; omega)) only [go_sem, ↓reduceIte, Nat.reduceEqDiff, reduceCtorEq, q6, q7, q8, q10, q15]; rfl) ?_
     refine Qy ?_
     refine Qq ?_
     refine Qy ?_
     refine Qq ?_
     refine Qy ?_
     refine Qcall ?_
     refine ACall_eq (room_ok _ _ _ cs (frz_int _ cs) hcl h01 (gt (Lib.compact (srtL (fsJ J))) i) (gt (Lib.compact Z) j) first g1) ?_
     refine ⟨rfl, ?_⟩
     refine Qy ?_
     refine Qq ?_
     refine Qq ?_
     refine Q_nil ?_
     have tr : ∀ a b c d e f g h i j k m n o p q r s t u v w x y z A B C D E F G H I J K : AV, let l := lc_narrow_ok a b c d e f g h i j k m n o p q r s t u v w x; trim ((66,K)::(65,J)::(64,I)::(63,H)::(62,G)::(61,F)::(60,E)::(59,D)::(58,C)::(57,B)::(56,A)::(55,z)::(54,y)::l) l = [(0,a),(1,b),(2,c),(6,d),(7,e),(8,f),(10,g),(12,h),(14,i),(15,j),(16,k),(17,m),(18,n),(19,o),(38,p),(39,q),(40,r),(41,s),(45,t),(46,u),(47,v),(48,w),(66,K)] := by intros; rfl
     refine R_nil (tr ..) ?_; clear tr
     refine then_n ?_
     refine cdd (fun h5 => ?_) (fun h5 => ?_)
     ·
      try simp only [decide_eq_true_eq, decide_eq_false_iff_not, Bool.not_eq_true', Bool.not_eq_false', beq_iff_eq, beq_eq_false_iff_ne, ne_eq] at h5
      refine at_seq rfl ?_
      refine rg rfl ?_
      refine R_q rfl (by simp (disch := first | omega | (simp only [List.length_map, List.length_append, List.length_set, List.length_cons, List.length_nil]; omega)) only [go_sem, ↓reduceIte, Nat.reduceEqDiff, reduceCtorEq, q6, q7, q8, q10, q15]; rfl) ?_
      have lq6 := hget_lt q6
      have lq15 := hget_lt q15
      refine A_store ty45 (by simp (disch := first | omega | (simp only [List.length_map, List.length_append, List.length_set, List.length_cons, List.length_nil]; omega)) only [go_sem, ↓reduceIte, Nat.reduceEqDiff, reduceCtorEq, q6] <;> rfl) (by simp (disch := first | omega | (simp only [List.length_map, List.length_append, List.length_set, List.length_cons, List.length_nil]; omega)) only [go_sem, ↓reduceIte, Nat.reduceEqDiff, reduceCtorEq, q6] <;> rfl) q6 ⟨by omega, rfl, by first | exact Nat.le_refl _ | simp⟩ (k' := [AV.i (gt (Lib.compact (srtL (fsJ J))) i), AV.i (gt (Lib.compact Z) j)]) rfl ?_
      intro HU wU
      have q6 := wU.new
      have tr : ∀ a b c d e f g h i j k m n o p q r s t u v w x y : AV, let l := lc_narrow_ok a b c d e f g h i j k m n o p q r s t u v w x; trim ((67,y)::l) l = [(0,a),(1,b),(2,c),(6,d),(7,e),(8,f),(10,g),(12,h),(14,i),(15,j),(16,k),(17,m),(18,n),(19,o),(38,p),(39,q),(40,r),(41,s),(45,t),(46,u),(47,v),(48,w),(66,x)] := by intros; rfl
      refine R_nil (tr ..) ?_; clear tr
      refine then_n ?_
      refine at_ret rfl ?_
      refine blk_r ?_
      refine then_r ?_
      refine then_r ?_
      refine blk_r ?_
      refine blk_r ?_
      refine then_r ?_
      refine then_r ?_
      refine blk_r ?_
      refine then_r ?_
      refine fin_pure (rs := [.cell 6 45]) rfl (by simp (disch := first | omega | (simp only [List.length_map, List.length_append, List.length_set, List.length_cons, List.length_nil]; omega)) only [go_sem, ↓reduceIte, Nat.reduceEqDiff, reduceCtorEq, q6] <;> rfl) (v := .agg [AV.i (gt (Lib.compact (srtL (fsJ J))) i), AV.i (gt (Lib.compact Z) j)]) rfl ?_
      exact ⟨rfl, ⟨_, _, rfl, by assumption, by assumption⟩, rfl⟩
     ·
      try simp only [decide_eq_true_eq, decide_eq_false_iff_not, Bool.not_eq_true', Bool.not_eq_false', beq_iff_eq, beq_eq_false_iff_ne, ne_eq] at h5
      refine at_skip rfl ?_
      refine blk_n ?_
      refine then_n ?_
      refine rg rfl ?_
      refine Rq ?_
      refine Rq ?_
      have tr : ∀ a b c d e f g h i j k m n o p q r s t u v w x y z : AV, let l := lc_narrow_ok a b c d e f g h i j k m n o p q r s t u v w x; trim ((47,z)::(68,y)::l) l = [(0,a),(1,b),(2,c),(6,d),(7,e),(8,f),(10,g),(12,h),(14,i),(15,j),(16,k),(17,m),(18,n),(19,o),(38,p),(39,q),(40,r),(41,s),(45,t),(46,u),(47,z),(48,w),(66,x)] := by intros; rfl
      refine R_nil (tr ..) ?_; clear tr
      refine then_n ?_
      exact ⟨_, _, ⟨j + 1, _, _, _, _, rfl, rfl, by omega, by exact q6, by exact q7, by exact q8, by exact all_step hnj (fun hh => by first | exact absurd hh.1 (by omega) | exact absurd hh.2 (by omega))⟩, by rfl, by omega⟩
    ·
     try simp only [decide_eq_true_eq, decide_eq_false_iff_not, Bool.not_eq_true', Bool.not_eq_false', beq_iff_eq, beq_eq_false_iff_ne, ne_eq] at h4
     refine Qn ?_
     refine Qn ?_
     refine Qn ?_
     refine Qn ?_
     refine Qn ?_
     refine Qn ?_
     refine Qn ?_
     refine Qn ?_
     refine Qq ?_
     refine Q_nil ?_
     have tr : ∀ a b c d e f g h i j k m n o p q r s t u v w x y z A B C D E F G H I J K : AV, let l := lc_narrow_ok a b c d e f g h i j k m n o p q r s t u v w x; trim ((66,K)::(65,J)::(64,I)::(63,H)::(62,G)::(61,F)::(60,E)::(59,D)::(58,C)::(57,B)::(56,A)::(55,z)::(54,y)::l) l = [(0,a),(1,b),(2,c),(6,d),(7,e),(8,f),(10,g),(12,h),(14,i),(15,j),(16,k),(17,m),(18,n),(19,o),(38,p),(39,q),(40,r),(41,s),(45,t),(46,u),(47,v),(48,w),(66,K)] := by intros; rfl
     refine R_nil (tr ..) ?_; clear tr
     refine then_n ?_
     refine cdf ?_
     refine at_skip rfl ?_
     refine blk_n ?_
     refine then_n ?_
     refine rg rfl ?_
     refine Rq ?_
     refine Rq ?_
     have tr : ∀ a b c d e f g h i j k m n o p q r s t u v w x y z : AV, let l := lc_narrow_ok a b c d e f g h i j k m n o p q r s t u v w x; trim ((47,z)::(68,y)::l) l = [(0,a),(1,b),(2,c),(6,d),(7,e),(8,f),(10,g),(12,h),(14,i),(15,j),(16,k),(17,m),(18,n),(19,o),(38,p),(39,q),(40,r),(41,s),(45,t),(46,u),(47,z),(48,w),(66,x)] := by intros; rfl
     refine R_nil (tr ..) ?_; clear tr
     refine then_n ?_
     exact ⟨_, _, ⟨j + 1, _, _, _, _, rfl, rfl, by omega, by exact q6, by exact q7, by exact q8, by exact all_step hnj (fun hh => by first | exact absurd hh.1 (by omega) | exact absurd hh.2 (by omega))⟩, by rfl, by omega⟩
   ·
    try simp only [decide_eq_true_eq, decide_eq_false_iff_not, Bool.not_eq_true', Bool.not_eq_false', beq_iff_eq, beq_eq_false_iff_ne, ne_eq] at h3
    refine at_exit rfl ?_
    refine then_x ?_
    refine then_x ?_
    refine blk_x ?_
    refine blk_n ?_
    refine then_n ?_
    refine rg rfl ?_
    refine Rq ?_
    refine Rq ?_
    have tr : ∀ a b c d e f g h i j k m n o p q r s t u v w x y z : AV, let l := lc_narrow_ok a b c d e f g h i j k m n o p q r s t u v w x; trim ((40,z)::(69,y)::l) l = [(0,a),(1,b),(2,c),(6,d),(7,e),(8,f),(10,g),(12,h),(14,i),(15,j),(16,k),(17,m),(18,n),(19,o),(38,p),(39,q),(40,z),(41,s),(45,t),(46,u),(47,v),(48,w),(66,x)] := by intros; rfl
    refine R_nil (tr ..) ?_; clear tr
    refine then_n ?_
    exact ⟨_, _, ⟨i + 1, cmpL Z, _, _, _, _, _, _, _, _, _, rfl, rfl, by omega, by exact q6, by exact q7, by exact q8, by (rw [cmpL_len]; exact hZl), by exact fun t ht => mem_cmpL (hZ t ht), by exact all_step hno (row_in hZ (fun j' hj' => hnj j' (by omega)))⟩, by rfl, by omega⟩
  ·
   try simp only [decide_eq_true_eq, decide_eq_false_iff_not, Bool.not_eq_true', Bool.not_eq_false', beq_iff_eq, beq_eq_false_iff_ne, ne_eq] at h2
   refine at_exit rfl ?_
   refine then_x ?_
   refine then_x ?_
   refine blk_x ?_
   refine then_n ?_
   refine at_seq rfl ?_
   refine rg rfl ?_
   exact (all_in (fun i' hi' => hno i' (by omega)) hv).elim

end Go.Proofs.Ytkjgmpjnhfmecaa
