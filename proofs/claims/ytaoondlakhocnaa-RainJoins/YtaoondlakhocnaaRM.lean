/-
  Walks of chapters 37, 39 and 40. The steps are written by program (walk.py).
-/
import Derived.Test.YtaoondlakhocnaaRL
set_option linter.unusedSimpArgs false
set_option linter.unusedVariables false
set_option maxHeartbeats 40000000
set_option maxRecDepth 4000
namespace Go.Proofs.Ytaoondlakhocnaa
open Go Go.Am

structure Chk (rows : Tb) (per balls : Int) (l : List Stp) : Prop where
  tab : checkS rows = 0
  per1 : 1 ≤ per
  per8 : per ≤ 8
  b1 : 1 ≤ balls
  bmax : balls ≤ ((rows.length : Int) - 1) * per
  most : l.length ≤ 20
  stop : ∀ i, i < l.length → (gt l i).b ≤ balls ∧ 0 ≤ (gt l i).a ∧ 0 ≤ (gt l i).w ∧ (gt l i).w ≤ (gt rows 0).length ∧ (gt l i).a ≤ (gt l i).b ∧ (0 < i → (gt l i).b ≤ (gt l (i - 1)).a ∧ (gt l (i - 1)).w ≤ (gt l i).w)
theorem chk_of {rows : Tb} {per balls : Int} {l : List Stp} (h : chkS rows per balls l = 0) : Chk rows per balls l := by
  unfold chkS at h
  split at h
  · rename_i h1; exact absurd h h1
  · split at h
    · cases h
    · split at h
      · cases h
      · rename_i h1 h2 h3
        unfold chkBad at h2
        refine ⟨Decidable.not_not.mp h1, by omega, by omega, by omega, by omega, by omega, fun i hi => ?_⟩
        have := ferr_all h i hi
        unfold stopErr at this
        split at this
        · cases this
        · split at this
          · cases this
          · split at this
            · cases this
            · exact ⟨by omega, by omega, by omega, by omega, by omega, fun h0 => ⟨by omega, by omega⟩⟩
theorem of_chk {rows : Tb} {per balls : Int} {l : List Stp} (h : Chk rows per balls l) : chkS rows per balls l = 0 := by
  have h1 := h.per1
  have h2 := h.per8
  have h3 := h.b1
  have h4 := h.bmax
  have h5 := h.most
  rw [chkS, if_neg (fun hh => hh h.tab), if_neg (by unfold chkBad; omega), if_neg (by omega)]
  have : ∀ n, n ≤ l.length → ferr (stopErr rows balls l) n = 0 := by
    intro n
    induction n with
    | zero => intro _; rfl
    | succ n ih =>
      intro hn
      refine ferr_ok (ih (by omega)) ?_
      have := h.stop n (by omega)
      unfold stopErr
      rw [if_neg (by omega), if_neg (by omega), if_neg (by omega)]
  exact this _ (Nat.le_refl _)
theorem at_err {rows : Tb} {per balls w : Int} (h : checkS rows = 0) (hn : ¬ atBad rows per balls w) : (atS rows per balls w).2 = 0 := by
  rw [atS, if_neg (fun hh => hh h), if_neg hn]
  split <;> rfl
theorem Chk.at0 {rows : Tb} {per balls : Int} {l : List Stp} (h : Chk rows per balls l) : (atS rows per balls 0).2 = 0 := by
  have h1 := h.per1
  have h2 := h.per8
  have h3 := h.b1
  have h4 := h.bmax
  exact at_err h.tab (by unfold atBad; omega)
theorem Chk.lost0 {rows : Tb} {per balls : Int} {l : List Stp} (h : Chk rows per balls l) {i : Nat} (hi : i < l.length) :
    lostS rows per (gt l i) = ((atS rows per (gt l i).b (gt l i).w).1 - (atS rows per (gt l i).a (gt l i).w).1, 0) := by
  have h1 := h.per1
  have h2 := h.per8
  have h3 := h.b1
  have h4 := h.bmax
  have h5 := h.stop i hi
  rw [lostS, if_neg (fun hh => hh (at_err h.tab (by unfold atBad; omega))), if_neg (fun hh => hh (at_err h.tab (by unfold atBad; omega))), if_neg (by omega)]
noncomputable def lsum (rows : Tb) (per : Int) (l : List Stp) : Nat → Int
  | 0 => 0
  | n + 1 => lsum rows per l n + (lostS rows per (gt l n)).1
theorem lost_range {rows : Tb} {per : Int} {s : Stp} : -160000 ≤ (lostS rows per s).1 ∧ (lostS rows per s).1 ≤ 160000 := by
  have hb := at_range (rows := rows) (per := per) (balls := s.b) (w := s.w)
  have ha := at_range (rows := rows) (per := per) (balls := s.a) (w := s.w)
  unfold lostS
  repeat' split
  · exact ⟨by simp, by simp⟩
  · exact ⟨by simp, by simp⟩
  · exact ⟨by simp, by simp⟩
  · exact ⟨by omega, by omega⟩
theorem lsum_range {rows : Tb} {per : Int} {l : List Stp} : ∀ n : Nat, -160000 * (n : Int) ≤ lsum rows per l n ∧ lsum rows per l n ≤ 160000 * (n : Int)
  | 0 => ⟨by simp [lsum], by simp [lsum]⟩
  | n + 1 => by
    have h1 := lsum_range (rows := rows) (per := per) (l := l) n
    have h2 := lost_range (rows := rows) (per := per) (s := gt l n)
    unfold lsum
    exact ⟨by omega, by omega⟩
noncomputable def leftS (rows : Tb) (per balls : Int) (l : List Stp) : Int × Int :=
  if chkS rows per balls l ≠ 0 then (0, chkS rows per balls l) else ((atS rows per balls 0).1 - lsum rows per l l.length, 0)

theorem frz_i (H : Heap) (b d : Nat) (x : Int) : frz H b (d + 1) (AV.i x) = AV.i x := rfl
theorem frz_rows (H : Heap) (b d : Nat) (rows : Tb) : frz H b (d + 3) (rowsAV rows) = rowsAV rows := by
  show AV.sl rows.length ((rows.map rowAV).map (frz H b (d + 2))) = _
  rw [List.map_map]
  congr 1
  apply List.map_congr_left
  intro r _
  show AV.sl r.length ((r.map AV.i).map (frz H b (d + 1))) = _
  rw [List.map_map]
  rfl
theorem frz_stops (H : Heap) (b d : Nat) (l : List Stp) : frz H b (d + 2) (stopsAV l) = stopsAV l := by
  show AV.sl l.length ((flatS l).map (frz H b (d + 1))) = _
  congr 1
  unfold flatS
  rw [List.map_flatten, List.map_map]
  congr 1
abbrev lc_left_fz (a b c d e f g h i j k m n o p q r s t u : AV) : Env := [(0,a),(1,b),(2,c),(3,d),(4,e),(8,f),(9,g),(10,h),(11,i),(12,j),(14,k),(15,m),(16,n),(23,o),(33,p),(35,q),(36,r),(37,s),(38,t),(49,u)]
theorem left_fz (lim : Nat) (H : Heap) (rows : Tb) (per balls : Int) (l : List Stp) (x : AV) (hx : frz H 0 8 x = stopsAV l) :
    ACall sig lim 36 [.agg [rowsAV rows], AV.i per, AV.i balls, x] H fun r H' => r = .tup [AV.i (leftS rows per balls l).1, AV.i (leftS rows per balls l).2] ∧ H' = H := by
 have hargs : [AV.agg [rowsAV rows], AV.i per, AV.i balls, x].map (frz H 0 8) = [.agg [rowsAV rows], AV.i per, AV.i balls, stopsAV l] := by
   show [AV.agg [frz H 0 7 (rowsAV rows)], AV.i per, AV.i balls, frz H 0 8 x] = _
   rw [frz_rows, hx]
 refine ACall_data (fa := fa36) rfl rfl rfl rfl hargs ?_
 have tr : ∀ a0 a1 a2 a3 : AV, env0 fa36.keep [a0, a1, a2, a3] = [(0,a0),(1,a1),(2,a2),(3,a3),(4,.any),(8,.any),(9,.any),(10,.any),(11,.any),(12,.any),(14,.any),(15,.any),(16,.any),(23,.any),(33,.any),(35,.any),(36,.any),(37,.any),(38,.any),(49,.any)] := fun a0 a1 a2 a3 => rfl
 refine W_to (tr _ _ _ _) ?_; clear tr
 refine at_seq rfl ?_
 refine rg rfl ?_
 refine R_box rfl (by simp (disch := first | omega | (simp only [List.length_map, List.length_append, List.length_set, List.length_cons, List.length_nil]; omega)) only [go_sem, ↓reduceIte, Nat.reduceEqDiff, reduceCtorEq]; rfl) rfl rfl ?_
 refine Rq ?_
 refine Rq ?_
 have tr : ∀ a b c d e f g h i j k m n o p q r s t u v w x : AV, let l := lc_left_fz a b c d e f g h i j k m n o p q r s t u; trim ((9,x)::(8,w)::(4,v)::l) l = [(0,a),(1,b),(2,c),(3,d),(4,v),(8,w),(9,x),(10,h),(11,i),(12,j),(14,k),(15,m),(16,n),(23,o),(33,p),(35,q),(36,r),(37,s),(38,t),(49,u)] := by intros; rfl
 refine R_nil (tr ..) ?_; clear tr
 refine then_n ?_
 refine at_seq rfl ?_
 refine at_seq rfl ?_
 refine rg rfl ?_
 refine Rq ?_
 refine Rq ?_
 refine Rq ?_
 refine Rq ?_
 refine Rcall ?_
 refine ACall_eq (chk_ok _ _ rows per balls l) ?_
 refine Rq ?_
 have tr : ∀ a b c d e f g h i j k m n o p q r s t u v w x y z A : AV, let l := lc_left_fz a b c d e f g h i j k m n o p q r s t u; trim ((10,A)::(21,z)::(20,y)::(19,x)::(18,w)::(17,v)::l) l = [(0,a),(1,b),(2,c),(3,d),(4,e),(8,f),(9,g),(10,A),(11,i),(12,j),(14,k),(15,m),(16,n),(23,o),(33,p),(35,q),(36,r),(37,s),(38,t),(49,u)] := by intros; rfl
 refine R_nil (tr ..) ?_; clear tr
 refine then_n ?_
 refine at_seq rfl ?_
 refine rg rfl ?_
 refine Rq ?_
 refine Rq ?_
 have tr : ∀ a b c d e f g h i j k m n o p q r s t u v w : AV, let l := lc_left_fz a b c d e f g h i j k m n o p q r s t u; trim ((23,w)::(22,v)::l) l = [(0,a),(1,b),(2,c),(3,d),(4,e),(8,f),(9,g),(10,h),(11,i),(12,j),(14,k),(15,m),(16,n),(23,w),(33,p),(35,q),(36,r),(37,s),(38,t),(49,u)] := by intros; rfl
 refine R_nil (tr ..) ?_; clear tr
 refine then_n ?_
 refine cdd (fun h1 => ?_) (fun h1 => ?_)
 ·
  try simp only [decide_eq_true_eq, decide_eq_false_iff_not, Bool.not_eq_true', Bool.not_eq_false', beq_iff_eq, beq_eq_false_iff_ne, ne_eq] at h1
  refine at_seq rfl ?_
  refine rg rfl ?_
  refine Rq ?_
  refine Rq ?_
  refine Rq ?_
  have tr : ∀ a b c d e f g h i j k m n o p q r s t u v w x : AV, let l := lc_left_fz a b c d e f g h i j k m n o p q r s t u; trim ((9,x)::(8,w)::(24,v)::l) l = [(0,a),(1,b),(2,c),(3,d),(4,e),(8,w),(9,x),(10,h),(11,i),(12,j),(14,k),(15,m),(16,n),(23,o),(33,p),(35,q),(36,r),(37,s),(38,t),(49,u)] := by intros; rfl
  refine R_nil (tr ..) ?_; clear tr
  refine then_n ?_
  refine at_ret rfl ?_
  refine then_r ?_
  refine fpure ?_
  refine ⟨rfl, ?_, rfl⟩
  rw [leftS, if_pos (by assumption)]
 ·
  try simp only [decide_eq_true_eq, decide_eq_false_iff_not, Bool.not_eq_true', Bool.not_eq_false', beq_iff_eq, beq_eq_false_iff_ne, ne_eq] at h1
  refine at_skip rfl ?_
  refine then_n ?_
  refine at_seq rfl ?_
  refine rg rfl ?_
  have hk : chkS rows per balls l = 0 := by assumption
  have c := chk_of hk
  have hat0 := c.at0
  have hatr := at_range (rows := rows) (per := per) (balls := balls) (w := 0)
  have hmost := c.most
  refine Rq ?_
  refine Rq ?_
  refine Rq ?_
  refine Rcall ?_
  refine ACall_eq (at_ok _ _ rows per balls 0) ?_
  refine Rq ?_
  refine Rq ?_
  refine Rq ?_
  refine Rq ?_
  refine Rq ?_
  have tr : ∀ a b c d e f g h i j k m n o p q r s t u v w x y z A B C D : AV, let l := lc_left_fz a b c d e f g h i j k m n o p q r s t u; trim ((12,D)::(11,C)::(31,B)::(30,A)::(25,z)::(29,y)::(28,x)::(27,w)::(26,v)::l) l = [(0,a),(1,b),(2,c),(3,d),(4,e),(8,f),(9,g),(10,h),(11,C),(12,D),(14,k),(15,m),(16,n),(23,o),(33,p),(35,q),(36,r),(37,s),(38,t),(49,u)] := by intros; rfl
  refine R_nil (tr ..) ?_; clear tr
  refine then_n ?_
  refine at_seq rfl ?_
  refine at_seq rfl ?_
  refine rg rfl ?_
  refine Rq ?_
  refine Rq ?_
  have tr : ∀ a b c d e f g h i j k m n o p q r s t u v w : AV, let l := lc_left_fz a b c d e f g h i j k m n o p q r s t u; trim ((33,w)::(32,v)::l) l = [(0,a),(1,b),(2,c),(3,d),(4,e),(8,f),(9,g),(10,h),(11,i),(12,j),(14,k),(15,m),(16,n),(23,o),(33,w),(35,q),(36,r),(37,s),(38,t),(49,u)] := by intros; rfl
  refine R_nil (tr ..) ?_; clear tr
  refine then_n ?_
  refine cdd (fun h2 => ?_) (fun h2 => ?_)
  ·
   try simp only [decide_eq_true_eq, decide_eq_false_iff_not, Bool.not_eq_true', Bool.not_eq_false', beq_iff_eq, beq_eq_false_iff_ne, ne_eq] at h2
   refine at_seq rfl ?_
   refine rg rfl ?_
   refine Rq ?_
   refine Rq ?_
   refine Rq ?_
   have tr : ∀ a b c d e f g h i j k m n o p q r s t u v w x : AV, let l := lc_left_fz a b c d e f g h i j k m n o p q r s t u; trim ((9,x)::(8,w)::(34,v)::l) l = [(0,a),(1,b),(2,c),(3,d),(4,e),(8,w),(9,x),(10,h),(11,i),(12,j),(14,k),(15,m),(16,n),(23,o),(33,p),(35,q),(36,r),(37,s),(38,t),(49,u)] := by intros; rfl
   refine R_nil (tr ..) ?_; clear tr
   refine then_n ?_
   refine at_ret rfl ?_
   refine then_r ?_
   exfalso; omega
  ·
   try simp only [decide_eq_true_eq, decide_eq_false_iff_not, Bool.not_eq_true', Bool.not_eq_false', beq_iff_eq, beq_eq_false_iff_ne, ne_eq] at h2
   refine at_skip rfl ?_
   refine then_n ?_
   refine at_seq rfl ?_
   refine at_seq rfl ?_
   refine rg rfl ?_
   refine Rq ?_
   refine Rq ?_
   refine Rq ?_
   have tr : ∀ a b c d e f g h i j k m n o p q r s t u v w x : AV, let l := lc_left_fz a b c d e f g h i j k m n o p q r s t u; trim ((37,x)::(36,w)::(35,v)::l) l = [(0,a),(1,b),(2,c),(3,d),(4,e),(8,f),(9,g),(10,h),(11,i),(12,j),(14,k),(15,m),(16,n),(23,o),(33,p),(35,v),(36,w),(37,x),(38,t),(49,u)] := by intros; rfl
   refine R_nil (tr ..) ?_; clear tr
   refine then_n ?_
   refine at_block rfl ?_
   refine loop_n rfl (fun mm kv H' => ∃ u : Nat, ∃ n : Int, ∃ X : Heap, ∃ x8 x9 x14 x15 x16 x38 x49 : AV, (kv = [(8, x8), (9, x9), (11, AV.i n), (14, x14), (15, x15), (16, x16), (37, AV.i u), (38, x38), (49, x49)]) ∧ (mm = l.length - u) ∧ (H' = [] ++ [some [rowsAV rows]] ++ X) ∧ (u ≤ l.length) ∧ (n = (atS rows per balls 0).1 - lsum rows per l u)) ⟨0, (atS rows per balls 0).1, [], _, _, _, _, _, _, _, rfl, rfl, by simp, by omega, by simp [lsum]⟩ (by rfl) ?_
   rintro mm kv H1 ⟨u, n, X, x8, x9, x14, x15, x16, x38, x49, rfl, rfl, hX, hu, hn⟩
   have tr : ∀ a b c d e f g h i j k m n o p q r s t u v w x y z A B C D : AV, upd [(0,a),(1,b),(2,c),(3,d),(4,e),(8,f),(9,g),(10,h),(11,i),(12,j),(14,k),(15,m),(16,n),(23,o),(33,p),(35,q),(36,r),(37,s),(38,t),(49,u)] [(8,v),(9,w),(11,x),(14,y),(15,z),(16,A),(37,B),(38,C),(49,D)] = [(0,a),(1,b),(2,c),(3,d),(4,e),(8,v),(9,w),(10,h),(11,x),(12,j),(14,y),(15,z),(16,A),(23,o),(33,p),(35,q),(36,r),(37,B),(38,C),(49,D)] := by intros; rfl
   refine W_to (tr ..) ?_; clear tr
   subst hX
   have hlost : u < l.length → (lostS rows per (gt l u)).2 = 0 := fun hh => by rw [c.lost0 hh]
   refine at_seq rfl ?_
   refine rg rfl ?_
   refine Rq ?_
   have tr : ∀ a b c d e f g h i j k m n o p q r s t u v : AV, let l := lc_left_fz a b c d e f g h i j k m n o p q r s t u; trim ((38,v)::l) l = [(0,a),(1,b),(2,c),(3,d),(4,e),(8,f),(9,g),(10,h),(11,i),(12,j),(14,k),(15,m),(16,n),(23,o),(33,p),(35,q),(36,r),(37,s),(38,v),(49,u)] := by intros; rfl
   refine R_nil (tr ..) ?_; clear tr
   refine then_n ?_
   refine at_seq rfl ?_
   refine cdd (fun h3 => ?_) (fun h3 => ?_)
   ·
    try simp only [decide_eq_true_eq, decide_eq_false_iff_not, Bool.not_eq_true', Bool.not_eq_false', beq_iff_eq, beq_eq_false_iff_ne, ne_eq] at h3
    refine at_skip rfl ?_
    refine then_n ?_
    refine at_seq rfl ?_
    refine at_block rfl ?_
    refine at_seq rfl ?_
    refine rg rfl ?_
    refine Rq ?_
    refine Rq ?_
    refine R_alloc (by simp (disch := first | omega | (simp only [List.length_map, List.length_append, List.length_set, List.length_cons, List.length_nil]; omega)) only [go_sem, ↓reduceIte, Nat.reduceEqDiff, reduceCtorEq]; rfl) rfl (by simp only [List.map_cons, List.map_nil]; rfl) ?_
    refine R_store ty56 (by simp (disch := first | omega | (simp only [List.length_map, List.length_append, List.length_set, List.length_cons, List.length_nil]; omega)) only [go_sem, ↓reduceIte, Nat.reduceEqDiff, reduceCtorEq]; rfl) (by simp (disch := first | omega | (simp only [List.length_map, List.length_append, List.length_set, List.length_cons, List.length_nil]; omega)) only [go_sem, ↓reduceIte, Nat.reduceEqDiff, reduceCtorEq]; rfl) (by simp (disch := first | omega | (simp only [List.length_map, List.length_append, List.length_set, List.length_cons, List.length_nil]; omega)) only [go_sem, ↓reduceIte, Nat.reduceEqDiff, reduceCtorEq]; rfl) (by simp) (by rfl) (by simp (disch := first | omega | (simp only [List.length_map, List.length_append, List.length_set, List.length_cons, List.length_nil]; omega)) only [go_sem, ↓reduceIte, Nat.reduceEqDiff, reduceCtorEq]; rfl) ?_
    have tr : ∀ a b c d e f g h i j k m n o p q r s t u v w x : AV, let l := lc_left_fz a b c d e f g h i j k m n o p q r s t u; trim ((14,x)::(40,w)::(39,v)::l) l = [(0,a),(1,b),(2,c),(3,d),(4,e),(8,f),(9,g),(10,h),(11,i),(12,j),(14,x),(15,m),(16,n),(23,o),(33,p),(35,q),(36,r),(37,s),(38,t),(49,u)] := by intros; rfl
    refine R_nil (tr ..) ?_; clear tr
    refine then_n ?_
    refine at_seq rfl ?_
    refine rg rfl ?_
    refine Rq ?_
    refine Rq ?_
    refine Rq ?_
    refine Rcall ?_
    refine ACall_eq (lost_ok _ _ rows per (gt l u)) ?_
    refine Rq ?_
    refine Rq ?_
    refine Rq ?_
    refine Rq ?_
    refine Rq ?_
    have tr : ∀ a b c d e f g h i j k m n o p q r s t u v w x y z A B C D : AV, let l := lc_left_fz a b c d e f g h i j k m n o p q r s t u; trim ((16,D)::(15,C)::(47,B)::(46,A)::(41,z)::(45,y)::(44,x)::(43,w)::(42,v)::l) l = [(0,a),(1,b),(2,c),(3,d),(4,e),(8,f),(9,g),(10,h),(11,i),(12,j),(14,k),(15,C),(16,D),(23,o),(33,p),(35,q),(36,r),(37,s),(38,t),(49,u)] := by intros; rfl
    refine R_nil (tr ..) ?_; clear tr
    refine then_n ?_
    refine at_seq rfl ?_
    refine at_seq rfl ?_
    refine rg rfl ?_
    refine Rq ?_
    refine Rq ?_
    have tr : ∀ a b c d e f g h i j k m n o p q r s t u v w : AV, let l := lc_left_fz a b c d e f g h i j k m n o p q r s t u; trim ((49,w)::(48,v)::l) l = [(0,a),(1,b),(2,c),(3,d),(4,e),(8,f),(9,g),(10,h),(11,i),(12,j),(14,k),(15,m),(16,n),(23,o),(33,p),(35,q),(36,r),(37,s),(38,t),(49,w)] := by intros; rfl
    refine R_nil (tr ..) ?_; clear tr
    refine then_n ?_
    refine cdd (fun h4 => ?_) (fun h4 => ?_)
    ·
     try simp only [decide_eq_true_eq, decide_eq_false_iff_not, Bool.not_eq_true', Bool.not_eq_false', beq_iff_eq, beq_eq_false_iff_ne, ne_eq] at h4
     refine at_seq rfl ?_
     refine rg rfl ?_
     refine Rq ?_
     refine Rq ?_
     refine Rq ?_
     have tr : ∀ a b c d e f g h i j k m n o p q r s t u v w x : AV, let l := lc_left_fz a b c d e f g h i j k m n o p q r s t u; trim ((9,x)::(8,w)::(50,v)::l) l = [(0,a),(1,b),(2,c),(3,d),(4,e),(8,w),(9,x),(10,h),(11,i),(12,j),(14,k),(15,m),(16,n),(23,o),(33,p),(35,q),(36,r),(37,s),(38,t),(49,u)] := by intros; rfl
     refine R_nil (tr ..) ?_; clear tr
     refine then_n ?_
     refine at_ret rfl ?_
     refine then_r ?_
     refine blk_r ?_
     refine then_r ?_
     refine then_r ?_
     refine blk_r ?_
     refine then_r ?_
     exfalso; have := hlost (by omega); omega
    ·
     try simp only [decide_eq_true_eq, decide_eq_false_iff_not, Bool.not_eq_true', Bool.not_eq_false', beq_iff_eq, beq_eq_false_iff_ne, ne_eq] at h4
     refine at_skip rfl ?_
     refine then_n ?_
     refine rg rfl ?_
     have hlr := lost_range (rows := rows) (per := per) (s := gt l u)
     have hls := lsum_range (rows := rows) (per := per) (l := l) u
     refine Rq ?_
     refine Rq ?_
     refine Rq ?_
     refine Rq ?_
     have tr : ∀ a b c d e f g h i j k m n o p q r s t u v w x y : AV, let l := lc_left_fz a b c d e f g h i j k m n o p q r s t u; trim ((11,y)::(53,x)::(52,w)::(51,v)::l) l = [(0,a),(1,b),(2,c),(3,d),(4,e),(8,f),(9,g),(10,h),(11,y),(12,j),(14,k),(15,m),(16,n),(23,o),(33,p),(35,q),(36,r),(37,s),(38,t),(49,u)] := by intros; rfl
     refine R_nil (tr ..) ?_; clear tr
     refine blk_n ?_
     refine then_n ?_
     refine rg rfl ?_
     refine Rq ?_
     refine Rq ?_
     have tr : ∀ a b c d e f g h i j k m n o p q r s t u v w : AV, let l := lc_left_fz a b c d e f g h i j k m n o p q r s t u; trim ((37,w)::(54,v)::l) l = [(0,a),(1,b),(2,c),(3,d),(4,e),(8,f),(9,g),(10,h),(11,i),(12,j),(14,k),(15,m),(16,n),(23,o),(33,p),(35,q),(36,r),(37,w),(38,t),(49,u)] := by intros; rfl
     refine R_nil (tr ..) ?_; clear tr
     refine then_n ?_
     have hls2 : lsum rows per l (u + 1) = lsum rows per l u + (lostS rows per (gt l u)).1 := rfl
     exact ⟨_, _, ⟨u + 1, n - (lostS rows per (gt l u)).1, X ++ [some (stC (gt l u))], _, _, _, _, _, _, _, rfl, rfl, by simp; rfl, by omega, by omega⟩, by rfl, by omega⟩
   ·
    try simp only [decide_eq_true_eq, decide_eq_false_iff_not, Bool.not_eq_true', Bool.not_eq_false', beq_iff_eq, beq_eq_false_iff_ne, ne_eq] at h3
    refine at_exit rfl ?_
    refine then_x ?_
    refine then_x ?_
    refine blk_x ?_
    refine then_n ?_
    refine at_seq rfl ?_
    refine rg rfl ?_
    refine Rq ?_
    refine Rq ?_
    refine Rq ?_
    have tr : ∀ a b c d e f g h i j k m n o p q r s t u v w x : AV, let l := lc_left_fz a b c d e f g h i j k m n o p q r s t u; trim ((9,x)::(8,w)::(55,v)::l) l = [(0,a),(1,b),(2,c),(3,d),(4,e),(8,w),(9,x),(10,h),(11,i),(12,j),(14,k),(15,m),(16,n),(23,o),(33,p),(35,q),(36,r),(37,s),(38,t),(49,u)] := by intros; rfl
    refine R_nil (tr ..) ?_; clear tr
    refine then_n ?_
    refine at_ret rfl ?_
    refine fpure ?_
    refine ⟨rfl, ?_, rfl⟩
    have e : lsum rows per l l.length = lsum rows per l u := by rw [show l.length = u by omega]
    rw [leftS, if_neg (fun hh => hh hk), hn, e]

theorem left_ok (lim : Nat) (H : Heap) (rows : Tb) (per balls : Int) (l : List Stp) :
    ACall sig lim 36 [.agg [rowsAV rows], AV.i per, AV.i balls, stopsAV l] H fun r H' => r = .tup [AV.i (leftS rows per balls l).1, AV.i (leftS rows per balls l).2] ∧ H' = H :=
  left_fz lim H rows per balls l _ (frz_stops _ _ _ _)

end Go.Proofs.Ytaoondlakhocnaa
