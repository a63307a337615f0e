/-
  Texts of RainSplits, part 8 of 9. Walks of chapters 37, 39 and 40. The steps are written by program (walk.py).
-/
import Derived.Test.YtaoondlakhocnaaKRainSplits6
import Derived.Test.YtaoondlakhocnaaKRainSplits4
import Derived.Test.YtaoondlakhocnaaKRainSplits5
section
set_option linter.unusedSimpArgs false
set_option linter.unusedVariables false
set_option maxHeartbeats 40000000
set_option maxRecDepth 4000
namespace Go.Proofs.Ytaoondlakhocnaa
open Go Go.Am

noncomputable def lostS (rows : Tb) (per : Int) (s : Stp) : Int × Int :=
  if (atS rows per s.b s.w).2 ≠ 0 then (0, (atS rows per s.b s.w).2) else if (atS rows per s.a s.w).2 ≠ 0 then (0, (atS rows per s.a s.w).2) else if s.b < s.a then (0, 1) else ((atS rows per s.b s.w).1 - (atS rows per s.a s.w).1, 0)
theorem at_range {rows : Tb} {per balls w : Int} : 0 ≤ (atS rows per balls w).1 ∧ (atS rows per balls w).1 ≤ 160000 := by
  unfold atS
  split
  · exact ⟨by simp, by simp⟩
  · split
    · exact ⟨by simp, by simp⟩
    · split
      · exact ⟨by simp, by simp⟩
      · rename_i h1 h2 h3
        have s := check_shaped (Classical.not_not.mp h1)
        unfold atBad at h2
        have g2 := s.two
        obtain ⟨q0, q1, r0, r1, q2⟩ := at_place (n := (rows.length : Int) - 1) (per := per) (balls := balls) (by omega) (by omega) (by omega)
        have hl1 := s.len (balls / per).toNat (by omega)
        have k1 : 0 ≤ gt (gt rows (balls / per).toNat) w.toNat ∧ gt (gt rows (balls / per).toNat) w.toNat ≤ 10000 := s.rng _ (by omega) _ (by omega)
        have k2 := mul_box (b := per - balls % per) (B := 8) k1.1 k1.2 (by omega) (by omega)
        unfold atV cellI
        by_cases hr : 0 < balls % per
        · have q3 := q2 hr
          have hl2 := s.len (balls / per + 1).toNat (by omega)
          have k3 : 0 ≤ gt (gt rows (balls / per + 1).toNat) w.toNat ∧ gt (gt rows (balls / per + 1).toNat) w.toNat ≤ 10000 := s.rng _ (by omega) _ (by omega)
          have k4 := mul_box (b := balls % per) (B := 8) k3.1 k3.2 (by omega) (by omega)
          rw [if_pos hr]
          exact ⟨by omega, by omega⟩
        · rw [if_neg hr]
          exact ⟨by omega, by omega⟩

abbrev lc_lost_ok (a b c d e f g h i j k m n : AV) : Env := [(0,a),(1,b),(2,c),(3,d),(5,e),(6,f),(7,g),(8,h),(9,i),(10,j),(22,k),(35,m),(41,n)]
theorem lost_ok (lim : Nat) (H : Heap) (rows : Tb) (per : Int) (s : Stp) :
    ACall sig lim 40 [.agg [rowsAV rows], AV.i per, .agg (stC s)] H fun r H' => r = .tup [AV.i (lostS rows per s).1, AV.i (lostS rows per s).2] ∧ H' = H := by
 refine ACall_pure (fa := fa40) rfl rfl rfl rfl ?_
 have tr : ∀ a0 a1 a2 : AV, env0 fa40.keep [a0, a1, a2] = [(0,a0),(1,a1),(2,a2),(3,.any),(5,.any),(6,.any),(7,.any),(8,.any),(9,.any),(10,.any),(22,.any),(35,.any),(41,.any)] := fun a0 a1 a2 => rfl
 refine W_to (tr _ _ _) ?_; clear tr
 refine at_seq rfl ?_
 refine rg rfl ?_
 refine R_box rfl (by simp (disch := first | omega | (simp only [List.length_map, List.length_append, List.length_set, List.length_cons, List.length_nil]; omega)) only [go_sem, ↓reduceIte, Nat.reduceEqDiff, reduceCtorEq] <;> rfl) rfl rfl ?_
 refine R_box rfl (by simp (disch := first | omega | (simp only [List.length_map, List.length_append, List.length_set, List.length_cons, List.length_nil]; omega)) only [go_sem, ↓reduceIte, Nat.reduceEqDiff, reduceCtorEq] <;> rfl) rfl rfl ?_
 refine Rq ?_
 refine Rq ?_
 have tr : ∀ a b c d e f g h i j k m n o p q r : AV, let l := lc_lost_ok a b c d e f g h i j k m n; trim ((7,r)::(6,q)::(5,p)::(3,o)::l) l = [(0,a),(1,b),(2,c),(3,o),(5,p),(6,q),(7,r),(8,h),(9,i),(10,j),(22,k),(35,m),(41,n)] := by intros; rfl
 refine R_nil (tr ..) ?_; clear tr
 refine then_n ?_
 refine at_seq rfl ?_
 refine rg rfl ?_
 refine Rq ?_
 refine Rq ?_
 refine Rq ?_
 refine Rq ?_
 refine Rq ?_
 refine Rq ?_
 refine Rcall ?_
 refine ACall_eq (at_ok _ _ rows per _ _) ?_
 refine Rq ?_
 refine Rq ?_
 refine Rq ?_
 refine Rq ?_
 refine Rq ?_
 have tr : ∀ a b c d e f g h i j k m n o p q r s t u v w x y z : AV, let l := lc_lost_ok a b c d e f g h i j k m n; trim ((9,z)::(8,y)::(20,x)::(19,w)::(11,v)::(18,u)::(17,t)::(16,s)::(15,r)::(14,q)::(13,p)::(12,o)::l) l = [(0,a),(1,b),(2,c),(3,d),(5,e),(6,f),(7,g),(8,y),(9,z),(10,j),(22,k),(35,m),(41,n)] := by intros; rfl
 refine R_nil (tr ..) ?_; clear tr
 refine then_n ?_
 refine at_seq rfl ?_
 refine at_seq rfl ?_
 refine rg rfl ?_
 refine Rq ?_
 refine Rq ?_
 have tr : ∀ a b c d e f g h i j k m n o p : AV, let l := lc_lost_ok a b c d e f g h i j k m n; trim ((22,p)::(21,o)::l) l = [(0,a),(1,b),(2,c),(3,d),(5,e),(6,f),(7,g),(8,h),(9,i),(10,j),(22,p),(35,m),(41,n)] := by intros; rfl
 refine R_nil (tr ..) ?_; clear tr
 refine then_n ?_
 refine cdd (fun h1 => ?_) (fun h1 => ?_)
 ·
  try simp only [decide_eq_true_eq, decide_eq_false_iff_not, Bool.not_eq_true', Bool.not_eq_false', beq_iff_eq, beq_eq_false_iff_ne, ne_eq] at h1
  refine at_seq rfl ?_
  refine rg rfl ?_
  refine Rq ?_
  refine Rq ?_
  refine Rq ?_
  have tr : ∀ a b c d e f g h i j k m n o p q : AV, let l := lc_lost_ok a b c d e f g h i j k m n; trim ((7,q)::(6,p)::(23,o)::l) l = [(0,a),(1,b),(2,c),(3,d),(5,e),(6,p),(7,q),(8,h),(9,i),(10,j),(22,k),(35,m),(41,n)] := by intros; rfl
  refine R_nil (tr ..) ?_; clear tr
  refine then_n ?_
  refine at_ret rfl ?_
  refine then_r ?_
  refine fpure ?_
  refine ⟨?_, rfl⟩
  rw [lostS, if_pos (by assumption)]
 ·
  try simp only [decide_eq_true_eq, decide_eq_false_iff_not, Bool.not_eq_true', Bool.not_eq_false', beq_iff_eq, beq_eq_false_iff_ne, ne_eq] at h1
  refine at_skip rfl ?_
  refine then_n ?_
  refine at_seq rfl ?_
  refine rg rfl ?_
  refine Rq ?_
  refine Rq ?_
  refine Rq ?_
  refine Rq ?_
  refine Rq ?_
  refine Rq ?_
  refine Rcall ?_
  refine ACall_eq (at_ok _ _ rows per _ _) ?_
  refine Rq ?_
  refine Rq ?_
  refine Rq ?_
  refine Rq ?_
  refine Rq ?_
  have tr : ∀ a b c d e f g h i j k m n o p q r s t u v w x y z : AV, let l := lc_lost_ok a b c d e f g h i j k m n; trim ((9,z)::(10,y)::(33,x)::(32,w)::(24,v)::(31,u)::(30,t)::(29,s)::(28,r)::(27,q)::(26,p)::(25,o)::l) l = [(0,a),(1,b),(2,c),(3,d),(5,e),(6,f),(7,g),(8,h),(9,z),(10,y),(22,k),(35,m),(41,n)] := by intros; rfl
  refine R_nil (tr ..) ?_; clear tr
  refine then_n ?_
  refine at_seq rfl ?_
  refine at_seq rfl ?_
  refine rg rfl ?_
  refine Rq ?_
  refine Rq ?_
  have tr : ∀ a b c d e f g h i j k m n o p : AV, let l := lc_lost_ok a b c d e f g h i j k m n; trim ((35,p)::(34,o)::l) l = [(0,a),(1,b),(2,c),(3,d),(5,e),(6,f),(7,g),(8,h),(9,i),(10,j),(22,k),(35,p),(41,n)] := by intros; rfl
  refine R_nil (tr ..) ?_; clear tr
  refine then_n ?_
  refine cdd (fun h2 => ?_) (fun h2 => ?_)
  ·
   try simp only [decide_eq_true_eq, decide_eq_false_iff_not, Bool.not_eq_true', Bool.not_eq_false', beq_iff_eq, beq_eq_false_iff_ne, ne_eq] at h2
   refine at_seq rfl ?_
   refine rg rfl ?_
   refine Rq ?_
   refine Rq ?_
   refine Rq ?_
   have tr : ∀ a b c d e f g h i j k m n o p q : AV, let l := lc_lost_ok a b c d e f g h i j k m n; trim ((7,q)::(6,p)::(36,o)::l) l = [(0,a),(1,b),(2,c),(3,d),(5,e),(6,p),(7,q),(8,h),(9,i),(10,j),(22,k),(35,m),(41,n)] := by intros; rfl
   refine R_nil (tr ..) ?_; clear tr
   refine then_n ?_
   refine at_ret rfl ?_
   refine then_r ?_
   refine fpure ?_
   refine ⟨?_, rfl⟩
   rw [lostS, if_neg (by omega), if_pos (by assumption)]
  ·
   try simp only [decide_eq_true_eq, decide_eq_false_iff_not, Bool.not_eq_true', Bool.not_eq_false', beq_iff_eq, beq_eq_false_iff_ne, ne_eq] at h2
   refine at_skip rfl ?_
   refine then_n ?_
   refine at_seq rfl ?_
   refine at_seq rfl ?_
   refine rg rfl ?_
   refine Rq ?_
   refine Rq ?_
   refine Rq ?_
   refine Rq ?_
   refine Rq ?_
   have tr : ∀ a b c d e f g h i j k m n o p q r s : AV, let l := lc_lost_ok a b c d e f g h i j k m n; trim ((41,s)::(40,r)::(39,q)::(38,p)::(37,o)::l) l = [(0,a),(1,b),(2,c),(3,d),(5,e),(6,f),(7,g),(8,h),(9,i),(10,j),(22,k),(35,m),(41,s)] := by intros; rfl
   refine R_nil (tr ..) ?_; clear tr
   refine then_n ?_
   refine cdd (fun h3 => ?_) (fun h3 => ?_)
   ·
    try simp only [decide_eq_true_eq, decide_eq_false_iff_not, Bool.not_eq_true', Bool.not_eq_false', beq_iff_eq, beq_eq_false_iff_ne, ne_eq] at h3
    refine at_seq rfl ?_
    refine rg rfl ?_
    refine Rq ?_
    refine Rq ?_
    have tr : ∀ a b c d e f g h i j k m n o p : AV, let l := lc_lost_ok a b c d e f g h i j k m n; trim ((7,p)::(6,o)::l) l = [(0,a),(1,b),(2,c),(3,d),(5,e),(6,o),(7,p),(8,h),(9,i),(10,j),(22,k),(35,m),(41,n)] := by intros; rfl
    refine R_nil (tr ..) ?_; clear tr
    refine then_n ?_
    refine at_ret rfl ?_
    refine then_r ?_
    refine fpure ?_
    refine ⟨?_, rfl⟩
    rw [lostS, if_neg (by omega), if_neg (by omega), if_pos (by omega)]
   ·
    try simp only [decide_eq_true_eq, decide_eq_false_iff_not, Bool.not_eq_true', Bool.not_eq_false', beq_iff_eq, beq_eq_false_iff_ne, ne_eq] at h3
    refine at_skip rfl ?_
    refine then_n ?_
    refine at_seq rfl ?_
    refine rg rfl ?_
    have hb := at_range (rows := rows) (per := per) (balls := s.b) (w := s.w)
    have ha := at_range (rows := rows) (per := per) (balls := s.a) (w := s.w)
    refine Rq ?_
    refine Rq ?_
    refine Rq ?_
    refine Rq ?_
    refine Rq ?_
    have tr : ∀ a b c d e f g h i j k m n o p q r s : AV, let l := lc_lost_ok a b c d e f g h i j k m n; trim ((7,s)::(6,r)::(44,q)::(43,p)::(42,o)::l) l = [(0,a),(1,b),(2,c),(3,d),(5,e),(6,r),(7,s),(8,h),(9,i),(10,j),(22,k),(35,m),(41,n)] := by intros; rfl
    refine R_nil (tr ..) ?_; clear tr
    refine then_n ?_
    refine at_ret rfl ?_
    refine fpure ?_
    refine ⟨?_, rfl⟩
    rw [lostS, if_neg (by omega), if_neg (by omega), if_neg (by omega)]

end Go.Proofs.Ytaoondlakhocnaa
end
section
set_option linter.unusedSimpArgs false
set_option linter.unusedVariables false
set_option maxHeartbeats 40000000
set_option maxRecDepth 4000
namespace Go.Proofs.Ytaoondlakhocnaa
open Go Go.Am

structure Chk (rows : Tb) (per balls : Int) (l : List Stp) : Prop where
  tab : checkS rows = 0
  per1 : 1 ≤ per
  per8 : per ≤ 8
  b1 : 1 ≤ balls
  bmax : balls ≤ ((rows.length : Int) - 1) * per
  most : l.length ≤ 20
  stop : ∀ i, i < l.length → (gt l i).b ≤ balls ∧ 0 ≤ (gt l i).a ∧ 0 ≤ (gt l i).w ∧ (gt l i).w ≤ (gt rows 0).length ∧ (gt l i).a ≤ (gt l i).b ∧ (0 < i → (gt l i).b ≤ (gt l (i - 1)).a ∧ (gt l (i - 1)).w ≤ (gt l i).w)
theorem chk_of {rows : Tb} {per balls : Int} {l : List Stp} (h : chkS rows per balls l = 0) : Chk rows per balls l := by
  unfold chkS at h
  split at h
  · rename_i h1; exact absurd h h1
  · split at h
    · cases h
    · split at h
      · cases h
      · rename_i h1 h2 h3
        unfold chkBad at h2
        refine ⟨Decidable.not_not.mp h1, by omega, by omega, by omega, by omega, by omega, fun i hi => ?_⟩
        have := ferr_all h i hi
        unfold stopErr at this
        split at this
        · cases this
        · split at this
          · cases this
          · split at this
            · cases this
            · exact ⟨by omega, by omega, by omega, by omega, by omega, fun h0 => ⟨by omega, by omega⟩⟩
theorem of_chk {rows : Tb} {per balls : Int} {l : List Stp} (h : Chk rows per balls l) : chkS rows per balls l = 0 := by
  have h1 := h.per1
  have h2 := h.per8
  have h3 := h.b1
  have h4 := h.bmax
  have h5 := h.most
  rw [chkS, if_neg (fun hh => hh h.tab), if_neg (by unfold chkBad; omega), if_neg (by omega)]
  have : ∀ n, n ≤ l.length → ferr (stopErr rows balls l) n = 0 := by
    intro n
    induction n with
    | zero => intro _; rfl
    | succ n ih =>
      intro hn
      refine ferr_ok (ih (by omega)) ?_
      have := h.stop n (by omega)
      unfold stopErr
      rw [if_neg (by omega), if_neg (by omega), if_neg (by omega)]
  exact this _ (Nat.le_refl _)
theorem at_err {rows : Tb} {per balls w : Int} (h : checkS rows = 0) (hn : ¬ atBad rows per balls w) : (atS rows per balls w).2 = 0 := by
  rw [atS, if_neg (fun hh => hh h), if_neg hn]
  split <;> rfl
theorem Chk.at0 {rows : Tb} {per balls : Int} {l : List Stp} (h : Chk rows per balls l) : (atS rows per balls 0).2 = 0 := by
  have h1 := h.per1
  have h2 := h.per8
  have h3 := h.b1
  have h4 := h.bmax
  exact at_err h.tab (by unfold atBad; omega)
theorem Chk.lost0 {rows : Tb} {per balls : Int} {l : List Stp} (h : Chk rows per balls l) {i : Nat} (hi : i < l.length) :
    lostS rows per (gt l i) = ((atS rows per (gt l i).b (gt l i).w).1 - (atS rows per (gt l i).a (gt l i).w).1, 0) := by
  have h1 := h.per1
  have h2 := h.per8
  have h3 := h.b1
  have h4 := h.bmax
  have h5 := h.stop i hi
  rw [lostS, if_neg (fun hh => hh (at_err h.tab (by unfold atBad; omega))), if_neg (fun hh => hh (at_err h.tab (by unfold atBad; omega))), if_neg (by omega)]
noncomputable def lsum (rows : Tb) (per : Int) (l : List Stp) : Nat → Int
  | 0 => 0
  | n + 1 => lsum rows per l n + (lostS rows per (gt l n)).1
theorem lost_range {rows : Tb} {per : Int} {s : Stp} : -160000 ≤ (lostS rows per s).1 ∧ (lostS rows per s).1 ≤ 160000 := by
  have hb := at_range (rows := rows) (per := per) (balls := s.b) (w := s.w)
  have ha := at_range (rows := rows) (per := per) (balls := s.a) (w := s.w)
  unfold lostS
  repeat' split
  · exact ⟨by simp, by simp⟩
  · exact ⟨by simp, by simp⟩
  · exact ⟨by simp, by simp⟩
  · exact ⟨by omega, by omega⟩
theorem lsum_range {rows : Tb} {per : Int} {l : List Stp} : ∀ n : Nat, -160000 * (n : Int) ≤ lsum rows per l n ∧ lsum rows per l n ≤ 160000 * (n : Int)
  | 0 => ⟨by simp [lsum], by simp [lsum]⟩
  | n + 1 => by
    have h1 := lsum_range (rows := rows) (per := per) (l := l) n
    have h2 := lost_range (rows := rows) (per := per) (s := gt l n)
    unfold lsum
    exact ⟨by omega, by omega⟩
noncomputable def leftS (rows : Tb) (per balls : Int) (l : List Stp) : Int × Int :=
  if chkS rows per balls l ≠ 0 then (0, chkS rows per balls l) else ((atS rows per balls 0).1 - lsum rows per l l.length, 0)

theorem frz_rows (H : Heap) (b d : Nat) (rows : Tb) : frz H b (d + 3) (rowsAV rows) = rowsAV rows := by
  show AV.sl rows.length ((rows.map rowAV).map (frz H b (d + 2))) = _
  rw [List.map_map]
  congr 1
  apply List.map_congr_left
  intro r _
  show AV.sl r.length ((r.map AV.i).map (frz H b (d + 1))) = _
  rw [List.map_map]
  rfl
theorem frz_stops (H : Heap) (b d : Nat) (l : List Stp) : frz H b (d + 2) (stopsAV l) = stopsAV l := by
  show AV.sl l.length ((flatS l).map (frz H b (d + 1))) = _
  congr 1
  unfold flatS
  rw [List.map_flatten, List.map_map]
  congr 1
abbrev lc_left_fz (a b c d e f g h i j k m n o p q r s t u : AV) : Env := [(0,a),(1,b),(2,c),(3,d),(4,e),(8,f),(9,g),(10,h),(11,i),(12,j),(14,k),(15,m),(16,n),(23,o),(33,p),(35,q),(36,r),(37,s),(38,t),(49,u)]
theorem left_fz (lim : Nat) (H : Heap) (rows : Tb) (per balls : Int) (l : List Stp) (x : AV) (hx : frz H 0 8 x = stopsAV l) :
    ACall sig lim 36 [.agg [rowsAV rows], AV.i per, AV.i balls, x] H fun r H' => r = .tup [AV.i (leftS rows per balls l).1, AV.i (leftS rows per balls l).2] ∧ H' = H := by
 have hargs : [AV.agg [rowsAV rows], AV.i per, AV.i balls, x].map (frz H 0 8) = [.agg [rowsAV rows], AV.i per, AV.i balls, stopsAV l] := by
   show [AV.agg [frz H 0 7 (rowsAV rows)], AV.i per, AV.i balls, frz H 0 8 x] = _
   rw [frz_rows, hx]
 refine ACall_data (fa := fa36) rfl rfl rfl rfl hargs ?_
 have tr : ∀ a0 a1 a2 a3 : AV, env0 fa36.keep [a0, a1, a2, a3] = [(0,a0),(1,a1),(2,a2),(3,a3),(4,.any),(8,.any),(9,.any),(10,.any),(11,.any),(12,.any),(14,.any),(15,.any),(16,.any),(23,.any),(33,.any),(35,.any),(36,.any),(37,.any),(38,.any),(49,.any)] := fun a0 a1 a2 a3 => rfl
 refine W_to (tr _ _ _ _) ?_; clear tr
 refine at_seq rfl ?_
 refine rg rfl ?_
 refine R_box rfl (by simp (disch := first | omega | (simp only [List.length_map, List.length_append, List.length_set, List.length_cons, List.length_nil]; omega)) only [go_sem, ↓reduceIte, Nat.reduceEqDiff, reduceCtorEq] <;> rfl) rfl rfl ?_
 refine Rq ?_
 refine Rq ?_
 have tr : ∀ a b c d e f g h i j k m n o p q r s t u v w x : AV, let l := lc_left_fz a b c d e f g h i j k m n o p q r s t u; trim ((9,x)::(8,w)::(4,v)::l) l = [(0,a),(1,b),(2,c),(3,d),(4,v),(8,w),(9,x),(10,h),(11,i),(12,j),(14,k),(15,m),(16,n),(23,o),(33,p),(35,q),(36,r),(37,s),(38,t),(49,u)] := by intros; rfl
 refine R_nil (tr ..) ?_; clear tr
 refine then_n ?_
 refine at_seq rfl ?_
 refine at_seq rfl ?_
 refine rg rfl ?_
 refine Rq ?_
 refine Rq ?_
 refine Rq ?_
 refine Rq ?_
 refine Rcall ?_
 refine ACall_eq (chk_ok _ _ rows per balls l) ?_
 refine Rq ?_
 have tr : ∀ a b c d e f g h i j k m n o p q r s t u v w x y z A : AV, let l := lc_left_fz a b c d e f g h i j k m n o p q r s t u; trim ((10,A)::(21,z)::(20,y)::(19,x)::(18,w)::(17,v)::l) l = [(0,a),(1,b),(2,c),(3,d),(4,e),(8,f),(9,g),(10,A),(11,i),(12,j),(14,k),(15,m),(16,n),(23,o),(33,p),(35,q),(36,r),(37,s),(38,t),(49,u)] := by intros; rfl
 refine R_nil (tr ..) ?_; clear tr
 refine then_n ?_
 refine at_seq rfl ?_
 refine rg rfl ?_
 refine Rq ?_
 refine Rq ?_
 have tr : ∀ a b c d e f g h i j k m n o p q r s t u v w : AV, let l := lc_left_fz a b c d e f g h i j k m n o p q r s t u; trim ((23,w)::(22,v)::l) l = [(0,a),(1,b),(2,c),(3,d),(4,e),(8,f),(9,g),(10,h),(11,i),(12,j),(14,k),(15,m),(16,n),(23,w),(33,p),(35,q),(36,r),(37,s),(38,t),(49,u)] := by intros; rfl
 refine R_nil (tr ..) ?_; clear tr
 refine then_n ?_
 refine cdd (fun h1 => ?_) (fun h1 => ?_)
 ·
  try simp only [decide_eq_true_eq, decide_eq_false_iff_not, Bool.not_eq_true', Bool.not_eq_false', beq_iff_eq, beq_eq_false_iff_ne, ne_eq] at h1
  refine at_seq rfl ?_
  refine rg rfl ?_
  refine Rq ?_
  refine Rq ?_
  refine Rq ?_
  have tr : ∀ a b c d e f g h i j k m n o p q r s t u v w x : AV, let l := lc_left_fz a b c d e f g h i j k m n o p q r s t u; trim ((9,x)::(8,w)::(24,v)::l) l = [(0,a),(1,b),(2,c),(3,d),(4,e),(8,w),(9,x),(10,h),(11,i),(12,j),(14,k),(15,m),(16,n),(23,o),(33,p),(35,q),(36,r),(37,s),(38,t),(49,u)] := by intros; rfl
  refine R_nil (tr ..) ?_; clear tr
  refine then_n ?_
  refine at_ret rfl ?_
  refine then_r ?_
  refine fpure ?_
  refine ⟨rfl, ?_, rfl⟩
  rw [leftS, if_pos (by assumption)]
 ·
  try simp only [decide_eq_true_eq, decide_eq_false_iff_not, Bool.not_eq_true', Bool.not_eq_false', beq_iff_eq, beq_eq_false_iff_ne, ne_eq] at h1
  refine at_skip rfl ?_
  refine then_n ?_
  refine at_seq rfl ?_
  refine rg rfl ?_
  have hk : chkS rows per balls l = 0 := by assumption
  have c := chk_of hk
  have hat0 := c.at0
  have hatr := at_range (rows := rows) (per := per) (balls := balls) (w := 0)
  have hmost := c.most
  refine Rq ?_
  refine Rq ?_
  refine Rq ?_
  refine Rcall ?_
  refine ACall_eq (at_ok _ _ rows per balls 0) ?_
  refine Rq ?_
  refine Rq ?_
  refine Rq ?_
  refine Rq ?_
  refine Rq ?_
  have tr : ∀ a b c d e f g h i j k m n o p q r s t u v w x y z A B C D : AV, let l := lc_left_fz a b c d e f g h i j k m n o p q r s t u; trim ((12,D)::(11,C)::(31,B)::(30,A)::(25,z)::(29,y)::(28,x)::(27,w)::(26,v)::l) l = [(0,a),(1,b),(2,c),(3,d),(4,e),(8,f),(9,g),(10,h),(11,C),(12,D),(14,k),(15,m),(16,n),(23,o),(33,p),(35,q),(36,r),(37,s),(38,t),(49,u)] := by intros; rfl
  refine R_nil (tr ..) ?_; clear tr
  refine then_n ?_
  refine at_seq rfl ?_
  refine at_seq rfl ?_
  refine rg rfl ?_
  refine Rq ?_
  refine Rq ?_
  have tr : ∀ a b c d e f g h i j k m n o p q r s t u v w : AV, let l := lc_left_fz a b c d e f g h i j k m n o p q r s t u; trim ((33,w)::(32,v)::l) l = [(0,a),(1,b),(2,c),(3,d),(4,e),(8,f),(9,g),(10,h),(11,i),(12,j),(14,k),(15,m),(16,n),(23,o),(33,w),(35,q),(36,r),(37,s),(38,t),(49,u)] := by intros; rfl
  refine R_nil (tr ..) ?_; clear tr
  refine then_n ?_
  refine cdd (fun h2 => ?_) (fun h2 => ?_)
  ·
   try simp only [decide_eq_true_eq, decide_eq_false_iff_not, Bool.not_eq_true', Bool.not_eq_false', beq_iff_eq, beq_eq_false_iff_ne, ne_eq] at h2
   refine at_seq rfl ?_
   refine rg rfl ?_
   refine Rq ?_
   refine Rq ?_
   refine Rq ?_
   have tr : ∀ a b c d e f g h i j k m n o p q r s t u v w x : AV, let l := lc_left_fz a b c d e f g h i j k m n o p q r s t u; trim ((9,x)::(8,w)::(34,v)::l) l = [(0,a),(1,b),(2,c),(3,d),(4,e),(8,w),(9,x),(10,h),(11,i),(12,j),(14,k),(15,m),(16,n),(23,o),(33,p),(35,q),(36,r),(37,s),(38,t),(49,u)] := by intros; rfl
   refine R_nil (tr ..) ?_; clear tr
   refine then_n ?_
   refine at_ret rfl ?_
   refine then_r ?_
   exfalso; omega
  ·
   try simp only [decide_eq_true_eq, decide_eq_false_iff_not, Bool.not_eq_true', Bool.not_eq_false', beq_iff_eq, beq_eq_false_iff_ne, ne_eq] at h2
   refine at_skip rfl ?_
   refine then_n ?_
   refine at_seq rfl ?_
   refine at_seq rfl ?_
   refine rg rfl ?_
   refine Rq ?_
   refine Rq ?_
   refine Rq ?_
   have tr : ∀ a b c d e f g h i j k m n o p q r s t u v w x : AV, let l := lc_left_fz a b c d e f g h i j k m n o p q r s t u; trim ((37,x)::(36,w)::(35,v)::l) l = [(0,a),(1,b),(2,c),(3,d),(4,e),(8,f),(9,g),(10,h),(11,i),(12,j),(14,k),(15,m),(16,n),(23,o),(33,p),(35,v),(36,w),(37,x),(38,t),(49,u)] := by intros; rfl
   refine R_nil (tr ..) ?_; clear tr
   refine then_n ?_
   refine at_block rfl ?_
   refine loop_n rfl (fun mm kv H' => ∃ u : Nat, ∃ n : Int, ∃ X : Heap, ∃ x8 x9 x14 x15 x16 x38 x49 : AV, (kv = [(8, x8), (9, x9), (11, AV.i n), (14, x14), (15, x15), (16, x16), (37, AV.i u), (38, x38), (49, x49)]) ∧ (mm = l.length - u) ∧ (H' = [] ++ [some [rowsAV rows]] ++ X) ∧ (u ≤ l.length) ∧ (n = (atS rows per balls 0).1 - lsum rows per l u)) ⟨0, (atS rows per balls 0).1, [], _, _, _, _, _, _, _, rfl, rfl, by simp, by omega, by simp [lsum]⟩ (by rfl) ?_
   rintro mm kv H1 ⟨u, n, X, x8, x9, x14, x15, x16, x38, x49, rfl, rfl, hX, hu, hn⟩
   have tr : ∀ a b c d e f g h i j k m n o p q r s t u v w x y z A B C D : AV, upd [(0,a),(1,b),(2,c),(3,d),(4,e),(8,f),(9,g),(10,h),(11,i),(12,j),(14,k),(15,m),(16,n),(23,o),(33,p),(35,q),(36,r),(37,s),(38,t),(49,u)] [(8,v),(9,w),(11,x),(14,y),(15,z),(16,A),(37,B),(38,C),(49,D)] = [(0,a),(1,b),(2,c),(3,d),(4,e),(8,v),(9,w),(10,h),(11,x),(12,j),(14,y),(15,z),(16,A),(23,o),(33,p),(35,q),(36,r),(37,B),(38,C),(49,D)] := by intros; rfl
   refine W_to (tr ..) ?_; clear tr
   subst hX
   have hlost : u < l.length → (lostS rows per (gt l u)).2 = 0 := fun hh => by rw [c.lost0 hh]
   refine at_seq rfl ?_
   refine rg rfl ?_
   refine Rq ?_
   have tr : ∀ a b c d e f g h i j k m n o p q r s t u v : AV, let l := lc_left_fz a b c d e f g h i j k m n o p q r s t u; trim ((38,v)::l) l = [(0,a),(1,b),(2,c),(3,d),(4,e),(8,f),(9,g),(10,h),(11,i),(12,j),(14,k),(15,m),(16,n),(23,o),(33,p),(35,q),(36,r),(37,s),(38,v),(49,u)] := by intros; rfl
   refine R_nil (tr ..) ?_; clear tr
   refine then_n ?_
   refine at_seq rfl ?_
   refine cdd (fun h3 => ?_) (fun h3 => ?_)
   ·
    try simp only [decide_eq_true_eq, decide_eq_false_iff_not, Bool.not_eq_true', Bool.not_eq_false', beq_iff_eq, beq_eq_false_iff_ne, ne_eq] at h3
    refine at_skip rfl ?_
    refine then_n ?_
    refine at_seq rfl ?_
    refine at_block rfl ?_
    refine at_seq rfl ?_
    refine rg rfl ?_
    refine Rq ?_
    refine Rq ?_
    refine R_alloc (by simp (disch := first | omega | (simp only [List.length_map, List.length_append, List.length_set, List.length_cons, List.length_nil]; omega)) only [go_sem, ↓reduceIte, Nat.reduceEqDiff, reduceCtorEq] <;> rfl) rfl (by simp only [List.map_cons, List.map_nil]; rfl) ?_
    refine R_store ty56 (by simp (disch := first | omega | (simp only [List.length_map, List.length_append, List.length_set, List.length_cons, List.length_nil]; omega)) only [go_sem, ↓reduceIte, Nat.reduceEqDiff, reduceCtorEq] <;> rfl) (by simp (disch := first | omega | (simp only [List.length_map, List.length_append, List.length_set, List.length_cons, List.length_nil]; omega)) only [go_sem, ↓reduceIte, Nat.reduceEqDiff, reduceCtorEq] <;> rfl) (by simp (disch := first | omega | (simp only [List.length_map, List.length_append, List.length_set, List.length_cons, List.length_nil]; omega)) only [go_sem, ↓reduceIte, Nat.reduceEqDiff, reduceCtorEq] <;> rfl) (by simp) (by rfl) (by simp (disch := first | omega | (simp only [List.length_map, List.length_append, List.length_set, List.length_cons, List.length_nil]; omega)) only [go_sem, ↓reduceIte, Nat.reduceEqDiff, reduceCtorEq] <;> rfl) ?_
    have tr : ∀ a b c d e f g h i j k m n o p q r s t u v w x : AV, let l := lc_left_fz a b c d e f g h i j k m n o p q r s t u; trim ((14,x)::(40,w)::(39,v)::l) l = [(0,a),(1,b),(2,c),(3,d),(4,e),(8,f),(9,g),(10,h),(11,i),(12,j),(14,x),(15,m),(16,n),(23,o),(33,p),(35,q),(36,r),(37,s),(38,t),(49,u)] := by intros; rfl
    refine R_nil (tr ..) ?_; clear tr
    refine then_n ?_
    refine at_seq rfl ?_
    refine rg rfl ?_
    refine Rq ?_
    refine Rq ?_
    refine Rq ?_
    refine Rcall ?_
    refine ACall_eq (lost_ok _ _ rows per (gt l u)) ?_
    refine Rq ?_
    refine Rq ?_
    refine Rq ?_
    refine Rq ?_
    refine Rq ?_
    have tr : ∀ a b c d e f g h i j k m n o p q r s t u v w x y z A B C D : AV, let l := lc_left_fz a b c d e f g h i j k m n o p q r s t u; trim ((16,D)::(15,C)::(47,B)::(46,A)::(41,z)::(45,y)::(44,x)::(43,w)::(42,v)::l) l = [(0,a),(1,b),(2,c),(3,d),(4,e),(8,f),(9,g),(10,h),(11,i),(12,j),(14,k),(15,C),(16,D),(23,o),(33,p),(35,q),(36,r),(37,s),(38,t),(49,u)] := by intros; rfl
    refine R_nil (tr ..) ?_; clear tr
    refine then_n ?_
    refine at_seq rfl ?_
    refine at_seq rfl ?_
    refine rg rfl ?_
    refine Rq ?_
    refine Rq ?_
    have tr : ∀ a b c d e f g h i j k m n o p q r s t u v w : AV, let l := lc_left_fz a b c d e f g h i j k m n o p q r s t u; trim ((49,w)::(48,v)::l) l = [(0,a),(1,b),(2,c),(3,d),(4,e),(8,f),(9,g),(10,h),(11,i),(12,j),(14,k),(15,m),(16,n),(23,o),(33,p),(35,q),(36,r),(37,s),(38,t),(49,w)] := by intros; rfl
    refine R_nil (tr ..) ?_; clear tr
    refine then_n ?_
    refine cdd (fun h4 => ?_) (fun h4 => ?_)
    ·
     try simp only [decide_eq_true_eq, decide_eq_false_iff_not, Bool.not_eq_true', Bool.not_eq_false', beq_iff_eq, beq_eq_false_iff_ne, ne_eq] at h4
     refine at_seq rfl ?_
     refine rg rfl ?_
     refine Rq ?_
     refine Rq ?_
     refine Rq ?_
     have tr : ∀ a b c d e f g h i j k m n o p q r s t u v w x : AV, let l := lc_left_fz a b c d e f g h i j k m n o p q r s t u; trim ((9,x)::(8,w)::(50,v)::l) l = [(0,a),(1,b),(2,c),(3,d),(4,e),(8,w),(9,x),(10,h),(11,i),(12,j),(14,k),(15,m),(16,n),(23,o),(33,p),(35,q),(36,r),(37,s),(38,t),(49,u)] := by intros; rfl
     refine R_nil (tr ..) ?_; clear tr
     refine then_n ?_
     refine at_ret rfl ?_
     refine then_r ?_
     refine blk_r ?_
     refine then_r ?_
     refine then_r ?_
     refine blk_r ?_
     refine then_r ?_
     exfalso; have := hlost (by omega); omega
    ·
     try simp only [decide_eq_true_eq, decide_eq_false_iff_not, Bool.not_eq_true', Bool.not_eq_false', beq_iff_eq, beq_eq_false_iff_ne, ne_eq] at h4
     refine at_skip rfl ?_
     refine then_n ?_
     refine rg rfl ?_
     have hlr := lost_range (rows := rows) (per := per) (s := gt l u)
     have hls := lsum_range (rows := rows) (per := per) (l := l) u
     refine Rq ?_
     refine Rq ?_
     refine Rq ?_
     refine Rq ?_
     have tr : ∀ a b c d e f g h i j k m n o p q r s t u v w x y : AV, let l := lc_left_fz a b c d e f g h i j k m n o p q r s t u; trim ((11,y)::(53,x)::(52,w)::(51,v)::l) l = [(0,a),(1,b),(2,c),(3,d),(4,e),(8,f),(9,g),(10,h),(11,y),(12,j),(14,k),(15,m),(16,n),(23,o),(33,p),(35,q),(36,r),(37,s),(38,t),(49,u)] := by intros; rfl
     refine R_nil (tr ..) ?_; clear tr
     refine blk_n ?_
     refine then_n ?_
     refine rg rfl ?_
     refine Rq ?_
     refine Rq ?_
     have tr : ∀ a b c d e f g h i j k m n o p q r s t u v w : AV, let l := lc_left_fz a b c d e f g h i j k m n o p q r s t u; trim ((37,w)::(54,v)::l) l = [(0,a),(1,b),(2,c),(3,d),(4,e),(8,f),(9,g),(10,h),(11,i),(12,j),(14,k),(15,m),(16,n),(23,o),(33,p),(35,q),(36,r),(37,w),(38,t),(49,u)] := by intros; rfl
     refine R_nil (tr ..) ?_; clear tr
     refine then_n ?_
     have hls2 : lsum rows per l (u + 1) = lsum rows per l u + (lostS rows per (gt l u)).1 := rfl
     exact ⟨_, _, ⟨u + 1, n - (lostS rows per (gt l u)).1, X ++ [some (stC (gt l u))], _, _, _, _, _, _, _, rfl, rfl, by simp; rfl, by omega, by omega⟩, by rfl, by omega⟩
   ·
    try simp only [decide_eq_true_eq, decide_eq_false_iff_not, Bool.not_eq_true', Bool.not_eq_false', beq_iff_eq, beq_eq_false_iff_ne, ne_eq] at h3
    refine at_exit rfl ?_
    refine then_x ?_
    refine then_x ?_
    refine blk_x ?_
    refine then_n ?_
    refine at_seq rfl ?_
    refine rg rfl ?_
    refine Rq ?_
    refine Rq ?_
    refine Rq ?_
    have tr : ∀ a b c d e f g h i j k m n o p q r s t u v w x : AV, let l := lc_left_fz a b c d e f g h i j k m n o p q r s t u; trim ((9,x)::(8,w)::(55,v)::l) l = [(0,a),(1,b),(2,c),(3,d),(4,e),(8,w),(9,x),(10,h),(11,i),(12,j),(14,k),(15,m),(16,n),(23,o),(33,p),(35,q),(36,r),(37,s),(38,t),(49,u)] := by intros; rfl
    refine R_nil (tr ..) ?_; clear tr
    refine then_n ?_
    refine at_ret rfl ?_
    refine fpure ?_
    refine ⟨rfl, ?_, rfl⟩
    have e : lsum rows per l l.length = lsum rows per l u := by rw [show l.length = u by omega]
    rw [leftS, if_neg (fun hh => hh hk), hn, e]

theorem left_ok (lim : Nat) (H : Heap) (rows : Tb) (per balls : Int) (l : List Stp) :
    ACall sig lim 36 [.agg [rowsAV rows], AV.i per, AV.i balls, stopsAV l] H fun r H' => r = .tup [AV.i (leftS rows per balls l).1, AV.i (leftS rows per balls l).2] ∧ H' = H :=
  left_fz lim H rows per balls l _ (frz_stops _ _ _ _)

end Go.Proofs.Ytaoondlakhocnaa
end
section
set_option linter.unusedVariables false
namespace Go.Proofs.Ytaoondlakhocnaa
open Go Go.Am

theorem down_u {rows : Tb} (h : checkS rows = 0) {u w : Nat} (hw : w < (gt rows 0).length) : ∀ u', u ≤ u' → u' < rows.length → gt (gt rows u) w ≤ gt (gt rows u') w
  | 0, hu, _ => by have : u = 0 := by omega
                   subst this; exact Int.le_refl _
  | u' + 1, hu, hl => by
    by_cases he : u = u' + 1
    · subst he; exact Int.le_refl _
    · have s := check_shaped h
      have h1 := down_u (u := u) h hw u' (by omega) (by omega)
      have h2 := ((check_zero h).2.1 (u' + 1) hl w (by rw [s.len _ hl]; exact hw)).1 (by omega)
      rw [Nat.add_sub_cancel] at h2
      omega
/-- The number of balls and wickets is in the table. -/
structure InT (rows : Tb) (per b w : Int) : Prop where
  tab : checkS rows = 0
  per1 : 1 ≤ per
  per8 : per ≤ 8
  b0 : 0 ≤ b
  b1 : b ≤ ((rows.length : Int) - 1) * per
  w0 : 0 ≤ w
  w1 : w ≤ (gt rows 0).length
theorem InT.good {rows : Tb} {per b w : Int} (h : InT rows per b w) : ¬ atBad rows per b w := by
  have := h.per1
  have := h.per8
  have := h.b0
  have := h.b1
  have := h.w0
  have := h.w1
  unfold atBad; omega
theorem InT.val {rows : Tb} {per b w : Int} (h : InT rows per b w) : atS rows per b w = if w = (gt rows 0).length then (0, 0) else (atV rows per b w, 0) := by
  rw [atS, if_neg (fun hh => hh h.tab), if_neg h.good]
/-- Between two rows. -/
theorem InT.form {rows : Tb} {per b w : Int} (h : InT rows per b w) (hw : w < (gt rows 0).length) :
    ∃ (q : Nat) (r y : Int), (q : Int) = b / per ∧ r = b % per ∧ q < rows.length ∧ 0 ≤ r ∧ r < per ∧ (0 < r → q + 1 < rows.length ∧ y = gt (gt rows (q + 1)) w.toNat) ∧ (r = 0 → y = gt (gt rows q) w.toNat) ∧ gt (gt rows q) w.toNat ≤ y ∧ (∀ q', q < q' → q' < rows.length → (0 < r → y ≤ gt (gt rows q') w.toNat)) ∧
      atV rows per b w = gt (gt rows q) w.toNat * per + (y - gt (gt rows q) w.toNat) * r := by
  have p1 := h.per1
  have b0 := h.b0
  have w0 := h.w0
  have s := check_shaped h.tab
  have g2 := s.two
  obtain ⟨q0, q1, r0, r1, q2⟩ := at_place (n := (rows.length : Int) - 1) (per := per) (balls := b) p1 b0 h.b1
  obtain ⟨q, hq⟩ := Int.eq_ofNat_of_zero_le q0
  have hwN : w.toNat < (gt rows 0).length := by omega
  by_cases hr : 0 < b % per
  · have q3 := q2 hr
    have e1 : (b / per + 1).toNat = q + 1 := by omega
    have e0 : (b / per).toNat = q := by omega
    refine ⟨q, b % per, gt (gt rows (q + 1)) w.toNat, hq.symm, rfl, by omega, r0, r1, fun _ => ⟨by omega, rfl⟩, fun h0 => by omega, down_u h.tab hwN (q + 1) (by omega) (by omega), fun q' h1 h2 _ => down_u h.tab hwN q' (by omega) h2, ?_⟩
    unfold atV cellI
    rw [if_pos hr, e1, e0, Int.mul_sub, Int.sub_mul]
    omega
  · have e0 : (b / per).toNat = q := by omega
    have er : b % per = 0 := by omega
    refine ⟨q, b % per, gt (gt rows q) w.toNat, hq.symm, rfl, by omega, r0, r1, fun h0 => absurd h0 hr, fun _ => rfl, Int.le_refl _, fun q' _ _ h0 => absurd h0 hr, ?_⟩
    unfold atV cellI
    rw [if_neg hr, e0, er, Int.sub_zero, Int.sub_self]
    omega
section
variable {rows : Tb} {per balls : Int} {l : List Stp}
end
end Go.Proofs.Ytaoondlakhocnaa
end
section
namespace Go.Am
open Go
/-- One block was made, the others are as they were. -/
structure MNew (H H' : Heap) (k : Blk) : Prop where
  len : H'.length = H.length + 1
  new : hget H' H.length = some k
  old : ∀ b, b < H.length → hget H' b = hget H b
/-- One block was written. -/
structure MWrote (H : Heap) (b : Nat) (H' : Heap) (k : Blk) : Prop where
  len : H'.length = H.length
  new : hget H' b = some k
  old : ∀ c, c ≠ b → hget H' c = hget H c
/-- One block was made in place of another one. -/
structure MGrew (H : Heap) (b : Nat) (H' : Heap) (k : Blk) : Prop where
  len : H'.length = H.length + 1
  new : hget H' H.length = some k
  old : ∀ c, c ≠ b → c < H.length → hget H' c = hget H c
theorem MNew.of (H : Heap) (k : Blk) : MNew H (H ++ [some k]) k := ⟨by simp, by simp [hget], fun b hb => hget_low _ _ _ hb⟩
theorem MWrote.of (H : Heap) {b : Nat} (k : Blk) (hb : b < H.length) : MWrote H b (hset H b (some k)) k :=
  ⟨by simp [hset], by simp [hget, hset, hb], fun c hc => by simp [hget, hset, Ne.symm hc]⟩
theorem MGrew.of (H : Heap) (b : Nat) (k : Blk) : MGrew H b (hset H b none ++ [some k]) k :=
  ⟨by simp [hset], by simp [hget, hset], fun c hc hl => by
    rw [hget_low _ _ _ (by simpa [hset] using hl)]
    simp [hget, hset, Ne.symm hc]⟩
section
variable {S : Sig} {lim : Nat} {ops : Array Oper} {l : List Oper} {e : Env} {H : Heap} {K : Env → Heap → Prop} {d : Option Tmp} {ty : TypeId} {pos : String} {af : Array Edge}
theorem A_alloc {t : TypeId} {z : List Value} (hz : (tyOf S.P t).bind (fun ty => ty.zero) = some z) (hk : ∀ H', MNew H H' (z.map .v) → Rp S lim ops l (e.put d (.ptr H.length 0)) H' K) : Rp S lim ops (⟨d, .alloc t, ty, pos, af, none⟩ :: l) e H K :=
  R_alloc hz rfl rfl (hk _ (MNew.of _ _))
theorem A_box {t : TypeId} {x : Operand} {c : List AV} (ht : (tyOf S.P t).isSome = true) (hc : cellsOf (evO e x) = some c) (hk : ∀ H', MNew H H' c → Rp S lim ops l (e.put d (.ptr H.length 0)) H' K) : Rp S lim ops (⟨d, .box t x, ty, pos, af, none⟩ :: l) e H K :=
  R_box ht hc rfl rfl (hk _ (MNew.of _ _))
theorem A_store {t : TypeId} {tyy : Ty} {a x : Operand} {b o : Nat} {c : List AV} {k : Blk} (ht : tyOf S.P t = some tyy) (ha : evO e a = .ptr b o) (hc : cellsOf (evO e x) = some c) (hb : hget H b = some k) (hl : lim ≤ b ∧ c.length = tyy.size ∧ o + tyy.size ≤ k.length) {k' : Blk} (hk' : setL k o c = k')
    (hk : ∀ H', MWrote H b H' k' → Rp S lim ops l (e.put d (.v undef)) H' K) : Rp S lim ops (⟨d, .store t a x, ty, pos, af, none⟩ :: l) e H K :=
  R_store ht ha hc hb hl hk' rfl (hk _ (MWrote.of _ _ (hget_lt hb)))
theorem A_append {x y : Operand} {t : TypeId} {r : AV} {b : Nat} {k : Blk} (h : ∃ H', appendV S.P lim H t (evO e x) (evO e y) = some (r, H') ∧ MGrew H b H' k) (hk : ∀ H', MGrew H b H' k → Rp S lim ops l (e.put d r) H' K) :
    Rp S lim ops (⟨d, .call ⟨.builtin .append, #[x, y], #[t, t]⟩, ty, pos, af, none⟩ :: l) e H K := by
  obtain ⟨H', h1, h2⟩ := h
  exact R_append h1 (hk _ h2)
theorem A_buildSlice {t : TypeId} {n : Nat} {parts : Array (Nat × Operand)} {r : AV} {k : Blk} (h : effV S.P lim (.buildSlice t n parts) (evO e) H = some (r, H ++ [some k])) (hk : ∀ H', MNew H H' k → Rp S lim ops l (e.put d r) H' K) : Rp S lim ops (⟨d, .buildSlice t n parts, ty, pos, af, none⟩ :: l) e H K :=
  R_buildSlice h (hk _ (MNew.of _ _))
end
end Go.Am
end
section
set_option linter.unusedVariables false
namespace Go.Proofs.Ytaoondlakhocnaa
open Go Go.Am

theorem flatS_st (l : List Stp) : (flatS l).all storable = true := by
  induction l with
  | nil => rfl
  | cons s l ih =>
    have e : flatS (s :: l) = stC s ++ flatS l := rfl
    rw [e, List.all_append, ih]; rfl
theorem bs25e (lim : Nat) (H : Heap) (ev : Operand → AV) : effV Try.prog lim (.buildSlice 25 0 #[]) ev H = some (.own 3 H.length 0 0, H ++ [some []]) := by
  simp only [effV, tk25, ty56]
  rw [if_pos ⟨rfl, by decide, by decide⟩]
  rfl
theorem bs25 (lim : Nat) (H : Heap) (x : Operand) (ev : Operand → AV) (s : Stp) (h : ev x = .agg (stC s)) :
    effV Try.prog lim (.buildSlice 25 1 #[(0, x)]) ev H = some (.own 3 H.length 0 1, H ++ [some (stC s)]) := by
  simp only [effV, tk25, ty56]
  rw [if_pos ⟨rfl, by decide, by decide⟩]
  simp only [List.map_cons, List.map_nil, h]
  rfl
end Go.Proofs.Ytaoondlakhocnaa
end
section
set_option linter.unusedVariables false
namespace Go.Proofs.Ytaoondlakhocnaa
open Go Go.Am

def jst (o : List Stp) (x : Stp) : List Stp :=
  if 0 < o.length ∧ (gt o (o.length - 1)).a = x.b ∧ (gt o (o.length - 1)).w = x.w then o.set (o.length - 1) ⟨(gt o (o.length - 1)).b, x.a, (gt o (o.length - 1)).w⟩ else o ++ [x]
def jn (l : List Stp) : Nat → List Stp
  | 0 => []
  | u + 1 => jst (jn l u) (gt l u)
def dsum (l : List Stp) : Nat → Int
  | 0 => 0
  | u + 1 => dsum l u + ((gt l u).b - (gt l u).a)
def stopOK (rows : Tb) (balls : Int) (l : List Stp) (i : Nat) : Prop :=
  (gt l i).b ≤ balls ∧ 0 ≤ (gt l i).a ∧ 0 ≤ (gt l i).w ∧ (gt l i).w ≤ (gt rows 0).length ∧ (gt l i).a ≤ (gt l i).b ∧ (0 < i → (gt l i).b ≤ (gt l (i - 1)).a ∧ (gt l (i - 1)).w ≤ (gt l i).w)
structure JI (rows : Tb) (per balls : Int) (l : List Stp) (u : Nat) : Prop where
  sh : u = 0 ∧ jn l u = [] ∨ ∃ p s, jn l u = p ++ [s] ∧ 0 < u ∧ s.a = (gt l (u - 1)).a ∧ s.w = (gt l (u - 1)).w
  stop : ∀ i, i < (jn l u).length → stopOK rows balls (jn l u) i
  sum : lsum rows per (jn l u) (jn l u).length = lsum rows per l u
  dif : dsum (jn l u) (jn l u).length = dsum l u
theorem lost_of {rows : Tb} {per balls : Int} {l : List Stp} (c : Chk rows per balls l) {s : Stp} (h : s.b ≤ balls ∧ 0 ≤ s.a ∧ 0 ≤ s.w ∧ s.w ≤ (gt rows 0).length ∧ s.a ≤ s.b) :
    (lostS rows per s).1 = (atS rows per s.b s.w).1 - (atS rows per s.a s.w).1 := by
  have h1 := c.per1
  have h2 := c.per8
  have h3 := c.b1
  have h4 := c.bmax
  rw [lostS, if_neg (fun hh => hh (at_err c.tab (by unfold atBad; omega))), if_neg (fun hh => hh (at_err c.tab (by unfold atBad; omega))), if_neg (by omega)]
def bOut (n : Int) : Prop := n < 0 ∨ 2147483648 < n
instance (n : Int) : Decidable (bOut n) := by unfold bOut; infer_instance
open Classical in
noncomputable def ballsS (balls : Int) (l : List Stp) : Int :=
  if bOut balls ∨ 20 < l.length then 0 else if ∃ i, i < l.length ∧ (bOut (gt l i).b ∨ bOut (gt l i).a) then 0 else max (balls - dsum l l.length) 0
theorem balls_a {balls : Int} {l : List Stp} (h : bOut balls ∨ 20 < l.length) : ballsS balls l = 0 := by rw [ballsS, if_pos h]
theorem balls_b {balls : Int} {l : List Stp} {i : Nat} (hi : i < l.length) (h : bOut (gt l i).b ∨ bOut (gt l i).a) : ballsS balls l = 0 := by
  unfold ballsS
  split
  · rfl
  · rw [if_pos ⟨i, hi, h⟩]
theorem balls_c {balls : Int} {l : List Stp} (h : ¬ (bOut balls ∨ 20 < l.length)) (h2 : ∀ i, i < l.length → ¬ (bOut (gt l i).b ∨ bOut (gt l i).a)) : ballsS balls l = max (balls - dsum l l.length) 0 := by
  rw [ballsS, if_neg h, if_neg (fun ⟨i, hi, hh⟩ => h2 i hi hh)]
theorem dsum_rng {l : List Stp} : ∀ u, (∀ i, i < u → ¬ (bOut (gt l i).b ∨ bOut (gt l i).a)) → -(2147483648 * (u : Int)) ≤ dsum l u ∧ dsum l u ≤ 2147483648 * u
  | 0, _ => by rw [dsum]; omega
  | u + 1, h => by
    have ih := dsum_rng u fun i hi => h i (by omega)
    have := h u (by omega)
    unfold bOut at this
    rw [dsum]; omega
theorem left_of {rows : Tb} {per balls : Int} {l : List Stp} (c : Chk rows per balls l) : leftS rows per balls l = ((atS rows per balls 0).1 - lsum rows per l l.length, 0) := by
  have h := of_chk c
  rw [leftS, if_neg (fun hh => hh h)]
/-- Interruptions as they are gathered: none yet, or a block. -/
def OutS (lo : Nat) (H : Heap) (o : AV) (w : List Stp) : Prop := (w = [] ∧ o = .v (.slice none 0 0)) ∨ (w ≠ [] ∧ ∃ b, o = .own 3 b 0 w.length ∧ lo ≤ b ∧ hget H b = some (flatS w))
theorem OutS.mono {lo : Nat} {H H' : Heap} {o : AV} {w : List Stp} (h : OutS lo H o w) (hh : ∀ b, lo ≤ b → ∀ k, hget H b = some k → hget H' b = some k) : OutS lo H' o w := by
  rcases h with h | ⟨h0, b, h1, h2, h3⟩
  · exact .inl h
  · exact .inr ⟨h0, b, h1, h2, hh b h2 _ h3⟩
theorem OutS.len {lo : Nat} {H : Heap} {o : AV} {w : List Stp} (h : OutS lo H o w) : lenV (tyOf Try.prog 25) o = some (AV.i (w.length : Nat)) := by
  rcases h with ⟨rfl, rfl⟩ | ⟨h0, b, rfl, _⟩
  · simp only [lenV, ty25, kOf, Option.map_some]; rfl
  · simp only [lenV, ty25, kOf, Option.map_some]
end Go.Proofs.Ytaoondlakhocnaa
end
section
set_option linter.unusedVariables false
namespace Go.Proofs.Ytaoondlakhocnaa
open Go Go.Am
theorem flatS_set1 : ∀ (l : List Stp) (u : Nat) (x : Int), u < l.length → setL (flatS l) (u * 3 + 1) [AV.i x] = flatS (l.set u ⟨(gt l u).b, x, (gt l u).w⟩)
  | [], u, x, h => by simp at h
  | s :: l, 0, x, _ => rfl
  | s :: l, u + 1, x, h => by
    have ih := flatS_set1 l u x (by simpa using h)
    have e : flatS (s :: l) = AV.i s.b :: AV.i s.a :: AV.i s.w :: flatS l := rfl
    have e2 : flatS ((s :: l).set (u + 1) ⟨(gt (s :: l) (u + 1)).b, x, (gt (s :: l) (u + 1)).w⟩) = AV.i s.b :: AV.i s.a :: AV.i s.w :: flatS (l.set u ⟨(gt l u).b, x, (gt l u).w⟩) := rfl
    rw [e, e2, ← ih, show (u + 1) * 3 + 1 = u * 3 + 1 + 1 + 1 + 1 by omega]
    rfl
abbrev nilS : AV := .v (.slice none 0 0)
def outT (w : List Stp) : AV := if w = [] then nilS else stopsAV w
theorem frz_flatS (H : Heap) (b d : Nat) (l : List Stp) : (flatS l).map (frz H b (d + 1)) = flatS l := by
  unfold flatS
  rw [List.map_flatten, List.map_map]
  congr 1
theorem frz_own3' {H : Heap} {base d z b o n : Nat} {k : Blk} (hb : ¬ b < base) (hk : hget H b = some k) : frz H base (d + 1) (.own z b o n) = .sl n ((k.drop o).map (frz H base d)) := by
  simp [frz, hb, hk]
theorem OutS.frz {H : Heap} {base d : Nat} {o : AV} {w : List Stp} (h : OutS base H o w) : Go.Am.frz H base (d + 2) o = outT w := by
  unfold outT
  rcases h with ⟨rfl, rfl⟩ | ⟨h0, b, rfl, h2, h3⟩
  · rfl
  · rw [frz_own3' (by omega) h3, List.drop_zero, frz_flatS, if_neg h0]
theorem all_step2 {p : Nat → Prop} {u : Nat} (h : ∀ i, i < u → p i) (hu : p u) : ∀ i, i < u + 1 → p i := fun i hi => by
  by_cases hiu : i = u
  · subst hiu; exact hu
  · exact h i (by omega)
theorem ne56 (s : Stp) : binV Try.prog .neq 56 (.agg (stC s)) (.agg (stC s)) = some (.v (.bool false)) := by
  have h2 : ∀ a : Int, scalEq (tyOf Try.prog 2) (AV.i a) (AV.i a) = some true := fun a => by simp only [scalEq, ty2, kOf, Option.map_some, if_true, beq_self_eq_true]
  have h3 : ∀ a : Int, scalEq (tyOf Try.prog 3) (AV.i a) (AV.i a) = some true := fun a => by simp only [scalEq, ty3, kOf, Option.map_some, if_true, beq_self_eq_true]
  have e : eqOk Try.prog 56 = true := eqOk56
  have q : aggEq Try.prog 56 (stC s) (stC s) = some true := by
    simp only [aggEq, e, tk56]
    simp [fieldsEq, h2, h3]
  simp only [binV, q]
  rfl
attribute [go_sem] ne56
end Go.Proofs.Ytaoondlakhocnaa
end
section
set_option linter.unusedVariables false
set_option linter.unusedSimpArgs false
namespace Go.Proofs.Ytaoondlakhocnaa
open Go Go.Am
def spl (l : List Stp) (i : Nat) (t : Int) : List Stp := l.take i ++ [⟨(gt l i).b, t, (gt l i).w⟩, ⟨t, (gt l i).a, (gt l i).w⟩] ++ l.drop (i + 1)
def splE (l : List Stp) (i t : Int) : Int :=
  if i < 0 ∨ (l.length : Int) ≤ i then 2 else if (gt l i.toNat).b ≤ t ∨ t ≤ (gt l i.toNat).a then 1 else if 20 ≤ l.length then 9 else 0
def splA (l : List Stp) (i t : Int) : AV := if splE l i t ≠ 0 then nilS else stopsAV (spl l i.toNat t)
theorem split_of {l : List Stp} {i t : Int} (h : splE l i t = 0) : 0 ≤ i ∧ i.toNat < l.length ∧ (gt l i.toNat).a < t ∧ t < (gt l i.toNat).b ∧ l.length < 20 := by
  unfold splE at h
  split at h
  · cases h
  split at h
  · cases h
  split at h
  · cases h
  omega
theorem splE_0 {l : List Stp} {i t : Int} (h1 : ¬ (i < 0 ∨ (l.length : Int) ≤ i)) (h2 : ¬ ((gt l i.toNat).b ≤ t ∨ t ≤ (gt l i.toNat).a)) (h3 : ¬ 20 ≤ l.length) : splE l i t = 0 := by
  rw [splE, if_neg h1, if_neg h2, if_neg h3]
theorem splA_0 {l : List Stp} {i t : Int} (h : splE l i t = 0) : splA l i t = stopsAV (spl l i.toNat t) := by rw [splA, if_neg (fun hh => hh h)]
theorem splA_n {l : List Stp} {i t : Int} (h : ¬ splE l i t = 0) : splA l i t = nilS := by rw [splA, if_pos h]
theorem spl_len {l : List Stp} {i : Nat} (t : Int) (hi : i < l.length) : (spl l i t).length = l.length + 1 := by
  simp [spl]; omega
theorem gt_spl {l : List Stp} {i : Nat} (t : Int) (hi : i < l.length) (k : Nat) :
    gt (spl l i t) k = if k < i then gt l k else if k = i then ⟨(gt l i).b, t, (gt l i).w⟩ else if k = i + 1 then ⟨t, (gt l i).a, (gt l i).w⟩ else gt l (k - 1) := by
  have e : (l.take i).length = i := by rw [List.length_take]; omega
  simp only [gt, List.getD_eq_getElem?_getD, spl, List.append_assoc, List.getElem?_append, e, List.length_cons, List.length_nil]
  by_cases h1 : k < i
  · rw [if_pos h1, if_pos h1, List.getElem?_take, if_pos h1]
  · rw [if_neg h1, if_neg h1]
    by_cases h2 : k = i
    · subst h2; simp
    · rw [if_neg h2]
      by_cases h3 : k = i + 1
      · subst h3; simp
      · rw [if_neg h3, if_neg (by omega), List.getElem?_drop, show i + 1 + (k - i - (0 + 1 + 1)) = k - 1 by omega]
theorem dsum_spl {l : List Stp} {i : Nat} (t : Int) (hi : i < l.length) : ∀ k, (k ≤ i → dsum (spl l i t) k = dsum l k) ∧ (i + 1 ≤ k → dsum (spl l i t) (k + 1) = dsum l k) := by
  have h1 : ∀ k, k ≤ i → dsum (spl l i t) k = dsum l k := fun k => by
    induction k with
    | zero => intro _; rfl
    | succ k ih => intro h; rw [dsum, dsum, ih (by omega), gt_spl t hi, if_pos (by omega)]
  have h2 : ∀ k, i + 1 ≤ k → dsum (spl l i t) (k + 1) = dsum l k := fun k => by
    induction k with
    | zero => intro h; omega
    | succ k ih =>
      intro h
      by_cases hk : k = i
      · subst hk
        rw [dsum, dsum, h1 k (Nat.le_refl _), gt_spl t hi, if_neg (by omega), if_pos rfl, gt_spl t hi, if_neg (by omega), if_neg (by omega), if_pos rfl, dsum]
        simp only []
        omega
      · rw [dsum, ih (by omega), gt_spl t hi, if_neg (by omega), if_neg (by omega), if_neg (by omega), dsum, show k + 1 - 1 = k from rfl]
  exact fun k => ⟨h1 k, h2 k⟩
theorem spl_balls {balls : Int} {l : List Stp} {i t : Int} (h : splE l i t = 0) : ballsS balls (spl l i.toNat t) = ballsS balls l := by
  obtain ⟨h0, h1, h2, h3, h4⟩ := split_of h
  have hl := spl_len t h1
  by_cases hb : bOut balls
  · rw [balls_a (.inl hb), balls_a (.inl hb)]
  · by_cases hx : ∃ k, k < l.length ∧ (bOut (gt l k).b ∨ bOut (gt l k).a)
    · obtain ⟨k, hk, ho⟩ := hx
      rw [balls_b hk ho]
      by_cases hki : k = i.toNat
      · subst hki
        rcases ho with ho | ho
        · exact balls_b (i := i.toNat) (by omega) (.inl (by rw [gt_spl t h1, if_neg (by omega), if_pos rfl]; exact ho))
        · exact balls_b (i := i.toNat + 1) (by omega) (.inr (by rw [gt_spl t h1, if_neg (by omega), if_neg (by omega), if_pos rfl]; exact ho))
      · by_cases hlt : k < i.toNat
        · exact balls_b (i := k) (by omega) (by rw [gt_spl t h1, if_pos hlt]; exact ho)
        · exact balls_b (i := k + 1) (by omega) (by rw [gt_spl t h1, if_neg (by omega), if_neg (by omega), if_neg (by omega), Nat.add_sub_cancel]; exact ho)
    · have hn : ∀ k, k < l.length → ¬ (bOut (gt l k).b ∨ bOut (gt l k).a) := fun k hk ho => hx ⟨k, hk, ho⟩
      have hi := hn i.toNat h1
      rw [balls_c (by rw [hl]; rintro (hh | hh); exact hb hh; omega) (fun k hk => ?_), balls_c (by rintro (hh | hh); exact hb hh; omega) hn, hl, (dsum_spl t h1 l.length).2 (by omega)]
      rw [hl] at hk
      rw [gt_spl t h1]
      split
      · exact hn k (by omega)
      split
      · simp only [bOut] at hi ⊢; omega
      split
      · simp only [bOut] at hi ⊢; omega
      · exact hn (k - 1) (by omega)
theorem spl_stop {rows : Tb} {per balls : Int} {l : List Stp} {i : Nat} {t : Int} (c : Chk rows per balls l) (hi : i < l.length) (h2 : (gt l i).a < t) (h3 : t < (gt l i).b) : ∀ k, k < (spl l i t).length → stopOK rows balls (spl l i t) k := by
  intro k hk
  rw [spl_len t hi] at hk
  have ci := c.stop i hi
  unfold stopOK
  rw [gt_spl t hi, gt_spl t hi]
  by_cases h1 : k < i
  · have ck := c.stop k (by omega)
    rw [if_pos h1, if_pos (by omega)]
    exact ck
  · rw [if_neg h1]
    by_cases hk2 : k = i
    · subst hk2
      rw [if_pos rfl]
      refine ⟨ci.1, by show 0 ≤ t; omega, ci.2.2.1, ci.2.2.2.1, by show t ≤ (gt l k).b; omega, fun h0 => ?_⟩
      rw [if_pos (by omega)]
      exact ci.2.2.2.2.2 h0
    · rw [if_neg hk2]
      by_cases hk3 : k = i + 1
      · subst hk3
        rw [if_pos rfl]
        refine ⟨by show t ≤ balls; omega, ci.2.1, ci.2.2.1, ci.2.2.2.1, by show (gt l i).a ≤ t; omega, fun h0 => ?_⟩
        rw [if_neg (by omega), if_pos (by omega)]
        exact ⟨Int.le_refl _, Int.le_refl _⟩
      · have ck := c.stop (k - 1) (by omega)
        rw [if_neg hk3]
        refine ⟨ck.1, ck.2.1, ck.2.2.1, ck.2.2.2.1, ck.2.2.2.2.1, fun h0 => ?_⟩
        have h5 := ck.2.2.2.2.2 (by omega)
        rw [if_neg (by omega), if_neg (by omega)]
        by_cases hk4 : k - 1 = i + 1
        · rw [if_pos hk4]
          rw [hk4, Nat.add_sub_cancel] at h5
          rw [hk4]
          exact h5
        · rw [if_neg hk4]
          exact h5
theorem spl_chk {rows : Tb} {per balls : Int} {l : List Stp} {i t : Int} (c : Chk rows per balls l) (h : splE l i t = 0) : Chk rows per balls (spl l i.toNat t) := by
  obtain ⟨h0, h1, h2, h3, h4⟩ := split_of h
  exact ⟨c.tab, c.per1, c.per8, c.b1, c.bmax, by rw [spl_len t h1]; omega, fun k hk => spl_stop c h1 h2 h3 k hk⟩
theorem lsum_spl {rows : Tb} {per balls : Int} {l : List Stp} {i : Nat} {t : Int} (c : Chk rows per balls l) (hi : i < l.length) (h2 : (gt l i).a < t) (h3 : t < (gt l i).b) : lsum rows per (spl l i t) (l.length + 1) = lsum rows per l l.length := by
  have ci := c.stop i hi
  have h1 : ∀ k, k ≤ i → lsum rows per (spl l i t) k = lsum rows per l k := fun k => by
    induction k with
    | zero => intro _; rfl
    | succ k ih => intro h; rw [lsum, lsum, ih (by omega), gt_spl t hi, if_pos (by omega)]
  have h4 : ∀ k, i + 1 ≤ k → lsum rows per (spl l i t) (k + 1) = lsum rows per l k := fun k => by
    induction k with
    | zero => intro h; omega
    | succ k ih =>
      intro h
      by_cases hk : k = i
      · subst hk
        rw [lsum, lsum, h1 k (Nat.le_refl _), gt_spl t hi, if_neg (by omega), if_pos rfl, gt_spl t hi, if_neg (by omega), if_neg (by omega), if_pos rfl, lsum]
        rw [lost_of c (s := ⟨t, (gt l k).a, (gt l k).w⟩) ⟨by show t ≤ balls; omega, ci.2.1, ci.2.2.1, ci.2.2.2.1, by show (gt l k).a ≤ t; omega⟩,
          lost_of c (s := ⟨(gt l k).b, t, (gt l k).w⟩) ⟨ci.1, by show 0 ≤ t; omega, ci.2.2.1, ci.2.2.2.1, by show t ≤ (gt l k).b; omega⟩,
          lost_of c (s := gt l k) ⟨ci.1, ci.2.1, ci.2.2.1, ci.2.2.2.1, ci.2.2.2.2.1⟩]
        simp only []
        omega
      · rw [lsum, ih (by omega), gt_spl t hi, if_neg (by omega), if_neg (by omega), if_neg (by omega), lsum, show k + 1 - 1 = k from rfl]
  exact h4 l.length (by omega)
theorem spl_left {rows : Tb} {per balls : Int} {l : List Stp} {i t : Int} (c : Chk rows per balls l) (h : splE l i t = 0) : leftS rows per balls (spl l i.toNat t) = leftS rows per balls l := by
  obtain ⟨h0, h1, h2, h3, h4⟩ := split_of h
  rw [left_of (spl_chk c h), left_of c, spl_len t h1, lsum_spl c h1 h2 h3]
/-! Memory -/
theorem flatS_cat (l m : List Stp) : flatS (l ++ m) = flatS l ++ flatS m := by
  unfold flatS; rw [List.map_append, List.flatten_append]
theorem flatS_take : ∀ (l : List Stp) (i : Nat), (flatS l).take (i * 3) = flatS (l.take i)
  | [], i => by simp [flatS]
  | s :: l, 0 => by simp [flatS]
  | s :: l, i + 1 => by
    have e : flatS (s :: l) = AV.i s.b :: AV.i s.a :: AV.i s.w :: flatS l := rfl
    rw [e, show (i + 1) * 3 = i * 3 + 1 + 1 + 1 by omega, List.take_succ_cons, List.take_succ_cons, List.take_succ_cons, flatS_take l i]
    rfl
theorem flatS_drop : ∀ (l : List Stp) (i : Nat), (flatS l).drop (i * 3) = flatS (l.drop i)
  | [], i => by simp [flatS]
  | s :: l, 0 => by simp
  | s :: l, i + 1 => by
    have e : flatS (s :: l) = AV.i s.b :: AV.i s.a :: AV.i s.w :: flatS l := rfl
    rw [e, show (i + 1) * 3 = i * 3 + 1 + 1 + 1 by omega, List.drop_succ_cons, List.drop_succ_cons, List.drop_succ_cons, flatS_drop l i]
    rfl
theorem spl_ins {l : List Stp} {i : Nat} (t : Int) (hi : i < l.length) : (l.set i ⟨(gt l i).b, t, (gt l i).w⟩).take (i + 1) ++ [⟨t, (gt l i).a, (gt l i).w⟩] ++ (l.set i ⟨(gt l i).b, t, (gt l i).w⟩).drop (i + 1) = spl l i t := by
  apply List.ext_getElem?
  intro k
  have e : (l.take i).length = i := by rw [List.length_take]; omega
  have e2 : ((l.set i ⟨(gt l i).b, t, (gt l i).w⟩).take (i + 1)).length = i + 1 := by rw [List.length_take, List.length_set]; omega
  simp only [spl, List.append_assoc, List.getElem?_append, e, e2, List.length_cons, List.length_nil, List.getElem?_take, List.getElem?_drop, List.getElem?_set]
  by_cases h1 : k < i
  · rw [if_pos (by omega), if_pos (by omega), if_neg (by omega), if_pos h1, if_pos h1]
  · by_cases h2 : k = i
    · subst h2; simp [hi]
    · rw [if_neg (by omega), if_neg h1]
      by_cases h3 : k = i + 1
      · subst h3; simp
      · rw [if_neg (by omega), if_neg (by omega), if_neg (by omega)]
        congr 1
theorem insV_ok {lim b b2 n : Nat} {H : Heap} {m : List Stp} {s : Stp} {i : Int} (hb : hget H b = some (flatS m)) (hb2 : hget H b2 = some (stC s)) (hlim : lim ≤ b) (hne : b ≠ b2) (h0 : 0 ≤ i) (hi : i ≤ m.length) (h1 : 1 ≤ m.length) (h2 : m.length ≤ 100000) (hn : n = m.length) :
    insV lim [.own 3 b 0 n, AV.i i, .own 3 b2 0 1] H = some (.own 3 H.length 0 (n + 1), hset H b none ++ [some (flatS (m.take i.toNat ++ [s] ++ m.drop i.toNat))]) := by
  subst hn
  simp only [insV, hb, hb2]
  rw [if_pos ⟨hlim, hne, h0, hi, h1, h2, flat_len m, rfl, flatS_st m, rfl⟩, flatS_cat, flatS_cat, flatS_take, flatS_drop]
  rfl
theorem nil25 (n : Nat) (l : List AV) (h : 0 < n) : binV Try.prog .eql 25 (.sl n l) (.v (.slice none 0 0)) = some (.v (.bool false)) := by
  simp only [binV, tk25, nilB]
  rw [if_pos h]
  rfl
theorem app25g {lim b n m : Nat} {H : Heap} {y : AV} {w u : List Stp} (hb : hget H b = some (flatS w)) (hy : srcCells H 3 y = some (m, flatS u)) (hl : lim ≤ b) (hn : n = w.length) (hm : n + m ≤ 100000) :
    ∃ H', appendV Try.prog lim H 25 (.own 3 b 0 n) y = some (.own 3 H.length 0 (n + m), H') ∧ MGrew H b H' (flatS (w ++ u)) := by
  subst hn
  refine ⟨_, ?_, MGrew.of _ _ _⟩
  simp only [appendV, tk25, ty56, hy, hb]
  rw [if_pos ⟨rfl, by decide, flatS_st u⟩, if_pos ⟨hl, trivial, by rw [flat_len]; omega, by omega, by omega⟩]
  rw [List.drop_zero, List.take_of_length_le (by rw [flat_len]; omega), flatS_cat]
theorem src_sl {H : Heap} {n : Nat} {l : List Stp} {k : Nat} (hn : n ≤ l.length) : srcCells H 3 (.sl n (flatS l)) = some (n, flatS (l.take n)) := by
  simp only [srcCells]
  rw [if_pos (by rw [flat_len]; omega), flatS_take]
theorem src_all {H : Heap} (l : List Stp) : srcCells H 3 (stopsAV l) = some (l.length, flatS l) := by
  rw [src_sl (k := 0) (Nat.le_refl _), List.take_of_length_le (Nat.le_refl _)]
theorem sl_hi {l : List Stp} {i : Int} (h0 : 0 ≤ i) (h1 : i ≤ l.length) : sliceV Try.prog 25 (stopsAV l) none (some (AV.i i)) = some (.sl i.toNat (flatS l)) := by
  simp only [sliceV, tk25, ty56, bound]
  rw [if_pos ⟨by omega, h0, h1⟩]
  simp
theorem sl_lo {l : List Stp} {i : Int} (h0 : 0 ≤ i) (h1 : i ≤ l.length) : sliceV Try.prog 25 (stopsAV l) (some (AV.i i)) none = some (stopsAV (l.drop i.toNat)) := by
  simp only [sliceV, tk25, ty56, bound]
  rw [if_pos ⟨h0, h1, by omega⟩, flatS_drop, stopsAV, List.length_drop]
  rfl
theorem bld56 (x y z : Int) : buildV Try.prog 56 [(0, AV.i x), (1, AV.i y), (2, AV.i z)] = some (.agg [AV.i x, AV.i y, AV.i z]) := by kernel_rfl
theorem bs25two (lim : Nat) (H : Heap) (x y : Operand) (ev : Operand → AV) (s t : Stp) (h : ev x = .agg (stC s)) (h2 : ev y = .agg (stC t)) :
    effV Try.prog lim (.buildSlice 25 2 #[(0, x), (1, y)]) ev H = some (.own 3 H.length 0 2, H ++ [some (flatS [s, t])]) := by
  simp only [effV, tk25, ty56]
  rw [if_pos ⟨rfl, by decide, by decide⟩]
  simp only [List.map_cons, List.map_nil, h, h2]
  rfl
end Go.Proofs.Ytaoondlakhocnaa
end
section
set_option linter.unusedSimpArgs false
set_option linter.unusedVariables false
set_option maxHeartbeats 40000000
set_option maxRecDepth 4000
namespace Go.Proofs.Ytaoondlakhocnaa
open Go Go.Am

abbrev lc_clone_ok (a b c : AV) : Env := [(0,a),(2,b),(4,c)]
theorem clone_ok (lim : Nat) (H : Heap) (hlim : lim ≤ H.length) (l : List Stp) (h0 : 0 < l.length) (h1 : l.length ≤ 1000) :
    ACall sig lim 61 [stopsAV l] H fun r H' => ∃ b, r = .own 3 b 0 l.length ∧ H.length ≤ b ∧ hget H' b = some (flatS l) ∧ ∀ c, c < H.length → hget H' c = hget H c := by
 refine ACall_own (fa := fa61) rfl rfl rfl rfl ?_
 have tr : ∀ a0 : AV, env0 fa61.keep [a0] = [(0,a0),(2,.any),(4,.any)] := fun a0 => rfl
 refine W_to (tr _) ?_; clear tr
 refine at_seq rfl ?_
 refine rg rfl ?_
 refine Rq ?_
 have tr : ∀ a b c d : AV, let l := lc_clone_ok a b c; trim ((2,d)::l) l = [(0,a),(2,d),(4,c)] := by intros; rfl
 refine R_nil (tr ..) ?_; clear tr
 refine then_n ?_
 refine at_seq rfl ?_
 refine at_seq rfl ?_
 refine rg rfl ?_
 refine Rq ?_
 refine R_q rfl (nil25 _ _ h0) ?_
 have tr : ∀ a b c d e : AV, let l := lc_clone_ok a b c; trim ((4,e)::(3,d)::l) l = [(0,a),(2,b),(4,e)] := by intros; rfl
 refine R_nil (tr ..) ?_; clear tr
 refine then_n ?_
 refine cdd (fun h1 => ?_) (fun h1 => ?_)
 ·
  try simp only [decide_eq_true_eq, decide_eq_false_iff_not, Bool.not_eq_true', Bool.not_eq_false', beq_iff_eq, beq_eq_false_iff_ne, ne_eq] at h1
  cases h1
 ·
  try simp only [decide_eq_true_eq, decide_eq_false_iff_not, Bool.not_eq_true', Bool.not_eq_false', beq_iff_eq, beq_eq_false_iff_ne, ne_eq] at h1
  refine at_skip rfl ?_
  refine then_n ?_
  refine at_seq rfl ?_
  refine rg rfl ?_
  refine A_buildSlice (bs25e _ _ _) ?_
  intro H1 n1
  have en1 := n1.len
  have q1 : hget H1 H.length = some (flatS []) := n1.new
  refine Rq ?_
  obtain ⟨H2, ha2, g2⟩ := app25g (lim := lim) (n := 0) q1 (src_all l) (by omega) rfl (by omega)
  refine R_append (by simp (disch := first | omega | (simp only [List.length_map, List.length_append, List.length_set, List.length_cons, List.length_nil]; omega)) only [go_sem, ↓reduceIte, Nat.reduceEqDiff, reduceCtorEq]; exact ha2) ?_
  have eg2 := g2.len
  refine Rq ?_
  have tr : ∀ a b c d e f g : AV, let l := lc_clone_ok a b c; trim ((2,g)::(7,f)::(6,e)::(5,d)::l) l = [(0,a),(2,g),(4,c)] := by intros; rfl
  refine R_nil (tr ..) ?_; clear tr
  refine then_n ?_
  refine at_ret rfl ?_
  refine fin_own rfl (by simp only [go_sem, ↓reduceIte, Nat.reduceEqDiff]; rfl) ?_
  exact ⟨_, by first | rfl | (rw [Nat.zero_add]; rfl), by omega, g2.new, fun c hc => (g2.old c (by omega) (by omega)).trans (n1.old c hc)⟩

abbrev lc_split_ok (a b c d e f g h i j : AV) : Env := [(0,a),(1,b),(2,c),(6,d),(7,e),(8,f),(9,g),(17,h),(31,i),(34,j)]
theorem split_ok (lim : Nat) (H : Heap) (l : List Stp) (i t : Int) :
    ACall sig lim 43 [stopsAV l, AV.i i, AV.i t] H fun r H' => r = .tup [splA l i t, AV.i (splE l i t)] ∧ H' = H := by
 have q8 : True := trivial
 have q9 : True := trivial
 have qn : True := trivial
 refine ACall_pure (fa := fa43) rfl rfl rfl rfl ?_
 have tr : ∀ a0 a1 a2 : AV, env0 fa43.keep [a0, a1, a2] = [(0,a0),(1,a1),(2,a2),(6,.any),(7,.any),(8,.any),(9,.any),(17,.any),(31,.any),(34,.any)] := fun a0 a1 a2 => rfl
 refine W_to (tr _ _ _) ?_; clear tr
 refine at_seq rfl ?_
 refine rg rfl ?_
 refine Rq ?_
 refine Rq ?_
 have tr : ∀ a b c d e f g h i j k m : AV, let l := lc_split_ok a b c d e f g h i j; trim ((7,m)::(6,k)::l) l = [(0,a),(1,b),(2,c),(6,k),(7,m),(8,f),(9,g),(17,h),(31,i),(34,j)] := by intros; rfl
 refine R_nil (tr ..) ?_; clear tr
 refine then_n ?_
 refine at_seq rfl ?_
 refine at_seq rfl ?_
 refine rg rfl ?_
 refine Rq ?_
 refine Rq ?_
 refine Rq ?_
 refine Rp_split (fun h1 => ?_) (fun h1 => ?_)
 ·
  try simp only [decide_eq_true_eq, decide_eq_false_iff_not, Bool.not_eq_true', Bool.not_eq_false', beq_iff_eq, beq_eq_false_iff_ne, ne_eq] at h1
  refine Rn ?_
  refine Rn ?_
  refine Rn ?_
  refine Rn ?_
  refine Rq ?_
  have tr : ∀ a b c d e f g h i j k m n o p q r s : AV, let l := lc_split_ok a b c d e f g h i j; trim ((17,s)::(16,r)::(15,q)::(14,p)::(13,o)::(12,n)::(11,m)::(10,k)::l) l = [(0,a),(1,b),(2,c),(6,d),(7,e),(8,f),(9,g),(17,s),(31,i),(34,j)] := by intros; rfl
  refine R_nil (tr ..) ?_; clear tr
  refine then_n ?_
  refine cdt ?_
  refine at_seq rfl ?_
  refine rg rfl ?_
  refine Rq ?_
  refine Rq ?_
  have tr : ∀ a b c d e f g h i j k m : AV, let l := lc_split_ok a b c d e f g h i j; trim ((7,m)::(6,k)::l) l = [(0,a),(1,b),(2,c),(6,k),(7,m),(8,f),(9,g),(17,h),(31,i),(34,j)] := by intros; rfl
  refine R_nil (tr ..) ?_; clear tr
  refine then_n ?_
  refine at_ret rfl ?_
  refine then_r ?_
  refine fpure ?_
  refine ⟨?_, rfl⟩
  have hs : splE l i t = 2 := by rw [splE, if_pos (by omega)]
  rw [hs, splA_n (by omega)]
 ·
  try simp only [decide_eq_true_eq, decide_eq_false_iff_not, Bool.not_eq_true', Bool.not_eq_false', beq_iff_eq, beq_eq_false_iff_ne, ne_eq] at h1
  refine Ry ?_
  refine Rq ?_
  refine Ry ?_
  refine Rq ?_
  refine Ry ?_
  refine Rq ?_
  refine Ry ?_
  refine Rq ?_
  refine Rq ?_
  have tr : ∀ a b c d e f g h i j k m n o p q r s : AV, let l := lc_split_ok a b c d e f g h i j; trim ((17,s)::(16,r)::(15,q)::(14,p)::(13,o)::(12,n)::(11,m)::(10,k)::l) l = [(0,a),(1,b),(2,c),(6,d),(7,e),(8,f),(9,g),(17,s),(31,i),(34,j)] := by intros; rfl
  refine R_nil (tr ..) ?_; clear tr
  refine then_n ?_
  refine cdd (fun h2 => ?_) (fun h2 => ?_)
  ·
   try simp only [decide_eq_true_eq, decide_eq_false_iff_not, Bool.not_eq_true', Bool.not_eq_false', beq_iff_eq, beq_eq_false_iff_ne, ne_eq] at h2
   refine at_seq rfl ?_
   refine rg rfl ?_
   refine Rq ?_
   refine Rq ?_
   have tr : ∀ a b c d e f g h i j k m : AV, let l := lc_split_ok a b c d e f g h i j; trim ((7,m)::(6,k)::l) l = [(0,a),(1,b),(2,c),(6,k),(7,m),(8,f),(9,g),(17,h),(31,i),(34,j)] := by intros; rfl
   refine R_nil (tr ..) ?_; clear tr
   refine then_n ?_
   refine at_ret rfl ?_
   refine then_r ?_
   refine fpure ?_
   refine ⟨?_, rfl⟩
   have hs : splE l i t = 2 := by rw [splE, if_pos (by omega)]
   rw [hs, splA_n (by omega)]
  ·
   try simp only [decide_eq_true_eq, decide_eq_false_iff_not, Bool.not_eq_true', Bool.not_eq_false', beq_iff_eq, beq_eq_false_iff_ne, ne_eq] at h2
   refine at_skip rfl ?_
   refine then_n ?_
   refine at_seq rfl ?_
   refine rg rfl ?_
   refine Rq ?_
   refine Rq ?_
   have hir : 0 ≤ i ∧ i < l.length := by omega
   obtain ⟨hi0, hi1⟩ : 0 ≤ i ∧ i.toNat < l.length := by omega
   refine R_q (r := .ele (flatS l) (i.toNat * 3)) rfl (by simp (disch := first | omega | (simp only [List.length_map, List.length_append, List.length_set, List.length_cons, List.length_nil]; omega)) only [go_sem, ↓reduceIte, Nat.reduceEqDiff, reduceCtorEq] <;> rfl) ?_
   refine R_q (r := .agg (stC (gt l i.toNat))) rfl (by simp (disch := first | omega | (simp only [List.length_map, List.length_append, List.length_set, List.length_cons, List.length_nil]; omega)) only [go_sem, ↓reduceIte, Nat.reduceEqDiff, reduceCtorEq] <;> exact ld_stop l i.toNat (by omega)) ?_
   refine A_alloc rfl ?_
   intro H1 n1
   have en1 := n1.len
   have q8 := n1.new
   have lq8 := hget_lt q8
   refine A_store ty56 (by simp (disch := first | omega | (simp only [List.length_map, List.length_append, List.length_set, List.length_cons, List.length_nil]; omega)) only [go_sem, ↓reduceIte, Nat.reduceEqDiff, reduceCtorEq, q8] <;> rfl) (by simp (disch := first | omega | (simp only [List.length_map, List.length_append, List.length_set, List.length_cons, List.length_nil]; omega)) only [go_sem, ↓reduceIte, Nat.reduceEqDiff, reduceCtorEq, q8] <;> rfl) q8 ⟨by omega, rfl, by first | exact Nat.le_refl _ | simp⟩ (k' := stC (gt l i.toNat)) rfl ?_
   intro H2 w1
   have ew1 := w1.len
   have q8 := w1.new
   have tr : ∀ a b c d e f g h i j k m n o p : AV, let l := lc_split_ok a b c d e f g h i j; trim ((8,p)::(21,o)::(20,n)::(19,m)::(18,k)::l) l = [(0,a),(1,b),(2,c),(6,d),(7,e),(8,p),(9,g),(17,h),(31,i),(34,j)] := by intros; rfl
   refine R_nil (tr ..) ?_; clear tr
   refine then_n ?_
   refine at_seq rfl ?_
   refine at_seq rfl ?_
   refine rg rfl ?_
   refine Rq ?_
   refine Rq ?_
   refine R_q rfl (by simp (disch := first | omega | (simp only [List.length_map, List.length_append, List.length_set, List.length_cons, List.length_nil]; omega)) only [go_sem, ↓reduceIte, Nat.reduceEqDiff, reduceCtorEq, q8, q9, qn] <;> rfl) ?_
   refine Rq ?_
   refine Rq ?_
   refine Rp_split (fun h3 => ?_) (fun h3 => ?_)
   ·
    try simp only [decide_eq_true_eq, decide_eq_false_iff_not, Bool.not_eq_true', Bool.not_eq_false', beq_iff_eq, beq_eq_false_iff_ne, ne_eq] at h3
    refine Rn ?_
    refine Rn ?_
    refine Rn ?_
    refine Rn ?_
    refine Rq ?_
    have tr : ∀ a b c d e f g h i j k m n o p q r s t u : AV, let l := lc_split_ok a b c d e f g h i j; trim ((31,u)::(30,t)::(29,s)::(28,r)::(27,q)::(26,p)::(25,o)::(24,n)::(23,m)::(22,k)::l) l = [(0,a),(1,b),(2,c),(6,d),(7,e),(8,f),(9,g),(17,h),(31,u),(34,j)] := by intros; rfl
    refine R_nil (tr ..) ?_; clear tr
    refine then_n ?_
    refine cdt ?_
    refine at_seq rfl ?_
    refine rg rfl ?_
    refine Rq ?_
    refine Rq ?_
    have tr : ∀ a b c d e f g h i j k m : AV, let l := lc_split_ok a b c d e f g h i j; trim ((7,m)::(6,k)::l) l = [(0,a),(1,b),(2,c),(6,k),(7,m),(8,f),(9,g),(17,h),(31,i),(34,j)] := by intros; rfl
    refine R_nil (tr ..) ?_; clear tr
    refine then_n ?_
    refine at_ret rfl ?_
    refine then_r ?_
    refine fpure ?_
    refine ⟨?_, rfl⟩
    have hs : splE l i t = 1 := by rw [splE, if_neg (by omega), if_pos (by omega)]
    rw [hs, splA_n (by omega)]
   ·
    try simp only [decide_eq_true_eq, decide_eq_false_iff_not, Bool.not_eq_true', Bool.not_eq_false', beq_iff_eq, beq_eq_false_iff_ne, ne_eq] at h3
    refine Ry ?_
    refine Rq ?_
    refine Ry ?_
    refine Rq ?_
    refine Ry ?_
    refine R_q rfl (by simp (disch := first | omega | (simp only [List.length_map, List.length_append, List.length_set, List.length_cons, List.length_nil]; omega)) only [go_sem, ↓reduceIte, Nat.reduceEqDiff, reduceCtorEq, q8, q9, qn] <;> rfl) ?_
    refine Ry ?_
    refine Rq ?_
    refine Rq ?_
    have tr : ∀ a b c d e f g h i j k m n o p q r s t u : AV, let l := lc_split_ok a b c d e f g h i j; trim ((31,u)::(30,t)::(29,s)::(28,r)::(27,q)::(26,p)::(25,o)::(24,n)::(23,m)::(22,k)::l) l = [(0,a),(1,b),(2,c),(6,d),(7,e),(8,f),(9,g),(17,h),(31,u),(34,j)] := by intros; rfl
    refine R_nil (tr ..) ?_; clear tr
    refine then_n ?_
    refine cdd (fun h4 => ?_) (fun h4 => ?_)
    ·
     try simp only [decide_eq_true_eq, decide_eq_false_iff_not, Bool.not_eq_true', Bool.not_eq_false', beq_iff_eq, beq_eq_false_iff_ne, ne_eq] at h4
     refine at_seq rfl ?_
     refine rg rfl ?_
     refine Rq ?_
     refine Rq ?_
     have tr : ∀ a b c d e f g h i j k m : AV, let l := lc_split_ok a b c d e f g h i j; trim ((7,m)::(6,k)::l) l = [(0,a),(1,b),(2,c),(6,k),(7,m),(8,f),(9,g),(17,h),(31,i),(34,j)] := by intros; rfl
     refine R_nil (tr ..) ?_; clear tr
     refine then_n ?_
     refine at_ret rfl ?_
     refine then_r ?_
     refine fpure ?_
     refine ⟨?_, rfl⟩
     have hs : splE l i t = 1 := by rw [splE, if_neg (by omega), if_pos (by omega)]
     rw [hs, splA_n (by omega)]
    ·
     try simp only [decide_eq_true_eq, decide_eq_false_iff_not, Bool.not_eq_true', Bool.not_eq_false', beq_iff_eq, beq_eq_false_iff_ne, ne_eq] at h4
     refine at_skip rfl ?_
     refine then_n ?_
     refine at_seq rfl ?_
     refine at_seq rfl ?_
     refine rg rfl ?_
     refine Rq ?_
     refine Rq ?_
     refine Rq ?_
     have tr : ∀ a b c d e f g h i j k m n : AV, let l := lc_split_ok a b c d e f g h i j; trim ((34,n)::(33,m)::(32,k)::l) l = [(0,a),(1,b),(2,c),(6,d),(7,e),(8,f),(9,g),(17,h),(31,i),(34,n)] := by intros; rfl
     refine R_nil (tr ..) ?_; clear tr
     refine then_n ?_
     refine cdd (fun h5 => ?_) (fun h5 => ?_)
     ·
      try simp only [decide_eq_true_eq, decide_eq_false_iff_not, Bool.not_eq_true', Bool.not_eq_false', beq_iff_eq, beq_eq_false_iff_ne, ne_eq] at h5
      refine at_seq rfl ?_
      refine rg rfl ?_
      refine Rq ?_
      refine Rq ?_
      have tr : ∀ a b c d e f g h i j k m : AV, let l := lc_split_ok a b c d e f g h i j; trim ((7,m)::(6,k)::l) l = [(0,a),(1,b),(2,c),(6,k),(7,m),(8,f),(9,g),(17,h),(31,i),(34,j)] := by intros; rfl
      refine R_nil (tr ..) ?_; clear tr
      refine then_n ?_
      refine at_ret rfl ?_
      refine then_r ?_
      refine fpure ?_
      refine ⟨?_, rfl⟩
      have hs : splE l i t = 9 := by rw [splE, if_neg (by omega), if_neg (by omega), if_pos (by omega)]
      rw [hs, splA_n (by omega)]
     ·
      try simp only [decide_eq_true_eq, decide_eq_false_iff_not, Bool.not_eq_true', Bool.not_eq_false', beq_iff_eq, beq_eq_false_iff_ne, ne_eq] at h5
      refine at_skip rfl ?_
      refine then_n ?_
      refine at_seq rfl ?_
      refine rg rfl ?_
      have hz : splE l i t = 0 := splE_0 (by omega) (by omega) (by omega)
      have hl20 : l.length < 20 := by omega
      refine Rq ?_
      refine Rcall ?_
      refine ACall_mono (clone_ok _ _ (by omega) l (by omega) (by omega)) ?_
      rintro r H3 ⟨b9, rfl, hb9, q9, hold⟩
      have q8 := (hold _ (hget_lt q8)).trans q8
      have lq8 := hget_lt q8
      have lq9 := hget_lt q9
      refine Rq ?_
      have tr : ∀ a b c d e f g h i j k m n : AV, let l := lc_split_ok a b c d e f g h i j; trim ((9,n)::(36,m)::(35,k)::l) l = [(0,a),(1,b),(2,c),(6,d),(7,e),(8,f),(9,n),(17,h),(31,i),(34,j)] := by intros; rfl
      refine R_nil (tr ..) ?_; clear tr
      refine then_n ?_
      refine at_seq rfl ?_
      refine rg rfl ?_
      refine Rq ?_
      refine Rq ?_
      refine Rq ?_
      refine R_q (r := .ptr b9 (i.toNat * 3)) rfl (by simp (disch := first | omega | (simp only [List.length_map, List.length_append, List.length_set, List.length_cons, List.length_nil]; omega)) only [go_sem, ↓reduceIte, Nat.reduceEqDiff, reduceCtorEq, q8, q9] <;> rfl) ?_
      refine Rq ?_
      have lq8 := hget_lt q8
      have lq9 := hget_lt q9
      refine A_store ty2 (by simp (disch := first | omega | (simp only [List.length_map, List.length_append, List.length_set, List.length_cons, List.length_nil]; omega)) only [go_sem, ↓reduceIte, Nat.reduceEqDiff, reduceCtorEq, q8, q9] <;> rfl) (by simp (disch := first | omega | (simp only [List.length_map, List.length_append, List.length_set, List.length_cons, List.length_nil]; omega)) only [go_sem, ↓reduceIte, Nat.reduceEqDiff, reduceCtorEq, q8, q9] <;> rfl) q9 ⟨by omega, rfl, by simp only [flat_len]; omega⟩ (k' := flatS (l.set i.toNat ⟨(gt l i.toNat).b, t, (gt l i.toNat).w⟩)) (flatS_set1 l i.toNat t (by omega)) ?_
      intro H4 w4
      have ew4 := w4.len
      have q8 := (w4.old _ (by omega)).trans q8
      have q9 := w4.new
      have tr : ∀ a b c d e f g h i j k m n o p : AV, let l := lc_split_ok a b c d e f g h i j; trim ((41,p)::(40,o)::(39,n)::(38,m)::(37,k)::l) l = [(0,a),(1,b),(2,c),(6,d),(7,e),(8,f),(9,g),(17,h),(31,i),(34,j)] := by intros; rfl
      refine R_nil (tr ..) ?_; clear tr
      refine then_n ?_
      refine at_seq rfl ?_
      refine rg rfl ?_
      refine Rq ?_
      refine Rq ?_
      have lq8 := hget_lt q8
      have lq9 := hget_lt q9
      refine A_store ty2 (by simp (disch := first | omega | (simp only [List.length_map, List.length_append, List.length_set, List.length_cons, List.length_nil]; omega)) only [go_sem, ↓reduceIte, Nat.reduceEqDiff, reduceCtorEq, q8, q9] <;> rfl) (by simp (disch := first | omega | (simp only [List.length_map, List.length_append, List.length_set, List.length_cons, List.length_nil]; omega)) only [go_sem, ↓reduceIte, Nat.reduceEqDiff, reduceCtorEq, q8, q9] <;> rfl) q8 ⟨by omega, rfl, by first | exact Nat.le_refl _ | simp⟩ (k' := stC ⟨t, (gt l i.toNat).a, (gt l i.toNat).w⟩) rfl ?_
      intro H5 w5
      have ew5 := w5.len
      have q9 := (w5.old _ (by omega)).trans q9
      have q8 := w5.new
      have tr : ∀ a b c d e f g h i j k m : AV, let l := lc_split_ok a b c d e f g h i j; trim ((43,m)::(42,k)::l) l = [(0,a),(1,b),(2,c),(6,d),(7,e),(8,f),(9,g),(17,h),(31,i),(34,j)] := by intros; rfl
      refine R_nil (tr ..) ?_; clear tr
      refine then_n ?_
      refine at_seq rfl ?_
      refine rg rfl ?_
      refine Rq ?_
      refine Rq ?_
      refine R_q (r := AV.i (i + 1)) rfl (by simp (disch := first | omega | (simp only [List.length_map, List.length_append, List.length_set, List.length_cons, List.length_nil]; omega)) only [go_sem, ↓reduceIte, Nat.reduceEqDiff, reduceCtorEq] <;> rfl) ?_
      refine R_q rfl (by simp (disch := first | omega | (simp only [List.length_map, List.length_append, List.length_set, List.length_cons, List.length_nil]; omega)) only [go_sem, ↓reduceIte, Nat.reduceEqDiff, reduceCtorEq, q8, q9, qn] <;> rfl) ?_
      have lq8 := hget_lt q8
      have lq9 := hget_lt q9
      refine A_buildSlice (bs25 _ _ _ _ ⟨t, (gt l i.toNat).a, (gt l i.toNat).w⟩ (by simp (disch := first | omega | (simp only [List.length_map, List.length_append, List.length_set, List.length_cons, List.length_nil]; omega)) only [go_sem, ↓reduceIte, Nat.reduceEqDiff, reduceCtorEq, q8, q9] <;> rfl)) ?_
      intro H6 n6
      have en6 := n6.len
      have q9 := (n6.old _ (hget_lt q9)).trans q9
      have qn := n6.new
      have lq9 := hget_lt q9
      have hr := insV_ok (lim := H.length) q9 qn (by omega) (by omega) (by omega) (i := i + 1) (by rw [List.length_set]; omega) (by rw [List.length_set]; omega) (by rw [List.length_set]; omega) (n := l.length) (by rw [List.length_set])
      refine ACall_eff (p := insV) rfl rfl rfl hr ?_
      rewrite [show (i + 1).toNat = i.toNat + 1 by omega, spl_ins t (by omega)]
      refine Rq ?_
      refine Rq ?_
      have tr : ∀ a b c d e f g h i j k m n o p q r s : AV, let l := lc_split_ok a b c d e f g h i j; trim ((7,s)::(6,r)::(49,q)::(48,p)::(47,o)::(46,n)::(45,m)::(44,k)::l) l = [(0,a),(1,b),(2,c),(6,r),(7,s),(8,f),(9,g),(17,h),(31,i),(34,j)] := by intros; rfl
      refine R_nil (tr ..) ?_; clear tr
      refine then_n ?_
      refine at_ret rfl ?_
      have q9 : hget (hset H6 b9 none ++ [some (flatS (spl l i.toNat t))]) H6.length = some (flatS (spl l i.toNat t)) := by simp [hget, hset]
      have e2 : l.length + 1 = (spl l i.toNat t).length := (spl_len t (by omega)).symm
      refine fin_pure (rs := [.tmp 6, .tmp 7]) rfl (by simp (disch := first | omega | (simp only [List.length_map, List.length_append, List.length_set, List.length_cons, List.length_nil]; omega)) only [go_sem, ↓reduceIte, Nat.reduceEqDiff, reduceCtorEq] <;> rfl) (v := .tup [stopsAV (spl l i.toNat t), AV.i 0]) (by show AV.tup [frz _ _ 7 (.own 3 _ 0 _), AV.i 0] = _; rw [frz_own3' (by omega) q9, List.drop_zero, frz_flatS, e2]) ?_
      refine ⟨?_, rfl⟩
      rw [hz, splA_0 hz]

abbrev lc_rsplit_ok (a b c d e f g h i j : AV) : Env := [(0,a),(1,b),(2,c),(6,d),(7,e),(8,f),(9,g),(17,h),(31,i),(34,j)]
theorem rsplit_ok (lim : Nat) (H : Heap) (l : List Stp) (i t : Int) :
    ACall sig lim 44 [stopsAV l, AV.i i, AV.i t] H fun r H' => r = .tup [splA l i t, AV.i (splE l i t)] ∧ H' = H := by
 have q8 : True := trivial
 have q9 : True := trivial
 have qn : True := trivial
 refine ACall_pure (fa := fa44) rfl rfl rfl rfl ?_
 have tr : ∀ a0 a1 a2 : AV, env0 fa44.keep [a0, a1, a2] = [(0,a0),(1,a1),(2,a2),(6,.any),(7,.any),(8,.any),(9,.any),(17,.any),(31,.any),(34,.any)] := fun a0 a1 a2 => rfl
 refine W_to (tr _ _ _) ?_; clear tr
 refine at_seq rfl ?_
 refine rg rfl ?_
 refine Rq ?_
 refine Rq ?_
 have tr : ∀ a b c d e f g h i j k m : AV, let l := lc_rsplit_ok a b c d e f g h i j; trim ((7,m)::(6,k)::l) l = [(0,a),(1,b),(2,c),(6,k),(7,m),(8,f),(9,g),(17,h),(31,i),(34,j)] := by intros; rfl
 refine R_nil (tr ..) ?_; clear tr
 refine then_n ?_
 refine at_seq rfl ?_
 refine at_seq rfl ?_
 refine rg rfl ?_
 refine Rq ?_
 refine Rq ?_
 refine Rq ?_
 refine Rp_split (fun h1 => ?_) (fun h1 => ?_)
 ·
  try simp only [decide_eq_true_eq, decide_eq_false_iff_not, Bool.not_eq_true', Bool.not_eq_false', beq_iff_eq, beq_eq_false_iff_ne, ne_eq] at h1
  refine Rn ?_
  refine Rn ?_
  refine Rn ?_
  refine Rn ?_
  refine Rq ?_
  have tr : ∀ a b c d e f g h i j k m n o p q r s : AV, let l := lc_rsplit_ok a b c d e f g h i j; trim ((17,s)::(16,r)::(15,q)::(14,p)::(13,o)::(12,n)::(11,m)::(10,k)::l) l = [(0,a),(1,b),(2,c),(6,d),(7,e),(8,f),(9,g),(17,s),(31,i),(34,j)] := by intros; rfl
  refine R_nil (tr ..) ?_; clear tr
  refine then_n ?_
  refine cdt ?_
  refine at_seq rfl ?_
  refine rg rfl ?_
  refine Rq ?_
  refine Rq ?_
  have tr : ∀ a b c d e f g h i j k m : AV, let l := lc_rsplit_ok a b c d e f g h i j; trim ((7,m)::(6,k)::l) l = [(0,a),(1,b),(2,c),(6,k),(7,m),(8,f),(9,g),(17,h),(31,i),(34,j)] := by intros; rfl
  refine R_nil (tr ..) ?_; clear tr
  refine then_n ?_
  refine at_ret rfl ?_
  refine then_r ?_
  refine fpure ?_
  refine ⟨?_, rfl⟩
  have hs : splE l i t = 2 := by rw [splE, if_pos (by omega)]
  rw [hs, splA_n (by omega)]
 ·
  try simp only [decide_eq_true_eq, decide_eq_false_iff_not, Bool.not_eq_true', Bool.not_eq_false', beq_iff_eq, beq_eq_false_iff_ne, ne_eq] at h1
  refine Ry ?_
  refine Rq ?_
  refine Ry ?_
  refine Rq ?_
  refine Ry ?_
  refine Rq ?_
  refine Ry ?_
  refine Rq ?_
  refine Rq ?_
  have tr : ∀ a b c d e f g h i j k m n o p q r s : AV, let l := lc_rsplit_ok a b c d e f g h i j; trim ((17,s)::(16,r)::(15,q)::(14,p)::(13,o)::(12,n)::(11,m)::(10,k)::l) l = [(0,a),(1,b),(2,c),(6,d),(7,e),(8,f),(9,g),(17,s),(31,i),(34,j)] := by intros; rfl
  refine R_nil (tr ..) ?_; clear tr
  refine then_n ?_
  refine cdd (fun h2 => ?_) (fun h2 => ?_)
  ·
   try simp only [decide_eq_true_eq, decide_eq_false_iff_not, Bool.not_eq_true', Bool.not_eq_false', beq_iff_eq, beq_eq_false_iff_ne, ne_eq] at h2
   refine at_seq rfl ?_
   refine rg rfl ?_
   refine Rq ?_
   refine Rq ?_
   have tr : ∀ a b c d e f g h i j k m : AV, let l := lc_rsplit_ok a b c d e f g h i j; trim ((7,m)::(6,k)::l) l = [(0,a),(1,b),(2,c),(6,k),(7,m),(8,f),(9,g),(17,h),(31,i),(34,j)] := by intros; rfl
   refine R_nil (tr ..) ?_; clear tr
   refine then_n ?_
   refine at_ret rfl ?_
   refine then_r ?_
   refine fpure ?_
   refine ⟨?_, rfl⟩
   have hs : splE l i t = 2 := by rw [splE, if_pos (by omega)]
   rw [hs, splA_n (by omega)]
  ·
   try simp only [decide_eq_true_eq, decide_eq_false_iff_not, Bool.not_eq_true', Bool.not_eq_false', beq_iff_eq, beq_eq_false_iff_ne, ne_eq] at h2
   refine at_skip rfl ?_
   refine then_n ?_
   refine at_seq rfl ?_
   refine rg rfl ?_
   refine Rq ?_
   refine Rq ?_
   have hir : 0 ≤ i ∧ i < l.length := by omega
   obtain ⟨hi0, hi1⟩ : 0 ≤ i ∧ i.toNat < l.length := by omega
   refine R_q (r := .ele (flatS l) (i.toNat * 3)) rfl (by simp (disch := first | omega | (simp only [List.length_map, List.length_append, List.length_set, List.length_cons, List.length_nil]; omega)) only [go_sem, ↓reduceIte, Nat.reduceEqDiff, reduceCtorEq] <;> rfl) ?_
   refine R_q (r := .agg (stC (gt l i.toNat))) rfl (by simp (disch := first | omega | (simp only [List.length_map, List.length_append, List.length_set, List.length_cons, List.length_nil]; omega)) only [go_sem, ↓reduceIte, Nat.reduceEqDiff, reduceCtorEq] <;> exact ld_stop l i.toNat (by omega)) ?_
   refine A_alloc rfl ?_
   intro H1 n1
   have en1 := n1.len
   have q8 := n1.new
   have lq8 := hget_lt q8
   refine A_store ty56 (by simp (disch := first | omega | (simp only [List.length_map, List.length_append, List.length_set, List.length_cons, List.length_nil]; omega)) only [go_sem, ↓reduceIte, Nat.reduceEqDiff, reduceCtorEq, q8] <;> rfl) (by simp (disch := first | omega | (simp only [List.length_map, List.length_append, List.length_set, List.length_cons, List.length_nil]; omega)) only [go_sem, ↓reduceIte, Nat.reduceEqDiff, reduceCtorEq, q8] <;> rfl) q8 ⟨by omega, rfl, by first | exact Nat.le_refl _ | simp⟩ (k' := stC (gt l i.toNat)) rfl ?_
   intro H2 w1
   have ew1 := w1.len
   have q8 := w1.new
   have tr : ∀ a b c d e f g h i j k m n o p : AV, let l := lc_rsplit_ok a b c d e f g h i j; trim ((8,p)::(21,o)::(20,n)::(19,m)::(18,k)::l) l = [(0,a),(1,b),(2,c),(6,d),(7,e),(8,p),(9,g),(17,h),(31,i),(34,j)] := by intros; rfl
   refine R_nil (tr ..) ?_; clear tr
   refine then_n ?_
   refine at_seq rfl ?_
   refine at_seq rfl ?_
   refine rg rfl ?_
   refine Rq ?_
   refine Rq ?_
   refine R_q rfl (by simp (disch := first | omega | (simp only [List.length_map, List.length_append, List.length_set, List.length_cons, List.length_nil]; omega)) only [go_sem, ↓reduceIte, Nat.reduceEqDiff, reduceCtorEq, q8, q9, qn] <;> rfl) ?_
   refine Rq ?_
   refine Rq ?_
   refine Rp_split (fun h3 => ?_) (fun h3 => ?_)
   ·
    try simp only [decide_eq_true_eq, decide_eq_false_iff_not, Bool.not_eq_true', Bool.not_eq_false', beq_iff_eq, beq_eq_false_iff_ne, ne_eq] at h3
    refine Rn ?_
    refine Rn ?_
    refine Rn ?_
    refine Rn ?_
    refine Rq ?_
    have tr : ∀ a b c d e f g h i j k m n o p q r s t u : AV, let l := lc_rsplit_ok a b c d e f g h i j; trim ((31,u)::(30,t)::(29,s)::(28,r)::(27,q)::(26,p)::(25,o)::(24,n)::(23,m)::(22,k)::l) l = [(0,a),(1,b),(2,c),(6,d),(7,e),(8,f),(9,g),(17,h),(31,u),(34,j)] := by intros; rfl
    refine R_nil (tr ..) ?_; clear tr
    refine then_n ?_
    refine cdt ?_
    refine at_seq rfl ?_
    refine rg rfl ?_
    refine Rq ?_
    refine Rq ?_
    have tr : ∀ a b c d e f g h i j k m : AV, let l := lc_rsplit_ok a b c d e f g h i j; trim ((7,m)::(6,k)::l) l = [(0,a),(1,b),(2,c),(6,k),(7,m),(8,f),(9,g),(17,h),(31,i),(34,j)] := by intros; rfl
    refine R_nil (tr ..) ?_; clear tr
    refine then_n ?_
    refine at_ret rfl ?_
    refine then_r ?_
    refine fpure ?_
    refine ⟨?_, rfl⟩
    have hs : splE l i t = 1 := by rw [splE, if_neg (by omega), if_pos (by omega)]
    rw [hs, splA_n (by omega)]
   ·
    try simp only [decide_eq_true_eq, decide_eq_false_iff_not, Bool.not_eq_true', Bool.not_eq_false', beq_iff_eq, beq_eq_false_iff_ne, ne_eq] at h3
    refine Ry ?_
    refine Rq ?_
    refine Ry ?_
    refine Rq ?_
    refine Ry ?_
    refine R_q rfl (by simp (disch := first | omega | (simp only [List.length_map, List.length_append, List.length_set, List.length_cons, List.length_nil]; omega)) only [go_sem, ↓reduceIte, Nat.reduceEqDiff, reduceCtorEq, q8, q9, qn] <;> rfl) ?_
    refine Ry ?_
    refine Rq ?_
    refine Rq ?_
    have tr : ∀ a b c d e f g h i j k m n o p q r s t u : AV, let l := lc_rsplit_ok a b c d e f g h i j; trim ((31,u)::(30,t)::(29,s)::(28,r)::(27,q)::(26,p)::(25,o)::(24,n)::(23,m)::(22,k)::l) l = [(0,a),(1,b),(2,c),(6,d),(7,e),(8,f),(9,g),(17,h),(31,u),(34,j)] := by intros; rfl
    refine R_nil (tr ..) ?_; clear tr
    refine then_n ?_
    refine cdd (fun h4 => ?_) (fun h4 => ?_)
    ·
     try simp only [decide_eq_true_eq, decide_eq_false_iff_not, Bool.not_eq_true', Bool.not_eq_false', beq_iff_eq, beq_eq_false_iff_ne, ne_eq] at h4
     refine at_seq rfl ?_
     refine rg rfl ?_
     refine Rq ?_
     refine Rq ?_
     have tr : ∀ a b c d e f g h i j k m : AV, let l := lc_rsplit_ok a b c d e f g h i j; trim ((7,m)::(6,k)::l) l = [(0,a),(1,b),(2,c),(6,k),(7,m),(8,f),(9,g),(17,h),(31,i),(34,j)] := by intros; rfl
     refine R_nil (tr ..) ?_; clear tr
     refine then_n ?_
     refine at_ret rfl ?_
     refine then_r ?_
     refine fpure ?_
     refine ⟨?_, rfl⟩
     have hs : splE l i t = 1 := by rw [splE, if_neg (by omega), if_pos (by omega)]
     rw [hs, splA_n (by omega)]
    ·
     try simp only [decide_eq_true_eq, decide_eq_false_iff_not, Bool.not_eq_true', Bool.not_eq_false', beq_iff_eq, beq_eq_false_iff_ne, ne_eq] at h4
     refine at_skip rfl ?_
     refine then_n ?_
     refine at_seq rfl ?_
     refine at_seq rfl ?_
     refine rg rfl ?_
     refine Rq ?_
     refine Rq ?_
     refine Rq ?_
     have tr : ∀ a b c d e f g h i j k m n : AV, let l := lc_rsplit_ok a b c d e f g h i j; trim ((34,n)::(33,m)::(32,k)::l) l = [(0,a),(1,b),(2,c),(6,d),(7,e),(8,f),(9,g),(17,h),(31,i),(34,n)] := by intros; rfl
     refine R_nil (tr ..) ?_; clear tr
     refine then_n ?_
     refine cdd (fun h5 => ?_) (fun h5 => ?_)
     ·
      try simp only [decide_eq_true_eq, decide_eq_false_iff_not, Bool.not_eq_true', Bool.not_eq_false', beq_iff_eq, beq_eq_false_iff_ne, ne_eq] at h5
      refine at_seq rfl ?_
      refine rg rfl ?_
      refine Rq ?_
      refine Rq ?_
      have tr : ∀ a b c d e f g h i j k m : AV, let l := lc_rsplit_ok a b c d e f g h i j; trim ((7,m)::(6,k)::l) l = [(0,a),(1,b),(2,c),(6,k),(7,m),(8,f),(9,g),(17,h),(31,i),(34,j)] := by intros; rfl
      refine R_nil (tr ..) ?_; clear tr
      refine then_n ?_
      refine at_ret rfl ?_
      refine then_r ?_
      refine fpure ?_
      refine ⟨?_, rfl⟩
      have hs : splE l i t = 9 := by rw [splE, if_neg (by omega), if_neg (by omega), if_pos (by omega)]
      rw [hs, splA_n (by omega)]
     ·
      try simp only [decide_eq_true_eq, decide_eq_false_iff_not, Bool.not_eq_true', Bool.not_eq_false', beq_iff_eq, beq_eq_false_iff_ne, ne_eq] at h5
      refine at_skip rfl ?_
      refine then_n ?_
      refine at_seq rfl ?_
      refine rg rfl ?_
      have hz : splE l i t = 0 := splE_0 (by omega) (by omega) (by omega)
      have hl20 : l.length < 20 := by omega
      refine A_buildSlice (bs25e _ _ _) ?_
      intro H3 n3
      have en3 := n3.len
      have q8 := (n3.old _ (hget_lt q8)).trans q8
      have q9 : hget H3 _ = some (flatS []) := n3.new
      refine Rq ?_
      refine Rq ?_
      refine R_q (r := .sl i.toNat (flatS l)) rfl (by simp (disch := first | omega | (simp only [List.length_map, List.length_append, List.length_set, List.length_cons, List.length_nil]; omega)) only [go_sem, ↓reduceIte, Nat.reduceEqDiff, reduceCtorEq] <;> exact sl_hi (by omega) (by omega)) ?_
      have lq8 := hget_lt q8
      have lq9 := hget_lt q9
      have ha := app25g (lim := H.length) (n := 0) q9 (src_sl (k := 0) (n := i.toNat) (l := l) (by omega)) (by omega) rfl (by omega)
      refine A_append (by simp (disch := first | omega | (simp only [List.length_map, List.length_append, List.length_set, List.length_cons, List.length_nil]; omega)) only [go_sem, ↓reduceIte, Nat.reduceEqDiff, reduceCtorEq, q8]; exact ha) ?_
      intro H4 g4
      have eg4 := g4.len
      have q8 := (g4.old _ (by omega) lq8).trans q8
      have q9 := g4.new
      refine Rq ?_
      have tr : ∀ a b c d e f g h i j k m n o p q : AV, let l := lc_rsplit_ok a b c d e f g h i j; trim ((9,q)::(39,p)::(38,o)::(37,n)::(36,m)::(35,k)::l) l = [(0,a),(1,b),(2,c),(6,d),(7,e),(8,f),(9,q),(17,h),(31,i),(34,j)] := by intros; rfl
      refine R_nil (tr ..) ?_; clear tr
      refine then_n ?_
      refine at_seq rfl ?_
      refine rg rfl ?_
      refine Rq ?_
      refine Rq ?_
      refine R_q rfl (by simp (disch := first | omega | (simp only [List.length_map, List.length_append, List.length_set, List.length_cons, List.length_nil]; omega)) only [go_sem, ↓reduceIte, Nat.reduceEqDiff, reduceCtorEq, q8, q9, qn] <;> rfl) ?_
      refine Rq ?_
      refine Rq ?_
      refine R_q rfl (by simp (disch := first | omega | (simp only [List.length_map, List.length_append, List.length_set, List.length_cons, List.length_nil]; omega)) only [go_sem, ↓reduceIte, Nat.reduceEqDiff, reduceCtorEq, q8, q9, qn] <;> rfl) ?_
      refine R_q (r := .agg (stC ⟨(gt l i.toNat).b, t, (gt l i.toNat).w⟩)) rfl (by simp (disch := first | omega | (simp only [List.length_map, List.length_append, List.length_set, List.length_cons, List.length_nil]; omega)) only [go_sem, ↓reduceIte, Nat.reduceEqDiff, reduceCtorEq, q8] <;> exact bld56 _ _ _) ?_
      refine Rq ?_
      refine Rq ?_
      refine R_q rfl (by simp (disch := first | omega | (simp only [List.length_map, List.length_append, List.length_set, List.length_cons, List.length_nil]; omega)) only [go_sem, ↓reduceIte, Nat.reduceEqDiff, reduceCtorEq, q8, q9, qn] <;> rfl) ?_
      refine Rq ?_
      refine R_q rfl (by simp (disch := first | omega | (simp only [List.length_map, List.length_append, List.length_set, List.length_cons, List.length_nil]; omega)) only [go_sem, ↓reduceIte, Nat.reduceEqDiff, reduceCtorEq, q8, q9, qn] <;> rfl) ?_
      refine R_q (r := .agg (stC ⟨t, (gt l i.toNat).a, (gt l i.toNat).w⟩)) rfl (by simp (disch := first | omega | (simp only [List.length_map, List.length_append, List.length_set, List.length_cons, List.length_nil]; omega)) only [go_sem, ↓reduceIte, Nat.reduceEqDiff, reduceCtorEq, q8] <;> exact bld56 _ _ _) ?_
      have lq8 := hget_lt q8
      have lq9 := hget_lt q9
      refine A_buildSlice (bs25two _ _ _ _ _ ⟨(gt l i.toNat).b, t, (gt l i.toNat).w⟩ ⟨t, (gt l i.toNat).a, (gt l i.toNat).w⟩ (by simp (disch := first | omega | (simp only [List.length_map, List.length_append, List.length_set, List.length_cons, List.length_nil]; omega)) only [go_sem, ↓reduceIte, Nat.reduceEqDiff, reduceCtorEq, q8] <;> rfl) (by simp (disch := first | omega | (simp only [List.length_map, List.length_append, List.length_set, List.length_cons, List.length_nil]; omega)) only [go_sem, ↓reduceIte, Nat.reduceEqDiff, reduceCtorEq, q8] <;> rfl)) ?_
      intro H5 n5
      have en5 := n5.len
      have q8 := (n5.old _ (hget_lt q8)).trans q8
      have q9 := (n5.old _ (hget_lt q9)).trans q9
      have qn := n5.new
      have lq8 := hget_lt q8
      have lq9 := hget_lt q9
      have lqn := hget_lt qn
      have ha2 := app25g (lim := H.length) (n := i.toNat) (m := 2) q9 (y := .own 3 H4.length 0 2) (u := [⟨(gt l i.toNat).b, t, (gt l i.toNat).w⟩, ⟨t, (gt l i.toNat).a, (gt l i.toNat).w⟩]) (by simp only [srcCells, qn]; rfl) (by omega) (by rw [List.nil_append, List.length_take]; omega) (by omega)
      refine A_append (by simp (disch := first | omega | (simp only [List.length_map, List.length_append, List.length_set, List.length_cons, List.length_nil]; omega)) only [go_sem, ↓reduceIte, Nat.reduceEqDiff, reduceCtorEq, q8]; exact ha2) ?_
      intro H6 g6
      have eg6 := g6.len
      have q8 := (g6.old _ (by omega) lq8).trans q8
      have q9 := g6.new
      refine Rq ?_
      have tr : ∀ a b c d e f g h i j k m n o p q r s t u v w x y z A : AV, let l := lc_rsplit_ok a b c d e f g h i j; trim ((9,A)::(54,z)::(53,y)::(52,x)::(51,w)::(50,v)::(49,u)::(48,t)::(47,s)::(46,r)::(45,q)::(44,p)::(43,o)::(42,n)::(41,m)::(40,k)::l) l = [(0,a),(1,b),(2,c),(6,d),(7,e),(8,f),(9,A),(17,h),(31,i),(34,j)] := by intros; rfl
      refine R_nil (tr ..) ?_; clear tr
      refine then_n ?_
      refine at_seq rfl ?_
      refine rg rfl ?_
      refine Rq ?_
      refine Rq ?_
      refine Rq ?_
      refine R_q (r := AV.i (i + 1)) rfl (by simp (disch := first | omega | (simp only [List.length_map, List.length_append, List.length_set, List.length_cons, List.length_nil]; omega)) only [go_sem, ↓reduceIte, Nat.reduceEqDiff, reduceCtorEq] <;> rfl) ?_
      refine R_q (r := stopsAV (l.drop (i + 1).toNat)) rfl (by simp (disch := first | omega | (simp only [List.length_map, List.length_append, List.length_set, List.length_cons, List.length_nil]; omega)) only [go_sem, ↓reduceIte, Nat.reduceEqDiff, reduceCtorEq] <;> exact sl_lo (by omega) (by omega)) ?_
      have lq8 := hget_lt q8
      have lq9 := hget_lt q9
      have ha3 := app25g (lim := H.length) (n := i.toNat + 2) q9 (src_all (l.drop (i + 1).toNat)) (by omega) (by simp; omega) (by simp; omega)
      refine A_append (by simp (disch := first | omega | (simp only [List.length_map, List.length_append, List.length_set, List.length_cons, List.length_nil]; omega)) only [go_sem, ↓reduceIte, Nat.reduceEqDiff, reduceCtorEq, q8]; exact ha3) ?_
      intro H7 g7
      have eg7 := g7.len
      have q8 := (g7.old _ (by omega) lq8).trans q8
      have q9 := g7.new
      refine Rq ?_
      refine Rq ?_
      have tr : ∀ a b c d e f g h i j k m n o p q r s : AV, let l := lc_rsplit_ok a b c d e f g h i j; trim ((7,s)::(6,r)::(60,q)::(59,p)::(58,o)::(57,n)::(56,m)::(55,k)::l) l = [(0,a),(1,b),(2,c),(6,r),(7,s),(8,f),(9,g),(17,h),(31,i),(34,j)] := by intros; rfl
      refine R_nil (tr ..) ?_; clear tr
      refine then_n ?_
      refine at_ret rfl ?_
      have e : [] ++ l.take i.toNat ++ [⟨(gt l i.toNat).b, t, (gt l i.toNat).w⟩, ⟨t, (gt l i.toNat).a, (gt l i.toNat).w⟩] ++ l.drop (i + 1).toNat = spl l i.toNat t := by rw [show (i + 1).toNat = i.toNat + 1 by omega]; rfl
      rewrite [e] at q9
      have e2 : i.toNat + 2 + (l.drop (i + 1).toNat).length = (spl l i.toNat t).length := by rw [← e]; simp; omega
      refine fin_pure (rs := [.tmp 6, .tmp 7]) rfl (by simp (disch := first | omega | (simp only [List.length_map, List.length_append, List.length_set, List.length_cons, List.length_nil]; omega)) only [go_sem, ↓reduceIte, Nat.reduceEqDiff, reduceCtorEq] <;> rfl) (v := .tup [stopsAV (spl l i.toNat t), AV.i 0]) (by show AV.tup [frz _ _ 7 (.own 3 _ 0 _), AV.i 0] = _; rw [frz_own3' (by omega) q9, List.drop_zero, frz_flatS, e2]) ?_
      refine ⟨?_, rfl⟩
      rw [hz, splA_0 hz]

end Go.Proofs.Ytaoondlakhocnaa
end
