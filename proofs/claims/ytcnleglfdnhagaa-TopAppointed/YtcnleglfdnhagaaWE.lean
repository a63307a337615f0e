/-
  Walks of chapter 55. The steps are written by program (walk.py).
-/
import Derived.Test.YtcnleglfdnhagaaMv
import Derived.Test.YtcnleglfdnhagaaSig
set_option linter.unusedSimpArgs false
set_option linter.unusedVariables false
set_option maxHeartbeats 4000000
set_option maxRecDepth 20000
namespace Go.Proofs.Ytcnleglfdnhagaa
open Go Go.Am
abbrev lc_copied_w (a b c d e f g h : AV) : Env := [(0,a),(2,b),(3,c),(5,d),(21,e),(22,f),(23,g),(24,h)]
theorem copied_w (lim b bm bn bu : Nat) (rs : List Nat) (may : List (List Bool)) (need used : List Int) (H : Heap) (S : Sta H b bm bn bu rs may used.length need) (hqu : hget H bu = some (used.map AV.i)) (hlim : lim ≤ H.length) (h0 : 0 < may.length) (hk : may.length ≤ 100) (hn0 : 0 < need.length) (hn1 : need.length ≤ 1000) (hu0 : 0 < used.length) (hu1 : used.length ≤ 1000) : ACall sig lim 25 [.ptr b 0] H fun r H' => CopyOK H H' r may need used := by
 have hst := S.st
 have hms := S.ms
 have hrl := S.rl
 have hst2 : True := trivial
 have hbl := S.lt
 refine ACall_own (fa := fa25) rfl rfl rfl rfl ?_
 have tr : ∀ a0 : AV, env0 fa25.keep [a0] = [(0,a0),(2,.any),(3,.any),(5,.any),(21,.any),(22,.any),(23,.any),(24,.any)] := fun a0 => rfl
 refine W_to (tr _) ?_; clear tr
 refine at_seq rfl ?_
 refine rg rfl ?_
 refine Rq ?_
 have tr : ∀ a b c d e f g h i : AV, let l := lc_copied_w a b c d e f g h; trim ((2,i)::l) l = [(0,a),(2,i),(3,c),(5,d),(21,e),(22,f),(23,g),(24,h)] := by intros; rfl
 refine R_nil (tr ..) ?_; clear tr
 refine then_n ?_
 refine at_seq rfl ?_
 refine rl rfl rfl ?_
 refine Lq ?_
 refine Lq ?_
 refine Lq ?_
 refine L_q rfl (by simp (disch := first | omega | (simp only [List.length_map, List.length_append, List.length_set, List.length_cons, List.length_nil]; omega)) only [go_sem, ↓reduceIte, Nat.reduceEqDiff, reduceCtorEq, hst, hms, hst2]; rfl) rfl ?_
 refine Lq ?_
 refine Lq ?_
 refine Lq ?_
 refine L_q rfl (by simp (disch := first | omega | (simp only [List.length_map, List.length_append, List.length_set, List.length_cons, List.length_nil]; omega)) only [go_sem, ↓reduceIte, Nat.reduceEqDiff, reduceCtorEq, hst, hms, hst2]; rfl) rfl ?_
 refine L_nil ?_
 refine Mc ?_
 refine Rcall ?_
 refine ACall_mono (clone24 _ _ bn need hn0 hn1 S.nd hlim) ?_
 rintro _ H3 ⟨bn2, rfl, g3, q3, k3, l3⟩
 refine R_end ?_
 refine ⟨stay_low k3, ?_⟩
 refine M_nil ?_
 refine Rcall ?_
 refine ACall_mono (clone24 _ _ bu used hu0 hu1 ((k3 _ (hget_lt hqu)).trans hqu) (by omega)) ?_
 rintro _ H4 ⟨bu2, rfl, g4, q4, k4, l4⟩
 refine Rq ?_
 refine A_box rfl (by simp (disch := first | omega | (simp only [List.length_map, List.length_append, List.length_set, List.length_cons, List.length_nil]; omega)) only [go_sem, ↓reduceIte, Nat.reduceEqDiff, reduceCtorEq, hst, hms, hst2]; rfl) ?_
 intro H5 n5
 have e5 := n5.len
 have W0 : CpW H H5 may need used H4.length bn2 bu2 0 nilI [] := ⟨n5.new, (n5.old _ (by have := hget_lt q4; have := hget_lt q3; omega)).trans ((k4 _ (hget_lt q3)).trans q3), (n5.old _ (hget_lt q4)).trans q4, .inl ⟨rfl, rfl⟩, rfl, fun i hi => absurd hi (Nat.not_lt_zero _), fun i hi => absurd hi (Nat.not_lt_zero _), fun z c o n h => (by cases h), fun i j hi => absurd hi (Nat.not_lt_zero _), ⟨by omega, g3, by omega⟩, ⟨by have := hget_lt q3; omega, by have := hget_lt q4; omega, by have := hget_lt q3; omega⟩, fun c hc => (n5.old c (by omega)).trans ((k4 c (by omega)).trans (k3 c hc)), by omega⟩
 have hst := (n5.old _ (by have := hget_lt hst; omega)).trans ((k4 _ (by have := hget_lt hst; omega)).trans ((k3 _ (hget_lt hst)).trans hst))
 refine Rq ?_
 have tr : ∀ a b c d e f g h i j k m n o p q r s t u v : AV, let l := lc_copied_w a b c d e f g h; trim ((3,v)::(17,u)::(16,t)::(15,s)::(10,r)::(14,q)::(13,p)::(12,o)::(11,n)::(9,m)::(8,k)::(7,j)::(6,i)::l) l = [(0,a),(2,b),(3,v),(5,d),(21,e),(22,f),(23,g),(24,h)] := by intros; rfl
 refine R_nil (tr ..) ?_; clear tr
 refine then_n ?_
 refine at_seq rfl ?_
 refine at_seq rfl ?_
 refine rg rfl ?_
 refine Rq ?_
 refine Rq ?_
 refine Rq ?_
 refine R_q rfl (by simp (disch := first | omega | (simp only [List.length_map, List.length_append, List.length_set, List.length_cons, List.length_nil]; omega)) only [go_sem, ↓reduceIte, Nat.reduceEqDiff, reduceCtorEq, hst, hms, hst2]; rfl) ?_
 refine Rq ?_
 refine Rq ?_
 have tr : ∀ a b c d e f g h i j k m n o : AV, let l := lc_copied_w a b c d e f g h; trim ((23,o)::(22,n)::(21,m)::(20,k)::(19,j)::(18,i)::l) l = [(0,a),(2,b),(3,c),(5,d),(21,m),(22,n),(23,o),(24,h)] := by intros; rfl
 refine R_nil (tr ..) ?_; clear tr
 refine then_n ?_
 refine at_block rfl ?_
 refine loop_n rfl (fun mm kv H' => ∃ m : Nat, ∃ oM : AV, ∃ rs2 : List Nat, ∃ x5 x24 : AV, (kv = [(5, x5), (23, AV.i (m : Int)), (24, x24)]) ∧ (mm = may.length - m) ∧ (CpW H H' may need used H4.length bn2 bu2 m oM rs2) ∧ (m ≤ may.length)) ⟨0, nilI, [], _, _, rfl, rfl, by exact W0, by omega⟩ (by rfl) ?_
 rintro mm kv H1 ⟨m, oM, rs2, x5, x24, rfl, rfl, W1, hm⟩
 have tr : ∀ a b c d e f g h i j k : AV, upd [(0,a),(2,b),(3,c),(5,d),(21,e),(22,f),(23,g),(24,h)] [(5,i),(23,j),(24,k)] = [(0,a),(2,b),(3,c),(5,i),(21,e),(22,f),(23,j),(24,k)] := by intros; rfl
 refine W_to (tr ..) ?_; clear tr
 have hl1 := W1.len
 have hst := (W1.old _ hbl.1).trans S.st
 have hms := (W1.old _ hbl.2.1).trans S.ms
 have hst2 := W1.st
 have hb2 := hget_lt W1.st
 refine at_seq rfl ?_
 refine rg rfl ?_
 refine Rq ?_
 have tr : ∀ a b c d e f g h i : AV, let l := lc_copied_w a b c d e f g h; trim ((24,i)::l) l = [(0,a),(2,b),(3,c),(5,d),(21,e),(22,f),(23,g),(24,i)] := by intros; rfl
 refine R_nil (tr ..) ?_; clear tr
 refine then_n ?_
 refine at_seq rfl ?_
 refine cdd (fun h1 => ?_) (fun h1 => ?_)
 ·
  try simp only [decide_eq_true_eq, decide_eq_false_iff_not, Bool.not_eq_true', Bool.not_eq_false', beq_iff_eq, beq_eq_false_iff_ne, ne_eq] at h1
  refine at_skip rfl ?_
  refine then_n ?_
  refine at_seq rfl ?_
  refine at_block rfl ?_
  refine at_seq rfl ?_
  refine rg rfl ?_
  refine Rq ?_
  refine R_q rfl (by simp (disch := first | omega | (simp only [List.length_map, List.length_append, List.length_set, List.length_cons, List.length_nil]; omega)) only [go_sem, ↓reduceIte, Nat.reduceEqDiff, reduceCtorEq, hst, hms, hst2]; rfl) ?_
  refine Rq ?_
  have tr : ∀ a b c d e f g h i j k : AV, let l := lc_copied_w a b c d e f g h; trim ((5,k)::(26,j)::(25,i)::l) l = [(0,a),(2,b),(3,c),(5,k),(21,e),(22,f),(23,g),(24,h)] := by intros; rfl
  refine R_nil (tr ..) ?_; clear tr
  refine then_n ?_
  refine rl rfl rfl ?_
  have hrow := S.rw m (by omega)
  refine Lq ?_
  refine Lq ?_
  refine Lq ?_
  refine Lq ?_
  refine L_q rfl (by simp (disch := first | omega | (simp only [List.length_map, List.length_append, List.length_set, List.length_cons, List.length_nil]; omega)) only [go_sem, ↓reduceIte, Nat.reduceEqDiff, reduceCtorEq, hst, hms, hst2]; rfl) rfl ?_
  refine Lq ?_
  refine L_nil ?_
  refine Mc ?_
  refine Rcall ?_
  have hc40 := clone40 lim H1 (gt rs m) (gt may m) (by rw [hrow.2]; exact hu0) (by rw [hrow.2]; exact hu1) ((W1.old _ (hbl.2.2.2 m (by omega))).trans hrow.1) (by omega)
  rw [hrow.2] at hc40
  refine ACall_mono hc40 ?_
  rintro _ HR ⟨r2, rfl, gr, qr, kr, lr⟩
  refine R_end ?_
  refine ⟨stay_low kr, ?_⟩
  refine Ms ?_
  refine A_buildSlice (bs59 _ _ _ _ r2 used.length (by simp (disch := first | omega | (simp only [List.length_map, List.length_append, List.length_set, List.length_cons, List.length_nil]; omega)) only [go_sem, ↓reduceIte, Nat.reduceEqDiff, reduceCtorEq, hst, hms, hst2])) ?_
  intro HB nB
  have eB := nB.len
  refine R_end ?_
  refine Ms ?_ (wrC_append (fun z c o n h => by simp only [go_sem, ↓reduceIte, Nat.reduceEqDiff] at h; have h9 := W1.oa z c o n h; simp [rdV, isLoad, go_sem]; exact h9.1))
  obtain ⟨cb, hcl, hcb, hcb3, HK, hap, gK⟩ := outR_append3 (lim := lim) (r := r2) (n := used.length) (W1.rM.mono (fun c _ hc => (nB.old c (by omega)).trans (kr c hc))) nB.new (by omega) (by omega) (by have := W1.rl; omega)
  rw [W1.rl] at hap
  have hcb9 : cb ≠ H4.length ∧ cb ≠ bn2 ∧ cb ≠ bu2 := by
    rcases hcb3 with h | h
    · have := hget_lt W1.hn; have := hget_lt W1.hu; exact ⟨by omega, by omega, by omega⟩
    · exact W1.oa _ _ _ _ h
  refine A_append ⟨HK, by simp (disch := first | omega | (simp only [List.length_map, List.length_append, List.length_set, List.length_cons, List.length_nil]; omega)) only [go_sem, ↓reduceIte, Nat.reduceEqDiff, reduceCtorEq, hst, hms, hst2]; exact hap, gK⟩ ?_
  intro HL gL
  have eL := gL.len
  refine R_end ?_
  refine M_nil ?_
  refine Rq ?_
  refine Rq ?_
  refine A_store ty59 (by simp (disch := first | omega | (simp only [List.length_map, List.length_append, List.length_set, List.length_cons, List.length_nil]; omega)) only [go_sem, ↓reduceIte, Nat.reduceEqDiff, reduceCtorEq, hst, hms, hst2] <;> rfl) (by simp (disch := first | omega | (simp only [List.length_map, List.length_append, List.length_set, List.length_cons, List.length_nil]; omega)) only [go_sem, ↓reduceIte, Nat.reduceEqDiff, reduceCtorEq, hst, hms, hst2] <;> rfl) ((gL.old _ (Ne.symm hcb9.1) (by omega)).trans ((nB.old _ (by omega)).trans ((kr _ hb2).trans W1.st))) ⟨by have := W1.lb; omega, rfl, by simp⟩ (k' := _) (by rw [setL_one] <;> rfl) ?_
  intro HM wM
  have W2 := cp_row W1 kr (by omega) gr qr nB hcl hcb hcb9 gL wM
  have tr : ∀ a b c d e f g h i j k m n o p q r s t : AV, let l := lc_copied_w a b c d e f g h; trim ((37,t)::(36,s)::(35,r)::(34,q)::(33,p)::(32,o)::(31,n)::(30,m)::(29,k)::(28,j)::(27,i)::l) l = [(0,a),(2,b),(3,c),(5,d),(21,e),(22,f),(23,g),(24,h)] := by intros; rfl
  refine R_nil (tr ..) ?_; clear tr
  refine blk_n ?_
  refine then_n ?_
  refine rg rfl ?_
  refine Rq ?_
  refine Rq ?_
  have tr : ∀ a b c d e f g h i j : AV, let l := lc_copied_w a b c d e f g h; trim ((23,j)::(38,i)::l) l = [(0,a),(2,b),(3,c),(5,d),(21,e),(22,f),(23,j),(24,h)] := by intros; rfl
  refine R_nil (tr ..) ?_; clear tr
  refine then_n ?_
  exact ⟨_, _, ⟨m + 1, .own 1 HB.length 0 (m + 1), rs2 ++ [r2], _, _, rfl, rfl, by exact W2, by omega⟩, by rfl, by omega⟩
 ·
  try simp only [decide_eq_true_eq, decide_eq_false_iff_not, Bool.not_eq_true', Bool.not_eq_false', beq_iff_eq, beq_eq_false_iff_ne, ne_eq] at h1
  refine at_exit rfl ?_
  refine then_x ?_
  refine then_x ?_
  refine blk_x ?_
  refine then_n ?_
  refine at_seq rfl ?_
  refine rg rfl ?_
  refine Rq ?_
  refine Rq ?_
  have tr : ∀ a b c d e f g h i j : AV, let l := lc_copied_w a b c d e f g h; trim ((2,j)::(39,i)::l) l = [(0,a),(2,j),(3,c),(5,d),(21,e),(22,f),(23,g),(24,h)] := by intros; rfl
  refine R_nil (tr ..) ?_; clear tr
  refine then_n ?_
  refine at_ret rfl ?_
  refine fin_own rfl (by simp only [go_sem, ↓reduceIte, Nat.reduceEqDiff]; rfl) ?_
  obtain rfl : m = may.length := by omega
  exact copy_ok W1 h0 (fun i hi => (S.rw i hi).2)

end Go.Proofs.Ytcnleglfdnhagaa
