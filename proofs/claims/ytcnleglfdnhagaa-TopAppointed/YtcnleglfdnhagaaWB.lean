/-
  Walks of chapter 55. The steps are written by program (walk.py).
-/
import Derived.Test.YtcnleglfdnhagaaMx
import Derived.Test.YtcnleglfdnhagaaSig
set_option linter.unusedSimpArgs false
set_option linter.unusedVariables false
set_option maxHeartbeats 4000000
set_option maxRecDepth 20000
namespace Go.Proofs.Ytcnleglfdnhagaa
open Go Go.Am
abbrev lc_fill_w (a b c d e f g h i j k m n : AV) : Env := [(0,a),(2,b),(3,c),(4,d),(5,e),(9,f),(10,g),(11,h),(12,i),(16,j),(17,k),(18,m),(28,n)]
theorem fill_w (lim b bm bn bu : Nat) (rs : List Nat) (may : List (List Bool)) (n : Nat) (need used : List Int) (H : Heap) (P : FiPre lim H b bm bn bu rs may n need used) :
    ACall sig lim 12 [.ptr b 0] H fun r H' => OutI H.length H' r (fillS may need 0 used []).1 ∧ FiW H H' bu (fillS may need 0 used []).2 := by
 have hst := P.sta.st
 have hnd := P.sta.nd
 have hqu := P.hu
 have hlu := P.lu
 have hkl := P.kl
 have hnl := P.nl
 have hmn := P.mn
 have hbl := hget_lt P.hu
 obtain ⟨R, hR⟩ : ∃ R, R = fillS may need 0 used [] := ⟨_, rfl⟩
 rw [← hR]
 refine ACall_own (fa := fa12) rfl rfl rfl rfl ?_
 have tr : ∀ a0 : AV, env0 fa12.keep [a0] = [(0,a0),(2,.any),(3,.any),(4,.any),(5,.any),(9,.any),(10,.any),(11,.any),(12,.any),(16,.any),(17,.any),(18,.any),(28,.any)] := fun a0 => rfl
 refine W_to (tr _) ?_; clear tr
 refine at_seq rfl ?_
 refine rg rfl ?_
 refine Rq ?_
 have tr : ∀ a b c d e f g h i j k m n o : AV, let l := lc_fill_w a b c d e f g h i j k m n; trim ((2,o)::l) l = [(0,a),(2,o),(3,c),(4,d),(5,e),(9,f),(10,g),(11,h),(12,i),(16,j),(17,k),(18,m),(28,n)] := by intros; rfl
 refine R_nil (tr ..) ?_; clear tr
 refine then_n ?_
 refine at_seq rfl ?_
 refine rg rfl ?_
 refine Rq ?_
 have tr : ∀ a b c d e f g h i j k m n o : AV, let l := lc_fill_w a b c d e f g h i j k m n; trim ((3,o)::l) l = [(0,a),(2,b),(3,o),(4,d),(5,e),(9,f),(10,g),(11,h),(12,i),(16,j),(17,k),(18,m),(28,n)] := by intros; rfl
 refine R_nil (tr ..) ?_; clear tr
 refine then_n ?_
 refine at_seq rfl ?_
 refine at_seq rfl ?_
 refine rg rfl ?_
 refine Rq ?_
 refine Rq ?_
 refine Rq ?_
 refine R_q rfl (by simp (disch := first | omega | (simp only [List.length_map, List.length_append, List.length_set, List.length_cons, List.length_nil]; omega)) only [go_sem, ↓reduceIte, Nat.reduceEqDiff, reduceCtorEq, hst, hnd, hqu]; rfl) ?_
 refine Rq ?_
 refine Rq ?_
 have tr : ∀ a b c d e f g h i j k m n o p q r s t : AV, let l := lc_fill_w a b c d e f g h i j k m n; trim ((11,t)::(10,s)::(9,r)::(8,q)::(7,p)::(6,o)::l) l = [(0,a),(2,b),(3,c),(4,d),(5,e),(9,r),(10,s),(11,t),(12,i),(16,j),(17,k),(18,m),(28,n)] := by intros; rfl
 refine R_nil (tr ..) ?_; clear tr
 refine then_n ?_
 refine at_block rfl ?_
 refine loop_n rfl (fun mm kv H' => ∃ m : Nat, ∃ o : AV, ∃ used1 : List Int, ∃ lack1 : List Int, ∃ x4 x5 x12 x16 x17 x18 x28 : AV, (kv = [(3, o), (4, x4), (5, x5), (11, AV.i (m : Int)), (12, x12), (16, x16), (17, x17), (18, x18), (28, x28)]) ∧ (mm = need.length - m) ∧ (FiW H H' bu used1) ∧ (OutI H.length H' o lack1) ∧ (m ≤ need.length) ∧ (used1.length = n) ∧ (Rng used1 may.length) ∧ (Valid may used1) ∧ (fillS may (need.drop m) m used1 lack1 = R) ∧ (lack1.length ≤ m)) ⟨0, _, used, [], _, _, _, _, _, _, _, rfl, rfl, by exact ⟨hqu, fun _ _ _ => rfl, Nat.le_refl _⟩, by exact .inl ⟨rfl, rfl⟩, by omega, by exact hlu, by exact P.rng, by exact P.val, by exact hR.symm, by exact Nat.zero_le _⟩ (by rfl) ?_
 rintro mm kv H1 ⟨m, o, used1, lack1, x4, x5, x12, x16, x17, x18, x28, rfl, rfl, W1, hO, hm, hl1, hr1, hv1, hfs, hll⟩
 have tr : ∀ a b c d e f g h i j k m n o p q r s t u v w : AV, upd [(0,a),(2,b),(3,c),(4,d),(5,e),(9,f),(10,g),(11,h),(12,i),(16,j),(17,k),(18,m),(28,n)] [(3,o),(4,p),(5,q),(11,r),(12,s),(16,t),(17,u),(18,v),(28,w)] = [(0,a),(2,b),(3,o),(4,p),(5,q),(9,f),(10,g),(11,r),(12,s),(16,t),(17,u),(18,v),(28,w)] := by intros; rfl
 refine W_to (tr ..) ?_; clear tr
 have hS1 := P.sta.fi W1
 have hst := hS1.st
 have hnd := hS1.nd
 have hqu := W1.hu
 have hH1 := W1.len
 refine at_seq rfl ?_
 refine rg rfl ?_
 refine Rq ?_
 have tr : ∀ a b c d e f g h i j k m n o : AV, let l := lc_fill_w a b c d e f g h i j k m n; trim ((12,o)::l) l = [(0,a),(2,b),(3,c),(4,d),(5,e),(9,f),(10,g),(11,h),(12,o),(16,j),(17,k),(18,m),(28,n)] := by intros; rfl
 refine R_nil (tr ..) ?_; clear tr
 refine then_n ?_
 refine at_seq rfl ?_
 refine cdd (fun h1 => ?_) (fun h1 => ?_)
 ·
  try simp only [decide_eq_true_eq, decide_eq_false_iff_not, Bool.not_eq_true', Bool.not_eq_false', beq_iff_eq, beq_eq_false_iff_ne, ne_eq] at h1
  refine at_skip rfl ?_
  refine then_n ?_
  refine at_seq rfl ?_
  refine at_block rfl ?_
  refine at_seq rfl ?_
  refine rg rfl ?_
  refine Rq ?_
  refine Rq ?_
  refine R_q rfl (by simp (disch := first | omega | (simp only [List.length_map, List.length_append, List.length_set, List.length_cons, List.length_nil]; omega)) only [go_sem, ↓reduceIte, Nat.reduceEqDiff, reduceCtorEq, hst, hnd, hqu]; rfl) ?_
  refine Rq ?_
  refine Rq ?_
  have tr : ∀ a b c d e f g h i j k m n o p q r s : AV, let l := lc_fill_w a b c d e f g h i j k m n; trim ((5,s)::(4,r)::(15,q)::(14,p)::(13,o)::l) l = [(0,a),(2,b),(3,c),(4,r),(5,s),(9,f),(10,g),(11,h),(12,i),(16,j),(17,k),(18,m),(28,n)] := by intros; rfl
  refine R_nil (tr ..) ?_; clear tr
  refine then_n ?_
  refine at_seq rfl ?_
  refine rg rfl ?_
  refine Rq ?_
  refine Rq ?_
  have tr : ∀ a b c d e f g h i j k m n o p : AV, let l := lc_fill_w a b c d e f g h i j k m n; trim ((17,p)::(16,o)::l) l = [(0,a),(2,b),(3,c),(4,d),(5,e),(9,f),(10,g),(11,h),(12,i),(16,o),(17,p),(18,m),(28,n)] := by intros; rfl
  refine R_nil (tr ..) ?_; clear tr
  refine then_n ?_
  refine at_block rfl ?_
  refine loop_n rfl (fun mm kv H' => ∃ j : Nat, ∃ used2 : List Int, ∃ x18 x28 : AV, (kv = [(3, o), (17, AV.i (j : Int)), (18, x18), (28, x28)]) ∧ (mm = (gt need m).toNat - j) ∧ (FiW H H' bu used2) ∧ (OutI H.length H' o lack1) ∧ (j ≤ (gt need m).toNat) ∧ (used2.length = n) ∧ (Rng used2 may.length) ∧ (Valid may used2) ∧ (fillM may (m : Int) ((gt need m).toNat - j) used2 = fillM may (m : Int) (gt need m).toNat used1)) ⟨0, used1, _, _, rfl, rfl, by exact W1, by exact hO, by omega, by exact hl1, by exact hr1, by exact hv1, by rfl⟩ (by rfl) ?_
  rintro mm kv H2 ⟨j, used2, x18, x28, rfl, rfl, W2, hO2, hj, hl2, hr2, hv2, hfm⟩
  have tr : ∀ a b c d e f g h i j k m n o p q r : AV, upd [(0,a),(2,b),(3,c),(4,d),(5,e),(9,f),(10,g),(11,h),(12,i),(16,j),(17,k),(18,m),(28,n)] [(3,o),(17,p),(18,q),(28,r)] = [(0,a),(2,b),(3,o),(4,d),(5,e),(9,f),(10,g),(11,h),(12,i),(16,j),(17,p),(18,q),(28,r)] := by intros; rfl
  refine W_to (tr ..) ?_; clear tr
  have hS2 := P.sta.fi W2
  have hst := hS2.st
  have hnd := hS2.nd
  have hqu := W2.hu
  have hH2 := W2.len
  have hne := P.nr m
  refine at_seq rfl ?_
  refine rg rfl ?_
  refine Rq ?_
  have tr : ∀ a b c d e f g h i j k m n o : AV, let l := lc_fill_w a b c d e f g h i j k m n; trim ((18,o)::l) l = [(0,a),(2,b),(3,c),(4,d),(5,e),(9,f),(10,g),(11,h),(12,i),(16,j),(17,k),(18,o),(28,n)] := by intros; rfl
  refine R_nil (tr ..) ?_; clear tr
  refine then_n ?_
  refine at_seq rfl ?_
  refine cdd (fun h2 => ?_) (fun h2 => ?_)
  ·
   try simp only [decide_eq_true_eq, decide_eq_false_iff_not, Bool.not_eq_true', Bool.not_eq_false', beq_iff_eq, beq_eq_false_iff_ne, ne_eq] at h2
   refine at_skip rfl ?_
   refine then_n ?_
   refine at_seq rfl ?_
   refine at_block rfl ?_
   refine at_seq rfl ?_
   refine rg rfl ?_
   refine Rq ?_
   refine Rq ?_
   refine Rq ?_
   refine Rq ?_
   refine Rq ?_
   refine R_q rfl (by simp (disch := first | omega | (simp only [List.length_map, List.length_append, List.length_set, List.length_cons, List.length_nil]; omega)) only [go_sem, ↓reduceIte, Nat.reduceEqDiff, reduceCtorEq, hst, hnd, hqu]; rfl) ?_
   refine Rq ?_
   refine A_makeSlice (ms62 _ _ (n : Int) _ _ _ (by omega) (by omega) (by simp (disch := first | omega | (simp only [List.length_map, List.length_append, List.length_set, List.length_cons, List.length_nil]; omega)) only [go_sem, ↓reduceIte, Nat.reduceEqDiff, reduceCtorEq, hst, hnd, hqu]) (by simp (disch := first | omega | (simp only [List.length_map, List.length_append, List.length_set, List.length_cons, List.length_nil]; omega)) only [go_sem, ↓reduceIte, Nat.reduceEqDiff, reduceCtorEq, hst, hnd, hqu])) ?_
   intro HA nA
   rw [Int.toNat_natCast] at nA ⊢
   refine Rcall ?_
   have hP := place_w lim (n + 1) b bm bn bu H2.length rs may n need used2 (List.replicate n false) m HA ⟨hS2.fi (w := ⟨(nA.old _ (by omega)).trans hqu, fun c _ hc => nA.old c hc, by rw [nA.len]; omega⟩), (nA.old _ (by omega)).trans hqu, hl2, nA.new, by simp, hS2.off (Nat.le_refl _) (by omega), by omega, hr2, P.lb, by have := P.lh; omega, by rw [un_rep]; omega, hkl, hnl⟩
   refine ACall_mono hP ?_
   have hok := place_ok (may := may) (fun u => (hr2 u).1) (n + 1) (m : Int) (List.replicate n false) (by omega) (by simp [hl2]) (by rw [un_rep]; omega)
   obtain ⟨Q, hQ⟩ : ∃ Q, Q = placeF may (n + 1) (m : Int) used2 (List.replicate n false) := ⟨_, rfl⟩
   rw [← hQ] at hok ⊢
   rintro _ H3 ⟨rfl, W⟩
   have WE : FiW H H3 bu Q.2.1 := ⟨W.hu, fun c h1 h2 => (W.keep c h1 (by omega)).trans ((nA.old c (by omega)).trans (W2.keep c h1 h2)), by rw [W.len, nA.len]; omega⟩
   have OE : OutI H.length H3 o lack1 := hO2.mono2 (fun c h1 h2 => (W.keep c (by omega) (by omega)).trans (nA.old c (by omega)))
   have hle : Q.2.1.length = n := by rw [hok.lu]; exact hl2
   have hH3 := W.len
   have hHA := nA.len
   refine Rq ?_
   have tr : ∀ a b c d e f g h i j k m n o p q r s t u v w x : AV, let l := lc_fill_w a b c d e f g h i j k m n; trim ((28,x)::(27,w)::(26,v)::(25,u)::(24,t)::(23,s)::(22,r)::(21,q)::(20,p)::(19,o)::l) l = [(0,a),(2,b),(3,c),(4,d),(5,e),(9,f),(10,g),(11,h),(12,i),(16,j),(17,k),(18,m),(28,x)] := by intros; rfl
   refine R_nil (tr ..) ?_; clear tr
   refine then_n ?_
   refine cdd (fun h3 => ?_) (fun h3 => ?_)
   ·
    try simp only [decide_eq_true_eq, decide_eq_false_iff_not, Bool.not_eq_true', Bool.not_eq_false', beq_iff_eq, beq_eq_false_iff_ne, ne_eq] at h3
    refine at_seq rfl ?_
    refine rg rfl ?_
    have hf1 : Q.1 = false := by assumption
    have hsm := hok.same hf1
    have hre : Rng Q.2.1 may.length := by rw [hsm]; exact hr2
    have hve : Valid may Q.2.1 := by rw [hsm]; exact hv2
    have hfe : fillS may (need.drop (m + 1)) (m + 1) Q.2.1 (lack1 ++ [(m : Int)]) = R := by
      rw [fillS_s (by omega), ← hfm, fillM_n (by omega) (by rw [hl2, ← hQ]; exact hf1), hl2, ← hQ] at hfs
      exact hfs
    have hlk : (lack1 ++ [(m : Int)]).length ≤ m + 1 := by simp; omega
    refine Rq ?_
    refine Rq ?_
    refine A_buildSlice (bs25 _ _ _ _ (m : Int) (by simp (disch := first | omega | (simp only [List.length_map, List.length_append, List.length_set, List.length_cons, List.length_nil]; omega)) only [go_sem, ↓reduceIte, Nat.reduceEqDiff, reduceCtorEq, hst, hnd, hqu])) ?_
    intro HB nB
    obtain ⟨cb, hcb, HC, hap, gC⟩ := outI_append (lim := lim) (v := (m : Int)) (OE.mono2 (fun c h1 h2 => nB.old c h2)) nB.new P.lh (by have := nB.len; omega) (by omega)
    refine A_append ⟨HC, by simp (disch := first | omega | (simp only [List.length_map, List.length_append, List.length_set, List.length_cons, List.length_nil]; omega)) only [go_sem, ↓reduceIte, Nat.reduceEqDiff, reduceCtorEq, hst, hnd, hqu]; exact hap, gC⟩ ?_
    intro HD gD
    have hHD := gD.len
    have hHB := nB.len
    have WE2 : FiW H HD bu Q.2.1 := ⟨(gD.old _ (by omega) (by omega)).trans ((nB.old _ (by omega)).trans WE.hu), fun c h1 h2 => (gD.old _ (by omega) (by omega)).trans ((nB.old _ (by omega)).trans (WE.keep c h1 h2)), by omega⟩
    have OE2 : OutI H.length HD (.own 1 HB.length 0 (lack1.length + 1)) (lack1 ++ [(m : Int)]) := OutI.new gD.new (by omega) (by simp)
    refine Rq ?_
    have tr : ∀ a b c d e f g h i j k m n o p q r s : AV, let l := lc_fill_w a b c d e f g h i j k m n; trim ((3,s)::(32,r)::(31,q)::(30,p)::(29,o)::l) l = [(0,a),(2,b),(3,s),(4,d),(5,e),(9,f),(10,g),(11,h),(12,i),(16,j),(17,k),(18,m),(28,n)] := by intros; rfl
    refine R_nil (tr ..) ?_; clear tr
    refine then_n ?_
    refine at_exit rfl ?_
    refine blk_p (by decide) ?_
    refine then_x ?_
    refine then_x ?_
    refine blk_x ?_
    refine blk_n ?_
    refine then_n ?_
    refine rg rfl ?_
    refine Rq ?_
    refine Rq ?_
    have tr : ∀ a b c d e f g h i j k m n o p : AV, let l := lc_fill_w a b c d e f g h i j k m n; trim ((11,p)::(34,o)::l) l = [(0,a),(2,b),(3,c),(4,d),(5,e),(9,f),(10,g),(11,p),(12,i),(16,j),(17,k),(18,m),(28,n)] := by intros; rfl
    refine R_nil (tr ..) ?_; clear tr
    refine then_n ?_
    exact ⟨_, _, ⟨m + 1, .own 1 HB.length 0 (lack1.length + 1), Q.2.1, lack1 ++ [(m : Int)], _, _, _, _, _, _, _, rfl, rfl, by first | exact WE2 | exact W2, by first | exact OE2 | exact hO2, by omega, by first | exact hle | exact hl2, by first | exact hre | exact hr2, by first | exact hve | exact hv2, by first | exact hfe | (rw [fillS_s (by omega), ← hfm, fillM_z (by omega)] at hfs; exact hfs), by first | exact hlk | omega⟩, by rfl, by omega⟩
   ·
    try simp only [decide_eq_true_eq, decide_eq_false_iff_not, Bool.not_eq_true', Bool.not_eq_false', beq_iff_eq, beq_eq_false_iff_ne, ne_eq] at h3
    refine at_skip rfl ?_
    refine blk_n ?_
    refine then_n ?_
    refine rg rfl ?_
    have hq1 : Q.1 = true := by assumption
    have hre : Rng Q.2.1 may.length := rng_succ hok hq1 P.kp hr2
    have hve : Valid may Q.2.1 := (kept_succ (by omega) hok hq1 (fun u => (hr2 u).1) hv2).val
    refine Rq ?_
    refine Rq ?_
    have tr : ∀ a b c d e f g h i j k m n o p : AV, let l := lc_fill_w a b c d e f g h i j k m n; trim ((17,p)::(33,o)::l) l = [(0,a),(2,b),(3,c),(4,d),(5,e),(9,f),(10,g),(11,h),(12,i),(16,j),(17,p),(18,m),(28,n)] := by intros; rfl
    refine R_nil (tr ..) ?_; clear tr
    refine then_n ?_
    exact ⟨_, _, ⟨j + 1, Q.2.1, _, _, rfl, rfl, by exact WE, by exact OE, by omega, by exact hle, by exact hre, by exact hve, by exact ((fillM_y (by omega) (by rw [hl2, ← hQ]; assumption)).symm.trans hfm |> fun h => by rw [hl2, ← hQ] at h; exact h)⟩, by rfl, by omega⟩
  ·
   try simp only [decide_eq_true_eq, decide_eq_false_iff_not, Bool.not_eq_true', Bool.not_eq_false', beq_iff_eq, beq_eq_false_iff_ne, ne_eq] at h2
   refine at_exit rfl ?_
   refine then_x ?_
   refine then_x ?_
   refine blk_x ?_
   refine blk_n ?_
   refine then_n ?_
   refine rg rfl ?_
   refine Rq ?_
   refine Rq ?_
   have tr : ∀ a b c d e f g h i j k m n o p : AV, let l := lc_fill_w a b c d e f g h i j k m n; trim ((11,p)::(34,o)::l) l = [(0,a),(2,b),(3,c),(4,d),(5,e),(9,f),(10,g),(11,p),(12,i),(16,j),(17,k),(18,m),(28,n)] := by intros; rfl
   refine R_nil (tr ..) ?_; clear tr
   refine then_n ?_
   exact ⟨_, _, ⟨m + 1, o, used2, lack1, _, _, _, _, _, _, _, rfl, rfl, by first | exact WE2 | exact W2, by first | exact OE2 | exact hO2, by omega, by first | exact hle | exact hl2, by first | exact hre | exact hr2, by first | exact hve | exact hv2, by first | exact hfe | (rw [fillS_s (by omega), ← hfm, fillM_z (by omega)] at hfs; exact hfs), by first | exact hlk | omega⟩, by rfl, by omega⟩
 ·
  try simp only [decide_eq_true_eq, decide_eq_false_iff_not, Bool.not_eq_true', Bool.not_eq_false', beq_iff_eq, beq_eq_false_iff_ne, ne_eq] at h1
  refine at_exit rfl ?_
  refine then_x ?_
  refine then_x ?_
  refine blk_x ?_
  refine then_n ?_
  refine at_seq rfl ?_
  refine rg rfl ?_
  refine Rq ?_
  refine Rq ?_
  have tr : ∀ a b c d e f g h i j k m n o p : AV, let l := lc_fill_w a b c d e f g h i j k m n; trim ((2,p)::(35,o)::l) l = [(0,a),(2,p),(3,c),(4,d),(5,e),(9,f),(10,g),(11,h),(12,i),(16,j),(17,k),(18,m),(28,n)] := by intros; rfl
  refine R_nil (tr ..) ?_; clear tr
  refine then_n ?_
  refine at_ret rfl ?_
  refine fin_own rfl (by simp only [go_sem, ↓reduceIte, Nat.reduceEqDiff]; rfl) ?_
  rw [fillS_e (by omega)] at hfs
  rw [← hfs]
  exact ⟨hO, W1⟩

end Go.Proofs.Ytcnleglfdnhagaa
