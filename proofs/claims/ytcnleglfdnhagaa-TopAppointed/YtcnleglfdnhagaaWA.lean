/-
  Walks of chapter 55. The steps are written by program (walk.py).
-/
import Derived.Test.YtcnleglfdnhagaaMw
import Derived.Test.YtcnleglfdnhagaaSig
set_option linter.unusedSimpArgs false
set_option linter.unusedVariables false
set_option maxHeartbeats 4000000
set_option maxRecDepth 20000
namespace Go.Proofs.Ytcnleglfdnhagaa
open Go Go.Am
abbrev lc_place_step (a b c d e f g h i j k m : AV) : Env := [(0,a),(1,b),(2,c),(6,d),(7,e),(8,f),(15,g),(16,h),(17,i),(18,j),(39,k),(62,m)]
theorem place_step (lim f : Nat) (ih : PlaceW lim f) (b bm bn bu bs : Nat) (rs : List Nat) (may : List (List Bool)) (n : Nat) (need used : List Int) (seen : List Bool) (m : Nat) (H : Heap) (P : PlPre lim H b bm bn bu bs rs may n need used seen m (f + 1)) :
    ACall sig lim 23 [.ptr b 0, AV.i (m : Int), .own 1 bs 0 n] H fun r H' => r = bv (placeF may (f + 1) m used seen).1 ∧ PlW H H' bu bs (placeF may (f + 1) m used seen) := by
 have hst := P.sta.st
 have hms := P.sta.ms
 have hrl := P.sta.rl
 obtain ⟨hrow, hrl2⟩ := P.sta.rw m P.ml
 have hbu := P.hu
 have hbs := P.hs
 have hml := P.ml
 have hlu := P.lu
 have hls := P.ls
 have hkl := P.kl
 have hnl := P.nl
 obtain ⟨R, hR⟩ : ∃ R, R = placeF may (f + 1) m used seen := ⟨_, rfl⟩
 have e0 : loopP (placeF may f) (gt may m) m (n - 0) 0 used seen = R := by rw [hR, placeF, P.lu]; rfl
 rw [← hR]
 clear hR
 refine ACall_own (fa := fa23) rfl rfl rfl rfl ?_
 have tr : ∀ a0 a1 a2 : AV, env0 fa23.keep [a0, a1, a2] = [(0,a0),(1,a1),(2,a2),(6,.any),(7,.any),(8,.any),(15,.any),(16,.any),(17,.any),(18,.any),(39,.any),(62,.any)] := fun a0 a1 a2 => rfl
 refine W_to (tr _ _ _) ?_; clear tr
 refine at_seq rfl ?_
 refine rg rfl ?_
 refine Rq ?_
 have tr : ∀ a b c d e f g h i j k m n : AV, let l := lc_place_step a b c d e f g h i j k m; trim ((6,n)::l) l = [(0,a),(1,b),(2,c),(6,n),(7,e),(8,f),(15,g),(16,h),(17,i),(18,j),(39,k),(62,m)] := by intros; rfl
 refine R_nil (tr ..) ?_; clear tr
 refine then_n ?_
 refine at_seq rfl ?_
 refine at_seq rfl ?_
 refine rg rfl ?_
 refine Rq ?_
 refine Rq ?_
 refine Rq ?_
 refine R_q rfl (by simp (disch := first | omega | (simp only [List.length_map, List.length_append, List.length_set, List.length_cons, List.length_nil]; omega)) only [go_sem, ↓reduceIte, Nat.reduceEqDiff, reduceCtorEq, hst, hms, hrow, hbu, hbs]; rfl) ?_
 refine Rq ?_
 refine Rq ?_
 refine R_q rfl (by simp (disch := first | omega | (simp only [List.length_map, List.length_append, List.length_set, List.length_cons, List.length_nil]; omega)) only [go_sem, ↓reduceIte, Nat.reduceEqDiff, reduceCtorEq, hst, hms, hrow, hbu, hbs]; rfl) ?_
 refine Rq ?_
 refine Rq ?_
 have tr : ∀ a b c d e f g h i j k m n o p q r s t u v : AV, let l := lc_place_step a b c d e f g h i j k m; trim ((17,v)::(16,u)::(15,t)::(14,s)::(13,r)::(12,q)::(11,p)::(10,o)::(9,n)::l) l = [(0,a),(1,b),(2,c),(6,d),(7,e),(8,f),(15,t),(16,u),(17,v),(18,j),(39,k),(62,m)] := by intros; rfl
 refine R_nil (tr ..) ?_; clear tr
 refine then_n ?_
 refine at_block rfl ?_
 refine loop_n rfl (fun mm kv H' => ∃ u : Nat, ∃ seen1 : List Bool, ∃ x6 x7 x8 x18 x39 x62 : AV, (kv = [(6, x6), (7, x7), (8, x8), (17, AV.i (u : Int)), (18, x18), (39, x39), (62, x62)]) ∧ (mm = n - u) ∧ (hget H' bu = some (used.map AV.i)) ∧ (hget H' bs = some (seen1.map bv)) ∧ (∀ c, c ≠ bu → c ≠ bs → hget H' c = hget H c) ∧ (H'.length = H.length) ∧ (u ≤ n) ∧ (seen1.length = n) ∧ (un seen1 ≤ f) ∧ (loopP (placeF may f) (gt may m) m (n - u) u used seen1 = R)) ⟨0, seen, _, _, _, _, _, _, rfl, rfl, by exact hbu, by exact hbs, by exact fun _ _ _ => rfl, by rfl, by omega, by exact hls, by (have := P.un; omega), by exact e0⟩ (by rfl) ?_
 rintro mm kv H1 ⟨u, seen1, x6, x7, x8, x18, x39, x62, rfl, rfl, qbu, qbs, qk, ql, hu, hs1, hun, hlp⟩
 have tr : ∀ a b c d e f g h i j k m n o p q r s t : AV, upd [(0,a),(1,b),(2,c),(6,d),(7,e),(8,f),(15,g),(16,h),(17,i),(18,j),(39,k),(62,m)] [(6,n),(7,o),(8,p),(17,q),(18,r),(39,s),(62,t)] = [(0,a),(1,b),(2,c),(6,n),(7,o),(8,p),(15,g),(16,h),(17,q),(18,r),(39,s),(62,t)] := by intros; rfl
 refine W_to (tr ..) ?_; clear tr
 have hst := (qk b (Ne.symm P.sta.ub) (Ne.symm P.off.b)).trans hst
 have hms := (qk bm (Ne.symm P.sta.um) (Ne.symm P.off.m)).trans hms
 have hrow := (qk _ (P.sta.ur m hml) (P.off.r m hml)).trans hrow
 have hbu := qbu
 have hbs := qbs
 refine at_seq rfl ?_
 refine rg rfl ?_
 refine Rq ?_
 have tr : ∀ a b c d e f g h i j k m n : AV, let l := lc_place_step a b c d e f g h i j k m; trim ((18,n)::l) l = [(0,a),(1,b),(2,c),(6,d),(7,e),(8,f),(15,g),(16,h),(17,i),(18,n),(39,k),(62,m)] := by intros; rfl
 refine R_nil (tr ..) ?_; clear tr
 refine then_n ?_
 refine at_seq rfl ?_
 refine cdd (fun h1 => ?_) (fun h1 => ?_)
 ·
  try simp only [decide_eq_true_eq, decide_eq_false_iff_not, Bool.not_eq_true', Bool.not_eq_false', beq_iff_eq, beq_eq_false_iff_ne, ne_eq] at h1
  refine at_skip rfl ?_
  refine then_n ?_
  refine at_seq rfl ?_
  refine at_block rfl ?_
  refine at_seq rfl ?_
  refine rg rfl ?_
  refine Rq ?_
  refine Rq ?_
  refine R_q rfl (by simp (disch := first | omega | (simp only [List.length_map, List.length_append, List.length_set, List.length_cons, List.length_nil]; omega)) only [go_sem, ↓reduceIte, Nat.reduceEqDiff, reduceCtorEq, hst, hms, hrow, hbu, hbs]; rfl) ?_
  refine Rq ?_
  refine Rq ?_
  have tr : ∀ a b c d e f g h i j k m n o p q r : AV, let l := lc_place_step a b c d e f g h i j k m; trim ((8,r)::(7,q)::(21,p)::(20,o)::(19,n)::l) l = [(0,a),(1,b),(2,c),(6,d),(7,q),(8,r),(15,g),(16,h),(17,i),(18,j),(39,k),(62,m)] := by intros; rfl
  refine R_nil (tr ..) ?_; clear tr
  refine then_n ?_
  refine at_seq rfl ?_
  refine at_seq rfl ?_
  refine rg rfl ?_
  refine Rq ?_
  refine Rq ?_
  refine Rq ?_
  refine Rp_split (fun h2 => ?_) (fun h2 => ?_)
  ·
   try simp only [decide_eq_true_eq, decide_eq_false_iff_not, Bool.not_eq_true', Bool.not_eq_false', beq_iff_eq, beq_eq_false_iff_ne, ne_eq] at h2
   refine Rn ?_
   refine Rn ?_
   refine Rn ?_
   refine Rn ?_
   refine Rq ?_
   refine Rq ?_
   refine Rn ?_
   refine Rn ?_
   refine Rn ?_
   refine Rn ?_
   refine Rn ?_
   refine Rn ?_
   refine Rn ?_
   refine Rn ?_
   refine Rq ?_
   have tr : ∀ a b c d e f g h i j k m n o p q r s t u v w x y z A B C D E : AV, let l := lc_place_step a b c d e f g h i j k m; trim ((39,E)::(38,D)::(37,C)::(36,B)::(35,A)::(34,z)::(33,y)::(32,x)::(31,w)::(30,v)::(29,u)::(28,t)::(27,s)::(26,r)::(25,q)::(24,p)::(23,o)::(22,n)::l) l = [(0,a),(1,b),(2,c),(6,d),(7,e),(8,f),(15,g),(16,h),(17,i),(18,j),(39,E),(62,m)] := by intros; rfl
   refine R_nil (tr ..) ?_; clear tr
   refine then_n ?_
   refine cdt ?_
   refine at_exit rfl ?_
   refine then_x ?_
   refine blk_x ?_
   refine then_n ?_
   refine rg rfl ?_
   refine Rq ?_
   refine Rq ?_
   have tr : ∀ a b c d e f g h i j k m n o : AV, let l := lc_place_step a b c d e f g h i j k m; trim ((17,o)::(70,n)::l) l = [(0,a),(1,b),(2,c),(6,d),(7,e),(8,f),(15,g),(16,h),(17,o),(18,j),(39,k),(62,m)] := by intros; rfl
   refine R_nil (tr ..) ?_; clear tr
   refine then_n ?_
   exact ⟨_, _, ⟨u + 1, seen1, _, _, _, _, _, _, rfl, rfl, by (first | exact qbu | exact W.hu.trans (by rw [hok.same (bool_f (by simp_all))])), by (first | exact qbs | exact W.hs), by (first | exact qk | exact fun c h1 h2 => (W.keep c h1 h2).trans ((w2.old c h2).trans (qk c h1 h2))), by (first | exact ql | (rw [W.len, w2.len]; exact ql)), by omega, by (first | exact hs1 | (rw [hok.ls, List.length_set]; exact hs1)), by (first | exact hun | (have := un_le _ _ hok.ls.symm hok.mono; omega)), by (first | exact (loopP_skip (by omega) (by rintro ⟨h8, h9, h10⟩; simp_all)).symm.trans hlp | (have hRe := (loopP_no (by omega) ⟨by assumption, by assumption, by assumption⟩ (by assumption) (by rw [← hQ]; exact bool_f (by simp_all))).symm.trans hlp; rw [← hQ, hok.same (bool_f (by simp_all))] at hRe; exact hRe))⟩, by rfl, by omega⟩
  ·
   try simp only [decide_eq_true_eq, decide_eq_false_iff_not, Bool.not_eq_true', Bool.not_eq_false', beq_iff_eq, beq_eq_false_iff_ne, ne_eq] at h2
   refine Ry ?_
   refine Rq ?_
   refine Ry ?_
   refine Rq ?_
   refine Ry ?_
   refine Rq ?_
   refine Ry ?_
   refine R_q rfl (by simp (disch := first | omega | (simp only [List.length_map, List.length_append, List.length_set, List.length_cons, List.length_nil]; omega)) only [go_sem, ↓reduceIte, Nat.reduceEqDiff, reduceCtorEq, hst, hms, hrow, hbu, hbs]; rfl) ?_
   refine Rq ?_
   refine Rq ?_
   refine Rp_split (fun h3 => ?_) (fun h3 => ?_)
   ·
    try simp only [decide_eq_true_eq, decide_eq_false_iff_not, Bool.not_eq_true', Bool.not_eq_false', beq_iff_eq, beq_eq_false_iff_ne, ne_eq] at h3
    refine Rn ?_
    refine Rn ?_
    refine Rn ?_
    refine Rn ?_
    refine Rn ?_
    refine Rn ?_
    refine Rn ?_
    refine Rn ?_
    refine Rq ?_
    have tr : ∀ a b c d e f g h i j k m n o p q r s t u v w x y z A B C D E : AV, let l := lc_place_step a b c d e f g h i j k m; trim ((39,E)::(38,D)::(37,C)::(36,B)::(35,A)::(34,z)::(33,y)::(32,x)::(31,w)::(30,v)::(29,u)::(28,t)::(27,s)::(26,r)::(25,q)::(24,p)::(23,o)::(22,n)::l) l = [(0,a),(1,b),(2,c),(6,d),(7,e),(8,f),(15,g),(16,h),(17,i),(18,j),(39,E),(62,m)] := by intros; rfl
    refine R_nil (tr ..) ?_; clear tr
    refine then_n ?_
    refine cdt ?_
    refine at_exit rfl ?_
    refine then_x ?_
    refine blk_x ?_
    refine then_n ?_
    refine rg rfl ?_
    refine Rq ?_
    refine Rq ?_
    have tr : ∀ a b c d e f g h i j k m n o : AV, let l := lc_place_step a b c d e f g h i j k m; trim ((17,o)::(70,n)::l) l = [(0,a),(1,b),(2,c),(6,d),(7,e),(8,f),(15,g),(16,h),(17,o),(18,j),(39,k),(62,m)] := by intros; rfl
    refine R_nil (tr ..) ?_; clear tr
    refine then_n ?_
    exact ⟨_, _, ⟨u + 1, seen1, _, _, _, _, _, _, rfl, rfl, by (first | exact qbu | exact W.hu.trans (by rw [hok.same (bool_f (by simp_all))])), by (first | exact qbs | exact W.hs), by (first | exact qk | exact fun c h1 h2 => (W.keep c h1 h2).trans ((w2.old c h2).trans (qk c h1 h2))), by (first | exact ql | (rw [W.len, w2.len]; exact ql)), by omega, by (first | exact hs1 | (rw [hok.ls, List.length_set]; exact hs1)), by (first | exact hun | (have := un_le _ _ hok.ls.symm hok.mono; omega)), by (first | exact (loopP_skip (by omega) (by rintro ⟨h8, h9, h10⟩; simp_all)).symm.trans hlp | (have hRe := (loopP_no (by omega) ⟨by assumption, by assumption, by assumption⟩ (by assumption) (by rw [← hQ]; exact bool_f (by simp_all))).symm.trans hlp; rw [← hQ, hok.same (bool_f (by simp_all))] at hRe; exact hRe))⟩, by rfl, by omega⟩
   ·
    try simp only [decide_eq_true_eq, decide_eq_false_iff_not, Bool.not_eq_true', Bool.not_eq_false', beq_iff_eq, beq_eq_false_iff_ne, ne_eq] at h3
    refine Ry ?_
    refine Rq ?_
    refine Ry ?_
    refine Rq ?_
    refine Ry ?_
    refine Rq ?_
    refine Ry ?_
    refine R_q rfl (by simp (disch := first | omega | (simp only [List.length_map, List.length_append, List.length_set, List.length_cons, List.length_nil]; omega)) only [go_sem, ↓reduceIte, Nat.reduceEqDiff, reduceCtorEq, hst, hms, hrow, hbu, hbs]; rfl) ?_
    refine Ry ?_
    refine Rq ?_
    refine Ry ?_
    refine Rq ?_
    refine Ry ?_
    refine R_q rfl (by simp (disch := first | omega | (simp only [List.length_map, List.length_append, List.length_set, List.length_cons, List.length_nil]; omega)) only [go_sem, ↓reduceIte, Nat.reduceEqDiff, reduceCtorEq, hst, hms, hrow, hbu, hbs]; rfl) ?_
    refine Ry ?_
    refine Rq ?_
    refine Rq ?_
    have tr : ∀ a b c d e f g h i j k m n o p q r s t u v w x y z A B C D E : AV, let l := lc_place_step a b c d e f g h i j k m; trim ((39,E)::(38,D)::(37,C)::(36,B)::(35,A)::(34,z)::(33,y)::(32,x)::(31,w)::(30,v)::(29,u)::(28,t)::(27,s)::(26,r)::(25,q)::(24,p)::(23,o)::(22,n)::l) l = [(0,a),(1,b),(2,c),(6,d),(7,e),(8,f),(15,g),(16,h),(17,i),(18,j),(39,E),(62,m)] := by intros; rfl
    refine R_nil (tr ..) ?_; clear tr
    refine then_n ?_
    refine cdd (fun h4 => ?_) (fun h4 => ?_)
    ·
     try simp only [decide_eq_true_eq, decide_eq_false_iff_not, Bool.not_eq_true', Bool.not_eq_false', beq_iff_eq, beq_eq_false_iff_ne, ne_eq] at h4
     refine at_exit rfl ?_
     refine then_x ?_
     refine blk_x ?_
     refine then_n ?_
     refine rg rfl ?_
     refine Rq ?_
     refine Rq ?_
     have tr : ∀ a b c d e f g h i j k m n o : AV, let l := lc_place_step a b c d e f g h i j k m; trim ((17,o)::(70,n)::l) l = [(0,a),(1,b),(2,c),(6,d),(7,e),(8,f),(15,g),(16,h),(17,o),(18,j),(39,k),(62,m)] := by intros; rfl
     refine R_nil (tr ..) ?_; clear tr
     refine then_n ?_
     exact ⟨_, _, ⟨u + 1, seen1, _, _, _, _, _, _, rfl, rfl, by (first | exact qbu | exact W.hu.trans (by rw [hok.same (bool_f (by simp_all))])), by (first | exact qbs | exact W.hs), by (first | exact qk | exact fun c h1 h2 => (W.keep c h1 h2).trans ((w2.old c h2).trans (qk c h1 h2))), by (first | exact ql | (rw [W.len, w2.len]; exact ql)), by omega, by (first | exact hs1 | (rw [hok.ls, List.length_set]; exact hs1)), by (first | exact hun | (have := un_le _ _ hok.ls.symm hok.mono; omega)), by (first | exact (loopP_skip (by omega) (by rintro ⟨h8, h9, h10⟩; simp_all)).symm.trans hlp | (have hRe := (loopP_no (by omega) ⟨by assumption, by assumption, by assumption⟩ (by assumption) (by rw [← hQ]; exact bool_f (by simp_all))).symm.trans hlp; rw [← hQ, hok.same (bool_f (by simp_all))] at hRe; exact hRe))⟩, by rfl, by omega⟩
    ·
     try simp only [decide_eq_true_eq, decide_eq_false_iff_not, Bool.not_eq_true', Bool.not_eq_false', beq_iff_eq, beq_eq_false_iff_ne, ne_eq] at h4
     refine at_skip rfl ?_
     refine then_n ?_
     refine at_seq rfl ?_
     refine rg rfl ?_
     refine Rq ?_
     refine Rq ?_
     refine Rq ?_
     refine A_store ty4 (by simp (disch := first | omega | (simp only [List.length_map, List.length_append, List.length_set, List.length_cons, List.length_nil]; omega)) only [go_sem, ↓reduceIte, Nat.reduceEqDiff, reduceCtorEq, hst, hms, hrow, hbu, hbs] <;> rfl) (by simp (disch := first | omega | (simp only [List.length_map, List.length_append, List.length_set, List.length_cons, List.length_nil]; omega)) only [go_sem, ↓reduceIte, Nat.reduceEqDiff, reduceCtorEq, hst, hms, hrow, hbu, hbs] <;> rfl) hbs ⟨P.lbs, rfl, by simp only [List.length_map]; show u + 1 ≤ _; omega⟩ (setm bv seen1 u true (by omega)) ?_
     intro H2 w2
     have hbs := w2.new
     have hbu := (w2.old _ (Ne.symm P.off.u)).trans hbu
     have hst := (w2.old _ (Ne.symm P.off.b)).trans hst
     have hms := (w2.old _ (Ne.symm P.off.m)).trans hms
     have hrow := (w2.old _ (P.off.r m hml)).trans hrow
     have hun2 := un_set seen1 u (by omega) (by assumption)
     have tr : ∀ a b c d e f g h i j k m n o p : AV, let l := lc_place_step a b c d e f g h i j k m; trim ((42,p)::(41,o)::(40,n)::l) l = [(0,a),(1,b),(2,c),(6,d),(7,e),(8,f),(15,g),(16,h),(17,i),(18,j),(39,k),(62,m)] := by intros; rfl
     refine R_nil (tr ..) ?_; clear tr
     refine then_n ?_
     refine at_seq rfl ?_
     refine rg rfl ?_
     refine Rq ?_
     refine Rq ?_
     refine Rq ?_
     refine R_q rfl (by simp (disch := first | omega | (simp only [List.length_map, List.length_append, List.length_set, List.length_cons, List.length_nil]; omega)) only [go_sem, ↓reduceIte, Nat.reduceEqDiff, reduceCtorEq, hst, hms, hrow, hbu, hbs]; rfl) ?_
     refine Rq ?_
     refine Rq ?_
     refine R_q rfl (by simp (disch := first | omega | (simp only [List.length_map, List.length_append, List.length_set, List.length_cons, List.length_nil]; omega)) only [go_sem, ↓reduceIte, Nat.reduceEqDiff, reduceCtorEq, hst, hms, hrow, hbu, hbs]; rfl) ?_
     refine Rq ?_
     refine Rq ?_
     refine Rp_split (fun h5 => ?_) (fun h5 => ?_)
     ·
      try simp only [decide_eq_true_eq, decide_eq_false_iff_not, Bool.not_eq_true', Bool.not_eq_false', beq_iff_eq, beq_eq_false_iff_ne, ne_eq] at h5
      refine Rn ?_
      refine Rn ?_
      refine Rn ?_
      refine Rn ?_
      refine Rn ?_
      refine Rn ?_
      refine Rn ?_
      refine Rn ?_
      refine Rn ?_
      refine Rn ?_
      refine Rq ?_
      have tr : ∀ a b c d e f g h i j k m n o p q r s t u v w x y z A B C D E F G : AV, let l := lc_place_step a b c d e f g h i j k m; trim ((62,G)::(61,F)::(60,E)::(59,D)::(58,C)::(57,B)::(56,A)::(55,z)::(54,y)::(53,x)::(52,w)::(51,v)::(50,u)::(49,t)::(48,s)::(47,r)::(46,q)::(45,p)::(44,o)::(43,n)::l) l = [(0,a),(1,b),(2,c),(6,d),(7,e),(8,f),(15,g),(16,h),(17,i),(18,j),(39,k),(62,G)] := by intros; rfl
      refine R_nil (tr ..) ?_; clear tr
      refine then_n ?_
      refine cdt ?_
      refine at_seq rfl ?_
      refine rg rfl ?_
      refine Rq ?_
      refine Rq ?_
      refine Rq ?_
      refine R_q rfl (by simp (disch := first | omega | (simp only [List.length_map, List.length_append, List.length_set, List.length_cons, List.length_nil]; omega)) only [go_sem, ↓reduceIte, Nat.reduceEqDiff, reduceCtorEq, hst, hms, hrow, hbu, hbs]; rfl) ?_
      refine Rq ?_
      refine Rq ?_
      refine Rq ?_
      refine A_store ty3 (by simp (disch := first | omega | (simp only [List.length_map, List.length_append, List.length_set, List.length_cons, List.length_nil]; omega)) only [go_sem, ↓reduceIte, Nat.reduceEqDiff, reduceCtorEq, hst, hms, hrow, hbu, hbs] <;> rfl) (by simp (disch := first | omega | (simp only [List.length_map, List.length_append, List.length_set, List.length_cons, List.length_nil]; omega)) only [go_sem, ↓reduceIte, Nat.reduceEqDiff, reduceCtorEq, hst, hms, hrow, hbu, hbs] <;> rfl) hbu ⟨P.lb, rfl, by simp only [List.length_map]; show u + 1 ≤ _; omega⟩ (setm AV.i _ u (m : Int) (by omega)) ?_
      intro H4 w4
      have tr : ∀ a b c d e f g h i j k m n o p q r s t : AV, let l := lc_place_step a b c d e f g h i j k m; trim ((69,t)::(68,s)::(67,r)::(66,q)::(65,p)::(64,o)::(63,n)::l) l = [(0,a),(1,b),(2,c),(6,d),(7,e),(8,f),(15,g),(16,h),(17,i),(18,j),(39,k),(62,m)] := by intros; rfl
      refine R_nil (tr ..) ?_; clear tr
      refine then_n ?_
      refine at_seq rfl ?_
      refine rg rfl ?_
      refine Rq ?_
      have tr : ∀ a b c d e f g h i j k m n : AV, let l := lc_place_step a b c d e f g h i j k m; trim ((6,n)::l) l = [(0,a),(1,b),(2,c),(6,n),(7,e),(8,f),(15,g),(16,h),(17,i),(18,j),(39,k),(62,m)] := by intros; rfl
      refine R_nil (tr ..) ?_; clear tr
      refine then_n ?_
      refine at_ret rfl ?_
      refine blk_r ?_
      refine then_r ?_
      refine then_r ?_
      refine blk_r ?_
      refine then_r ?_
      refine fin_own rfl (by simp only [go_sem, ↓reduceIte, Nat.reduceEqDiff]; rfl) ?_
      have hRe := hlp.symm.trans (loopP_free (by omega) ⟨by assumption, by assumption, by assumption⟩ (by assumption))
      rw [hRe]
      exact ⟨rfl, w4.new, (w4.old _ P.off.u).trans w2.new, fun c h1 h2 => (w4.old c h1).trans ((w2.old c h2).trans (qk c h1 h2)), by rw [w4.len, w2.len]; exact ql⟩
     ·
      try simp only [decide_eq_true_eq, decide_eq_false_iff_not, Bool.not_eq_true', Bool.not_eq_false', beq_iff_eq, beq_eq_false_iff_ne, ne_eq] at h5
      refine Ry ?_
      refine Rq ?_
      refine Ry ?_
      refine Rq ?_
      refine Ry ?_
      refine Rq ?_
      refine Ry ?_
      refine Rq ?_
      refine Ry ?_
      refine R_q rfl (by simp (disch := first | omega | (simp only [List.length_map, List.length_append, List.length_set, List.length_cons, List.length_nil]; omega)) only [go_sem, ↓reduceIte, Nat.reduceEqDiff, reduceCtorEq, hst, hms, hrow, hbu, hbs]; rfl) ?_
      refine Ry ?_
      refine Rq ?_
      refine Ry ?_
      refine Rq ?_
      refine Ry ?_
      refine R_q rfl (by simp (disch := first | omega | (simp only [List.length_map, List.length_append, List.length_set, List.length_cons, List.length_nil]; omega)) only [go_sem, ↓reduceIte, Nat.reduceEqDiff, reduceCtorEq, hst, hms, hrow, hbu, hbs]; rfl) ?_
      refine Ry ?_
      refine Rq ?_
      refine Ry ?_
      refine Rcall ?_
      have eM : ((gt used u).toNat : Int) = gt used u := by have := (P.rng u).1; omega
      have hrec := ih b bm bn bu bs rs may n need used (seen1.set u true) (gt used u).toNat H2 ⟨P.sta.keep P.off fun c h1 h2 => (w2.old c h2).trans (qk c h1 h2), hbu, hlu, hbs, by rw [List.length_set]; exact hs1, P.off, by have := P.rng u; omega, P.rng, P.lb, P.lbs, by omega, hkl, hnl⟩
      rw [eM] at hrec
      refine ACall_mono hrec ?_
      have hok := place_ok (may := may) (fun u => (P.rng u).1) f (gt used u) (seen1.set u true) (by have := (P.rng u).1; omega) (by rw [List.length_set]; omega) (by omega)
      obtain ⟨Q, hQ⟩ : ∃ Q, Q = placeF may f (gt used u) used (seen1.set u true) := ⟨_, rfl⟩
      rw [← hQ] at hok ⊢
      rintro _ H3 ⟨rfl, W⟩
      have hbu := W.hu
      have hbs := W.hs
      have hst := (W.keep _ (Ne.symm P.sta.ub) (Ne.symm P.off.b)).trans hst
      have hms := (W.keep _ (Ne.symm P.sta.um) (Ne.symm P.off.m)).trans hms
      have hrow := (W.keep _ (P.sta.ur m hml) (P.off.r m hml)).trans hrow
      have hqlu := hok.lu
      refine Rq ?_
      have tr : ∀ a b c d e f g h i j k m n o p q r s t u v w x y z A B C D E F G : AV, let l := lc_place_step a b c d e f g h i j k m; trim ((62,G)::(61,F)::(60,E)::(59,D)::(58,C)::(57,B)::(56,A)::(55,z)::(54,y)::(53,x)::(52,w)::(51,v)::(50,u)::(49,t)::(48,s)::(47,r)::(46,q)::(45,p)::(44,o)::(43,n)::l) l = [(0,a),(1,b),(2,c),(6,d),(7,e),(8,f),(15,g),(16,h),(17,i),(18,j),(39,k),(62,G)] := by intros; rfl
      refine R_nil (tr ..) ?_; clear tr
      refine then_n ?_
      refine cdd (fun h6 => ?_) (fun h6 => ?_)
      ·
       try simp only [decide_eq_true_eq, decide_eq_false_iff_not, Bool.not_eq_true', Bool.not_eq_false', beq_iff_eq, beq_eq_false_iff_ne, ne_eq] at h6
       refine at_seq rfl ?_
       refine rg rfl ?_
       refine Rq ?_
       refine Rq ?_
       refine Rq ?_
       refine R_q rfl (by simp (disch := first | omega | (simp only [List.length_map, List.length_append, List.length_set, List.length_cons, List.length_nil]; omega)) only [go_sem, ↓reduceIte, Nat.reduceEqDiff, reduceCtorEq, hst, hms, hrow, hbu, hbs]; rfl) ?_
       refine Rq ?_
       refine Rq ?_
       refine Rq ?_
       refine A_store ty3 (by simp (disch := first | omega | (simp only [List.length_map, List.length_append, List.length_set, List.length_cons, List.length_nil]; omega)) only [go_sem, ↓reduceIte, Nat.reduceEqDiff, reduceCtorEq, hst, hms, hrow, hbu, hbs] <;> rfl) (by simp (disch := first | omega | (simp only [List.length_map, List.length_append, List.length_set, List.length_cons, List.length_nil]; omega)) only [go_sem, ↓reduceIte, Nat.reduceEqDiff, reduceCtorEq, hst, hms, hrow, hbu, hbs] <;> rfl) hbu ⟨P.lb, rfl, by simp only [List.length_map]; show u + 1 ≤ _; omega⟩ (setm AV.i _ u (m : Int) (by omega)) ?_
       intro H4 w4
       have tr : ∀ a b c d e f g h i j k m n o p q r s t : AV, let l := lc_place_step a b c d e f g h i j k m; trim ((69,t)::(68,s)::(67,r)::(66,q)::(65,p)::(64,o)::(63,n)::l) l = [(0,a),(1,b),(2,c),(6,d),(7,e),(8,f),(15,g),(16,h),(17,i),(18,j),(39,k),(62,m)] := by intros; rfl
       refine R_nil (tr ..) ?_; clear tr
       refine then_n ?_
       refine at_seq rfl ?_
       refine rg rfl ?_
       refine Rq ?_
       have tr : ∀ a b c d e f g h i j k m n : AV, let l := lc_place_step a b c d e f g h i j k m; trim ((6,n)::l) l = [(0,a),(1,b),(2,c),(6,n),(7,e),(8,f),(15,g),(16,h),(17,i),(18,j),(39,k),(62,m)] := by intros; rfl
       refine R_nil (tr ..) ?_; clear tr
       refine then_n ?_
       refine at_ret rfl ?_
       refine blk_r ?_
       refine then_r ?_
       refine then_r ?_
       refine blk_r ?_
       refine then_r ?_
       refine fin_own rfl (by simp only [go_sem, ↓reduceIte, Nat.reduceEqDiff]; rfl) ?_
       have hRe := hlp.symm.trans (loopP_yes (by omega) ⟨by assumption, by assumption, by assumption⟩ (by assumption) (by rw [← hQ]; assumption))
       rw [← hQ] at hRe
       rw [hRe]
       exact ⟨rfl, w4.new, (w4.old _ P.off.u).trans W.hs, fun c h1 h2 => (w4.old c h1).trans ((W.keep c h1 h2).trans ((w2.old c h2).trans (qk c h1 h2))), by rw [w4.len, W.len, w2.len]; exact ql⟩
      ·
       try simp only [decide_eq_true_eq, decide_eq_false_iff_not, Bool.not_eq_true', Bool.not_eq_false', beq_iff_eq, beq_eq_false_iff_ne, ne_eq] at h6
       refine at_skip rfl ?_
       refine blk_n ?_
       refine then_n ?_
       refine rg rfl ?_
       refine Rq ?_
       refine Rq ?_
       have tr : ∀ a b c d e f g h i j k m n o : AV, let l := lc_place_step a b c d e f g h i j k m; trim ((17,o)::(70,n)::l) l = [(0,a),(1,b),(2,c),(6,d),(7,e),(8,f),(15,g),(16,h),(17,o),(18,j),(39,k),(62,m)] := by intros; rfl
       refine R_nil (tr ..) ?_; clear tr
       refine then_n ?_
       exact ⟨_, _, ⟨u + 1, Q.2.2, _, _, _, _, _, _, rfl, rfl, by (first | exact qbu | exact W.hu.trans (by rw [hok.same (bool_f (by simp_all))])), by (first | exact qbs | exact W.hs), by (first | exact qk | exact fun c h1 h2 => (W.keep c h1 h2).trans ((w2.old c h2).trans (qk c h1 h2))), by (first | exact ql | (rw [W.len, w2.len]; exact ql)), by omega, by (first | exact hs1 | (rw [hok.ls, List.length_set]; exact hs1)), by (first | exact hun | (have := un_le _ _ hok.ls.symm hok.mono; omega)), by (first | exact (loopP_skip (by omega) (by rintro ⟨h8, h9, h10⟩; simp_all)).symm.trans hlp | (have hRe := (loopP_no (by omega) ⟨by assumption, by assumption, by assumption⟩ (by assumption) (by rw [← hQ]; exact bool_f (by simp_all))).symm.trans hlp; rw [← hQ, hok.same (bool_f (by simp_all))] at hRe; exact hRe))⟩, by rfl, by omega⟩
 ·
  try simp only [decide_eq_true_eq, decide_eq_false_iff_not, Bool.not_eq_true', Bool.not_eq_false', beq_iff_eq, beq_eq_false_iff_ne, ne_eq] at h1
  refine at_exit rfl ?_
  refine then_x ?_
  refine then_x ?_
  refine blk_x ?_
  refine then_n ?_
  refine at_seq rfl ?_
  refine rg rfl ?_
  refine Rq ?_
  have tr : ∀ a b c d e f g h i j k m n : AV, let l := lc_place_step a b c d e f g h i j k m; trim ((6,n)::l) l = [(0,a),(1,b),(2,c),(6,n),(7,e),(8,f),(15,g),(16,h),(17,i),(18,j),(39,k),(62,m)] := by intros; rfl
  refine R_nil (tr ..) ?_; clear tr
  refine then_n ?_
  refine at_ret rfl ?_
  refine fin_own rfl (by simp only [go_sem, ↓reduceIte, Nat.reduceEqDiff]; rfl) ?_
  have hRe := hlp.symm.trans (loopP_end (by omega))
  rw [hRe]
  exact ⟨rfl, qbu, qbs, qk, ql⟩

end Go.Proofs.Ytcnleglfdnhagaa
