/-
  Texts of TopSeason, part 15 of 16. TopSeason: chapters 49, 51 to 53 at this program. Turned by program from built texts (season.py).
-/
import Derived.Test.YtdmeioppkannlaaKTopSeason13
import Derived.KernelRfl
import Derived.Test.YtdmeioppkannlaaKTopSeason11
import Derived.Test.YtdmeioppkannlaaKTopSeason12
import Derived.Test.YtdmeioppkannlaaKTopSeason8
import Derived.Test.YtdmeioppkannlaaKTopSeason9
section
set_option linter.unusedSimpArgs false
set_option linter.unusedVariables false
set_option maxHeartbeats 40000000
set_option maxRecDepth 4000
namespace Go.Proofs.Ytdmeioppkannlaa
open Go Go.Am

abbrev lc_max_ok (a b c d e f g h i j k m n o p q r s t u v w x : AV) : Env := [(0,a),(1,b),(2,c),(3,d),(4,e),(5,f),(6,g),(7,h),(8,i),(9,j),(10,k),(11,m),(12,n),(14,o),(18,p),(35,q),(43,r),(59,s),(74,t),(75,u),(76,v),(77,w),(81,x)]
theorem max_ok (lim : Nat) (H : Heap) (n s t : Int) (E : List Ed) :
    ACall sig lim 16 [.agg (graphC n s t E)] H fun r H' => r = .tup [maxA n s t E, maxB n s t E, AV.i (gchkS n s t E)] ∧ H' = H := by
 have q0 : True := trivial
 have qf : True := trivial
 have qw : True := trivial
 have qa : True := trivial
 have hc : True := trivial
 have hdi : True := trivial
 refine ACall_pure (fa := fa16) rfl rfl rfl rfl ?_
 have tr : ∀ a0 : AV, env0 fa16.keep [a0] = lc_max_ok a0 .any .any .any .any .any .any .any .any .any .any .any .any .any .any .any .any .any .any .any .any .any .any := fun a0 => rfl
 refine W_to (tr _) ?_; clear tr
 refine at_seq rfl ?_
 refine rg rfl ?_
 refine A_box rfl (by simp (disch := first | omega | (simp only [List.length_map, List.length_append, List.length_set, List.length_cons, List.length_nil]; omega)) only [go_sem, ↓reduceIte, Nat.reduceEqDiff, reduceCtorEq] <;> rfl) ?_
 intro H1 n0
 have en0 := n0.len
 have q0 := n0.new
 refine Rq ?_
 refine Rq ?_
 refine Rq ?_
 have tr : ∀ a b c d e f g h i j k m n o p q r s t u v w x y z A B : AV, let l := lc_max_ok a b c d e f g h i j k m n o p q r s t u v w x; trim ((4,B)::(3,A)::(2,z)::(1,y)::l) l = lc_max_ok a y z A B f g h i j k m n o p q r s t u v w x := by intros; rfl
 refine R_nil (tr ..) ?_; clear tr
 refine then_n ?_
 refine at_seq rfl ?_
 refine at_seq rfl ?_
 refine rg rfl ?_
 refine R_q rfl (by simp (disch := first | omega | (simp only [List.length_map, List.length_append, List.length_set, List.length_cons, List.length_nil]; omega)) only [go_sem, ↓reduceIte, Nat.reduceEqDiff, reduceCtorEq, q0, qf, qw, qa, hc, hdi] <;> rfl) ?_
 refine Rcall ?_
 refine ACall_eq (fcheck_ok _ _ n s t E) ?_
 refine Rq ?_
 have tr : ∀ a b c d e f g h i j k m n o p q r s t u v w x y z A : AV, let l := lc_max_ok a b c d e f g h i j k m n o p q r s t u v w x; trim ((5,A)::(16,z)::(15,y)::l) l = lc_max_ok a b c d e A g h i j k m n o p q r s t u v w x := by intros; rfl
 refine R_nil (tr ..) ?_; clear tr
 refine then_n ?_
 refine at_seq rfl ?_
 refine rg rfl ?_
 refine Rq ?_
 refine Rq ?_
 have tr : ∀ a b c d e f g h i j k m n o p q r s t u v w x y z : AV, let l := lc_max_ok a b c d e f g h i j k m n o p q r s t u v w x; trim ((18,z)::(17,y)::l) l = lc_max_ok a b c d e f g h i j k m n o z q r s t u v w x := by intros; rfl
 refine R_nil (tr ..) ?_; clear tr
 refine then_n ?_
 refine cdd (fun h1 => ?_) (fun h1 => ?_)
 ·
  try simp only [decide_eq_true_eq, decide_eq_false_iff_not, Bool.not_eq_true', Bool.not_eq_false', beq_iff_eq, beq_eq_false_iff_ne, ne_eq] at h1
  refine at_seq rfl ?_
  refine rg rfl ?_
  refine Rq ?_
  refine Rq ?_
  refine Rq ?_
  refine Rq ?_
  have tr : ∀ a b c d e f g h i j k m n o p q r s t u v w x y z A B : AV, let l := lc_max_ok a b c d e f g h i j k m n o p q r s t u v w x; trim ((4,B)::(3,A)::(2,z)::(19,y)::l) l = lc_max_ok a b z A B f g h i j k m n o p q r s t u v w x := by intros; rfl
  refine R_nil (tr ..) ?_; clear tr
  refine then_n ?_
  refine at_ret rfl ?_
  refine then_r ?_
  refine fpure ?_
  refine ⟨?_, rfl⟩
  rw [maxA_err (by assumption), maxB_err (by assumption)]
 ·
  try simp only [decide_eq_true_eq, decide_eq_false_iff_not, Bool.not_eq_true', Bool.not_eq_false', beq_iff_eq, beq_eq_false_iff_ne, ne_eq] at h1
  refine at_skip rfl ?_
  refine then_n ?_
  refine at_seq rfl ?_
  refine rg rfl ?_
  have g := gok_of (by assumption : gchkS n s t E = 0)
  have hg0 : gchkS n s t E = 0 := by assumption
  obtain ⟨g1, g2, g3, g4, g5, g6, g7, g8, ge⟩ := id g
  refine Rq ?_
  refine R_q rfl (by simp (disch := first | omega | (simp only [List.length_map, List.length_append, List.length_set, List.length_cons, List.length_nil]; omega)) only [go_sem, ↓reduceIte, Nat.reduceEqDiff, reduceCtorEq, q0, qf, qw, qa, hc, hdi] <;> rfl) ?_
  refine Rq ?_
  refine A_makeSlice (ms27n _ _ E.length _ _ _ (by omega) (by simp (disch := first | omega | (simp only [List.length_map, List.length_append, List.length_set, List.length_cons, List.length_nil]; omega)) only [go_sem, ↓reduceIte, Nat.reduceEqDiff, reduceCtorEq, q0]) (by simp (disch := first | omega | (simp only [List.length_map, List.length_append, List.length_set, List.length_cons, List.length_nil]; omega)) only [go_sem, ↓reduceIte, Nat.reduceEqDiff, reduceCtorEq, q0])) ?_
  intro H2 n1
  have en1 := n1.len
  have q0 := (n1.old _ (hget_lt q0)).trans q0
  have qf := n1.new
  refine Rq ?_
  have tr : ∀ a b c d e f g h i j k m n o p q r s t u v w x y z A B C : AV, let l := lc_max_ok a b c d e f g h i j k m n o p q r s t u v w x; trim ((6,C)::(23,B)::(22,A)::(21,z)::(20,y)::l) l = lc_max_ok a b c d e f C h i j k m n o p q r s t u v w x := by intros; rfl
  refine R_nil (tr ..) ?_; clear tr
  refine then_n ?_
  refine at_block rfl ?_
  refine loop_n rfl (fun mm kv H' => ∃ f : List Int, ∃ x2 x3 x4 x7 x8 x9 x10 x11 x12 x14 x35 x43 x59 x74 x75 x76 x77 x81 : AV, (kv = [(2, x2), (3, x3), (4, x4), (7, x7), (8, x8), (9, x9), (10, x10), (11, x11), (12, x12), (14, x14), (35, x35), (43, x43), (59, x59), (74, x74), (75, x75), (76, x76), (77, x77), (81, x81)]) ∧ (mm = (644245094400 - exc E f s E.length).toNat) ∧ (hget H' H.length = some (graphC n s t E)) ∧ (hget H' H1.length = some (f.map AV.i)) ∧ (FlowOK n s t E f) ∧ (∀ a, Runs n s t E f a → Runs n s t E (List.replicate E.length 0) a) ∧ (H2.length ≤ H'.length)) ⟨(List.replicate E.length 0), _, _, _, _, _, _, _, _, _, _, _, _, _, _, _, _, _, _, rfl, rfl, by exact q0, by exact qf, by exact zero_ok g, by exact fun a h => h, by exact Nat.le_refl _⟩ (by rfl) ?_
  rintro mm kv HA ⟨f, x2, x3, x4, x7, x8, x9, x10, x11, x12, x14, x35, x43, x59, x74, x75, x76, x77, x81, rfl, rfl, q0, qf, F, hR, hHA⟩
  have tr : ∀ a b c d e f g h i j k m n o p q r s t u v w x y z A B C D E F G H I J K L M N O P : AV, upd (lc_max_ok a b c d e f g h i j k m n o p q r s t u v w x) [(2,y),(3,z),(4,A),(7,B),(8,C),(9,D),(10,E),(11,F),(12,G),(14,H),(35,I),(43,J),(59,K),(74,L),(75,M),(76,N),(77,O),(81,P)] = lc_max_ok a b y z A f g B C D E F G H p I J K L M N O P := by intros; rfl
  refine W_to (tr ..) ?_; clear tr
  refine at_block rfl ?_
  refine at_seq rfl ?_
  refine rg rfl ?_
  refine R_q rfl (by simp (disch := first | omega | (simp only [List.length_map, List.length_append, List.length_set, List.length_cons, List.length_nil]; omega)) only [go_sem, ↓reduceIte, Nat.reduceEqDiff, reduceCtorEq, q0, qf, qw, qa, hc, hdi] <;> rfl) ?_
  refine Rq ?_
  refine Rcall ?_
  refine ACall_eq (reach_ok _ _ n s t E f H1.length E.length F.len.symm qf g F.len F.rng) ?_
  refine Rq ?_
  refine Rq ?_
  refine Rq ?_
  refine Rq ?_
  refine Rq ?_
  have tr : ∀ a b c d e f g h i j k m n o p q r s t u v w x y z A B C D E F : AV, let l := lc_max_ok a b c d e f g h i j k m n o p q r s t u v w x; trim ((8,F)::(7,E)::(29,D)::(28,C)::(24,B)::(27,A)::(26,z)::(25,y)::l) l = lc_max_ok a b c d e f g E F j k m n o p q r s t u v w x := by intros; rfl
  refine R_nil (tr ..) ?_; clear tr
  refine then_n ?_
  refine at_seq rfl ?_
  refine at_seq rfl ?_
  refine rg rfl ?_
  obtain ⟨ord, so, RI, _⟩ := reach_inv f g
  have sos := so.seen
  have sow := so.way
  have lq0 := hget_lt q0
  have lqf := hget_lt qf
  refine Rq ?_
  refine Rq ?_
  refine R_q rfl (by simp (disch := first | omega | (simp only [List.length_map, List.length_append, List.length_set, List.length_cons, List.length_nil]; omega)) only [go_sem, ↓reduceIte, Nat.reduceEqDiff, reduceCtorEq, q0, qf, qw, qa, hc, hdi] <;> rfl) ?_
  refine Rq ?_
  refine R_q rfl (by simp (disch := first | omega | (simp only [List.length_map, List.length_append, List.length_set, List.length_cons, List.length_nil]; omega)) only [go_sem, ↓reduceIte, Nat.reduceEqDiff, reduceCtorEq, q0, qf, qw, qa, hc, hdi] <;> rfl) ?_
  refine Rq ?_
  have tr : ∀ a b c d e f g h i j k m n o p q r s t u v w x y z A B C D : AV, let l := lc_max_ok a b c d e f g h i j k m n o p q r s t u v w x; trim ((35,D)::(34,C)::(33,B)::(32,A)::(31,z)::(30,y)::l) l = lc_max_ok a b c d e f g h i j k m n o p D r s t u v w x := by intros; rfl
  refine R_nil (tr ..) ?_; clear tr
  refine then_n ?_
  refine cdd (fun h2 => ?_) (fun h2 => ?_)
  ·
   try simp only [decide_eq_true_eq, decide_eq_false_iff_not, Bool.not_eq_true', Bool.not_eq_false', beq_iff_eq, beq_eq_false_iff_ne, ne_eq] at h2
   refine at_seq rfl ?_
   refine rg rfl ?_
   refine Rq ?_
   refine Rq ?_
   refine Rq ?_
   refine Rq ?_
   refine Rq ?_
   have tr : ∀ a b c d e f g h i j k m n o p q r s t u v w x y z A B C : AV, let l := lc_max_ok a b c d e f g h i j k m n o p q r s t u v w x; trim ((4,C)::(3,B)::(2,A)::(37,z)::(36,y)::l) l = lc_max_ok a b A B C f g h i j k m n o p q r s t u v w x := by intros; rfl
   refine R_nil (tr ..) ?_; clear tr
   refine then_n ?_
   refine at_ret rfl ?_
   refine then_r ?_
   refine blk_r ?_
   refine then_r ?_
   refine blk_r ?_
   have hst : gt (reachS n s E f).seen t.toNat = false := by assumption
   have hru := hR f (.stop f hst)
   refine fpure ?_
   refine ⟨?_, rfl⟩
   rw [maxA_ok hg0 hru, maxB_ok hg0 hru, hg0]
   exact congrArg AV.tup (by rw [frz_ownI (l := f) (by omega) qf F.len.symm, frz_bools])
  ·
   try simp only [decide_eq_true_eq, decide_eq_false_iff_not, Bool.not_eq_true', Bool.not_eq_false', beq_iff_eq, beq_eq_false_iff_ne, ne_eq] at h2
   refine at_skip rfl ?_
   refine then_n ?_
   refine at_seq rfl ?_
   refine rg rfl ?_
   have hst : gt (reachS n s E f).seen t.toNat = true := by assumption
   obtain ⟨m, T, WO⟩ := tree_sink g hst
   have AO := aug_ok g F T WO
   have AO2 := AO.2
   have x0 := exc_rng (fRng_cap g AO.1.rng) s E.length (Nat.le_refl _)
   have hml := way_short g hst T
   refine Rq ?_
   have tr : ∀ a b c d e f g h i j k m n o p q r s t u v w x y : AV, let l := lc_max_ok a b c d e f g h i j k m n o p q r s t u v w x; trim ((9,y)::l) l = lc_max_ok a b c d e f g h i y k m n o p q r s t u v w x := by intros; rfl
   refine R_nil (tr ..) ?_; clear tr
   refine then_n ?_
   refine at_seq rfl ?_
   refine rg rfl ?_
   refine Rq ?_
   have tr : ∀ a b c d e f g h i j k m n o p q r s t u v w x y : AV, let l := lc_max_ok a b c d e f g h i j k m n o p q r s t u v w x; trim ((10,y)::l) l = lc_max_ok a b c d e f g h i j y m n o p q r s t u v w x := by intros; rfl
   refine R_nil (tr ..) ?_; clear tr
   refine then_n ?_
   refine at_seq rfl ?_
   refine at_seq rfl ?_
   refine rg rfl ?_
   refine Rq ?_
   refine R_q rfl (by simp (disch := first | omega | (simp only [List.length_map, List.length_append, List.length_set, List.length_cons, List.length_nil]; omega)) only [go_sem, ↓reduceIte, Nat.reduceEqDiff, reduceCtorEq, q0, qf, qw, qa, hc, hdi] <;> rfl) ?_
   refine Rq ?_
   have tr : ∀ a b c d e f g h i j k m n o p q r s t u v w x y z A : AV, let l := lc_max_ok a b c d e f g h i j k m n o p q r s t u v w x; trim ((11,A)::(39,z)::(38,y)::l) l = lc_max_ok a b c d e f g h i j k A n o p q r s t u v w x := by intros; rfl
   refine R_nil (tr ..) ?_; clear tr
   refine then_n ?_
   refine at_block rfl ?_
   refine loop_n rfl (fun mm kv H' => ∃ k : Nat, ∃ v : Int, ∃ la : Int, ∃ w : List Int, ∃ o : AV, ∃ x12 x43 x59 : AV, (kv = [(9, o), (10, AV.i la), (11, AV.i v), (12, x12), (43, x43), (59, x59)]) ∧ (mm = k) ∧ (hget H' H.length = some (graphC n s t E)) ∧ (hget H' H1.length = some (f.map AV.i)) ∧ (OutA H2.length H' o w) ∧ (TreeN n s E f (reachS n s E f).way k v) ∧ (w ++ wayN E (reachS n s E f).way k v = wayN E (reachS n s E f).way m t) ∧ (la = leastW E f 1073741824 w) ∧ (0 < la) ∧ (la ≤ 1073741824) ∧ (H2.length ≤ H'.length)) ⟨m, t, 1073741824, [], _, _, _, _, rfl, rfl, by exact q0, by exact qf, by exact .inl ⟨rfl, rfl⟩, by exact T, by rfl, by rfl, by omega, by omega, by exact hHA⟩ (by rfl) ?_
   rintro mm kv HB ⟨k, v, la, w, o, x12, x43, x59, rfl, rfl, q0, qf, hO, T1, hW, hla, hl0, hl1, hHB⟩
   have tr : ∀ a b c d e f g h i j k m n o p q r s t u v w x y z A B C D : AV, upd (lc_max_ok a b c d e f g h i j k m n o p q r s t u v w x) [(9,y),(10,z),(11,A),(12,B),(43,C),(59,D)] = lc_max_ok a b c d e f g h i y z A B o p q C D t u v w x := by intros; rfl
   refine W_to (tr ..) ?_; clear tr
   refine at_seq rfl ?_
   refine at_seq rfl ?_
   refine rg rfl ?_
   refine Rq ?_
   refine Rq ?_
   refine R_q rfl (by simp (disch := first | omega | (simp only [List.length_map, List.length_append, List.length_set, List.length_cons, List.length_nil]; omega)) only [go_sem, ↓reduceIte, Nat.reduceEqDiff, reduceCtorEq, q0, qf, qw, qa, hc, hdi] <;> rfl) ?_
   refine Rq ?_
   have tr : ∀ a b c d e f g h i j k m n o p q r s t u v w x y z A B : AV, let l := lc_max_ok a b c d e f g h i j k m n o p q r s t u v w x; trim ((43,B)::(42,A)::(41,z)::(40,y)::l) l = lc_max_ok a b c d e f g h i j k m n o p q B s t u v w x := by intros; rfl
   refine R_nil (tr ..) ?_; clear tr
   refine then_n ?_
   refine cdd (fun h3 => ?_) (fun h3 => ?_)
   ·
    try simp only [decide_eq_true_eq, decide_eq_false_iff_not, Bool.not_eq_true', Bool.not_eq_false', beq_iff_eq, beq_eq_false_iff_ne, ne_eq] at h3
    refine at_skip rfl ?_
    refine then_n ?_
    refine at_block rfl ?_
    refine at_seq rfl ?_
    refine rg rfl ?_
    have hob := fun b hb => hO.lt (b := b) hb
    obtain ⟨k', c, rfl, hc, hv0, hv1, A, T2, hwn⟩ := tree_step T1 (by omega)
    rw [hwn] at hW
    have hnz := A.nz
    have hrp := A.room
    have hix := A.ix
    obtain ⟨hd0, hd1, hdi, hdr⟩ := arc_dec A
    have he := ge _ hix
    have hr := F.rng _ hix
    have hwl : w.length ≤ 600 := by
      have := congrArg List.length hW
      rw [wayN_len, List.length_append] at this
      omega
    refine Rq ?_
    refine Rq ?_
    refine Rq ?_
    refine R_q rfl (by simp (disch := first | omega | (simp only [List.length_map, List.length_append, List.length_set, List.length_cons, List.length_nil]; omega)) only [go_sem, ↓reduceIte, Nat.reduceEqDiff, reduceCtorEq, q0, qf, qw, qa, hc, hdi] <;> rfl) ?_
    refine A_alloc rfl ?_
    intro HC n4
    have en4 := n4.len
    have q0 := (n4.old _ (hget_lt q0)).trans q0
    have qf := (n4.old _ (hget_lt qf)).trans qf
    have qa := n4.new
    have lq0 := hget_lt q0
    have lqf := hget_lt qf
    have lqa := hget_lt qa
    refine A_store ty85 (by simp (disch := first | omega | (simp only [List.length_map, List.length_append, List.length_set, List.length_cons, List.length_nil]; omega)) only [go_sem, ↓reduceIte, Nat.reduceEqDiff, reduceCtorEq, q0, qf, qw, qa, hc, hdi] <;> rfl) (by simp (disch := first | omega | (simp only [List.length_map, List.length_append, List.length_set, List.length_cons, List.length_nil]; omega)) only [go_sem, ↓reduceIte, Nat.reduceEqDiff, reduceCtorEq, q0, qf, qw, qa, hc, hdi] <;> rfl) qa ⟨by omega, rfl, by first | exact Nat.le_refl _ | simp⟩ (show _ = arcC c from rfl) ?_
    intro HD w4
    have ew4 := w4.len
    have q0 := (w4.old _ (by omega)).trans q0
    have qf := (w4.old _ (by omega)).trans qf
    have qa := w4.new
    have hO := hO.mono fun b hb k hk => (w4.old _ (by have := hget_lt hk; omega)).trans ((n4.old _ (hget_lt hk)).trans hk)
    have tr : ∀ a b c d e f g h i j k m n o p q r s t u v w x y z A B C : AV, let l := lc_max_ok a b c d e f g h i j k m n o p q r s t u v w x; trim ((12,C)::(47,B)::(46,A)::(45,z)::(44,y)::l) l = lc_max_ok a b c d e f g h i j k m C o p q r s t u v w x := by intros; rfl
    refine R_nil (tr ..) ?_; clear tr
    refine then_n ?_
    refine at_seq rfl ?_
    refine rg rfl ?_
    refine Rq ?_
    refine R_q rfl (by simp (disch := first | omega | (simp only [List.length_map, List.length_append, List.length_set, List.length_cons, List.length_nil]; omega)) only [go_sem, ↓reduceIte, Nat.reduceEqDiff, reduceCtorEq, q0, qf, qw, qa, hc, hdi] <;> rfl) ?_
    refine A_buildSlice (bs67 _ _ _ _ c (by simp (disch := first | omega | (simp only [List.length_map, List.length_append, List.length_set, List.length_cons, List.length_nil]; omega)) only [go_sem, ↓reduceIte, Nat.reduceEqDiff, reduceCtorEq, q0, qf, qw, qa, hc, hdi] <;> rfl)) ?_
    intro HJ n9
    have en9 := n9.len
    have q0 := (n9.old _ (hget_lt q0)).trans q0
    have qf := (n9.old _ (hget_lt qf)).trans qf
    have qa := (n9.old _ (hget_lt qa)).trans qa
    have qn := n9.new
    have hO := hO.mono fun b hb k hk => (n9.old _ (hget_lt hk)).trans hk
    have lq0 := hget_lt q0
    have lqf := hget_lt qf
    have lqa := hget_lt qa
    have lqn := hget_lt qn
    obtain ⟨b, hbl, hbl2, hap⟩ := outA_append (lim := H.length) hO hob qn (by omega) (by omega) (by omega)
    refine A_append (by simp (disch := first | omega | (simp only [List.length_map, List.length_append, List.length_set, List.length_cons, List.length_nil]; omega)) only [go_sem, ↓reduceIte, Nat.reduceEqDiff, reduceCtorEq]; exact hap) ?_
    intro HK g9
    have eg9 := g9.len
    have q0 := (g9.old _ (by omega) lq0).trans q0
    have qf := (g9.old _ (by omega) lqf).trans qf
    have qa := (g9.old _ (by omega) lqa).trans qa
    have qq := g9.new
    refine Rq ?_
    have tr : ∀ a b c d e f g h i j k m n o p q r s t u v w x y z A B C : AV, let l := lc_max_ok a b c d e f g h i j k m n o p q r s t u v w x; trim ((9,C)::(51,B)::(50,A)::(49,z)::(48,y)::l) l = lc_max_ok a b c d e f g h i C k m n o p q r s t u v w x := by intros; rfl
    refine R_nil (tr ..) ?_; clear tr
    refine then_n ?_
    refine at_seq rfl ?_
    refine rg rfl ?_
    refine Rq ?_
    refine R_q rfl (by simp (disch := first | omega | (simp only [List.length_map, List.length_append, List.length_set, List.length_cons, List.length_nil]; omega)) only [go_sem, ↓reduceIte, Nat.reduceEqDiff, reduceCtorEq, q0, qf, qw, qa, hc, hdi] <;> rfl) ?_
    refine Rq ?_
    refine R_q rfl (by simp (disch := first | omega | (simp only [List.length_map, List.length_append, List.length_set, List.length_cons, List.length_nil]; omega)) only [go_sem, ↓reduceIte, Nat.reduceEqDiff, reduceCtorEq, q0, qf, qw, qa, hc, hdi] <;> rfl) ?_
    refine Rcall ?_
    refine ACall_eq (room_ok _ _ n s t E f H1.length E.length F.len.symm qf (decE c) (decide (c < 0)) hd0 hd1 g F.len F.rng) ?_
    rewrite [hdr]
    refine Rq ?_
    refine Rq ?_
    have tr : ∀ a b c d e f g h i j k m n o p q r s t u v w x y z A B C D E : AV, let l := lc_max_ok a b c d e f g h i j k m n o p q r s t u v w x; trim ((10,E)::(57,D)::(56,C)::(55,B)::(54,A)::(53,z)::(52,y)::l) l = lc_max_ok a b c d e f g h i j E m n o p q r s t u v w x := by intros; rfl
    refine R_nil (tr ..) ?_; clear tr
    refine then_n ?_
    refine at_seq rfl ?_
    refine rg rfl ?_
    refine Rq ?_
    refine R_q rfl (by simp (disch := first | omega | (simp only [List.length_map, List.length_append, List.length_set, List.length_cons, List.length_nil]; omega)) only [go_sem, ↓reduceIte, Nat.reduceEqDiff, reduceCtorEq, q0, qf, qw, qa, hc, hdi] <;> rfl) ?_
    have tr : ∀ a b c d e f g h i j k m n o p q r s t u v w x y z : AV, let l := lc_max_ok a b c d e f g h i j k m n o p q r s t u v w x; trim ((59,z)::(58,y)::l) l = lc_max_ok a b c d e f g h i j k m n o p q r z t u v w x := by intros; rfl
    refine R_nil (tr ..) ?_; clear tr
    refine then_n ?_
    refine cdd (fun h4 => ?_) (fun h4 => ?_)
    ·
     try simp only [decide_eq_true_eq, decide_eq_false_iff_not, Bool.not_eq_true', Bool.not_eq_false', beq_iff_eq, beq_eq_false_iff_ne, ne_eq] at h4
     refine rg rfl ?_
     have hta : tailE E c = (gt E (ixE c)).b := by rw [tailE, if_neg (by omega)]
     refine Rq ?_
     refine R_q rfl (by simp (disch := first | omega | (simp only [List.length_map, List.length_append, List.length_set, List.length_cons, List.length_nil]; omega)) only [go_sem, ↓reduceIte, Nat.reduceEqDiff, reduceCtorEq, q0, qf, qw, qa, hc, hdi] <;> rfl) ?_
     refine Rq ?_
     refine R_q rfl (by simp (disch := first | omega | (simp only [List.length_map, List.length_append, List.length_set, List.length_cons, List.length_nil]; omega)) only [go_sem, ↓reduceIte, Nat.reduceEqDiff, reduceCtorEq, q0, qf, qw, qa, hc, hdi] <;> rfl) ?_
     refine Rq ?_
     refine Rq ?_
     refine R_q rfl (by simp (disch := first | omega | (simp only [List.length_map, List.length_append, List.length_set, List.length_cons, List.length_nil]; omega)) only [go_sem, ↓reduceIte, Nat.reduceEqDiff, reduceCtorEq, q0, qf, qw, qa, hc, hdi] <;> rfl) ?_
     refine Rq ?_
     have tr : ∀ a b c d e f g h i j k m n o p q r s t u v w x y z A B C D E F : AV, let l := lc_max_ok a b c d e f g h i j k m n o p q r s t u v w x; trim ((11,F)::(66,E)::(65,D)::(64,C)::(63,B)::(62,A)::(61,z)::(60,y)::l) l = lc_max_ok a b c d e f g h i j k F n o p q r s t u v w x := by intros; rfl
     refine R_nil (tr ..) ?_; clear tr
     refine blk_n ?_
     refine then_n ?_
     exact ⟨_, _, ⟨k', (gt E (ixE c)).b, _, w ++ [c], (.own 2 HJ.length 0 (w.length + 1)), _, _, _, rfl, rfl, by exact q0, by exact qf, by exact OutA.new g9 (by omega) (by simp), by rw [← hta]; exact T2, by rw [← hta, List.append_assoc]; exact hW, by rw [least_app, ← hla], by omega, by omega, by show H2.length ≤ HK.length; omega⟩, by rfl, by omega⟩
    ·
     try simp only [decide_eq_true_eq, decide_eq_false_iff_not, Bool.not_eq_true', Bool.not_eq_false', beq_iff_eq, beq_eq_false_iff_ne, ne_eq] at h4
     refine rg rfl ?_
     have hta : tailE E c = (gt E (ixE c)).a := by rw [tailE, if_pos (by omega)]
     refine Rq ?_
     refine R_q rfl (by simp (disch := first | omega | (simp only [List.length_map, List.length_append, List.length_set, List.length_cons, List.length_nil]; omega)) only [go_sem, ↓reduceIte, Nat.reduceEqDiff, reduceCtorEq, q0, qf, qw, qa, hc, hdi] <;> rfl) ?_
     refine Rq ?_
     refine R_q rfl (by simp (disch := first | omega | (simp only [List.length_map, List.length_append, List.length_set, List.length_cons, List.length_nil]; omega)) only [go_sem, ↓reduceIte, Nat.reduceEqDiff, reduceCtorEq, q0, qf, qw, qa, hc, hdi] <;> rfl) ?_
     refine Rq ?_
     refine Rq ?_
     refine R_q rfl (by simp (disch := first | omega | (simp only [List.length_map, List.length_append, List.length_set, List.length_cons, List.length_nil]; omega)) only [go_sem, ↓reduceIte, Nat.reduceEqDiff, reduceCtorEq, q0, qf, qw, qa, hc, hdi] <;> rfl) ?_
     refine Rq ?_
     have tr : ∀ a b c d e f g h i j k m n o p q r s t u v w x y z A B C D E F : AV, let l := lc_max_ok a b c d e f g h i j k m n o p q r s t u v w x; trim ((11,F)::(73,E)::(72,D)::(71,C)::(70,B)::(69,A)::(68,z)::(67,y)::l) l = lc_max_ok a b c d e f g h i j k F n o p q r s t u v w x := by intros; rfl
     refine R_nil (tr ..) ?_; clear tr
     refine blk_n ?_
     refine then_n ?_
     exact ⟨_, _, ⟨k', (gt E (ixE c)).a, _, w ++ [c], (.own 2 HJ.length 0 (w.length + 1)), _, _, _, rfl, rfl, by exact q0, by exact qf, by exact OutA.new g9 (by omega) (by simp), by rw [← hta]; exact T2, by rw [← hta, List.append_assoc]; exact hW, by rw [least_app, ← hla], by omega, by omega, by show H2.length ≤ HK.length; omega⟩, by rfl, by omega⟩
   ·
    try simp only [decide_eq_true_eq, decide_eq_false_iff_not, Bool.not_eq_true', Bool.not_eq_false', beq_iff_eq, beq_eq_false_iff_ne, ne_eq] at h3
    refine at_exit rfl ?_
    refine then_x ?_
    refine then_x ?_
    refine blk_x ?_
    refine then_n ?_
    refine at_seq rfl ?_
    refine rg rfl ?_
    have hwe := tree_end T1 (by omega)
    rw [hwe, List.append_nil] at hW
    have hwl := congrArg List.length hW
    rw [wayN_len] at hwl
    have hlw : ∀ x, x ∈ wayN E (reachS n s E f).way m t → la ≤ roomI E f x := by rw [hla, hW]; exact (least_le _ _).2
    obtain ⟨wW, hwW⟩ : ∃ wW, wW = w := ⟨_, rfl⟩
    obtain ⟨bw, rfl, hbw, qw⟩ := hO.resolve_left (fun hh => by have := tree_pos g T; rw [hh.1] at hwl; simp at hwl; omega)
    have lqw := hget_lt qw
    subst hwW
    refine Rq ?_
    refine Rq ?_
    refine Rq ?_
    have tr : ∀ a b c d e f g h i j k m n o p q r s t u v w x y z A : AV, let l := lc_max_ok a b c d e f g h i j k m n o p q r s t u v w x; trim ((76,A)::(75,z)::(74,y)::l) l = lc_max_ok a b c d e f g h i j k m n o p q r s y z A w x := by intros; rfl
    refine R_nil (tr ..) ?_; clear tr
    refine then_n ?_
    refine at_block rfl ?_
    refine loop_n rfl (fun mm kv H' => ∃ j : Nat, ∃ x14 x77 x81 : AV, (kv = [(14, x14), (76, AV.i j), (77, x77), (81, x81)]) ∧ (mm = wW.length - j) ∧ (hget H' H.length = some (graphC n s t E)) ∧ (hget H' H1.length = some ((applyW la f (wW.take j)).map AV.i)) ∧ (hget H' bw = some (flatA wW)) ∧ (j ≤ wW.length) ∧ (H2.length ≤ H'.length)) ⟨0, _, _, _, rfl, rfl, by exact q0, by rw [List.take_zero]; exact qf, by exact qw, by omega, by exact hHB⟩ (by rfl) ?_
    rintro mm kv HF ⟨j, x14, x77, x81, rfl, rfl, q0, qf, qw, hj, hHF⟩
    have tr : ∀ a b c d e f g h i j k m n o p q r s t u v w x y z A B : AV, upd (lc_max_ok a b c d e f g h i j k m n o p q r s t u v w x) [(14,y),(76,z),(77,A),(81,B)] = lc_max_ok a b c d e f g h i j k m n y p q r s t u z A B := by intros; rfl
    refine W_to (tr ..) ?_; clear tr
    refine at_seq rfl ?_
    refine rg rfl ?_
    refine Rq ?_
    have tr : ∀ a b c d e f g h i j k m n o p q r s t u v w x y : AV, let l := lc_max_ok a b c d e f g h i j k m n o p q r s t u v w x; trim ((77,y)::l) l = lc_max_ok a b c d e f g h i j k m n o p q r s t u v y x := by intros; rfl
    refine R_nil (tr ..) ?_; clear tr
    refine then_n ?_
    refine at_seq rfl ?_
    refine cdd (fun h5 => ?_) (fun h5 => ?_)
    ·
     try simp only [decide_eq_true_eq, decide_eq_false_iff_not, Bool.not_eq_true', Bool.not_eq_false', beq_iff_eq, beq_eq_false_iff_ne, ne_eq] at h5
     refine at_skip rfl ?_
     refine then_n ?_
     refine at_seq rfl ?_
     refine at_block rfl ?_
     refine at_seq rfl ?_
     refine rg rfl ?_
     have kqw := hget_lt qw
     have A : ArcOK E f (gt wW j) := WO.arc _ (by rw [← hW, gt_eq _ _ (by omega)]; exact List.getElem_mem _)
     obtain ⟨c, hc⟩ : ∃ c, gt wW j = c := ⟨_, rfl⟩
     rw [hc] at A
     have hnz := A.nz
     have hix := A.ix
     obtain ⟨hd0, hd1, hdi, hdr⟩ := arc_dec A
     have he := ge _ hix
     have hW4 : wW.take j ++ c :: wW.drop (j + 1) = wayN E (reachS n s E f).way m t := by rw [← hc, ← drop_gt wW j (by omega), List.take_append_drop, hW]
     obtain ⟨s1, s2, s3, s4, A2⟩ := aug_step (d := la) (by omega) F.len F.rng WO hlw hW4
     rw [show wW.take j ++ [c] = wW.take (j + 1) by rw [← hc, gt_eq _ _ (by omega), List.take_append_getElem]] at s4
     refine Rq ?_
     refine R_q rfl (by simp (disch := first | omega | (simp only [List.length_map, List.length_append, List.length_set, List.length_cons, List.length_nil]; omega)) only [go_sem, ↓reduceIte, Nat.reduceEqDiff, reduceCtorEq, q0, qf, qw, qa, hc, hdi] <;> rfl) ?_
     refine A_alloc rfl ?_
     intro HG n6
     have en6 := n6.len
     have q0 := (n6.old _ (hget_lt q0)).trans q0
     have qf := (n6.old _ (hget_lt qf)).trans qf
     have qw := (n6.old _ (hget_lt qw)).trans qw
     have qa := n6.new
     have lq0 := hget_lt q0
     have lqf := hget_lt qf
     have lqw := hget_lt qw
     have lqa := hget_lt qa
     refine A_store ty85 (by simp (disch := first | omega | (simp only [List.length_map, List.length_append, List.length_set, List.length_cons, List.length_nil]; omega)) only [go_sem, ↓reduceIte, Nat.reduceEqDiff, reduceCtorEq, q0, qf, qw, qa, hc, hdi] <;> rfl) (by simp (disch := first | omega | (simp only [List.length_map, List.length_append, List.length_set, List.length_cons, List.length_nil]; omega)) only [go_sem, ↓reduceIte, Nat.reduceEqDiff, reduceCtorEq, q0, qf, qw, qa, hc, hdi] <;> rfl) qa ⟨by omega, rfl, by first | exact Nat.le_refl _ | simp⟩ (show _ = arcC c from rfl) ?_
     intro HH w6
     have ew6 := w6.len
     have q0 := (w6.old _ (by omega)).trans q0
     have qf := (w6.old _ (by omega)).trans qf
     have qw := (w6.old _ (by omega)).trans qw
     have qa := w6.new
     have tr : ∀ a b c d e f g h i j k m n o p q r s t u v w x y z A : AV, let l := lc_max_ok a b c d e f g h i j k m n o p q r s t u v w x; trim ((14,A)::(79,z)::(78,y)::l) l = lc_max_ok a b c d e f g h i j k m n A p q r s t u v w x := by intros; rfl
     refine R_nil (tr ..) ?_; clear tr
     refine then_n ?_
     refine at_seq rfl ?_
     refine rg rfl ?_
     refine Rq ?_
     refine R_q rfl (by simp (disch := first | omega | (simp only [List.length_map, List.length_append, List.length_set, List.length_cons, List.length_nil]; omega)) only [go_sem, ↓reduceIte, Nat.reduceEqDiff, reduceCtorEq, q0, qf, qw, qa, hc, hdi] <;> rfl) ?_
     have tr : ∀ a b c d e f g h i j k m n o p q r s t u v w x y z : AV, let l := lc_max_ok a b c d e f g h i j k m n o p q r s t u v w x; trim ((81,z)::(80,y)::l) l = lc_max_ok a b c d e f g h i j k m n o p q r s t u v w z := by intros; rfl
     refine R_nil (tr ..) ?_; clear tr
     refine then_n ?_
     refine cdd (fun h6 => ?_) (fun h6 => ?_)
     ·
      try simp only [decide_eq_true_eq, decide_eq_false_iff_not, Bool.not_eq_true', Bool.not_eq_false', beq_iff_eq, beq_eq_false_iff_ne, ne_eq] at h6
      refine rg rfl ?_
      have hav : addV la (applyW la f (wW.take j)) c = gt (applyW la f (wW.take j)) (ixE c) - la := by rw [addV, if_neg (by omega)]
      rw [hav] at s2
      refine Rq ?_
      refine Rq ?_
      refine R_q rfl (by simp (disch := first | omega | (simp only [List.length_map, List.length_append, List.length_set, List.length_cons, List.length_nil]; omega)) only [go_sem, ↓reduceIte, Nat.reduceEqDiff, reduceCtorEq, q0, qf, qw, qa, hc, hdi] <;> rfl) ?_
      refine Rq ?_
      refine R_q rfl (by simp (disch := first | omega | (simp only [List.length_map, List.length_append, List.length_set, List.length_cons, List.length_nil]; omega)) only [go_sem, ↓reduceIte, Nat.reduceEqDiff, reduceCtorEq, q0, qf, qw, qa, hc, hdi] <;> rfl) ?_
      refine Rq ?_
      refine Rq ?_
      refine Rq ?_
      have lq0 := hget_lt q0
      have lqf := hget_lt qf
      have lqw := hget_lt qw
      have lqa := hget_lt qa
      refine A_store ty2 (by simp (disch := first | omega | (simp only [List.length_map, List.length_append, List.length_set, List.length_cons, List.length_nil]; omega)) only [go_sem, ↓reduceIte, Nat.reduceEqDiff, reduceCtorEq, q0, qf, qw, qa, hc, hdi] <;> rfl) (by simp (disch := first | omega | (simp only [List.length_map, List.length_append, List.length_set, List.length_cons, List.length_nil]; omega)) only [go_sem, ↓reduceIte, Nat.reduceEqDiff, reduceCtorEq, q0, qf, qw, qa, hc, hdi] <;> rfl) qf ⟨by omega, rfl, by simp only [List.length_map]; omega⟩ (k' := (applyW la f (wW.take (j + 1))).map AV.i) (by rw [setL_map, s4, hav]) ?_
      intro HI w9
      have ew9 := w9.len
      have q0 := (w9.old _ (by omega)).trans q0
      have qw := (w9.old _ (by omega)).trans qw
      have qf := w9.new
      have tr : ∀ a b c d e f g h i j k m n o p q r s t u v w x y z A B C D E F : AV, let l := lc_max_ok a b c d e f g h i j k m n o p q r s t u v w x; trim ((89,F)::(88,E)::(87,D)::(86,C)::(85,B)::(84,A)::(83,z)::(82,y)::l) l = lc_max_ok a b c d e f g h i j k m n o p q r s t u v w x := by intros; rfl
      refine R_nil (tr ..) ?_; clear tr
      refine blk_n ?_
      refine then_n ?_
      refine rg rfl ?_
      refine Rq ?_
      refine Rq ?_
      have tr : ∀ a b c d e f g h i j k m n o p q r s t u v w x y z : AV, let l := lc_max_ok a b c d e f g h i j k m n o p q r s t u v w x; trim ((76,z)::(98,y)::l) l = lc_max_ok a b c d e f g h i j k m n o p q r s t u z w x := by intros; rfl
      refine R_nil (tr ..) ?_; clear tr
      refine then_n ?_
      exact ⟨_, _, ⟨j + 1, _, _, _, rfl, rfl, by exact q0, by exact qf, by exact qw, by omega, by show H2.length ≤ HI.length; omega⟩, by rfl, by omega⟩
     ·
      try simp only [decide_eq_true_eq, decide_eq_false_iff_not, Bool.not_eq_true', Bool.not_eq_false', beq_iff_eq, beq_eq_false_iff_ne, ne_eq] at h6
      refine rg rfl ?_
      have hav : addV la (applyW la f (wW.take j)) c = gt (applyW la f (wW.take j)) (ixE c) + la := by rw [addV, if_pos (by omega)]
      rw [hav] at s2
      refine Rq ?_
      refine Rq ?_
      refine R_q rfl (by simp (disch := first | omega | (simp only [List.length_map, List.length_append, List.length_set, List.length_cons, List.length_nil]; omega)) only [go_sem, ↓reduceIte, Nat.reduceEqDiff, reduceCtorEq, q0, qf, qw, qa, hc, hdi] <;> rfl) ?_
      refine Rq ?_
      refine R_q rfl (by simp (disch := first | omega | (simp only [List.length_map, List.length_append, List.length_set, List.length_cons, List.length_nil]; omega)) only [go_sem, ↓reduceIte, Nat.reduceEqDiff, reduceCtorEq, q0, qf, qw, qa, hc, hdi] <;> rfl) ?_
      refine Rq ?_
      refine Rq ?_
      refine Rq ?_
      have lq0 := hget_lt q0
      have lqf := hget_lt qf
      have lqw := hget_lt qw
      have lqa := hget_lt qa
      refine A_store ty2 (by simp (disch := first | omega | (simp only [List.length_map, List.length_append, List.length_set, List.length_cons, List.length_nil]; omega)) only [go_sem, ↓reduceIte, Nat.reduceEqDiff, reduceCtorEq, q0, qf, qw, qa, hc, hdi] <;> rfl) (by simp (disch := first | omega | (simp only [List.length_map, List.length_append, List.length_set, List.length_cons, List.length_nil]; omega)) only [go_sem, ↓reduceIte, Nat.reduceEqDiff, reduceCtorEq, q0, qf, qw, qa, hc, hdi] <;> rfl) qf ⟨by omega, rfl, by simp only [List.length_map]; omega⟩ (k' := (applyW la f (wW.take (j + 1))).map AV.i) (by rw [setL_map, s4, hav]) ?_
      intro HI w9
      have ew9 := w9.len
      have q0 := (w9.old _ (by omega)).trans q0
      have qw := (w9.old _ (by omega)).trans qw
      have qf := w9.new
      have tr : ∀ a b c d e f g h i j k m n o p q r s t u v w x y z A B C D E F : AV, let l := lc_max_ok a b c d e f g h i j k m n o p q r s t u v w x; trim ((97,F)::(96,E)::(95,D)::(94,C)::(93,B)::(92,A)::(91,z)::(90,y)::l) l = lc_max_ok a b c d e f g h i j k m n o p q r s t u v w x := by intros; rfl
      refine R_nil (tr ..) ?_; clear tr
      refine blk_n ?_
      refine then_n ?_
      refine rg rfl ?_
      refine Rq ?_
      refine Rq ?_
      have tr : ∀ a b c d e f g h i j k m n o p q r s t u v w x y z : AV, let l := lc_max_ok a b c d e f g h i j k m n o p q r s t u v w x; trim ((76,z)::(98,y)::l) l = lc_max_ok a b c d e f g h i j k m n o p q r s t u z w x := by intros; rfl
      refine R_nil (tr ..) ?_; clear tr
      refine then_n ?_
      exact ⟨_, _, ⟨j + 1, _, _, _, rfl, rfl, by exact q0, by exact qf, by exact qw, by omega, by show H2.length ≤ HI.length; omega⟩, by rfl, by omega⟩
    ·
     try simp only [decide_eq_true_eq, decide_eq_false_iff_not, Bool.not_eq_true', Bool.not_eq_false', beq_iff_eq, beq_eq_false_iff_ne, ne_eq] at h5
     refine at_exit rfl ?_
     refine then_x ?_
     refine then_x ?_
     refine blk_x ?_
     refine blk_n ?_
     refine then_n ?_
     exact ⟨_, _, ⟨augW n s t E f m, _, _, _, _, _, _, _, _, _, _, _, _, _, _, _, _, _, _, rfl, rfl, by exact q0, by rw [augW, ← hW, ← hla, show wW = wW.take j by rw [List.take_of_length_le (by omega)]]; exact qf, by exact AO.1, by exact fun a h => hR a (.step f a m hst T h), by exact hHF⟩, by rfl, by omega⟩

end Go.Proofs.Ytdmeioppkannlaa
end
section
set_option linter.unusedSimpArgs false
set_option linter.unusedVariables false
set_option maxHeartbeats 40000000
set_option maxRecDepth 4000
namespace Go.Proofs.Ytdmeioppkannlaa
open Go Go.Am

abbrev lc_first_ok (a b c d e f g h i j k m n o p q r s t u v w x y z A B C D E F : AV) : Env := [(0,a),(1,b),(2,c),(4,d),(5,e),(6,f),(7,g),(8,h),(9,i),(10,j),(11,k),(12,m),(13,n),(15,o),(16,p),(17,q),(18,r),(26,s),(30,t),(31,u),(32,v),(33,w),(39,x),(58,y),(59,z),(60,A),(79,B),(89,C),(90,D),(91,E),(100,F)]
theorem first_ok (lim : Nat) (H : Heap) (P : List Int) (L : List Pr) (t : Int) :
    ACall sig lim 7 [.agg (raceC P L), AV.i t] H fun r H' => FirstP P L t r ∧ H' = H := by
 have q0 : True := trivial
 have q4 : True := trivial
 have qg : True := trivial
 have qv : True := trivial
 have hfe : True := trivial
 have hce : True := trivial
 have hst : True := trivial
 refine ACall_pure (fa := fa7) rfl rfl rfl rfl ?_
 have tr : ∀ a0 a1 : AV, env0 fa7.keep [a0, a1] = lc_first_ok a0 a1 .any .any .any .any .any .any .any .any .any .any .any .any .any .any .any .any .any .any .any .any .any .any .any .any .any .any .any .any .any := fun a0 a1 => rfl
 refine W_to (tr _ _) ?_; clear tr
 refine at_seq rfl ?_
 refine rg rfl ?_
 refine A_box rfl (by simp (disch := first | omega | (simp only [List.length_map, List.length_append, List.length_set, List.length_cons, List.length_nil]; omega)) only [go_sem, ↓reduceIte, Nat.reduceEqDiff, reduceCtorEq] <;> rfl) ?_
 intro H1 n0
 have en0 := n0.len
 have q0 := n0.new
 refine A_alloc rfl ?_
 intro H2 n1
 have en1 := n1.len
 have q0 := (n1.old _ (hget_lt q0)).trans q0
 have q4 := n1.new
 refine Rq ?_
 have tr : ∀ a b c d e f g h i j k m n o p q r s t u v w x y z A B C D E F G H I : AV, let l := lc_first_ok a b c d e f g h i j k m n o p q r s t u v w x y z A B C D E F; trim ((5,I)::(4,H)::(2,G)::l) l = lc_first_ok a b G H I f g h i j k m n o p q r s t u v w x y z A B C D E F := by intros; rfl
 refine R_nil (tr ..) ?_; clear tr
 refine then_n ?_
 refine at_seq rfl ?_
 refine rg rfl ?_
 refine R_q rfl (by simp (disch := first | omega | (simp only [List.length_map, List.length_append, List.length_set, List.length_cons, List.length_nil]; omega)) only [go_sem, ↓reduceIte, Nat.reduceEqDiff, reduceCtorEq, q0, q4, qg, qv, hfe, hce, hst] <;> rfl) ?_
 refine Rq ?_
 refine Rcall ?_
 refine ACall_eq (mst_ok _ _ P L t) ?_
 refine Rq ?_
 refine Rq ?_
 refine Rq ?_
 refine Rq ?_
 refine Rq ?_
 have tr : ∀ a b c d e f g h i j k m n o p q r s t u v w x y z A B C D E F G H I J K L M N : AV, let l := lc_first_ok a b c d e f g h i j k m n o p q r s t u v w x y z A B C D E F; trim ((7,N)::(6,M)::(24,L)::(23,K)::(19,J)::(22,I)::(21,H)::(20,G)::l) l = lc_first_ok a b c d e M N h i j k m n o p q r s t u v w x y z A B C D E F := by intros; rfl
 refine R_nil (tr ..) ?_; clear tr
 refine then_n ?_
 refine at_seq rfl ?_
 refine at_seq rfl ?_
 refine rg rfl ?_
 refine Rq ?_
 refine Rq ?_
 have tr : ∀ a b c d e f g h i j k m n o p q r s t u v w x y z A B C D E F G H : AV, let l := lc_first_ok a b c d e f g h i j k m n o p q r s t u v w x y z A B C D E F; trim ((26,H)::(25,G)::l) l = lc_first_ok a b c d e f g h i j k m n o p q r H t u v w x y z A B C D E F := by intros; rfl
 refine R_nil (tr ..) ?_; clear tr
 refine then_n ?_
 refine cdd (fun h1 => ?_) (fun h1 => ?_)
 ·
  try simp only [decide_eq_true_eq, decide_eq_false_iff_not, Bool.not_eq_true', Bool.not_eq_false', beq_iff_eq, beq_eq_false_iff_ne, ne_eq] at h1
  refine at_seq rfl ?_
  refine rg rfl ?_
  refine Rq ?_
  refine Rq ?_
  have lq0 := hget_lt q0
  have lq4 := hget_lt q4
  refine A_store ty40 (by simp (disch := first | omega | (simp only [List.length_map, List.length_append, List.length_set, List.length_cons, List.length_nil]; omega)) only [go_sem, ↓reduceIte, Nat.reduceEqDiff, reduceCtorEq, q0, q4, qg, qv, hfe, hce, hst] <;> rfl) (by simp (disch := first | omega | (simp only [List.length_map, List.length_append, List.length_set, List.length_cons, List.length_nil]; omega)) only [go_sem, ↓reduceIte, Nat.reduceEqDiff, reduceCtorEq, q0, q4, qg, qv, hfe, hce, hst] <;> rfl) q4 ⟨by omega, rfl, by first | exact Nat.le_refl _ | simp⟩ (show _ = [.v (.bool false), nilP, nilP] from rfl) ?_
  intro HZa wza
  have ewza := wza.len
  have q0 := (wza.old _ (by omega)).trans q0
  have q4 := wza.new
  refine Rq ?_
  have tr : ∀ a b c d e f g h i j k m n o p q r s t u v w x y z A B C D E F G H I : AV, let l := lc_first_ok a b c d e f g h i j k m n o p q r s t u v w x y z A B C D E F; trim ((5,I)::(28,H)::(27,G)::l) l = lc_first_ok a b c d I f g h i j k m n o p q r s t u v w x y z A B C D E F := by intros; rfl
  refine R_nil (tr ..) ?_; clear tr
  refine then_n ?_
  refine at_ret rfl ?_
  refine then_r ?_
  refine fin_pure (rs := [.cell 4 40, .tmp 5]) rfl (by simp only [go_sem, ↓reduceIte, Nat.reduceEqDiff, q4]; rfl) rfl ?_
  obtain ⟨fB, fS⟩ := first_e (by assumption : ¬ (mostS P L t).2 = 0)
  refine ⟨⟨[], nilP, ?_, .inl ⟨fB, rfl, rfl⟩⟩, rfl⟩
  rw [fB, fS]
  rfl
 ·
  try simp only [decide_eq_true_eq, decide_eq_false_iff_not, Bool.not_eq_true', Bool.not_eq_false', beq_iff_eq, beq_eq_false_iff_ne, ne_eq] at h1
  refine at_skip rfl ?_
  refine then_n ?_
  refine at_seq rfl ?_
  refine at_seq rfl ?_
  refine rg rfl ?_
  have hm0 : (mostS P L t).2 = 0 := by assumption
  obtain ⟨g, t0, t1⟩ := most_of hm0
  have g20 := g.n20
  have g2 := g.n2
  have gel := g.el
  have gpr := g.pr
  have hme := most_eq hm0
  have hmr := most_rng (L := L) (g.pt t.toNat (by omega)).1 (g.pt t.toNat (by omega)).2 L.length
  rw [← hme] at hmr
  refine Rq ?_
  refine R_q rfl (by simp (disch := first | omega | (simp only [List.length_map, List.length_append, List.length_set, List.length_cons, List.length_nil]; omega)) only [go_sem, ↓reduceIte, Nat.reduceEqDiff, reduceCtorEq, q0, q4, qg, qv, hfe, hce, hst] <;> rfl) ?_
  refine Rq ?_
  refine Rq ?_
  have tr : ∀ a b c d e f g h i j k m n o p q r s t u v w x y z A B C D E F G H I J : AV, let l := lc_first_ok a b c d e f g h i j k m n o p q r s t u v w x y z A B C D E F; trim ((32,J)::(31,I)::(30,H)::(29,G)::l) l = lc_first_ok a b c d e f g h i j k m n o p q r s H I J w x y z A B C D E F := by intros; rfl
  refine R_nil (tr ..) ?_; clear tr
  refine then_n ?_
  refine at_block rfl ?_
  refine loop_n rfl (fun mm kv H' => ∃ u : Nat, ∃ x5 x8 x9 x33 x39 : AV, (kv = [(5, x5), (8, x8), (9, x9), (32, AV.i u), (33, x33), (39, x39)]) ∧ (mm = P.length - u) ∧ (H2 = H') ∧ (u ≤ P.length) ∧ (badN P (mostS P L t).1 u = -1)) ⟨0, _, _, _, _, _, rfl, rfl, by rfl, by omega, by rfl⟩ (by rfl) ?_
  rintro mm kv HX ⟨u, x5, x8, x9, x33, x39, rfl, rfl, hX, hu, hq⟩
  have tr : ∀ a b c d e f g h i j k m n o p q r s t u v w x y z A B C D E F G H I J K L : AV, upd (lc_first_ok a b c d e f g h i j k m n o p q r s t u v w x y z A B C D E F) [(5,G),(8,H),(9,I),(32,J),(33,K),(39,L)] = lc_first_ok a b c d G f g H I j k m n o p q r s t u J K L y z A B C D E F := by intros; rfl
  refine W_to (tr ..) ?_; clear tr
  subst hX
  refine at_seq rfl ?_
  refine rg rfl ?_
  refine Rq ?_
  have tr : ∀ a b c d e f g h i j k m n o p q r s t u v w x y z A B C D E F G : AV, let l := lc_first_ok a b c d e f g h i j k m n o p q r s t u v w x y z A B C D E F; trim ((33,G)::l) l = lc_first_ok a b c d e f g h i j k m n o p q r s t u v G x y z A B C D E F := by intros; rfl
  refine R_nil (tr ..) ?_; clear tr
  refine then_n ?_
  refine at_seq rfl ?_
  refine cdd (fun h2 => ?_) (fun h2 => ?_)
  ·
   try simp only [decide_eq_true_eq, decide_eq_false_iff_not, Bool.not_eq_true', Bool.not_eq_false', beq_iff_eq, beq_eq_false_iff_ne, ne_eq] at h2
   refine at_skip rfl ?_
   refine then_n ?_
   refine at_seq rfl ?_
   refine at_block rfl ?_
   refine at_seq rfl ?_
   refine rg rfl ?_
   have hpu := g.pt u (by omega)
   refine Rq ?_
   refine Rq ?_
   refine R_q rfl (by simp (disch := first | omega | (simp only [List.length_map, List.length_append, List.length_set, List.length_cons, List.length_nil]; omega)) only [go_sem, ↓reduceIte, Nat.reduceEqDiff, reduceCtorEq, q0, q4, qg, qv, hfe, hce, hst] <;> rfl) ?_
   refine Rq ?_
   refine Rq ?_
   have tr : ∀ a b c d e f g h i j k m n o p q r s t u v w x y z A B C D E F G H I J K : AV, let l := lc_first_ok a b c d e f g h i j k m n o p q r s t u v w x y z A B C D E F; trim ((9,K)::(8,J)::(36,I)::(35,H)::(34,G)::l) l = lc_first_ok a b c d e f g J K j k m n o p q r s t u v w x y z A B C D E F := by intros; rfl
   refine R_nil (tr ..) ?_; clear tr
   refine then_n ?_
   refine at_seq rfl ?_
   refine rg rfl ?_
   refine Rq ?_
   refine Rq ?_
   refine Rq ?_
   have tr : ∀ a b c d e f g h i j k m n o p q r s t u v w x y z A B C D E F G H I : AV, let l := lc_first_ok a b c d e f g h i j k m n o p q r s t u v w x y z A B C D E F; trim ((39,I)::(38,H)::(37,G)::l) l = lc_first_ok a b c d e f g h i j k m n o p q r s t u v w I y z A B C D E F := by intros; rfl
   refine R_nil (tr ..) ?_; clear tr
   refine then_n ?_
   refine cdd (fun h3 => ?_) (fun h3 => ?_)
   ·
    try simp only [decide_eq_true_eq, decide_eq_false_iff_not, Bool.not_eq_true', Bool.not_eq_false', beq_iff_eq, beq_eq_false_iff_ne, ne_eq] at h3
    refine at_seq rfl ?_
    refine rg rfl ?_
    refine Rq ?_
    refine A_buildSlice (bs40' _ _ _ _ (u : Int) (by simp (disch := first | omega | (simp only [List.length_map, List.length_append, List.length_set, List.length_cons, List.length_nil]; omega)) only [go_sem, ↓reduceIte, Nat.reduceEqDiff, reduceCtorEq, q0, q4, qg, qv, hfe, hce, hst])) ?_
    intro H3 n2
    have en2 := n2.len
    have q0 := (n2.old _ (hget_lt q0)).trans q0
    have q4 := (n2.old _ (hget_lt q4)).trans q4
    have qn := n2.new
    refine Rq ?_
    have lq0 := hget_lt q0
    have lq4 := hget_lt q4
    have lqn := hget_lt qn
    refine A_store ty40 (by simp (disch := first | omega | (simp only [List.length_map, List.length_append, List.length_set, List.length_cons, List.length_nil]; omega)) only [go_sem, ↓reduceIte, Nat.reduceEqDiff, reduceCtorEq, q0, q4, qg, qv, hfe, hce, hst] <;> rfl) (by simp (disch := first | omega | (simp only [List.length_map, List.length_append, List.length_set, List.length_cons, List.length_nil]; omega)) only [go_sem, ↓reduceIte, Nat.reduceEqDiff, reduceCtorEq, q0, q4, qg, qv, hfe, hce, hst] <;> rfl) q4 ⟨by omega, rfl, by first | exact Nat.le_refl _ | simp⟩ (show _ = [.v (.bool false), .own 1 H2.length 0 1, nilP] from rfl) ?_
    intro HZb wzb
    have ewzb := wzb.len
    have q0 := (wzb.old _ (by omega)).trans q0
    have qn := (wzb.old _ (by omega)).trans qn
    have q4 := wzb.new
    refine Rq ?_
    have tr : ∀ a b c d e f g h i j k m n o p q r s t u v w x y z A B C D E F G H I J : AV, let l := lc_first_ok a b c d e f g h i j k m n o p q r s t u v w x y z A B C D E F; trim ((5,J)::(42,I)::(41,H)::(40,G)::l) l = lc_first_ok a b c d J f g h i j k m n o p q r s t u v w x y z A B C D E F := by intros; rfl
    refine R_nil (tr ..) ?_; clear tr
    refine then_n ?_
    refine at_ret rfl ?_
    refine blk_r ?_
    refine then_r ?_
    refine then_r ?_
    refine blk_r ?_
    refine then_r ?_
    refine fin_pure (rs := [.cell 4 40, .tmp 5]) rfl (by simp only [go_sem, ↓reduceIte, Nat.reduceEqDiff, q4]; rfl) rfl ?_
    have hbk := bad_at hq (by omega) P.length (by omega)
    obtain ⟨fB, fS⟩ := first_b hm0 (by omega)
    refine ⟨⟨[], nilP, ?_, .inl ⟨fB, rfl, rfl⟩⟩, rfl⟩
    rw [fB, fS]
    rw [hbk]
    show AV.tup [AV.agg [_, frz HZb H.length 6 _, _], _] = _
    rw [frz_ownI (n := 1) (l := [(u : Int)]) (by omega) qn rfl]
    rw [hm0]
    rfl
   ·
    try simp only [decide_eq_true_eq, decide_eq_false_iff_not, Bool.not_eq_true', Bool.not_eq_false', beq_iff_eq, beq_eq_false_iff_ne, ne_eq] at h3
    refine at_skip rfl ?_
    refine blk_n ?_
    refine then_n ?_
    refine rg rfl ?_
    refine Rq ?_
    refine Rq ?_
    have tr : ∀ a b c d e f g h i j k m n o p q r s t u v w x y z A B C D E F G H : AV, let l := lc_first_ok a b c d e f g h i j k m n o p q r s t u v w x y z A B C D E F; trim ((32,H)::(43,G)::l) l = lc_first_ok a b c d e f g h i j k m n o p q r s t u H w x y z A B C D E F := by intros; rfl
    refine R_nil (tr ..) ?_; clear tr
    refine then_n ?_
    exact ⟨_, _, ⟨u + 1, _, _, _, _, _, rfl, rfl, by rfl, by omega, by exact bad_on hq (by omega)⟩, by rfl, by omega⟩
  ·
   try simp only [decide_eq_true_eq, decide_eq_false_iff_not, Bool.not_eq_true', Bool.not_eq_false', beq_iff_eq, beq_eq_false_iff_ne, ne_eq] at h2
   refine at_exit rfl ?_
   refine then_x ?_
   refine then_x ?_
   refine blk_x ?_
   refine then_n ?_
   refine at_seq rfl ?_
   refine rg rfl ?_
   obtain rfl : u = P.length := by omega
   have hpa := bad_all hq
   have WQ : PQ L t (pQ L t) := (pq_prog L t L.length).to
   have hql := pq_len WQ
   obtain ⟨E, f, sn, e1, e2, e3, hc0, hE1, hE2, hfl, hsl, hEc, hfr, CU⟩ := first_sum hm0 hpa WQ (pb := 2) (tb := (2 + ((pQ L t).length : Int))) (n := (2 + ((pQ L t).length : Int) + (P.length : Int))) ⟨by omega, by omega, by omega, by omega, by omega⟩ (by omega)
   have hqe : (pairsN (othN L t L.length) (othN L t L.length).length).length = (pQ L t).length := rfl
   have hqe2 : (pairsN (othS L t) (othS L t).length).length = (pQ L t).length := rfl
   refine R_q rfl (by simp (disch := first | omega | (simp only [List.length_map, List.length_append, List.length_set, List.length_cons, List.length_nil]; omega)) only [go_sem, ↓reduceIte, Nat.reduceEqDiff, reduceCtorEq, q0, q4, qg, qv, hfe, hce, hst] <;> rfl) ?_
   refine Rq ?_
   refine Rq ?_
   refine Rcall ?_
   refine ACall_eq (graph_ok _ _ P L t _ g t0 t1 (fun k hk => by have := hpa k hk; omega) (by omega)) ?_
   rewrite [e1]
   refine Rq ?_
   refine Rq ?_
   refine Rq ?_
   refine A_alloc rfl ?_
   intro H4 n3
   have en3 := n3.len
   have q0 := (n3.old _ (hget_lt q0)).trans q0
   have q4 := (n3.old _ (hget_lt q4)).trans q4
   have qg := n3.new
   have lq0 := hget_lt q0
   have lq4 := hget_lt q4
   have lqg := hget_lt qg
   refine A_store ty62 (by simp (disch := first | omega | (simp only [List.length_map, List.length_append, List.length_set, List.length_cons, List.length_nil]; omega)) only [go_sem, ↓reduceIte, Nat.reduceEqDiff, reduceCtorEq, q0, q4, qg, qv, hfe, hce, hst] <;> rfl) (by simp (disch := first | omega | (simp only [List.length_map, List.length_append, List.length_set, List.length_cons, List.length_nil]; omega)) only [go_sem, ↓reduceIte, Nat.reduceEqDiff, reduceCtorEq, q0, q4, qg, qv, hfe, hce, hst] <;> rfl) qg ⟨by omega, rfl, by first | exact Nat.le_refl _ | simp⟩ (show _ = graphC (2 + ((pQ L t).length : Int) + (P.length : Int)) 0 1 E from rfl) ?_
   intro H5 w3
   have ew3 := w3.len
   have q0 := (w3.old _ (by omega)).trans q0
   have q4 := (w3.old _ (by omega)).trans q4
   have qg := w3.new
   refine Rq ?_
   have tr : ∀ a b c d e f g h i j k m n o p q r s t u v w x y z A B C D E F G H I J K L M N O : AV, let l := lc_first_ok a b c d e f g h i j k m n o p q r s t u v w x y z A B C D E F; trim ((11,O)::(10,N)::(50,M)::(49,L)::(44,K)::(48,J)::(47,I)::(46,H)::(45,G)::l) l = lc_first_ok a b c d e f g h i N O m n o p q r s t u v w x y z A B C D E F := by intros; rfl
   refine R_nil (tr ..) ?_; clear tr
   refine then_n ?_
   refine at_seq rfl ?_
   refine rg rfl ?_
   refine R_q rfl (by simp (disch := first | omega | (simp only [List.length_map, List.length_append, List.length_set, List.length_cons, List.length_nil]; omega)) only [go_sem, ↓reduceIte, Nat.reduceEqDiff, reduceCtorEq, q0, q4, qg, qv, hfe, hce, hst] <;> rfl) ?_
   refine Rcall ?_
   refine ACall_eq (max_ok _ _ _ _ _ _) ?_
   rewrite [maxA_is hc0, maxB_is hc0, e2, e3]
   refine Rq ?_
   refine Rq ?_
   refine Rq ?_
   refine Rq ?_
   refine Rq ?_
   refine Rq ?_
   refine Rq ?_
   have tr : ∀ a b c d e f g h i j k m n o p q r s t u v w x y z A B C D E F G H I J K L M N O : AV, let l := lc_first_ok a b c d e f g h i j k m n o p q r s t u v w x y z A B C D E F; trim ((14,O)::(13,N)::(12,M)::(56,L)::(55,K)::(54,J)::(51,I)::(53,H)::(52,G)::l) l = lc_first_ok a b c d e f g h i j k M N o p q r s t u v w x y z A B C D E F := by intros; rfl
   refine R_nil (tr ..) ?_; clear tr
   refine then_n ?_
   refine at_seq rfl ?_
   refine rg rfl ?_
   refine Rq ?_
   have tr : ∀ a b c d e f g h i j k m n o p q r s t u v w x y z A B C D E F G : AV, let l := lc_first_ok a b c d e f g h i j k m n o p q r s t u v w x y z A B C D E F; trim ((15,G)::l) l = lc_first_ok a b c d e f g h i j k m n G p q r s t u v w x y z A B C D E F := by intros; rfl
   refine R_nil (tr ..) ?_; clear tr
   refine then_n ?_
   refine at_seq rfl ?_
   refine at_seq rfl ?_
   refine rg rfl ?_
   refine Rq ?_
   refine R_q rfl (by simp (disch := first | omega | (simp only [List.length_map, List.length_append, List.length_set, List.length_cons, List.length_nil]; omega)) only [go_sem, ↓reduceIte, Nat.reduceEqDiff, reduceCtorEq, q0, q4, qg, qv, hfe, hce, hst]; exact pairsA_len _) ?_
   refine Rq ?_
   have tr : ∀ a b c d e f g h i j k m n o p q r s t u v w x y z A B C D E F G H I : AV, let l := lc_first_ok a b c d e f g h i j k m n o p q r s t u v w x y z A B C D E F; trim ((59,I)::(58,H)::(57,G)::l) l = lc_first_ok a b c d e f g h i j k m n o p q r s t u v w x H I A B C D E F := by intros; rfl
   refine R_nil (tr ..) ?_; clear tr
   refine then_n ?_
   refine at_block rfl ?_
   refine loop_n rfl (fun mm kv H' => ∃ i : Nat, ∃ full : Bool, ∃ x16 x60 : AV, (kv = [(15, AV.b full), (16, x16), (59, AV.i i), (60, x60)]) ∧ (mm = (pQ L t).length - i) ∧ (H5 = H') ∧ (i ≤ (pQ L t).length) ∧ ((full = true ↔ ∀ k, k < i → gt f (3 * k) = cQ L t (pQ L t) k))) ⟨0, true, _, _, rfl, rfl, by rfl, by omega, by exact ⟨fun _ k hk => by omega, fun _ => rfl⟩⟩ (by rfl) ?_
   rintro mm kv HX ⟨i, full, x16, x60, rfl, rfl, hX, hi, hf⟩
   have tr : ∀ a b c d e f g h i j k m n o p q r s t u v w x y z A B C D E F G H I J : AV, upd (lc_first_ok a b c d e f g h i j k m n o p q r s t u v w x y z A B C D E F) [(15,G),(16,H),(59,I),(60,J)] = lc_first_ok a b c d e f g h i j k m n G H q r s t u v w x y I J B C D E F := by intros; rfl
   refine W_to (tr ..) ?_; clear tr
   subst hX
   refine at_seq rfl ?_
   refine rg rfl ?_
   refine Rq ?_
   have tr : ∀ a b c d e f g h i j k m n o p q r s t u v w x y z A B C D E F G : AV, let l := lc_first_ok a b c d e f g h i j k m n o p q r s t u v w x y z A B C D E F; trim ((60,G)::l) l = lc_first_ok a b c d e f g h i j k m n o p q r s t u v w x y z G B C D E F := by intros; rfl
   refine R_nil (tr ..) ?_; clear tr
   refine then_n ?_
   refine at_seq rfl ?_
   refine cdd (fun h4 => ?_) (fun h4 => ?_)
   ·
    try simp only [decide_eq_true_eq, decide_eq_false_iff_not, Bool.not_eq_true', Bool.not_eq_false', beq_iff_eq, beq_eq_false_iff_ne, ne_eq] at h4
    refine at_skip rfl ?_
    refine then_n ?_
    refine at_seq rfl ?_
    refine at_block rfl ?_
    refine at_seq rfl ?_
    refine rg rfl ?_
    refine Rq ?_
    refine Rq ?_
    have tr : ∀ a b c d e f g h i j k m n o p q r s t u v w x y z A B C D E F G H : AV, let l := lc_first_ok a b c d e f g h i j k m n o p q r s t u v w x y z A B C D E F; trim ((16,H)::(61,G)::l) l = lc_first_ok a b c d e f g h i j k m n o H q r s t u v w x y z A B C D E F := by intros; rfl
    refine R_nil (tr ..) ?_; clear tr
    refine then_n ?_
    refine rd rfl rfl ?_
    have hfi := hfr i (by omega)
    have hfe : gt f (3 * (i : Int)).toNat = gt f (3 * i) := by rw [show (3 * (i : Int)).toNat = 3 * i by omega]
    have hce : (gt E (3 * (i : Int)).toNat).c = cQ L t (pQ L t) i := by rw [show (3 * (i : Int)).toNat = 3 * i by omega]; exact hEc i (by omega)
    refine Qq ?_
    refine Qq ?_
    refine Qp_split (fun h5 => ?_) (fun h5 => ?_)
    ·
     try simp only [decide_eq_true_eq, decide_eq_false_iff_not, Bool.not_eq_true', Bool.not_eq_false', beq_iff_eq, beq_eq_false_iff_ne, ne_eq] at h5
     refine Qy ?_
     refine Qq ?_
     refine Qy ?_
     refine Qq ?_
     refine Qy ?_
     refine Qq ?_
     refine Qy ?_
     refine Qq ?_
     refine Qy ?_
     refine Q_q rfl (by simp (disch := first | omega | (simp only [List.length_map, List.length_append, List.length_set, List.length_cons, List.length_nil]; omega)) only [go_sem, ↓reduceIte, Nat.reduceEqDiff, reduceCtorEq, q0, q4, qg, qv, hfe, hce, hst] <;> rfl) ?_
     refine Qy ?_
     refine Qq ?_
     refine Qy ?_
     refine Q_q rfl (by simp (disch := first | omega | (simp only [List.length_map, List.length_append, List.length_set, List.length_cons, List.length_nil]; omega)) only [go_sem, ↓reduceIte, Nat.reduceEqDiff, reduceCtorEq, q0, q4, qg, qv, hfe, hce, hst] <;> rfl) ?_
     refine Qy ?_
     refine Qq ?_
     refine Qy ?_
     refine Qq ?_
     refine Qy ?_
     refine Qq ?_
     refine Qy ?_
     refine Qq ?_
     refine Qy ?_
     refine Q_q rfl (by simp (disch := first | omega | (simp only [List.length_map, List.length_append, List.length_set, List.length_cons, List.length_nil]; omega)) only [go_sem, ↓reduceIte, Nat.reduceEqDiff, reduceCtorEq, q0, q4, qg, qv, hfe, hce, hst] <;> rfl) ?_
     refine Qy ?_
     refine Qq ?_
     refine Qq ?_
     refine Qq ?_
     refine Q_nil ?_
     have tr : ∀ a b c d e f g h i j k m n o p q r s t u v w x y z A B C D E F G H I J K L M N O P Q R S T U V W : AV, let l := lc_first_ok a b c d e f g h i j k m n o p q r s t u v w x y z A B C D E F; trim ((15,W)::(77,V)::(76,U)::(75,T)::(74,S)::(73,R)::(72,Q)::(71,P)::(70,O)::(69,N)::(68,M)::(67,L)::(66,K)::(65,J)::(64,I)::(63,H)::(62,G)::l) l = lc_first_ok a b c d e f g h i j k m n W p q r s t u v w x y z A B C D E F := by intros; rfl
     refine R_nil (tr ..) ?_; clear tr
     refine blk_n ?_
     refine then_n ?_
     refine rg rfl ?_
     refine Rq ?_
     refine Rq ?_
     have tr : ∀ a b c d e f g h i j k m n o p q r s t u v w x y z A B C D E F G H : AV, let l := lc_first_ok a b c d e f g h i j k m n o p q r s t u v w x y z A B C D E F; trim ((59,H)::(78,G)::l) l = lc_first_ok a b c d e f g h i j k m n o p q r s t u v w x y H A B C D E F := by intros; rfl
     refine R_nil (tr ..) ?_; clear tr
     refine then_n ?_
     exact ⟨_, _, ⟨i + 1, _, _, _, rfl, rfl, by rfl, by omega, by first | exact full_on hf (by assumption) | exact full_off hf (by assumption)⟩, by rfl, by omega⟩
    ·
     try simp only [decide_eq_true_eq, decide_eq_false_iff_not, Bool.not_eq_true', Bool.not_eq_false', beq_iff_eq, beq_eq_false_iff_ne, ne_eq] at h5
     refine Qn ?_
     refine Qn ?_
     refine Qn ?_
     refine Qn ?_
     refine Qn ?_
     refine Qn ?_
     refine Qn ?_
     refine Qn ?_
     refine Qn ?_
     refine Qn ?_
     refine Qn ?_
     refine Qn ?_
     refine Qn ?_
     refine Qq ?_
     refine Qq ?_
     refine Q_nil ?_
     have tr : ∀ a b c d e f g h i j k m n o p q r s t u v w x y z A B C D E F G H I J K L M N O P Q R S T U V W : AV, let l := lc_first_ok a b c d e f g h i j k m n o p q r s t u v w x y z A B C D E F; trim ((15,W)::(77,V)::(76,U)::(75,T)::(74,S)::(73,R)::(72,Q)::(71,P)::(70,O)::(69,N)::(68,M)::(67,L)::(66,K)::(65,J)::(64,I)::(63,H)::(62,G)::l) l = lc_first_ok a b c d e f g h i j k m n W p q r s t u v w x y z A B C D E F := by intros; rfl
     refine R_nil (tr ..) ?_; clear tr
     refine blk_n ?_
     refine then_n ?_
     refine rg rfl ?_
     refine Rq ?_
     refine Rq ?_
     have tr : ∀ a b c d e f g h i j k m n o p q r s t u v w x y z A B C D E F G H : AV, let l := lc_first_ok a b c d e f g h i j k m n o p q r s t u v w x y z A B C D E F; trim ((59,H)::(78,G)::l) l = lc_first_ok a b c d e f g h i j k m n o p q r s t u v w x y H A B C D E F := by intros; rfl
     refine R_nil (tr ..) ?_; clear tr
     refine then_n ?_
     exact ⟨_, _, ⟨i + 1, _, _, _, rfl, rfl, by rfl, by omega, by first | exact full_on hf (by assumption) | exact full_off hf (by assumption)⟩, by rfl, by omega⟩
   ·
    try simp only [decide_eq_true_eq, decide_eq_false_iff_not, Bool.not_eq_true', Bool.not_eq_false', beq_iff_eq, beq_eq_false_iff_ne, ne_eq] at h4
    refine at_exit rfl ?_
    refine then_x ?_
    refine then_x ?_
    refine blk_x ?_
    refine then_n ?_
    refine at_seq rfl ?_
    refine at_seq rfl ?_
    refine rg rfl ?_
    refine Rq ?_
    have tr : ∀ a b c d e f g h i j k m n o p q r s t u v w x y z A B C D E F G : AV, let l := lc_first_ok a b c d e f g h i j k m n o p q r s t u v w x y z A B C D E F; trim ((79,G)::l) l = lc_first_ok a b c d e f g h i j k m n o p q r s t u v w x y z A G C D E F := by intros; rfl
    refine R_nil (tr ..) ?_; clear tr
    refine then_n ?_
    refine cdd (fun h6 => ?_) (fun h6 => ?_)
    ·
     try simp only [decide_eq_true_eq, decide_eq_false_iff_not, Bool.not_eq_true', Bool.not_eq_false', beq_iff_eq, beq_eq_false_iff_ne, ne_eq] at h6
     refine at_seq rfl ?_
     refine rg rfl ?_
     obtain rfl : i = (pQ L t).length := by omega
     have hpos : posB P L (mostS P L t).1 t = true := CU.full.1 (hf.1 (by assumption))
     obtain ⟨fB, fS⟩ := first_y hm0 hq hpos
     refine R_q rfl (by simp (disch := first | omega | (simp only [List.length_map, List.length_append, List.length_set, List.length_cons, List.length_nil]; omega)) only [go_sem, ↓reduceIte, Nat.reduceEqDiff, reduceCtorEq, q0, q4, qg, qv, hfe, hce, hst] <;> rfl) ?_
     refine Rq ?_
     refine Rq ?_
     refine Rq ?_
     refine Rcall ?_
     refine ACall_eq (results_ok _ _ P L t f g t0 t1 (by omega) (by omega) (fun i hi => (hfr i hi).2)) ?_
     refine R_q rfl (by simp (disch := first | omega | (simp only [List.length_map, List.length_append, List.length_set, List.length_cons, List.length_nil]; omega)) only [go_sem, ↓reduceIte, Nat.reduceEqDiff, reduceCtorEq, q0, q4, qg, qv, hfe, hce, hst]; exact bld46rs _ _ _) ?_
     have lq0 := hget_lt q0
     have lq4 := hget_lt q4
     have lqg := hget_lt qg
     refine A_store ty40 (by simp (disch := first | omega | (simp only [List.length_map, List.length_append, List.length_set, List.length_cons, List.length_nil]; omega)) only [go_sem, ↓reduceIte, Nat.reduceEqDiff, reduceCtorEq, q0, q4, qg, qv, hfe, hce, hst] <;> rfl) (by simp (disch := first | omega | (simp only [List.length_map, List.length_append, List.length_set, List.length_cons, List.length_nil]; omega)) only [go_sem, ↓reduceIte, Nat.reduceEqDiff, reduceCtorEq, q0, q4, qg, qv, hfe, hce, hst] <;> rfl) q4 ⟨by omega, rfl, by first | exact Nat.le_refl _ | simp⟩ (show _ = [.v (.bool true), nilP, intsAV _] from rfl) ?_
     intro HZc wzc
     have ewzc := wzc.len
     have q0 := (wzc.old _ (by omega)).trans q0
     have qg := (wzc.old _ (by omega)).trans qg
     have q4 := wzc.new
     refine Rq ?_
     have tr : ∀ a b c d e f g h i j k m n o p q r s t u v w x y z A B C D E F G H I J K L M : AV, let l := lc_first_ok a b c d e f g h i j k m n o p q r s t u v w x y z A B C D E F; trim ((5,M)::(85,L)::(84,K)::(83,J)::(82,I)::(81,H)::(80,G)::l) l = lc_first_ok a b c d M f g h i j k m n o p q r s t u v w x y z A B C D E F := by intros; rfl
     refine R_nil (tr ..) ?_; clear tr
     refine then_n ?_
     refine at_ret rfl ?_
     refine then_r ?_
     refine fin_pure (rs := [.cell 4 40, .tmp 5]) rfl (by simp only [go_sem, ↓reduceIte, Nat.reduceEqDiff, q4]; rfl) rfl ?_
     refine ⟨⟨_, _, ?_, .inr ⟨fB, rfl, vr_of g t0 t1 hme CU hpos⟩⟩, rfl⟩
     rw [fB, fS]
     show AV.tup [AV.agg [_, _, AV.sl _ (List.map (frz HZc H.length 5) _)], _] = _
     rw [frz_ints, hm0]
     rfl
    ·
     try simp only [decide_eq_true_eq, decide_eq_false_iff_not, Bool.not_eq_true', Bool.not_eq_false', beq_iff_eq, beq_eq_false_iff_ne, ne_eq] at h6
     refine at_skip rfl ?_
     refine then_n ?_
     refine at_seq rfl ?_
     refine rg rfl ?_
     obtain rfl : i = (pQ L t).length := by omega
     have hneg : posB P L (mostS P L t).1 t = false := by
       cases hpb : posB P L (mostS P L t).1 t with
       | false => rfl
       | true => have h7 := hf.2 (CU.full.2 hpb); simp_all
     obtain ⟨fB, fS⟩ := first_n hm0 hq hneg
     obtain ⟨hdf, kT, hkT, hkI⟩ := CU.elim hneg
     refine Rq ?_
     refine A_alloc rfl ?_
     intro H6 n6
     have en6 := n6.len
     have q0 := (n6.old _ (hget_lt q0)).trans q0
     have q4 := (n6.old _ (hget_lt q4)).trans q4
     have qg := (n6.old _ (hget_lt qg)).trans qg
     have qv := n6.new
     have lq0 := hget_lt q0
     have lq4 := hget_lt q4
     have lqg := hget_lt qg
     have lqv := hget_lt qv
     refine A_store ty40 (by simp (disch := first | omega | (simp only [List.length_map, List.length_append, List.length_set, List.length_cons, List.length_nil]; omega)) only [go_sem, ↓reduceIte, Nat.reduceEqDiff, reduceCtorEq, q0, q4, qg, qv, hfe, hce, hst] <;> rfl) (by simp (disch := first | omega | (simp only [List.length_map, List.length_append, List.length_set, List.length_cons, List.length_nil]; omega)) only [go_sem, ↓reduceIte, Nat.reduceEqDiff, reduceCtorEq, q0, q4, qg, qv, hfe, hce, hst] <;> rfl) qv ⟨by omega, rfl, by first | exact Nat.le_refl _ | simp⟩ (show _ = [.v (.bool false), nilP, nilP] from rfl) ?_
     intro H7 w6
     have ew6 := w6.len
     have q0 := (w6.old _ (by omega)).trans q0
     have q4 := (w6.old _ (by omega)).trans q4
     have qg := (w6.old _ (by omega)).trans qg
     have qv := w6.new
     have tr : ∀ a b c d e f g h i j k m n o p q r s t u v w x y z A B C D E F G H : AV, let l := lc_first_ok a b c d e f g h i j k m n o p q r s t u v w x y z A B C D E F; trim ((17,H)::(86,G)::l) l = lc_first_ok a b c d e f g h i j k m n o p H r s t u v w x y z A B C D E F := by intros; rfl
     refine R_nil (tr ..) ?_; clear tr
     refine then_n ?_
     refine at_seq rfl ?_
     refine at_seq rfl ?_
     refine rg rfl ?_
     refine Rq ?_
     refine R_q rfl (by simp (disch := first | omega | (simp only [List.length_map, List.length_append, List.length_set, List.length_cons, List.length_nil]; omega)) only [go_sem, ↓reduceIte, Nat.reduceEqDiff, reduceCtorEq, q0, q4, qg, qv, hfe, hce, hst] <;> rfl) ?_
     refine Rq ?_
     refine Rq ?_
     have tr : ∀ a b c d e f g h i j k m n o p q r s t u v w x y z A B C D E F G H I J : AV, let l := lc_first_ok a b c d e f g h i j k m n o p q r s t u v w x y z A B C D E F; trim ((90,J)::(89,I)::(88,H)::(87,G)::l) l = lc_first_ok a b c d e f g h i j k m n o p q r s t u v w x y z A B I J E F := by intros; rfl
     refine R_nil (tr ..) ?_; clear tr
     refine then_n ?_
     refine at_block rfl ?_
     refine loop_n rfl (fun mm kv H' => ∃ j : Nat, ∃ oS : AV, ∃ x18 x91 x100 : AV, (kv = [(18, x18), (90, AV.i j), (91, x91), (100, x100)]) ∧ (mm = P.length - j) ∧ (hget H' H.length = some (raceC P L)) ∧ (hget H' H1.length = some [.v (.bool false), nilP, nilP]) ∧ (hget H' H2.length = some (graphC (2 + ((pQ L t).length : Int) + (P.length : Int)) 0 1 E)) ∧ (hget H' H5.length = some [.v (.bool false), oS, nilP]) ∧ (H7.length ≤ H'.length) ∧ (j ≤ P.length) ∧ (OutI H7.length H' oS (setN P L (mostS P L t).1 t j))) ⟨0, nilP, _, _, _, rfl, rfl, by exact q0, by exact q4, by exact qg, by exact qv, by exact Nat.le_refl _, by omega, by exact .inl ⟨rfl, rfl⟩⟩ (by rfl) ?_
     rintro mm kv HB ⟨j, oS, x18, x91, x100, rfl, rfl, q0, q4, qg, qv, hHB, hj, hO⟩
     have tr : ∀ a b c d e f g h i j k m n o p q r s t u v w x y z A B C D E F G H I J : AV, upd (lc_first_ok a b c d e f g h i j k m n o p q r s t u v w x y z A B C D E F) [(18,G),(90,H),(91,I),(100,J)] = lc_first_ok a b c d e f g h i j k m n o p q G s t u v w x y z A B C H I J := by intros; rfl
     refine W_to (tr ..) ?_; clear tr
     refine at_seq rfl ?_
     refine rg rfl ?_
     refine Rq ?_
     have tr : ∀ a b c d e f g h i j k m n o p q r s t u v w x y z A B C D E F G : AV, let l := lc_first_ok a b c d e f g h i j k m n o p q r s t u v w x y z A B C D E F; trim ((91,G)::l) l = lc_first_ok a b c d e f g h i j k m n o p q r s t u v w x y z A B C D G F := by intros; rfl
     refine R_nil (tr ..) ?_; clear tr
     refine then_n ?_
     refine at_seq rfl ?_
     refine cdd (fun h7 => ?_) (fun h7 => ?_)
     ·
      try simp only [decide_eq_true_eq, decide_eq_false_iff_not, Bool.not_eq_true', Bool.not_eq_false', beq_iff_eq, beq_eq_false_iff_ne, ne_eq] at h7
      refine at_skip rfl ?_
      refine then_n ?_
      refine at_seq rfl ?_
      refine at_block rfl ?_
      refine at_seq rfl ?_
      refine rg rfl ?_
      have hsj := setN_len P L (mostS P L t).1 t j
      refine Rq ?_
      refine Rq ?_
      have tr : ∀ a b c d e f g h i j k m n o p q r s t u v w x y z A B C D E F G H : AV, let l := lc_first_ok a b c d e f g h i j k m n o p q r s t u v w x y z A B C D E F; trim ((18,H)::(92,G)::l) l = lc_first_ok a b c d e f g h i j k m n o p q H s t u v w x y z A B C D E F := by intros; rfl
      refine R_nil (tr ..) ?_; clear tr
      refine then_n ?_
      refine at_seq rfl ?_
      refine rg rfl ?_
      have hst : gt sn (2 + ((pQ L t).length : Int) + (j : Int)).toNat = inT P L (mostS P L t).1 t j := by
        have h7 := CU.set j (by omega)
        rwa [show (2 + ((pQ L t).length : Int)).toNat + j = (2 + ((pQ L t).length : Int) + (j : Int)).toNat by omega] at h7
      refine Rq ?_
      refine Rq ?_
      refine R_q rfl (by simp (disch := first | omega | (simp only [List.length_map, List.length_append, List.length_set, List.length_cons, List.length_nil]; omega)) only [go_sem, ↓reduceIte, Nat.reduceEqDiff, reduceCtorEq, q0, q4, qg, qv, hfe, hce, hst]; exact pairsA_len _) ?_
      refine Rq ?_
      refine Rq ?_
      refine Rq ?_
      refine Rq ?_
      refine R_q rfl (by simp (disch := first | omega | (simp only [List.length_map, List.length_append, List.length_set, List.length_cons, List.length_nil]; omega)) only [go_sem, ↓reduceIte, Nat.reduceEqDiff, reduceCtorEq, q0, q4, qg, qv, hfe, hce, hst] <;> rfl) ?_
      have tr : ∀ a b c d e f g h i j k m n o p q r s t u v w x y z A B C D E F G H I J K L M N : AV, let l := lc_first_ok a b c d e f g h i j k m n o p q r s t u v w x y z A B C D E F; trim ((100,N)::(99,M)::(98,L)::(97,K)::(96,J)::(95,I)::(94,H)::(93,G)::l) l = lc_first_ok a b c d e f g h i j k m n o p q r s t u v w x y z A B C D E N := by intros; rfl
      refine R_nil (tr ..) ?_; clear tr
      refine then_n ?_
      refine cdd (fun h8 => ?_) (fun h8 => ?_)
      ·
       try simp only [decide_eq_true_eq, decide_eq_false_iff_not, Bool.not_eq_true', Bool.not_eq_false', beq_iff_eq, beq_eq_false_iff_ne, ne_eq] at h8
       refine rg rfl ?_
       refine Rq ?_
       refine R_q rfl (by simp (disch := first | omega | (simp only [List.length_map, List.length_append, List.length_set, List.length_cons, List.length_nil]; omega)) only [go_sem, ↓reduceIte, Nat.reduceEqDiff, reduceCtorEq, q0, q4, qg, qv, hfe, hce, hst] <;> rfl) ?_
       refine Rq ?_
       refine A_buildSlice (bs40' _ _ _ _ (j : Int) (by simp (disch := first | omega | (simp only [List.length_map, List.length_append, List.length_set, List.length_cons, List.length_nil]; omega)) only [go_sem, ↓reduceIte, Nat.reduceEqDiff, reduceCtorEq, q0, q4, qg, qv, hfe, hce, hst])) ?_
       intro HE n8
       have en8 := n8.len
       have q0 := (n8.old _ (hget_lt q0)).trans q0
       have q4 := (n8.old _ (hget_lt q4)).trans q4
       have qg := (n8.old _ (hget_lt qg)).trans qg
       have qv := (n8.old _ (hget_lt qv)).trans qv
       have qn := n8.new
       have hO := hO.mono fun b hb k hk => (n8.old _ (hget_lt hk)).trans hk
       have lq0 := hget_lt q0
       have lq4 := hget_lt q4
       have lqg := hget_lt qg
       have lqv := hget_lt qv
       obtain ⟨b, hbl, hbl2, hap⟩ := outI_append' (lim := H.length) hO qn (by omega) (by omega) (by omega)
       refine A_append (by simp (disch := first | omega | (simp only [List.length_map, List.length_append, List.length_set, List.length_cons, List.length_nil]; omega)) only [go_sem, ↓reduceIte, Nat.reduceEqDiff, reduceCtorEq, q0, q4, qg, qv, hfe, hce, hst]; exact hap) ?_
       intro HF g8
       have eg8 := g8.len
       have q0 := (g8.old _ (by omega) lq0).trans q0
       have q4 := (g8.old _ (by omega) lq4).trans q4
       have qg := (g8.old _ (by omega) lqg).trans qg
       have qv := (g8.old _ (by omega) lqv).trans qv
       have qq := g8.new
       have hO := inT_new (lo := H7.length) g8 (by omega) (by assumption) rfl
       refine Rq ?_
       have lq0 := hget_lt q0
       have lq4 := hget_lt q4
       have lqg := hget_lt qg
       have lqv := hget_lt qv
       refine A_store ty34 (by simp (disch := first | omega | (simp only [List.length_map, List.length_append, List.length_set, List.length_cons, List.length_nil]; omega)) only [go_sem, ↓reduceIte, Nat.reduceEqDiff, reduceCtorEq, q0, q4, qg, qv, hfe, hce, hst] <;> rfl) (by simp (disch := first | omega | (simp only [List.length_map, List.length_append, List.length_set, List.length_cons, List.length_nil]; omega)) only [go_sem, ↓reduceIte, Nat.reduceEqDiff, reduceCtorEq, q0, q4, qg, qv, hfe, hce, hst] <;> rfl) qv ⟨by omega, rfl, by first | exact Nat.le_refl _ | simp⟩ (show _ = [.v (.bool false), (.own 1 HE.length 0 ((setN P L (mostS P L t).1 t j).length + 1)), nilP] from rfl) ?_
       intro HJ w8
       have ew8 := w8.len
       have q0 := (w8.old _ (by omega)).trans q0
       have q4 := (w8.old _ (by omega)).trans q4
       have qg := (w8.old _ (by omega)).trans qg
       have qv := w8.new
       have hO := hO.mono fun b hb k hk => (w8.old _ (by omega)).trans hk
       have tr : ∀ a b c d e f g h i j k m n o p q r s t u v w x y z A B C D E F G H I J K L : AV, let l := lc_first_ok a b c d e f g h i j k m n o p q r s t u v w x y z A B C D E F; trim ((106,L)::(105,K)::(104,J)::(103,I)::(102,H)::(101,G)::l) l = lc_first_ok a b c d e f g h i j k m n o p q r s t u v w x y z A B C D E F := by intros; rfl
       refine R_nil (tr ..) ?_; clear tr
       refine blk_n ?_
       refine then_n ?_
       refine rg rfl ?_
       refine Rq ?_
       refine Rq ?_
       have tr : ∀ a b c d e f g h i j k m n o p q r s t u v w x y z A B C D E F G H : AV, let l := lc_first_ok a b c d e f g h i j k m n o p q r s t u v w x y z A B C D E F; trim ((90,H)::(107,G)::l) l = lc_first_ok a b c d e f g h i j k m n o p q r s t u v w x y z A B C H E F := by intros; rfl
       refine R_nil (tr ..) ?_; clear tr
       refine then_n ?_
       exact ⟨_, _, ⟨j + 1, (.own 1 HE.length 0 ((setN P L (mostS P L t).1 t j).length + 1)), _, _, _, rfl, rfl, by exact q0, by exact q4, by exact qg, by exact qv, by first | (show H7.length ≤ HJ.length; omega) | (show H7.length ≤ HB.length; omega), by omega, by first | exact hO | exact inT_old hO (by first | assumption | exact in_not CU.not t0 (by omega))⟩, by rfl, by omega⟩
      ·
       try simp only [decide_eq_true_eq, decide_eq_false_iff_not, Bool.not_eq_true', Bool.not_eq_false', beq_iff_eq, beq_eq_false_iff_ne, ne_eq] at h8
       refine at_skip rfl ?_
       refine blk_n ?_
       refine then_n ?_
       refine rg rfl ?_
       refine Rq ?_
       refine Rq ?_
       have tr : ∀ a b c d e f g h i j k m n o p q r s t u v w x y z A B C D E F G H : AV, let l := lc_first_ok a b c d e f g h i j k m n o p q r s t u v w x y z A B C D E F; trim ((90,H)::(107,G)::l) l = lc_first_ok a b c d e f g h i j k m n o p q r s t u v w x y z A B C H E F := by intros; rfl
       refine R_nil (tr ..) ?_; clear tr
       refine then_n ?_
       exact ⟨_, _, ⟨j + 1, oS, _, _, _, rfl, rfl, by exact q0, by exact q4, by exact qg, by exact qv, by first | (show H7.length ≤ HJ.length; omega) | (show H7.length ≤ HB.length; omega), by omega, by first | exact hO | exact inT_old hO (by first | assumption | exact in_not CU.not t0 (by omega))⟩, by rfl, by omega⟩
     ·
      try simp only [decide_eq_true_eq, decide_eq_false_iff_not, Bool.not_eq_true', Bool.not_eq_false', beq_iff_eq, beq_eq_false_iff_ne, ne_eq] at h7
      refine at_exit rfl ?_
      refine then_x ?_
      refine then_x ?_
      refine blk_x ?_
      refine then_n ?_
      refine at_seq rfl ?_
      refine rg rfl ?_
      obtain rfl : j = P.length := by omega
      obtain ⟨hO7, bS, rfl, hbS, qS⟩ := hO.resolve_left (fun hh => set_ne CU.not t0 hkT hkI hh.1)
      refine R_q rfl (by simp (disch := first | omega | (simp only [List.length_map, List.length_append, List.length_set, List.length_cons, List.length_nil]; omega)) only [go_sem, ↓reduceIte, Nat.reduceEqDiff, reduceCtorEq, q0, q4, qg, qv, hfe, hce, hst] <;> rfl) ?_
      have lq0 := hget_lt q0
      have lq4 := hget_lt q4
      have lqg := hget_lt qg
      refine A_store ty40 (by simp (disch := first | omega | (simp only [List.length_map, List.length_append, List.length_set, List.length_cons, List.length_nil]; omega)) only [go_sem, ↓reduceIte, Nat.reduceEqDiff, reduceCtorEq, q0, q4, qg, qv, hfe, hce, hst] <;> rfl) (by simp (disch := first | omega | (simp only [List.length_map, List.length_append, List.length_set, List.length_cons, List.length_nil]; omega)) only [go_sem, ↓reduceIte, Nat.reduceEqDiff, reduceCtorEq, q0, q4, qg, qv, hfe, hce, hst] <;> rfl) q4 ⟨by omega, rfl, by first | exact Nat.le_refl _ | simp⟩ (show _ = [.v (.bool false), .own 1 bS 0 (setN P L (mostS P L t).1 t P.length).length, nilP] from rfl) ?_
      intro HZd wzd
      have ewzd := wzd.len
      have q0 := (wzd.old _ (by omega)).trans q0
      have qg := (wzd.old _ (by omega)).trans qg
      have q4 := wzd.new
      have hO := hO.mono fun b hb k hk => (wzd.old _ (by omega)).trans hk
      refine Rq ?_
      have tr : ∀ a b c d e f g h i j k m n o p q r s t u v w x y z A B C D E F G H : AV, let l := lc_first_ok a b c d e f g h i j k m n o p q r s t u v w x y z A B C D E F; trim ((5,H)::(108,G)::l) l = lc_first_ok a b c d H f g h i j k m n o p q r s t u v w x y z A B C D E F := by intros; rfl
      refine R_nil (tr ..) ?_; clear tr
      refine then_n ?_
      refine at_ret rfl ?_
      refine fin_pure (rs := [.cell 4 40, .tmp 5]) rfl (by simp only [go_sem, ↓reduceIte, Nat.reduceEqDiff, q4]; rfl) rfl ?_
      refine ⟨⟨[], nilP, ?_, .inl ⟨fB, rfl, rfl⟩⟩, rfl⟩
      rw [fB, fS]
      show AV.tup [AV.agg [_, frz HZd H.length 6 _, _], _] = _
      rw [(hO.lo (by omega : H.length ≤ H7.length)).frz, hm0]
      rfl

end Go.Proofs.Ytdmeioppkannlaa
end
section
set_option linter.unusedSimpArgs false
set_option linter.unusedVariables false
set_option maxHeartbeats 40000000
set_option maxRecDepth 4000
namespace Go.Proofs.Ytdmeioppkannlaa
open Go Go.Am

abbrev lc_thr_ok (a b c d e f g h i j k m n : AV) : Env := [(0,a),(1,b),(2,c),(4,d),(5,e),(6,f),(8,g),(9,h),(17,i),(21,j),(22,k),(23,m),(38,n)]
theorem thr_x (lim : Nat) (H : Heap) (P : List Int) (L : List Pr) (t : Int) (x : AV) (hx : frz H 0 8 x = .agg (raceC P L)) :
    ACall sig lim 8 [x, AV.i t] H fun r H' => r = .tup [.v (.bool (thruS P L t).1), AV.i (thruS P L t).2.1, AV.i (thruS P L t).2.2] ∧ H' = H := by
 have hargs : [x, AV.i t].map (frz H 0 8) = [.agg (raceC P L), AV.i t] := by
  show [frz H 0 8 x, AV.i t] = _
  rw [hx]
 refine ACall_data (fa := fa8) rfl rfl rfl rfl hargs ?_
 have tr : ∀ a0 a1 : AV, env0 fa8.keep [a0, a1] = lc_thr_ok a0 a1 .any .any .any .any .any .any .any .any .any .any .any := fun a0 a1 => rfl
 refine W_to (tr _ _) ?_; clear tr
 refine at_seq rfl ?_
 refine rg rfl ?_
 refine R_box rfl (by simp (disch := first | omega | (simp only [List.length_map, List.length_append, List.length_set, List.length_cons, List.length_nil]; omega)) only [go_sem, ↓reduceIte, Nat.reduceEqDiff, reduceCtorEq] <;> rfl) rfl rfl ?_
 refine Rq ?_
 refine Rq ?_
 refine Rq ?_
 have tr : ∀ a b c d e f g h i j k m n o p q r : AV, let l := lc_thr_ok a b c d e f g h i j k m n; trim ((6,r)::(5,q)::(4,p)::(2,o)::l) l = lc_thr_ok a b o p q r g h i j k m n := by intros; rfl
 refine R_nil (tr ..) ?_; clear tr
 refine then_n ?_
 refine at_seq rfl ?_
 refine at_seq rfl ?_
 refine rg rfl ?_
 refine Rq ?_
 refine Rq ?_
 refine Rcall ?_
 refine ACall_eq (mst_ok _ _ P L t) ?_
 refine Rq ?_
 refine Rq ?_
 refine Rq ?_
 refine Rq ?_
 refine Rq ?_
 have tr : ∀ a b c d e f g h i j k m n o p q r s t u v : AV, let l := lc_thr_ok a b c d e f g h i j k m n; trim ((8,v)::(7,u)::(15,t)::(14,s)::(10,r)::(13,q)::(12,p)::(11,o)::l) l = lc_thr_ok a b c d e f v h i j k m n := by intros; rfl
 refine R_nil (tr ..) ?_; clear tr
 refine then_n ?_
 refine at_seq rfl ?_
 refine rg rfl ?_
 refine Rq ?_
 refine Rq ?_
 have tr : ∀ a b c d e f g h i j k m n o p : AV, let l := lc_thr_ok a b c d e f g h i j k m n; trim ((17,p)::(16,o)::l) l = lc_thr_ok a b c d e f g h p j k m n := by intros; rfl
 refine R_nil (tr ..) ?_; clear tr
 refine then_n ?_
 refine cdd (fun h1 => ?_) (fun h1 => ?_)
 ·
  try simp only [decide_eq_true_eq, decide_eq_false_iff_not, Bool.not_eq_true', Bool.not_eq_false', beq_iff_eq, beq_eq_false_iff_ne, ne_eq] at h1
  refine at_seq rfl ?_
  refine rg rfl ?_
  refine Rq ?_
  refine Rq ?_
  refine Rq ?_
  refine Rq ?_
  have tr : ∀ a b c d e f g h i j k m n o p q r : AV, let l := lc_thr_ok a b c d e f g h i j k m n; trim ((6,r)::(5,q)::(4,p)::(18,o)::l) l = lc_thr_ok a b c p q r g h i j k m n := by intros; rfl
  refine R_nil (tr ..) ?_; clear tr
  refine then_n ?_
  refine at_ret rfl ?_
  refine then_r ?_
  refine fpure ?_
  refine ⟨rfl, ?_, rfl⟩
  rw [thruS, if_pos (by assumption)]
 ·
  try simp only [decide_eq_true_eq, decide_eq_false_iff_not, Bool.not_eq_true', Bool.not_eq_false', beq_iff_eq, beq_eq_false_iff_ne, ne_eq] at h1
  refine at_skip rfl ?_
  refine then_n ?_
  refine at_seq rfl ?_
  refine at_seq rfl ?_
  refine rg rfl ?_
  have hm0 : (mostS P L t).2 = 0 := by assumption
  obtain ⟨g, ht0, ht1⟩ := most_of hm0
  have g20 := g.n20
  refine Rq ?_
  refine Rq ?_
  refine Rq ?_
  refine Rq ?_
  have tr : ∀ a b c d e f g h i j k m n o p q r : AV, let l := lc_thr_ok a b c d e f g h i j k m n; trim ((22,r)::(21,q)::(20,p)::(19,o)::l) l = lc_thr_ok a b c d e f g h i q r m n := by intros; rfl
  refine R_nil (tr ..) ?_; clear tr
  refine then_n ?_
  refine at_block rfl ?_
  refine loop_n rfl (fun mm kv H' => ∃ u : Nat, ∃ x4 x5 x6 x9 x23 x38 : AV, (kv = [(4, x4), (5, x5), (6, x6), (9, x9), (22, AV.i u), (23, x23), (38, x38)]) ∧ (mm = P.length - u) ∧ (H' = [] ++ [some (raceC P L)]) ∧ (u ≤ P.length) ∧ (passN P L t u = -1)) ⟨0, _, _, _, _, _, _, rfl, rfl, rfl, by omega, by rfl⟩ (by rfl) ?_
  rintro mm kv H' ⟨u, x4, x5, x6, x9, x23, x38, rfl, rfl, rfl, hu, hq⟩
  have tr : ∀ a b c d e f g h i j k m n o p q r s t u : AV, upd (lc_thr_ok a b c d e f g h i j k m n) [(4,o),(5,p),(6,q),(9,r),(22,s),(23,t),(38,u)] = lc_thr_ok a b c o p q g r i j s t u := by intros; rfl
  refine W_to (tr ..) ?_; clear tr
  refine at_seq rfl ?_
  refine rg rfl ?_
  refine Rq ?_
  have tr : ∀ a b c d e f g h i j k m n o : AV, let l := lc_thr_ok a b c d e f g h i j k m n; trim ((23,o)::l) l = lc_thr_ok a b c d e f g h i j k o n := by intros; rfl
  refine R_nil (tr ..) ?_; clear tr
  refine then_n ?_
  refine at_seq rfl ?_
  refine cdd (fun h2 => ?_) (fun h2 => ?_)
  ·
   try simp only [decide_eq_true_eq, decide_eq_false_iff_not, Bool.not_eq_true', Bool.not_eq_false', beq_iff_eq, beq_eq_false_iff_ne, ne_eq] at h2
   refine at_skip rfl ?_
   refine then_n ?_
   refine at_seq rfl ?_
   refine at_block rfl ?_
   refine at_seq rfl ?_
   refine rg rfl ?_
   refine Rq ?_
   refine Rq ?_
   have tr : ∀ a b c d e f g h i j k m n o p : AV, let l := lc_thr_ok a b c d e f g h i j k m n; trim ((9,p)::(24,o)::l) l = lc_thr_ok a b c d e f g p i j k m n := by intros; rfl
   refine R_nil (tr ..) ?_; clear tr
   refine then_n ?_
   refine at_seq rfl ?_
   refine rd rfl rfl ?_
   refine Qq ?_
   refine Qq ?_
   refine Qq ?_
   refine Qq ?_
   refine Qp_split (fun h3 => ?_) (fun h3 => ?_)
   ·
    try simp only [decide_eq_true_eq, decide_eq_false_iff_not, Bool.not_eq_true', Bool.not_eq_false', beq_iff_eq, beq_eq_false_iff_ne, ne_eq] at h3
    refine Qy ?_
    refine Qq ?_
    refine Qy ?_
    refine Qq ?_
    refine Qy ?_
    refine Qcall ?_
    refine ACall_eq (most_ok _ _ P L u g (by omega) (by omega)) ?_
    refine ⟨rfl, ?_⟩
    refine Qy ?_
    refine Qq ?_
    refine Qy ?_
    refine Qq ?_
    refine Qy ?_
    refine Qq ?_
    refine Qy ?_
    refine Qq ?_
    refine Qy ?_
    refine Qq ?_
    refine Qy ?_
    refine Qq ?_
    refine Qq ?_
    refine Q_nil ?_
    have tr : ∀ a b c d e f g h i j k m n o p q r s t u v w x y z A B : AV, let l := lc_thr_ok a b c d e f g h i j k m n; trim ((38,B)::(37,A)::(36,z)::(35,y)::(34,x)::(33,w)::(32,v)::(31,u)::(30,t)::(29,s)::(28,r)::(27,q)::(26,p)::(25,o)::l) l = lc_thr_ok a b c d e f g h i j k m B := by intros; rfl
    refine R_nil (tr ..) ?_; clear tr
    refine then_n ?_
    refine cdd (fun h4 => ?_) (fun h4 => ?_)
    ·
     try simp only [decide_eq_true_eq, decide_eq_false_iff_not, Bool.not_eq_true', Bool.not_eq_false', beq_iff_eq, beq_eq_false_iff_ne, ne_eq] at h4
     refine at_seq rfl ?_
     refine rg rfl ?_
     refine Rq ?_
     refine Rq ?_
     refine Rq ?_
     refine Rq ?_
     have tr : ∀ a b c d e f g h i j k m n o p q r : AV, let l := lc_thr_ok a b c d e f g h i j k m n; trim ((6,r)::(5,q)::(4,p)::(39,o)::l) l = lc_thr_ok a b c p q r g h i j k m n := by intros; rfl
     refine R_nil (tr ..) ?_; clear tr
     refine then_n ?_
     refine at_ret rfl ?_
     refine blk_r ?_
     refine then_r ?_
     refine then_r ?_
     refine blk_r ?_
     refine then_r ?_
     refine fpure ?_
     refine ⟨rfl, ?_, rfl⟩
     have e := pass_at hq (by omega) (by omega) P.length (by omega)
     rw [thruS, if_neg (fun hh => hh hm0), e, decide_eq_false (by omega)]
    ·
     try simp only [decide_eq_true_eq, decide_eq_false_iff_not, Bool.not_eq_true', Bool.not_eq_false', beq_iff_eq, beq_eq_false_iff_ne, ne_eq] at h4
     refine at_skip rfl ?_
     refine blk_n ?_
     refine then_n ?_
     refine rg rfl ?_
     refine Rq ?_
     refine Rq ?_
     have tr : ∀ a b c d e f g h i j k m n o p : AV, let l := lc_thr_ok a b c d e f g h i j k m n; trim ((22,p)::(40,o)::l) l = lc_thr_ok a b c d e f g h i j p m n := by intros; rfl
     refine R_nil (tr ..) ?_; clear tr
     refine then_n ?_
     exact ⟨_, _, ⟨u + 1, _, _, _, _, _, _, rfl, rfl, rfl, by omega, by exact pass_on hq (by omega)⟩, by rfl, by omega⟩
   ·
    try simp only [decide_eq_true_eq, decide_eq_false_iff_not, Bool.not_eq_true', Bool.not_eq_false', beq_iff_eq, beq_eq_false_iff_ne, ne_eq] at h3
    refine Qn ?_
    refine Qn ?_
    refine Qn ?_
    refine Qn ?_
    refine Qn ?_
    refine Qn ?_
    refine Qn ?_
    refine Qn ?_
    refine Qn ?_
    refine Qq ?_
    refine Q_nil ?_
    have tr : ∀ a b c d e f g h i j k m n o p q r s t u v w x y z A B : AV, let l := lc_thr_ok a b c d e f g h i j k m n; trim ((38,B)::(37,A)::(36,z)::(35,y)::(34,x)::(33,w)::(32,v)::(31,u)::(30,t)::(29,s)::(28,r)::(27,q)::(26,p)::(25,o)::l) l = lc_thr_ok a b c d e f g h i j k m B := by intros; rfl
    refine R_nil (tr ..) ?_; clear tr
    refine then_n ?_
    refine cdf ?_
    refine at_skip rfl ?_
    refine blk_n ?_
    refine then_n ?_
    refine rg rfl ?_
    refine Rq ?_
    refine Rq ?_
    have tr : ∀ a b c d e f g h i j k m n o p : AV, let l := lc_thr_ok a b c d e f g h i j k m n; trim ((22,p)::(40,o)::l) l = lc_thr_ok a b c d e f g h i j p m n := by intros; rfl
    refine R_nil (tr ..) ?_; clear tr
    refine then_n ?_
    exact ⟨_, _, ⟨u + 1, _, _, _, _, _, _, rfl, rfl, rfl, by omega, by exact pass_on hq (by omega)⟩, by rfl, by omega⟩
  ·
   try simp only [decide_eq_true_eq, decide_eq_false_iff_not, Bool.not_eq_true', Bool.not_eq_false', beq_iff_eq, beq_eq_false_iff_ne, ne_eq] at h2
   refine at_exit rfl ?_
   refine then_x ?_
   refine then_x ?_
   refine blk_x ?_
   refine then_n ?_
   refine at_seq rfl ?_
   refine rg rfl ?_
   refine Rq ?_
   refine Rq ?_
   refine Rq ?_
   have tr : ∀ a b c d e f g h i j k m n o p q : AV, let l := lc_thr_ok a b c d e f g h i j k m n; trim ((6,q)::(5,p)::(4,o)::l) l = lc_thr_ok a b c o p q g h i j k m n := by intros; rfl
   refine R_nil (tr ..) ?_; clear tr
   refine then_n ?_
   refine at_ret rfl ?_
   refine fpure ?_
   refine ⟨rfl, ?_, rfl⟩
   have e : passN P L t P.length = -1 := by rw [show P.length = u by omega]; exact hq
   rw [thruS, if_neg (fun hh => hh hm0), e]
   rfl

theorem thr_ok (lim : Nat) (H : Heap) (P : List Int) (L : List Pr) (t : Int) :
    ACall sig lim 8 [.agg (raceC P L), AV.i t] H fun r H' => r = .tup [.v (.bool (thruS P L t).1), AV.i (thruS P L t).2.1, AV.i (thruS P L t).2.2] ∧ H' = H :=
  thr_x lim H P L t _ (frz_race H P L)

end Go.Proofs.Ytdmeioppkannlaa
end
