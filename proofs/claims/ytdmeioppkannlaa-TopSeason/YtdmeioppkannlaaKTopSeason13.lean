/-
  Texts of TopSeason, part 14 of 16. TopSeason: chapters 49, 51 to 53 at this program. Turned by program from built texts (season.py).
-/
import Derived.Test.YtdmeioppkannlaaKTopSeason7
import Derived.KernelRfl
import Derived.Test.YtdmeioppkannlaaKTopSeason12
section
set_option linter.unusedSimpArgs false
set_option linter.unusedVariables false
set_option maxHeartbeats 40000000
set_option maxRecDepth 4000
namespace Go.Proofs.Ytdmeioppkannlaa
open Go Go.Am

abbrev lc_room_ok (a b c d e f g : AV) : Env := [(0,a),(1,b),(2,c),(3,d),(5,e),(6,f),(8,g)]
theorem room_ok (lim : Nat) (H : Heap) (n s t : Int) (E : List Ed) (f : List Int) (bf N : Nat) (hN : N = f.length) (qf : hget H bf = some (f.map AV.i)) (e : Int) (back : Bool) (he0 : 0 ≤ e) (he1 : e < E.length) (g : GOK n s t E) (hl : f.length = E.length) (hrr : fRng E f) :
    ACall sig lim 29 [.agg (graphC n s t E), .own 1 bf 0 N, .agg [AV.i e, .v (.bool back)]] H fun r H' => r = AV.i (roomV E f e back) ∧ H' = H := by
 subst hN
 have lf := hget_lt qf
 have hr := hrr e.toNat (by omega)
 have he := g.ed e.toNat (by omega)
 refine ACall_pure (fa := fa29) rfl rfl rfl rfl ?_
 have tr : ∀ a0 a1 a2 : AV, env0 fa29.keep [a0, a1, a2] = lc_room_ok a0 a1 a2 .any .any .any .any := fun a0 a1 a2 => rfl
 refine W_to (tr _ _ _) ?_; clear tr
 refine at_seq rfl ?_
 refine rg rfl ?_
 refine R_box rfl (by simp (disch := first | omega | (simp only [List.length_map, List.length_append, List.length_set, List.length_cons, List.length_nil]; omega)) only [go_sem, ↓reduceIte, Nat.reduceEqDiff, reduceCtorEq, qf] <;> rfl) rfl rfl ?_
 refine R_box rfl (by simp (disch := first | omega | (simp only [List.length_map, List.length_append, List.length_set, List.length_cons, List.length_nil]; omega)) only [go_sem, ↓reduceIte, Nat.reduceEqDiff, reduceCtorEq, qf] <;> rfl) rfl rfl ?_
 refine Rq ?_
 have tr : ∀ a b c d e f g h i j : AV, let l := lc_room_ok a b c d e f g; trim ((6,j)::(5,i)::(3,h)::l) l = lc_room_ok a b c h i j g := by intros; rfl
 refine R_nil (tr ..) ?_; clear tr
 refine then_n ?_
 refine at_seq rfl ?_
 refine at_seq rfl ?_
 refine rg rfl ?_
 refine Rq ?_
 refine R_q rfl (by simp (disch := first | omega | (simp only [List.length_map, List.length_append, List.length_set, List.length_cons, List.length_nil]; omega)) only [go_sem, ↓reduceIte, Nat.reduceEqDiff, reduceCtorEq, qf] <;> rfl) ?_
 have tr : ∀ a b c d e f g h i : AV, let l := lc_room_ok a b c d e f g; trim ((8,i)::(7,h)::l) l = lc_room_ok a b c d e f i := by intros; rfl
 refine R_nil (tr ..) ?_; clear tr
 refine then_n ?_
 refine cdd (fun h1 => ?_) (fun h1 => ?_)
 ·
  try simp only [decide_eq_true_eq, decide_eq_false_iff_not, Bool.not_eq_true', Bool.not_eq_false', beq_iff_eq, beq_eq_false_iff_ne, ne_eq] at h1
  refine at_seq rfl ?_
  refine rg rfl ?_
  refine Rq ?_
  refine Rq ?_
  refine R_q rfl (by simp (disch := first | omega | (simp only [List.length_map, List.length_append, List.length_set, List.length_cons, List.length_nil]; omega)) only [go_sem, ↓reduceIte, Nat.reduceEqDiff, reduceCtorEq, qf] <;> rfl) ?_
  refine Rq ?_
  refine R_q rfl (by simp (disch := first | omega | (simp only [List.length_map, List.length_append, List.length_set, List.length_cons, List.length_nil]; omega)) only [go_sem, ↓reduceIte, Nat.reduceEqDiff, reduceCtorEq, qf] <;> rfl) ?_
  refine Rq ?_
  have tr : ∀ a b c d e f g h i j k m n : AV, let l := lc_room_ok a b c d e f g; trim ((6,n)::(13,m)::(12,k)::(11,j)::(10,i)::(9,h)::l) l = lc_room_ok a b c d e n g := by intros; rfl
  refine R_nil (tr ..) ?_; clear tr
  refine then_n ?_
  refine at_ret rfl ?_
  refine then_r ?_
  refine fpure ?_
  refine ⟨?_, rfl⟩
  rw [roomV, if_pos (by assumption)]
 ·
  try simp only [decide_eq_true_eq, decide_eq_false_iff_not, Bool.not_eq_true', Bool.not_eq_false', beq_iff_eq, beq_eq_false_iff_ne, ne_eq] at h1
  refine at_skip rfl ?_
  refine then_n ?_
  refine at_seq rfl ?_
  refine rd rfl rfl ?_
  refine Qq ?_
  refine Q_q rfl (by simp (disch := first | omega | (simp only [List.length_map, List.length_append, List.length_set, List.length_cons, List.length_nil]; omega)) only [go_sem, ↓reduceIte, Nat.reduceEqDiff, reduceCtorEq, qf] <;> rfl) ?_
  refine Qq ?_
  refine Q_q rfl (by simp (disch := first | omega | (simp only [List.length_map, List.length_append, List.length_set, List.length_cons, List.length_nil]; omega)) only [go_sem, ↓reduceIte, Nat.reduceEqDiff, reduceCtorEq, qf] <;> rfl) ?_
  refine Qq ?_
  refine Qq ?_
  refine Q_q rfl (by simp (disch := first | omega | (simp only [List.length_map, List.length_append, List.length_set, List.length_cons, List.length_nil]; omega)) only [go_sem, ↓reduceIte, Nat.reduceEqDiff, reduceCtorEq, qf] <;> rfl) ?_
  refine Qq ?_
  refine Qq ?_
  refine Q_q rfl (by simp (disch := first | omega | (simp only [List.length_map, List.length_append, List.length_set, List.length_cons, List.length_nil]; omega)) only [go_sem, ↓reduceIte, Nat.reduceEqDiff, reduceCtorEq, qf] <;> rfl) ?_
  refine Qq ?_
  refine Q_q rfl (by simp (disch := first | omega | (simp only [List.length_map, List.length_append, List.length_set, List.length_cons, List.length_nil]; omega)) only [go_sem, ↓reduceIte, Nat.reduceEqDiff, reduceCtorEq, qf] <;> rfl) ?_
  refine Qq ?_
  refine Qq ?_
  refine Q_nil ?_
  have tr : ∀ a b c d e f g h i j k m n o p q r s t u v : AV, let l := lc_room_ok a b c d e f g; trim ((6,v)::(26,u)::(25,t)::(24,s)::(23,r)::(22,q)::(21,p)::(20,o)::(19,n)::(18,m)::(17,k)::(16,j)::(15,i)::(14,h)::l) l = lc_room_ok a b c d e v g := by intros; rfl
  refine R_nil (tr ..) ?_; clear tr
  refine then_n ?_
  refine at_ret rfl ?_
  refine fpure ?_
  refine ⟨?_, rfl⟩
  rw [roomV, if_neg (by simp_all)]

abbrev lc_reach_ok (a b c d e f g h i j k m n o p q r s t u v : AV) : Env := [(0,a),(1,b),(2,c),(4,d),(5,e),(6,f),(7,g),(8,h),(9,i),(10,j),(11,k),(12,m),(13,n),(29,o),(36,p),(37,q),(38,r),(39,s),(50,t),(58,u),(70,v)]
theorem reach_ok (lim : Nat) (H : Heap) (n s t : Int) (E : List Ed) (f : List Int) (bf N : Nat) (hN : N = f.length) (qf : hget H bf = some (f.map AV.i)) (g : GOK n s t E) (hl : f.length = E.length) (hrr : fRng E f) :
    ACall sig lim 28 [.agg (graphC n s t E), .own 1 bf 0 N] H fun r H' => r = .tup [boolsAV (reachS n s E f).seen, arcsAV (reachS n s E f).way] ∧ H' = H := by
 subst hN
 have lf := hget_lt qf
 obtain ⟨g1, g2, g3, g4, g5, g6, g7, g8, ge⟩ := g
 have g : GOK n s t E := ⟨g1, g2, g3, g4, g5, g6, g7, g8, ge⟩
 have q0 : True := trivial
 have qs : True := trivial
 have qy : True := trivial
 have qq : True := trivial
 have qx : True := trivial
 have qa : True := trivial
 refine ACall_pure (fa := fa28) rfl rfl rfl rfl ?_
 have tr : ∀ a0 a1 : AV, env0 fa28.keep [a0, a1] = lc_reach_ok a0 a1 .any .any .any .any .any .any .any .any .any .any .any .any .any .any .any .any .any .any .any := fun a0 a1 => rfl
 refine W_to (tr _ _) ?_; clear tr
 refine at_seq rfl ?_
 refine rg rfl ?_
 refine A_box rfl (by simp (disch := first | omega | (simp only [List.length_map, List.length_append, List.length_set, List.length_cons, List.length_nil]; omega)) only [go_sem, ↓reduceIte, Nat.reduceEqDiff, reduceCtorEq] <;> rfl) ?_
 intro H1 n0
 have en0 := n0.len
 have qf := (n0.old _ (hget_lt qf)).trans qf
 have q0 := n0.new
 refine Rq ?_
 refine Rq ?_
 have tr : ∀ a b c d e f g h i j k m n o p q r s t u v w x y : AV, let l := lc_reach_ok a b c d e f g h i j k m n o p q r s t u v; trim ((5,y)::(4,x)::(2,w)::l) l = lc_reach_ok a b w x y f g h i j k m n o p q r s t u v := by intros; rfl
 refine R_nil (tr ..) ?_; clear tr
 refine then_n ?_
 refine at_seq rfl ?_
 refine rls2 rfl rfl ?_
 refine Lq ?_
 refine L_q rfl (by simp (disch := first | omega | (simp only [List.length_map, List.length_append, List.length_set, List.length_cons, List.length_nil]; omega)) only [go_sem, ↓reduceIte, Nat.reduceEqDiff, reduceCtorEq, q0, qf, qs, qy, qq, qx, qa] <;> rfl) rfl ?_
 refine Lq ?_
 refine L_q rfl (by simp (disch := first | omega | (simp only [List.length_map, List.length_append, List.length_set, List.length_cons, List.length_nil]; omega)) only [go_sem, ↓reduceIte, Nat.reduceEqDiff, reduceCtorEq, q0, qf, qs, qy, qq, qx, qa] <;> rfl) rfl ?_
 refine L_nil ?_
 refine R_makeSlice (ms28 _ _ n _ _ _ (by omega) (by omega) (by simp (disch := first | omega | (simp only [List.length_map, List.length_append, List.length_set, List.length_cons, List.length_nil]; omega)) only [go_sem, ↓reduceIte, Nat.reduceEqDiff, reduceCtorEq]) (by simp (disch := first | omega | (simp only [List.length_map, List.length_append, List.length_set, List.length_cons, List.length_nil]; omega)) only [go_sem, ↓reduceIte, Nat.reduceEqDiff, reduceCtorEq])) ?_
 refine R_makeSlice (ms67 _ _ n _ _ _ (by omega) (by omega) (by simp (disch := first | omega | (simp only [List.length_map, List.length_append, List.length_set, List.length_cons, List.length_nil]; omega)) only [go_sem, ↓reduceIte, Nat.reduceEqDiff, reduceCtorEq]) (by simp (disch := first | omega | (simp only [List.length_map, List.length_append, List.length_set, List.length_cons, List.length_nil]; omega)) only [go_sem, ↓reduceIte, Nat.reduceEqDiff, reduceCtorEq])) ?_
 refine Rq ?_
 refine R_end ⟨?_, ?_⟩
 ·
  refine ⟨?_, ?_⟩
  ·
   refine R_makeSlice (ms28 _ _ n _ _ _ (by omega) (by omega) (by simp (disch := first | omega | (simp only [List.length_map, List.length_append, List.length_set, List.length_cons, List.length_nil]; omega)) only [go_sem, ↓reduceIte, Nat.reduceEqDiff, reduceCtorEq]) (by simp (disch := first | omega | (simp only [List.length_map, List.length_append, List.length_set, List.length_cons, List.length_nil]; omega)) only [go_sem, ↓reduceIte, Nat.reduceEqDiff, reduceCtorEq])) ?_
   refine Rq ?_
   refine R_makeSlice (ms67 _ _ n _ _ _ (by omega) (by omega) (by simp (disch := first | omega | (simp only [List.length_map, List.length_append, List.length_set, List.length_cons, List.length_nil]; omega)) only [go_sem, ↓reduceIte, Nat.reduceEqDiff, reduceCtorEq]) (by simp (disch := first | omega | (simp only [List.length_map, List.length_append, List.length_set, List.length_cons, List.length_nil]; omega)) only [go_sem, ↓reduceIte, Nat.reduceEqDiff, reduceCtorEq])) ?_
   refine R_end ?_
   refine two_id (H := H1) (A := (List.replicate n.toNat false).map AV.b) (B := flatA (List.replicate n.toNat 0)) (fun f => by rw [List.map_map]; rfl) (fun f => flatA_ren _ _) ?_
   intro t ht
   simp only [List.mem_cons, List.not_mem_nil, or_false] at ht
   rcases ht with rfl | rfl
   · simp only [get_cons, put_some, ↓reduceIte, Nat.reduceEqDiff, ren]
     (simp [rnB] <;> rfl)
   · simp only [get_cons, put_some, ↓reduceIte, Nat.reduceEqDiff, ren]
     (simp [rnB] <;> rfl)
  refine ⟨?_, ?_⟩
  ·
   refine R_makeSlice (ms67 _ _ n _ _ _ (by omega) (by omega) (by simp (disch := first | omega | (simp only [List.length_map, List.length_append, List.length_set, List.length_cons, List.length_nil]; omega)) only [go_sem, ↓reduceIte, Nat.reduceEqDiff, reduceCtorEq]) (by simp (disch := first | omega | (simp only [List.length_map, List.length_append, List.length_set, List.length_cons, List.length_nil]; omega)) only [go_sem, ↓reduceIte, Nat.reduceEqDiff, reduceCtorEq])) ?_
   refine R_makeSlice (ms28 _ _ n _ _ _ (by omega) (by omega) (by simp (disch := first | omega | (simp only [List.length_map, List.length_append, List.length_set, List.length_cons, List.length_nil]; omega)) only [go_sem, ↓reduceIte, Nat.reduceEqDiff, reduceCtorEq]) (by simp (disch := first | omega | (simp only [List.length_map, List.length_append, List.length_set, List.length_cons, List.length_nil]; omega)) only [go_sem, ↓reduceIte, Nat.reduceEqDiff, reduceCtorEq])) ?_
   refine Rq ?_
   refine R_end ?_
   refine two_same (H := H1) (A := (List.replicate n.toNat false).map AV.b) (B := flatA (List.replicate n.toNat 0)) (fun f => by rw [List.map_map]; rfl) (fun f => flatA_ren _ _) ?_
   intro t ht
   simp only [List.mem_cons, List.not_mem_nil, or_false] at ht
   rcases ht with rfl | rfl
   · simp only [get_cons, put_some, ↓reduceIte, Nat.reduceEqDiff, ren]
     (simp [rnB] <;> rfl)
   · simp only [get_cons, put_some, ↓reduceIte, Nat.reduceEqDiff, ren]
     (simp [rnB] <;> rfl)
  exact trivial
 rewrite [keep_two]
 refine Rp_env (e' := [(19, _), (6, _), (14, .any), (15, .any), (16, .any), (17, .any), (18, .any), (19, .any), (6, .any), (7, .any), (0, _), (1, _), (2, _), (4, _), (5, _), (6, _), (7, _), (8, _), (9, _), (10, _), (11, _), (12, _), (13, _), (29, _), (36, _), (37, _), (38, _), (39, _), (50, _), (58, _), (70, _)]) rfl ?_
 simp only [put_some, get_cons, ↓reduceIte, Nat.reduceEqDiff]
 have n1 := MNew.of H1 ((List.replicate n.toNat false).map AV.b)
 have n2 := MNew.of (H1 ++ [some ((List.replicate n.toNat false).map AV.b)]) (flatA (List.replicate n.toNat 0))
 generalize (H1 ++ [some ((List.replicate n.toNat false).map AV.b)]) ++ [some (flatA (List.replicate n.toNat 0))] = H3 at n2 ⊢
 generalize H1 ++ [some ((List.replicate n.toNat false).map AV.b)] = H2 at n1 n2 ⊢
 have en1 := n1.len
 have en2 := n2.len
 have q0 := (n1.old _ (hget_lt q0)).trans q0
 have qf := (n1.old _ (hget_lt qf)).trans qf
 have qs := n1.new
 have q0 := (n2.old _ (hget_lt q0)).trans q0
 have qf := (n2.old _ (hget_lt qf)).trans qf
 have qs := (n2.old _ (hget_lt qs)).trans qs
 have qy := n2.new
 refine Rq ?_
 have tr : ∀ a b c d e f g h i j k m n o p q r s t u v w x y z A B C D E F G : AV, let l := lc_reach_ok a b c d e f g h i j k m n o p q r s t u v; trim ((7,G)::(19,F)::(6,E)::(14,D)::(15,C)::(16,B)::(17,A)::(18,z)::(19,y)::(6,x)::(7,w)::l) l = lc_reach_ok a b c d e E G h i j k m n o p q r s t u v := by intros; rfl
 refine R_nil (tr ..) ?_; clear tr
 refine then_n ?_
 refine at_seq rfl ?_
 refine rg rfl ?_
 have hrl : (List.replicate n.toNat false).length = n.toNat := by simp
 refine Rq ?_
 refine Rq ?_
 refine R_q rfl (by simp (disch := first | omega | (simp only [List.length_map, List.length_append, List.length_set, List.length_cons, List.length_nil]; omega)) only [go_sem, ↓reduceIte, Nat.reduceEqDiff, reduceCtorEq, q0, qf, qs, qy, qq, qx, qa] <;> rfl) ?_
 refine Rq ?_
 have so0 := (st0_ok g).1
 have lq0 := hget_lt q0
 have lqf := hget_lt qf
 have lqs := hget_lt qs
 have lqy := hget_lt qy
 refine A_store ty4 (by simp (disch := first | omega | (simp only [List.length_map, List.length_append, List.length_set, List.length_cons, List.length_nil]; omega)) only [go_sem, ↓reduceIte, Nat.reduceEqDiff, reduceCtorEq, q0, qf, qs, qy, qq, qx, qa] <;> rfl) (by simp (disch := first | omega | (simp only [List.length_map, List.length_append, List.length_set, List.length_cons, List.length_nil]; omega)) only [go_sem, ↓reduceIte, Nat.reduceEqDiff, reduceCtorEq, q0, qf, qs, qy, qq, qx, qa] <;> rfl) qs ⟨by omega, rfl, by first | (simp only [List.length_map]; omega) | (simp only [flatA_len]; omega) | exact Nat.le_refl _ | decide | simp⟩ (setL_b _ _ _) ?_
 intro H4 w1
 have ew1 := w1.len
 have q0 := (w1.old _ (by omega)).trans q0
 have qf := (w1.old _ (by omega)).trans qf
 have qy := (w1.old _ (by omega)).trans qy
 have qs := w1.new
 have tr : ∀ a b c d e f g h i j k m n o p q r s t u v w x y z : AV, let l := lc_reach_ok a b c d e f g h i j k m n o p q r s t u v; trim ((23,z)::(22,y)::(21,x)::(20,w)::l) l = lc_reach_ok a b c d e f g h i j k m n o p q r s t u v := by intros; rfl
 refine R_nil (tr ..) ?_; clear tr
 refine then_n ?_
 refine at_seq rfl ?_
 refine rg rfl ?_
 refine Rq ?_
 refine R_q rfl (by simp (disch := first | omega | (simp only [List.length_map, List.length_append, List.length_set, List.length_cons, List.length_nil]; omega)) only [go_sem, ↓reduceIte, Nat.reduceEqDiff, reduceCtorEq, q0, qf, qs, qy, qq, qx, qa] <;> rfl) ?_
 refine A_buildSlice (bs40 _ _ _ _ s (by simp (disch := first | omega | (simp only [List.length_map, List.length_append, List.length_set, List.length_cons, List.length_nil]; omega)) only [go_sem, ↓reduceIte, Nat.reduceEqDiff, reduceCtorEq, q0])) ?_
 intro H5 n3
 have en3 := n3.len
 have q0 := (n3.old _ (hget_lt q0)).trans q0
 have qf := (n3.old _ (hget_lt qf)).trans qf
 have qs := (n3.old _ (hget_lt qs)).trans qs
 have qy := (n3.old _ (hget_lt qy)).trans qy
 have qq := n3.new
 refine Rq ?_
 have tr : ∀ a b c d e f g h i j k m n o p q r s t u v w x y z : AV, let l := lc_reach_ok a b c d e f g h i j k m n o p q r s t u v; trim ((8,z)::(26,y)::(25,x)::(24,w)::l) l = lc_reach_ok a b c d e f g z i j k m n o p q r s t u v := by intros; rfl
 refine R_nil (tr ..) ?_; clear tr
 refine then_n ?_
 refine at_seq rfl ?_
 refine at_block rfl ?_
 refine loop_n rfl (fun mm kv H' => ∃ k : Nat, ∃ st : BS, ∃ bq : Nat, ∃ o : Nat, ∃ Q : List Int, ∃ m : Nat, ∃ x9 x10 x11 x12 x13 x29 x36 x37 x38 x39 x50 x58 x70 : AV, (kv = [(8, AV.own 1 bq o m), (9, x9), (10, x10), (11, x11), (12, x12), (13, x13), (29, x29), (36, x36), (37, x37), (38, x38), (39, x39), (50, x50), (58, x58), (70, x70)]) ∧ (mm = k) ∧ (hget H' H.length = some (graphC n s t E)) ∧ (hget H' bf = some (f.map AV.i)) ∧ (hget H' H1.length = some (st.seen.map AV.b)) ∧ (hget H' H2.length = some (flatA (st.way))) ∧ (hget H' bq = some (Q.map AV.i)) ∧ (H2.length < bq) ∧ (o + st.q.length = Q.length) ∧ (Q.drop o = st.q) ∧ (SOK n st) ∧ (meas st ≤ k) ∧ (bfs E f k st = reachS n s E f) ∧ (k ≤ 64) ∧ (m = st.q.length)) ⟨n.toNat, st0 n s, H4.length, 0, [s], 1, _, _, _, _, _, _, _, _, _, _, _, _, _, rfl, rfl, by exact q0, by exact qf, by exact qs, by exact qy, by exact qq, by omega, by rfl, by rfl, by exact (st0_ok g).1, by exact Nat.le_of_eq (st0_ok g).2, by rfl, by omega, by rfl⟩ (by rfl) ?_
 rintro mm kv HA ⟨k, st, bq, o, Q, m, x9, x10, x11, x12, x13, x29, x36, x37, x38, x39, x50, x58, x70, rfl, rfl, q0, qf, qs, qy, qq, hbq, hoq, hqd, so, hmk, hbf, hk64, hm8⟩
 have tr : ∀ a b c d e f g h i j k m n o p q r s t u v w x y z A B C D E F G H I J : AV, upd (lc_reach_ok a b c d e f g h i j k m n o p q r s t u v) [(8,w),(9,x),(10,y),(11,z),(12,A),(13,B),(29,C),(36,D),(37,E),(38,F),(39,G),(50,H),(58,I),(70,J)] = lc_reach_ok a b c d e f g w x y z A B C D E F G H I J := by intros; rfl
 refine W_to (tr ..) ?_; clear tr
 subst hm8
 have lq0 := hget_lt q0
 have lqf := hget_lt qf
 have lqs := hget_lt qs
 have lqy := hget_lt qy
 have lqq := hget_lt qq
 have sos := so.seen
 have sow := so.way
 refine at_seq rfl ?_
 refine at_seq rfl ?_
 refine rg rfl ?_
 refine Rq ?_
 refine Rq ?_
 refine Rq ?_
 have tr : ∀ a b c d e f g h i j k m n o p q r s t u v w x y : AV, let l := lc_reach_ok a b c d e f g h i j k m n o p q r s t u v; trim ((29,y)::(28,x)::(27,w)::l) l = lc_reach_ok a b c d e f g h i j k m n y p q r s t u v := by intros; rfl
 refine R_nil (tr ..) ?_; clear tr
 refine then_n ?_
 refine cdd (fun h1 => ?_) (fun h1 => ?_)
 ·
  try simp only [decide_eq_true_eq, decide_eq_false_iff_not, Bool.not_eq_true', Bool.not_eq_false', beq_iff_eq, beq_eq_false_iff_ne, ne_eq] at h1
  refine at_skip rfl ?_
  refine then_n ?_
  refine at_block rfl ?_
  refine at_seq rfl ?_
  refine rg rfl ?_
  obtain ⟨k', rfl, hoQ, hdl, so1, hmk2, hv0, hv1, hbf2⟩ := q_pop' so hmk hbf hqd hoq (by omega)
  refine Rq ?_
  refine Rq ?_
  refine R_q rfl (by simp (disch := first | omega | (simp only [List.length_map, List.length_append, List.length_set, List.length_cons, List.length_nil]; omega)) only [go_sem, ↓reduceIte, Nat.reduceEqDiff, reduceCtorEq, q0, qf, qs, qy, qq, qx, qa] <;> rfl) ?_
  refine Rq ?_
  have tr : ∀ a b c d e f g h i j k m n o p q r s t u v w x y z : AV, let l := lc_reach_ok a b c d e f g h i j k m n o p q r s t u v; trim ((9,z)::(32,y)::(31,x)::(30,w)::l) l = lc_reach_ok a b c d e f g h z j k m n o p q r s t u v := by intros; rfl
  refine R_nil (tr ..) ?_; clear tr
  refine then_n ?_
  refine at_seq rfl ?_
  refine rg rfl ?_
  refine Rq ?_
  refine R_q rfl (sl40 _ _ _ _ hdl) ?_
  refine Rq ?_
  have tr : ∀ a b c d e f g h i j k m n o p q r s t u v w x y : AV, let l := lc_reach_ok a b c d e f g h i j k m n o p q r s t u v; trim ((8,y)::(34,x)::(33,w)::l) l = lc_reach_ok a b c d e f g y i j k m n o p q r s t u v := by intros; rfl
  refine R_nil (tr ..) ?_; clear tr
  refine then_n ?_
  refine at_seq rfl ?_
  refine rg rfl ?_
  refine Rq ?_
  refine R_q rfl (by simp (disch := first | omega | (simp only [List.length_map, List.length_append, List.length_set, List.length_cons, List.length_nil]; omega)) only [go_sem, ↓reduceIte, Nat.reduceEqDiff, reduceCtorEq, q0, qf, qs, qy, qq, qx, qa] <;> rfl) ?_
  refine Rq ?_
  refine Rq ?_
  have tr : ∀ a b c d e f g h i j k m n o p q r s t u v w x y z : AV, let l := lc_reach_ok a b c d e f g h i j k m n o p q r s t u v; trim ((38,z)::(37,y)::(36,x)::(35,w)::l) l = lc_reach_ok a b c d e f g h i j k m n o x y z s t u v := by intros; rfl
  refine R_nil (tr ..) ?_; clear tr
  refine then_n ?_
  refine at_block rfl ?_
  refine loop_n rfl (fun mm kv H' => ∃ u : Nat, ∃ st2 : BS, ∃ bq2 : Nat, ∃ o2 : Nat, ∃ Q2 : List Int, ∃ m2 : Nat, ∃ x10 x11 x12 x13 x39 x50 x58 x70 : AV, (kv = [(8, AV.own 1 bq2 o2 m2), (10, x10), (11, x11), (12, x12), (13, x13), (38, AV.i u), (39, x39), (50, x50), (58, x58), (70, x70)]) ∧ (mm = E.length - u) ∧ (hget H' H.length = some (graphC n s t E)) ∧ (hget H' bf = some (f.map AV.i)) ∧ (hget H' H1.length = some (st2.seen.map AV.b)) ∧ (hget H' H2.length = some (flatA (st2.way))) ∧ (hget H' bq2 = some (Q2.map AV.i)) ∧ (H2.length < bq2) ∧ (o2 + st2.q.length = Q2.length) ∧ (Q2.drop o2 = st2.q) ∧ (u ≤ E.length) ∧ (st2 = scanN E f (gt Q o) ⟨st.seen, st.way, Q.drop (o + 1)⟩ u) ∧ (m2 = st2.q.length)) ⟨0, ⟨st.seen, st.way, Q.drop (o + 1)⟩, bq, (o + 1), Q, _, _, _, _, _, _, _, _, _, rfl, rfl, by exact q0, by exact qf, by exact qs, by exact qy, by exact qq, by exact hbq, by simp only [List.length_drop]; omega, by rfl, by omega, by rfl, by rfl⟩ (by rfl) ?_
  rintro mm kv HB ⟨u, st2, bq2, o2, Q2, m2, x10, x11, x12, x13, x39, x50, x58, x70, rfl, rfl, q0, qf, qs, qy, qq, hbq2, hoq2, hqd2, hu, hs2, hm8⟩
  have tr : ∀ a b c d e f g h i j k m n o p q r s t u v w x y z A B C D E F : AV, upd (lc_reach_ok a b c d e f g h i j k m n o p q r s t u v) [(8,w),(10,x),(11,y),(12,z),(13,A),(38,B),(39,C),(50,D),(58,E),(70,F)] = lc_reach_ok a b c d e f g w i x y z A o p q B C D E F := by intros; rfl
  refine W_to (tr ..) ?_; clear tr
  subst hm8
  have lq0 := hget_lt q0
  have lqf := hget_lt qf
  have lqs := hget_lt qs
  have lqy := hget_lt qy
  have lqq := hget_lt qq
  have sk := scan_ok' g (f := f) (v := gt Q o) so1 u hu
  rw [← hs2] at sk
  have sos := sk.1.seen
  have sow := sk.1.way
  have skm := sk.2
  have hmq : st2.q.length ≤ meas st2 := by unfold meas; omega
  refine at_seq rfl ?_
  refine rg rfl ?_
  refine Rq ?_
  have tr : ∀ a b c d e f g h i j k m n o p q r s t u v w : AV, let l := lc_reach_ok a b c d e f g h i j k m n o p q r s t u v; trim ((39,w)::l) l = lc_reach_ok a b c d e f g h i j k m n o p q r w t u v := by intros; rfl
  refine R_nil (tr ..) ?_; clear tr
  refine then_n ?_
  refine at_seq rfl ?_
  refine cdd (fun h2 => ?_) (fun h2 => ?_)
  ·
   try simp only [decide_eq_true_eq, decide_eq_false_iff_not, Bool.not_eq_true', Bool.not_eq_false', beq_iff_eq, beq_eq_false_iff_ne, ne_eq] at h2
   refine at_skip rfl ?_
   refine then_n ?_
   refine at_seq rfl ?_
   refine at_block rfl ?_
   refine at_seq rfl ?_
   refine rg rfl ?_
   have he := ge u (by omega)
   have hr := hrr u (by omega)
   refine Rq ?_
   refine Rq ?_
   refine R_q rfl (by simp (disch := first | omega | (simp only [List.length_map, List.length_append, List.length_set, List.length_cons, List.length_nil]; omega)) only [go_sem, ↓reduceIte, Nat.reduceEqDiff, reduceCtorEq, q0, qf, qs, qy, qq, qx, qa] <;> rfl) ?_
   refine A_alloc rfl ?_
   intro HC n4
   have en4 := n4.len
   have q0 := (n4.old _ (hget_lt q0)).trans q0
   have qf := (n4.old _ (hget_lt qf)).trans qf
   have qs := (n4.old _ (hget_lt qs)).trans qs
   have qy := (n4.old _ (hget_lt qy)).trans qy
   have qq := (n4.old _ (hget_lt qq)).trans qq
   have qx := n4.new
   refine Rq ?_
   have lq0 := hget_lt q0
   have lqf := hget_lt qf
   have lqs := hget_lt qs
   have lqy := hget_lt qy
   have lqq := hget_lt qq
   have lqx := hget_lt qx
   refine A_store ty69 (by simp (disch := first | omega | (simp only [List.length_map, List.length_append, List.length_set, List.length_cons, List.length_nil]; omega)) only [go_sem, ↓reduceIte, Nat.reduceEqDiff, reduceCtorEq, q0, qf, qs, qy, qq, qx, qa] <;> rfl) (by simp (disch := first | omega | (simp only [List.length_map, List.length_append, List.length_set, List.length_cons, List.length_nil]; omega)) only [go_sem, ↓reduceIte, Nat.reduceEqDiff, reduceCtorEq, q0, qf, qs, qy, qq, qx, qa] <;> rfl) qx ⟨by omega, rfl, by first | (simp only [List.length_map]; omega) | (simp only [flatA_len]; omega) | exact Nat.le_refl _ | decide | simp⟩ (show _ = edC (gt E u) from rfl) ?_
   intro HD w4
   have ew4 := w4.len
   have q0 := (w4.old _ (by omega)).trans q0
   have qf := (w4.old _ (by omega)).trans qf
   have qs := (w4.old _ (by omega)).trans qs
   have qy := (w4.old _ (by omega)).trans qy
   have qq := (w4.old _ (by omega)).trans qq
   have qx := w4.new
   have tr : ∀ a b c d e f g h i j k m n o p q r s t u v w x y z A : AV, let l := lc_reach_ok a b c d e f g h i j k m n o p q r s t u v; trim ((10,A)::(11,z)::(42,y)::(41,x)::(40,w)::l) l = lc_reach_ok a b c d e f g h i A z m n o p q r s t u v := by intros; rfl
   refine R_nil (tr ..) ?_; clear tr
   refine then_n ?_
   refine at_seq rfl ?_
   refine rl rfl rfl ?_
   refine Lq ?_
   refine Lq ?_
   refine Lq ?_
   refine L_q rfl (by simp (disch := first | omega | (simp only [List.length_map, List.length_append, List.length_set, List.length_cons, List.length_nil]; omega)) only [go_sem, ↓reduceIte, Nat.reduceEqDiff, reduceCtorEq, q0, qf, qs, qy, qq, qx, qa] <;> rfl) rfl ?_
   refine L_nil ?_
   refine Ms ?_
   refine A_alloc rfl ?_
   intro HE n5
   have en5 := n5.len
   have q0 := (n5.old _ (hget_lt q0)).trans q0
   have qf := (n5.old _ (hget_lt qf)).trans qf
   have qs := (n5.old _ (hget_lt qs)).trans qs
   have qy := (n5.old _ (hget_lt qy)).trans qy
   have qq := (n5.old _ (hget_lt qq)).trans qq
   have qx := (n5.old _ (hget_lt qx)).trans qx
   have qa := n5.new
   refine R_end ?_
   refine Ms ?_ (wrC_store (by simp (disch := first | omega | (simp only [List.length_map, List.length_append, List.length_set, List.length_cons, List.length_nil]; omega)) only [go_sem, ↓reduceIte, Nat.reduceEqDiff, reduceCtorEq, q0, qf, qs, qy, qq, qx, qa] <;> rfl) (by simp only [rdV, isLoad, go_sem, ↓reduceIte, Nat.reduceEqDiff, List.mem_cons, List.not_mem_nil, or_false, List.append_nil, List.nil_append, List.cons_append, not_or]; omega))
   have lq0 := hget_lt q0
   have lqf := hget_lt qf
   have lqs := hget_lt qs
   have lqy := hget_lt qy
   have lqq := hget_lt qq
   have lqx := hget_lt qx
   have lqa := hget_lt qa
   refine A_store ty85 (by simp (disch := first | omega | (simp only [List.length_map, List.length_append, List.length_set, List.length_cons, List.length_nil]; omega)) only [go_sem, ↓reduceIte, Nat.reduceEqDiff, reduceCtorEq, q0, qf, qs, qy, qq, qx, qa] <;> rfl) (by simp (disch := first | omega | (simp only [List.length_map, List.length_append, List.length_set, List.length_cons, List.length_nil]; omega)) only [go_sem, ↓reduceIte, Nat.reduceEqDiff, reduceCtorEq, q0, qf, qs, qy, qq, qx, qa] <;> rfl) qa ⟨by omega, rfl, by first | (simp only [List.length_map]; omega) | (simp only [flatA_len]; omega) | exact Nat.le_refl _ | decide | simp⟩ (show _ = [AV.i u, AV.v (.bool false)] from rfl) ?_
   intro HF w5
   have ew5 := w5.len
   have q0 := (w5.old _ (by omega)).trans q0
   have qf := (w5.old _ (by omega)).trans qf
   have qs := (w5.old _ (by omega)).trans qs
   have qy := (w5.old _ (by omega)).trans qy
   have qq := (w5.old _ (by omega)).trans qq
   have qx := (w5.old _ (by omega)).trans qx
   have qa := w5.new
   refine R_end ?_
   refine M_nil ?_
   refine Rq ?_
   have tr : ∀ a b c d e f g h i j k m n o p q r s t u v w x y z A B : AV, let l := lc_reach_ok a b c d e f g h i j k m n o p q r s t u v; trim ((13,B)::(12,A)::(46,z)::(45,y)::(44,x)::(43,w)::l) l = lc_reach_ok a b c d e f g h i j k A B o p q r s t u v := by intros; rfl
   refine R_nil (tr ..) ?_; clear tr
   refine then_n ?_
   refine at_seq rfl ?_
   refine at_seq rfl ?_
   refine rg rfl ?_
   refine Rq ?_
   refine R_q rfl (by simp (disch := first | omega | (simp only [List.length_map, List.length_append, List.length_set, List.length_cons, List.length_nil]; omega)) only [go_sem, ↓reduceIte, Nat.reduceEqDiff, reduceCtorEq, q0, qf, qs, qy, qq, qx, qa] <;> rfl) ?_
   refine Rq ?_
   refine Rq ?_
   have tr : ∀ a b c d e f g h i j k m n o p q r s t u v w x y z : AV, let l := lc_reach_ok a b c d e f g h i j k m n o p q r s t u v; trim ((50,z)::(49,y)::(48,x)::(47,w)::l) l = lc_reach_ok a b c d e f g h i j k m n o p q r s z u v := by intros; rfl
   refine R_nil (tr ..) ?_; clear tr
   refine then_n ?_
   refine cdd (fun h3 => ?_) (fun h3 => ?_)
   ·
    try simp only [decide_eq_true_eq, decide_eq_false_iff_not, Bool.not_eq_true', Bool.not_eq_false', beq_iff_eq, beq_eq_false_iff_ne, ne_eq] at h3
    refine rl rfl rfl ?_
    refine Lq ?_
    refine Lq ?_
    refine Lq ?_
    refine L_q rfl (by simp (disch := first | omega | (simp only [List.length_map, List.length_append, List.length_set, List.length_cons, List.length_nil]; omega)) only [go_sem, ↓reduceIte, Nat.reduceEqDiff, reduceCtorEq, q0, qf, qs, qy, qq, qx, qa] <;> rfl) rfl ?_
    refine L_nil ?_
    refine Ms ?_ (wrC_store (by simp (disch := first | omega | (simp only [List.length_map, List.length_append, List.length_set, List.length_cons, List.length_nil]; omega)) only [go_sem, ↓reduceIte, Nat.reduceEqDiff, reduceCtorEq, q0, qf, qs, qy, qq, qx, qa] <;> rfl) (by simp only [rdV, isLoad, go_sem, ↓reduceIte, Nat.reduceEqDiff, List.mem_cons, List.not_mem_nil, or_false, List.append_nil, List.nil_append, List.cons_append, not_or]; omega))
    have lq0 := hget_lt q0
    have lqf := hget_lt qf
    have lqs := hget_lt qs
    have lqy := hget_lt qy
    have lqq := hget_lt qq
    have lqx := hget_lt qx
    have lqa := hget_lt qa
    refine A_store ty85 (by simp (disch := first | omega | (simp only [List.length_map, List.length_append, List.length_set, List.length_cons, List.length_nil]; omega)) only [go_sem, ↓reduceIte, Nat.reduceEqDiff, reduceCtorEq, q0, qf, qs, qy, qq, qx, qa] <;> rfl) (by simp (disch := first | omega | (simp only [List.length_map, List.length_append, List.length_set, List.length_cons, List.length_nil]; omega)) only [go_sem, ↓reduceIte, Nat.reduceEqDiff, reduceCtorEq, q0, qf, qs, qy, qq, qx, qa] <;> rfl) qa ⟨by omega, rfl, by first | (simp only [List.length_map]; omega) | (simp only [flatA_len]; omega) | exact Nat.le_refl _ | decide | simp⟩ (show _ = [AV.i u, AV.v (.bool true)] from rfl) ?_
    intro HG w6
    have ew6 := w6.len
    have q0 := (w6.old _ (by omega)).trans q0
    have qf := (w6.old _ (by omega)).trans qf
    have qs := (w6.old _ (by omega)).trans qs
    have qy := (w6.old _ (by omega)).trans qy
    have qq := (w6.old _ (by omega)).trans qq
    have qx := (w6.old _ (by omega)).trans qx
    have qa := w6.new
    refine R_end ?_
    refine M_nil ?_
    refine Rq ?_
    have tr : ∀ a b c d e f g h i j k m n o p q r s t u v w x y z A : AV, let l := lc_reach_ok a b c d e f g h i j k m n o p q r s t u v; trim ((13,A)::(54,z)::(53,y)::(52,x)::(51,w)::l) l = lc_reach_ok a b c d e f g h i j k m A o p q r s t u v := by intros; rfl
    refine R_nil (tr ..) ?_; clear tr
    refine then_n ?_
    refine at_seq rfl ?_
    refine rg rfl ?_
    have hrb : roomV E f (u : Int) true = gt f u := by simp [roomV]
    have hrf : roomV E f (u : Int) false = (gt E u).c - gt f u := by simp [roomV]
    refine Rq ?_
    refine Rq ?_
    refine Rq ?_
    refine R_q rfl (by simp (disch := first | omega | (simp only [List.length_map, List.length_append, List.length_set, List.length_cons, List.length_nil]; omega)) only [go_sem, ↓reduceIte, Nat.reduceEqDiff, reduceCtorEq, q0, qf, qs, qy, qq, qx, qa] <;> rfl) ?_
    refine Rq ?_
    refine Rq ?_
    refine Rp_split (fun h4 => ?_) (fun h4 => ?_)
    ·
     try simp only [decide_eq_true_eq, decide_eq_false_iff_not, Bool.not_eq_true', Bool.not_eq_false', beq_iff_eq, beq_eq_false_iff_ne, ne_eq] at h4
     refine Ry ?_
     refine R_q rfl (by simp (disch := first | omega | (simp only [List.length_map, List.length_append, List.length_set, List.length_cons, List.length_nil]; omega)) only [go_sem, ↓reduceIte, Nat.reduceEqDiff, reduceCtorEq, q0, qf, qs, qy, qq, qx, qa] <;> rfl) ?_
     refine Ry ?_
     refine Rq ?_
     refine Ry ?_
     refine R_q rfl (by simp (disch := first | omega | (simp only [List.length_map, List.length_append, List.length_set, List.length_cons, List.length_nil]; omega)) only [go_sem, ↓reduceIte, Nat.reduceEqDiff, reduceCtorEq, q0, qf, qs, qy, qq, qx, qa] <;> rfl) ?_
     refine Ry ?_
     refine Rcall ?_
     refine ACall_eq (room_ok _ _ n s t E f bf _ rfl qf _ _ (by omega) (by omega) g hl hrr) ?_
     refine Ry ?_
     refine Rq ?_
     refine Rq ?_
     have tr : ∀ a b c d e f g h i j k m n o p q r s t u v w x y z A B C D E F G H : AV, let l := lc_reach_ok a b c d e f g h i j k m n o p q r s t u v; trim ((70,H)::(69,G)::(68,F)::(67,E)::(66,D)::(65,C)::(64,B)::(63,A)::(62,z)::(61,y)::(60,x)::(59,w)::l) l = lc_reach_ok a b c d e f g h i j k m n o p q r s t u H := by intros; rfl
     refine R_nil (tr ..) ?_; clear tr
     refine then_n ?_
     refine cdd (fun h5 => ?_) (fun h5 => ?_)
     ·
      try simp only [decide_eq_true_eq, decide_eq_false_iff_not, Bool.not_eq_true', Bool.not_eq_false', beq_iff_eq, beq_eq_false_iff_ne, ne_eq] at h5
      refine at_seq rfl ?_
      refine rl rfl rfl ?_
      refine Lq ?_
      refine Lq ?_
      refine Lq ?_
      refine Lq ?_
      refine L_q rfl (by simp (disch := first | omega | (simp only [List.length_map, List.length_append, List.length_set, List.length_cons, List.length_nil]; omega)) only [go_sem, ↓reduceIte, Nat.reduceEqDiff, reduceCtorEq, q0, qf, qs, qy, qq, qx, qa] <;> rfl) rfl ?_
      refine Lq ?_
      refine L_nil ?_
      refine Ms ?_ (wrC_store (by simp (disch := first | omega | (simp only [List.length_map, List.length_append, List.length_set, List.length_cons, List.length_nil]; omega)) only [go_sem, ↓reduceIte, Nat.reduceEqDiff, reduceCtorEq, q0, qf, qs, qy, qq, qx, qa] <;> rfl) (by simp only [rdV, isLoad, go_sem, ↓reduceIte, Nat.reduceEqDiff, List.mem_cons, List.not_mem_nil, or_false, List.append_nil, List.nil_append, List.cons_append, not_or]; omega))
      have lq0 := hget_lt q0
      have lqf := hget_lt qf
      have lqs := hget_lt qs
      have lqy := hget_lt qy
      have lqq := hget_lt qq
      have lqx := hget_lt qx
      have lqa := hget_lt qa
      refine A_store ty4 (by simp (disch := first | omega | (simp only [List.length_map, List.length_append, List.length_set, List.length_cons, List.length_nil]; omega)) only [go_sem, ↓reduceIte, Nat.reduceEqDiff, reduceCtorEq, q0, qf, qs, qy, qq, qx, qa] <;> rfl) (by simp (disch := first | omega | (simp only [List.length_map, List.length_append, List.length_set, List.length_cons, List.length_nil]; omega)) only [go_sem, ↓reduceIte, Nat.reduceEqDiff, reduceCtorEq, q0, qf, qs, qy, qq, qx, qa] <;> rfl) qs ⟨by omega, rfl, by first | (simp only [List.length_map]; omega) | (simp only [flatA_len]; omega) | exact Nat.le_refl _ | decide | simp⟩ (setL_b _ _ _) ?_
      intro HH w7
      have ew7 := w7.len
      have q0 := (w7.old _ (by omega)).trans q0
      have qf := (w7.old _ (by omega)).trans qf
      have qy := (w7.old _ (by omega)).trans qy
      have qq := (w7.old _ (by omega)).trans qq
      have qx := (w7.old _ (by omega)).trans qx
      have qa := (w7.old _ (by omega)).trans qa
      have qs := w7.new
      refine R_end ?_
      refine M_nil ?_
      refine Rq ?_
      have lq0 := hget_lt q0
      have lqf := hget_lt qf
      have lqs := hget_lt qs
      have lqy := hget_lt qy
      have lqq := hget_lt qq
      have lqx := hget_lt qx
      have lqa := hget_lt qa
      refine A_store ty85 (by simp (disch := first | omega | (simp only [List.length_map, List.length_append, List.length_set, List.length_cons, List.length_nil]; omega)) only [go_sem, ↓reduceIte, Nat.reduceEqDiff, reduceCtorEq, q0, qf, qs, qy, qq, qx, qa] <;> rfl) (by simp (disch := first | omega | (simp only [List.length_map, List.length_append, List.length_set, List.length_cons, List.length_nil]; omega)) only [go_sem, ↓reduceIte, Nat.reduceEqDiff, reduceCtorEq, q0, qf, qs, qy, qq, qx, qa] <;> rfl) qy ⟨by omega, rfl, by first | (simp only [List.length_map]; omega) | (simp only [flatA_len]; omega) | exact Nat.le_refl _ | decide | simp⟩ (by first | exact (congrArg (setL _ _) (arc_back u).symm).trans (flatA_set _ _ _ (by omega)) | exact (congrArg (setL _ _) (arc_fwd u).symm).trans (flatA_set _ _ _ (by omega))) ?_
      intro HI w8
      have ew8 := w8.len
      have q0 := (w8.old _ (by omega)).trans q0
      have qf := (w8.old _ (by omega)).trans qf
      have qs := (w8.old _ (by omega)).trans qs
      have qq := (w8.old _ (by omega)).trans qq
      have qx := (w8.old _ (by omega)).trans qx
      have qa := (w8.old _ (by omega)).trans qa
      have qy := w8.new
      have tr : ∀ a b c d e f g h i j k m n o p q r s t u v w x y z A B C : AV, let l := lc_reach_ok a b c d e f g h i j k m n o p q r s t u v; trim ((77,C)::(76,B)::(75,A)::(74,z)::(73,y)::(72,x)::(71,w)::l) l = lc_reach_ok a b c d e f g h i j k m n o p q r s t u v := by intros; rfl
      refine R_nil (tr ..) ?_; clear tr
      refine then_n ?_
      refine rg rfl ?_
      refine Rq ?_
      refine Rq ?_
      refine A_buildSlice (bs40 _ _ _ _ _ (by simp (disch := first | omega | (simp only [List.length_map, List.length_append, List.length_set, List.length_cons, List.length_nil]; omega)) only [go_sem, ↓reduceIte, Nat.reduceEqDiff, reduceCtorEq, q0, qf, qs, qy, qq, qx, qa] <;> rfl)) ?_
      intro HJ n9
      have en9 := n9.len
      have q0 := (n9.old _ (hget_lt q0)).trans q0
      have qf := (n9.old _ (hget_lt qf)).trans qf
      have qs := (n9.old _ (hget_lt qs)).trans qs
      have qy := (n9.old _ (hget_lt qy)).trans qy
      have qq := (n9.old _ (hget_lt qq)).trans qq
      have qx := (n9.old _ (hget_lt qx)).trans qx
      have qa := (n9.old _ (hget_lt qa)).trans qa
      have qn := n9.new
      have lq0 := hget_lt q0
      have lqf := hget_lt qf
      have lqs := hget_lt qs
      have lqy := hget_lt qy
      have lqq := hget_lt qq
      have lqn := hget_lt qn
      refine A_append (by simp (disch := first | omega | (simp only [List.length_map, List.length_append, List.length_set, List.length_cons, List.length_nil]; omega)) only [go_sem, ↓reduceIte, Nat.reduceEqDiff, reduceCtorEq]; exact app40 qq qn (by omega) hoq2 (by omega)) ?_
      intro HK g9
      have eg9 := g9.len
      have q0 := (g9.old _ (by omega) lq0).trans q0
      have qf := (g9.old _ (by omega) lqf).trans qf
      have qs := (g9.old _ (by omega) lqs).trans qs
      have qy := (g9.old _ (by omega) lqy).trans qy
      have qq := g9.new
      refine Rq ?_
      have tr : ∀ a b c d e f g h i j k m n o p q r s t u v w x y z A : AV, let l := lc_reach_ok a b c d e f g h i j k m n o p q r s t u v; trim ((8,A)::(81,z)::(80,y)::(79,x)::(78,w)::l) l = lc_reach_ok a b c d e f g A i j k m n o p q r s t u v := by intros; rfl
      refine R_nil (tr ..) ?_; clear tr
      refine blk_n ?_
      refine then_n ?_
      refine rg rfl ?_
      refine Rq ?_
      refine Rq ?_
      have tr : ∀ a b c d e f g h i j k m n o p q r s t u v w x : AV, let l := lc_reach_ok a b c d e f g h i j k m n o p q r s t u v; trim ((38,x)::(82,w)::l) l = lc_reach_ok a b c d e f g h i j k m n o p q x s t u v := by intros; rfl
      refine R_nil (tr ..) ?_; clear tr
      refine then_n ?_
      exact ⟨_, _, ⟨u + 1, pushS st2 (gt E u).a (-(u : Int) - 1), HJ.length, 0, Q2.drop o2 ++ [(gt E u).a], (st2.q.length + 1), _, _, _, _, _, _, _, _, rfl, rfl, by exact q0, by exact qf, by exact qs, by first | exact qy | (rw [show -(u : Int) - 1 = 0 - (u : Int) - 1 by omega]; exact qy), by exact qq, by first | exact hbq2 | omega, by first | exact hoq2 | (simp only [pushS, List.length_append, List.length_drop, List.length_cons, List.length_nil]; omega), by first | exact hqd2 | simp only [pushS, List.drop_zero, hqd2], by omega, by (rw [scanN, ← hs2]; unfold stepE; first | (rw [if_pos (by omega), if_pos ⟨by assumption, by omega⟩]) | (rw [if_neg (by omega), if_pos (by omega), if_pos ⟨by assumption, by omega⟩]) | (rw [if_pos (by omega), if_neg (by intro hh; simp_all; done)]) | (rw [if_pos (by omega), if_neg (by intro hh; omega)]) | (rw [if_neg (by omega), if_pos (by omega), if_neg (by intro hh; simp_all; done)]) | (rw [if_neg (by omega), if_pos (by omega), if_neg (by intro hh; omega)]) | (rw [if_neg (by omega), if_neg (by omega)])), by first | rfl | simp [pushS]⟩, by rfl, by omega⟩
     ·
      try simp only [decide_eq_true_eq, decide_eq_false_iff_not, Bool.not_eq_true', Bool.not_eq_false', beq_iff_eq, beq_eq_false_iff_ne, ne_eq] at h5
      refine at_skip rfl ?_
      refine blk_n ?_
      refine then_n ?_
      refine rg rfl ?_
      refine Rq ?_
      refine Rq ?_
      have tr : ∀ a b c d e f g h i j k m n o p q r s t u v w x : AV, let l := lc_reach_ok a b c d e f g h i j k m n o p q r s t u v; trim ((38,x)::(82,w)::l) l = lc_reach_ok a b c d e f g h i j k m n o p q x s t u v := by intros; rfl
      refine R_nil (tr ..) ?_; clear tr
      refine then_n ?_
      exact ⟨_, _, ⟨u + 1, st2, bq2, o2, Q2, st2.q.length, _, _, _, _, _, _, _, _, rfl, rfl, by exact q0, by exact qf, by exact qs, by first | exact qy | (rw [show -(u : Int) - 1 = 0 - (u : Int) - 1 by omega]; exact qy), by exact qq, by first | exact hbq2 | omega, by first | exact hoq2 | (simp only [pushS, List.length_append, List.length_drop, List.length_cons, List.length_nil]; omega), by first | exact hqd2 | simp only [pushS, List.drop_zero, hqd2], by omega, by (rw [scanN, ← hs2]; unfold stepE; first | (rw [if_pos (by omega), if_pos ⟨by assumption, by omega⟩]) | (rw [if_neg (by omega), if_pos (by omega), if_pos ⟨by assumption, by omega⟩]) | (rw [if_pos (by omega), if_neg (by intro hh; simp_all; done)]) | (rw [if_pos (by omega), if_neg (by intro hh; omega)]) | (rw [if_neg (by omega), if_pos (by omega), if_neg (by intro hh; simp_all; done)]) | (rw [if_neg (by omega), if_pos (by omega), if_neg (by intro hh; omega)]) | (rw [if_neg (by omega), if_neg (by omega)])), by first | rfl | simp [pushS]⟩, by rfl, by omega⟩
    ·
     try simp only [decide_eq_true_eq, decide_eq_false_iff_not, Bool.not_eq_true', Bool.not_eq_false', beq_iff_eq, beq_eq_false_iff_ne, ne_eq] at h4
     refine Rn ?_
     refine Rn ?_
     refine Rn ?_
     refine Rn ?_
     refine Rn ?_
     refine Rq ?_
     have tr : ∀ a b c d e f g h i j k m n o p q r s t u v w x y z A B C D E F G H : AV, let l := lc_reach_ok a b c d e f g h i j k m n o p q r s t u v; trim ((70,H)::(69,G)::(68,F)::(67,E)::(66,D)::(65,C)::(64,B)::(63,A)::(62,z)::(61,y)::(60,x)::(59,w)::l) l = lc_reach_ok a b c d e f g h i j k m n o p q r s t u H := by intros; rfl
     refine R_nil (tr ..) ?_; clear tr
     refine then_n ?_
     refine cdf ?_
     refine at_skip rfl ?_
     refine blk_n ?_
     refine then_n ?_
     refine rg rfl ?_
     refine Rq ?_
     refine Rq ?_
     have tr : ∀ a b c d e f g h i j k m n o p q r s t u v w x : AV, let l := lc_reach_ok a b c d e f g h i j k m n o p q r s t u v; trim ((38,x)::(82,w)::l) l = lc_reach_ok a b c d e f g h i j k m n o p q x s t u v := by intros; rfl
     refine R_nil (tr ..) ?_; clear tr
     refine then_n ?_
     exact ⟨_, _, ⟨u + 1, st2, bq2, o2, Q2, st2.q.length, _, _, _, _, _, _, _, _, rfl, rfl, by exact q0, by exact qf, by exact qs, by first | exact qy | (rw [show -(u : Int) - 1 = 0 - (u : Int) - 1 by omega]; exact qy), by exact qq, by first | exact hbq2 | omega, by first | exact hoq2 | (simp only [pushS, List.length_append, List.length_drop, List.length_cons, List.length_nil]; omega), by first | exact hqd2 | simp only [pushS, List.drop_zero, hqd2], by omega, by (rw [scanN, ← hs2]; unfold stepE; first | (rw [if_pos (by omega), if_pos ⟨by assumption, by omega⟩]) | (rw [if_neg (by omega), if_pos (by omega), if_pos ⟨by assumption, by omega⟩]) | (rw [if_pos (by omega), if_neg (by intro hh; simp_all; done)]) | (rw [if_pos (by omega), if_neg (by intro hh; omega)]) | (rw [if_neg (by omega), if_pos (by omega), if_neg (by intro hh; simp_all; done)]) | (rw [if_neg (by omega), if_pos (by omega), if_neg (by intro hh; omega)]) | (rw [if_neg (by omega), if_neg (by omega)])), by first | rfl | simp [pushS]⟩, by rfl, by omega⟩
   ·
    try simp only [decide_eq_true_eq, decide_eq_false_iff_not, Bool.not_eq_true', Bool.not_eq_false', beq_iff_eq, beq_eq_false_iff_ne, ne_eq] at h3
    refine at_seq rfl ?_
    refine rg rfl ?_
    refine Rq ?_
    refine R_q rfl (by simp (disch := first | omega | (simp only [List.length_map, List.length_append, List.length_set, List.length_cons, List.length_nil]; omega)) only [go_sem, ↓reduceIte, Nat.reduceEqDiff, reduceCtorEq, q0, qf, qs, qy, qq, qx, qa] <;> rfl) ?_
    refine Rq ?_
    refine Rq ?_
    have tr : ∀ a b c d e f g h i j k m n o p q r s t u v w x y z : AV, let l := lc_reach_ok a b c d e f g h i j k m n o p q r s t u v; trim ((58,z)::(57,y)::(56,x)::(55,w)::l) l = lc_reach_ok a b c d e f g h i j k m n o p q r s t z v := by intros; rfl
    refine R_nil (tr ..) ?_; clear tr
    refine then_n ?_
    refine cdd (fun h6 => ?_) (fun h6 => ?_)
    ·
     try simp only [decide_eq_true_eq, decide_eq_false_iff_not, Bool.not_eq_true', Bool.not_eq_false', beq_iff_eq, beq_eq_false_iff_ne, ne_eq] at h6
     refine at_exit rfl ?_
     refine then_x ?_
     refine blk_x ?_
     refine then_n ?_
     refine rg rfl ?_
     refine Rq ?_
     refine Rq ?_
     have tr : ∀ a b c d e f g h i j k m n o p q r s t u v w x : AV, let l := lc_reach_ok a b c d e f g h i j k m n o p q r s t u v; trim ((38,x)::(82,w)::l) l = lc_reach_ok a b c d e f g h i j k m n o p q x s t u v := by intros; rfl
     refine R_nil (tr ..) ?_; clear tr
     refine then_n ?_
     exact ⟨_, _, ⟨u + 1, st2, bq2, o2, Q2, st2.q.length, _, _, _, _, _, _, _, _, rfl, rfl, by exact q0, by exact qf, by exact qs, by first | exact qy | (rw [show -(u : Int) - 1 = 0 - (u : Int) - 1 by omega]; exact qy), by exact qq, by first | exact hbq2 | omega, by first | exact hoq2 | (simp only [pushS, List.length_append, List.length_drop, List.length_cons, List.length_nil]; omega), by first | exact hqd2 | simp only [pushS, List.drop_zero, hqd2], by omega, by (rw [scanN, ← hs2]; unfold stepE; first | (rw [if_pos (by omega), if_pos ⟨by assumption, by omega⟩]) | (rw [if_neg (by omega), if_pos (by omega), if_pos ⟨by assumption, by omega⟩]) | (rw [if_pos (by omega), if_neg (by intro hh; simp_all; done)]) | (rw [if_pos (by omega), if_neg (by intro hh; omega)]) | (rw [if_neg (by omega), if_pos (by omega), if_neg (by intro hh; simp_all; done)]) | (rw [if_neg (by omega), if_pos (by omega), if_neg (by intro hh; omega)]) | (rw [if_neg (by omega), if_neg (by omega)])), by first | rfl | simp [pushS]⟩, by rfl, by omega⟩
    ·
     try simp only [decide_eq_true_eq, decide_eq_false_iff_not, Bool.not_eq_true', Bool.not_eq_false', beq_iff_eq, beq_eq_false_iff_ne, ne_eq] at h6
     refine at_skip rfl ?_
     refine then_n ?_
     refine at_seq rfl ?_
     refine rg rfl ?_
     have hrb : roomV E f (u : Int) true = gt f u := by simp [roomV]
     have hrf : roomV E f (u : Int) false = (gt E u).c - gt f u := by simp [roomV]
     refine Rq ?_
     refine Rq ?_
     refine Rq ?_
     refine R_q rfl (by simp (disch := first | omega | (simp only [List.length_map, List.length_append, List.length_set, List.length_cons, List.length_nil]; omega)) only [go_sem, ↓reduceIte, Nat.reduceEqDiff, reduceCtorEq, q0, qf, qs, qy, qq, qx, qa] <;> rfl) ?_
     refine Rq ?_
     refine Rq ?_
     refine Rp_split (fun h7 => ?_) (fun h7 => ?_)
     ·
      try simp only [decide_eq_true_eq, decide_eq_false_iff_not, Bool.not_eq_true', Bool.not_eq_false', beq_iff_eq, beq_eq_false_iff_ne, ne_eq] at h7
      refine Ry ?_
      refine R_q rfl (by simp (disch := first | omega | (simp only [List.length_map, List.length_append, List.length_set, List.length_cons, List.length_nil]; omega)) only [go_sem, ↓reduceIte, Nat.reduceEqDiff, reduceCtorEq, q0, qf, qs, qy, qq, qx, qa] <;> rfl) ?_
      refine Ry ?_
      refine Rq ?_
      refine Ry ?_
      refine R_q rfl (by simp (disch := first | omega | (simp only [List.length_map, List.length_append, List.length_set, List.length_cons, List.length_nil]; omega)) only [go_sem, ↓reduceIte, Nat.reduceEqDiff, reduceCtorEq, q0, qf, qs, qy, qq, qx, qa] <;> rfl) ?_
      refine Ry ?_
      refine Rcall ?_
      refine ACall_eq (room_ok _ _ n s t E f bf _ rfl qf _ _ (by omega) (by omega) g hl hrr) ?_
      refine Ry ?_
      refine Rq ?_
      refine Rq ?_
      have tr : ∀ a b c d e f g h i j k m n o p q r s t u v w x y z A B C D E F G H : AV, let l := lc_reach_ok a b c d e f g h i j k m n o p q r s t u v; trim ((70,H)::(69,G)::(68,F)::(67,E)::(66,D)::(65,C)::(64,B)::(63,A)::(62,z)::(61,y)::(60,x)::(59,w)::l) l = lc_reach_ok a b c d e f g h i j k m n o p q r s t u H := by intros; rfl
      refine R_nil (tr ..) ?_; clear tr
      refine then_n ?_
      refine cdd (fun h8 => ?_) (fun h8 => ?_)
      ·
       try simp only [decide_eq_true_eq, decide_eq_false_iff_not, Bool.not_eq_true', Bool.not_eq_false', beq_iff_eq, beq_eq_false_iff_ne, ne_eq] at h8
       refine at_seq rfl ?_
       refine rl rfl rfl ?_
       refine Lq ?_
       refine Lq ?_
       refine Lq ?_
       refine Lq ?_
       refine L_q rfl (by simp (disch := first | omega | (simp only [List.length_map, List.length_append, List.length_set, List.length_cons, List.length_nil]; omega)) only [go_sem, ↓reduceIte, Nat.reduceEqDiff, reduceCtorEq, q0, qf, qs, qy, qq, qx, qa] <;> rfl) rfl ?_
       refine Lq ?_
       refine L_nil ?_
       refine Ms ?_ (wrC_store (by simp (disch := first | omega | (simp only [List.length_map, List.length_append, List.length_set, List.length_cons, List.length_nil]; omega)) only [go_sem, ↓reduceIte, Nat.reduceEqDiff, reduceCtorEq, q0, qf, qs, qy, qq, qx, qa] <;> rfl) (by simp only [rdV, isLoad, go_sem, ↓reduceIte, Nat.reduceEqDiff, List.mem_cons, List.not_mem_nil, or_false, List.append_nil, List.nil_append, List.cons_append, not_or]; omega))
       have lq0 := hget_lt q0
       have lqf := hget_lt qf
       have lqs := hget_lt qs
       have lqy := hget_lt qy
       have lqq := hget_lt qq
       have lqx := hget_lt qx
       have lqa := hget_lt qa
       refine A_store ty4 (by simp (disch := first | omega | (simp only [List.length_map, List.length_append, List.length_set, List.length_cons, List.length_nil]; omega)) only [go_sem, ↓reduceIte, Nat.reduceEqDiff, reduceCtorEq, q0, qf, qs, qy, qq, qx, qa] <;> rfl) (by simp (disch := first | omega | (simp only [List.length_map, List.length_append, List.length_set, List.length_cons, List.length_nil]; omega)) only [go_sem, ↓reduceIte, Nat.reduceEqDiff, reduceCtorEq, q0, qf, qs, qy, qq, qx, qa] <;> rfl) qs ⟨by omega, rfl, by first | (simp only [List.length_map]; omega) | (simp only [flatA_len]; omega) | exact Nat.le_refl _ | decide | simp⟩ (setL_b _ _ _) ?_
       intro HH w7
       have ew7 := w7.len
       have q0 := (w7.old _ (by omega)).trans q0
       have qf := (w7.old _ (by omega)).trans qf
       have qy := (w7.old _ (by omega)).trans qy
       have qq := (w7.old _ (by omega)).trans qq
       have qx := (w7.old _ (by omega)).trans qx
       have qa := (w7.old _ (by omega)).trans qa
       have qs := w7.new
       refine R_end ?_
       refine M_nil ?_
       refine Rq ?_
       have lq0 := hget_lt q0
       have lqf := hget_lt qf
       have lqs := hget_lt qs
       have lqy := hget_lt qy
       have lqq := hget_lt qq
       have lqx := hget_lt qx
       have lqa := hget_lt qa
       refine A_store ty85 (by simp (disch := first | omega | (simp only [List.length_map, List.length_append, List.length_set, List.length_cons, List.length_nil]; omega)) only [go_sem, ↓reduceIte, Nat.reduceEqDiff, reduceCtorEq, q0, qf, qs, qy, qq, qx, qa] <;> rfl) (by simp (disch := first | omega | (simp only [List.length_map, List.length_append, List.length_set, List.length_cons, List.length_nil]; omega)) only [go_sem, ↓reduceIte, Nat.reduceEqDiff, reduceCtorEq, q0, qf, qs, qy, qq, qx, qa] <;> rfl) qy ⟨by omega, rfl, by first | (simp only [List.length_map]; omega) | (simp only [flatA_len]; omega) | exact Nat.le_refl _ | decide | simp⟩ (by first | exact (congrArg (setL _ _) (arc_back u).symm).trans (flatA_set _ _ _ (by omega)) | exact (congrArg (setL _ _) (arc_fwd u).symm).trans (flatA_set _ _ _ (by omega))) ?_
       intro HI w8
       have ew8 := w8.len
       have q0 := (w8.old _ (by omega)).trans q0
       have qf := (w8.old _ (by omega)).trans qf
       have qs := (w8.old _ (by omega)).trans qs
       have qq := (w8.old _ (by omega)).trans qq
       have qx := (w8.old _ (by omega)).trans qx
       have qa := (w8.old _ (by omega)).trans qa
       have qy := w8.new
       have tr : ∀ a b c d e f g h i j k m n o p q r s t u v w x y z A B C : AV, let l := lc_reach_ok a b c d e f g h i j k m n o p q r s t u v; trim ((77,C)::(76,B)::(75,A)::(74,z)::(73,y)::(72,x)::(71,w)::l) l = lc_reach_ok a b c d e f g h i j k m n o p q r s t u v := by intros; rfl
       refine R_nil (tr ..) ?_; clear tr
       refine then_n ?_
       refine rg rfl ?_
       refine Rq ?_
       refine Rq ?_
       refine A_buildSlice (bs40 _ _ _ _ _ (by simp (disch := first | omega | (simp only [List.length_map, List.length_append, List.length_set, List.length_cons, List.length_nil]; omega)) only [go_sem, ↓reduceIte, Nat.reduceEqDiff, reduceCtorEq, q0, qf, qs, qy, qq, qx, qa] <;> rfl)) ?_
       intro HJ n9
       have en9 := n9.len
       have q0 := (n9.old _ (hget_lt q0)).trans q0
       have qf := (n9.old _ (hget_lt qf)).trans qf
       have qs := (n9.old _ (hget_lt qs)).trans qs
       have qy := (n9.old _ (hget_lt qy)).trans qy
       have qq := (n9.old _ (hget_lt qq)).trans qq
       have qx := (n9.old _ (hget_lt qx)).trans qx
       have qa := (n9.old _ (hget_lt qa)).trans qa
       have qn := n9.new
       have lq0 := hget_lt q0
       have lqf := hget_lt qf
       have lqs := hget_lt qs
       have lqy := hget_lt qy
       have lqq := hget_lt qq
       have lqn := hget_lt qn
       refine A_append (by simp (disch := first | omega | (simp only [List.length_map, List.length_append, List.length_set, List.length_cons, List.length_nil]; omega)) only [go_sem, ↓reduceIte, Nat.reduceEqDiff, reduceCtorEq]; exact app40 qq qn (by omega) hoq2 (by omega)) ?_
       intro HK g9
       have eg9 := g9.len
       have q0 := (g9.old _ (by omega) lq0).trans q0
       have qf := (g9.old _ (by omega) lqf).trans qf
       have qs := (g9.old _ (by omega) lqs).trans qs
       have qy := (g9.old _ (by omega) lqy).trans qy
       have qq := g9.new
       refine Rq ?_
       have tr : ∀ a b c d e f g h i j k m n o p q r s t u v w x y z A : AV, let l := lc_reach_ok a b c d e f g h i j k m n o p q r s t u v; trim ((8,A)::(81,z)::(80,y)::(79,x)::(78,w)::l) l = lc_reach_ok a b c d e f g A i j k m n o p q r s t u v := by intros; rfl
       refine R_nil (tr ..) ?_; clear tr
       refine blk_n ?_
       refine then_n ?_
       refine rg rfl ?_
       refine Rq ?_
       refine Rq ?_
       have tr : ∀ a b c d e f g h i j k m n o p q r s t u v w x : AV, let l := lc_reach_ok a b c d e f g h i j k m n o p q r s t u v; trim ((38,x)::(82,w)::l) l = lc_reach_ok a b c d e f g h i j k m n o p q x s t u v := by intros; rfl
       refine R_nil (tr ..) ?_; clear tr
       refine then_n ?_
       exact ⟨_, _, ⟨u + 1, pushS st2 (gt E u).b ((u : Int) + 1), HJ.length, 0, Q2.drop o2 ++ [(gt E u).b], (st2.q.length + 1), _, _, _, _, _, _, _, _, rfl, rfl, by exact q0, by exact qf, by exact qs, by first | exact qy | (rw [show -(u : Int) - 1 = 0 - (u : Int) - 1 by omega]; exact qy), by exact qq, by first | exact hbq2 | omega, by first | exact hoq2 | (simp only [pushS, List.length_append, List.length_drop, List.length_cons, List.length_nil]; omega), by first | exact hqd2 | simp only [pushS, List.drop_zero, hqd2], by omega, by (rw [scanN, ← hs2]; unfold stepE; first | (rw [if_pos (by omega), if_pos ⟨by assumption, by omega⟩]) | (rw [if_neg (by omega), if_pos (by omega), if_pos ⟨by assumption, by omega⟩]) | (rw [if_pos (by omega), if_neg (by intro hh; simp_all; done)]) | (rw [if_pos (by omega), if_neg (by intro hh; omega)]) | (rw [if_neg (by omega), if_pos (by omega), if_neg (by intro hh; simp_all; done)]) | (rw [if_neg (by omega), if_pos (by omega), if_neg (by intro hh; omega)]) | (rw [if_neg (by omega), if_neg (by omega)])), by first | rfl | simp [pushS]⟩, by rfl, by omega⟩
      ·
       try simp only [decide_eq_true_eq, decide_eq_false_iff_not, Bool.not_eq_true', Bool.not_eq_false', beq_iff_eq, beq_eq_false_iff_ne, ne_eq] at h8
       refine at_skip rfl ?_
       refine blk_n ?_
       refine then_n ?_
       refine rg rfl ?_
       refine Rq ?_
       refine Rq ?_
       have tr : ∀ a b c d e f g h i j k m n o p q r s t u v w x : AV, let l := lc_reach_ok a b c d e f g h i j k m n o p q r s t u v; trim ((38,x)::(82,w)::l) l = lc_reach_ok a b c d e f g h i j k m n o p q x s t u v := by intros; rfl
       refine R_nil (tr ..) ?_; clear tr
       refine then_n ?_
       exact ⟨_, _, ⟨u + 1, st2, bq2, o2, Q2, st2.q.length, _, _, _, _, _, _, _, _, rfl, rfl, by exact q0, by exact qf, by exact qs, by first | exact qy | (rw [show -(u : Int) - 1 = 0 - (u : Int) - 1 by omega]; exact qy), by exact qq, by first | exact hbq2 | omega, by first | exact hoq2 | (simp only [pushS, List.length_append, List.length_drop, List.length_cons, List.length_nil]; omega), by first | exact hqd2 | simp only [pushS, List.drop_zero, hqd2], by omega, by (rw [scanN, ← hs2]; unfold stepE; first | (rw [if_pos (by omega), if_pos ⟨by assumption, by omega⟩]) | (rw [if_neg (by omega), if_pos (by omega), if_pos ⟨by assumption, by omega⟩]) | (rw [if_pos (by omega), if_neg (by intro hh; simp_all; done)]) | (rw [if_pos (by omega), if_neg (by intro hh; omega)]) | (rw [if_neg (by omega), if_pos (by omega), if_neg (by intro hh; simp_all; done)]) | (rw [if_neg (by omega), if_pos (by omega), if_neg (by intro hh; omega)]) | (rw [if_neg (by omega), if_neg (by omega)])), by first | rfl | simp [pushS]⟩, by rfl, by omega⟩
     ·
      try simp only [decide_eq_true_eq, decide_eq_false_iff_not, Bool.not_eq_true', Bool.not_eq_false', beq_iff_eq, beq_eq_false_iff_ne, ne_eq] at h7
      refine Rn ?_
      refine Rn ?_
      refine Rn ?_
      refine Rn ?_
      refine Rn ?_
      refine Rq ?_
      have tr : ∀ a b c d e f g h i j k m n o p q r s t u v w x y z A B C D E F G H : AV, let l := lc_reach_ok a b c d e f g h i j k m n o p q r s t u v; trim ((70,H)::(69,G)::(68,F)::(67,E)::(66,D)::(65,C)::(64,B)::(63,A)::(62,z)::(61,y)::(60,x)::(59,w)::l) l = lc_reach_ok a b c d e f g h i j k m n o p q r s t u H := by intros; rfl
      refine R_nil (tr ..) ?_; clear tr
      refine then_n ?_
      refine cdf ?_
      refine at_skip rfl ?_
      refine blk_n ?_
      refine then_n ?_
      refine rg rfl ?_
      refine Rq ?_
      refine Rq ?_
      have tr : ∀ a b c d e f g h i j k m n o p q r s t u v w x : AV, let l := lc_reach_ok a b c d e f g h i j k m n o p q r s t u v; trim ((38,x)::(82,w)::l) l = lc_reach_ok a b c d e f g h i j k m n o p q x s t u v := by intros; rfl
      refine R_nil (tr ..) ?_; clear tr
      refine then_n ?_
      exact ⟨_, _, ⟨u + 1, st2, bq2, o2, Q2, st2.q.length, _, _, _, _, _, _, _, _, rfl, rfl, by exact q0, by exact qf, by exact qs, by first | exact qy | (rw [show -(u : Int) - 1 = 0 - (u : Int) - 1 by omega]; exact qy), by exact qq, by first | exact hbq2 | omega, by first | exact hoq2 | (simp only [pushS, List.length_append, List.length_drop, List.length_cons, List.length_nil]; omega), by first | exact hqd2 | simp only [pushS, List.drop_zero, hqd2], by omega, by (rw [scanN, ← hs2]; unfold stepE; first | (rw [if_pos (by omega), if_pos ⟨by assumption, by omega⟩]) | (rw [if_neg (by omega), if_pos (by omega), if_pos ⟨by assumption, by omega⟩]) | (rw [if_pos (by omega), if_neg (by intro hh; simp_all; done)]) | (rw [if_pos (by omega), if_neg (by intro hh; omega)]) | (rw [if_neg (by omega), if_pos (by omega), if_neg (by intro hh; simp_all; done)]) | (rw [if_neg (by omega), if_pos (by omega), if_neg (by intro hh; omega)]) | (rw [if_neg (by omega), if_neg (by omega)])), by first | rfl | simp [pushS]⟩, by rfl, by omega⟩
  ·
   try simp only [decide_eq_true_eq, decide_eq_false_iff_not, Bool.not_eq_true', Bool.not_eq_false', beq_iff_eq, beq_eq_false_iff_ne, ne_eq] at h2
   refine at_exit rfl ?_
   refine then_x ?_
   refine then_x ?_
   refine blk_x ?_
   refine blk_n ?_
   refine then_n ?_
   exact ⟨_, _, ⟨k', st2, bq2, o2, Q2, st2.q.length, _, _, _, _, _, _, _, _, _, _, _, _, _, rfl, rfl, by exact q0, by exact qf, by exact qs, by exact qy, by exact qq, by exact hbq2, by exact hoq2, by exact hqd2, by exact sk.1, by rw [sk.2]; exact hmk2, by rw [hs2, show u = E.length by omega]; exact hbf2, by omega, by rfl⟩, by rfl, by omega⟩
 ·
  try simp only [decide_eq_true_eq, decide_eq_false_iff_not, Bool.not_eq_true', Bool.not_eq_false', beq_iff_eq, beq_eq_false_iff_ne, ne_eq] at h1
  refine at_exit rfl ?_
  refine then_x ?_
  refine then_x ?_
  refine blk_x ?_
  refine then_n ?_
  refine at_seq rfl ?_
  refine rg rfl ?_
  refine Rq ?_
  refine Rq ?_
  refine Rq ?_
  refine Rq ?_
  have tr : ∀ a b c d e f g h i j k m n o p q r s t u v w x y z : AV, let l := lc_reach_ok a b c d e f g h i j k m n o p q r s t u v; trim ((5,z)::(4,y)::(84,x)::(83,w)::l) l = lc_reach_ok a b c y z f g h i j k m n o p q r s t u v := by intros; rfl
  refine R_nil (tr ..) ?_; clear tr
  refine then_n ?_
  refine at_ret rfl ?_
  have he := bfs_end (E := E) (f := f) (st := st) (by omega) mm
  rw [he] at hbf
  refine fpure ?_
  refine ⟨?_, rfl⟩
  rw [← hbf]
  exact congrArg AV.tup (by rw [frz_ownBo (l := st.seen) (by omega) qs (by omega), frz_ownA (l := st.way) (by omega) qy (by omega)])

end Go.Proofs.Ytdmeioppkannlaa
end
section
set_option linter.unusedSimpArgs false
set_option linter.unusedVariables false
set_option maxHeartbeats 40000000
set_option maxRecDepth 4000
namespace Go.Proofs.Ytdmeioppkannlaa
open Go Go.Am

abbrev lc_node_ok (a b c d : AV) : Env := [(0,a),(1,b),(2,c),(4,d)]
theorem node_ok (lim : Nat) (H : Heap) (n s t : Int) (E : List Ed) (x : Int) :
    ACall sig lim 38 [.agg (graphC n s t E), AV.i x] H fun r H' => r = .v (.bool (decide (0 ≤ x ∧ x < n))) ∧ H' = H := by
 refine ACall_pure (fa := fa38) rfl rfl rfl rfl ?_
 have tr : ∀ a0 a1 : AV, env0 fa38.keep [a0, a1] = lc_node_ok a0 a1 .any .any := fun a0 a1 => rfl
 refine W_to (tr _ _) ?_; clear tr
 refine at_seq rfl ?_
 refine rg rfl ?_
 refine R_box rfl (by simp (disch := first | omega | (simp only [List.length_map, List.length_append, List.length_set, List.length_cons, List.length_nil]; omega)) only [go_sem, ↓reduceIte, Nat.reduceEqDiff, reduceCtorEq] <;> rfl) rfl rfl ?_
 refine Rq ?_
 have tr : ∀ a b c d e f : AV, let l := lc_node_ok a b c d; trim ((4,f)::(2,e)::l) l = lc_node_ok a b e f := by intros; rfl
 refine R_nil (tr ..) ?_; clear tr
 refine then_n ?_
 refine at_seq rfl ?_
 refine rg rfl ?_
 refine Rq ?_
 refine Rq ?_
 refine Rq ?_
 refine Rp_split (fun h1 => ?_) (fun h1 => ?_)
 ·
  try simp only [decide_eq_true_eq, decide_eq_false_iff_not, Bool.not_eq_true', Bool.not_eq_false', beq_iff_eq, beq_eq_false_iff_ne, ne_eq] at h1
  refine Ry ?_
  refine Rq ?_
  refine Ry ?_
  refine Rq ?_
  refine Ry ?_
  refine Rq ?_
  refine Ry ?_
  refine Rq ?_
  refine Rq ?_
  refine Rq ?_
  have tr : ∀ a b c d e f g h i j k m n : AV, let l := lc_node_ok a b c d; trim ((4,n)::(12,m)::(11,k)::(10,j)::(9,i)::(8,h)::(7,g)::(6,f)::(5,e)::l) l = lc_node_ok a b c n := by intros; rfl
  refine R_nil (tr ..) ?_; clear tr
  refine then_n ?_
  refine at_ret rfl ?_
  refine fpure ?_
  refine ⟨?_, rfl⟩
  congr 2
  exact decide_eq_decide.mpr (by omega)
 ·
  try simp only [decide_eq_true_eq, decide_eq_false_iff_not, Bool.not_eq_true', Bool.not_eq_false', beq_iff_eq, beq_eq_false_iff_ne, ne_eq] at h1
  refine Rn ?_
  refine Rn ?_
  refine Rn ?_
  refine Rn ?_
  refine Rq ?_
  refine Rq ?_
  have tr : ∀ a b c d e f g h i j k m n : AV, let l := lc_node_ok a b c d; trim ((4,n)::(12,m)::(11,k)::(10,j)::(9,i)::(8,h)::(7,g)::(6,f)::(5,e)::l) l = lc_node_ok a b c n := by intros; rfl
  refine R_nil (tr ..) ?_; clear tr
  refine then_n ?_
  refine at_ret rfl ?_
  refine fpure ?_
  refine ⟨?_, rfl⟩
  rw [decide_eq_false (by omega)]

abbrev lc_check_ok (a b c d e f g h i j k m n : AV) : Env := [(0,a),(1,b),(2,c),(4,d),(5,e),(14,f),(34,g),(40,h),(41,i),(42,j),(43,k),(46,m),(66,n)]
theorem fcheck_ok (lim : Nat) (H : Heap) (n s t : Int) (E : List Ed) :
    ACall sig lim 27 [.agg (graphC n s t E)] H fun r H' => r = AV.i (gchkS n s t E) ∧ H' = H := by
 refine ACall_pure (fa := fa27) rfl rfl rfl rfl ?_
 have tr : ∀ a0 : AV, env0 fa27.keep [a0] = lc_check_ok a0 .any .any .any .any .any .any .any .any .any .any .any .any := fun a0 => rfl
 refine W_to (tr _) ?_; clear tr
 refine at_seq rfl ?_
 refine rg rfl ?_
 refine R_box rfl (by simp (disch := first | omega | (simp only [List.length_map, List.length_append, List.length_set, List.length_cons, List.length_nil]; omega)) only [go_sem, ↓reduceIte, Nat.reduceEqDiff, reduceCtorEq] <;> rfl) rfl rfl ?_
 refine Rq ?_
 have tr : ∀ a b c d e f g h i j k m n o p : AV, let l := lc_check_ok a b c d e f g h i j k m n; trim ((2,p)::(1,o)::l) l = lc_check_ok a o p d e f g h i j k m n := by intros; rfl
 refine R_nil (tr ..) ?_; clear tr
 refine then_n ?_
 refine at_seq rfl ?_
 refine at_block rfl ?_
 refine at_seq rfl ?_
 refine rg rfl ?_
 refine Rq ?_
 refine Rq ?_
 refine Rq ?_
 refine Rq ?_
 refine Rp_split (fun h1 => ?_) (fun h1 => ?_)
 ·
  try simp only [decide_eq_true_eq, decide_eq_false_iff_not, Bool.not_eq_true', Bool.not_eq_false', beq_iff_eq, beq_eq_false_iff_ne, ne_eq] at h1
  refine Rn ?_
  refine Rn ?_
  refine Rn ?_
  refine Rq ?_
  refine Rq ?_
  have tr : ∀ a b c d e f g h i j k m n o p q r s t u v w : AV, let l := lc_check_ok a b c d e f g h i j k m n; trim ((5,w)::(13,v)::(12,u)::(11,t)::(10,s)::(9,r)::(8,q)::(7,p)::(6,o)::l) l = lc_check_ok a b c d w f g h i j k m n := by intros; rfl
  refine R_nil (tr ..) ?_; clear tr
  refine then_n ?_
  refine cdt ?_
  refine at_seq rfl ?_
  refine rg rfl ?_
  refine Rq ?_
  have tr : ∀ a b c d e f g h i j k m n o : AV, let l := lc_check_ok a b c d e f g h i j k m n; trim ((2,o)::l) l = lc_check_ok a b o d e f g h i j k m n := by intros; rfl
  refine R_nil (tr ..) ?_; clear tr
  refine then_n ?_
  refine at_ret rfl ?_
  refine blk_r ?_
  refine then_r ?_
  refine fpure ?_
  refine ⟨?_, rfl⟩
  rw [gchkS, if_pos (by omega)]
 ·
  try simp only [decide_eq_true_eq, decide_eq_false_iff_not, Bool.not_eq_true', Bool.not_eq_false', beq_iff_eq, beq_eq_false_iff_ne, ne_eq] at h1
  refine Ry ?_
  refine Rq ?_
  refine Ry ?_
  refine Rq ?_
  refine Ry ?_
  refine Rq ?_
  refine Rq ?_
  refine Rq ?_
  have tr : ∀ a b c d e f g h i j k m n o p q r s t u v w : AV, let l := lc_check_ok a b c d e f g h i j k m n; trim ((5,w)::(13,v)::(12,u)::(11,t)::(10,s)::(9,r)::(8,q)::(7,p)::(6,o)::l) l = lc_check_ok a b c d w f g h i j k m n := by intros; rfl
  refine R_nil (tr ..) ?_; clear tr
  refine then_n ?_
  refine cdd (fun h2 => ?_) (fun h2 => ?_)
  ·
   try simp only [decide_eq_true_eq, decide_eq_false_iff_not, Bool.not_eq_true', Bool.not_eq_false', beq_iff_eq, beq_eq_false_iff_ne, ne_eq] at h2
   refine at_seq rfl ?_
   refine rg rfl ?_
   refine Rq ?_
   have tr : ∀ a b c d e f g h i j k m n o : AV, let l := lc_check_ok a b c d e f g h i j k m n; trim ((2,o)::l) l = lc_check_ok a b o d e f g h i j k m n := by intros; rfl
   refine R_nil (tr ..) ?_; clear tr
   refine then_n ?_
   refine at_ret rfl ?_
   refine blk_r ?_
   refine then_r ?_
   refine fpure ?_
   refine ⟨?_, rfl⟩
   rw [gchkS, if_pos (by omega)]
  ·
   try simp only [decide_eq_true_eq, decide_eq_false_iff_not, Bool.not_eq_true', Bool.not_eq_false', beq_iff_eq, beq_eq_false_iff_ne, ne_eq] at h2
   refine at_seq rfl ?_
   refine rg rfl ?_
   refine Rq ?_
   refine Rq ?_
   refine Rq ?_
   refine Rcall ?_
   refine ACall_eq (node_ok _ _ n s t E _) ?_
   refine Rq ?_
   refine Rq ?_
   refine Rp_split (fun h3 => ?_) (fun h3 => ?_)
   ·
    try simp only [decide_eq_true_eq, decide_eq_false_iff_not, Bool.not_eq_true', Bool.not_eq_false', beq_iff_eq, beq_eq_false_iff_ne, ne_eq] at h3
    refine Rn ?_
    refine Rn ?_
    refine Rn ?_
    refine Rn ?_
    refine Rn ?_
    refine Rq ?_
    refine Rq ?_
    refine Rn ?_
    refine Rn ?_
    refine Rn ?_
    refine Rn ?_
    refine Rn ?_
    refine Rq ?_
    refine Rq ?_
    have tr : ∀ a b c d e f g h i j k m n o p q r s t u v w x y z A B C D E F G H : AV, let l := lc_check_ok a b c d e f g h i j k m n; trim ((14,H)::(33,G)::(32,F)::(31,E)::(30,D)::(29,C)::(28,B)::(27,A)::(26,z)::(25,y)::(24,x)::(23,w)::(22,v)::(21,u)::(20,t)::(19,s)::(18,r)::(17,q)::(16,p)::(15,o)::l) l = lc_check_ok a b c d e H g h i j k m n := by intros; rfl
    refine R_nil (tr ..) ?_; clear tr
    refine then_n ?_
    refine cdt ?_
    refine at_seq rfl ?_
    refine rg rfl ?_
    refine Rq ?_
    have tr : ∀ a b c d e f g h i j k m n o : AV, let l := lc_check_ok a b c d e f g h i j k m n; trim ((2,o)::l) l = lc_check_ok a b o d e f g h i j k m n := by intros; rfl
    refine R_nil (tr ..) ?_; clear tr
    refine then_n ?_
    refine at_ret rfl ?_
    refine blk_r ?_
    refine then_r ?_
    refine fpure ?_
    refine ⟨?_, rfl⟩
    rw [gchkS, if_neg (by omega), if_pos (by omega)]
   ·
    try simp only [decide_eq_true_eq, decide_eq_false_iff_not, Bool.not_eq_true', Bool.not_eq_false', beq_iff_eq, beq_eq_false_iff_ne, ne_eq] at h3
    refine Ry ?_
    refine Rq ?_
    refine Ry ?_
    refine Rq ?_
    refine Ry ?_
    refine Rq ?_
    refine Ry ?_
    refine Rcall ?_
    refine ACall_eq (node_ok _ _ n s t E _) ?_
    refine Ry ?_
    refine Rq ?_
    refine Rq ?_
    refine Rq ?_
    refine Rp_split (fun h4 => ?_) (fun h4 => ?_)
    ·
     try simp only [decide_eq_true_eq, decide_eq_false_iff_not, Bool.not_eq_true', Bool.not_eq_false', beq_iff_eq, beq_eq_false_iff_ne, ne_eq] at h4
     refine Rn ?_
     refine Rn ?_
     refine Rn ?_
     refine Rn ?_
     refine Rn ?_
     refine Rq ?_
     refine Rq ?_
     have tr : ∀ a b c d e f g h i j k m n o p q r s t u v w x y z A B C D E F G H : AV, let l := lc_check_ok a b c d e f g h i j k m n; trim ((14,H)::(33,G)::(32,F)::(31,E)::(30,D)::(29,C)::(28,B)::(27,A)::(26,z)::(25,y)::(24,x)::(23,w)::(22,v)::(21,u)::(20,t)::(19,s)::(18,r)::(17,q)::(16,p)::(15,o)::l) l = lc_check_ok a b c d e H g h i j k m n := by intros; rfl
     refine R_nil (tr ..) ?_; clear tr
     refine then_n ?_
     refine cdt ?_
     refine at_seq rfl ?_
     refine rg rfl ?_
     refine Rq ?_
     have tr : ∀ a b c d e f g h i j k m n o : AV, let l := lc_check_ok a b c d e f g h i j k m n; trim ((2,o)::l) l = lc_check_ok a b o d e f g h i j k m n := by intros; rfl
     refine R_nil (tr ..) ?_; clear tr
     refine then_n ?_
     refine at_ret rfl ?_
     refine blk_r ?_
     refine then_r ?_
     refine fpure ?_
     refine ⟨?_, rfl⟩
     rw [gchkS, if_neg (by omega), if_pos (by omega)]
    ·
     try simp only [decide_eq_true_eq, decide_eq_false_iff_not, Bool.not_eq_true', Bool.not_eq_false', beq_iff_eq, beq_eq_false_iff_ne, ne_eq] at h4
     refine Ry ?_
     refine Rq ?_
     refine Ry ?_
     refine Rq ?_
     refine Ry ?_
     refine Rq ?_
     refine Ry ?_
     refine Rq ?_
     refine Ry ?_
     refine Rq ?_
     refine Rq ?_
     refine Rq ?_
     have tr : ∀ a b c d e f g h i j k m n o p q r s t u v w x y z A B C D E F G H : AV, let l := lc_check_ok a b c d e f g h i j k m n; trim ((14,H)::(33,G)::(32,F)::(31,E)::(30,D)::(29,C)::(28,B)::(27,A)::(26,z)::(25,y)::(24,x)::(23,w)::(22,v)::(21,u)::(20,t)::(19,s)::(18,r)::(17,q)::(16,p)::(15,o)::l) l = lc_check_ok a b c d e H g h i j k m n := by intros; rfl
     refine R_nil (tr ..) ?_; clear tr
     refine then_n ?_
     refine cdd (fun h5 => ?_) (fun h5 => ?_)
     ·
      try simp only [decide_eq_true_eq, decide_eq_false_iff_not, Bool.not_eq_true', Bool.not_eq_false', beq_iff_eq, beq_eq_false_iff_ne, ne_eq] at h5
      refine at_seq rfl ?_
      refine rg rfl ?_
      refine Rq ?_
      have tr : ∀ a b c d e f g h i j k m n o : AV, let l := lc_check_ok a b c d e f g h i j k m n; trim ((2,o)::l) l = lc_check_ok a b o d e f g h i j k m n := by intros; rfl
      refine R_nil (tr ..) ?_; clear tr
      refine then_n ?_
      refine at_ret rfl ?_
      refine blk_r ?_
      refine then_r ?_
      refine fpure ?_
      refine ⟨?_, rfl⟩
      rw [gchkS, if_neg (by omega), if_pos (by omega)]
     ·
      try simp only [decide_eq_true_eq, decide_eq_false_iff_not, Bool.not_eq_true', Bool.not_eq_false', beq_iff_eq, beq_eq_false_iff_ne, ne_eq] at h5
      refine at_seq rfl ?_
      refine rg rfl ?_
      refine Rq ?_
      refine Rq ?_
      refine Rq ?_
      refine Rq ?_
      refine Rq ?_
      have tr : ∀ a b c d e f g h i j k m n o p q r s : AV, let l := lc_check_ok a b c d e f g h i j k m n; trim ((34,s)::(38,r)::(37,q)::(36,p)::(35,o)::l) l = lc_check_ok a b c d e f s h i j k m n := by intros; rfl
      refine R_nil (tr ..) ?_; clear tr
      refine then_n ?_
      refine cdd (fun h6 => ?_) (fun h6 => ?_)
      ·
       try simp only [decide_eq_true_eq, decide_eq_false_iff_not, Bool.not_eq_true', Bool.not_eq_false', beq_iff_eq, beq_eq_false_iff_ne, ne_eq] at h6
       refine at_seq rfl ?_
       refine rg rfl ?_
       refine Rq ?_
       have tr : ∀ a b c d e f g h i j k m n o : AV, let l := lc_check_ok a b c d e f g h i j k m n; trim ((2,o)::l) l = lc_check_ok a b o d e f g h i j k m n := by intros; rfl
       refine R_nil (tr ..) ?_; clear tr
       refine then_n ?_
       refine at_ret rfl ?_
       refine blk_r ?_
       refine then_r ?_
       refine fpure ?_
       refine ⟨?_, rfl⟩
       rw [gchkS, if_neg (by omega), if_neg (by omega), if_pos (by omega)]
      ·
       try simp only [decide_eq_true_eq, decide_eq_false_iff_not, Bool.not_eq_true', Bool.not_eq_false', beq_iff_eq, beq_eq_false_iff_ne, ne_eq] at h6
       refine at_skip rfl ?_
       refine blk_n ?_
       refine then_n ?_
       refine at_seq rfl ?_
       refine at_seq rfl ?_
       refine rg rfl ?_
       refine Rq ?_
       refine Rq ?_
       refine Rq ?_
       refine Rq ?_
       have tr : ∀ a b c d e f g h i j k m n o p q r : AV, let l := lc_check_ok a b c d e f g h i j k m n; trim ((42,r)::(41,q)::(40,p)::(39,o)::l) l = lc_check_ok a b c d e f g p q r k m n := by intros; rfl
       refine R_nil (tr ..) ?_; clear tr
       refine then_n ?_
       refine at_block rfl ?_
       refine loop_n rfl (fun mm kv H' => ∃ u : Nat, ∃ X : Heap, ∃ x2 x4 x43 x46 x66 : AV, (kv = [(2, x2), (4, x4), (42, AV.i u), (43, x43), (46, x46), (66, x66)]) ∧ (mm = E.length - u) ∧ (H' = H ++ [some (graphC n s t E)] ++ X) ∧ (u ≤ E.length) ∧ (ferr (fun i => edErr n (gt E i)) u = 0)) ⟨0, [], _, _, _, _, _, rfl, rfl, by simp, by omega, by rfl⟩ (by rfl) ?_
       rintro mm kv H1 ⟨u, X, x2, x4, x43, x46, x66, rfl, rfl, hX, hu, hz⟩
       have tr : ∀ a b c d e f g h i j k m n o p q r s t : AV, upd (lc_check_ok a b c d e f g h i j k m n) [(2,o),(4,p),(42,q),(43,r),(46,s),(66,t)] = lc_check_ok a b o p e f g h i q r s t := by intros; rfl
       refine W_to (tr ..) ?_; clear tr
       subst hX
       refine at_seq rfl ?_
       refine rg rfl ?_
       refine Rq ?_
       have tr : ∀ a b c d e f g h i j k m n o : AV, let l := lc_check_ok a b c d e f g h i j k m n; trim ((43,o)::l) l = lc_check_ok a b c d e f g h i j o m n := by intros; rfl
       refine R_nil (tr ..) ?_; clear tr
       refine then_n ?_
       refine at_seq rfl ?_
       refine cdd (fun h7 => ?_) (fun h7 => ?_)
       ·
        try simp only [decide_eq_true_eq, decide_eq_false_iff_not, Bool.not_eq_true', Bool.not_eq_false', beq_iff_eq, beq_eq_false_iff_ne, ne_eq] at h7
        refine at_skip rfl ?_
        refine then_n ?_
        refine at_seq rfl ?_
        refine at_block rfl ?_
        refine at_seq rfl ?_
        refine rg rfl ?_
        refine Rq ?_
        refine Rq ?_
        refine R_alloc (by simp (disch := first | omega | (simp only [List.length_map, List.length_append, List.length_set, List.length_cons, List.length_nil]; omega)) only [go_sem, ↓reduceIte, Nat.reduceEqDiff, reduceCtorEq] <;> rfl) rfl (by simp only [List.map_cons, List.map_nil]; rfl) ?_
        refine R_store ty69 (by simp (disch := first | omega | (simp only [List.length_map, List.length_append, List.length_set, List.length_cons, List.length_nil]; omega)) only [go_sem, ↓reduceIte, Nat.reduceEqDiff, reduceCtorEq] <;> rfl) (by simp (disch := first | omega | (simp only [List.length_map, List.length_append, List.length_set, List.length_cons, List.length_nil]; omega)) only [go_sem, ↓reduceIte, Nat.reduceEqDiff, reduceCtorEq] <;> rfl) (by simp (disch := first | omega | (simp only [List.length_map, List.length_append, List.length_set, List.length_cons, List.length_nil]; omega)) only [go_sem, ↓reduceIte, Nat.reduceEqDiff, reduceCtorEq] <;> rfl) (by simp) (by rfl) (by simp (disch := first | omega | (simp only [List.length_map, List.length_append, List.length_set, List.length_cons, List.length_nil]; omega)) only [go_sem, ↓reduceIte, Nat.reduceEqDiff, reduceCtorEq] <;> rfl) ?_
        have tr : ∀ a b c d e f g h i j k m n o p q : AV, let l := lc_check_ok a b c d e f g h i j k m n; trim ((4,q)::(45,p)::(44,o)::l) l = lc_check_ok a b c q e f g h i j k m n := by intros; rfl
        refine R_nil (tr ..) ?_; clear tr
        refine then_n ?_
        refine at_block rfl ?_
        refine at_seq rfl ?_
        refine rg rfl ?_
        refine Rq ?_
        refine Rq ?_
        refine Rq ?_
        refine Rcall ?_
        refine ACall_eq (node_ok _ _ n s t E _) ?_
        refine Rq ?_
        refine Rq ?_
        refine Rp_split (fun h8 => ?_) (fun h8 => ?_)
        ·
         try simp only [decide_eq_true_eq, decide_eq_false_iff_not, Bool.not_eq_true', Bool.not_eq_false', beq_iff_eq, beq_eq_false_iff_ne, ne_eq] at h8
         refine Rn ?_
         refine Rn ?_
         refine Rn ?_
         refine Rn ?_
         refine Rn ?_
         refine Rq ?_
         refine Rq ?_
         refine Rn ?_
         refine Rn ?_
         refine Rn ?_
         refine Rn ?_
         refine Rn ?_
         refine Rq ?_
         refine Rq ?_
         have tr : ∀ a b c d e f g h i j k m n o p q r s t u v w x y z A B C D E F G H : AV, let l := lc_check_ok a b c d e f g h i j k m n; trim ((46,H)::(65,G)::(64,F)::(63,E)::(62,D)::(61,C)::(60,B)::(59,A)::(58,z)::(57,y)::(56,x)::(55,w)::(54,v)::(53,u)::(52,t)::(51,s)::(50,r)::(49,q)::(48,p)::(47,o)::l) l = lc_check_ok a b c d e f g h i j k H n := by intros; rfl
         refine R_nil (tr ..) ?_; clear tr
         refine then_n ?_
         refine cdt ?_
         refine at_seq rfl ?_
         refine rg rfl ?_
         refine Rq ?_
         have tr : ∀ a b c d e f g h i j k m n o : AV, let l := lc_check_ok a b c d e f g h i j k m n; trim ((2,o)::l) l = lc_check_ok a b o d e f g h i j k m n := by intros; rfl
         refine R_nil (tr ..) ?_; clear tr
         refine then_n ?_
         refine at_ret rfl ?_
         refine blk_r ?_
         refine blk_r ?_
         refine then_r ?_
         refine then_r ?_
         refine blk_r ?_
         refine then_r ?_
         refine fpure ?_
         refine ⟨?_, rfl⟩
         have hse : edErr n (gt E u) = 1 := by unfold edErr; rw [if_pos (by omega)]
         rw [gchkS, if_neg (by omega), if_neg (by omega), if_neg (by omega), ferr_at hz (by omega) _ (by omega), hse]
        ·
         try simp only [decide_eq_true_eq, decide_eq_false_iff_not, Bool.not_eq_true', Bool.not_eq_false', beq_iff_eq, beq_eq_false_iff_ne, ne_eq] at h8
         refine Ry ?_
         refine Rq ?_
         refine Ry ?_
         refine Rq ?_
         refine Ry ?_
         refine Rq ?_
         refine Ry ?_
         refine Rcall ?_
         refine ACall_eq (node_ok _ _ n s t E _) ?_
         refine Ry ?_
         refine Rq ?_
         refine Rq ?_
         refine Rq ?_
         refine Rp_split (fun h9 => ?_) (fun h9 => ?_)
         ·
          try simp only [decide_eq_true_eq, decide_eq_false_iff_not, Bool.not_eq_true', Bool.not_eq_false', beq_iff_eq, beq_eq_false_iff_ne, ne_eq] at h9
          refine Rn ?_
          refine Rn ?_
          refine Rn ?_
          refine Rn ?_
          refine Rn ?_
          refine Rq ?_
          refine Rq ?_
          have tr : ∀ a b c d e f g h i j k m n o p q r s t u v w x y z A B C D E F G H : AV, let l := lc_check_ok a b c d e f g h i j k m n; trim ((46,H)::(65,G)::(64,F)::(63,E)::(62,D)::(61,C)::(60,B)::(59,A)::(58,z)::(57,y)::(56,x)::(55,w)::(54,v)::(53,u)::(52,t)::(51,s)::(50,r)::(49,q)::(48,p)::(47,o)::l) l = lc_check_ok a b c d e f g h i j k H n := by intros; rfl
          refine R_nil (tr ..) ?_; clear tr
          refine then_n ?_
          refine cdt ?_
          refine at_seq rfl ?_
          refine rg rfl ?_
          refine Rq ?_
          have tr : ∀ a b c d e f g h i j k m n o : AV, let l := lc_check_ok a b c d e f g h i j k m n; trim ((2,o)::l) l = lc_check_ok a b o d e f g h i j k m n := by intros; rfl
          refine R_nil (tr ..) ?_; clear tr
          refine then_n ?_
          refine at_ret rfl ?_
          refine blk_r ?_
          refine blk_r ?_
          refine then_r ?_
          refine then_r ?_
          refine blk_r ?_
          refine then_r ?_
          refine fpure ?_
          refine ⟨?_, rfl⟩
          have hse : edErr n (gt E u) = 1 := by unfold edErr; rw [if_pos (by omega)]
          rw [gchkS, if_neg (by omega), if_neg (by omega), if_neg (by omega), ferr_at hz (by omega) _ (by omega), hse]
         ·
          try simp only [decide_eq_true_eq, decide_eq_false_iff_not, Bool.not_eq_true', Bool.not_eq_false', beq_iff_eq, beq_eq_false_iff_ne, ne_eq] at h9
          refine Ry ?_
          refine Rq ?_
          refine Ry ?_
          refine Rq ?_
          refine Ry ?_
          refine Rq ?_
          refine Ry ?_
          refine Rq ?_
          refine Ry ?_
          refine Rq ?_
          refine Rq ?_
          refine Rq ?_
          have tr : ∀ a b c d e f g h i j k m n o p q r s t u v w x y z A B C D E F G H : AV, let l := lc_check_ok a b c d e f g h i j k m n; trim ((46,H)::(65,G)::(64,F)::(63,E)::(62,D)::(61,C)::(60,B)::(59,A)::(58,z)::(57,y)::(56,x)::(55,w)::(54,v)::(53,u)::(52,t)::(51,s)::(50,r)::(49,q)::(48,p)::(47,o)::l) l = lc_check_ok a b c d e f g h i j k H n := by intros; rfl
          refine R_nil (tr ..) ?_; clear tr
          refine then_n ?_
          refine cdd (fun h10 => ?_) (fun h10 => ?_)
          ·
           try simp only [decide_eq_true_eq, decide_eq_false_iff_not, Bool.not_eq_true', Bool.not_eq_false', beq_iff_eq, beq_eq_false_iff_ne, ne_eq] at h10
           refine at_seq rfl ?_
           refine rg rfl ?_
           refine Rq ?_
           have tr : ∀ a b c d e f g h i j k m n o : AV, let l := lc_check_ok a b c d e f g h i j k m n; trim ((2,o)::l) l = lc_check_ok a b o d e f g h i j k m n := by intros; rfl
           refine R_nil (tr ..) ?_; clear tr
           refine then_n ?_
           refine at_ret rfl ?_
           refine blk_r ?_
           refine blk_r ?_
           refine then_r ?_
           refine then_r ?_
           refine blk_r ?_
           refine then_r ?_
           refine fpure ?_
           refine ⟨?_, rfl⟩
           have hse : edErr n (gt E u) = 1 := by unfold edErr; rw [if_pos (by omega)]
           rw [gchkS, if_neg (by omega), if_neg (by omega), if_neg (by omega), ferr_at hz (by omega) _ (by omega), hse]
          ·
           try simp only [decide_eq_true_eq, decide_eq_false_iff_not, Bool.not_eq_true', Bool.not_eq_false', beq_iff_eq, beq_eq_false_iff_ne, ne_eq] at h10
           refine at_seq rfl ?_
           refine rg rfl ?_
           refine Rq ?_
           refine Rq ?_
           refine Rq ?_
           refine Rq ?_
           refine Rp_split (fun h11 => ?_) (fun h11 => ?_)
           ·
            try simp only [decide_eq_true_eq, decide_eq_false_iff_not, Bool.not_eq_true', Bool.not_eq_false', beq_iff_eq, beq_eq_false_iff_ne, ne_eq] at h11
            refine Rn ?_
            refine Rn ?_
            refine Rn ?_
            refine Rq ?_
            refine Rq ?_
            have tr : ∀ a b c d e f g h i j k m n o p q r s t u v w : AV, let l := lc_check_ok a b c d e f g h i j k m n; trim ((66,w)::(74,v)::(73,u)::(72,t)::(71,s)::(70,r)::(69,q)::(68,p)::(67,o)::l) l = lc_check_ok a b c d e f g h i j k m w := by intros; rfl
            refine R_nil (tr ..) ?_; clear tr
            refine then_n ?_
            refine cdt ?_
            refine at_seq rfl ?_
            refine rg rfl ?_
            refine Rq ?_
            have tr : ∀ a b c d e f g h i j k m n o : AV, let l := lc_check_ok a b c d e f g h i j k m n; trim ((2,o)::l) l = lc_check_ok a b o d e f g h i j k m n := by intros; rfl
            refine R_nil (tr ..) ?_; clear tr
            refine then_n ?_
            refine at_ret rfl ?_
            refine blk_r ?_
            refine blk_r ?_
            refine then_r ?_
            refine then_r ?_
            refine blk_r ?_
            refine then_r ?_
            refine fpure ?_
            refine ⟨?_, rfl⟩
            have hse : edErr n (gt E u) = 2 := by unfold edErr; rw [if_neg (by omega), if_pos (by omega)]
            rw [gchkS, if_neg (by omega), if_neg (by omega), if_neg (by omega), ferr_at hz (by omega) _ (by omega), hse]
           ·
            try simp only [decide_eq_true_eq, decide_eq_false_iff_not, Bool.not_eq_true', Bool.not_eq_false', beq_iff_eq, beq_eq_false_iff_ne, ne_eq] at h11
            refine Ry ?_
            refine Rq ?_
            refine Ry ?_
            refine Rq ?_
            refine Ry ?_
            refine Rq ?_
            refine Rq ?_
            refine Rq ?_
            have tr : ∀ a b c d e f g h i j k m n o p q r s t u v w : AV, let l := lc_check_ok a b c d e f g h i j k m n; trim ((66,w)::(74,v)::(73,u)::(72,t)::(71,s)::(70,r)::(69,q)::(68,p)::(67,o)::l) l = lc_check_ok a b c d e f g h i j k m w := by intros; rfl
            refine R_nil (tr ..) ?_; clear tr
            refine then_n ?_
            refine cdd (fun h12 => ?_) (fun h12 => ?_)
            ·
             try simp only [decide_eq_true_eq, decide_eq_false_iff_not, Bool.not_eq_true', Bool.not_eq_false', beq_iff_eq, beq_eq_false_iff_ne, ne_eq] at h12
             refine at_seq rfl ?_
             refine rg rfl ?_
             refine Rq ?_
             have tr : ∀ a b c d e f g h i j k m n o : AV, let l := lc_check_ok a b c d e f g h i j k m n; trim ((2,o)::l) l = lc_check_ok a b o d e f g h i j k m n := by intros; rfl
             refine R_nil (tr ..) ?_; clear tr
             refine then_n ?_
             refine at_ret rfl ?_
             refine blk_r ?_
             refine blk_r ?_
             refine then_r ?_
             refine then_r ?_
             refine blk_r ?_
             refine then_r ?_
             refine fpure ?_
             refine ⟨?_, rfl⟩
             have hse : edErr n (gt E u) = 2 := by unfold edErr; rw [if_neg (by omega), if_pos (by omega)]
             rw [gchkS, if_neg (by omega), if_neg (by omega), if_neg (by omega), ferr_at hz (by omega) _ (by omega), hse]
            ·
             try simp only [decide_eq_true_eq, decide_eq_false_iff_not, Bool.not_eq_true', Bool.not_eq_false', beq_iff_eq, beq_eq_false_iff_ne, ne_eq] at h12
             refine at_skip rfl ?_
             refine blk_n ?_
             refine blk_n ?_
             refine then_n ?_
             refine rg rfl ?_
             refine Rq ?_
             refine Rq ?_
             have tr : ∀ a b c d e f g h i j k m n o p : AV, let l := lc_check_ok a b c d e f g h i j k m n; trim ((42,p)::(75,o)::l) l = lc_check_ok a b c d e f g h i p k m n := by intros; rfl
             refine R_nil (tr ..) ?_; clear tr
             refine then_n ?_
             have hok : edErr n (gt E u) = 0 := by unfold edErr; rw [if_neg (by omega), if_neg (by omega)]
             exact ⟨_, _, ⟨u + 1, X ++ [some (edC (gt E u))], _, _, _, _, _, rfl, rfl, by simp <;> rfl, by omega, by exact ferr_ok hz hok⟩, by rfl, by omega⟩
       ·
        try simp only [decide_eq_true_eq, decide_eq_false_iff_not, Bool.not_eq_true', Bool.not_eq_false', beq_iff_eq, beq_eq_false_iff_ne, ne_eq] at h7
        refine at_exit rfl ?_
        refine then_x ?_
        refine then_x ?_
        refine blk_x ?_
        refine then_n ?_
        refine at_seq rfl ?_
        refine rg rfl ?_
        refine Rq ?_
        have tr : ∀ a b c d e f g h i j k m n o : AV, let l := lc_check_ok a b c d e f g h i j k m n; trim ((2,o)::l) l = lc_check_ok a b o d e f g h i j k m n := by intros; rfl
        refine R_nil (tr ..) ?_; clear tr
        refine then_n ?_
        refine at_ret rfl ?_
        refine fpure ?_
        refine ⟨?_, rfl⟩
        rw [gchkS, if_neg (by omega), if_neg (by omega), if_neg (by omega), show ferr (fun i => edErr n (gt E i)) E.length = 0 by rw [show E.length = u by omega]; exact hz]

end Go.Proofs.Ytdmeioppkannlaa
end
