/-
  Walks of chapters 52 and 53. The steps are written by program (walk.py).
-/
import Derived.Test.YtdicnojnkbmdlaaQ
set_option linter.unusedSimpArgs false
set_option linter.unusedVariables false
set_option maxHeartbeats 40000000
set_option maxRecDepth 4000
namespace Go.Proofs.Ytdicnojnkbmdlaa
open Go Go.Am

theorem rreach_ok (lim : Nat) (H : Heap) (n s t : Int) (E : List Ed) (f : List Int) (bf N : Nat) (hN : N = f.length) (qf : hget H bf = some (f.map AV.i)) (g : GOK n s t E) (hl : f.length = E.length) (hrr : fRng E f) :
    ACall sig lim 46 [.agg (graphC n s t E), .own 1 bf 0 N] H fun r H' => r = .tup [boolsAV (reachS n s E f).seen, intsAV (reachS n s E f).way] ∧ H' = H := by
  subst hN
  have lf := hget_lt qf
  obtain ⟨g1, g2, g3, g4, g5, g6, g7, g8, ge⟩ := g
  have g : GOK n s t E := ⟨g1, g2, g3, g4, g5, g6, g7, g8, ge⟩
  have q0 : True := trivial
  have qs : True := trivial
  have qy : True := trivial
  have qq : True := trivial
  have qx : True := trivial
  have qa : True := trivial
  refine ACall_pure (fa := fa46) rfl rfl rfl rfl ?_
  have tr : ∀ a0 a1 : AV, env0 fa46.keep [a0, a1] = [(0, a0), (1, a1), (2, .any), (4, .any), (5, .any), (6, .any), (7, .any), (8, .any), (9, .any), (10, .any), (11, .any), (27, .any), (34, .any), (35, .any), (36, .any), (37, .any), (61, .any), (95, .any)] := fun a0 a1 => rfl
  refine W_to (tr _ _) ?_; clear tr
  refine at_seq rfl ?_
  refine rg rfl ?_
  refine A_box rfl (by simp (disch := first | omega | (simp only [List.length_map, List.length_append, List.length_set, List.length_cons, List.length_nil, List.length_take, List.length_drop]; omega)) only [go_sem, ↓reduceIte, Nat.reduceEqDiff, reduceCtorEq]; rfl) ?_
  intro H1 n0
  have en0 := n0.len
  have qf := (n0.old _ (hget_lt qf)).trans qf
  have q0 := n0.new
  refine Rq ?_
  refine Rq ?_
  have tr : ∀ y0 y1 y2 y4 y5 y6 y7 y8 y9 y10 y11 y27 y34 y35 y36 y37 y61 y95 z0 z1 z2 : AV, trim [(5, z2), (4, z1), (2, z0), (0, y0), (1, y1), (2, y2), (4, y4), (5, y5), (6, y6), (7, y7), (8, y8), (9, y9), (10, y10), (11, y11), (27, y27), (34, y34), (35, y35), (36, y36), (37, y37), (61, y61), (95, y95)] [(0, y0), (1, y1), (2, y2), (4, y4), (5, y5), (6, y6), (7, y7), (8, y8), (9, y9), (10, y10), (11, y11), (27, y27), (34, y34), (35, y35), (36, y36), (37, y37), (61, y61), (95, y95)] = [(0, y0), (1, y1), (2, z0), (4, z1), (5, z2), (6, y6), (7, y7), (8, y8), (9, y9), (10, y10), (11, y11), (27, y27), (34, y34), (35, y35), (36, y36), (37, y37), (61, y61), (95, y95)] := fun y0 y1 y2 y4 y5 y6 y7 y8 y9 y10 y11 y27 y34 y35 y36 y37 y61 y95 z0 z1 z2 => rfl
  refine R_nil (tr _ _ _ _ _ _ _ _ _ _ _ _ _ _ _ _ _ _ _ _ _) ?_; clear tr
  refine then_n ?_
  refine at_seq rfl ?_
  refine rg rfl ?_
  refine Rq ?_
  refine R_q rfl (by simp (disch := first | omega | (simp only [List.length_map, List.length_append, List.length_set, List.length_cons, List.length_nil, List.length_take, List.length_drop]; omega)) only [go_sem, ↓reduceIte, Nat.reduceEqDiff, reduceCtorEq, q0, qf, qs, qy, qq, qx, qa]; rfl) ?_
  refine A_makeSlice (ms28 _ _ n _ _ _ (by omega) (by omega) (by simp (disch := first | omega | (simp only [List.length_map, List.length_append, List.length_set, List.length_cons, List.length_nil, List.length_take, List.length_drop]; omega)) only [go_sem, ↓reduceIte, Nat.reduceEqDiff, reduceCtorEq, q0]) (by simp (disch := first | omega | (simp only [List.length_map, List.length_append, List.length_set, List.length_cons, List.length_nil, List.length_take, List.length_drop]; omega)) only [go_sem, ↓reduceIte, Nat.reduceEqDiff, reduceCtorEq, q0])) ?_
  intro H2 n1
  have en1 := n1.len
  have q0 := (n1.old _ (hget_lt q0)).trans q0
  have qf := (n1.old _ (hget_lt qf)).trans qf
  have qs := n1.new
  refine Rq ?_
  have tr : ∀ y0 y1 y2 y4 y5 y6 y7 y8 y9 y10 y11 y27 y34 y35 y36 y37 y61 y95 z0 z1 z2 z3 : AV, trim [(6, z3), (14, z2), (13, z1), (12, z0), (0, y0), (1, y1), (2, y2), (4, y4), (5, y5), (6, y6), (7, y7), (8, y8), (9, y9), (10, y10), (11, y11), (27, y27), (34, y34), (35, y35), (36, y36), (37, y37), (61, y61), (95, y95)] [(0, y0), (1, y1), (2, y2), (4, y4), (5, y5), (6, y6), (7, y7), (8, y8), (9, y9), (10, y10), (11, y11), (27, y27), (34, y34), (35, y35), (36, y36), (37, y37), (61, y61), (95, y95)] = [(0, y0), (1, y1), (2, y2), (4, y4), (5, y5), (6, z3), (7, y7), (8, y8), (9, y9), (10, y10), (11, y11), (27, y27), (34, y34), (35, y35), (36, y36), (37, y37), (61, y61), (95, y95)] := fun y0 y1 y2 y4 y5 y6 y7 y8 y9 y10 y11 y27 y34 y35 y36 y37 y61 y95 z0 z1 z2 z3 => rfl
  refine R_nil (tr _ _ _ _ _ _ _ _ _ _ _ _ _ _ _ _ _ _ _ _ _ _) ?_; clear tr
  refine then_n ?_
  refine at_seq rfl ?_
  refine rg rfl ?_
  refine Rq ?_
  refine R_q rfl (by simp (disch := first | omega | (simp only [List.length_map, List.length_append, List.length_set, List.length_cons, List.length_nil, List.length_take, List.length_drop]; omega)) only [go_sem, ↓reduceIte, Nat.reduceEqDiff, reduceCtorEq, q0, qf, qs, qy, qq, qx, qa]; rfl) ?_
  refine A_makeSlice (ms40 _ _ n _ _ _ (by omega) (by omega) (by simp (disch := first | omega | (simp only [List.length_map, List.length_append, List.length_set, List.length_cons, List.length_nil, List.length_take, List.length_drop]; omega)) only [go_sem, ↓reduceIte, Nat.reduceEqDiff, reduceCtorEq, q0]) (by simp (disch := first | omega | (simp only [List.length_map, List.length_append, List.length_set, List.length_cons, List.length_nil, List.length_take, List.length_drop]; omega)) only [go_sem, ↓reduceIte, Nat.reduceEqDiff, reduceCtorEq, q0])) ?_
  intro H3 n2
  have en2 := n2.len
  have q0 := (n2.old _ (hget_lt q0)).trans q0
  have qf := (n2.old _ (hget_lt qf)).trans qf
  have qs := (n2.old _ (hget_lt qs)).trans qs
  have qy := n2.new
  refine Rq ?_
  have tr : ∀ y0 y1 y2 y4 y5 y6 y7 y8 y9 y10 y11 y27 y34 y35 y36 y37 y61 y95 z0 z1 z2 z3 : AV, trim [(7, z3), (17, z2), (16, z1), (15, z0), (0, y0), (1, y1), (2, y2), (4, y4), (5, y5), (6, y6), (7, y7), (8, y8), (9, y9), (10, y10), (11, y11), (27, y27), (34, y34), (35, y35), (36, y36), (37, y37), (61, y61), (95, y95)] [(0, y0), (1, y1), (2, y2), (4, y4), (5, y5), (6, y6), (7, y7), (8, y8), (9, y9), (10, y10), (11, y11), (27, y27), (34, y34), (35, y35), (36, y36), (37, y37), (61, y61), (95, y95)] = [(0, y0), (1, y1), (2, y2), (4, y4), (5, y5), (6, y6), (7, z3), (8, y8), (9, y9), (10, y10), (11, y11), (27, y27), (34, y34), (35, y35), (36, y36), (37, y37), (61, y61), (95, y95)] := fun y0 y1 y2 y4 y5 y6 y7 y8 y9 y10 y11 y27 y34 y35 y36 y37 y61 y95 z0 z1 z2 z3 => rfl
  refine R_nil (tr _ _ _ _ _ _ _ _ _ _ _ _ _ _ _ _ _ _ _ _ _ _) ?_; clear tr
  refine then_n ?_
  refine at_seq rfl ?_
  refine rg rfl ?_
  have hrl : (List.replicate n.toNat false).length = n.toNat := by simp
  refine Rq ?_
  refine Rq ?_
  refine R_q rfl (by simp (disch := first | omega | (simp only [List.length_map, List.length_append, List.length_set, List.length_cons, List.length_nil, List.length_take, List.length_drop]; omega)) only [go_sem, ↓reduceIte, Nat.reduceEqDiff, reduceCtorEq, q0, qf, qs, qy, qq, qx, qa]; rfl) ?_
  refine Rq ?_
  have so0 := (st0_ok g).1
  have lq0 := hget_lt q0
  have lqf := hget_lt qf
  have lqs := hget_lt qs
  have lqy := hget_lt qy
  refine A_store ty4 (by simp (disch := first | omega | (simp only [List.length_map, List.length_append, List.length_set, List.length_cons, List.length_nil, List.length_take, List.length_drop]; omega)) only [go_sem, ↓reduceIte, Nat.reduceEqDiff, reduceCtorEq, q0, qf, qs, qy, qq, qx, qa]; rfl) (by simp (disch := first | omega | (simp only [List.length_map, List.length_append, List.length_set, List.length_cons, List.length_nil, List.length_take, List.length_drop]; omega)) only [go_sem, ↓reduceIte, Nat.reduceEqDiff, reduceCtorEq, q0, qf, qs, qy, qq, qx, qa]; rfl) qs ⟨by omega, rfl, by first | (simp only [List.length_map]; omega) | (simp only [flatA_len]; omega) | exact Nat.le_refl _ | decide | simp⟩ (setL_b _ _ _) ?_
  intro H4 w1
  have ew1 := w1.len
  have q0 := (w1.old _ (by omega)).trans q0
  have qf := (w1.old _ (by omega)).trans qf
  have qy := (w1.old _ (by omega)).trans qy
  have qs := w1.new
  have tr : ∀ y0 y1 y2 y4 y5 y6 y7 y8 y9 y10 y11 y27 y34 y35 y36 y37 y61 y95 z0 z1 z2 z3 : AV, trim [(21, z3), (20, z2), (19, z1), (18, z0), (0, y0), (1, y1), (2, y2), (4, y4), (5, y5), (6, y6), (7, y7), (8, y8), (9, y9), (10, y10), (11, y11), (27, y27), (34, y34), (35, y35), (36, y36), (37, y37), (61, y61), (95, y95)] [(0, y0), (1, y1), (2, y2), (4, y4), (5, y5), (6, y6), (7, y7), (8, y8), (9, y9), (10, y10), (11, y11), (27, y27), (34, y34), (35, y35), (36, y36), (37, y37), (61, y61), (95, y95)] = [(0, y0), (1, y1), (2, y2), (4, y4), (5, y5), (6, y6), (7, y7), (8, y8), (9, y9), (10, y10), (11, y11), (27, y27), (34, y34), (35, y35), (36, y36), (37, y37), (61, y61), (95, y95)] := fun y0 y1 y2 y4 y5 y6 y7 y8 y9 y10 y11 y27 y34 y35 y36 y37 y61 y95 z0 z1 z2 z3 => rfl
  refine R_nil (tr _ _ _ _ _ _ _ _ _ _ _ _ _ _ _ _ _ _ _ _ _ _) ?_; clear tr
  refine then_n ?_
  refine at_seq rfl ?_
  refine rg rfl ?_
  refine Rq ?_
  refine R_q rfl (by simp (disch := first | omega | (simp only [List.length_map, List.length_append, List.length_set, List.length_cons, List.length_nil, List.length_take, List.length_drop]; omega)) only [go_sem, ↓reduceIte, Nat.reduceEqDiff, reduceCtorEq, q0, qf, qs, qy, qq, qx, qa]; rfl) ?_
  refine A_buildSlice (bs40 _ _ _ _ s (by simp (disch := first | omega | (simp only [List.length_map, List.length_append, List.length_set, List.length_cons, List.length_nil, List.length_take, List.length_drop]; omega)) only [go_sem, ↓reduceIte, Nat.reduceEqDiff, reduceCtorEq, q0])) ?_
  intro H5 n3
  have en3 := n3.len
  have q0 := (n3.old _ (hget_lt q0)).trans q0
  have qf := (n3.old _ (hget_lt qf)).trans qf
  have qs := (n3.old _ (hget_lt qs)).trans qs
  have qy := (n3.old _ (hget_lt qy)).trans qy
  have qq := n3.new
  refine Rq ?_
  have tr : ∀ y0 y1 y2 y4 y5 y6 y7 y8 y9 y10 y11 y27 y34 y35 y36 y37 y61 y95 z0 z1 z2 z3 : AV, trim [(8, z3), (24, z2), (23, z1), (22, z0), (0, y0), (1, y1), (2, y2), (4, y4), (5, y5), (6, y6), (7, y7), (8, y8), (9, y9), (10, y10), (11, y11), (27, y27), (34, y34), (35, y35), (36, y36), (37, y37), (61, y61), (95, y95)] [(0, y0), (1, y1), (2, y2), (4, y4), (5, y5), (6, y6), (7, y7), (8, y8), (9, y9), (10, y10), (11, y11), (27, y27), (34, y34), (35, y35), (36, y36), (37, y37), (61, y61), (95, y95)] = [(0, y0), (1, y1), (2, y2), (4, y4), (5, y5), (6, y6), (7, y7), (8, z3), (9, y9), (10, y10), (11, y11), (27, y27), (34, y34), (35, y35), (36, y36), (37, y37), (61, y61), (95, y95)] := fun y0 y1 y2 y4 y5 y6 y7 y8 y9 y10 y11 y27 y34 y35 y36 y37 y61 y95 z0 z1 z2 z3 => rfl
  refine R_nil (tr _ _ _ _ _ _ _ _ _ _ _ _ _ _ _ _ _ _ _ _ _ _) ?_; clear tr
  refine then_n ?_
  refine at_seq rfl ?_
  refine at_block rfl ?_
  refine loop_n rfl (fun mm kv H' => ∃ k : Nat, ∃ st : BS, ∃ bq : Nat, ∃ o : Nat, ∃ Q : List Int, ∃ m : Nat, ∃ x9 x10 x11 x27 x34 x35 x36 x37 x61 x95 : AV, (kv = [(8, AV.own 1 bq o m), (9, x9), (10, x10), (11, x11), (27, x27), (34, x34), (35, x35), (36, x36), (37, x37), (61, x61), (95, x95)]) ∧ (mm = k) ∧ (hget H' H.length = some (graphC n s t E)) ∧ (hget H' bf = some (f.map AV.i)) ∧ (hget H' H1.length = some (st.seen.map AV.b)) ∧ (hget H' H2.length = some ((st.way).map AV.i)) ∧ (hget H' bq = some (Q.map AV.i)) ∧ (H2.length < bq) ∧ (o + st.q.length = Q.length) ∧ (Q.drop o = st.q) ∧ (SOK n st) ∧ (meas st ≤ k) ∧ (bfs E f k st = reachS n s E f) ∧ (k ≤ 64) ∧ (m = st.q.length)) ⟨n.toNat, st0 n s, H4.length, 0, [s], 1, _, _, _, _, _, _, _, _, _, _, rfl, rfl, by exact q0, by exact qf, by exact qs, by exact qy, by exact qq, by omega, by rfl, by rfl, by exact (st0_ok g).1, by exact Nat.le_of_eq (st0_ok g).2, by rfl, by omega, by rfl⟩ (by rfl) ?_
  rintro mm kv HA ⟨k, st, bq, o, Q, m, x9, x10, x11, x27, x34, x35, x36, x37, x61, x95, rfl, rfl, q0, qf, qs, qy, qq, hbq, hoq, hqd, so, hmk, hbf, hk64, hm8⟩
  have tr : ∀ y0 y1 y2 y4 y5 y6 y7 y8 y9 y10 y11 y27 y34 y35 y36 y37 y61 y95 z8 z9 z10 z11 z27 z34 z35 z36 z37 z61 z95 : AV, upd [(0, y0), (1, y1), (2, y2), (4, y4), (5, y5), (6, y6), (7, y7), (8, y8), (9, y9), (10, y10), (11, y11), (27, y27), (34, y34), (35, y35), (36, y36), (37, y37), (61, y61), (95, y95)] [(8, z8), (9, z9), (10, z10), (11, z11), (27, z27), (34, z34), (35, z35), (36, z36), (37, z37), (61, z61), (95, z95)] = [(0, y0), (1, y1), (2, y2), (4, y4), (5, y5), (6, y6), (7, y7), (8, z8), (9, z9), (10, z10), (11, z11), (27, z27), (34, z34), (35, z35), (36, z36), (37, z37), (61, z61), (95, z95)] := fun y0 y1 y2 y4 y5 y6 y7 y8 y9 y10 y11 y27 y34 y35 y36 y37 y61 y95 z8 z9 z10 z11 z27 z34 z35 z36 z37 z61 z95 => rfl
  refine W_to (tr _ _ _ _ _ _ _ _ _ _ _ _ _ _ _ _ _ _ _ _ _ _ _ _ _ _ _ _ _) ?_; clear tr
  subst hm8
  have lq0 := hget_lt q0
  have lqf := hget_lt qf
  have lqs := hget_lt qs
  have lqy := hget_lt qy
  have lqq := hget_lt qq
  have sos := so.seen
  have sow := so.way
  refine at_seq rfl ?_
  refine at_seq rfl ?_
  refine rg rfl ?_
  refine Rq ?_
  refine Rq ?_
  refine Rq ?_
  have tr : ∀ y0 y1 y2 y4 y5 y6 y7 y8 y9 y10 y11 y27 y34 y35 y36 y37 y61 y95 z0 z1 z2 : AV, trim [(27, z2), (26, z1), (25, z0), (0, y0), (1, y1), (2, y2), (4, y4), (5, y5), (6, y6), (7, y7), (8, y8), (9, y9), (10, y10), (11, y11), (27, y27), (34, y34), (35, y35), (36, y36), (37, y37), (61, y61), (95, y95)] [(0, y0), (1, y1), (2, y2), (4, y4), (5, y5), (6, y6), (7, y7), (8, y8), (9, y9), (10, y10), (11, y11), (27, y27), (34, y34), (35, y35), (36, y36), (37, y37), (61, y61), (95, y95)] = [(0, y0), (1, y1), (2, y2), (4, y4), (5, y5), (6, y6), (7, y7), (8, y8), (9, y9), (10, y10), (11, y11), (27, z2), (34, y34), (35, y35), (36, y36), (37, y37), (61, y61), (95, y95)] := fun y0 y1 y2 y4 y5 y6 y7 y8 y9 y10 y11 y27 y34 y35 y36 y37 y61 y95 z0 z1 z2 => rfl
  refine R_nil (tr _ _ _ _ _ _ _ _ _ _ _ _ _ _ _ _ _ _ _ _ _) ?_; clear tr
  refine then_n ?_
  refine cdd (fun h1 => ?_) (fun h1 => ?_)
  · try simp only [decide_eq_true_eq, decide_eq_false_iff_not, Bool.not_eq_true', Bool.not_eq_false', beq_iff_eq, beq_eq_false_iff_ne, ne_eq] at h1
    refine at_skip rfl ?_
    refine then_n ?_
    refine at_block rfl ?_
    refine at_seq rfl ?_
    refine rg rfl ?_
    obtain ⟨k', rfl, hoQ, hdl, so1, hmk2, hv0, hv1, hbf2⟩ := q_pop' so hmk hbf hqd hoq (by omega)
    refine Rq ?_
    refine Rq ?_
    refine R_q rfl (by simp (disch := first | omega | (simp only [List.length_map, List.length_append, List.length_set, List.length_cons, List.length_nil, List.length_take, List.length_drop]; omega)) only [go_sem, ↓reduceIte, Nat.reduceEqDiff, reduceCtorEq, q0, qf, qs, qy, qq, qx, qa]; rfl) ?_
    refine Rq ?_
    have tr : ∀ y0 y1 y2 y4 y5 y6 y7 y8 y9 y10 y11 y27 y34 y35 y36 y37 y61 y95 z0 z1 z2 z3 : AV, trim [(9, z3), (30, z2), (29, z1), (28, z0), (0, y0), (1, y1), (2, y2), (4, y4), (5, y5), (6, y6), (7, y7), (8, y8), (9, y9), (10, y10), (11, y11), (27, y27), (34, y34), (35, y35), (36, y36), (37, y37), (61, y61), (95, y95)] [(0, y0), (1, y1), (2, y2), (4, y4), (5, y5), (6, y6), (7, y7), (8, y8), (9, y9), (10, y10), (11, y11), (27, y27), (34, y34), (35, y35), (36, y36), (37, y37), (61, y61), (95, y95)] = [(0, y0), (1, y1), (2, y2), (4, y4), (5, y5), (6, y6), (7, y7), (8, y8), (9, z3), (10, y10), (11, y11), (27, y27), (34, y34), (35, y35), (36, y36), (37, y37), (61, y61), (95, y95)] := fun y0 y1 y2 y4 y5 y6 y7 y8 y9 y10 y11 y27 y34 y35 y36 y37 y61 y95 z0 z1 z2 z3 => rfl
    refine R_nil (tr _ _ _ _ _ _ _ _ _ _ _ _ _ _ _ _ _ _ _ _ _ _) ?_; clear tr
    refine then_n ?_
    refine at_seq rfl ?_
    refine rg rfl ?_
    refine Rq ?_
    refine R_q rfl (sl40 _ _ _ _ hdl) ?_
    refine Rq ?_
    have tr : ∀ y0 y1 y2 y4 y5 y6 y7 y8 y9 y10 y11 y27 y34 y35 y36 y37 y61 y95 z0 z1 z2 : AV, trim [(8, z2), (32, z1), (31, z0), (0, y0), (1, y1), (2, y2), (4, y4), (5, y5), (6, y6), (7, y7), (8, y8), (9, y9), (10, y10), (11, y11), (27, y27), (34, y34), (35, y35), (36, y36), (37, y37), (61, y61), (95, y95)] [(0, y0), (1, y1), (2, y2), (4, y4), (5, y5), (6, y6), (7, y7), (8, y8), (9, y9), (10, y10), (11, y11), (27, y27), (34, y34), (35, y35), (36, y36), (37, y37), (61, y61), (95, y95)] = [(0, y0), (1, y1), (2, y2), (4, y4), (5, y5), (6, y6), (7, y7), (8, z2), (9, y9), (10, y10), (11, y11), (27, y27), (34, y34), (35, y35), (36, y36), (37, y37), (61, y61), (95, y95)] := fun y0 y1 y2 y4 y5 y6 y7 y8 y9 y10 y11 y27 y34 y35 y36 y37 y61 y95 z0 z1 z2 => rfl
    refine R_nil (tr _ _ _ _ _ _ _ _ _ _ _ _ _ _ _ _ _ _ _ _ _) ?_; clear tr
    refine then_n ?_
    refine at_seq rfl ?_
    refine rg rfl ?_
    refine Rq ?_
    refine R_q rfl (by simp (disch := first | omega | (simp only [List.length_map, List.length_append, List.length_set, List.length_cons, List.length_nil, List.length_take, List.length_drop]; omega)) only [go_sem, ↓reduceIte, Nat.reduceEqDiff, reduceCtorEq, q0, qf, qs, qy, qq, qx, qa]; rfl) ?_
    refine Rq ?_
    refine Rq ?_
    have tr : ∀ y0 y1 y2 y4 y5 y6 y7 y8 y9 y10 y11 y27 y34 y35 y36 y37 y61 y95 z0 z1 z2 z3 : AV, trim [(36, z3), (35, z2), (34, z1), (33, z0), (0, y0), (1, y1), (2, y2), (4, y4), (5, y5), (6, y6), (7, y7), (8, y8), (9, y9), (10, y10), (11, y11), (27, y27), (34, y34), (35, y35), (36, y36), (37, y37), (61, y61), (95, y95)] [(0, y0), (1, y1), (2, y2), (4, y4), (5, y5), (6, y6), (7, y7), (8, y8), (9, y9), (10, y10), (11, y11), (27, y27), (34, y34), (35, y35), (36, y36), (37, y37), (61, y61), (95, y95)] = [(0, y0), (1, y1), (2, y2), (4, y4), (5, y5), (6, y6), (7, y7), (8, y8), (9, y9), (10, y10), (11, y11), (27, y27), (34, z1), (35, z2), (36, z3), (37, y37), (61, y61), (95, y95)] := fun y0 y1 y2 y4 y5 y6 y7 y8 y9 y10 y11 y27 y34 y35 y36 y37 y61 y95 z0 z1 z2 z3 => rfl
    refine R_nil (tr _ _ _ _ _ _ _ _ _ _ _ _ _ _ _ _ _ _ _ _ _ _) ?_; clear tr
    refine then_n ?_
    refine at_block rfl ?_
    refine loop_n rfl (fun mm kv H' => ∃ u : Nat, ∃ st2 : BS, ∃ bq2 : Nat, ∃ o2 : Nat, ∃ Q2 : List Int, ∃ m2 : Nat, ∃ x10 x11 x37 x61 x95 : AV, (kv = [(8, AV.own 1 bq2 o2 m2), (10, x10), (11, x11), (36, AV.i u), (37, x37), (61, x61), (95, x95)]) ∧ (mm = E.length - u) ∧ (hget H' H.length = some (graphC n s t E)) ∧ (hget H' bf = some (f.map AV.i)) ∧ (hget H' H1.length = some (st2.seen.map AV.b)) ∧ (hget H' H2.length = some ((st2.way).map AV.i)) ∧ (hget H' bq2 = some (Q2.map AV.i)) ∧ (H2.length < bq2) ∧ (o2 + st2.q.length = Q2.length) ∧ (Q2.drop o2 = st2.q) ∧ (u ≤ E.length) ∧ (st2 = scanN E f (gt Q o) ⟨st.seen, st.way, Q.drop (o + 1)⟩ u) ∧ (m2 = st2.q.length)) ⟨0, ⟨st.seen, st.way, Q.drop (o + 1)⟩, bq, (o + 1), Q, _, _, _, _, _, _, rfl, rfl, by exact q0, by exact qf, by exact qs, by exact qy, by exact qq, by exact hbq, by simp only [List.length_drop]; omega, by rfl, by omega, by rfl, by rfl⟩ (by rfl) ?_
    rintro mm kv HB ⟨u, st2, bq2, o2, Q2, m2, x10, x11, x37, x61, x95, rfl, rfl, q0, qf, qs, qy, qq, hbq2, hoq2, hqd2, hu, hs2, hm8⟩
    have tr : ∀ y0 y1 y2 y4 y5 y6 y7 y8 y9 y10 y11 y27 y34 y35 y36 y37 y61 y95 z8 z10 z11 z36 z37 z61 z95 : AV, upd [(0, y0), (1, y1), (2, y2), (4, y4), (5, y5), (6, y6), (7, y7), (8, y8), (9, y9), (10, y10), (11, y11), (27, y27), (34, y34), (35, y35), (36, y36), (37, y37), (61, y61), (95, y95)] [(8, z8), (10, z10), (11, z11), (36, z36), (37, z37), (61, z61), (95, z95)] = [(0, y0), (1, y1), (2, y2), (4, y4), (5, y5), (6, y6), (7, y7), (8, z8), (9, y9), (10, z10), (11, z11), (27, y27), (34, y34), (35, y35), (36, z36), (37, z37), (61, z61), (95, z95)] := fun y0 y1 y2 y4 y5 y6 y7 y8 y9 y10 y11 y27 y34 y35 y36 y37 y61 y95 z8 z10 z11 z36 z37 z61 z95 => rfl
    refine W_to (tr _ _ _ _ _ _ _ _ _ _ _ _ _ _ _ _ _ _ _ _ _ _ _ _ _) ?_; clear tr
    subst hm8
    have lq0 := hget_lt q0
    have lqf := hget_lt qf
    have lqs := hget_lt qs
    have lqy := hget_lt qy
    have lqq := hget_lt qq
    have sk := scan_ok' g (f := f) (v := gt Q o) so1 u hu
    rw [← hs2] at sk
    have sos := sk.1.seen
    have sow := sk.1.way
    have skm := sk.2
    have hmq : st2.q.length ≤ meas st2 := by unfold meas; omega
    refine at_seq rfl ?_
    refine rg rfl ?_
    refine Rq ?_
    have tr : ∀ y0 y1 y2 y4 y5 y6 y7 y8 y9 y10 y11 y27 y34 y35 y36 y37 y61 y95 z0 : AV, trim [(37, z0), (0, y0), (1, y1), (2, y2), (4, y4), (5, y5), (6, y6), (7, y7), (8, y8), (9, y9), (10, y10), (11, y11), (27, y27), (34, y34), (35, y35), (36, y36), (37, y37), (61, y61), (95, y95)] [(0, y0), (1, y1), (2, y2), (4, y4), (5, y5), (6, y6), (7, y7), (8, y8), (9, y9), (10, y10), (11, y11), (27, y27), (34, y34), (35, y35), (36, y36), (37, y37), (61, y61), (95, y95)] = [(0, y0), (1, y1), (2, y2), (4, y4), (5, y5), (6, y6), (7, y7), (8, y8), (9, y9), (10, y10), (11, y11), (27, y27), (34, y34), (35, y35), (36, y36), (37, z0), (61, y61), (95, y95)] := fun y0 y1 y2 y4 y5 y6 y7 y8 y9 y10 y11 y27 y34 y35 y36 y37 y61 y95 z0 => rfl
    refine R_nil (tr _ _ _ _ _ _ _ _ _ _ _ _ _ _ _ _ _ _ _) ?_; clear tr
    refine then_n ?_
    refine at_seq rfl ?_
    refine cdd (fun h2 => ?_) (fun h2 => ?_)
    · try simp only [decide_eq_true_eq, decide_eq_false_iff_not, Bool.not_eq_true', Bool.not_eq_false', beq_iff_eq, beq_eq_false_iff_ne, ne_eq] at h2
      refine at_skip rfl ?_
      refine then_n ?_
      refine at_seq rfl ?_
      refine at_block rfl ?_
      refine at_seq rfl ?_
      refine rg rfl ?_
      have he := ge u (by omega)
      have hr := hrr u (by omega)
      refine Rq ?_
      refine Rq ?_
      refine R_q rfl (by simp (disch := first | omega | (simp only [List.length_map, List.length_append, List.length_set, List.length_cons, List.length_nil, List.length_take, List.length_drop]; omega)) only [go_sem, ↓reduceIte, Nat.reduceEqDiff, reduceCtorEq, q0, qf, qs, qy, qq, qx, qa]; rfl) ?_
      refine A_alloc rfl ?_
      intro HC n4
      have en4 := n4.len
      have q0 := (n4.old _ (hget_lt q0)).trans q0
      have qf := (n4.old _ (hget_lt qf)).trans qf
      have qs := (n4.old _ (hget_lt qs)).trans qs
      have qy := (n4.old _ (hget_lt qy)).trans qy
      have qq := (n4.old _ (hget_lt qq)).trans qq
      have qx := n4.new
      refine Rq ?_
      have lq0 := hget_lt q0
      have lqf := hget_lt qf
      have lqs := hget_lt qs
      have lqy := hget_lt qy
      have lqq := hget_lt qq
      have lqx := hget_lt qx
      refine A_store ty66 (by simp (disch := first | omega | (simp only [List.length_map, List.length_append, List.length_set, List.length_cons, List.length_nil, List.length_take, List.length_drop]; omega)) only [go_sem, ↓reduceIte, Nat.reduceEqDiff, reduceCtorEq, q0, qf, qs, qy, qq, qx, qa]; rfl) (by simp (disch := first | omega | (simp only [List.length_map, List.length_append, List.length_set, List.length_cons, List.length_nil, List.length_take, List.length_drop]; omega)) only [go_sem, ↓reduceIte, Nat.reduceEqDiff, reduceCtorEq, q0, qf, qs, qy, qq, qx, qa]; rfl) qx ⟨by omega, rfl, by first | (simp only [List.length_map]; omega) | (simp only [flatA_len]; omega) | exact Nat.le_refl _ | decide | simp⟩ (show _ = edC (gt E u) from rfl) ?_
      intro HD w4
      have ew4 := w4.len
      have q0 := (w4.old _ (by omega)).trans q0
      have qf := (w4.old _ (by omega)).trans qf
      have qs := (w4.old _ (by omega)).trans qs
      have qy := (w4.old _ (by omega)).trans qy
      have qq := (w4.old _ (by omega)).trans qq
      have qx := w4.new
      have tr : ∀ y0 y1 y2 y4 y5 y6 y7 y8 y9 y10 y11 y27 y34 y35 y36 y37 y61 y95 z0 z1 z2 z3 z4 : AV, trim [(10, z4), (11, z3), (40, z2), (39, z1), (38, z0), (0, y0), (1, y1), (2, y2), (4, y4), (5, y5), (6, y6), (7, y7), (8, y8), (9, y9), (10, y10), (11, y11), (27, y27), (34, y34), (35, y35), (36, y36), (37, y37), (61, y61), (95, y95)] [(0, y0), (1, y1), (2, y2), (4, y4), (5, y5), (6, y6), (7, y7), (8, y8), (9, y9), (10, y10), (11, y11), (27, y27), (34, y34), (35, y35), (36, y36), (37, y37), (61, y61), (95, y95)] = [(0, y0), (1, y1), (2, y2), (4, y4), (5, y5), (6, y6), (7, y7), (8, y8), (9, y9), (10, z4), (11, z3), (27, y27), (34, y34), (35, y35), (36, y36), (37, y37), (61, y61), (95, y95)] := fun y0 y1 y2 y4 y5 y6 y7 y8 y9 y10 y11 y27 y34 y35 y36 y37 y61 y95 z0 z1 z2 z3 z4 => rfl
      refine R_nil (tr _ _ _ _ _ _ _ _ _ _ _ _ _ _ _ _ _ _ _ _ _ _ _) ?_; clear tr
      refine then_n ?_
      refine at_seq rfl ?_
      refine at_seq rfl ?_
      refine rd rfl rfl ?_
      refine Qq ?_
      refine Q_q rfl (by simp (disch := first | omega | (simp only [List.length_map, List.length_append, List.length_set, List.length_cons, List.length_nil, List.length_take, List.length_drop]; omega)) only [go_sem, ↓reduceIte, Nat.reduceEqDiff, reduceCtorEq, q0, qf, qs, qy, qq, qx, qa]; rfl) ?_
      refine Qq ?_
      refine Qq ?_
      refine Qq ?_
      refine Qp_split (fun h3 => ?_) (fun h3 => ?_)
      · try simp only [decide_eq_true_eq, decide_eq_false_iff_not, Bool.not_eq_true', Bool.not_eq_false', beq_iff_eq, beq_eq_false_iff_ne, ne_eq] at h3
        refine Qy ?_
        refine Qq ?_
        refine Qy ?_
        refine Qq ?_
        refine Qy ?_
        refine Q_q rfl (by simp (disch := first | omega | (simp only [List.length_map, List.length_append, List.length_set, List.length_cons, List.length_nil, List.length_take, List.length_drop]; omega)) only [go_sem, ↓reduceIte, Nat.reduceEqDiff, reduceCtorEq, q0, qf, qs, qy, qq, qx, qa]; rfl) ?_
        refine Qy ?_
        refine Qq ?_
        refine Qy ?_
        refine Q_q rfl (by simp (disch := first | omega | (simp only [List.length_map, List.length_append, List.length_set, List.length_cons, List.length_nil, List.length_take, List.length_drop]; omega)) only [go_sem, ↓reduceIte, Nat.reduceEqDiff, reduceCtorEq, q0, qf, qs, qy, qq, qx, qa]; rfl) ?_
        refine Qy ?_
        refine Qq ?_
        refine Qq ?_
        refine Qq ?_
        refine Qp_split (fun h4 => ?_) (fun h4 => ?_)
        · try simp only [decide_eq_true_eq, decide_eq_false_iff_not, Bool.not_eq_true', Bool.not_eq_false', beq_iff_eq, beq_eq_false_iff_ne, ne_eq] at h4
          refine Qy ?_
          refine Qq ?_
          refine Qy ?_
          refine Qq ?_
          refine Qy ?_
          refine Qq ?_
          refine Qy ?_
          refine Q_q rfl (by simp (disch := first | omega | (simp only [List.length_map, List.length_append, List.length_set, List.length_cons, List.length_nil, List.length_take, List.length_drop]; omega)) only [go_sem, ↓reduceIte, Nat.reduceEqDiff, reduceCtorEq, q0, qf, qs, qy, qq, qx, qa]; rfl) ?_
          refine Qy ?_
          refine Qq ?_
          refine Qy ?_
          refine Q_q rfl (by simp (disch := first | omega | (simp only [List.length_map, List.length_append, List.length_set, List.length_cons, List.length_nil, List.length_take, List.length_drop]; omega)) only [go_sem, ↓reduceIte, Nat.reduceEqDiff, reduceCtorEq, q0, qf, qs, qy, qq, qx, qa]; rfl) ?_
          refine Qy ?_
          refine Qq ?_
          refine Qq ?_
          refine Q_nil ?_
          have tr : ∀ y0 y1 y2 y4 y5 y6 y7 y8 y9 y10 y11 y27 y34 y35 y36 y37 y61 y95 z0 z1 z2 z3 z4 z5 z6 z7 z8 z9 z10 z11 z12 z13 z14 z15 z16 z17 z18 z19 z20 : AV, trim [(61, z20), (60, z19), (59, z18), (58, z17), (57, z16), (56, z15), (55, z14), (54, z13), (53, z12), (52, z11), (51, z10), (50, z9), (49, z8), (48, z7), (47, z6), (46, z5), (45, z4), (44, z3), (43, z2), (42, z1), (41, z0), (0, y0), (1, y1), (2, y2), (4, y4), (5, y5), (6, y6), (7, y7), (8, y8), (9, y9), (10, y10), (11, y11), (27, y27), (34, y34), (35, y35), (36, y36), (37, y37), (61, y61), (95, y95)] [(0, y0), (1, y1), (2, y2), (4, y4), (5, y5), (6, y6), (7, y7), (8, y8), (9, y9), (10, y10), (11, y11), (27, y27), (34, y34), (35, y35), (36, y36), (37, y37), (61, y61), (95, y95)] = [(0, y0), (1, y1), (2, y2), (4, y4), (5, y5), (6, y6), (7, y7), (8, y8), (9, y9), (10, y10), (11, y11), (27, y27), (34, y34), (35, y35), (36, y36), (37, y37), (61, z20), (95, y95)] := fun y0 y1 y2 y4 y5 y6 y7 y8 y9 y10 y11 y27 y34 y35 y36 y37 y61 y95 z0 z1 z2 z3 z4 z5 z6 z7 z8 z9 z10 z11 z12 z13 z14 z15 z16 z17 z18 z19 z20 => rfl
          refine R_nil (tr _ _ _ _ _ _ _ _ _ _ _ _ _ _ _ _ _ _ _ _ _ _ _ _ _ _ _ _ _ _ _ _ _ _ _ _ _ _ _) ?_; clear tr
          refine then_n ?_
          refine cdd (fun h5 => ?_) (fun h5 => ?_)
          · try simp only [decide_eq_true_eq, decide_eq_false_iff_not, Bool.not_eq_true', Bool.not_eq_false', beq_iff_eq, beq_eq_false_iff_ne, ne_eq] at h5
            refine at_seq rfl ?_
            refine rl rfl rfl ?_
            refine Lq ?_
            refine Lq ?_
            refine L_q rfl (by simp (disch := first | omega | (simp only [List.length_map, List.length_append, List.length_set, List.length_cons, List.length_nil, List.length_take, List.length_drop]; omega)) only [go_sem, ↓reduceIte, Nat.reduceEqDiff, reduceCtorEq, q0, qf, qs, qy, qq, qx, qa]; rfl) rfl ?_
            refine Lq ?_
            refine Lq ?_
            refine L_q rfl (by simp (disch := first | omega | (simp only [List.length_map, List.length_append, List.length_set, List.length_cons, List.length_nil, List.length_take, List.length_drop]; omega)) only [go_sem, ↓reduceIte, Nat.reduceEqDiff, reduceCtorEq, q0, qf, qs, qy, qq, qx, qa]; rfl) rfl ?_
            refine Lq ?_
            refine Lq ?_
            refine Lq ?_
            refine L_nil ?_
            refine Ms ?_ (wrC_store (by simp (disch := first | omega | (simp only [List.length_map, List.length_append, List.length_set, List.length_cons, List.length_nil, List.length_take, List.length_drop]; omega)) only [go_sem, ↓reduceIte, Nat.reduceEqDiff, reduceCtorEq, q0, qf, qs, qy, qq, qx, qa]; rfl) (by simp only [rdV, isLoad, go_sem, ↓reduceIte, Nat.reduceEqDiff, List.mem_cons, List.not_mem_nil, or_false, List.append_nil, List.nil_append, List.cons_append, not_or]; omega))
            have lq0 := hget_lt q0
            have lqf := hget_lt qf
            have lqs := hget_lt qs
            have lqy := hget_lt qy
            have lqq := hget_lt qq
            have lqx := hget_lt qx
            refine A_store ty4 (by simp (disch := first | omega | (simp only [List.length_map, List.length_append, List.length_set, List.length_cons, List.length_nil, List.length_take, List.length_drop]; omega)) only [go_sem, ↓reduceIte, Nat.reduceEqDiff, reduceCtorEq, q0, qf, qs, qy, qq, qx, qa]; rfl) (by simp (disch := first | omega | (simp only [List.length_map, List.length_append, List.length_set, List.length_cons, List.length_nil, List.length_take, List.length_drop]; omega)) only [go_sem, ↓reduceIte, Nat.reduceEqDiff, reduceCtorEq, q0, qf, qs, qy, qq, qx, qa]; rfl) qs ⟨by omega, rfl, by first | (simp only [List.length_map]; omega) | (simp only [flatA_len]; omega) | exact Nat.le_refl _ | decide | simp⟩ (setL_b _ _ _) ?_
            intro HF w6
            have ew6 := w6.len
            have q0 := (w6.old _ (by omega)).trans q0
            have qf := (w6.old _ (by omega)).trans qf
            have qy := (w6.old _ (by omega)).trans qy
            have qq := (w6.old _ (by omega)).trans qq
            have qx := (w6.old _ (by omega)).trans qx
            have qs := w6.new
            refine R_end ?_
            refine M_nil ?_
            refine Rq ?_
            have lq0 := hget_lt q0
            have lqf := hget_lt qf
            have lqs := hget_lt qs
            have lqy := hget_lt qy
            have lqq := hget_lt qq
            have lqx := hget_lt qx
            refine A_store ty3 (by simp (disch := first | omega | (simp only [List.length_map, List.length_append, List.length_set, List.length_cons, List.length_nil, List.length_take, List.length_drop]; omega)) only [go_sem, ↓reduceIte, Nat.reduceEqDiff, reduceCtorEq, q0, qf, qs, qy, qq, qx, qa]; rfl) (by simp (disch := first | omega | (simp only [List.length_map, List.length_append, List.length_set, List.length_cons, List.length_nil, List.length_take, List.length_drop]; omega)) only [go_sem, ↓reduceIte, Nat.reduceEqDiff, reduceCtorEq, q0, qf, qs, qy, qq, qx, qa]; rfl) qy ⟨by omega, rfl, by first | (simp only [List.length_map]; omega) | (simp only [flatA_len]; omega) | exact Nat.le_refl _ | decide | simp⟩ (setL_map _ _ _) ?_
            intro HG w7
            have ew7 := w7.len
            have q0 := (w7.old _ (by omega)).trans q0
            have qf := (w7.old _ (by omega)).trans qf
            have qs := (w7.old _ (by omega)).trans qs
            have qq := (w7.old _ (by omega)).trans qq
            have qx := (w7.old _ (by omega)).trans qx
            have qy := w7.new
            have tr : ∀ y0 y1 y2 y4 y5 y6 y7 y8 y9 y10 y11 y27 y34 y35 y36 y37 y61 y95 z0 z1 z2 z3 z4 z5 z6 z7 z8 z9 : AV, trim [(71, z9), (70, z8), (69, z7), (68, z6), (67, z5), (66, z4), (65, z3), (64, z2), (63, z1), (62, z0), (0, y0), (1, y1), (2, y2), (4, y4), (5, y5), (6, y6), (7, y7), (8, y8), (9, y9), (10, y10), (11, y11), (27, y27), (34, y34), (35, y35), (36, y36), (37, y37), (61, y61), (95, y95)] [(0, y0), (1, y1), (2, y2), (4, y4), (5, y5), (6, y6), (7, y7), (8, y8), (9, y9), (10, y10), (11, y11), (27, y27), (34, y34), (35, y35), (36, y36), (37, y37), (61, y61), (95, y95)] = [(0, y0), (1, y1), (2, y2), (4, y4), (5, y5), (6, y6), (7, y7), (8, y8), (9, y9), (10, y10), (11, y11), (27, y27), (34, y34), (35, y35), (36, y36), (37, y37), (61, y61), (95, y95)] := fun y0 y1 y2 y4 y5 y6 y7 y8 y9 y10 y11 y27 y34 y35 y36 y37 y61 y95 z0 z1 z2 z3 z4 z5 z6 z7 z8 z9 => rfl
            refine R_nil (tr _ _ _ _ _ _ _ _ _ _ _ _ _ _ _ _ _ _ _ _ _ _ _ _ _ _ _ _) ?_; clear tr
            refine then_n ?_
            refine rg rfl ?_
            refine Rq ?_
            refine Rq ?_
            refine R_q rfl (by simp (disch := first | omega | (simp only [List.length_map, List.length_append, List.length_set, List.length_cons, List.length_nil, List.length_take, List.length_drop]; omega)) only [go_sem, ↓reduceIte, Nat.reduceEqDiff, reduceCtorEq, q0, qf, qs, qy, qq, qx, qa]; rfl) ?_
            refine A_buildSlice (bs40 _ _ _ _ (gt E u).b (by simp (disch := first | omega | (simp only [List.length_map, List.length_append, List.length_set, List.length_cons, List.length_nil, List.length_take, List.length_drop]; omega)) only [go_sem, ↓reduceIte, Nat.reduceEqDiff, reduceCtorEq, q0, qf, qs, qy, qq, qx, qa])) ?_
            intro HJ n7
            have en7 := n7.len
            have q0 := (n7.old _ (hget_lt q0)).trans q0
            have qf := (n7.old _ (hget_lt qf)).trans qf
            have qs := (n7.old _ (hget_lt qs)).trans qs
            have qy := (n7.old _ (hget_lt qy)).trans qy
            have qq := (n7.old _ (hget_lt qq)).trans qq
            have qx := (n7.old _ (hget_lt qx)).trans qx
            have qn := n7.new
            have lq0 := hget_lt q0
            have lqf := hget_lt qf
            have lqs := hget_lt qs
            have lqy := hget_lt qy
            have lqq := hget_lt qq
            have lqx := hget_lt qx
            have lqn := hget_lt qn
            refine A_append (by simp (disch := first | omega | (simp only [List.length_map, List.length_append, List.length_set, List.length_cons, List.length_nil, List.length_take, List.length_drop]; omega)) only [go_sem, ↓reduceIte, Nat.reduceEqDiff, reduceCtorEq]; exact app40 qq qn (by omega) hoq2 (by omega)) ?_
            intro HK g7
            have eg7 := g7.len
            have q0 := (g7.old _ (by omega) lq0).trans q0
            have qf := (g7.old _ (by omega) lqf).trans qf
            have qs := (g7.old _ (by omega) lqs).trans qs
            have qy := (g7.old _ (by omega) lqy).trans qy
            have qx := (g7.old _ (by omega) lqx).trans qx
            have qq := g7.new
            refine Rq ?_
            have tr : ∀ y0 y1 y2 y4 y5 y6 y7 y8 y9 y10 y11 y27 y34 y35 y36 y37 y61 y95 z0 z1 z2 z3 z4 z5 : AV, trim [(8, z5), (76, z4), (75, z3), (74, z2), (73, z1), (72, z0), (0, y0), (1, y1), (2, y2), (4, y4), (5, y5), (6, y6), (7, y7), (8, y8), (9, y9), (10, y10), (11, y11), (27, y27), (34, y34), (35, y35), (36, y36), (37, y37), (61, y61), (95, y95)] [(0, y0), (1, y1), (2, y2), (4, y4), (5, y5), (6, y6), (7, y7), (8, y8), (9, y9), (10, y10), (11, y11), (27, y27), (34, y34), (35, y35), (36, y36), (37, y37), (61, y61), (95, y95)] = [(0, y0), (1, y1), (2, y2), (4, y4), (5, y5), (6, y6), (7, y7), (8, z5), (9, y9), (10, y10), (11, y11), (27, y27), (34, y34), (35, y35), (36, y36), (37, y37), (61, y61), (95, y95)] := fun y0 y1 y2 y4 y5 y6 y7 y8 y9 y10 y11 y27 y34 y35 y36 y37 y61 y95 z0 z1 z2 z3 z4 z5 => rfl
            refine R_nil (tr _ _ _ _ _ _ _ _ _ _ _ _ _ _ _ _ _ _ _ _ _ _ _ _) ?_; clear tr
            refine then_n ?_
            refine at_seq rfl ?_
            refine rg rfl ?_
            refine Rq ?_
            refine R_q rfl (by simp (disch := first | omega | (simp only [List.length_map, List.length_append, List.length_set, List.length_cons, List.length_nil, List.length_take, List.length_drop]; omega)) only [go_sem, ↓reduceIte, Nat.reduceEqDiff, reduceCtorEq, q0, qf, qs, qy, qq, qx, qa]; rfl) ?_
            refine Rq ?_
            refine Rq ?_
            refine Rq ?_
            refine Rp_split (fun h6 => ?_) (fun h6 => ?_)
            · try simp only [decide_eq_true_eq, decide_eq_false_iff_not, Bool.not_eq_true', Bool.not_eq_false', beq_iff_eq, beq_eq_false_iff_ne, ne_eq] at h6
              exfalso; omega
            · try simp only [decide_eq_true_eq, decide_eq_false_iff_not, Bool.not_eq_true', Bool.not_eq_false', beq_iff_eq, beq_eq_false_iff_ne, ne_eq] at h6
              refine Rn ?_
              refine Rn ?_
              refine Rn ?_
              refine Rn ?_
              refine Rn ?_
              refine Rn ?_
              refine Rq ?_
              refine Rq ?_
              refine Rn ?_
              refine Rn ?_
              refine Rn ?_
              refine Rn ?_
              refine Rn ?_
              refine Rq ?_
              have tr : ∀ y0 y1 y2 y4 y5 y6 y7 y8 y9 y10 y11 y27 y34 y35 y36 y37 y61 y95 z0 z1 z2 z3 z4 z5 z6 z7 z8 z9 z10 z11 z12 z13 z14 z15 z16 z17 z18 : AV, trim [(95, z18), (94, z17), (93, z16), (92, z15), (91, z14), (90, z13), (89, z12), (88, z11), (87, z10), (86, z9), (85, z8), (84, z7), (83, z6), (82, z5), (81, z4), (80, z3), (79, z2), (78, z1), (77, z0), (0, y0), (1, y1), (2, y2), (4, y4), (5, y5), (6, y6), (7, y7), (8, y8), (9, y9), (10, y10), (11, y11), (27, y27), (34, y34), (35, y35), (36, y36), (37, y37), (61, y61), (95, y95)] [(0, y0), (1, y1), (2, y2), (4, y4), (5, y5), (6, y6), (7, y7), (8, y8), (9, y9), (10, y10), (11, y11), (27, y27), (34, y34), (35, y35), (36, y36), (37, y37), (61, y61), (95, y95)] = [(0, y0), (1, y1), (2, y2), (4, y4), (5, y5), (6, y6), (7, y7), (8, y8), (9, y9), (10, y10), (11, y11), (27, y27), (34, y34), (35, y35), (36, y36), (37, y37), (61, y61), (95, z18)] := fun y0 y1 y2 y4 y5 y6 y7 y8 y9 y10 y11 y27 y34 y35 y36 y37 y61 y95 z0 z1 z2 z3 z4 z5 z6 z7 z8 z9 z10 z11 z12 z13 z14 z15 z16 z17 z18 => rfl
              refine R_nil (tr _ _ _ _ _ _ _ _ _ _ _ _ _ _ _ _ _ _ _ _ _ _ _ _ _ _ _ _ _ _ _ _ _ _ _ _ _) ?_; clear tr
              refine then_n ?_
              refine cdf ?_
              refine at_skip rfl ?_
              refine blk_n ?_
              refine then_n ?_
              refine rg rfl ?_
              refine Rq ?_
              refine Rq ?_
              have tr : ∀ y0 y1 y2 y4 y5 y6 y7 y8 y9 y10 y11 y27 y34 y35 y36 y37 y61 y95 z0 z1 : AV, trim [(36, z1), (112, z0), (0, y0), (1, y1), (2, y2), (4, y4), (5, y5), (6, y6), (7, y7), (8, y8), (9, y9), (10, y10), (11, y11), (27, y27), (34, y34), (35, y35), (36, y36), (37, y37), (61, y61), (95, y95)] [(0, y0), (1, y1), (2, y2), (4, y4), (5, y5), (6, y6), (7, y7), (8, y8), (9, y9), (10, y10), (11, y11), (27, y27), (34, y34), (35, y35), (36, y36), (37, y37), (61, y61), (95, y95)] = [(0, y0), (1, y1), (2, y2), (4, y4), (5, y5), (6, y6), (7, y7), (8, y8), (9, y9), (10, y10), (11, y11), (27, y27), (34, y34), (35, y35), (36, z1), (37, y37), (61, y61), (95, y95)] := fun y0 y1 y2 y4 y5 y6 y7 y8 y9 y10 y11 y27 y34 y35 y36 y37 y61 y95 z0 z1 => rfl
              refine R_nil (tr _ _ _ _ _ _ _ _ _ _ _ _ _ _ _ _ _ _ _ _) ?_; clear tr
              refine then_n ?_
              exact ⟨_, _, ⟨u + 1, pushS st2 (gt E u).b ((u : Int) + 1), HJ.length, 0, Q2.drop o2 ++ [(gt E u).b], (st2.q.length + 1), _, _, _, _, _, rfl, rfl, by exact q0, by exact qf, by exact qs, by first | exact qy | (rw [show -(u : Int) - 1 = 0 - (u : Int) - 1 by omega]; exact qy), by exact qq, by first | exact hbq2 | omega, by first | exact hoq2 | (simp only [pushS, List.length_append, List.length_drop, List.length_cons, List.length_nil]; omega), by first | exact hqd2 | simp only [pushS, List.drop_zero, hqd2], by omega, by (rw [scanN, ← hs2]; unfold stepE; first | (rw [if_pos (by omega), if_pos ⟨by assumption, by omega⟩]) | (rw [if_neg (by omega), if_pos (by omega), if_pos ⟨by assumption, by omega⟩]) | (rw [if_pos (by omega), if_neg (by intro hh; simp_all; done)]) | (rw [if_pos (by omega), if_neg (by intro hh; omega)]) | (rw [if_neg (by omega), if_pos (by omega), if_neg (by intro hh; simp_all; done)]) | (rw [if_neg (by omega), if_pos (by omega), if_neg (by intro hh; omega)]) | (rw [if_neg (by omega), if_neg (by omega)])), by first | rfl | simp [pushS]⟩, by rfl, by omega⟩
          · try simp only [decide_eq_true_eq, decide_eq_false_iff_not, Bool.not_eq_true', Bool.not_eq_false', beq_iff_eq, beq_eq_false_iff_ne, ne_eq] at h5
            refine at_skip rfl ?_
            refine then_n ?_
            refine at_seq rfl ?_
            refine rg rfl ?_
            refine Rq ?_
            refine R_q rfl (by simp (disch := first | omega | (simp only [List.length_map, List.length_append, List.length_set, List.length_cons, List.length_nil, List.length_take, List.length_drop]; omega)) only [go_sem, ↓reduceIte, Nat.reduceEqDiff, reduceCtorEq, q0, qf, qs, qy, qq, qx, qa]; rfl) ?_
            refine Rq ?_
            refine Rq ?_
            refine Rq ?_
            refine Rp_split (fun h7 => ?_) (fun h7 => ?_)
            · try simp only [decide_eq_true_eq, decide_eq_false_iff_not, Bool.not_eq_true', Bool.not_eq_false', beq_iff_eq, beq_eq_false_iff_ne, ne_eq] at h7
              exfalso; omega
            · try simp only [decide_eq_true_eq, decide_eq_false_iff_not, Bool.not_eq_true', Bool.not_eq_false', beq_iff_eq, beq_eq_false_iff_ne, ne_eq] at h7
              refine Rn ?_
              refine Rn ?_
              refine Rn ?_
              refine Rn ?_
              refine Rn ?_
              refine Rn ?_
              refine Rq ?_
              refine Rq ?_
              refine Rn ?_
              refine Rn ?_
              refine Rn ?_
              refine Rn ?_
              refine Rn ?_
              refine Rq ?_
              have tr : ∀ y0 y1 y2 y4 y5 y6 y7 y8 y9 y10 y11 y27 y34 y35 y36 y37 y61 y95 z0 z1 z2 z3 z4 z5 z6 z7 z8 z9 z10 z11 z12 z13 z14 z15 z16 z17 z18 : AV, trim [(95, z18), (94, z17), (93, z16), (92, z15), (91, z14), (90, z13), (89, z12), (88, z11), (87, z10), (86, z9), (85, z8), (84, z7), (83, z6), (82, z5), (81, z4), (80, z3), (79, z2), (78, z1), (77, z0), (0, y0), (1, y1), (2, y2), (4, y4), (5, y5), (6, y6), (7, y7), (8, y8), (9, y9), (10, y10), (11, y11), (27, y27), (34, y34), (35, y35), (36, y36), (37, y37), (61, y61), (95, y95)] [(0, y0), (1, y1), (2, y2), (4, y4), (5, y5), (6, y6), (7, y7), (8, y8), (9, y9), (10, y10), (11, y11), (27, y27), (34, y34), (35, y35), (36, y36), (37, y37), (61, y61), (95, y95)] = [(0, y0), (1, y1), (2, y2), (4, y4), (5, y5), (6, y6), (7, y7), (8, y8), (9, y9), (10, y10), (11, y11), (27, y27), (34, y34), (35, y35), (36, y36), (37, y37), (61, y61), (95, z18)] := fun y0 y1 y2 y4 y5 y6 y7 y8 y9 y10 y11 y27 y34 y35 y36 y37 y61 y95 z0 z1 z2 z3 z4 z5 z6 z7 z8 z9 z10 z11 z12 z13 z14 z15 z16 z17 z18 => rfl
              refine R_nil (tr _ _ _ _ _ _ _ _ _ _ _ _ _ _ _ _ _ _ _ _ _ _ _ _ _ _ _ _ _ _ _ _ _ _ _ _ _) ?_; clear tr
              refine then_n ?_
              refine cdf ?_
              refine at_skip rfl ?_
              refine blk_n ?_
              refine then_n ?_
              refine rg rfl ?_
              refine Rq ?_
              refine Rq ?_
              have tr : ∀ y0 y1 y2 y4 y5 y6 y7 y8 y9 y10 y11 y27 y34 y35 y36 y37 y61 y95 z0 z1 : AV, trim [(36, z1), (112, z0), (0, y0), (1, y1), (2, y2), (4, y4), (5, y5), (6, y6), (7, y7), (8, y8), (9, y9), (10, y10), (11, y11), (27, y27), (34, y34), (35, y35), (36, y36), (37, y37), (61, y61), (95, y95)] [(0, y0), (1, y1), (2, y2), (4, y4), (5, y5), (6, y6), (7, y7), (8, y8), (9, y9), (10, y10), (11, y11), (27, y27), (34, y34), (35, y35), (36, y36), (37, y37), (61, y61), (95, y95)] = [(0, y0), (1, y1), (2, y2), (4, y4), (5, y5), (6, y6), (7, y7), (8, y8), (9, y9), (10, y10), (11, y11), (27, y27), (34, y34), (35, y35), (36, z1), (37, y37), (61, y61), (95, y95)] := fun y0 y1 y2 y4 y5 y6 y7 y8 y9 y10 y11 y27 y34 y35 y36 y37 y61 y95 z0 z1 => rfl
              refine R_nil (tr _ _ _ _ _ _ _ _ _ _ _ _ _ _ _ _ _ _ _ _) ?_; clear tr
              refine then_n ?_
              exact ⟨_, _, ⟨u + 1, st2, bq2, o2, Q2, st2.q.length, _, _, _, _, _, rfl, rfl, by exact q0, by exact qf, by exact qs, by first | exact qy | (rw [show -(u : Int) - 1 = 0 - (u : Int) - 1 by omega]; exact qy), by exact qq, by first | exact hbq2 | omega, by first | exact hoq2 | (simp only [pushS, List.length_append, List.length_drop, List.length_cons, List.length_nil]; omega), by first | exact hqd2 | simp only [pushS, List.drop_zero, hqd2], by omega, by (rw [scanN, ← hs2]; unfold stepE; first | (rw [if_pos (by omega), if_pos ⟨by assumption, by omega⟩]) | (rw [if_neg (by omega), if_pos (by omega), if_pos ⟨by assumption, by omega⟩]) | (rw [if_pos (by omega), if_neg (by intro hh; simp_all; done)]) | (rw [if_pos (by omega), if_neg (by intro hh; omega)]) | (rw [if_neg (by omega), if_pos (by omega), if_neg (by intro hh; simp_all; done)]) | (rw [if_neg (by omega), if_pos (by omega), if_neg (by intro hh; omega)]) | (rw [if_neg (by omega), if_neg (by omega)])), by first | rfl | simp [pushS]⟩, by rfl, by omega⟩
        · try simp only [decide_eq_true_eq, decide_eq_false_iff_not, Bool.not_eq_true', Bool.not_eq_false', beq_iff_eq, beq_eq_false_iff_ne, ne_eq] at h4
          refine Qn ?_
          refine Qn ?_
          refine Qn ?_
          refine Qn ?_
          refine Qn ?_
          refine Qn ?_
          refine Qn ?_
          refine Qq ?_
          refine Q_nil ?_
          have tr : ∀ y0 y1 y2 y4 y5 y6 y7 y8 y9 y10 y11 y27 y34 y35 y36 y37 y61 y95 z0 z1 z2 z3 z4 z5 z6 z7 z8 z9 z10 z11 z12 z13 z14 z15 z16 z17 z18 z19 z20 : AV, trim [(61, z20), (60, z19), (59, z18), (58, z17), (57, z16), (56, z15), (55, z14), (54, z13), (53, z12), (52, z11), (51, z10), (50, z9), (49, z8), (48, z7), (47, z6), (46, z5), (45, z4), (44, z3), (43, z2), (42, z1), (41, z0), (0, y0), (1, y1), (2, y2), (4, y4), (5, y5), (6, y6), (7, y7), (8, y8), (9, y9), (10, y10), (11, y11), (27, y27), (34, y34), (35, y35), (36, y36), (37, y37), (61, y61), (95, y95)] [(0, y0), (1, y1), (2, y2), (4, y4), (5, y5), (6, y6), (7, y7), (8, y8), (9, y9), (10, y10), (11, y11), (27, y27), (34, y34), (35, y35), (36, y36), (37, y37), (61, y61), (95, y95)] = [(0, y0), (1, y1), (2, y2), (4, y4), (5, y5), (6, y6), (7, y7), (8, y8), (9, y9), (10, y10), (11, y11), (27, y27), (34, y34), (35, y35), (36, y36), (37, y37), (61, z20), (95, y95)] := fun y0 y1 y2 y4 y5 y6 y7 y8 y9 y10 y11 y27 y34 y35 y36 y37 y61 y95 z0 z1 z2 z3 z4 z5 z6 z7 z8 z9 z10 z11 z12 z13 z14 z15 z16 z17 z18 z19 z20 => rfl
          refine R_nil (tr _ _ _ _ _ _ _ _ _ _ _ _ _ _ _ _ _ _ _ _ _ _ _ _ _ _ _ _ _ _ _ _ _ _ _ _ _ _ _) ?_; clear tr
          refine then_n ?_
          refine cdf ?_
          refine at_skip rfl ?_
          refine then_n ?_
          refine at_seq rfl ?_
          refine rg rfl ?_
          refine Rq ?_
          refine R_q rfl (by simp (disch := first | omega | (simp only [List.length_map, List.length_append, List.length_set, List.length_cons, List.length_nil, List.length_take, List.length_drop]; omega)) only [go_sem, ↓reduceIte, Nat.reduceEqDiff, reduceCtorEq, q0, qf, qs, qy, qq, qx, qa]; rfl) ?_
          refine Rq ?_
          refine Rq ?_
          refine Rq ?_
          refine Rp_split (fun h8 => ?_) (fun h8 => ?_)
          · try simp only [decide_eq_true_eq, decide_eq_false_iff_not, Bool.not_eq_true', Bool.not_eq_false', beq_iff_eq, beq_eq_false_iff_ne, ne_eq] at h8
            exfalso; omega
          · try simp only [decide_eq_true_eq, decide_eq_false_iff_not, Bool.not_eq_true', Bool.not_eq_false', beq_iff_eq, beq_eq_false_iff_ne, ne_eq] at h8
            refine Rn ?_
            refine Rn ?_
            refine Rn ?_
            refine Rn ?_
            refine Rn ?_
            refine Rn ?_
            refine Rq ?_
            refine Rq ?_
            refine Rn ?_
            refine Rn ?_
            refine Rn ?_
            refine Rn ?_
            refine Rn ?_
            refine Rq ?_
            have tr : ∀ y0 y1 y2 y4 y5 y6 y7 y8 y9 y10 y11 y27 y34 y35 y36 y37 y61 y95 z0 z1 z2 z3 z4 z5 z6 z7 z8 z9 z10 z11 z12 z13 z14 z15 z16 z17 z18 : AV, trim [(95, z18), (94, z17), (93, z16), (92, z15), (91, z14), (90, z13), (89, z12), (88, z11), (87, z10), (86, z9), (85, z8), (84, z7), (83, z6), (82, z5), (81, z4), (80, z3), (79, z2), (78, z1), (77, z0), (0, y0), (1, y1), (2, y2), (4, y4), (5, y5), (6, y6), (7, y7), (8, y8), (9, y9), (10, y10), (11, y11), (27, y27), (34, y34), (35, y35), (36, y36), (37, y37), (61, y61), (95, y95)] [(0, y0), (1, y1), (2, y2), (4, y4), (5, y5), (6, y6), (7, y7), (8, y8), (9, y9), (10, y10), (11, y11), (27, y27), (34, y34), (35, y35), (36, y36), (37, y37), (61, y61), (95, y95)] = [(0, y0), (1, y1), (2, y2), (4, y4), (5, y5), (6, y6), (7, y7), (8, y8), (9, y9), (10, y10), (11, y11), (27, y27), (34, y34), (35, y35), (36, y36), (37, y37), (61, y61), (95, z18)] := fun y0 y1 y2 y4 y5 y6 y7 y8 y9 y10 y11 y27 y34 y35 y36 y37 y61 y95 z0 z1 z2 z3 z4 z5 z6 z7 z8 z9 z10 z11 z12 z13 z14 z15 z16 z17 z18 => rfl
            refine R_nil (tr _ _ _ _ _ _ _ _ _ _ _ _ _ _ _ _ _ _ _ _ _ _ _ _ _ _ _ _ _ _ _ _ _ _ _ _ _) ?_; clear tr
            refine then_n ?_
            refine cdf ?_
            refine at_skip rfl ?_
            refine blk_n ?_
            refine then_n ?_
            refine rg rfl ?_
            refine Rq ?_
            refine Rq ?_
            have tr : ∀ y0 y1 y2 y4 y5 y6 y7 y8 y9 y10 y11 y27 y34 y35 y36 y37 y61 y95 z0 z1 : AV, trim [(36, z1), (112, z0), (0, y0), (1, y1), (2, y2), (4, y4), (5, y5), (6, y6), (7, y7), (8, y8), (9, y9), (10, y10), (11, y11), (27, y27), (34, y34), (35, y35), (36, y36), (37, y37), (61, y61), (95, y95)] [(0, y0), (1, y1), (2, y2), (4, y4), (5, y5), (6, y6), (7, y7), (8, y8), (9, y9), (10, y10), (11, y11), (27, y27), (34, y34), (35, y35), (36, y36), (37, y37), (61, y61), (95, y95)] = [(0, y0), (1, y1), (2, y2), (4, y4), (5, y5), (6, y6), (7, y7), (8, y8), (9, y9), (10, y10), (11, y11), (27, y27), (34, y34), (35, y35), (36, z1), (37, y37), (61, y61), (95, y95)] := fun y0 y1 y2 y4 y5 y6 y7 y8 y9 y10 y11 y27 y34 y35 y36 y37 y61 y95 z0 z1 => rfl
            refine R_nil (tr _ _ _ _ _ _ _ _ _ _ _ _ _ _ _ _ _ _ _ _) ?_; clear tr
            refine then_n ?_
            exact ⟨_, _, ⟨u + 1, st2, bq2, o2, Q2, st2.q.length, _, _, _, _, _, rfl, rfl, by exact q0, by exact qf, by exact qs, by first | exact qy | (rw [show -(u : Int) - 1 = 0 - (u : Int) - 1 by omega]; exact qy), by exact qq, by first | exact hbq2 | omega, by first | exact hoq2 | (simp only [pushS, List.length_append, List.length_drop, List.length_cons, List.length_nil]; omega), by first | exact hqd2 | simp only [pushS, List.drop_zero, hqd2], by omega, by (rw [scanN, ← hs2]; unfold stepE; first | (rw [if_pos (by omega), if_pos ⟨by assumption, by omega⟩]) | (rw [if_neg (by omega), if_pos (by omega), if_pos ⟨by assumption, by omega⟩]) | (rw [if_pos (by omega), if_neg (by intro hh; simp_all; done)]) | (rw [if_pos (by omega), if_neg (by intro hh; omega)]) | (rw [if_neg (by omega), if_pos (by omega), if_neg (by intro hh; simp_all; done)]) | (rw [if_neg (by omega), if_pos (by omega), if_neg (by intro hh; omega)]) | (rw [if_neg (by omega), if_neg (by omega)])), by first | rfl | simp [pushS]⟩, by rfl, by omega⟩
      · try simp only [decide_eq_true_eq, decide_eq_false_iff_not, Bool.not_eq_true', Bool.not_eq_false', beq_iff_eq, beq_eq_false_iff_ne, ne_eq] at h3
        refine Qn ?_
        refine Qn ?_
        refine Qn ?_
        refine Qn ?_
        refine Qn ?_
        refine Qn ?_
        refine Qq ?_
        refine Qq ?_
        refine Qn ?_
        refine Qn ?_
        refine Qn ?_
        refine Qn ?_
        refine Qn ?_
        refine Qn ?_
        refine Qn ?_
        refine Qq ?_
        refine Q_nil ?_
        have tr : ∀ y0 y1 y2 y4 y5 y6 y7 y8 y9 y10 y11 y27 y34 y35 y36 y37 y61 y95 z0 z1 z2 z3 z4 z5 z6 z7 z8 z9 z10 z11 z12 z13 z14 z15 z16 z17 z18 z19 z20 : AV, trim [(61, z20), (60, z19), (59, z18), (58, z17), (57, z16), (56, z15), (55, z14), (54, z13), (53, z12), (52, z11), (51, z10), (50, z9), (49, z8), (48, z7), (47, z6), (46, z5), (45, z4), (44, z3), (43, z2), (42, z1), (41, z0), (0, y0), (1, y1), (2, y2), (4, y4), (5, y5), (6, y6), (7, y7), (8, y8), (9, y9), (10, y10), (11, y11), (27, y27), (34, y34), (35, y35), (36, y36), (37, y37), (61, y61), (95, y95)] [(0, y0), (1, y1), (2, y2), (4, y4), (5, y5), (6, y6), (7, y7), (8, y8), (9, y9), (10, y10), (11, y11), (27, y27), (34, y34), (35, y35), (36, y36), (37, y37), (61, y61), (95, y95)] = [(0, y0), (1, y1), (2, y2), (4, y4), (5, y5), (6, y6), (7, y7), (8, y8), (9, y9), (10, y10), (11, y11), (27, y27), (34, y34), (35, y35), (36, y36), (37, y37), (61, z20), (95, y95)] := fun y0 y1 y2 y4 y5 y6 y7 y8 y9 y10 y11 y27 y34 y35 y36 y37 y61 y95 z0 z1 z2 z3 z4 z5 z6 z7 z8 z9 z10 z11 z12 z13 z14 z15 z16 z17 z18 z19 z20 => rfl
        refine R_nil (tr _ _ _ _ _ _ _ _ _ _ _ _ _ _ _ _ _ _ _ _ _ _ _ _ _ _ _ _ _ _ _ _ _ _ _ _ _ _ _) ?_; clear tr
        refine then_n ?_
        refine cdf ?_
        refine at_skip rfl ?_
        refine then_n ?_
        refine at_seq rfl ?_
        refine rg rfl ?_
        refine Rq ?_
        refine R_q rfl (by simp (disch := first | omega | (simp only [List.length_map, List.length_append, List.length_set, List.length_cons, List.length_nil, List.length_take, List.length_drop]; omega)) only [go_sem, ↓reduceIte, Nat.reduceEqDiff, reduceCtorEq, q0, qf, qs, qy, qq, qx, qa]; rfl) ?_
        refine Rq ?_
        refine Rq ?_
        refine Rq ?_
        refine Rp_split (fun h9 => ?_) (fun h9 => ?_)
        · try simp only [decide_eq_true_eq, decide_eq_false_iff_not, Bool.not_eq_true', Bool.not_eq_false', beq_iff_eq, beq_eq_false_iff_ne, ne_eq] at h9
          refine Ry ?_
          refine Rq ?_
          refine Ry ?_
          refine Rq ?_
          refine Ry ?_
          refine R_q rfl (by simp (disch := first | omega | (simp only [List.length_map, List.length_append, List.length_set, List.length_cons, List.length_nil, List.length_take, List.length_drop]; omega)) only [go_sem, ↓reduceIte, Nat.reduceEqDiff, reduceCtorEq, q0, qf, qs, qy, qq, qx, qa]; rfl) ?_
          refine Ry ?_
          refine Rq ?_
          refine Ry ?_
          refine R_q rfl (by simp (disch := first | omega | (simp only [List.length_map, List.length_append, List.length_set, List.length_cons, List.length_nil, List.length_take, List.length_drop]; omega)) only [go_sem, ↓reduceIte, Nat.reduceEqDiff, reduceCtorEq, q0, qf, qs, qy, qq, qx, qa]; rfl) ?_
          refine Ry ?_
          refine Rq ?_
          refine Rq ?_
          refine Rq ?_
          refine Rp_split (fun h10 => ?_) (fun h10 => ?_)
          · try simp only [decide_eq_true_eq, decide_eq_false_iff_not, Bool.not_eq_true', Bool.not_eq_false', beq_iff_eq, beq_eq_false_iff_ne, ne_eq] at h10
            refine Ry ?_
            refine Rq ?_
            refine Ry ?_
            refine Rq ?_
            refine Ry ?_
            refine Rq ?_
            refine Ry ?_
            refine R_q rfl (by simp (disch := first | omega | (simp only [List.length_map, List.length_append, List.length_set, List.length_cons, List.length_nil, List.length_take, List.length_drop]; omega)) only [go_sem, ↓reduceIte, Nat.reduceEqDiff, reduceCtorEq, q0, qf, qs, qy, qq, qx, qa]; rfl) ?_
            refine Ry ?_
            refine Rq ?_
            refine Rq ?_
            have tr : ∀ y0 y1 y2 y4 y5 y6 y7 y8 y9 y10 y11 y27 y34 y35 y36 y37 y61 y95 z0 z1 z2 z3 z4 z5 z6 z7 z8 z9 z10 z11 z12 z13 z14 z15 z16 z17 z18 : AV, trim [(95, z18), (94, z17), (93, z16), (92, z15), (91, z14), (90, z13), (89, z12), (88, z11), (87, z10), (86, z9), (85, z8), (84, z7), (83, z6), (82, z5), (81, z4), (80, z3), (79, z2), (78, z1), (77, z0), (0, y0), (1, y1), (2, y2), (4, y4), (5, y5), (6, y6), (7, y7), (8, y8), (9, y9), (10, y10), (11, y11), (27, y27), (34, y34), (35, y35), (36, y36), (37, y37), (61, y61), (95, y95)] [(0, y0), (1, y1), (2, y2), (4, y4), (5, y5), (6, y6), (7, y7), (8, y8), (9, y9), (10, y10), (11, y11), (27, y27), (34, y34), (35, y35), (36, y36), (37, y37), (61, y61), (95, y95)] = [(0, y0), (1, y1), (2, y2), (4, y4), (5, y5), (6, y6), (7, y7), (8, y8), (9, y9), (10, y10), (11, y11), (27, y27), (34, y34), (35, y35), (36, y36), (37, y37), (61, y61), (95, z18)] := fun y0 y1 y2 y4 y5 y6 y7 y8 y9 y10 y11 y27 y34 y35 y36 y37 y61 y95 z0 z1 z2 z3 z4 z5 z6 z7 z8 z9 z10 z11 z12 z13 z14 z15 z16 z17 z18 => rfl
            refine R_nil (tr _ _ _ _ _ _ _ _ _ _ _ _ _ _ _ _ _ _ _ _ _ _ _ _ _ _ _ _ _ _ _ _ _ _ _ _ _) ?_; clear tr
            refine then_n ?_
            refine cdd (fun h11 => ?_) (fun h11 => ?_)
            · try simp only [decide_eq_true_eq, decide_eq_false_iff_not, Bool.not_eq_true', Bool.not_eq_false', beq_iff_eq, beq_eq_false_iff_ne, ne_eq] at h11
              refine at_seq rfl ?_
              refine rl rfl rfl ?_
              refine Lq ?_
              refine Lq ?_
              refine L_q rfl (by simp (disch := first | omega | (simp only [List.length_map, List.length_append, List.length_set, List.length_cons, List.length_nil, List.length_take, List.length_drop]; omega)) only [go_sem, ↓reduceIte, Nat.reduceEqDiff, reduceCtorEq, q0, qf, qs, qy, qq, qx, qa]; rfl) rfl ?_
              refine Lq ?_
              refine Lq ?_
              refine L_q rfl (by simp (disch := first | omega | (simp only [List.length_map, List.length_append, List.length_set, List.length_cons, List.length_nil, List.length_take, List.length_drop]; omega)) only [go_sem, ↓reduceIte, Nat.reduceEqDiff, reduceCtorEq, q0, qf, qs, qy, qq, qx, qa]; rfl) rfl ?_
              refine Lq ?_
              refine Lq ?_
              refine Lq ?_
              refine Lq ?_
              refine L_nil ?_
              refine Ms ?_ (wrC_store (by simp (disch := first | omega | (simp only [List.length_map, List.length_append, List.length_set, List.length_cons, List.length_nil, List.length_take, List.length_drop]; omega)) only [go_sem, ↓reduceIte, Nat.reduceEqDiff, reduceCtorEq, q0, qf, qs, qy, qq, qx, qa]; rfl) (by simp only [rdV, isLoad, go_sem, ↓reduceIte, Nat.reduceEqDiff, List.mem_cons, List.not_mem_nil, or_false, List.append_nil, List.nil_append, List.cons_append, not_or]; omega))
              have lq0 := hget_lt q0
              have lqf := hget_lt qf
              have lqs := hget_lt qs
              have lqy := hget_lt qy
              have lqq := hget_lt qq
              have lqx := hget_lt qx
              refine A_store ty4 (by simp (disch := first | omega | (simp only [List.length_map, List.length_append, List.length_set, List.length_cons, List.length_nil, List.length_take, List.length_drop]; omega)) only [go_sem, ↓reduceIte, Nat.reduceEqDiff, reduceCtorEq, q0, qf, qs, qy, qq, qx, qa]; rfl) (by simp (disch := first | omega | (simp only [List.length_map, List.length_append, List.length_set, List.length_cons, List.length_nil, List.length_take, List.length_drop]; omega)) only [go_sem, ↓reduceIte, Nat.reduceEqDiff, reduceCtorEq, q0, qf, qs, qy, qq, qx, qa]; rfl) qs ⟨by omega, rfl, by first | (simp only [List.length_map]; omega) | (simp only [flatA_len]; omega) | exact Nat.le_refl _ | decide | simp⟩ (setL_b _ _ _) ?_
              intro HF w6
              have ew6 := w6.len
              have q0 := (w6.old _ (by omega)).trans q0
              have qf := (w6.old _ (by omega)).trans qf
              have qy := (w6.old _ (by omega)).trans qy
              have qq := (w6.old _ (by omega)).trans qq
              have qx := (w6.old _ (by omega)).trans qx
              have qs := w6.new
              refine R_end ?_
              refine M_nil ?_
              refine Rq ?_
              have lq0 := hget_lt q0
              have lqf := hget_lt qf
              have lqs := hget_lt qs
              have lqy := hget_lt qy
              have lqq := hget_lt qq
              have lqx := hget_lt qx
              refine A_store ty3 (by simp (disch := first | omega | (simp only [List.length_map, List.length_append, List.length_set, List.length_cons, List.length_nil, List.length_take, List.length_drop]; omega)) only [go_sem, ↓reduceIte, Nat.reduceEqDiff, reduceCtorEq, q0, qf, qs, qy, qq, qx, qa]; rfl) (by simp (disch := first | omega | (simp only [List.length_map, List.length_append, List.length_set, List.length_cons, List.length_nil, List.length_take, List.length_drop]; omega)) only [go_sem, ↓reduceIte, Nat.reduceEqDiff, reduceCtorEq, q0, qf, qs, qy, qq, qx, qa]; rfl) qy ⟨by omega, rfl, by first | (simp only [List.length_map]; omega) | (simp only [flatA_len]; omega) | exact Nat.le_refl _ | decide | simp⟩ (setL_map _ _ _) ?_
              intro HG w7
              have ew7 := w7.len
              have q0 := (w7.old _ (by omega)).trans q0
              have qf := (w7.old _ (by omega)).trans qf
              have qs := (w7.old _ (by omega)).trans qs
              have qq := (w7.old _ (by omega)).trans qq
              have qx := (w7.old _ (by omega)).trans qx
              have qy := w7.new
              have tr : ∀ y0 y1 y2 y4 y5 y6 y7 y8 y9 y10 y11 y27 y34 y35 y36 y37 y61 y95 z0 z1 z2 z3 z4 z5 z6 z7 z8 z9 z10 : AV, trim [(106, z10), (105, z9), (104, z8), (103, z7), (102, z6), (101, z5), (100, z4), (99, z3), (98, z2), (97, z1), (96, z0), (0, y0), (1, y1), (2, y2), (4, y4), (5, y5), (6, y6), (7, y7), (8, y8), (9, y9), (10, y10), (11, y11), (27, y27), (34, y34), (35, y35), (36, y36), (37, y37), (61, y61), (95, y95)] [(0, y0), (1, y1), (2, y2), (4, y4), (5, y5), (6, y6), (7, y7), (8, y8), (9, y9), (10, y10), (11, y11), (27, y27), (34, y34), (35, y35), (36, y36), (37, y37), (61, y61), (95, y95)] = [(0, y0), (1, y1), (2, y2), (4, y4), (5, y5), (6, y6), (7, y7), (8, y8), (9, y9), (10, y10), (11, y11), (27, y27), (34, y34), (35, y35), (36, y36), (37, y37), (61, y61), (95, y95)] := fun y0 y1 y2 y4 y5 y6 y7 y8 y9 y10 y11 y27 y34 y35 y36 y37 y61 y95 z0 z1 z2 z3 z4 z5 z6 z7 z8 z9 z10 => rfl
              refine R_nil (tr _ _ _ _ _ _ _ _ _ _ _ _ _ _ _ _ _ _ _ _ _ _ _ _ _ _ _ _ _) ?_; clear tr
              refine then_n ?_
              refine rg rfl ?_
              refine Rq ?_
              refine Rq ?_
              refine R_q rfl (by simp (disch := first | omega | (simp only [List.length_map, List.length_append, List.length_set, List.length_cons, List.length_nil, List.length_take, List.length_drop]; omega)) only [go_sem, ↓reduceIte, Nat.reduceEqDiff, reduceCtorEq, q0, qf, qs, qy, qq, qx, qa]; rfl) ?_
              refine A_buildSlice (bs40 _ _ _ _ (gt E u).a (by simp (disch := first | omega | (simp only [List.length_map, List.length_append, List.length_set, List.length_cons, List.length_nil, List.length_take, List.length_drop]; omega)) only [go_sem, ↓reduceIte, Nat.reduceEqDiff, reduceCtorEq, q0, qf, qs, qy, qq, qx, qa])) ?_
              intro HJ n7
              have en7 := n7.len
              have q0 := (n7.old _ (hget_lt q0)).trans q0
              have qf := (n7.old _ (hget_lt qf)).trans qf
              have qs := (n7.old _ (hget_lt qs)).trans qs
              have qy := (n7.old _ (hget_lt qy)).trans qy
              have qq := (n7.old _ (hget_lt qq)).trans qq
              have qx := (n7.old _ (hget_lt qx)).trans qx
              have qn := n7.new
              have lq0 := hget_lt q0
              have lqf := hget_lt qf
              have lqs := hget_lt qs
              have lqy := hget_lt qy
              have lqq := hget_lt qq
              have lqx := hget_lt qx
              have lqn := hget_lt qn
              refine A_append (by simp (disch := first | omega | (simp only [List.length_map, List.length_append, List.length_set, List.length_cons, List.length_nil, List.length_take, List.length_drop]; omega)) only [go_sem, ↓reduceIte, Nat.reduceEqDiff, reduceCtorEq]; exact app40 qq qn (by omega) hoq2 (by omega)) ?_
              intro HK g7
              have eg7 := g7.len
              have q0 := (g7.old _ (by omega) lq0).trans q0
              have qf := (g7.old _ (by omega) lqf).trans qf
              have qs := (g7.old _ (by omega) lqs).trans qs
              have qy := (g7.old _ (by omega) lqy).trans qy
              have qx := (g7.old _ (by omega) lqx).trans qx
              have qq := g7.new
              refine Rq ?_
              have tr : ∀ y0 y1 y2 y4 y5 y6 y7 y8 y9 y10 y11 y27 y34 y35 y36 y37 y61 y95 z0 z1 z2 z3 z4 z5 : AV, trim [(8, z5), (111, z4), (110, z3), (109, z2), (108, z1), (107, z0), (0, y0), (1, y1), (2, y2), (4, y4), (5, y5), (6, y6), (7, y7), (8, y8), (9, y9), (10, y10), (11, y11), (27, y27), (34, y34), (35, y35), (36, y36), (37, y37), (61, y61), (95, y95)] [(0, y0), (1, y1), (2, y2), (4, y4), (5, y5), (6, y6), (7, y7), (8, y8), (9, y9), (10, y10), (11, y11), (27, y27), (34, y34), (35, y35), (36, y36), (37, y37), (61, y61), (95, y95)] = [(0, y0), (1, y1), (2, y2), (4, y4), (5, y5), (6, y6), (7, y7), (8, z5), (9, y9), (10, y10), (11, y11), (27, y27), (34, y34), (35, y35), (36, y36), (37, y37), (61, y61), (95, y95)] := fun y0 y1 y2 y4 y5 y6 y7 y8 y9 y10 y11 y27 y34 y35 y36 y37 y61 y95 z0 z1 z2 z3 z4 z5 => rfl
              refine R_nil (tr _ _ _ _ _ _ _ _ _ _ _ _ _ _ _ _ _ _ _ _ _ _ _ _) ?_; clear tr
              refine blk_n ?_
              refine then_n ?_
              refine rg rfl ?_
              refine Rq ?_
              refine Rq ?_
              have tr : ∀ y0 y1 y2 y4 y5 y6 y7 y8 y9 y10 y11 y27 y34 y35 y36 y37 y61 y95 z0 z1 : AV, trim [(36, z1), (112, z0), (0, y0), (1, y1), (2, y2), (4, y4), (5, y5), (6, y6), (7, y7), (8, y8), (9, y9), (10, y10), (11, y11), (27, y27), (34, y34), (35, y35), (36, y36), (37, y37), (61, y61), (95, y95)] [(0, y0), (1, y1), (2, y2), (4, y4), (5, y5), (6, y6), (7, y7), (8, y8), (9, y9), (10, y10), (11, y11), (27, y27), (34, y34), (35, y35), (36, y36), (37, y37), (61, y61), (95, y95)] = [(0, y0), (1, y1), (2, y2), (4, y4), (5, y5), (6, y6), (7, y7), (8, y8), (9, y9), (10, y10), (11, y11), (27, y27), (34, y34), (35, y35), (36, z1), (37, y37), (61, y61), (95, y95)] := fun y0 y1 y2 y4 y5 y6 y7 y8 y9 y10 y11 y27 y34 y35 y36 y37 y61 y95 z0 z1 => rfl
              refine R_nil (tr _ _ _ _ _ _ _ _ _ _ _ _ _ _ _ _ _ _ _ _) ?_; clear tr
              refine then_n ?_
              exact ⟨_, _, ⟨u + 1, pushS st2 (gt E u).a (-(u : Int) - 1), HJ.length, 0, Q2.drop o2 ++ [(gt E u).a], (st2.q.length + 1), _, _, _, _, _, rfl, rfl, by exact q0, by exact qf, by exact qs, by first | exact qy | (rw [show -(u : Int) - 1 = 0 - (u : Int) - 1 by omega]; exact qy), by exact qq, by first | exact hbq2 | omega, by first | exact hoq2 | (simp only [pushS, List.length_append, List.length_drop, List.length_cons, List.length_nil]; omega), by first | exact hqd2 | simp only [pushS, List.drop_zero, hqd2], by omega, by (rw [scanN, ← hs2]; unfold stepE; first | (rw [if_pos (by omega), if_pos ⟨by assumption, by omega⟩]) | (rw [if_neg (by omega), if_pos (by omega), if_pos ⟨by assumption, by omega⟩]) | (rw [if_pos (by omega), if_neg (by intro hh; simp_all; done)]) | (rw [if_pos (by omega), if_neg (by intro hh; omega)]) | (rw [if_neg (by omega), if_pos (by omega), if_neg (by intro hh; simp_all; done)]) | (rw [if_neg (by omega), if_pos (by omega), if_neg (by intro hh; omega)]) | (rw [if_neg (by omega), if_neg (by omega)])), by first | rfl | simp [pushS]⟩, by rfl, by omega⟩
            · try simp only [decide_eq_true_eq, decide_eq_false_iff_not, Bool.not_eq_true', Bool.not_eq_false', beq_iff_eq, beq_eq_false_iff_ne, ne_eq] at h11
              refine at_skip rfl ?_
              refine blk_n ?_
              refine then_n ?_
              refine rg rfl ?_
              refine Rq ?_
              refine Rq ?_
              have tr : ∀ y0 y1 y2 y4 y5 y6 y7 y8 y9 y10 y11 y27 y34 y35 y36 y37 y61 y95 z0 z1 : AV, trim [(36, z1), (112, z0), (0, y0), (1, y1), (2, y2), (4, y4), (5, y5), (6, y6), (7, y7), (8, y8), (9, y9), (10, y10), (11, y11), (27, y27), (34, y34), (35, y35), (36, y36), (37, y37), (61, y61), (95, y95)] [(0, y0), (1, y1), (2, y2), (4, y4), (5, y5), (6, y6), (7, y7), (8, y8), (9, y9), (10, y10), (11, y11), (27, y27), (34, y34), (35, y35), (36, y36), (37, y37), (61, y61), (95, y95)] = [(0, y0), (1, y1), (2, y2), (4, y4), (5, y5), (6, y6), (7, y7), (8, y8), (9, y9), (10, y10), (11, y11), (27, y27), (34, y34), (35, y35), (36, z1), (37, y37), (61, y61), (95, y95)] := fun y0 y1 y2 y4 y5 y6 y7 y8 y9 y10 y11 y27 y34 y35 y36 y37 y61 y95 z0 z1 => rfl
              refine R_nil (tr _ _ _ _ _ _ _ _ _ _ _ _ _ _ _ _ _ _ _ _) ?_; clear tr
              refine then_n ?_
              exact ⟨_, _, ⟨u + 1, st2, bq2, o2, Q2, st2.q.length, _, _, _, _, _, rfl, rfl, by exact q0, by exact qf, by exact qs, by first | exact qy | (rw [show -(u : Int) - 1 = 0 - (u : Int) - 1 by omega]; exact qy), by exact qq, by first | exact hbq2 | omega, by first | exact hoq2 | (simp only [pushS, List.length_append, List.length_drop, List.length_cons, List.length_nil]; omega), by first | exact hqd2 | simp only [pushS, List.drop_zero, hqd2], by omega, by (rw [scanN, ← hs2]; unfold stepE; first | (rw [if_pos (by omega), if_pos ⟨by assumption, by omega⟩]) | (rw [if_neg (by omega), if_pos (by omega), if_pos ⟨by assumption, by omega⟩]) | (rw [if_pos (by omega), if_neg (by intro hh; simp_all; done)]) | (rw [if_pos (by omega), if_neg (by intro hh; omega)]) | (rw [if_neg (by omega), if_pos (by omega), if_neg (by intro hh; simp_all; done)]) | (rw [if_neg (by omega), if_pos (by omega), if_neg (by intro hh; omega)]) | (rw [if_neg (by omega), if_neg (by omega)])), by first | rfl | simp [pushS]⟩, by rfl, by omega⟩
          · try simp only [decide_eq_true_eq, decide_eq_false_iff_not, Bool.not_eq_true', Bool.not_eq_false', beq_iff_eq, beq_eq_false_iff_ne, ne_eq] at h10
            refine Rn ?_
            refine Rn ?_
            refine Rn ?_
            refine Rn ?_
            refine Rn ?_
            refine Rq ?_
            have tr : ∀ y0 y1 y2 y4 y5 y6 y7 y8 y9 y10 y11 y27 y34 y35 y36 y37 y61 y95 z0 z1 z2 z3 z4 z5 z6 z7 z8 z9 z10 z11 z12 z13 z14 z15 z16 z17 z18 : AV, trim [(95, z18), (94, z17), (93, z16), (92, z15), (91, z14), (90, z13), (89, z12), (88, z11), (87, z10), (86, z9), (85, z8), (84, z7), (83, z6), (82, z5), (81, z4), (80, z3), (79, z2), (78, z1), (77, z0), (0, y0), (1, y1), (2, y2), (4, y4), (5, y5), (6, y6), (7, y7), (8, y8), (9, y9), (10, y10), (11, y11), (27, y27), (34, y34), (35, y35), (36, y36), (37, y37), (61, y61), (95, y95)] [(0, y0), (1, y1), (2, y2), (4, y4), (5, y5), (6, y6), (7, y7), (8, y8), (9, y9), (10, y10), (11, y11), (27, y27), (34, y34), (35, y35), (36, y36), (37, y37), (61, y61), (95, y95)] = [(0, y0), (1, y1), (2, y2), (4, y4), (5, y5), (6, y6), (7, y7), (8, y8), (9, y9), (10, y10), (11, y11), (27, y27), (34, y34), (35, y35), (36, y36), (37, y37), (61, y61), (95, z18)] := fun y0 y1 y2 y4 y5 y6 y7 y8 y9 y10 y11 y27 y34 y35 y36 y37 y61 y95 z0 z1 z2 z3 z4 z5 z6 z7 z8 z9 z10 z11 z12 z13 z14 z15 z16 z17 z18 => rfl
            refine R_nil (tr _ _ _ _ _ _ _ _ _ _ _ _ _ _ _ _ _ _ _ _ _ _ _ _ _ _ _ _ _ _ _ _ _ _ _ _ _) ?_; clear tr
            refine then_n ?_
            refine cdf ?_
            refine at_skip rfl ?_
            refine blk_n ?_
            refine then_n ?_
            refine rg rfl ?_
            refine Rq ?_
            refine Rq ?_
            have tr : ∀ y0 y1 y2 y4 y5 y6 y7 y8 y9 y10 y11 y27 y34 y35 y36 y37 y61 y95 z0 z1 : AV, trim [(36, z1), (112, z0), (0, y0), (1, y1), (2, y2), (4, y4), (5, y5), (6, y6), (7, y7), (8, y8), (9, y9), (10, y10), (11, y11), (27, y27), (34, y34), (35, y35), (36, y36), (37, y37), (61, y61), (95, y95)] [(0, y0), (1, y1), (2, y2), (4, y4), (5, y5), (6, y6), (7, y7), (8, y8), (9, y9), (10, y10), (11, y11), (27, y27), (34, y34), (35, y35), (36, y36), (37, y37), (61, y61), (95, y95)] = [(0, y0), (1, y1), (2, y2), (4, y4), (5, y5), (6, y6), (7, y7), (8, y8), (9, y9), (10, y10), (11, y11), (27, y27), (34, y34), (35, y35), (36, z1), (37, y37), (61, y61), (95, y95)] := fun y0 y1 y2 y4 y5 y6 y7 y8 y9 y10 y11 y27 y34 y35 y36 y37 y61 y95 z0 z1 => rfl
            refine R_nil (tr _ _ _ _ _ _ _ _ _ _ _ _ _ _ _ _ _ _ _ _) ?_; clear tr
            refine then_n ?_
            exact ⟨_, _, ⟨u + 1, st2, bq2, o2, Q2, st2.q.length, _, _, _, _, _, rfl, rfl, by exact q0, by exact qf, by exact qs, by first | exact qy | (rw [show -(u : Int) - 1 = 0 - (u : Int) - 1 by omega]; exact qy), by exact qq, by first | exact hbq2 | omega, by first | exact hoq2 | (simp only [pushS, List.length_append, List.length_drop, List.length_cons, List.length_nil]; omega), by first | exact hqd2 | simp only [pushS, List.drop_zero, hqd2], by omega, by (rw [scanN, ← hs2]; unfold stepE; first | (rw [if_pos (by omega), if_pos ⟨by assumption, by omega⟩]) | (rw [if_neg (by omega), if_pos (by omega), if_pos ⟨by assumption, by omega⟩]) | (rw [if_pos (by omega), if_neg (by intro hh; simp_all; done)]) | (rw [if_pos (by omega), if_neg (by intro hh; omega)]) | (rw [if_neg (by omega), if_pos (by omega), if_neg (by intro hh; simp_all; done)]) | (rw [if_neg (by omega), if_pos (by omega), if_neg (by intro hh; omega)]) | (rw [if_neg (by omega), if_neg (by omega)])), by first | rfl | simp [pushS]⟩, by rfl, by omega⟩
        · try simp only [decide_eq_true_eq, decide_eq_false_iff_not, Bool.not_eq_true', Bool.not_eq_false', beq_iff_eq, beq_eq_false_iff_ne, ne_eq] at h9
          refine Rn ?_
          refine Rn ?_
          refine Rn ?_
          refine Rn ?_
          refine Rn ?_
          refine Rn ?_
          refine Rq ?_
          refine Rq ?_
          refine Rn ?_
          refine Rn ?_
          refine Rn ?_
          refine Rn ?_
          refine Rn ?_
          refine Rq ?_
          have tr : ∀ y0 y1 y2 y4 y5 y6 y7 y8 y9 y10 y11 y27 y34 y35 y36 y37 y61 y95 z0 z1 z2 z3 z4 z5 z6 z7 z8 z9 z10 z11 z12 z13 z14 z15 z16 z17 z18 : AV, trim [(95, z18), (94, z17), (93, z16), (92, z15), (91, z14), (90, z13), (89, z12), (88, z11), (87, z10), (86, z9), (85, z8), (84, z7), (83, z6), (82, z5), (81, z4), (80, z3), (79, z2), (78, z1), (77, z0), (0, y0), (1, y1), (2, y2), (4, y4), (5, y5), (6, y6), (7, y7), (8, y8), (9, y9), (10, y10), (11, y11), (27, y27), (34, y34), (35, y35), (36, y36), (37, y37), (61, y61), (95, y95)] [(0, y0), (1, y1), (2, y2), (4, y4), (5, y5), (6, y6), (7, y7), (8, y8), (9, y9), (10, y10), (11, y11), (27, y27), (34, y34), (35, y35), (36, y36), (37, y37), (61, y61), (95, y95)] = [(0, y0), (1, y1), (2, y2), (4, y4), (5, y5), (6, y6), (7, y7), (8, y8), (9, y9), (10, y10), (11, y11), (27, y27), (34, y34), (35, y35), (36, y36), (37, y37), (61, y61), (95, z18)] := fun y0 y1 y2 y4 y5 y6 y7 y8 y9 y10 y11 y27 y34 y35 y36 y37 y61 y95 z0 z1 z2 z3 z4 z5 z6 z7 z8 z9 z10 z11 z12 z13 z14 z15 z16 z17 z18 => rfl
          refine R_nil (tr _ _ _ _ _ _ _ _ _ _ _ _ _ _ _ _ _ _ _ _ _ _ _ _ _ _ _ _ _ _ _ _ _ _ _ _ _) ?_; clear tr
          refine then_n ?_
          refine cdf ?_
          refine at_skip rfl ?_
          refine blk_n ?_
          refine then_n ?_
          refine rg rfl ?_
          refine Rq ?_
          refine Rq ?_
          have tr : ∀ y0 y1 y2 y4 y5 y6 y7 y8 y9 y10 y11 y27 y34 y35 y36 y37 y61 y95 z0 z1 : AV, trim [(36, z1), (112, z0), (0, y0), (1, y1), (2, y2), (4, y4), (5, y5), (6, y6), (7, y7), (8, y8), (9, y9), (10, y10), (11, y11), (27, y27), (34, y34), (35, y35), (36, y36), (37, y37), (61, y61), (95, y95)] [(0, y0), (1, y1), (2, y2), (4, y4), (5, y5), (6, y6), (7, y7), (8, y8), (9, y9), (10, y10), (11, y11), (27, y27), (34, y34), (35, y35), (36, y36), (37, y37), (61, y61), (95, y95)] = [(0, y0), (1, y1), (2, y2), (4, y4), (5, y5), (6, y6), (7, y7), (8, y8), (9, y9), (10, y10), (11, y11), (27, y27), (34, y34), (35, y35), (36, z1), (37, y37), (61, y61), (95, y95)] := fun y0 y1 y2 y4 y5 y6 y7 y8 y9 y10 y11 y27 y34 y35 y36 y37 y61 y95 z0 z1 => rfl
          refine R_nil (tr _ _ _ _ _ _ _ _ _ _ _ _ _ _ _ _ _ _ _ _) ?_; clear tr
          refine then_n ?_
          exact ⟨_, _, ⟨u + 1, st2, bq2, o2, Q2, st2.q.length, _, _, _, _, _, rfl, rfl, by exact q0, by exact qf, by exact qs, by first | exact qy | (rw [show -(u : Int) - 1 = 0 - (u : Int) - 1 by omega]; exact qy), by exact qq, by first | exact hbq2 | omega, by first | exact hoq2 | (simp only [pushS, List.length_append, List.length_drop, List.length_cons, List.length_nil]; omega), by first | exact hqd2 | simp only [pushS, List.drop_zero, hqd2], by omega, by (rw [scanN, ← hs2]; unfold stepE; first | (rw [if_pos (by omega), if_pos ⟨by assumption, by omega⟩]) | (rw [if_neg (by omega), if_pos (by omega), if_pos ⟨by assumption, by omega⟩]) | (rw [if_pos (by omega), if_neg (by intro hh; simp_all; done)]) | (rw [if_pos (by omega), if_neg (by intro hh; omega)]) | (rw [if_neg (by omega), if_pos (by omega), if_neg (by intro hh; simp_all; done)]) | (rw [if_neg (by omega), if_pos (by omega), if_neg (by intro hh; omega)]) | (rw [if_neg (by omega), if_neg (by omega)])), by first | rfl | simp [pushS]⟩, by rfl, by omega⟩
    · try simp only [decide_eq_true_eq, decide_eq_false_iff_not, Bool.not_eq_true', Bool.not_eq_false', beq_iff_eq, beq_eq_false_iff_ne, ne_eq] at h2
      refine at_exit rfl ?_
      refine then_x ?_
      refine then_x ?_
      refine blk_x ?_
      refine blk_n ?_
      refine then_n ?_
      exact ⟨_, _, ⟨k', st2, bq2, o2, Q2, st2.q.length, _, _, _, _, _, _, _, _, _, _, rfl, rfl, by exact q0, by exact qf, by exact qs, by exact qy, by exact qq, by exact hbq2, by exact hoq2, by exact hqd2, by exact sk.1, by rw [sk.2]; exact hmk2, by rw [hs2, show u = E.length by omega]; exact hbf2, by omega, by rfl⟩, by rfl, by omega⟩
  · try simp only [decide_eq_true_eq, decide_eq_false_iff_not, Bool.not_eq_true', Bool.not_eq_false', beq_iff_eq, beq_eq_false_iff_ne, ne_eq] at h1
    refine at_exit rfl ?_
    refine then_x ?_
    refine then_x ?_
    refine blk_x ?_
    refine then_n ?_
    refine at_seq rfl ?_
    refine rg rfl ?_
    refine Rq ?_
    refine Rq ?_
    refine Rq ?_
    refine Rq ?_
    have tr : ∀ y0 y1 y2 y4 y5 y6 y7 y8 y9 y10 y11 y27 y34 y35 y36 y37 y61 y95 z0 z1 z2 z3 : AV, trim [(5, z3), (4, z2), (114, z1), (113, z0), (0, y0), (1, y1), (2, y2), (4, y4), (5, y5), (6, y6), (7, y7), (8, y8), (9, y9), (10, y10), (11, y11), (27, y27), (34, y34), (35, y35), (36, y36), (37, y37), (61, y61), (95, y95)] [(0, y0), (1, y1), (2, y2), (4, y4), (5, y5), (6, y6), (7, y7), (8, y8), (9, y9), (10, y10), (11, y11), (27, y27), (34, y34), (35, y35), (36, y36), (37, y37), (61, y61), (95, y95)] = [(0, y0), (1, y1), (2, y2), (4, z2), (5, z3), (6, y6), (7, y7), (8, y8), (9, y9), (10, y10), (11, y11), (27, y27), (34, y34), (35, y35), (36, y36), (37, y37), (61, y61), (95, y95)] := fun y0 y1 y2 y4 y5 y6 y7 y8 y9 y10 y11 y27 y34 y35 y36 y37 y61 y95 z0 z1 z2 z3 => rfl
    refine R_nil (tr _ _ _ _ _ _ _ _ _ _ _ _ _ _ _ _ _ _ _ _ _ _) ?_; clear tr
    refine then_n ?_
    refine at_ret rfl ?_
    have he := bfs_end (E := E) (f := f) (st := st) (by omega) mm
    rw [he] at hbf
    refine fpure ?_
    refine ⟨?_, rfl⟩
    rw [← hbf]
    exact congrArg AV.tup (by rw [frz_ownB (l := st.seen) (by omega) qs (by omega), frz_ownI (l := st.way) (by omega) qy (by omega)])

end Go.Proofs.Ytdicnojnkbmdlaa
