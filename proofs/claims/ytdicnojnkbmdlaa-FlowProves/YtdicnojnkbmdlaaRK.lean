/-
  Walks of chapters 52 and 53. The steps are written by program (walk.py).
-/
import Derived.Test.YtdicnojnkbmdlaaRG
import Derived.Test.YtdicnojnkbmdlaaRA
import Derived.Test.YtdicnojnkbmdlaaQE
set_option linter.unusedSimpArgs false
set_option linter.unusedVariables false
set_option maxHeartbeats 40000000
set_option maxRecDepth 4000
namespace Go.Proofs.Ytdicnojnkbmdlaa
open Go Go.Am

theorem max_ok (lim : Nat) (H : Heap) (n s t : Int) (E : List Ed) :
    ACall sig lim 14 [.agg (graphC n s t E)] H fun r H' => r = .tup [maxA n s t E, maxB n s t E, AV.i (gchkS n s t E)] ∧ H' = H := by
  have q0 : True := trivial
  have qf : True := trivial
  have qw : True := trivial
  have qa : True := trivial
  have hc : True := trivial
  have hdi : True := trivial
  refine ACall_pure (fa := fa14) rfl rfl rfl rfl ?_
  have tr : ∀ a0 : AV, env0 fa14.keep [a0] = [(0, a0), (1, .any), (2, .any), (3, .any), (4, .any), (5, .any), (6, .any), (7, .any), (8, .any), (9, .any), (10, .any), (11, .any), (12, .any), (14, .any), (18, .any), (35, .any), (43, .any), (59, .any), (74, .any), (75, .any), (76, .any), (77, .any), (81, .any)] := fun a0 => rfl
  refine W_to (tr _) ?_; clear tr
  refine at_seq rfl ?_
  refine rg rfl ?_
  refine A_box rfl (by simp (disch := first | omega | (simp only [List.length_map, List.length_append, List.length_set, List.length_cons, List.length_nil, List.length_take, List.length_drop]; omega)) only [go_sem, ↓reduceIte, Nat.reduceEqDiff, reduceCtorEq]; rfl) ?_
  intro H1 n0
  have en0 := n0.len
  have q0 := n0.new
  refine Rq ?_
  refine Rq ?_
  refine Rq ?_
  have tr : ∀ y0 y1 y2 y3 y4 y5 y6 y7 y8 y9 y10 y11 y12 y14 y18 y35 y43 y59 y74 y75 y76 y77 y81 z0 z1 z2 z3 : AV, trim [(4, z3), (3, z2), (2, z1), (1, z0), (0, y0), (1, y1), (2, y2), (3, y3), (4, y4), (5, y5), (6, y6), (7, y7), (8, y8), (9, y9), (10, y10), (11, y11), (12, y12), (14, y14), (18, y18), (35, y35), (43, y43), (59, y59), (74, y74), (75, y75), (76, y76), (77, y77), (81, y81)] [(0, y0), (1, y1), (2, y2), (3, y3), (4, y4), (5, y5), (6, y6), (7, y7), (8, y8), (9, y9), (10, y10), (11, y11), (12, y12), (14, y14), (18, y18), (35, y35), (43, y43), (59, y59), (74, y74), (75, y75), (76, y76), (77, y77), (81, y81)] = [(0, y0), (1, z0), (2, z1), (3, z2), (4, z3), (5, y5), (6, y6), (7, y7), (8, y8), (9, y9), (10, y10), (11, y11), (12, y12), (14, y14), (18, y18), (35, y35), (43, y43), (59, y59), (74, y74), (75, y75), (76, y76), (77, y77), (81, y81)] := fun y0 y1 y2 y3 y4 y5 y6 y7 y8 y9 y10 y11 y12 y14 y18 y35 y43 y59 y74 y75 y76 y77 y81 z0 z1 z2 z3 => rfl
  refine R_nil (tr _ _ _ _ _ _ _ _ _ _ _ _ _ _ _ _ _ _ _ _ _ _ _ _ _ _ _) ?_; clear tr
  refine then_n ?_
  refine at_seq rfl ?_
  refine at_seq rfl ?_
  refine rg rfl ?_
  refine R_q rfl (by simp (disch := first | omega | (simp only [List.length_map, List.length_append, List.length_set, List.length_cons, List.length_nil, List.length_take, List.length_drop]; omega)) only [go_sem, ↓reduceIte, Nat.reduceEqDiff, reduceCtorEq, q0, qf, qw, qa, hc, hdi]; rfl) ?_
  refine Rcall ?_
  refine ACall_eq (check_ok _ _ n s t E) ?_
  refine Rq ?_
  have tr : ∀ y0 y1 y2 y3 y4 y5 y6 y7 y8 y9 y10 y11 y12 y14 y18 y35 y43 y59 y74 y75 y76 y77 y81 z0 z1 z2 : AV, trim [(5, z2), (16, z1), (15, z0), (0, y0), (1, y1), (2, y2), (3, y3), (4, y4), (5, y5), (6, y6), (7, y7), (8, y8), (9, y9), (10, y10), (11, y11), (12, y12), (14, y14), (18, y18), (35, y35), (43, y43), (59, y59), (74, y74), (75, y75), (76, y76), (77, y77), (81, y81)] [(0, y0), (1, y1), (2, y2), (3, y3), (4, y4), (5, y5), (6, y6), (7, y7), (8, y8), (9, y9), (10, y10), (11, y11), (12, y12), (14, y14), (18, y18), (35, y35), (43, y43), (59, y59), (74, y74), (75, y75), (76, y76), (77, y77), (81, y81)] = [(0, y0), (1, y1), (2, y2), (3, y3), (4, y4), (5, z2), (6, y6), (7, y7), (8, y8), (9, y9), (10, y10), (11, y11), (12, y12), (14, y14), (18, y18), (35, y35), (43, y43), (59, y59), (74, y74), (75, y75), (76, y76), (77, y77), (81, y81)] := fun y0 y1 y2 y3 y4 y5 y6 y7 y8 y9 y10 y11 y12 y14 y18 y35 y43 y59 y74 y75 y76 y77 y81 z0 z1 z2 => rfl
  refine R_nil (tr _ _ _ _ _ _ _ _ _ _ _ _ _ _ _ _ _ _ _ _ _ _ _ _ _ _) ?_; clear tr
  refine then_n ?_
  refine at_seq rfl ?_
  refine rg rfl ?_
  refine Rq ?_
  refine Rq ?_
  have tr : ∀ y0 y1 y2 y3 y4 y5 y6 y7 y8 y9 y10 y11 y12 y14 y18 y35 y43 y59 y74 y75 y76 y77 y81 z0 z1 : AV, trim [(18, z1), (17, z0), (0, y0), (1, y1), (2, y2), (3, y3), (4, y4), (5, y5), (6, y6), (7, y7), (8, y8), (9, y9), (10, y10), (11, y11), (12, y12), (14, y14), (18, y18), (35, y35), (43, y43), (59, y59), (74, y74), (75, y75), (76, y76), (77, y77), (81, y81)] [(0, y0), (1, y1), (2, y2), (3, y3), (4, y4), (5, y5), (6, y6), (7, y7), (8, y8), (9, y9), (10, y10), (11, y11), (12, y12), (14, y14), (18, y18), (35, y35), (43, y43), (59, y59), (74, y74), (75, y75), (76, y76), (77, y77), (81, y81)] = [(0, y0), (1, y1), (2, y2), (3, y3), (4, y4), (5, y5), (6, y6), (7, y7), (8, y8), (9, y9), (10, y10), (11, y11), (12, y12), (14, y14), (18, z1), (35, y35), (43, y43), (59, y59), (74, y74), (75, y75), (76, y76), (77, y77), (81, y81)] := fun y0 y1 y2 y3 y4 y5 y6 y7 y8 y9 y10 y11 y12 y14 y18 y35 y43 y59 y74 y75 y76 y77 y81 z0 z1 => rfl
  refine R_nil (tr _ _ _ _ _ _ _ _ _ _ _ _ _ _ _ _ _ _ _ _ _ _ _ _ _) ?_; clear tr
  refine then_n ?_
  refine cdd (fun h1 => ?_) (fun h1 => ?_)
  · try simp only [decide_eq_true_eq, decide_eq_false_iff_not, Bool.not_eq_true', Bool.not_eq_false', beq_iff_eq, beq_eq_false_iff_ne, ne_eq] at h1
    refine at_seq rfl ?_
    refine rg rfl ?_
    refine Rq ?_
    refine Rq ?_
    refine Rq ?_
    refine Rq ?_
    have tr : ∀ y0 y1 y2 y3 y4 y5 y6 y7 y8 y9 y10 y11 y12 y14 y18 y35 y43 y59 y74 y75 y76 y77 y81 z0 z1 z2 z3 : AV, trim [(4, z3), (3, z2), (2, z1), (19, z0), (0, y0), (1, y1), (2, y2), (3, y3), (4, y4), (5, y5), (6, y6), (7, y7), (8, y8), (9, y9), (10, y10), (11, y11), (12, y12), (14, y14), (18, y18), (35, y35), (43, y43), (59, y59), (74, y74), (75, y75), (76, y76), (77, y77), (81, y81)] [(0, y0), (1, y1), (2, y2), (3, y3), (4, y4), (5, y5), (6, y6), (7, y7), (8, y8), (9, y9), (10, y10), (11, y11), (12, y12), (14, y14), (18, y18), (35, y35), (43, y43), (59, y59), (74, y74), (75, y75), (76, y76), (77, y77), (81, y81)] = [(0, y0), (1, y1), (2, z1), (3, z2), (4, z3), (5, y5), (6, y6), (7, y7), (8, y8), (9, y9), (10, y10), (11, y11), (12, y12), (14, y14), (18, y18), (35, y35), (43, y43), (59, y59), (74, y74), (75, y75), (76, y76), (77, y77), (81, y81)] := fun y0 y1 y2 y3 y4 y5 y6 y7 y8 y9 y10 y11 y12 y14 y18 y35 y43 y59 y74 y75 y76 y77 y81 z0 z1 z2 z3 => rfl
    refine R_nil (tr _ _ _ _ _ _ _ _ _ _ _ _ _ _ _ _ _ _ _ _ _ _ _ _ _ _ _) ?_; clear tr
    refine then_n ?_
    refine at_ret rfl ?_
    refine then_r ?_
    refine fpure ?_
    refine ⟨?_, rfl⟩
    rw [maxA_err (by assumption), maxB_err (by assumption)]
  · try simp only [decide_eq_true_eq, decide_eq_false_iff_not, Bool.not_eq_true', Bool.not_eq_false', beq_iff_eq, beq_eq_false_iff_ne, ne_eq] at h1
    refine at_skip rfl ?_
    refine then_n ?_
    refine at_seq rfl ?_
    refine rg rfl ?_
    have g := gok_of (by assumption : gchkS n s t E = 0)
    have hg0 : gchkS n s t E = 0 := by assumption
    obtain ⟨g1, g2, g3, g4, g5, g6, g7, g8, ge⟩ := id g
    refine Rq ?_
    refine R_q rfl (by simp (disch := first | omega | (simp only [List.length_map, List.length_append, List.length_set, List.length_cons, List.length_nil, List.length_take, List.length_drop]; omega)) only [go_sem, ↓reduceIte, Nat.reduceEqDiff, reduceCtorEq, q0, qf, qw, qa, hc, hdi]; rfl) ?_
    refine Rq ?_
    refine A_makeSlice (ms27n _ _ E.length _ _ _ (by omega) (by simp (disch := first | omega | (simp only [List.length_map, List.length_append, List.length_set, List.length_cons, List.length_nil, List.length_take, List.length_drop]; omega)) only [go_sem, ↓reduceIte, Nat.reduceEqDiff, reduceCtorEq, q0]) (by simp (disch := first | omega | (simp only [List.length_map, List.length_append, List.length_set, List.length_cons, List.length_nil, List.length_take, List.length_drop]; omega)) only [go_sem, ↓reduceIte, Nat.reduceEqDiff, reduceCtorEq, q0])) ?_
    intro H2 n1
    have en1 := n1.len
    have q0 := (n1.old _ (hget_lt q0)).trans q0
    have qf := n1.new
    refine Rq ?_
    have tr : ∀ y0 y1 y2 y3 y4 y5 y6 y7 y8 y9 y10 y11 y12 y14 y18 y35 y43 y59 y74 y75 y76 y77 y81 z0 z1 z2 z3 z4 : AV, trim [(6, z4), (23, z3), (22, z2), (21, z1), (20, z0), (0, y0), (1, y1), (2, y2), (3, y3), (4, y4), (5, y5), (6, y6), (7, y7), (8, y8), (9, y9), (10, y10), (11, y11), (12, y12), (14, y14), (18, y18), (35, y35), (43, y43), (59, y59), (74, y74), (75, y75), (76, y76), (77, y77), (81, y81)] [(0, y0), (1, y1), (2, y2), (3, y3), (4, y4), (5, y5), (6, y6), (7, y7), (8, y8), (9, y9), (10, y10), (11, y11), (12, y12), (14, y14), (18, y18), (35, y35), (43, y43), (59, y59), (74, y74), (75, y75), (76, y76), (77, y77), (81, y81)] = [(0, y0), (1, y1), (2, y2), (3, y3), (4, y4), (5, y5), (6, z4), (7, y7), (8, y8), (9, y9), (10, y10), (11, y11), (12, y12), (14, y14), (18, y18), (35, y35), (43, y43), (59, y59), (74, y74), (75, y75), (76, y76), (77, y77), (81, y81)] := fun y0 y1 y2 y3 y4 y5 y6 y7 y8 y9 y10 y11 y12 y14 y18 y35 y43 y59 y74 y75 y76 y77 y81 z0 z1 z2 z3 z4 => rfl
    refine R_nil (tr _ _ _ _ _ _ _ _ _ _ _ _ _ _ _ _ _ _ _ _ _ _ _ _ _ _ _ _) ?_; clear tr
    refine then_n ?_
    refine at_block rfl ?_
    refine loop_n rfl (fun mm kv H' => ∃ f : List Int, ∃ x2 x3 x4 x7 x8 x9 x10 x11 x12 x14 x35 x43 x59 x74 x75 x76 x77 x81 : AV, (kv = [(2, x2), (3, x3), (4, x4), (7, x7), (8, x8), (9, x9), (10, x10), (11, x11), (12, x12), (14, x14), (35, x35), (43, x43), (59, x59), (74, x74), (75, x75), (76, x76), (77, x77), (81, x81)]) ∧ (mm = (644245094400 - exc E f s E.length).toNat) ∧ (hget H' H.length = some (graphC n s t E)) ∧ (hget H' H1.length = some (f.map AV.i)) ∧ (FlowOK n s t E f) ∧ (∀ a, Runs n s t E f a → Runs n s t E (List.replicate E.length 0) a) ∧ (H2.length ≤ H'.length)) ⟨(List.replicate E.length 0), _, _, _, _, _, _, _, _, _, _, _, _, _, _, _, _, _, _, rfl, rfl, by exact q0, by exact qf, by exact zero_ok g, by exact fun a h => h, by exact Nat.le_refl _⟩ (by rfl) ?_
    rintro mm kv HA ⟨f, x2, x3, x4, x7, x8, x9, x10, x11, x12, x14, x35, x43, x59, x74, x75, x76, x77, x81, rfl, rfl, q0, qf, F, hR, hHA⟩
    have tr : ∀ y0 y1 y2 y3 y4 y5 y6 y7 y8 y9 y10 y11 y12 y14 y18 y35 y43 y59 y74 y75 y76 y77 y81 z2 z3 z4 z7 z8 z9 z10 z11 z12 z14 z35 z43 z59 z74 z75 z76 z77 z81 : AV, upd [(0, y0), (1, y1), (2, y2), (3, y3), (4, y4), (5, y5), (6, y6), (7, y7), (8, y8), (9, y9), (10, y10), (11, y11), (12, y12), (14, y14), (18, y18), (35, y35), (43, y43), (59, y59), (74, y74), (75, y75), (76, y76), (77, y77), (81, y81)] [(2, z2), (3, z3), (4, z4), (7, z7), (8, z8), (9, z9), (10, z10), (11, z11), (12, z12), (14, z14), (35, z35), (43, z43), (59, z59), (74, z74), (75, z75), (76, z76), (77, z77), (81, z81)] = [(0, y0), (1, y1), (2, z2), (3, z3), (4, z4), (5, y5), (6, y6), (7, z7), (8, z8), (9, z9), (10, z10), (11, z11), (12, z12), (14, z14), (18, y18), (35, z35), (43, z43), (59, z59), (74, z74), (75, z75), (76, z76), (77, z77), (81, z81)] := fun y0 y1 y2 y3 y4 y5 y6 y7 y8 y9 y10 y11 y12 y14 y18 y35 y43 y59 y74 y75 y76 y77 y81 z2 z3 z4 z7 z8 z9 z10 z11 z12 z14 z35 z43 z59 z74 z75 z76 z77 z81 => rfl
    refine W_to (tr _ _ _ _ _ _ _ _ _ _ _ _ _ _ _ _ _ _ _ _ _ _ _ _ _ _ _ _ _ _ _ _ _ _ _ _ _ _ _ _ _) ?_; clear tr
    refine at_block rfl ?_
    refine at_seq rfl ?_
    refine rg rfl ?_
    refine R_q rfl (by simp (disch := first | omega | (simp only [List.length_map, List.length_append, List.length_set, List.length_cons, List.length_nil, List.length_take, List.length_drop]; omega)) only [go_sem, ↓reduceIte, Nat.reduceEqDiff, reduceCtorEq, q0, qf, qw, qa, hc, hdi]; rfl) ?_
    refine Rq ?_
    refine Rcall ?_
    refine ACall_eq (reach_ok _ _ n s t E f H1.length E.length F.len.symm qf g F.len F.rng) ?_
    refine Rq ?_
    refine Rq ?_
    refine Rq ?_
    refine Rq ?_
    refine Rq ?_
    have tr : ∀ y0 y1 y2 y3 y4 y5 y6 y7 y8 y9 y10 y11 y12 y14 y18 y35 y43 y59 y74 y75 y76 y77 y81 z0 z1 z2 z3 z4 z5 z6 z7 : AV, trim [(8, z7), (7, z6), (29, z5), (28, z4), (24, z3), (27, z2), (26, z1), (25, z0), (0, y0), (1, y1), (2, y2), (3, y3), (4, y4), (5, y5), (6, y6), (7, y7), (8, y8), (9, y9), (10, y10), (11, y11), (12, y12), (14, y14), (18, y18), (35, y35), (43, y43), (59, y59), (74, y74), (75, y75), (76, y76), (77, y77), (81, y81)] [(0, y0), (1, y1), (2, y2), (3, y3), (4, y4), (5, y5), (6, y6), (7, y7), (8, y8), (9, y9), (10, y10), (11, y11), (12, y12), (14, y14), (18, y18), (35, y35), (43, y43), (59, y59), (74, y74), (75, y75), (76, y76), (77, y77), (81, y81)] = [(0, y0), (1, y1), (2, y2), (3, y3), (4, y4), (5, y5), (6, y6), (7, z6), (8, z7), (9, y9), (10, y10), (11, y11), (12, y12), (14, y14), (18, y18), (35, y35), (43, y43), (59, y59), (74, y74), (75, y75), (76, y76), (77, y77), (81, y81)] := fun y0 y1 y2 y3 y4 y5 y6 y7 y8 y9 y10 y11 y12 y14 y18 y35 y43 y59 y74 y75 y76 y77 y81 z0 z1 z2 z3 z4 z5 z6 z7 => rfl
    refine R_nil (tr _ _ _ _ _ _ _ _ _ _ _ _ _ _ _ _ _ _ _ _ _ _ _ _ _ _ _ _ _ _ _) ?_; clear tr
    refine then_n ?_
    refine at_seq rfl ?_
    refine at_seq rfl ?_
    refine rg rfl ?_
    obtain ⟨ord, so, RI, _⟩ := reach_inv f g
    have sos := so.seen
    have sow := so.way
    have lq0 := hget_lt q0
    have lqf := hget_lt qf
    refine Rq ?_
    refine Rq ?_
    refine R_q rfl (by simp (disch := first | omega | (simp only [List.length_map, List.length_append, List.length_set, List.length_cons, List.length_nil, List.length_take, List.length_drop]; omega)) only [go_sem, ↓reduceIte, Nat.reduceEqDiff, reduceCtorEq, q0, qf, qw, qa, hc, hdi]; rfl) ?_
    refine Rq ?_
    refine R_q rfl (by simp (disch := first | omega | (simp only [List.length_map, List.length_append, List.length_set, List.length_cons, List.length_nil, List.length_take, List.length_drop]; omega)) only [go_sem, ↓reduceIte, Nat.reduceEqDiff, reduceCtorEq, q0, qf, qw, qa, hc, hdi]; rfl) ?_
    refine Rq ?_
    have tr : ∀ y0 y1 y2 y3 y4 y5 y6 y7 y8 y9 y10 y11 y12 y14 y18 y35 y43 y59 y74 y75 y76 y77 y81 z0 z1 z2 z3 z4 z5 : AV, trim [(35, z5), (34, z4), (33, z3), (32, z2), (31, z1), (30, z0), (0, y0), (1, y1), (2, y2), (3, y3), (4, y4), (5, y5), (6, y6), (7, y7), (8, y8), (9, y9), (10, y10), (11, y11), (12, y12), (14, y14), (18, y18), (35, y35), (43, y43), (59, y59), (74, y74), (75, y75), (76, y76), (77, y77), (81, y81)] [(0, y0), (1, y1), (2, y2), (3, y3), (4, y4), (5, y5), (6, y6), (7, y7), (8, y8), (9, y9), (10, y10), (11, y11), (12, y12), (14, y14), (18, y18), (35, y35), (43, y43), (59, y59), (74, y74), (75, y75), (76, y76), (77, y77), (81, y81)] = [(0, y0), (1, y1), (2, y2), (3, y3), (4, y4), (5, y5), (6, y6), (7, y7), (8, y8), (9, y9), (10, y10), (11, y11), (12, y12), (14, y14), (18, y18), (35, z5), (43, y43), (59, y59), (74, y74), (75, y75), (76, y76), (77, y77), (81, y81)] := fun y0 y1 y2 y3 y4 y5 y6 y7 y8 y9 y10 y11 y12 y14 y18 y35 y43 y59 y74 y75 y76 y77 y81 z0 z1 z2 z3 z4 z5 => rfl
    refine R_nil (tr _ _ _ _ _ _ _ _ _ _ _ _ _ _ _ _ _ _ _ _ _ _ _ _ _ _ _ _ _) ?_; clear tr
    refine then_n ?_
    refine cdd (fun h2 => ?_) (fun h2 => ?_)
    · try simp only [decide_eq_true_eq, decide_eq_false_iff_not, Bool.not_eq_true', Bool.not_eq_false', beq_iff_eq, beq_eq_false_iff_ne, ne_eq] at h2
      refine at_seq rfl ?_
      refine rg rfl ?_
      refine Rq ?_
      refine Rq ?_
      refine Rq ?_
      refine Rq ?_
      refine Rq ?_
      have tr : ∀ y0 y1 y2 y3 y4 y5 y6 y7 y8 y9 y10 y11 y12 y14 y18 y35 y43 y59 y74 y75 y76 y77 y81 z0 z1 z2 z3 z4 : AV, trim [(4, z4), (3, z3), (2, z2), (37, z1), (36, z0), (0, y0), (1, y1), (2, y2), (3, y3), (4, y4), (5, y5), (6, y6), (7, y7), (8, y8), (9, y9), (10, y10), (11, y11), (12, y12), (14, y14), (18, y18), (35, y35), (43, y43), (59, y59), (74, y74), (75, y75), (76, y76), (77, y77), (81, y81)] [(0, y0), (1, y1), (2, y2), (3, y3), (4, y4), (5, y5), (6, y6), (7, y7), (8, y8), (9, y9), (10, y10), (11, y11), (12, y12), (14, y14), (18, y18), (35, y35), (43, y43), (59, y59), (74, y74), (75, y75), (76, y76), (77, y77), (81, y81)] = [(0, y0), (1, y1), (2, z2), (3, z3), (4, z4), (5, y5), (6, y6), (7, y7), (8, y8), (9, y9), (10, y10), (11, y11), (12, y12), (14, y14), (18, y18), (35, y35), (43, y43), (59, y59), (74, y74), (75, y75), (76, y76), (77, y77), (81, y81)] := fun y0 y1 y2 y3 y4 y5 y6 y7 y8 y9 y10 y11 y12 y14 y18 y35 y43 y59 y74 y75 y76 y77 y81 z0 z1 z2 z3 z4 => rfl
      refine R_nil (tr _ _ _ _ _ _ _ _ _ _ _ _ _ _ _ _ _ _ _ _ _ _ _ _ _ _ _ _) ?_; clear tr
      refine then_n ?_
      refine at_ret rfl ?_
      refine then_r ?_
      refine blk_r ?_
      refine then_r ?_
      refine blk_r ?_
      have hst : gt (reachS n s E f).seen t.toNat = false := by assumption
      have hru := hR f (.stop f hst)
      refine fpure ?_
      refine ⟨?_, rfl⟩
      rw [maxA_ok hg0 hru, maxB_ok hg0 hru, hg0]
      exact congrArg AV.tup (by rw [frz_ownI (l := f) (by omega) qf F.len.symm, frz_bools])
    · try simp only [decide_eq_true_eq, decide_eq_false_iff_not, Bool.not_eq_true', Bool.not_eq_false', beq_iff_eq, beq_eq_false_iff_ne, ne_eq] at h2
      refine at_skip rfl ?_
      refine then_n ?_
      refine at_seq rfl ?_
      refine rg rfl ?_
      have hst : gt (reachS n s E f).seen t.toNat = true := by assumption
      obtain ⟨m, T, WO⟩ := tree_sink g hst
      have AO := aug_ok g F T WO
      have AO2 := AO.2
      have x0 := exc_rng (fRng_cap g AO.1.rng) s E.length (Nat.le_refl _)
      have hml := way_short g hst T
      refine Rq ?_
      have tr : ∀ y0 y1 y2 y3 y4 y5 y6 y7 y8 y9 y10 y11 y12 y14 y18 y35 y43 y59 y74 y75 y76 y77 y81 z0 : AV, trim [(9, z0), (0, y0), (1, y1), (2, y2), (3, y3), (4, y4), (5, y5), (6, y6), (7, y7), (8, y8), (9, y9), (10, y10), (11, y11), (12, y12), (14, y14), (18, y18), (35, y35), (43, y43), (59, y59), (74, y74), (75, y75), (76, y76), (77, y77), (81, y81)] [(0, y0), (1, y1), (2, y2), (3, y3), (4, y4), (5, y5), (6, y6), (7, y7), (8, y8), (9, y9), (10, y10), (11, y11), (12, y12), (14, y14), (18, y18), (35, y35), (43, y43), (59, y59), (74, y74), (75, y75), (76, y76), (77, y77), (81, y81)] = [(0, y0), (1, y1), (2, y2), (3, y3), (4, y4), (5, y5), (6, y6), (7, y7), (8, y8), (9, z0), (10, y10), (11, y11), (12, y12), (14, y14), (18, y18), (35, y35), (43, y43), (59, y59), (74, y74), (75, y75), (76, y76), (77, y77), (81, y81)] := fun y0 y1 y2 y3 y4 y5 y6 y7 y8 y9 y10 y11 y12 y14 y18 y35 y43 y59 y74 y75 y76 y77 y81 z0 => rfl
      refine R_nil (tr _ _ _ _ _ _ _ _ _ _ _ _ _ _ _ _ _ _ _ _ _ _ _ _) ?_; clear tr
      refine then_n ?_
      refine at_seq rfl ?_
      refine rg rfl ?_
      refine Rq ?_
      have tr : ∀ y0 y1 y2 y3 y4 y5 y6 y7 y8 y9 y10 y11 y12 y14 y18 y35 y43 y59 y74 y75 y76 y77 y81 z0 : AV, trim [(10, z0), (0, y0), (1, y1), (2, y2), (3, y3), (4, y4), (5, y5), (6, y6), (7, y7), (8, y8), (9, y9), (10, y10), (11, y11), (12, y12), (14, y14), (18, y18), (35, y35), (43, y43), (59, y59), (74, y74), (75, y75), (76, y76), (77, y77), (81, y81)] [(0, y0), (1, y1), (2, y2), (3, y3), (4, y4), (5, y5), (6, y6), (7, y7), (8, y8), (9, y9), (10, y10), (11, y11), (12, y12), (14, y14), (18, y18), (35, y35), (43, y43), (59, y59), (74, y74), (75, y75), (76, y76), (77, y77), (81, y81)] = [(0, y0), (1, y1), (2, y2), (3, y3), (4, y4), (5, y5), (6, y6), (7, y7), (8, y8), (9, y9), (10, z0), (11, y11), (12, y12), (14, y14), (18, y18), (35, y35), (43, y43), (59, y59), (74, y74), (75, y75), (76, y76), (77, y77), (81, y81)] := fun y0 y1 y2 y3 y4 y5 y6 y7 y8 y9 y10 y11 y12 y14 y18 y35 y43 y59 y74 y75 y76 y77 y81 z0 => rfl
      refine R_nil (tr _ _ _ _ _ _ _ _ _ _ _ _ _ _ _ _ _ _ _ _ _ _ _ _) ?_; clear tr
      refine then_n ?_
      refine at_seq rfl ?_
      refine at_seq rfl ?_
      refine rg rfl ?_
      refine Rq ?_
      refine R_q rfl (by simp (disch := first | omega | (simp only [List.length_map, List.length_append, List.length_set, List.length_cons, List.length_nil, List.length_take, List.length_drop]; omega)) only [go_sem, ↓reduceIte, Nat.reduceEqDiff, reduceCtorEq, q0, qf, qw, qa, hc, hdi]; rfl) ?_
      refine Rq ?_
      have tr : ∀ y0 y1 y2 y3 y4 y5 y6 y7 y8 y9 y10 y11 y12 y14 y18 y35 y43 y59 y74 y75 y76 y77 y81 z0 z1 z2 : AV, trim [(11, z2), (39, z1), (38, z0), (0, y0), (1, y1), (2, y2), (3, y3), (4, y4), (5, y5), (6, y6), (7, y7), (8, y8), (9, y9), (10, y10), (11, y11), (12, y12), (14, y14), (18, y18), (35, y35), (43, y43), (59, y59), (74, y74), (75, y75), (76, y76), (77, y77), (81, y81)] [(0, y0), (1, y1), (2, y2), (3, y3), (4, y4), (5, y5), (6, y6), (7, y7), (8, y8), (9, y9), (10, y10), (11, y11), (12, y12), (14, y14), (18, y18), (35, y35), (43, y43), (59, y59), (74, y74), (75, y75), (76, y76), (77, y77), (81, y81)] = [(0, y0), (1, y1), (2, y2), (3, y3), (4, y4), (5, y5), (6, y6), (7, y7), (8, y8), (9, y9), (10, y10), (11, z2), (12, y12), (14, y14), (18, y18), (35, y35), (43, y43), (59, y59), (74, y74), (75, y75), (76, y76), (77, y77), (81, y81)] := fun y0 y1 y2 y3 y4 y5 y6 y7 y8 y9 y10 y11 y12 y14 y18 y35 y43 y59 y74 y75 y76 y77 y81 z0 z1 z2 => rfl
      refine R_nil (tr _ _ _ _ _ _ _ _ _ _ _ _ _ _ _ _ _ _ _ _ _ _ _ _ _ _) ?_; clear tr
      refine then_n ?_
      refine at_block rfl ?_
      refine loop_n rfl (fun mm kv H' => ∃ k : Nat, ∃ v : Int, ∃ la : Int, ∃ w : List Int, ∃ o : AV, ∃ x12 x43 x59 : AV, (kv = [(9, o), (10, AV.i la), (11, AV.i v), (12, x12), (43, x43), (59, x59)]) ∧ (mm = k) ∧ (hget H' H.length = some (graphC n s t E)) ∧ (hget H' H1.length = some (f.map AV.i)) ∧ (OutA H2.length H' o w) ∧ (TreeN n s E f (reachS n s E f).way k v) ∧ (w ++ wayN E (reachS n s E f).way k v = wayN E (reachS n s E f).way m t) ∧ (la = leastW E f 1073741824 w) ∧ (0 < la) ∧ (la ≤ 1073741824) ∧ (H2.length ≤ H'.length)) ⟨m, t, 1073741824, [], _, _, _, _, rfl, rfl, by exact q0, by exact qf, by exact .inl ⟨rfl, rfl⟩, by exact T, by rfl, by rfl, by omega, by omega, by exact hHA⟩ (by rfl) ?_
      rintro mm kv HB ⟨k, v, la, w, o, x12, x43, x59, rfl, rfl, q0, qf, hO, T1, hW, hla, hl0, hl1, hHB⟩
      have tr : ∀ y0 y1 y2 y3 y4 y5 y6 y7 y8 y9 y10 y11 y12 y14 y18 y35 y43 y59 y74 y75 y76 y77 y81 z9 z10 z11 z12 z43 z59 : AV, upd [(0, y0), (1, y1), (2, y2), (3, y3), (4, y4), (5, y5), (6, y6), (7, y7), (8, y8), (9, y9), (10, y10), (11, y11), (12, y12), (14, y14), (18, y18), (35, y35), (43, y43), (59, y59), (74, y74), (75, y75), (76, y76), (77, y77), (81, y81)] [(9, z9), (10, z10), (11, z11), (12, z12), (43, z43), (59, z59)] = [(0, y0), (1, y1), (2, y2), (3, y3), (4, y4), (5, y5), (6, y6), (7, y7), (8, y8), (9, z9), (10, z10), (11, z11), (12, z12), (14, y14), (18, y18), (35, y35), (43, z43), (59, z59), (74, y74), (75, y75), (76, y76), (77, y77), (81, y81)] := fun y0 y1 y2 y3 y4 y5 y6 y7 y8 y9 y10 y11 y12 y14 y18 y35 y43 y59 y74 y75 y76 y77 y81 z9 z10 z11 z12 z43 z59 => rfl
      refine W_to (tr _ _ _ _ _ _ _ _ _ _ _ _ _ _ _ _ _ _ _ _ _ _ _ _ _ _ _ _ _) ?_; clear tr
      refine at_seq rfl ?_
      refine at_seq rfl ?_
      refine rg rfl ?_
      refine Rq ?_
      refine Rq ?_
      refine R_q rfl (by simp (disch := first | omega | (simp only [List.length_map, List.length_append, List.length_set, List.length_cons, List.length_nil, List.length_take, List.length_drop]; omega)) only [go_sem, ↓reduceIte, Nat.reduceEqDiff, reduceCtorEq, q0, qf, qw, qa, hc, hdi]; rfl) ?_
      refine Rq ?_
      have tr : ∀ y0 y1 y2 y3 y4 y5 y6 y7 y8 y9 y10 y11 y12 y14 y18 y35 y43 y59 y74 y75 y76 y77 y81 z0 z1 z2 z3 : AV, trim [(43, z3), (42, z2), (41, z1), (40, z0), (0, y0), (1, y1), (2, y2), (3, y3), (4, y4), (5, y5), (6, y6), (7, y7), (8, y8), (9, y9), (10, y10), (11, y11), (12, y12), (14, y14), (18, y18), (35, y35), (43, y43), (59, y59), (74, y74), (75, y75), (76, y76), (77, y77), (81, y81)] [(0, y0), (1, y1), (2, y2), (3, y3), (4, y4), (5, y5), (6, y6), (7, y7), (8, y8), (9, y9), (10, y10), (11, y11), (12, y12), (14, y14), (18, y18), (35, y35), (43, y43), (59, y59), (74, y74), (75, y75), (76, y76), (77, y77), (81, y81)] = [(0, y0), (1, y1), (2, y2), (3, y3), (4, y4), (5, y5), (6, y6), (7, y7), (8, y8), (9, y9), (10, y10), (11, y11), (12, y12), (14, y14), (18, y18), (35, y35), (43, z3), (59, y59), (74, y74), (75, y75), (76, y76), (77, y77), (81, y81)] := fun y0 y1 y2 y3 y4 y5 y6 y7 y8 y9 y10 y11 y12 y14 y18 y35 y43 y59 y74 y75 y76 y77 y81 z0 z1 z2 z3 => rfl
      refine R_nil (tr _ _ _ _ _ _ _ _ _ _ _ _ _ _ _ _ _ _ _ _ _ _ _ _ _ _ _) ?_; clear tr
      refine then_n ?_
      refine cdd (fun h3 => ?_) (fun h3 => ?_)
      · try simp only [decide_eq_true_eq, decide_eq_false_iff_not, Bool.not_eq_true', Bool.not_eq_false', beq_iff_eq, beq_eq_false_iff_ne, ne_eq] at h3
        refine at_skip rfl ?_
        refine then_n ?_
        refine at_block rfl ?_
        refine at_seq rfl ?_
        refine rg rfl ?_
        have hob := fun b hb => hO.lt (b := b) hb
        obtain ⟨k', c, rfl, hc, hv0, hv1, A, T2, hwn⟩ := tree_step T1 (by omega)
        rw [hwn] at hW
        have hnz := A.nz
        have hrp := A.room
        have hix := A.ix
        obtain ⟨hd0, hd1, hdi, hdr⟩ := arc_dec A
        have he := ge _ hix
        have hr := F.rng _ hix
        have hwl : w.length ≤ 600 := by
          have := congrArg List.length hW
          rw [wayN_len, List.length_append] at this
          omega
        refine Rq ?_
        refine Rq ?_
        refine Rq ?_
        refine R_q rfl (by simp (disch := first | omega | (simp only [List.length_map, List.length_append, List.length_set, List.length_cons, List.length_nil, List.length_take, List.length_drop]; omega)) only [go_sem, ↓reduceIte, Nat.reduceEqDiff, reduceCtorEq, q0, qf, qw, qa, hc, hdi]; rfl) ?_
        refine A_alloc rfl ?_
        intro HC n4
        have en4 := n4.len
        have q0 := (n4.old _ (hget_lt q0)).trans q0
        have qf := (n4.old _ (hget_lt qf)).trans qf
        have qa := n4.new
        have lq0 := hget_lt q0
        have lqf := hget_lt qf
        have lqa := hget_lt qa
        refine A_store ty71 (by simp (disch := first | omega | (simp only [List.length_map, List.length_append, List.length_set, List.length_cons, List.length_nil, List.length_take, List.length_drop]; omega)) only [go_sem, ↓reduceIte, Nat.reduceEqDiff, reduceCtorEq, q0, qf, qw, qa, hc, hdi]; rfl) (by simp (disch := first | omega | (simp only [List.length_map, List.length_append, List.length_set, List.length_cons, List.length_nil, List.length_take, List.length_drop]; omega)) only [go_sem, ↓reduceIte, Nat.reduceEqDiff, reduceCtorEq, q0, qf, qw, qa, hc, hdi]; rfl) qa ⟨by omega, rfl, by first | exact Nat.le_refl _ | simp⟩ (show _ = arcC c from rfl) ?_
        intro HD w4
        have ew4 := w4.len
        have q0 := (w4.old _ (by omega)).trans q0
        have qf := (w4.old _ (by omega)).trans qf
        have qa := w4.new
        have hO := hO.mono fun b hb k hk => (w4.old _ (by have := hget_lt hk; omega)).trans ((n4.old _ (hget_lt hk)).trans hk)
        have tr : ∀ y0 y1 y2 y3 y4 y5 y6 y7 y8 y9 y10 y11 y12 y14 y18 y35 y43 y59 y74 y75 y76 y77 y81 z0 z1 z2 z3 z4 : AV, trim [(12, z4), (47, z3), (46, z2), (45, z1), (44, z0), (0, y0), (1, y1), (2, y2), (3, y3), (4, y4), (5, y5), (6, y6), (7, y7), (8, y8), (9, y9), (10, y10), (11, y11), (12, y12), (14, y14), (18, y18), (35, y35), (43, y43), (59, y59), (74, y74), (75, y75), (76, y76), (77, y77), (81, y81)] [(0, y0), (1, y1), (2, y2), (3, y3), (4, y4), (5, y5), (6, y6), (7, y7), (8, y8), (9, y9), (10, y10), (11, y11), (12, y12), (14, y14), (18, y18), (35, y35), (43, y43), (59, y59), (74, y74), (75, y75), (76, y76), (77, y77), (81, y81)] = [(0, y0), (1, y1), (2, y2), (3, y3), (4, y4), (5, y5), (6, y6), (7, y7), (8, y8), (9, y9), (10, y10), (11, y11), (12, z4), (14, y14), (18, y18), (35, y35), (43, y43), (59, y59), (74, y74), (75, y75), (76, y76), (77, y77), (81, y81)] := fun y0 y1 y2 y3 y4 y5 y6 y7 y8 y9 y10 y11 y12 y14 y18 y35 y43 y59 y74 y75 y76 y77 y81 z0 z1 z2 z3 z4 => rfl
        refine R_nil (tr _ _ _ _ _ _ _ _ _ _ _ _ _ _ _ _ _ _ _ _ _ _ _ _ _ _ _ _) ?_; clear tr
        refine then_n ?_
        refine at_seq rfl ?_
        refine rg rfl ?_
        refine Rq ?_
        refine R_q rfl (by simp (disch := first | omega | (simp only [List.length_map, List.length_append, List.length_set, List.length_cons, List.length_nil, List.length_take, List.length_drop]; omega)) only [go_sem, ↓reduceIte, Nat.reduceEqDiff, reduceCtorEq, q0, qf, qw, qa, hc, hdi]; rfl) ?_
        refine A_buildSlice (bs67 _ _ _ _ c (by simp (disch := first | omega | (simp only [List.length_map, List.length_append, List.length_set, List.length_cons, List.length_nil, List.length_take, List.length_drop]; omega)) only [go_sem, ↓reduceIte, Nat.reduceEqDiff, reduceCtorEq, q0, qf, qw, qa, hc, hdi]; rfl)) ?_
        intro HJ n9
        have en9 := n9.len
        have q0 := (n9.old _ (hget_lt q0)).trans q0
        have qf := (n9.old _ (hget_lt qf)).trans qf
        have qa := (n9.old _ (hget_lt qa)).trans qa
        have qn := n9.new
        have hO := hO.mono fun b hb k hk => (n9.old _ (hget_lt hk)).trans hk
        have lq0 := hget_lt q0
        have lqf := hget_lt qf
        have lqa := hget_lt qa
        have lqn := hget_lt qn
        obtain ⟨b, hbl, hbl2, hap⟩ := outA_append (lim := H.length) hO hob qn (by omega) (by omega) (by omega)
        refine A_append (by simp (disch := first | omega | (simp only [List.length_map, List.length_append, List.length_set, List.length_cons, List.length_nil, List.length_take, List.length_drop]; omega)) only [go_sem, ↓reduceIte, Nat.reduceEqDiff, reduceCtorEq]; exact hap) ?_
        intro HK g9
        have eg9 := g9.len
        have q0 := (g9.old _ (by omega) lq0).trans q0
        have qf := (g9.old _ (by omega) lqf).trans qf
        have qa := (g9.old _ (by omega) lqa).trans qa
        have qq := g9.new
        refine Rq ?_
        have tr : ∀ y0 y1 y2 y3 y4 y5 y6 y7 y8 y9 y10 y11 y12 y14 y18 y35 y43 y59 y74 y75 y76 y77 y81 z0 z1 z2 z3 z4 : AV, trim [(9, z4), (51, z3), (50, z2), (49, z1), (48, z0), (0, y0), (1, y1), (2, y2), (3, y3), (4, y4), (5, y5), (6, y6), (7, y7), (8, y8), (9, y9), (10, y10), (11, y11), (12, y12), (14, y14), (18, y18), (35, y35), (43, y43), (59, y59), (74, y74), (75, y75), (76, y76), (77, y77), (81, y81)] [(0, y0), (1, y1), (2, y2), (3, y3), (4, y4), (5, y5), (6, y6), (7, y7), (8, y8), (9, y9), (10, y10), (11, y11), (12, y12), (14, y14), (18, y18), (35, y35), (43, y43), (59, y59), (74, y74), (75, y75), (76, y76), (77, y77), (81, y81)] = [(0, y0), (1, y1), (2, y2), (3, y3), (4, y4), (5, y5), (6, y6), (7, y7), (8, y8), (9, z4), (10, y10), (11, y11), (12, y12), (14, y14), (18, y18), (35, y35), (43, y43), (59, y59), (74, y74), (75, y75), (76, y76), (77, y77), (81, y81)] := fun y0 y1 y2 y3 y4 y5 y6 y7 y8 y9 y10 y11 y12 y14 y18 y35 y43 y59 y74 y75 y76 y77 y81 z0 z1 z2 z3 z4 => rfl
        refine R_nil (tr _ _ _ _ _ _ _ _ _ _ _ _ _ _ _ _ _ _ _ _ _ _ _ _ _ _ _ _) ?_; clear tr
        refine then_n ?_
        refine at_seq rfl ?_
        refine rg rfl ?_
        refine Rq ?_
        refine R_q rfl (by simp (disch := first | omega | (simp only [List.length_map, List.length_append, List.length_set, List.length_cons, List.length_nil, List.length_take, List.length_drop]; omega)) only [go_sem, ↓reduceIte, Nat.reduceEqDiff, reduceCtorEq, q0, qf, qw, qa, hc, hdi]; rfl) ?_
        refine Rq ?_
        refine R_q rfl (by simp (disch := first | omega | (simp only [List.length_map, List.length_append, List.length_set, List.length_cons, List.length_nil, List.length_take, List.length_drop]; omega)) only [go_sem, ↓reduceIte, Nat.reduceEqDiff, reduceCtorEq, q0, qf, qw, qa, hc, hdi]; rfl) ?_
        refine Rcall ?_
        refine ACall_eq (room_ok _ _ n s t E f H1.length E.length F.len.symm qf (decE c) (decide (c < 0)) hd0 hd1 g F.len F.rng) ?_
        rewrite [hdr]
        refine Rq ?_
        refine Rq ?_
        have tr : ∀ y0 y1 y2 y3 y4 y5 y6 y7 y8 y9 y10 y11 y12 y14 y18 y35 y43 y59 y74 y75 y76 y77 y81 z0 z1 z2 z3 z4 z5 z6 : AV, trim [(10, z6), (57, z5), (56, z4), (55, z3), (54, z2), (53, z1), (52, z0), (0, y0), (1, y1), (2, y2), (3, y3), (4, y4), (5, y5), (6, y6), (7, y7), (8, y8), (9, y9), (10, y10), (11, y11), (12, y12), (14, y14), (18, y18), (35, y35), (43, y43), (59, y59), (74, y74), (75, y75), (76, y76), (77, y77), (81, y81)] [(0, y0), (1, y1), (2, y2), (3, y3), (4, y4), (5, y5), (6, y6), (7, y7), (8, y8), (9, y9), (10, y10), (11, y11), (12, y12), (14, y14), (18, y18), (35, y35), (43, y43), (59, y59), (74, y74), (75, y75), (76, y76), (77, y77), (81, y81)] = [(0, y0), (1, y1), (2, y2), (3, y3), (4, y4), (5, y5), (6, y6), (7, y7), (8, y8), (9, y9), (10, z6), (11, y11), (12, y12), (14, y14), (18, y18), (35, y35), (43, y43), (59, y59), (74, y74), (75, y75), (76, y76), (77, y77), (81, y81)] := fun y0 y1 y2 y3 y4 y5 y6 y7 y8 y9 y10 y11 y12 y14 y18 y35 y43 y59 y74 y75 y76 y77 y81 z0 z1 z2 z3 z4 z5 z6 => rfl
        refine R_nil (tr _ _ _ _ _ _ _ _ _ _ _ _ _ _ _ _ _ _ _ _ _ _ _ _ _ _ _ _ _ _) ?_; clear tr
        refine then_n ?_
        refine at_seq rfl ?_
        refine rg rfl ?_
        refine Rq ?_
        refine R_q rfl (by simp (disch := first | omega | (simp only [List.length_map, List.length_append, List.length_set, List.length_cons, List.length_nil, List.length_take, List.length_drop]; omega)) only [go_sem, ↓reduceIte, Nat.reduceEqDiff, reduceCtorEq, q0, qf, qw, qa, hc, hdi]; rfl) ?_
        have tr : ∀ y0 y1 y2 y3 y4 y5 y6 y7 y8 y9 y10 y11 y12 y14 y18 y35 y43 y59 y74 y75 y76 y77 y81 z0 z1 : AV, trim [(59, z1), (58, z0), (0, y0), (1, y1), (2, y2), (3, y3), (4, y4), (5, y5), (6, y6), (7, y7), (8, y8), (9, y9), (10, y10), (11, y11), (12, y12), (14, y14), (18, y18), (35, y35), (43, y43), (59, y59), (74, y74), (75, y75), (76, y76), (77, y77), (81, y81)] [(0, y0), (1, y1), (2, y2), (3, y3), (4, y4), (5, y5), (6, y6), (7, y7), (8, y8), (9, y9), (10, y10), (11, y11), (12, y12), (14, y14), (18, y18), (35, y35), (43, y43), (59, y59), (74, y74), (75, y75), (76, y76), (77, y77), (81, y81)] = [(0, y0), (1, y1), (2, y2), (3, y3), (4, y4), (5, y5), (6, y6), (7, y7), (8, y8), (9, y9), (10, y10), (11, y11), (12, y12), (14, y14), (18, y18), (35, y35), (43, y43), (59, z1), (74, y74), (75, y75), (76, y76), (77, y77), (81, y81)] := fun y0 y1 y2 y3 y4 y5 y6 y7 y8 y9 y10 y11 y12 y14 y18 y35 y43 y59 y74 y75 y76 y77 y81 z0 z1 => rfl
        refine R_nil (tr _ _ _ _ _ _ _ _ _ _ _ _ _ _ _ _ _ _ _ _ _ _ _ _ _) ?_; clear tr
        refine then_n ?_
        refine cdd (fun h4 => ?_) (fun h4 => ?_)
        · try simp only [decide_eq_true_eq, decide_eq_false_iff_not, Bool.not_eq_true', Bool.not_eq_false', beq_iff_eq, beq_eq_false_iff_ne, ne_eq] at h4
          refine rg rfl ?_
          have hta : tailE E c = (gt E (ixE c)).b := by rw [tailE, if_neg (by omega)]
          refine Rq ?_
          refine R_q rfl (by simp (disch := first | omega | (simp only [List.length_map, List.length_append, List.length_set, List.length_cons, List.length_nil, List.length_take, List.length_drop]; omega)) only [go_sem, ↓reduceIte, Nat.reduceEqDiff, reduceCtorEq, q0, qf, qw, qa, hc, hdi]; rfl) ?_
          refine Rq ?_
          refine R_q rfl (by simp (disch := first | omega | (simp only [List.length_map, List.length_append, List.length_set, List.length_cons, List.length_nil, List.length_take, List.length_drop]; omega)) only [go_sem, ↓reduceIte, Nat.reduceEqDiff, reduceCtorEq, q0, qf, qw, qa, hc, hdi]; rfl) ?_
          refine Rq ?_
          refine Rq ?_
          refine R_q rfl (by simp (disch := first | omega | (simp only [List.length_map, List.length_append, List.length_set, List.length_cons, List.length_nil, List.length_take, List.length_drop]; omega)) only [go_sem, ↓reduceIte, Nat.reduceEqDiff, reduceCtorEq, q0, qf, qw, qa, hc, hdi]; rfl) ?_
          refine Rq ?_
          have tr : ∀ y0 y1 y2 y3 y4 y5 y6 y7 y8 y9 y10 y11 y12 y14 y18 y35 y43 y59 y74 y75 y76 y77 y81 z0 z1 z2 z3 z4 z5 z6 z7 : AV, trim [(11, z7), (66, z6), (65, z5), (64, z4), (63, z3), (62, z2), (61, z1), (60, z0), (0, y0), (1, y1), (2, y2), (3, y3), (4, y4), (5, y5), (6, y6), (7, y7), (8, y8), (9, y9), (10, y10), (11, y11), (12, y12), (14, y14), (18, y18), (35, y35), (43, y43), (59, y59), (74, y74), (75, y75), (76, y76), (77, y77), (81, y81)] [(0, y0), (1, y1), (2, y2), (3, y3), (4, y4), (5, y5), (6, y6), (7, y7), (8, y8), (9, y9), (10, y10), (11, y11), (12, y12), (14, y14), (18, y18), (35, y35), (43, y43), (59, y59), (74, y74), (75, y75), (76, y76), (77, y77), (81, y81)] = [(0, y0), (1, y1), (2, y2), (3, y3), (4, y4), (5, y5), (6, y6), (7, y7), (8, y8), (9, y9), (10, y10), (11, z7), (12, y12), (14, y14), (18, y18), (35, y35), (43, y43), (59, y59), (74, y74), (75, y75), (76, y76), (77, y77), (81, y81)] := fun y0 y1 y2 y3 y4 y5 y6 y7 y8 y9 y10 y11 y12 y14 y18 y35 y43 y59 y74 y75 y76 y77 y81 z0 z1 z2 z3 z4 z5 z6 z7 => rfl
          refine R_nil (tr _ _ _ _ _ _ _ _ _ _ _ _ _ _ _ _ _ _ _ _ _ _ _ _ _ _ _ _ _ _ _) ?_; clear tr
          refine blk_n ?_
          refine then_n ?_
          exact ⟨_, _, ⟨k', (gt E (ixE c)).b, _, w ++ [c], (.own 2 HJ.length 0 (w.length + 1)), _, _, _, rfl, rfl, by exact q0, by exact qf, by exact OutA.new g9 (by omega) (by simp), by rw [← hta]; exact T2, by rw [← hta, List.append_assoc]; exact hW, by rw [least_app, ← hla], by omega, by omega, by show H2.length ≤ HK.length; omega⟩, by rfl, by omega⟩
        · try simp only [decide_eq_true_eq, decide_eq_false_iff_not, Bool.not_eq_true', Bool.not_eq_false', beq_iff_eq, beq_eq_false_iff_ne, ne_eq] at h4
          refine rg rfl ?_
          have hta : tailE E c = (gt E (ixE c)).a := by rw [tailE, if_pos (by omega)]
          refine Rq ?_
          refine R_q rfl (by simp (disch := first | omega | (simp only [List.length_map, List.length_append, List.length_set, List.length_cons, List.length_nil, List.length_take, List.length_drop]; omega)) only [go_sem, ↓reduceIte, Nat.reduceEqDiff, reduceCtorEq, q0, qf, qw, qa, hc, hdi]; rfl) ?_
          refine Rq ?_
          refine R_q rfl (by simp (disch := first | omega | (simp only [List.length_map, List.length_append, List.length_set, List.length_cons, List.length_nil, List.length_take, List.length_drop]; omega)) only [go_sem, ↓reduceIte, Nat.reduceEqDiff, reduceCtorEq, q0, qf, qw, qa, hc, hdi]; rfl) ?_
          refine Rq ?_
          refine Rq ?_
          refine R_q rfl (by simp (disch := first | omega | (simp only [List.length_map, List.length_append, List.length_set, List.length_cons, List.length_nil, List.length_take, List.length_drop]; omega)) only [go_sem, ↓reduceIte, Nat.reduceEqDiff, reduceCtorEq, q0, qf, qw, qa, hc, hdi]; rfl) ?_
          refine Rq ?_
          have tr : ∀ y0 y1 y2 y3 y4 y5 y6 y7 y8 y9 y10 y11 y12 y14 y18 y35 y43 y59 y74 y75 y76 y77 y81 z0 z1 z2 z3 z4 z5 z6 z7 : AV, trim [(11, z7), (73, z6), (72, z5), (71, z4), (70, z3), (69, z2), (68, z1), (67, z0), (0, y0), (1, y1), (2, y2), (3, y3), (4, y4), (5, y5), (6, y6), (7, y7), (8, y8), (9, y9), (10, y10), (11, y11), (12, y12), (14, y14), (18, y18), (35, y35), (43, y43), (59, y59), (74, y74), (75, y75), (76, y76), (77, y77), (81, y81)] [(0, y0), (1, y1), (2, y2), (3, y3), (4, y4), (5, y5), (6, y6), (7, y7), (8, y8), (9, y9), (10, y10), (11, y11), (12, y12), (14, y14), (18, y18), (35, y35), (43, y43), (59, y59), (74, y74), (75, y75), (76, y76), (77, y77), (81, y81)] = [(0, y0), (1, y1), (2, y2), (3, y3), (4, y4), (5, y5), (6, y6), (7, y7), (8, y8), (9, y9), (10, y10), (11, z7), (12, y12), (14, y14), (18, y18), (35, y35), (43, y43), (59, y59), (74, y74), (75, y75), (76, y76), (77, y77), (81, y81)] := fun y0 y1 y2 y3 y4 y5 y6 y7 y8 y9 y10 y11 y12 y14 y18 y35 y43 y59 y74 y75 y76 y77 y81 z0 z1 z2 z3 z4 z5 z6 z7 => rfl
          refine R_nil (tr _ _ _ _ _ _ _ _ _ _ _ _ _ _ _ _ _ _ _ _ _ _ _ _ _ _ _ _ _ _ _) ?_; clear tr
          refine blk_n ?_
          refine then_n ?_
          exact ⟨_, _, ⟨k', (gt E (ixE c)).a, _, w ++ [c], (.own 2 HJ.length 0 (w.length + 1)), _, _, _, rfl, rfl, by exact q0, by exact qf, by exact OutA.new g9 (by omega) (by simp), by rw [← hta]; exact T2, by rw [← hta, List.append_assoc]; exact hW, by rw [least_app, ← hla], by omega, by omega, by show H2.length ≤ HK.length; omega⟩, by rfl, by omega⟩
      · try simp only [decide_eq_true_eq, decide_eq_false_iff_not, Bool.not_eq_true', Bool.not_eq_false', beq_iff_eq, beq_eq_false_iff_ne, ne_eq] at h3
        refine at_exit rfl ?_
        refine then_x ?_
        refine then_x ?_
        refine blk_x ?_
        refine then_n ?_
        refine at_seq rfl ?_
        refine rg rfl ?_
        have hwe := tree_end T1 (by omega)
        rw [hwe, List.append_nil] at hW
        have hwl := congrArg List.length hW
        rw [wayN_len] at hwl
        have hlw : ∀ x, x ∈ wayN E (reachS n s E f).way m t → la ≤ roomI E f x := by rw [hla, hW]; exact (least_le _ _).2
        obtain ⟨wW, hwW⟩ : ∃ wW, wW = w := ⟨_, rfl⟩
        obtain ⟨bw, rfl, hbw, qw⟩ := hO.resolve_left (fun hh => by have := tree_pos g T; rw [hh.1] at hwl; simp at hwl; omega)
        have lqw := hget_lt qw
        subst hwW
        refine Rq ?_
        refine Rq ?_
        refine Rq ?_
        have tr : ∀ y0 y1 y2 y3 y4 y5 y6 y7 y8 y9 y10 y11 y12 y14 y18 y35 y43 y59 y74 y75 y76 y77 y81 z0 z1 z2 : AV, trim [(76, z2), (75, z1), (74, z0), (0, y0), (1, y1), (2, y2), (3, y3), (4, y4), (5, y5), (6, y6), (7, y7), (8, y8), (9, y9), (10, y10), (11, y11), (12, y12), (14, y14), (18, y18), (35, y35), (43, y43), (59, y59), (74, y74), (75, y75), (76, y76), (77, y77), (81, y81)] [(0, y0), (1, y1), (2, y2), (3, y3), (4, y4), (5, y5), (6, y6), (7, y7), (8, y8), (9, y9), (10, y10), (11, y11), (12, y12), (14, y14), (18, y18), (35, y35), (43, y43), (59, y59), (74, y74), (75, y75), (76, y76), (77, y77), (81, y81)] = [(0, y0), (1, y1), (2, y2), (3, y3), (4, y4), (5, y5), (6, y6), (7, y7), (8, y8), (9, y9), (10, y10), (11, y11), (12, y12), (14, y14), (18, y18), (35, y35), (43, y43), (59, y59), (74, z0), (75, z1), (76, z2), (77, y77), (81, y81)] := fun y0 y1 y2 y3 y4 y5 y6 y7 y8 y9 y10 y11 y12 y14 y18 y35 y43 y59 y74 y75 y76 y77 y81 z0 z1 z2 => rfl
        refine R_nil (tr _ _ _ _ _ _ _ _ _ _ _ _ _ _ _ _ _ _ _ _ _ _ _ _ _ _) ?_; clear tr
        refine then_n ?_
        refine at_block rfl ?_
        refine loop_n rfl (fun mm kv H' => ∃ j : Nat, ∃ x14 x77 x81 : AV, (kv = [(14, x14), (76, AV.i j), (77, x77), (81, x81)]) ∧ (mm = wW.length - j) ∧ (hget H' H.length = some (graphC n s t E)) ∧ (hget H' H1.length = some ((applyW la f (wW.take j)).map AV.i)) ∧ (hget H' bw = some (flatA wW)) ∧ (j ≤ wW.length) ∧ (H2.length ≤ H'.length)) ⟨0, _, _, _, rfl, rfl, by exact q0, by rw [List.take_zero]; exact qf, by exact qw, by omega, by exact hHB⟩ (by rfl) ?_
        rintro mm kv HF ⟨j, x14, x77, x81, rfl, rfl, q0, qf, qw, hj, hHF⟩
        have tr : ∀ y0 y1 y2 y3 y4 y5 y6 y7 y8 y9 y10 y11 y12 y14 y18 y35 y43 y59 y74 y75 y76 y77 y81 z14 z76 z77 z81 : AV, upd [(0, y0), (1, y1), (2, y2), (3, y3), (4, y4), (5, y5), (6, y6), (7, y7), (8, y8), (9, y9), (10, y10), (11, y11), (12, y12), (14, y14), (18, y18), (35, y35), (43, y43), (59, y59), (74, y74), (75, y75), (76, y76), (77, y77), (81, y81)] [(14, z14), (76, z76), (77, z77), (81, z81)] = [(0, y0), (1, y1), (2, y2), (3, y3), (4, y4), (5, y5), (6, y6), (7, y7), (8, y8), (9, y9), (10, y10), (11, y11), (12, y12), (14, z14), (18, y18), (35, y35), (43, y43), (59, y59), (74, y74), (75, y75), (76, z76), (77, z77), (81, z81)] := fun y0 y1 y2 y3 y4 y5 y6 y7 y8 y9 y10 y11 y12 y14 y18 y35 y43 y59 y74 y75 y76 y77 y81 z14 z76 z77 z81 => rfl
        refine W_to (tr _ _ _ _ _ _ _ _ _ _ _ _ _ _ _ _ _ _ _ _ _ _ _ _ _ _ _) ?_; clear tr
        refine at_seq rfl ?_
        refine rg rfl ?_
        refine Rq ?_
        have tr : ∀ y0 y1 y2 y3 y4 y5 y6 y7 y8 y9 y10 y11 y12 y14 y18 y35 y43 y59 y74 y75 y76 y77 y81 z0 : AV, trim [(77, z0), (0, y0), (1, y1), (2, y2), (3, y3), (4, y4), (5, y5), (6, y6), (7, y7), (8, y8), (9, y9), (10, y10), (11, y11), (12, y12), (14, y14), (18, y18), (35, y35), (43, y43), (59, y59), (74, y74), (75, y75), (76, y76), (77, y77), (81, y81)] [(0, y0), (1, y1), (2, y2), (3, y3), (4, y4), (5, y5), (6, y6), (7, y7), (8, y8), (9, y9), (10, y10), (11, y11), (12, y12), (14, y14), (18, y18), (35, y35), (43, y43), (59, y59), (74, y74), (75, y75), (76, y76), (77, y77), (81, y81)] = [(0, y0), (1, y1), (2, y2), (3, y3), (4, y4), (5, y5), (6, y6), (7, y7), (8, y8), (9, y9), (10, y10), (11, y11), (12, y12), (14, y14), (18, y18), (35, y35), (43, y43), (59, y59), (74, y74), (75, y75), (76, y76), (77, z0), (81, y81)] := fun y0 y1 y2 y3 y4 y5 y6 y7 y8 y9 y10 y11 y12 y14 y18 y35 y43 y59 y74 y75 y76 y77 y81 z0 => rfl
        refine R_nil (tr _ _ _ _ _ _ _ _ _ _ _ _ _ _ _ _ _ _ _ _ _ _ _ _) ?_; clear tr
        refine then_n ?_
        refine at_seq rfl ?_
        refine cdd (fun h5 => ?_) (fun h5 => ?_)
        · try simp only [decide_eq_true_eq, decide_eq_false_iff_not, Bool.not_eq_true', Bool.not_eq_false', beq_iff_eq, beq_eq_false_iff_ne, ne_eq] at h5
          refine at_skip rfl ?_
          refine then_n ?_
          refine at_seq rfl ?_
          refine at_block rfl ?_
          refine at_seq rfl ?_
          refine rg rfl ?_
          have kqw := hget_lt qw
          have A : ArcOK E f (gt wW j) := WO.arc _ (by rw [← hW, gt_eq _ _ (by omega)]; exact List.getElem_mem _)
          obtain ⟨c, hc⟩ : ∃ c, gt wW j = c := ⟨_, rfl⟩
          rw [hc] at A
          have hnz := A.nz
          have hix := A.ix
          obtain ⟨hd0, hd1, hdi, hdr⟩ := arc_dec A
          have he := ge _ hix
          have hW4 : wW.take j ++ c :: wW.drop (j + 1) = wayN E (reachS n s E f).way m t := by rw [← hc, ← drop_gt wW j (by omega), List.take_append_drop, hW]
          obtain ⟨s1, s2, s3, s4, A2⟩ := aug_step (d := la) (by omega) F.len F.rng WO hlw hW4
          rw [show wW.take j ++ [c] = wW.take (j + 1) by rw [← hc, gt_eq _ _ (by omega), List.take_append_getElem]] at s4
          refine Rq ?_
          refine R_q rfl (by simp (disch := first | omega | (simp only [List.length_map, List.length_append, List.length_set, List.length_cons, List.length_nil, List.length_take, List.length_drop]; omega)) only [go_sem, ↓reduceIte, Nat.reduceEqDiff, reduceCtorEq, q0, qf, qw, qa, hc, hdi]; rfl) ?_
          refine A_alloc rfl ?_
          intro HG n6
          have en6 := n6.len
          have q0 := (n6.old _ (hget_lt q0)).trans q0
          have qf := (n6.old _ (hget_lt qf)).trans qf
          have qw := (n6.old _ (hget_lt qw)).trans qw
          have qa := n6.new
          have lq0 := hget_lt q0
          have lqf := hget_lt qf
          have lqw := hget_lt qw
          have lqa := hget_lt qa
          refine A_store ty71 (by simp (disch := first | omega | (simp only [List.length_map, List.length_append, List.length_set, List.length_cons, List.length_nil, List.length_take, List.length_drop]; omega)) only [go_sem, ↓reduceIte, Nat.reduceEqDiff, reduceCtorEq, q0, qf, qw, qa, hc, hdi]; rfl) (by simp (disch := first | omega | (simp only [List.length_map, List.length_append, List.length_set, List.length_cons, List.length_nil, List.length_take, List.length_drop]; omega)) only [go_sem, ↓reduceIte, Nat.reduceEqDiff, reduceCtorEq, q0, qf, qw, qa, hc, hdi]; rfl) qa ⟨by omega, rfl, by first | exact Nat.le_refl _ | simp⟩ (show _ = arcC c from rfl) ?_
          intro HH w6
          have ew6 := w6.len
          have q0 := (w6.old _ (by omega)).trans q0
          have qf := (w6.old _ (by omega)).trans qf
          have qw := (w6.old _ (by omega)).trans qw
          have qa := w6.new
          have tr : ∀ y0 y1 y2 y3 y4 y5 y6 y7 y8 y9 y10 y11 y12 y14 y18 y35 y43 y59 y74 y75 y76 y77 y81 z0 z1 z2 : AV, trim [(14, z2), (79, z1), (78, z0), (0, y0), (1, y1), (2, y2), (3, y3), (4, y4), (5, y5), (6, y6), (7, y7), (8, y8), (9, y9), (10, y10), (11, y11), (12, y12), (14, y14), (18, y18), (35, y35), (43, y43), (59, y59), (74, y74), (75, y75), (76, y76), (77, y77), (81, y81)] [(0, y0), (1, y1), (2, y2), (3, y3), (4, y4), (5, y5), (6, y6), (7, y7), (8, y8), (9, y9), (10, y10), (11, y11), (12, y12), (14, y14), (18, y18), (35, y35), (43, y43), (59, y59), (74, y74), (75, y75), (76, y76), (77, y77), (81, y81)] = [(0, y0), (1, y1), (2, y2), (3, y3), (4, y4), (5, y5), (6, y6), (7, y7), (8, y8), (9, y9), (10, y10), (11, y11), (12, y12), (14, z2), (18, y18), (35, y35), (43, y43), (59, y59), (74, y74), (75, y75), (76, y76), (77, y77), (81, y81)] := fun y0 y1 y2 y3 y4 y5 y6 y7 y8 y9 y10 y11 y12 y14 y18 y35 y43 y59 y74 y75 y76 y77 y81 z0 z1 z2 => rfl
          refine R_nil (tr _ _ _ _ _ _ _ _ _ _ _ _ _ _ _ _ _ _ _ _ _ _ _ _ _ _) ?_; clear tr
          refine then_n ?_
          refine at_seq rfl ?_
          refine rg rfl ?_
          refine Rq ?_
          refine R_q rfl (by simp (disch := first | omega | (simp only [List.length_map, List.length_append, List.length_set, List.length_cons, List.length_nil, List.length_take, List.length_drop]; omega)) only [go_sem, ↓reduceIte, Nat.reduceEqDiff, reduceCtorEq, q0, qf, qw, qa, hc, hdi]; rfl) ?_
          have tr : ∀ y0 y1 y2 y3 y4 y5 y6 y7 y8 y9 y10 y11 y12 y14 y18 y35 y43 y59 y74 y75 y76 y77 y81 z0 z1 : AV, trim [(81, z1), (80, z0), (0, y0), (1, y1), (2, y2), (3, y3), (4, y4), (5, y5), (6, y6), (7, y7), (8, y8), (9, y9), (10, y10), (11, y11), (12, y12), (14, y14), (18, y18), (35, y35), (43, y43), (59, y59), (74, y74), (75, y75), (76, y76), (77, y77), (81, y81)] [(0, y0), (1, y1), (2, y2), (3, y3), (4, y4), (5, y5), (6, y6), (7, y7), (8, y8), (9, y9), (10, y10), (11, y11), (12, y12), (14, y14), (18, y18), (35, y35), (43, y43), (59, y59), (74, y74), (75, y75), (76, y76), (77, y77), (81, y81)] = [(0, y0), (1, y1), (2, y2), (3, y3), (4, y4), (5, y5), (6, y6), (7, y7), (8, y8), (9, y9), (10, y10), (11, y11), (12, y12), (14, y14), (18, y18), (35, y35), (43, y43), (59, y59), (74, y74), (75, y75), (76, y76), (77, y77), (81, z1)] := fun y0 y1 y2 y3 y4 y5 y6 y7 y8 y9 y10 y11 y12 y14 y18 y35 y43 y59 y74 y75 y76 y77 y81 z0 z1 => rfl
          refine R_nil (tr _ _ _ _ _ _ _ _ _ _ _ _ _ _ _ _ _ _ _ _ _ _ _ _ _) ?_; clear tr
          refine then_n ?_
          refine cdd (fun h6 => ?_) (fun h6 => ?_)
          · try simp only [decide_eq_true_eq, decide_eq_false_iff_not, Bool.not_eq_true', Bool.not_eq_false', beq_iff_eq, beq_eq_false_iff_ne, ne_eq] at h6
            refine rg rfl ?_
            have hav : addV la (applyW la f (wW.take j)) c = gt (applyW la f (wW.take j)) (ixE c) - la := by rw [addV, if_neg (by omega)]
            rw [hav] at s2
            refine Rq ?_
            refine Rq ?_
            refine R_q rfl (by simp (disch := first | omega | (simp only [List.length_map, List.length_append, List.length_set, List.length_cons, List.length_nil, List.length_take, List.length_drop]; omega)) only [go_sem, ↓reduceIte, Nat.reduceEqDiff, reduceCtorEq, q0, qf, qw, qa, hc, hdi]; rfl) ?_
            refine Rq ?_
            refine R_q rfl (by simp (disch := first | omega | (simp only [List.length_map, List.length_append, List.length_set, List.length_cons, List.length_nil, List.length_take, List.length_drop]; omega)) only [go_sem, ↓reduceIte, Nat.reduceEqDiff, reduceCtorEq, q0, qf, qw, qa, hc, hdi]; rfl) ?_
            refine Rq ?_
            refine Rq ?_
            refine Rq ?_
            have lq0 := hget_lt q0
            have lqf := hget_lt qf
            have lqw := hget_lt qw
            have lqa := hget_lt qa
            refine A_store ty2 (by simp (disch := first | omega | (simp only [List.length_map, List.length_append, List.length_set, List.length_cons, List.length_nil, List.length_take, List.length_drop]; omega)) only [go_sem, ↓reduceIte, Nat.reduceEqDiff, reduceCtorEq, q0, qf, qw, qa, hc, hdi]; rfl) (by simp (disch := first | omega | (simp only [List.length_map, List.length_append, List.length_set, List.length_cons, List.length_nil, List.length_take, List.length_drop]; omega)) only [go_sem, ↓reduceIte, Nat.reduceEqDiff, reduceCtorEq, q0, qf, qw, qa, hc, hdi]; rfl) qf ⟨by omega, rfl, by simp only [List.length_map]; omega⟩ (k' := (applyW la f (wW.take (j + 1))).map AV.i) (by rw [setL_map, s4, hav]) ?_
            intro HI w9
            have ew9 := w9.len
            have q0 := (w9.old _ (by omega)).trans q0
            have qw := (w9.old _ (by omega)).trans qw
            have qf := w9.new
            have tr : ∀ y0 y1 y2 y3 y4 y5 y6 y7 y8 y9 y10 y11 y12 y14 y18 y35 y43 y59 y74 y75 y76 y77 y81 z0 z1 z2 z3 z4 z5 z6 z7 : AV, trim [(89, z7), (88, z6), (87, z5), (86, z4), (85, z3), (84, z2), (83, z1), (82, z0), (0, y0), (1, y1), (2, y2), (3, y3), (4, y4), (5, y5), (6, y6), (7, y7), (8, y8), (9, y9), (10, y10), (11, y11), (12, y12), (14, y14), (18, y18), (35, y35), (43, y43), (59, y59), (74, y74), (75, y75), (76, y76), (77, y77), (81, y81)] [(0, y0), (1, y1), (2, y2), (3, y3), (4, y4), (5, y5), (6, y6), (7, y7), (8, y8), (9, y9), (10, y10), (11, y11), (12, y12), (14, y14), (18, y18), (35, y35), (43, y43), (59, y59), (74, y74), (75, y75), (76, y76), (77, y77), (81, y81)] = [(0, y0), (1, y1), (2, y2), (3, y3), (4, y4), (5, y5), (6, y6), (7, y7), (8, y8), (9, y9), (10, y10), (11, y11), (12, y12), (14, y14), (18, y18), (35, y35), (43, y43), (59, y59), (74, y74), (75, y75), (76, y76), (77, y77), (81, y81)] := fun y0 y1 y2 y3 y4 y5 y6 y7 y8 y9 y10 y11 y12 y14 y18 y35 y43 y59 y74 y75 y76 y77 y81 z0 z1 z2 z3 z4 z5 z6 z7 => rfl
            refine R_nil (tr _ _ _ _ _ _ _ _ _ _ _ _ _ _ _ _ _ _ _ _ _ _ _ _ _ _ _ _ _ _ _) ?_; clear tr
            refine blk_n ?_
            refine then_n ?_
            refine rg rfl ?_
            refine Rq ?_
            refine Rq ?_
            have tr : ∀ y0 y1 y2 y3 y4 y5 y6 y7 y8 y9 y10 y11 y12 y14 y18 y35 y43 y59 y74 y75 y76 y77 y81 z0 z1 : AV, trim [(76, z1), (98, z0), (0, y0), (1, y1), (2, y2), (3, y3), (4, y4), (5, y5), (6, y6), (7, y7), (8, y8), (9, y9), (10, y10), (11, y11), (12, y12), (14, y14), (18, y18), (35, y35), (43, y43), (59, y59), (74, y74), (75, y75), (76, y76), (77, y77), (81, y81)] [(0, y0), (1, y1), (2, y2), (3, y3), (4, y4), (5, y5), (6, y6), (7, y7), (8, y8), (9, y9), (10, y10), (11, y11), (12, y12), (14, y14), (18, y18), (35, y35), (43, y43), (59, y59), (74, y74), (75, y75), (76, y76), (77, y77), (81, y81)] = [(0, y0), (1, y1), (2, y2), (3, y3), (4, y4), (5, y5), (6, y6), (7, y7), (8, y8), (9, y9), (10, y10), (11, y11), (12, y12), (14, y14), (18, y18), (35, y35), (43, y43), (59, y59), (74, y74), (75, y75), (76, z1), (77, y77), (81, y81)] := fun y0 y1 y2 y3 y4 y5 y6 y7 y8 y9 y10 y11 y12 y14 y18 y35 y43 y59 y74 y75 y76 y77 y81 z0 z1 => rfl
            refine R_nil (tr _ _ _ _ _ _ _ _ _ _ _ _ _ _ _ _ _ _ _ _ _ _ _ _ _) ?_; clear tr
            refine then_n ?_
            exact ⟨_, _, ⟨j + 1, _, _, _, rfl, rfl, by exact q0, by exact qf, by exact qw, by omega, by show H2.length ≤ HI.length; omega⟩, by rfl, by omega⟩
          · try simp only [decide_eq_true_eq, decide_eq_false_iff_not, Bool.not_eq_true', Bool.not_eq_false', beq_iff_eq, beq_eq_false_iff_ne, ne_eq] at h6
            refine rg rfl ?_
            have hav : addV la (applyW la f (wW.take j)) c = gt (applyW la f (wW.take j)) (ixE c) + la := by rw [addV, if_pos (by omega)]
            rw [hav] at s2
            refine Rq ?_
            refine Rq ?_
            refine R_q rfl (by simp (disch := first | omega | (simp only [List.length_map, List.length_append, List.length_set, List.length_cons, List.length_nil, List.length_take, List.length_drop]; omega)) only [go_sem, ↓reduceIte, Nat.reduceEqDiff, reduceCtorEq, q0, qf, qw, qa, hc, hdi]; rfl) ?_
            refine Rq ?_
            refine R_q rfl (by simp (disch := first | omega | (simp only [List.length_map, List.length_append, List.length_set, List.length_cons, List.length_nil, List.length_take, List.length_drop]; omega)) only [go_sem, ↓reduceIte, Nat.reduceEqDiff, reduceCtorEq, q0, qf, qw, qa, hc, hdi]; rfl) ?_
            refine Rq ?_
            refine Rq ?_
            refine Rq ?_
            have lq0 := hget_lt q0
            have lqf := hget_lt qf
            have lqw := hget_lt qw
            have lqa := hget_lt qa
            refine A_store ty2 (by simp (disch := first | omega | (simp only [List.length_map, List.length_append, List.length_set, List.length_cons, List.length_nil, List.length_take, List.length_drop]; omega)) only [go_sem, ↓reduceIte, Nat.reduceEqDiff, reduceCtorEq, q0, qf, qw, qa, hc, hdi]; rfl) (by simp (disch := first | omega | (simp only [List.length_map, List.length_append, List.length_set, List.length_cons, List.length_nil, List.length_take, List.length_drop]; omega)) only [go_sem, ↓reduceIte, Nat.reduceEqDiff, reduceCtorEq, q0, qf, qw, qa, hc, hdi]; rfl) qf ⟨by omega, rfl, by simp only [List.length_map]; omega⟩ (k' := (applyW la f (wW.take (j + 1))).map AV.i) (by rw [setL_map, s4, hav]) ?_
            intro HI w9
            have ew9 := w9.len
            have q0 := (w9.old _ (by omega)).trans q0
            have qw := (w9.old _ (by omega)).trans qw
            have qf := w9.new
            have tr : ∀ y0 y1 y2 y3 y4 y5 y6 y7 y8 y9 y10 y11 y12 y14 y18 y35 y43 y59 y74 y75 y76 y77 y81 z0 z1 z2 z3 z4 z5 z6 z7 : AV, trim [(97, z7), (96, z6), (95, z5), (94, z4), (93, z3), (92, z2), (91, z1), (90, z0), (0, y0), (1, y1), (2, y2), (3, y3), (4, y4), (5, y5), (6, y6), (7, y7), (8, y8), (9, y9), (10, y10), (11, y11), (12, y12), (14, y14), (18, y18), (35, y35), (43, y43), (59, y59), (74, y74), (75, y75), (76, y76), (77, y77), (81, y81)] [(0, y0), (1, y1), (2, y2), (3, y3), (4, y4), (5, y5), (6, y6), (7, y7), (8, y8), (9, y9), (10, y10), (11, y11), (12, y12), (14, y14), (18, y18), (35, y35), (43, y43), (59, y59), (74, y74), (75, y75), (76, y76), (77, y77), (81, y81)] = [(0, y0), (1, y1), (2, y2), (3, y3), (4, y4), (5, y5), (6, y6), (7, y7), (8, y8), (9, y9), (10, y10), (11, y11), (12, y12), (14, y14), (18, y18), (35, y35), (43, y43), (59, y59), (74, y74), (75, y75), (76, y76), (77, y77), (81, y81)] := fun y0 y1 y2 y3 y4 y5 y6 y7 y8 y9 y10 y11 y12 y14 y18 y35 y43 y59 y74 y75 y76 y77 y81 z0 z1 z2 z3 z4 z5 z6 z7 => rfl
            refine R_nil (tr _ _ _ _ _ _ _ _ _ _ _ _ _ _ _ _ _ _ _ _ _ _ _ _ _ _ _ _ _ _ _) ?_; clear tr
            refine blk_n ?_
            refine then_n ?_
            refine rg rfl ?_
            refine Rq ?_
            refine Rq ?_
            have tr : ∀ y0 y1 y2 y3 y4 y5 y6 y7 y8 y9 y10 y11 y12 y14 y18 y35 y43 y59 y74 y75 y76 y77 y81 z0 z1 : AV, trim [(76, z1), (98, z0), (0, y0), (1, y1), (2, y2), (3, y3), (4, y4), (5, y5), (6, y6), (7, y7), (8, y8), (9, y9), (10, y10), (11, y11), (12, y12), (14, y14), (18, y18), (35, y35), (43, y43), (59, y59), (74, y74), (75, y75), (76, y76), (77, y77), (81, y81)] [(0, y0), (1, y1), (2, y2), (3, y3), (4, y4), (5, y5), (6, y6), (7, y7), (8, y8), (9, y9), (10, y10), (11, y11), (12, y12), (14, y14), (18, y18), (35, y35), (43, y43), (59, y59), (74, y74), (75, y75), (76, y76), (77, y77), (81, y81)] = [(0, y0), (1, y1), (2, y2), (3, y3), (4, y4), (5, y5), (6, y6), (7, y7), (8, y8), (9, y9), (10, y10), (11, y11), (12, y12), (14, y14), (18, y18), (35, y35), (43, y43), (59, y59), (74, y74), (75, y75), (76, z1), (77, y77), (81, y81)] := fun y0 y1 y2 y3 y4 y5 y6 y7 y8 y9 y10 y11 y12 y14 y18 y35 y43 y59 y74 y75 y76 y77 y81 z0 z1 => rfl
            refine R_nil (tr _ _ _ _ _ _ _ _ _ _ _ _ _ _ _ _ _ _ _ _ _ _ _ _ _) ?_; clear tr
            refine then_n ?_
            exact ⟨_, _, ⟨j + 1, _, _, _, rfl, rfl, by exact q0, by exact qf, by exact qw, by omega, by show H2.length ≤ HI.length; omega⟩, by rfl, by omega⟩
        · try simp only [decide_eq_true_eq, decide_eq_false_iff_not, Bool.not_eq_true', Bool.not_eq_false', beq_iff_eq, beq_eq_false_iff_ne, ne_eq] at h5
          refine at_exit rfl ?_
          refine then_x ?_
          refine then_x ?_
          refine blk_x ?_
          refine blk_n ?_
          refine then_n ?_
          exact ⟨_, _, ⟨augW n s t E f m, _, _, _, _, _, _, _, _, _, _, _, _, _, _, _, _, _, _, rfl, rfl, by exact q0, by rw [augW, ← hW, ← hla, show wW = wW.take j by rw [List.take_of_length_le (by omega)]]; exact qf, by exact AO.1, by exact fun a h => hR a (.step f a m hst T h), by exact hHF⟩, by rfl, by omega⟩

end Go.Proofs.Ytdicnojnkbmdlaa
