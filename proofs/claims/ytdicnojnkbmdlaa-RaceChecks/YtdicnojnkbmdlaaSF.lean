/-
  Walks of chapters 52 and 53. The steps are written by program (walk.py).
-/
import Derived.Test.YtdicnojnkbmdlaaS1
set_option linter.unusedSimpArgs false
set_option linter.unusedVariables false
set_option maxHeartbeats 40000000
set_option maxRecDepth 4000
namespace Go.Proofs.Ytdicnojnkbmdlaa
open Go Go.Am

theorem contains_ok (lim lo : Nat) (H : Heap) (o : AV) (m : List Pr) (p : Pr) (hO : OutP lo H o m) (hm : m.length ≤ 1000) :
    ACall sig lim 70 [o, .agg (prC p)] H fun r H' => r = .v (.bool (decide (p ∈ m))) ∧ H' = H := by
  refine ACall_pure (fa := fa70) rfl rfl rfl rfl ?_
  have tr : ∀ a0 a1 : AV, env0 fa70.keep [a0, a1] = [(0, a0), (1, a1), (3, .any), (4, .any)] := fun a0 a1 => rfl
  refine W_to (tr _ _) ?_; clear tr
  refine at_seq rfl ?_
  refine rg rfl ?_
  refine R_box rfl (by simp (disch := first | omega | (simp only [List.length_map, List.length_append, List.length_set, List.length_cons, List.length_nil, List.length_take, List.length_drop]; omega)) only [go_sem, ↓reduceIte, Nat.reduceEqDiff, reduceCtorEq]; rfl) rfl rfl ?_
  refine Rq ?_
  have tr : ∀ y0 y1 y3 y4 z0 z1 : AV, trim [(4, z1), (3, z0), (0, y0), (1, y1), (3, y3), (4, y4)] [(0, y0), (1, y1), (3, y3), (4, y4)] = [(0, y0), (1, y1), (3, z0), (4, z1)] := fun y0 y1 y3 y4 z0 z1 => rfl
  refine R_nil (tr _ _ _ _ _ _) ?_; clear tr
  refine then_n ?_
  refine at_seq rfl ?_
  refine rg rfl ?_
  refine Rq ?_
  refine Rq ?_
  refine Rcall ?_
  refine ACall_mono (index_any _ lo _ o m p (hO.mono fun b _ k hk => by rw [hget_low _ _ _ (hget_lt hk)]; exact hk) hm) ?_
  rintro r H6 ⟨⟨k, rfl, hk⟩, rfl⟩
  refine Rq ?_
  refine Rq ?_
  have tr : ∀ y0 y1 y3 y4 z0 z1 z2 z3 z4 : AV, trim [(4, z4), (8, z3), (7, z2), (6, z1), (5, z0), (0, y0), (1, y1), (3, y3), (4, y4)] [(0, y0), (1, y1), (3, y3), (4, y4)] = [(0, y0), (1, y1), (3, y3), (4, z4)] := fun y0 y1 y3 y4 z0 z1 z2 z3 z4 => rfl
  refine R_nil (tr _ _ _ _ _ _ _ _ _) ?_; clear tr
  refine then_n ?_
  refine at_ret rfl ?_
  refine fpure ?_
  refine ⟨?_, rfl⟩
  congr 2
  rw [decide_eq_decide]
  rcases hk with ⟨h1, h2, h3⟩ | ⟨h1, h2⟩
  · exact ⟨fun _ => by rw [← h3, gt_eq _ _ (by omega)]; exact List.getElem_mem _, fun _ => h1⟩
  · exact ⟨fun hh => by omega, fun hh => absurd hh h2⟩

end Go.Proofs.Ytdicnojnkbmdlaa
