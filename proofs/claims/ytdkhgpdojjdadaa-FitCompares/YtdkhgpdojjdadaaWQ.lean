/-
  Walks of chapter 38. The steps are written by program (walk.py).
-/
import Derived.Test.YtdkhgpdojjdadaaR
import Derived.Test.YtdkhgpdojjdadaaL
set_option linter.unusedSimpArgs false
set_option linter.unusedVariables false
set_option maxHeartbeats 40000000
set_option maxRecDepth 4000
namespace Go.Proofs.Ytdkhgpdojjdadaa
open Go Go.Am

def FLen (a b : Tb) : Prop := ∀ u, u < a.length → (gt a u).length = (gt a 0).length ∧ (gt b u).length = (gt a 0).length
def FPos (a b : Tb) : Prop := ∀ u, u < a.length → ∀ w, w < (gt a u).length → 0 ≤ gt (gt a u) w ∧ 0 ≤ gt (gt b u) w
open Classical in
noncomputable def formS (a b : Tb) : Int :=
  if a.length < 2 ∨ (gt a 0).length = 0 then 1 else
  if 91 < a.length ∨ 10 < (gt a 0).length then 9 else
  if b.length ≠ a.length then 1 else
  if ¬ FLen a b then 1 else if ¬ FPos a b then 2 else 0
structure Formed (a b : Tb) : Prop where
  two : 2 ≤ a.length
  most : a.length ≤ 91
  one : 0 < (gt a 0).length
  ten : (gt a 0).length ≤ 10
  eq : b.length = a.length
  len : FLen a b
  pos : FPos a b
theorem formed_of {a b : Tb} (h : formS a b = 0) : Formed a b := by
  unfold formS at h
  split at h
  · cases h
  · split at h
    · cases h
    · split at h
      · cases h
      · split at h
        · cases h
        · split at h
          · cases h
          · rename_i h1 h2 h3 h4 h5
            exact ⟨by omega, by omega, by omega, by omega, by omega, Classical.not_not.mp h4, Classical.not_not.mp h5⟩
def mcell (a b : Tb) (u w : Nat) : Int := if u = 0 ∨ gt (gt b u) w = 0 then 0 else min (gt (gt a u) w / gt (gt b u) w) 10000
def mrow (a b : Tb) (u : Nat) : List Int := (List.range (gt a u).length).map fun w => mcell a b u w
def mtab (a b : Tb) : Tb := (List.range a.length).map fun u => mrow a b u
def meanT (a b : Tb) : Tb := updT (mtab a b) (a.length - 1) 0 10000
open Classical in
noncomputable def meanAV (a b : Tb) : AV := if formS a b = 0 then rowsAV (meanT a b) else .v (.slice none 0 0)
def I64T (a : Tb) : Prop := ∀ u, u < a.length → ∀ w, w < (gt a u).length → gt (gt a u) w ≤ 9223372036854775807
theorem mrow_len (a b : Tb) (u : Nat) : (mrow a b u).length = (gt a u).length := by simp [mrow]
theorem mrow_gt (a b : Tb) (u w : Nat) (h : w < (gt a u).length) : gt (mrow a b u) w = mcell a b u w := gt_mapR _ _ _ h
theorem mtab_len (a b : Tb) : (mtab a b).length = a.length := by simp [mtab]
theorem mtab_gt (a b : Tb) (u : Nat) (h : u < a.length) : gt (mtab a b) u = mrow a b u := gt_mapR _ _ _ h
theorem mtab_ext {a b l : Tb} (s : Same2 a l) (h : ∀ u, u < a.length → ∀ w, w < (gt a u).length → gt (gt l u) w = mcell a b u w) : l = mtab a b := by
  refine ext_gt (by rw [mtab_len, s.len]) fun u hu => ?_
  have hu' : u < a.length := by rw [s.len]; exact hu
  rw [mtab_gt a b u hu']
  refine ext_gt (by rw [mrow_len, s.row u hu']) fun w hw => ?_
  have hw' : w < (gt a u).length := by rw [s.row u hu']; exact hw
  rw [mrow_gt a b u w hw', h u hu' w hw']
theorem mtab_same (a b : Tb) : Same2 a (mtab a b) := ⟨(mtab_len a b).symm, fun u hu => by rw [mtab_gt a b u hu, mrow_len]⟩
theorem mean_same (a b : Tb) (h : 0 < a.length) : Same2 a (meanT a b) := (mtab_same a b).trans (upd_same _ _ _ _ (by rw [mtab_len]; omega))
theorem mean_raw {a b : Tb} (h : formS a b = 0) : rawS (meanT a b) = 0 := by
  obtain ⟨g2, g91, g1, g10, ge, gl, gp⟩ := formed_of h
  have s := mean_same a b (by omega)
  have hr : Rect a (gt a 0).length := fun u hu => (gl u hu).1
  have ht := s.rect hr
  have hl := s.len
  have e0 : (gt (meanT a b) 0).length = (gt a 0).length := ht 0 (by omega)
  have cell : ∀ u, u < a.length → ∀ w, w < (gt a u).length → gt (gt (meanT a b) u) w = if a.length - 1 = u ∧ 0 = w then 10000 else mcell a b u w := by
    intro u hu w hw
    rw [meanT, upd_gt _ _ _ _ (by rw [mtab_len]; omega) u w (by rw [mtab_gt a b _ (by omega), mrow_len, hr _ (by omega)]; exact g1)]
    rw [mtab_gt a b u hu, mrow_gt a b u w hw]
  have rng : InRange (meanT a b) := fun u hu w hw => by
    have hu' : u < a.length := by omega
    have hw' : w < (gt a u).length := by rw [ht u hu] at hw; rw [hr u hu']; exact hw
    have p := gp u hu' w hw'
    rw [cell u hu' w hw']
    split
    · exact ⟨by decide, by decide⟩
    · unfold mcell
      split
      · exact ⟨by decide, by decide⟩
      · have := Int.ediv_nonneg p.1 p.2
        exact ⟨by omega, by omega⟩
  have z : Zero0 (meanT a b) := fun w hw => by
    rw [cell 0 (by omega) w (by omega), if_neg (by omega), mcell, if_pos (Or.inl rfl)]
  have f : gt (gt (meanT a b) ((meanT a b).length - 1)) 0 = 10000 := by
    rw [← hl, cell (a.length - 1) (by omega) 0 (by rw [hr _ (by omega)]; exact g1), if_pos ⟨rfl, rfl⟩]
  exact raw_of ⟨by omega, by omega, by omega, by omega, fun u hu => by rw [ht u hu, e0], rng⟩ z f

theorem form_ok (lim : Nat) (H : Heap) (a b : Tb) :
    ACall sig lim 33 [rowsAV a, rowsAV b] H fun r H' => r = AV.i (formS a b) ∧ H' = H := by
  refine ACall_pure (fa := fa33) rfl rfl rfl rfl ?_
  have tr : ∀ a0 a1 : AV, env0 fa33.keep [a0, a1] = [(0, a0), (1, a1), (4, .any), (5, .any), (6, .any), (7, .any), (8, .any), (19, .any), (30, .any), (37, .any), (38, .any), (39, .any), (62, .any), (65, .any), (66, .any), (67, .any), (73, .any), (74, .any), (75, .any), (94, .any)] := fun a0 a1 => rfl
  refine W_to (tr _ _) ?_; clear tr
  refine at_seq rfl ?_
  refine rg rfl ?_
  refine Rq ?_
  have tr : ∀ y0 y1 y4 y5 y6 y7 y8 y19 y30 y37 y38 y39 y62 y65 y66 y67 y73 y74 y75 y94 z0 : AV, trim [(4, z0), (0, y0), (1, y1), (4, y4), (5, y5), (6, y6), (7, y7), (8, y8), (19, y19), (30, y30), (37, y37), (38, y38), (39, y39), (62, y62), (65, y65), (66, y66), (67, y67), (73, y73), (74, y74), (75, y75), (94, y94)] [(0, y0), (1, y1), (4, y4), (5, y5), (6, y6), (7, y7), (8, y8), (19, y19), (30, y30), (37, y37), (38, y38), (39, y39), (62, y62), (65, y65), (66, y66), (67, y67), (73, y73), (74, y74), (75, y75), (94, y94)] = [(0, y0), (1, y1), (4, z0), (5, y5), (6, y6), (7, y7), (8, y8), (19, y19), (30, y30), (37, y37), (38, y38), (39, y39), (62, y62), (65, y65), (66, y66), (67, y67), (73, y73), (74, y74), (75, y75), (94, y94)] := fun y0 y1 y4 y5 y6 y7 y8 y19 y30 y37 y38 y39 y62 y65 y66 y67 y73 y74 y75 y94 z0 => rfl
  refine R_nil (tr _ _ _ _ _ _ _ _ _ _ _ _ _ _ _ _ _ _ _ _ _) ?_; clear tr
  refine then_n ?_
  refine at_seq rfl ?_
  refine at_block rfl ?_
  refine at_seq rfl ?_
  refine rg rfl ?_
  refine Rq ?_
  refine Rq ?_
  refine Rq ?_
  refine Rq ?_
  refine Rp_split (fun h1 => ?_) (fun h1 => ?_)
  · try simp only [decide_eq_true_eq, decide_eq_false_iff_not, Bool.not_eq_true', Bool.not_eq_false', beq_iff_eq, beq_eq_false_iff_ne, ne_eq] at h1
    refine Rn ?_
    refine Rn ?_
    refine Rn ?_
    refine Rn ?_
    refine Rn ?_
    refine Rq ?_
    refine Rq ?_
    have tr : ∀ y0 y1 y4 y5 y6 y7 y8 y19 y30 y37 y38 y39 y62 y65 y66 y67 y73 y74 y75 y94 z0 z1 z2 z3 z4 z5 z6 z7 z8 z9 z10 : AV, trim [(8, z10), (18, z9), (17, z8), (16, z7), (15, z6), (14, z5), (13, z4), (12, z3), (11, z2), (10, z1), (9, z0), (0, y0), (1, y1), (4, y4), (5, y5), (6, y6), (7, y7), (8, y8), (19, y19), (30, y30), (37, y37), (38, y38), (39, y39), (62, y62), (65, y65), (66, y66), (67, y67), (73, y73), (74, y74), (75, y75), (94, y94)] [(0, y0), (1, y1), (4, y4), (5, y5), (6, y6), (7, y7), (8, y8), (19, y19), (30, y30), (37, y37), (38, y38), (39, y39), (62, y62), (65, y65), (66, y66), (67, y67), (73, y73), (74, y74), (75, y75), (94, y94)] = [(0, y0), (1, y1), (4, y4), (5, y5), (6, y6), (7, y7), (8, z10), (19, y19), (30, y30), (37, y37), (38, y38), (39, y39), (62, y62), (65, y65), (66, y66), (67, y67), (73, y73), (74, y74), (75, y75), (94, y94)] := fun y0 y1 y4 y5 y6 y7 y8 y19 y30 y37 y38 y39 y62 y65 y66 y67 y73 y74 y75 y94 z0 z1 z2 z3 z4 z5 z6 z7 z8 z9 z10 => rfl
    refine R_nil (tr _ _ _ _ _ _ _ _ _ _ _ _ _ _ _ _ _ _ _ _ _ _ _ _ _ _ _ _ _ _ _) ?_; clear tr
    refine then_n ?_
    refine cdt ?_
    refine at_seq rfl ?_
    refine rg rfl ?_
    refine Rq ?_
    have tr : ∀ y0 y1 y4 y5 y6 y7 y8 y19 y30 y37 y38 y39 y62 y65 y66 y67 y73 y74 y75 y94 z0 : AV, trim [(4, z0), (0, y0), (1, y1), (4, y4), (5, y5), (6, y6), (7, y7), (8, y8), (19, y19), (30, y30), (37, y37), (38, y38), (39, y39), (62, y62), (65, y65), (66, y66), (67, y67), (73, y73), (74, y74), (75, y75), (94, y94)] [(0, y0), (1, y1), (4, y4), (5, y5), (6, y6), (7, y7), (8, y8), (19, y19), (30, y30), (37, y37), (38, y38), (39, y39), (62, y62), (65, y65), (66, y66), (67, y67), (73, y73), (74, y74), (75, y75), (94, y94)] = [(0, y0), (1, y1), (4, z0), (5, y5), (6, y6), (7, y7), (8, y8), (19, y19), (30, y30), (37, y37), (38, y38), (39, y39), (62, y62), (65, y65), (66, y66), (67, y67), (73, y73), (74, y74), (75, y75), (94, y94)] := fun y0 y1 y4 y5 y6 y7 y8 y19 y30 y37 y38 y39 y62 y65 y66 y67 y73 y74 y75 y94 z0 => rfl
    refine R_nil (tr _ _ _ _ _ _ _ _ _ _ _ _ _ _ _ _ _ _ _ _ _) ?_; clear tr
    refine then_n ?_
    refine at_ret rfl ?_
    refine blk_r ?_
    refine then_r ?_
    refine fpure ?_
    refine ⟨?_, rfl⟩
    rw [formS, if_pos (by omega)]
  · try simp only [decide_eq_true_eq, decide_eq_false_iff_not, Bool.not_eq_true', Bool.not_eq_false', beq_iff_eq, beq_eq_false_iff_ne, ne_eq] at h1
    refine Ry ?_
    refine Rq ?_
    refine Ry ?_
    refine Rq ?_
    refine Ry ?_
    refine Rq ?_
    refine Ry ?_
    refine Rq ?_
    refine Ry ?_
    refine Rq ?_
    refine Rq ?_
    refine Rq ?_
    have tr : ∀ y0 y1 y4 y5 y6 y7 y8 y19 y30 y37 y38 y39 y62 y65 y66 y67 y73 y74 y75 y94 z0 z1 z2 z3 z4 z5 z6 z7 z8 z9 z10 : AV, trim [(8, z10), (18, z9), (17, z8), (16, z7), (15, z6), (14, z5), (13, z4), (12, z3), (11, z2), (10, z1), (9, z0), (0, y0), (1, y1), (4, y4), (5, y5), (6, y6), (7, y7), (8, y8), (19, y19), (30, y30), (37, y37), (38, y38), (39, y39), (62, y62), (65, y65), (66, y66), (67, y67), (73, y73), (74, y74), (75, y75), (94, y94)] [(0, y0), (1, y1), (4, y4), (5, y5), (6, y6), (7, y7), (8, y8), (19, y19), (30, y30), (37, y37), (38, y38), (39, y39), (62, y62), (65, y65), (66, y66), (67, y67), (73, y73), (74, y74), (75, y75), (94, y94)] = [(0, y0), (1, y1), (4, y4), (5, y5), (6, y6), (7, y7), (8, z10), (19, y19), (30, y30), (37, y37), (38, y38), (39, y39), (62, y62), (65, y65), (66, y66), (67, y67), (73, y73), (74, y74), (75, y75), (94, y94)] := fun y0 y1 y4 y5 y6 y7 y8 y19 y30 y37 y38 y39 y62 y65 y66 y67 y73 y74 y75 y94 z0 z1 z2 z3 z4 z5 z6 z7 z8 z9 z10 => rfl
    refine R_nil (tr _ _ _ _ _ _ _ _ _ _ _ _ _ _ _ _ _ _ _ _ _ _ _ _ _ _ _ _ _ _ _) ?_; clear tr
    refine then_n ?_
    refine cdd (fun h2 => ?_) (fun h2 => ?_)
    · try simp only [decide_eq_true_eq, decide_eq_false_iff_not, Bool.not_eq_true', Bool.not_eq_false', beq_iff_eq, beq_eq_false_iff_ne, ne_eq] at h2
      refine at_seq rfl ?_
      refine rg rfl ?_
      refine Rq ?_
      have tr : ∀ y0 y1 y4 y5 y6 y7 y8 y19 y30 y37 y38 y39 y62 y65 y66 y67 y73 y74 y75 y94 z0 : AV, trim [(4, z0), (0, y0), (1, y1), (4, y4), (5, y5), (6, y6), (7, y7), (8, y8), (19, y19), (30, y30), (37, y37), (38, y38), (39, y39), (62, y62), (65, y65), (66, y66), (67, y67), (73, y73), (74, y74), (75, y75), (94, y94)] [(0, y0), (1, y1), (4, y4), (5, y5), (6, y6), (7, y7), (8, y8), (19, y19), (30, y30), (37, y37), (38, y38), (39, y39), (62, y62), (65, y65), (66, y66), (67, y67), (73, y73), (74, y74), (75, y75), (94, y94)] = [(0, y0), (1, y1), (4, z0), (5, y5), (6, y6), (7, y7), (8, y8), (19, y19), (30, y30), (37, y37), (38, y38), (39, y39), (62, y62), (65, y65), (66, y66), (67, y67), (73, y73), (74, y74), (75, y75), (94, y94)] := fun y0 y1 y4 y5 y6 y7 y8 y19 y30 y37 y38 y39 y62 y65 y66 y67 y73 y74 y75 y94 z0 => rfl
      refine R_nil (tr _ _ _ _ _ _ _ _ _ _ _ _ _ _ _ _ _ _ _ _ _) ?_; clear tr
      refine then_n ?_
      refine at_ret rfl ?_
      refine blk_r ?_
      refine then_r ?_
      refine fpure ?_
      refine ⟨?_, rfl⟩
      rw [formS, if_pos (by omega)]
    · try simp only [decide_eq_true_eq, decide_eq_false_iff_not, Bool.not_eq_true', Bool.not_eq_false', beq_iff_eq, beq_eq_false_iff_ne, ne_eq] at h2
      refine at_seq rfl ?_
      refine rg rfl ?_
      refine Rq ?_
      refine Rq ?_
      refine Rq ?_
      refine Rq ?_
      refine Rp_split (fun h3 => ?_) (fun h3 => ?_)
      · try simp only [decide_eq_true_eq, decide_eq_false_iff_not, Bool.not_eq_true', Bool.not_eq_false', beq_iff_eq, beq_eq_false_iff_ne, ne_eq] at h3
        refine Rn ?_
        refine Rn ?_
        refine Rn ?_
        refine Rn ?_
        refine Rn ?_
        refine Rq ?_
        refine Rq ?_
        have tr : ∀ y0 y1 y4 y5 y6 y7 y8 y19 y30 y37 y38 y39 y62 y65 y66 y67 y73 y74 y75 y94 z0 z1 z2 z3 z4 z5 z6 z7 z8 z9 z10 : AV, trim [(19, z10), (29, z9), (28, z8), (27, z7), (26, z6), (25, z5), (24, z4), (23, z3), (22, z2), (21, z1), (20, z0), (0, y0), (1, y1), (4, y4), (5, y5), (6, y6), (7, y7), (8, y8), (19, y19), (30, y30), (37, y37), (38, y38), (39, y39), (62, y62), (65, y65), (66, y66), (67, y67), (73, y73), (74, y74), (75, y75), (94, y94)] [(0, y0), (1, y1), (4, y4), (5, y5), (6, y6), (7, y7), (8, y8), (19, y19), (30, y30), (37, y37), (38, y38), (39, y39), (62, y62), (65, y65), (66, y66), (67, y67), (73, y73), (74, y74), (75, y75), (94, y94)] = [(0, y0), (1, y1), (4, y4), (5, y5), (6, y6), (7, y7), (8, y8), (19, z10), (30, y30), (37, y37), (38, y38), (39, y39), (62, y62), (65, y65), (66, y66), (67, y67), (73, y73), (74, y74), (75, y75), (94, y94)] := fun y0 y1 y4 y5 y6 y7 y8 y19 y30 y37 y38 y39 y62 y65 y66 y67 y73 y74 y75 y94 z0 z1 z2 z3 z4 z5 z6 z7 z8 z9 z10 => rfl
        refine R_nil (tr _ _ _ _ _ _ _ _ _ _ _ _ _ _ _ _ _ _ _ _ _ _ _ _ _ _ _ _ _ _ _) ?_; clear tr
        refine then_n ?_
        refine cdt ?_
        refine at_seq rfl ?_
        refine rg rfl ?_
        refine Rq ?_
        have tr : ∀ y0 y1 y4 y5 y6 y7 y8 y19 y30 y37 y38 y39 y62 y65 y66 y67 y73 y74 y75 y94 z0 : AV, trim [(4, z0), (0, y0), (1, y1), (4, y4), (5, y5), (6, y6), (7, y7), (8, y8), (19, y19), (30, y30), (37, y37), (38, y38), (39, y39), (62, y62), (65, y65), (66, y66), (67, y67), (73, y73), (74, y74), (75, y75), (94, y94)] [(0, y0), (1, y1), (4, y4), (5, y5), (6, y6), (7, y7), (8, y8), (19, y19), (30, y30), (37, y37), (38, y38), (39, y39), (62, y62), (65, y65), (66, y66), (67, y67), (73, y73), (74, y74), (75, y75), (94, y94)] = [(0, y0), (1, y1), (4, z0), (5, y5), (6, y6), (7, y7), (8, y8), (19, y19), (30, y30), (37, y37), (38, y38), (39, y39), (62, y62), (65, y65), (66, y66), (67, y67), (73, y73), (74, y74), (75, y75), (94, y94)] := fun y0 y1 y4 y5 y6 y7 y8 y19 y30 y37 y38 y39 y62 y65 y66 y67 y73 y74 y75 y94 z0 => rfl
        refine R_nil (tr _ _ _ _ _ _ _ _ _ _ _ _ _ _ _ _ _ _ _ _ _) ?_; clear tr
        refine then_n ?_
        refine at_ret rfl ?_
        refine blk_r ?_
        refine then_r ?_
        refine fpure ?_
        refine ⟨?_, rfl⟩
        rw [formS, if_neg (by omega), if_pos (by omega)]
      · try simp only [decide_eq_true_eq, decide_eq_false_iff_not, Bool.not_eq_true', Bool.not_eq_false', beq_iff_eq, beq_eq_false_iff_ne, ne_eq] at h3
        refine Ry ?_
        refine Rq ?_
        refine Ry ?_
        refine Rq ?_
        refine Ry ?_
        refine Rq ?_
        refine Ry ?_
        refine Rq ?_
        refine Ry ?_
        refine Rq ?_
        refine Rq ?_
        refine Rq ?_
        have tr : ∀ y0 y1 y4 y5 y6 y7 y8 y19 y30 y37 y38 y39 y62 y65 y66 y67 y73 y74 y75 y94 z0 z1 z2 z3 z4 z5 z6 z7 z8 z9 z10 : AV, trim [(19, z10), (29, z9), (28, z8), (27, z7), (26, z6), (25, z5), (24, z4), (23, z3), (22, z2), (21, z1), (20, z0), (0, y0), (1, y1), (4, y4), (5, y5), (6, y6), (7, y7), (8, y8), (19, y19), (30, y30), (37, y37), (38, y38), (39, y39), (62, y62), (65, y65), (66, y66), (67, y67), (73, y73), (74, y74), (75, y75), (94, y94)] [(0, y0), (1, y1), (4, y4), (5, y5), (6, y6), (7, y7), (8, y8), (19, y19), (30, y30), (37, y37), (38, y38), (39, y39), (62, y62), (65, y65), (66, y66), (67, y67), (73, y73), (74, y74), (75, y75), (94, y94)] = [(0, y0), (1, y1), (4, y4), (5, y5), (6, y6), (7, y7), (8, y8), (19, z10), (30, y30), (37, y37), (38, y38), (39, y39), (62, y62), (65, y65), (66, y66), (67, y67), (73, y73), (74, y74), (75, y75), (94, y94)] := fun y0 y1 y4 y5 y6 y7 y8 y19 y30 y37 y38 y39 y62 y65 y66 y67 y73 y74 y75 y94 z0 z1 z2 z3 z4 z5 z6 z7 z8 z9 z10 => rfl
        refine R_nil (tr _ _ _ _ _ _ _ _ _ _ _ _ _ _ _ _ _ _ _ _ _ _ _ _ _ _ _ _ _ _ _) ?_; clear tr
        refine then_n ?_
        refine cdd (fun h4 => ?_) (fun h4 => ?_)
        · try simp only [decide_eq_true_eq, decide_eq_false_iff_not, Bool.not_eq_true', Bool.not_eq_false', beq_iff_eq, beq_eq_false_iff_ne, ne_eq] at h4
          refine at_seq rfl ?_
          refine rg rfl ?_
          refine Rq ?_
          have tr : ∀ y0 y1 y4 y5 y6 y7 y8 y19 y30 y37 y38 y39 y62 y65 y66 y67 y73 y74 y75 y94 z0 : AV, trim [(4, z0), (0, y0), (1, y1), (4, y4), (5, y5), (6, y6), (7, y7), (8, y8), (19, y19), (30, y30), (37, y37), (38, y38), (39, y39), (62, y62), (65, y65), (66, y66), (67, y67), (73, y73), (74, y74), (75, y75), (94, y94)] [(0, y0), (1, y1), (4, y4), (5, y5), (6, y6), (7, y7), (8, y8), (19, y19), (30, y30), (37, y37), (38, y38), (39, y39), (62, y62), (65, y65), (66, y66), (67, y67), (73, y73), (74, y74), (75, y75), (94, y94)] = [(0, y0), (1, y1), (4, z0), (5, y5), (6, y6), (7, y7), (8, y8), (19, y19), (30, y30), (37, y37), (38, y38), (39, y39), (62, y62), (65, y65), (66, y66), (67, y67), (73, y73), (74, y74), (75, y75), (94, y94)] := fun y0 y1 y4 y5 y6 y7 y8 y19 y30 y37 y38 y39 y62 y65 y66 y67 y73 y74 y75 y94 z0 => rfl
          refine R_nil (tr _ _ _ _ _ _ _ _ _ _ _ _ _ _ _ _ _ _ _ _ _) ?_; clear tr
          refine then_n ?_
          refine at_ret rfl ?_
          refine blk_r ?_
          refine then_r ?_
          refine fpure ?_
          refine ⟨?_, rfl⟩
          rw [formS, if_neg (by omega), if_pos (by omega)]
        · try simp only [decide_eq_true_eq, decide_eq_false_iff_not, Bool.not_eq_true', Bool.not_eq_false', beq_iff_eq, beq_eq_false_iff_ne, ne_eq] at h4
          refine at_seq rfl ?_
          refine rg rfl ?_
          refine Rq ?_
          refine Rq ?_
          refine Rq ?_
          refine Rq ?_
          refine Rq ?_
          refine Rq ?_
          have tr : ∀ y0 y1 y4 y5 y6 y7 y8 y19 y30 y37 y38 y39 y62 y65 y66 y67 y73 y74 y75 y94 z0 z1 z2 z3 z4 z5 : AV, trim [(30, z5), (35, z4), (34, z3), (33, z2), (32, z1), (31, z0), (0, y0), (1, y1), (4, y4), (5, y5), (6, y6), (7, y7), (8, y8), (19, y19), (30, y30), (37, y37), (38, y38), (39, y39), (62, y62), (65, y65), (66, y66), (67, y67), (73, y73), (74, y74), (75, y75), (94, y94)] [(0, y0), (1, y1), (4, y4), (5, y5), (6, y6), (7, y7), (8, y8), (19, y19), (30, y30), (37, y37), (38, y38), (39, y39), (62, y62), (65, y65), (66, y66), (67, y67), (73, y73), (74, y74), (75, y75), (94, y94)] = [(0, y0), (1, y1), (4, y4), (5, y5), (6, y6), (7, y7), (8, y8), (19, y19), (30, z5), (37, y37), (38, y38), (39, y39), (62, y62), (65, y65), (66, y66), (67, y67), (73, y73), (74, y74), (75, y75), (94, y94)] := fun y0 y1 y4 y5 y6 y7 y8 y19 y30 y37 y38 y39 y62 y65 y66 y67 y73 y74 y75 y94 z0 z1 z2 z3 z4 z5 => rfl
          refine R_nil (tr _ _ _ _ _ _ _ _ _ _ _ _ _ _ _ _ _ _ _ _ _ _ _ _ _ _) ?_; clear tr
          refine then_n ?_
          refine cdd (fun h5 => ?_) (fun h5 => ?_)
          · try simp only [decide_eq_true_eq, decide_eq_false_iff_not, Bool.not_eq_true', Bool.not_eq_false', beq_iff_eq, beq_eq_false_iff_ne, ne_eq] at h5
            refine at_seq rfl ?_
            refine rg rfl ?_
            refine Rq ?_
            have tr : ∀ y0 y1 y4 y5 y6 y7 y8 y19 y30 y37 y38 y39 y62 y65 y66 y67 y73 y74 y75 y94 z0 : AV, trim [(4, z0), (0, y0), (1, y1), (4, y4), (5, y5), (6, y6), (7, y7), (8, y8), (19, y19), (30, y30), (37, y37), (38, y38), (39, y39), (62, y62), (65, y65), (66, y66), (67, y67), (73, y73), (74, y74), (75, y75), (94, y94)] [(0, y0), (1, y1), (4, y4), (5, y5), (6, y6), (7, y7), (8, y8), (19, y19), (30, y30), (37, y37), (38, y38), (39, y39), (62, y62), (65, y65), (66, y66), (67, y67), (73, y73), (74, y74), (75, y75), (94, y94)] = [(0, y0), (1, y1), (4, z0), (5, y5), (6, y6), (7, y7), (8, y8), (19, y19), (30, y30), (37, y37), (38, y38), (39, y39), (62, y62), (65, y65), (66, y66), (67, y67), (73, y73), (74, y74), (75, y75), (94, y94)] := fun y0 y1 y4 y5 y6 y7 y8 y19 y30 y37 y38 y39 y62 y65 y66 y67 y73 y74 y75 y94 z0 => rfl
            refine R_nil (tr _ _ _ _ _ _ _ _ _ _ _ _ _ _ _ _ _ _ _ _ _) ?_; clear tr
            refine then_n ?_
            refine at_ret rfl ?_
            refine blk_r ?_
            refine then_r ?_
            refine fpure ?_
            refine ⟨?_, rfl⟩
            rw [formS, if_neg (by omega), if_neg (by omega), if_pos (by omega)]
          · try simp only [decide_eq_true_eq, decide_eq_false_iff_not, Bool.not_eq_true', Bool.not_eq_false', beq_iff_eq, beq_eq_false_iff_ne, ne_eq] at h5
            refine at_skip rfl ?_
            refine blk_n ?_
            refine then_n ?_
            refine at_seq rfl ?_
            refine at_seq rfl ?_
            refine rg rfl ?_
            refine Rq ?_
            refine Rq ?_
            refine Rq ?_
            have tr : ∀ y0 y1 y4 y5 y6 y7 y8 y19 y30 y37 y38 y39 y62 y65 y66 y67 y73 y74 y75 y94 z0 z1 z2 : AV, trim [(38, z2), (37, z1), (36, z0), (0, y0), (1, y1), (4, y4), (5, y5), (6, y6), (7, y7), (8, y8), (19, y19), (30, y30), (37, y37), (38, y38), (39, y39), (62, y62), (65, y65), (66, y66), (67, y67), (73, y73), (74, y74), (75, y75), (94, y94)] [(0, y0), (1, y1), (4, y4), (5, y5), (6, y6), (7, y7), (8, y8), (19, y19), (30, y30), (37, y37), (38, y38), (39, y39), (62, y62), (65, y65), (66, y66), (67, y67), (73, y73), (74, y74), (75, y75), (94, y94)] = [(0, y0), (1, y1), (4, y4), (5, y5), (6, y6), (7, y7), (8, y8), (19, y19), (30, y30), (37, z1), (38, z2), (39, y39), (62, y62), (65, y65), (66, y66), (67, y67), (73, y73), (74, y74), (75, y75), (94, y94)] := fun y0 y1 y4 y5 y6 y7 y8 y19 y30 y37 y38 y39 y62 y65 y66 y67 y73 y74 y75 y94 z0 z1 z2 => rfl
            refine R_nil (tr _ _ _ _ _ _ _ _ _ _ _ _ _ _ _ _ _ _ _ _ _ _ _) ?_; clear tr
            refine then_n ?_
            refine at_block rfl ?_
            refine loop_n rfl (fun mm kv H' => ∃ u : Nat, ∃ x4 x5 x39 x62 : AV, (kv = [(4, x4), (5, x5), (38, AV.i u), (39, x39), (62, x62)]) ∧ (mm = a.length - u) ∧ (H = H') ∧ (u ≤ a.length) ∧ (∀ i, i < u → (gt a i).length = (gt a 0).length ∧ (gt b i).length = (gt a 0).length)) ⟨0, _, _, _, _, rfl, rfl, by rfl, by omega, by intro i hi; omega⟩ (by rfl) ?_
            rintro mm kv H2 ⟨u, x4, x5, x39, x62, rfl, rfl, hX, hu, hq⟩
            have tr : ∀ y0 y1 y4 y5 y6 y7 y8 y19 y30 y37 y38 y39 y62 y65 y66 y67 y73 y74 y75 y94 z4 z5 z38 z39 z62 : AV, upd [(0, y0), (1, y1), (4, y4), (5, y5), (6, y6), (7, y7), (8, y8), (19, y19), (30, y30), (37, y37), (38, y38), (39, y39), (62, y62), (65, y65), (66, y66), (67, y67), (73, y73), (74, y74), (75, y75), (94, y94)] [(4, z4), (5, z5), (38, z38), (39, z39), (62, z62)] = [(0, y0), (1, y1), (4, z4), (5, z5), (6, y6), (7, y7), (8, y8), (19, y19), (30, y30), (37, y37), (38, z38), (39, z39), (62, z62), (65, y65), (66, y66), (67, y67), (73, y73), (74, y74), (75, y75), (94, y94)] := fun y0 y1 y4 y5 y6 y7 y8 y19 y30 y37 y38 y39 y62 y65 y66 y67 y73 y74 y75 y94 z4 z5 z38 z39 z62 => rfl
            refine W_to (tr _ _ _ _ _ _ _ _ _ _ _ _ _ _ _ _ _ _ _ _ _ _ _ _ _) ?_; clear tr
            subst hX
            refine at_seq rfl ?_
            refine rg rfl ?_
            refine Rq ?_
            have tr : ∀ y0 y1 y4 y5 y6 y7 y8 y19 y30 y37 y38 y39 y62 y65 y66 y67 y73 y74 y75 y94 z0 : AV, trim [(39, z0), (0, y0), (1, y1), (4, y4), (5, y5), (6, y6), (7, y7), (8, y8), (19, y19), (30, y30), (37, y37), (38, y38), (39, y39), (62, y62), (65, y65), (66, y66), (67, y67), (73, y73), (74, y74), (75, y75), (94, y94)] [(0, y0), (1, y1), (4, y4), (5, y5), (6, y6), (7, y7), (8, y8), (19, y19), (30, y30), (37, y37), (38, y38), (39, y39), (62, y62), (65, y65), (66, y66), (67, y67), (73, y73), (74, y74), (75, y75), (94, y94)] = [(0, y0), (1, y1), (4, y4), (5, y5), (6, y6), (7, y7), (8, y8), (19, y19), (30, y30), (37, y37), (38, y38), (39, z0), (62, y62), (65, y65), (66, y66), (67, y67), (73, y73), (74, y74), (75, y75), (94, y94)] := fun y0 y1 y4 y5 y6 y7 y8 y19 y30 y37 y38 y39 y62 y65 y66 y67 y73 y74 y75 y94 z0 => rfl
            refine R_nil (tr _ _ _ _ _ _ _ _ _ _ _ _ _ _ _ _ _ _ _ _ _) ?_; clear tr
            refine then_n ?_
            refine at_seq rfl ?_
            refine cdd (fun h6 => ?_) (fun h6 => ?_)
            · try simp only [decide_eq_true_eq, decide_eq_false_iff_not, Bool.not_eq_true', Bool.not_eq_false', beq_iff_eq, beq_eq_false_iff_ne, ne_eq] at h6
              refine at_skip rfl ?_
              refine then_n ?_
              refine at_seq rfl ?_
              refine at_block rfl ?_
              refine at_seq rfl ?_
              refine rg rfl ?_
              refine Rq ?_
              refine Rq ?_
              have tr : ∀ y0 y1 y4 y5 y6 y7 y8 y19 y30 y37 y38 y39 y62 y65 y66 y67 y73 y74 y75 y94 z0 z1 : AV, trim [(5, z1), (40, z0), (0, y0), (1, y1), (4, y4), (5, y5), (6, y6), (7, y7), (8, y8), (19, y19), (30, y30), (37, y37), (38, y38), (39, y39), (62, y62), (65, y65), (66, y66), (67, y67), (73, y73), (74, y74), (75, y75), (94, y94)] [(0, y0), (1, y1), (4, y4), (5, y5), (6, y6), (7, y7), (8, y8), (19, y19), (30, y30), (37, y37), (38, y38), (39, y39), (62, y62), (65, y65), (66, y66), (67, y67), (73, y73), (74, y74), (75, y75), (94, y94)] = [(0, y0), (1, y1), (4, y4), (5, z1), (6, y6), (7, y7), (8, y8), (19, y19), (30, y30), (37, y37), (38, y38), (39, y39), (62, y62), (65, y65), (66, y66), (67, y67), (73, y73), (74, y74), (75, y75), (94, y94)] := fun y0 y1 y4 y5 y6 y7 y8 y19 y30 y37 y38 y39 y62 y65 y66 y67 y73 y74 y75 y94 z0 z1 => rfl
              refine R_nil (tr _ _ _ _ _ _ _ _ _ _ _ _ _ _ _ _ _ _ _ _ _ _) ?_; clear tr
              refine then_n ?_
              refine at_seq rfl ?_
              refine rd rfl rfl ?_
              refine Qq ?_
              refine Qq ?_
              refine Qq ?_
              refine Qq ?_
              refine Qq ?_
              refine Qq ?_
              refine Qq ?_
              refine Qq ?_
              refine Qq ?_
              refine Qq ?_
              refine Qq ?_
              refine Qp_split (fun h7 => ?_) (fun h7 => ?_)
              · try simp only [decide_eq_true_eq, decide_eq_false_iff_not, Bool.not_eq_true', Bool.not_eq_false', beq_iff_eq, beq_eq_false_iff_ne, ne_eq] at h7
                refine Qn ?_
                refine Qn ?_
                refine Qn ?_
                refine Qn ?_
                refine Qn ?_
                refine Qn ?_
                refine Qn ?_
                refine Qn ?_
                refine Qn ?_
                refine Qn ?_
                refine Qq ?_
                refine Q_nil ?_
                have tr : ∀ y0 y1 y4 y5 y6 y7 y8 y19 y30 y37 y38 y39 y62 y65 y66 y67 y73 y74 y75 y94 z0 z1 z2 z3 z4 z5 z6 z7 z8 z9 z10 z11 z12 z13 z14 z15 z16 z17 z18 z19 z20 z21 : AV, trim [(62, z21), (61, z20), (60, z19), (59, z18), (58, z17), (57, z16), (56, z15), (55, z14), (54, z13), (53, z12), (52, z11), (51, z10), (50, z9), (49, z8), (48, z7), (47, z6), (46, z5), (45, z4), (44, z3), (43, z2), (42, z1), (41, z0), (0, y0), (1, y1), (4, y4), (5, y5), (6, y6), (7, y7), (8, y8), (19, y19), (30, y30), (37, y37), (38, y38), (39, y39), (62, y62), (65, y65), (66, y66), (67, y67), (73, y73), (74, y74), (75, y75), (94, y94)] [(0, y0), (1, y1), (4, y4), (5, y5), (6, y6), (7, y7), (8, y8), (19, y19), (30, y30), (37, y37), (38, y38), (39, y39), (62, y62), (65, y65), (66, y66), (67, y67), (73, y73), (74, y74), (75, y75), (94, y94)] = [(0, y0), (1, y1), (4, y4), (5, y5), (6, y6), (7, y7), (8, y8), (19, y19), (30, y30), (37, y37), (38, y38), (39, y39), (62, z21), (65, y65), (66, y66), (67, y67), (73, y73), (74, y74), (75, y75), (94, y94)] := fun y0 y1 y4 y5 y6 y7 y8 y19 y30 y37 y38 y39 y62 y65 y66 y67 y73 y74 y75 y94 z0 z1 z2 z3 z4 z5 z6 z7 z8 z9 z10 z11 z12 z13 z14 z15 z16 z17 z18 z19 z20 z21 => rfl
                refine R_nil (tr _ _ _ _ _ _ _ _ _ _ _ _ _ _ _ _ _ _ _ _ _ _ _ _ _ _ _ _ _ _ _ _ _ _ _ _ _ _ _ _ _ _) ?_; clear tr
                refine then_n ?_
                refine cdt ?_
                refine at_seq rfl ?_
                refine rg rfl ?_
                refine Rq ?_
                have tr : ∀ y0 y1 y4 y5 y6 y7 y8 y19 y30 y37 y38 y39 y62 y65 y66 y67 y73 y74 y75 y94 z0 : AV, trim [(4, z0), (0, y0), (1, y1), (4, y4), (5, y5), (6, y6), (7, y7), (8, y8), (19, y19), (30, y30), (37, y37), (38, y38), (39, y39), (62, y62), (65, y65), (66, y66), (67, y67), (73, y73), (74, y74), (75, y75), (94, y94)] [(0, y0), (1, y1), (4, y4), (5, y5), (6, y6), (7, y7), (8, y8), (19, y19), (30, y30), (37, y37), (38, y38), (39, y39), (62, y62), (65, y65), (66, y66), (67, y67), (73, y73), (74, y74), (75, y75), (94, y94)] = [(0, y0), (1, y1), (4, z0), (5, y5), (6, y6), (7, y7), (8, y8), (19, y19), (30, y30), (37, y37), (38, y38), (39, y39), (62, y62), (65, y65), (66, y66), (67, y67), (73, y73), (74, y74), (75, y75), (94, y94)] := fun y0 y1 y4 y5 y6 y7 y8 y19 y30 y37 y38 y39 y62 y65 y66 y67 y73 y74 y75 y94 z0 => rfl
                refine R_nil (tr _ _ _ _ _ _ _ _ _ _ _ _ _ _ _ _ _ _ _ _ _) ?_; clear tr
                refine then_n ?_
                refine at_ret rfl ?_
                refine blk_r ?_
                refine then_r ?_
                refine then_r ?_
                refine blk_r ?_
                refine then_r ?_
                refine fpure ?_
                refine ⟨?_, rfl⟩
                rw [formS, if_neg (by omega), if_neg (by omega), if_neg (by omega), if_pos (fun hh => absurd (hh u (by omega)) (by omega))]
              · try simp only [decide_eq_true_eq, decide_eq_false_iff_not, Bool.not_eq_true', Bool.not_eq_false', beq_iff_eq, beq_eq_false_iff_ne, ne_eq] at h7
                refine Qy ?_
                refine Qq ?_
                refine Qy ?_
                refine Qq ?_
                refine Qy ?_
                refine Qq ?_
                refine Qy ?_
                refine Qq ?_
                refine Qy ?_
                refine Qq ?_
                refine Qy ?_
                refine Qq ?_
                refine Qy ?_
                refine Qq ?_
                refine Qy ?_
                refine Qq ?_
                refine Qy ?_
                refine Qq ?_
                refine Qy ?_
                refine Qq ?_
                refine Qq ?_
                refine Q_nil ?_
                have tr : ∀ y0 y1 y4 y5 y6 y7 y8 y19 y30 y37 y38 y39 y62 y65 y66 y67 y73 y74 y75 y94 z0 z1 z2 z3 z4 z5 z6 z7 z8 z9 z10 z11 z12 z13 z14 z15 z16 z17 z18 z19 z20 z21 : AV, trim [(62, z21), (61, z20), (60, z19), (59, z18), (58, z17), (57, z16), (56, z15), (55, z14), (54, z13), (53, z12), (52, z11), (51, z10), (50, z9), (49, z8), (48, z7), (47, z6), (46, z5), (45, z4), (44, z3), (43, z2), (42, z1), (41, z0), (0, y0), (1, y1), (4, y4), (5, y5), (6, y6), (7, y7), (8, y8), (19, y19), (30, y30), (37, y37), (38, y38), (39, y39), (62, y62), (65, y65), (66, y66), (67, y67), (73, y73), (74, y74), (75, y75), (94, y94)] [(0, y0), (1, y1), (4, y4), (5, y5), (6, y6), (7, y7), (8, y8), (19, y19), (30, y30), (37, y37), (38, y38), (39, y39), (62, y62), (65, y65), (66, y66), (67, y67), (73, y73), (74, y74), (75, y75), (94, y94)] = [(0, y0), (1, y1), (4, y4), (5, y5), (6, y6), (7, y7), (8, y8), (19, y19), (30, y30), (37, y37), (38, y38), (39, y39), (62, z21), (65, y65), (66, y66), (67, y67), (73, y73), (74, y74), (75, y75), (94, y94)] := fun y0 y1 y4 y5 y6 y7 y8 y19 y30 y37 y38 y39 y62 y65 y66 y67 y73 y74 y75 y94 z0 z1 z2 z3 z4 z5 z6 z7 z8 z9 z10 z11 z12 z13 z14 z15 z16 z17 z18 z19 z20 z21 => rfl
                refine R_nil (tr _ _ _ _ _ _ _ _ _ _ _ _ _ _ _ _ _ _ _ _ _ _ _ _ _ _ _ _ _ _ _ _ _ _ _ _ _ _ _ _ _ _) ?_; clear tr
                refine then_n ?_
                refine cdd (fun h8 => ?_) (fun h8 => ?_)
                · try simp only [decide_eq_true_eq, decide_eq_false_iff_not, Bool.not_eq_true', Bool.not_eq_false', beq_iff_eq, beq_eq_false_iff_ne, ne_eq] at h8
                  refine at_seq rfl ?_
                  refine rg rfl ?_
                  refine Rq ?_
                  have tr : ∀ y0 y1 y4 y5 y6 y7 y8 y19 y30 y37 y38 y39 y62 y65 y66 y67 y73 y74 y75 y94 z0 : AV, trim [(4, z0), (0, y0), (1, y1), (4, y4), (5, y5), (6, y6), (7, y7), (8, y8), (19, y19), (30, y30), (37, y37), (38, y38), (39, y39), (62, y62), (65, y65), (66, y66), (67, y67), (73, y73), (74, y74), (75, y75), (94, y94)] [(0, y0), (1, y1), (4, y4), (5, y5), (6, y6), (7, y7), (8, y8), (19, y19), (30, y30), (37, y37), (38, y38), (39, y39), (62, y62), (65, y65), (66, y66), (67, y67), (73, y73), (74, y74), (75, y75), (94, y94)] = [(0, y0), (1, y1), (4, z0), (5, y5), (6, y6), (7, y7), (8, y8), (19, y19), (30, y30), (37, y37), (38, y38), (39, y39), (62, y62), (65, y65), (66, y66), (67, y67), (73, y73), (74, y74), (75, y75), (94, y94)] := fun y0 y1 y4 y5 y6 y7 y8 y19 y30 y37 y38 y39 y62 y65 y66 y67 y73 y74 y75 y94 z0 => rfl
                  refine R_nil (tr _ _ _ _ _ _ _ _ _ _ _ _ _ _ _ _ _ _ _ _ _) ?_; clear tr
                  refine then_n ?_
                  refine at_ret rfl ?_
                  refine blk_r ?_
                  refine then_r ?_
                  refine then_r ?_
                  refine blk_r ?_
                  refine then_r ?_
                  refine fpure ?_
                  refine ⟨?_, rfl⟩
                  rw [formS, if_neg (by omega), if_neg (by omega), if_neg (by omega), if_pos (fun hh => absurd (hh u (by omega)) (by omega))]
                · try simp only [decide_eq_true_eq, decide_eq_false_iff_not, Bool.not_eq_true', Bool.not_eq_false', beq_iff_eq, beq_eq_false_iff_ne, ne_eq] at h8
                  refine at_skip rfl ?_
                  refine blk_n ?_
                  refine then_n ?_
                  refine rg rfl ?_
                  refine Rq ?_
                  refine Rq ?_
                  have tr : ∀ y0 y1 y4 y5 y6 y7 y8 y19 y30 y37 y38 y39 y62 y65 y66 y67 y73 y74 y75 y94 z0 z1 : AV, trim [(38, z1), (63, z0), (0, y0), (1, y1), (4, y4), (5, y5), (6, y6), (7, y7), (8, y8), (19, y19), (30, y30), (37, y37), (38, y38), (39, y39), (62, y62), (65, y65), (66, y66), (67, y67), (73, y73), (74, y74), (75, y75), (94, y94)] [(0, y0), (1, y1), (4, y4), (5, y5), (6, y6), (7, y7), (8, y8), (19, y19), (30, y30), (37, y37), (38, y38), (39, y39), (62, y62), (65, y65), (66, y66), (67, y67), (73, y73), (74, y74), (75, y75), (94, y94)] = [(0, y0), (1, y1), (4, y4), (5, y5), (6, y6), (7, y7), (8, y8), (19, y19), (30, y30), (37, y37), (38, z1), (39, y39), (62, y62), (65, y65), (66, y66), (67, y67), (73, y73), (74, y74), (75, y75), (94, y94)] := fun y0 y1 y4 y5 y6 y7 y8 y19 y30 y37 y38 y39 y62 y65 y66 y67 y73 y74 y75 y94 z0 z1 => rfl
                  refine R_nil (tr _ _ _ _ _ _ _ _ _ _ _ _ _ _ _ _ _ _ _ _ _ _) ?_; clear tr
                  refine then_n ?_
                  exact ⟨_, _, ⟨u + 1, _, _, _, _, rfl, rfl, by rfl, by omega, by exact all_step hq (by omega)⟩, by rfl, by omega⟩
            · try simp only [decide_eq_true_eq, decide_eq_false_iff_not, Bool.not_eq_true', Bool.not_eq_false', beq_iff_eq, beq_eq_false_iff_ne, ne_eq] at h6
              refine at_exit rfl ?_
              refine then_x ?_
              refine then_x ?_
              refine blk_x ?_
              refine then_n ?_
              refine at_seq rfl ?_
              refine at_seq rfl ?_
              refine rg rfl ?_
              have hq3 : FLen a b := fun i hi => hq i (by omega)
              refine Rq ?_
              refine Rq ?_
              refine Rq ?_
              have tr : ∀ y0 y1 y4 y5 y6 y7 y8 y19 y30 y37 y38 y39 y62 y65 y66 y67 y73 y74 y75 y94 z0 z1 z2 : AV, trim [(66, z2), (65, z1), (64, z0), (0, y0), (1, y1), (4, y4), (5, y5), (6, y6), (7, y7), (8, y8), (19, y19), (30, y30), (37, y37), (38, y38), (39, y39), (62, y62), (65, y65), (66, y66), (67, y67), (73, y73), (74, y74), (75, y75), (94, y94)] [(0, y0), (1, y1), (4, y4), (5, y5), (6, y6), (7, y7), (8, y8), (19, y19), (30, y30), (37, y37), (38, y38), (39, y39), (62, y62), (65, y65), (66, y66), (67, y67), (73, y73), (74, y74), (75, y75), (94, y94)] = [(0, y0), (1, y1), (4, y4), (5, y5), (6, y6), (7, y7), (8, y8), (19, y19), (30, y30), (37, y37), (38, y38), (39, y39), (62, y62), (65, z1), (66, z2), (67, y67), (73, y73), (74, y74), (75, y75), (94, y94)] := fun y0 y1 y4 y5 y6 y7 y8 y19 y30 y37 y38 y39 y62 y65 y66 y67 y73 y74 y75 y94 z0 z1 z2 => rfl
              refine R_nil (tr _ _ _ _ _ _ _ _ _ _ _ _ _ _ _ _ _ _ _ _ _ _ _) ?_; clear tr
              refine then_n ?_
              refine at_block rfl ?_
              refine loop_n rfl (fun mm kv H' => ∃ v : Nat, ∃ x4 x6 x7 x67 x73 x74 x75 x94 : AV, (kv = [(4, x4), (6, x6), (7, x7), (66, AV.i v), (67, x67), (73, x73), (74, x74), (75, x75), (94, x94)]) ∧ (mm = a.length - v) ∧ (H = H') ∧ (v ≤ a.length) ∧ (∀ i, i < v → ∀ w, w < (gt a i).length → 0 ≤ gt (gt a i) w ∧ 0 ≤ gt (gt b i) w)) ⟨0, _, _, _, _, _, _, _, _, rfl, rfl, by rfl, by omega, by intro i hi; omega⟩ (by rfl) ?_
              rintro mm kv H2 ⟨v, x4, x6, x7, x67, x73, x74, x75, x94, rfl, rfl, hX, hv, hr⟩
              have tr : ∀ y0 y1 y4 y5 y6 y7 y8 y19 y30 y37 y38 y39 y62 y65 y66 y67 y73 y74 y75 y94 z4 z6 z7 z66 z67 z73 z74 z75 z94 : AV, upd [(0, y0), (1, y1), (4, y4), (5, y5), (6, y6), (7, y7), (8, y8), (19, y19), (30, y30), (37, y37), (38, y38), (39, y39), (62, y62), (65, y65), (66, y66), (67, y67), (73, y73), (74, y74), (75, y75), (94, y94)] [(4, z4), (6, z6), (7, z7), (66, z66), (67, z67), (73, z73), (74, z74), (75, z75), (94, z94)] = [(0, y0), (1, y1), (4, z4), (5, y5), (6, z6), (7, z7), (8, y8), (19, y19), (30, y30), (37, y37), (38, y38), (39, y39), (62, y62), (65, y65), (66, z66), (67, z67), (73, z73), (74, z74), (75, z75), (94, z94)] := fun y0 y1 y4 y5 y6 y7 y8 y19 y30 y37 y38 y39 y62 y65 y66 y67 y73 y74 y75 y94 z4 z6 z7 z66 z67 z73 z74 z75 z94 => rfl
              refine W_to (tr _ _ _ _ _ _ _ _ _ _ _ _ _ _ _ _ _ _ _ _ _ _ _ _ _ _ _ _ _) ?_; clear tr
              subst hX
              refine at_seq rfl ?_
              refine rg rfl ?_
              refine Rq ?_
              have tr : ∀ y0 y1 y4 y5 y6 y7 y8 y19 y30 y37 y38 y39 y62 y65 y66 y67 y73 y74 y75 y94 z0 : AV, trim [(67, z0), (0, y0), (1, y1), (4, y4), (5, y5), (6, y6), (7, y7), (8, y8), (19, y19), (30, y30), (37, y37), (38, y38), (39, y39), (62, y62), (65, y65), (66, y66), (67, y67), (73, y73), (74, y74), (75, y75), (94, y94)] [(0, y0), (1, y1), (4, y4), (5, y5), (6, y6), (7, y7), (8, y8), (19, y19), (30, y30), (37, y37), (38, y38), (39, y39), (62, y62), (65, y65), (66, y66), (67, y67), (73, y73), (74, y74), (75, y75), (94, y94)] = [(0, y0), (1, y1), (4, y4), (5, y5), (6, y6), (7, y7), (8, y8), (19, y19), (30, y30), (37, y37), (38, y38), (39, y39), (62, y62), (65, y65), (66, y66), (67, z0), (73, y73), (74, y74), (75, y75), (94, y94)] := fun y0 y1 y4 y5 y6 y7 y8 y19 y30 y37 y38 y39 y62 y65 y66 y67 y73 y74 y75 y94 z0 => rfl
              refine R_nil (tr _ _ _ _ _ _ _ _ _ _ _ _ _ _ _ _ _ _ _ _ _) ?_; clear tr
              refine then_n ?_
              refine at_seq rfl ?_
              refine cdd (fun h9 => ?_) (fun h9 => ?_)
              · try simp only [decide_eq_true_eq, decide_eq_false_iff_not, Bool.not_eq_true', Bool.not_eq_false', beq_iff_eq, beq_eq_false_iff_ne, ne_eq] at h9
                refine at_skip rfl ?_
                refine then_n ?_
                refine at_seq rfl ?_
                refine at_block rfl ?_
                refine at_seq rfl ?_
                refine rg rfl ?_
                refine Rq ?_
                refine Rq ?_
                have tr : ∀ y0 y1 y4 y5 y6 y7 y8 y19 y30 y37 y38 y39 y62 y65 y66 y67 y73 y74 y75 y94 z0 z1 : AV, trim [(6, z1), (68, z0), (0, y0), (1, y1), (4, y4), (5, y5), (6, y6), (7, y7), (8, y8), (19, y19), (30, y30), (37, y37), (38, y38), (39, y39), (62, y62), (65, y65), (66, y66), (67, y67), (73, y73), (74, y74), (75, y75), (94, y94)] [(0, y0), (1, y1), (4, y4), (5, y5), (6, y6), (7, y7), (8, y8), (19, y19), (30, y30), (37, y37), (38, y38), (39, y39), (62, y62), (65, y65), (66, y66), (67, y67), (73, y73), (74, y74), (75, y75), (94, y94)] = [(0, y0), (1, y1), (4, y4), (5, y5), (6, z1), (7, y7), (8, y8), (19, y19), (30, y30), (37, y37), (38, y38), (39, y39), (62, y62), (65, y65), (66, y66), (67, y67), (73, y73), (74, y74), (75, y75), (94, y94)] := fun y0 y1 y4 y5 y6 y7 y8 y19 y30 y37 y38 y39 y62 y65 y66 y67 y73 y74 y75 y94 z0 z1 => rfl
                refine R_nil (tr _ _ _ _ _ _ _ _ _ _ _ _ _ _ _ _ _ _ _ _ _ _) ?_; clear tr
                refine then_n ?_
                refine at_seq rfl ?_
                refine rg rfl ?_
                have hlv := hq3 v (by omega)
                refine Rq ?_
                refine Rq ?_
                refine Rq ?_
                refine Rq ?_
                refine Rq ?_
                refine Rq ?_
                have tr : ∀ y0 y1 y4 y5 y6 y7 y8 y19 y30 y37 y38 y39 y62 y65 y66 y67 y73 y74 y75 y94 z0 z1 z2 z3 z4 z5 : AV, trim [(74, z5), (73, z4), (72, z3), (71, z2), (70, z1), (69, z0), (0, y0), (1, y1), (4, y4), (5, y5), (6, y6), (7, y7), (8, y8), (19, y19), (30, y30), (37, y37), (38, y38), (39, y39), (62, y62), (65, y65), (66, y66), (67, y67), (73, y73), (74, y74), (75, y75), (94, y94)] [(0, y0), (1, y1), (4, y4), (5, y5), (6, y6), (7, y7), (8, y8), (19, y19), (30, y30), (37, y37), (38, y38), (39, y39), (62, y62), (65, y65), (66, y66), (67, y67), (73, y73), (74, y74), (75, y75), (94, y94)] = [(0, y0), (1, y1), (4, y4), (5, y5), (6, y6), (7, y7), (8, y8), (19, y19), (30, y30), (37, y37), (38, y38), (39, y39), (62, y62), (65, y65), (66, y66), (67, y67), (73, z4), (74, z5), (75, y75), (94, y94)] := fun y0 y1 y4 y5 y6 y7 y8 y19 y30 y37 y38 y39 y62 y65 y66 y67 y73 y74 y75 y94 z0 z1 z2 z3 z4 z5 => rfl
                refine R_nil (tr _ _ _ _ _ _ _ _ _ _ _ _ _ _ _ _ _ _ _ _ _ _ _ _ _ _) ?_; clear tr
                refine then_n ?_
                refine at_block rfl ?_
                refine loop_n rfl (fun mm kv H' => ∃ w : Nat, ∃ x4 x7 x75 x94 : AV, (kv = [(4, x4), (7, x7), (74, AV.i w), (75, x75), (94, x94)]) ∧ (mm = (gt a v).length - w) ∧ (H = H') ∧ (w ≤ (gt a v).length) ∧ (∀ j, j < w → 0 ≤ gt (gt a v) j ∧ 0 ≤ gt (gt b v) j)) ⟨0, _, _, _, _, rfl, rfl, by rfl, by omega, by intro j hj; omega⟩ (by rfl) ?_
                rintro mm kv H2 ⟨w, x4, x7, x75, x94, rfl, rfl, hX, hw, hs⟩
                have tr : ∀ y0 y1 y4 y5 y6 y7 y8 y19 y30 y37 y38 y39 y62 y65 y66 y67 y73 y74 y75 y94 z4 z7 z74 z75 z94 : AV, upd [(0, y0), (1, y1), (4, y4), (5, y5), (6, y6), (7, y7), (8, y8), (19, y19), (30, y30), (37, y37), (38, y38), (39, y39), (62, y62), (65, y65), (66, y66), (67, y67), (73, y73), (74, y74), (75, y75), (94, y94)] [(4, z4), (7, z7), (74, z74), (75, z75), (94, z94)] = [(0, y0), (1, y1), (4, z4), (5, y5), (6, y6), (7, z7), (8, y8), (19, y19), (30, y30), (37, y37), (38, y38), (39, y39), (62, y62), (65, y65), (66, y66), (67, y67), (73, y73), (74, z74), (75, z75), (94, z94)] := fun y0 y1 y4 y5 y6 y7 y8 y19 y30 y37 y38 y39 y62 y65 y66 y67 y73 y74 y75 y94 z4 z7 z74 z75 z94 => rfl
                refine W_to (tr _ _ _ _ _ _ _ _ _ _ _ _ _ _ _ _ _ _ _ _ _ _ _ _ _) ?_; clear tr
                subst hX
                have hlv := hq3 v (by omega)
                refine at_seq rfl ?_
                refine rg rfl ?_
                refine Rq ?_
                have tr : ∀ y0 y1 y4 y5 y6 y7 y8 y19 y30 y37 y38 y39 y62 y65 y66 y67 y73 y74 y75 y94 z0 : AV, trim [(75, z0), (0, y0), (1, y1), (4, y4), (5, y5), (6, y6), (7, y7), (8, y8), (19, y19), (30, y30), (37, y37), (38, y38), (39, y39), (62, y62), (65, y65), (66, y66), (67, y67), (73, y73), (74, y74), (75, y75), (94, y94)] [(0, y0), (1, y1), (4, y4), (5, y5), (6, y6), (7, y7), (8, y8), (19, y19), (30, y30), (37, y37), (38, y38), (39, y39), (62, y62), (65, y65), (66, y66), (67, y67), (73, y73), (74, y74), (75, y75), (94, y94)] = [(0, y0), (1, y1), (4, y4), (5, y5), (6, y6), (7, y7), (8, y8), (19, y19), (30, y30), (37, y37), (38, y38), (39, y39), (62, y62), (65, y65), (66, y66), (67, y67), (73, y73), (74, y74), (75, z0), (94, y94)] := fun y0 y1 y4 y5 y6 y7 y8 y19 y30 y37 y38 y39 y62 y65 y66 y67 y73 y74 y75 y94 z0 => rfl
                refine R_nil (tr _ _ _ _ _ _ _ _ _ _ _ _ _ _ _ _ _ _ _ _ _) ?_; clear tr
                refine then_n ?_
                refine at_seq rfl ?_
                refine cdd (fun h10 => ?_) (fun h10 => ?_)
                · try simp only [decide_eq_true_eq, decide_eq_false_iff_not, Bool.not_eq_true', Bool.not_eq_false', beq_iff_eq, beq_eq_false_iff_ne, ne_eq] at h10
                  refine at_skip rfl ?_
                  refine then_n ?_
                  refine at_seq rfl ?_
                  refine at_block rfl ?_
                  refine at_seq rfl ?_
                  refine rg rfl ?_
                  refine Rq ?_
                  refine Rq ?_
                  have tr : ∀ y0 y1 y4 y5 y6 y7 y8 y19 y30 y37 y38 y39 y62 y65 y66 y67 y73 y74 y75 y94 z0 z1 : AV, trim [(7, z1), (76, z0), (0, y0), (1, y1), (4, y4), (5, y5), (6, y6), (7, y7), (8, y8), (19, y19), (30, y30), (37, y37), (38, y38), (39, y39), (62, y62), (65, y65), (66, y66), (67, y67), (73, y73), (74, y74), (75, y75), (94, y94)] [(0, y0), (1, y1), (4, y4), (5, y5), (6, y6), (7, y7), (8, y8), (19, y19), (30, y30), (37, y37), (38, y38), (39, y39), (62, y62), (65, y65), (66, y66), (67, y67), (73, y73), (74, y74), (75, y75), (94, y94)] = [(0, y0), (1, y1), (4, y4), (5, y5), (6, y6), (7, z1), (8, y8), (19, y19), (30, y30), (37, y37), (38, y38), (39, y39), (62, y62), (65, y65), (66, y66), (67, y67), (73, y73), (74, y74), (75, y75), (94, y94)] := fun y0 y1 y4 y5 y6 y7 y8 y19 y30 y37 y38 y39 y62 y65 y66 y67 y73 y74 y75 y94 z0 z1 => rfl
                  refine R_nil (tr _ _ _ _ _ _ _ _ _ _ _ _ _ _ _ _ _ _ _ _ _ _) ?_; clear tr
                  refine then_n ?_
                  refine at_seq rfl ?_
                  refine rg rfl ?_
                  refine Rq ?_
                  refine Rq ?_
                  refine Rq ?_
                  refine Rq ?_
                  refine Rq ?_
                  refine Rq ?_
                  refine Rq ?_
                  refine Rq ?_
                  refine Rq ?_
                  refine Rp_split (fun h11 => ?_) (fun h11 => ?_)
                  · try simp only [decide_eq_true_eq, decide_eq_false_iff_not, Bool.not_eq_true', Bool.not_eq_false', beq_iff_eq, beq_eq_false_iff_ne, ne_eq] at h11
                    refine Rn ?_
                    refine Rn ?_
                    refine Rn ?_
                    refine Rn ?_
                    refine Rn ?_
                    refine Rn ?_
                    refine Rn ?_
                    refine Rn ?_
                    refine Rq ?_
                    have tr : ∀ y0 y1 y4 y5 y6 y7 y8 y19 y30 y37 y38 y39 y62 y65 y66 y67 y73 y74 y75 y94 z0 z1 z2 z3 z4 z5 z6 z7 z8 z9 z10 z11 z12 z13 z14 z15 z16 z17 : AV, trim [(94, z17), (93, z16), (92, z15), (91, z14), (90, z13), (89, z12), (88, z11), (87, z10), (86, z9), (85, z8), (84, z7), (83, z6), (82, z5), (81, z4), (80, z3), (79, z2), (78, z1), (77, z0), (0, y0), (1, y1), (4, y4), (5, y5), (6, y6), (7, y7), (8, y8), (19, y19), (30, y30), (37, y37), (38, y38), (39, y39), (62, y62), (65, y65), (66, y66), (67, y67), (73, y73), (74, y74), (75, y75), (94, y94)] [(0, y0), (1, y1), (4, y4), (5, y5), (6, y6), (7, y7), (8, y8), (19, y19), (30, y30), (37, y37), (38, y38), (39, y39), (62, y62), (65, y65), (66, y66), (67, y67), (73, y73), (74, y74), (75, y75), (94, y94)] = [(0, y0), (1, y1), (4, y4), (5, y5), (6, y6), (7, y7), (8, y8), (19, y19), (30, y30), (37, y37), (38, y38), (39, y39), (62, y62), (65, y65), (66, y66), (67, y67), (73, y73), (74, y74), (75, y75), (94, z17)] := fun y0 y1 y4 y5 y6 y7 y8 y19 y30 y37 y38 y39 y62 y65 y66 y67 y73 y74 y75 y94 z0 z1 z2 z3 z4 z5 z6 z7 z8 z9 z10 z11 z12 z13 z14 z15 z16 z17 => rfl
                    refine R_nil (tr _ _ _ _ _ _ _ _ _ _ _ _ _ _ _ _ _ _ _ _ _ _ _ _ _ _ _ _ _ _ _ _ _ _ _ _ _ _) ?_; clear tr
                    refine then_n ?_
                    refine cdt ?_
                    refine at_seq rfl ?_
                    refine rg rfl ?_
                    refine Rq ?_
                    have tr : ∀ y0 y1 y4 y5 y6 y7 y8 y19 y30 y37 y38 y39 y62 y65 y66 y67 y73 y74 y75 y94 z0 : AV, trim [(4, z0), (0, y0), (1, y1), (4, y4), (5, y5), (6, y6), (7, y7), (8, y8), (19, y19), (30, y30), (37, y37), (38, y38), (39, y39), (62, y62), (65, y65), (66, y66), (67, y67), (73, y73), (74, y74), (75, y75), (94, y94)] [(0, y0), (1, y1), (4, y4), (5, y5), (6, y6), (7, y7), (8, y8), (19, y19), (30, y30), (37, y37), (38, y38), (39, y39), (62, y62), (65, y65), (66, y66), (67, y67), (73, y73), (74, y74), (75, y75), (94, y94)] = [(0, y0), (1, y1), (4, z0), (5, y5), (6, y6), (7, y7), (8, y8), (19, y19), (30, y30), (37, y37), (38, y38), (39, y39), (62, y62), (65, y65), (66, y66), (67, y67), (73, y73), (74, y74), (75, y75), (94, y94)] := fun y0 y1 y4 y5 y6 y7 y8 y19 y30 y37 y38 y39 y62 y65 y66 y67 y73 y74 y75 y94 z0 => rfl
                    refine R_nil (tr _ _ _ _ _ _ _ _ _ _ _ _ _ _ _ _ _ _ _ _ _) ?_; clear tr
                    refine then_n ?_
                    refine at_ret rfl ?_
                    refine blk_r ?_
                    refine then_r ?_
                    refine then_r ?_
                    refine blk_r ?_
                    refine blk_r ?_
                    refine then_r ?_
                    refine then_r ?_
                    refine blk_r ?_
                    refine then_r ?_
                    refine fpure ?_
                    refine ⟨?_, rfl⟩
                    rw [formS, if_neg (by omega), if_neg (by omega), if_neg (by omega), if_neg (fun hh => hh hq3), if_pos (fun hh => absurd (hh v (by omega) w (by omega)) (by omega))]
                  · try simp only [decide_eq_true_eq, decide_eq_false_iff_not, Bool.not_eq_true', Bool.not_eq_false', beq_iff_eq, beq_eq_false_iff_ne, ne_eq] at h11
                    refine Ry ?_
                    refine Rq ?_
                    refine Ry ?_
                    refine Rq ?_
                    refine Ry ?_
                    refine Rq ?_
                    refine Ry ?_
                    refine Rq ?_
                    refine Ry ?_
                    refine Rq ?_
                    refine Ry ?_
                    refine Rq ?_
                    refine Ry ?_
                    refine Rq ?_
                    refine Ry ?_
                    refine Rq ?_
                    refine Rq ?_
                    have tr : ∀ y0 y1 y4 y5 y6 y7 y8 y19 y30 y37 y38 y39 y62 y65 y66 y67 y73 y74 y75 y94 z0 z1 z2 z3 z4 z5 z6 z7 z8 z9 z10 z11 z12 z13 z14 z15 z16 z17 : AV, trim [(94, z17), (93, z16), (92, z15), (91, z14), (90, z13), (89, z12), (88, z11), (87, z10), (86, z9), (85, z8), (84, z7), (83, z6), (82, z5), (81, z4), (80, z3), (79, z2), (78, z1), (77, z0), (0, y0), (1, y1), (4, y4), (5, y5), (6, y6), (7, y7), (8, y8), (19, y19), (30, y30), (37, y37), (38, y38), (39, y39), (62, y62), (65, y65), (66, y66), (67, y67), (73, y73), (74, y74), (75, y75), (94, y94)] [(0, y0), (1, y1), (4, y4), (5, y5), (6, y6), (7, y7), (8, y8), (19, y19), (30, y30), (37, y37), (38, y38), (39, y39), (62, y62), (65, y65), (66, y66), (67, y67), (73, y73), (74, y74), (75, y75), (94, y94)] = [(0, y0), (1, y1), (4, y4), (5, y5), (6, y6), (7, y7), (8, y8), (19, y19), (30, y30), (37, y37), (38, y38), (39, y39), (62, y62), (65, y65), (66, y66), (67, y67), (73, y73), (74, y74), (75, y75), (94, z17)] := fun y0 y1 y4 y5 y6 y7 y8 y19 y30 y37 y38 y39 y62 y65 y66 y67 y73 y74 y75 y94 z0 z1 z2 z3 z4 z5 z6 z7 z8 z9 z10 z11 z12 z13 z14 z15 z16 z17 => rfl
                    refine R_nil (tr _ _ _ _ _ _ _ _ _ _ _ _ _ _ _ _ _ _ _ _ _ _ _ _ _ _ _ _ _ _ _ _ _ _ _ _ _ _) ?_; clear tr
                    refine then_n ?_
                    refine cdd (fun h12 => ?_) (fun h12 => ?_)
                    · try simp only [decide_eq_true_eq, decide_eq_false_iff_not, Bool.not_eq_true', Bool.not_eq_false', beq_iff_eq, beq_eq_false_iff_ne, ne_eq] at h12
                      refine at_seq rfl ?_
                      refine rg rfl ?_
                      refine Rq ?_
                      have tr : ∀ y0 y1 y4 y5 y6 y7 y8 y19 y30 y37 y38 y39 y62 y65 y66 y67 y73 y74 y75 y94 z0 : AV, trim [(4, z0), (0, y0), (1, y1), (4, y4), (5, y5), (6, y6), (7, y7), (8, y8), (19, y19), (30, y30), (37, y37), (38, y38), (39, y39), (62, y62), (65, y65), (66, y66), (67, y67), (73, y73), (74, y74), (75, y75), (94, y94)] [(0, y0), (1, y1), (4, y4), (5, y5), (6, y6), (7, y7), (8, y8), (19, y19), (30, y30), (37, y37), (38, y38), (39, y39), (62, y62), (65, y65), (66, y66), (67, y67), (73, y73), (74, y74), (75, y75), (94, y94)] = [(0, y0), (1, y1), (4, z0), (5, y5), (6, y6), (7, y7), (8, y8), (19, y19), (30, y30), (37, y37), (38, y38), (39, y39), (62, y62), (65, y65), (66, y66), (67, y67), (73, y73), (74, y74), (75, y75), (94, y94)] := fun y0 y1 y4 y5 y6 y7 y8 y19 y30 y37 y38 y39 y62 y65 y66 y67 y73 y74 y75 y94 z0 => rfl
                      refine R_nil (tr _ _ _ _ _ _ _ _ _ _ _ _ _ _ _ _ _ _ _ _ _) ?_; clear tr
                      refine then_n ?_
                      refine at_ret rfl ?_
                      refine blk_r ?_
                      refine then_r ?_
                      refine then_r ?_
                      refine blk_r ?_
                      refine blk_r ?_
                      refine then_r ?_
                      refine then_r ?_
                      refine blk_r ?_
                      refine then_r ?_
                      refine fpure ?_
                      refine ⟨?_, rfl⟩
                      rw [formS, if_neg (by omega), if_neg (by omega), if_neg (by omega), if_neg (fun hh => hh hq3), if_pos (fun hh => absurd (hh v (by omega) w (by omega)) (by omega))]
                    · try simp only [decide_eq_true_eq, decide_eq_false_iff_not, Bool.not_eq_true', Bool.not_eq_false', beq_iff_eq, beq_eq_false_iff_ne, ne_eq] at h12
                      refine at_skip rfl ?_
                      refine blk_n ?_
                      refine then_n ?_
                      refine rg rfl ?_
                      refine Rq ?_
                      refine Rq ?_
                      have tr : ∀ y0 y1 y4 y5 y6 y7 y8 y19 y30 y37 y38 y39 y62 y65 y66 y67 y73 y74 y75 y94 z0 z1 : AV, trim [(74, z1), (95, z0), (0, y0), (1, y1), (4, y4), (5, y5), (6, y6), (7, y7), (8, y8), (19, y19), (30, y30), (37, y37), (38, y38), (39, y39), (62, y62), (65, y65), (66, y66), (67, y67), (73, y73), (74, y74), (75, y75), (94, y94)] [(0, y0), (1, y1), (4, y4), (5, y5), (6, y6), (7, y7), (8, y8), (19, y19), (30, y30), (37, y37), (38, y38), (39, y39), (62, y62), (65, y65), (66, y66), (67, y67), (73, y73), (74, y74), (75, y75), (94, y94)] = [(0, y0), (1, y1), (4, y4), (5, y5), (6, y6), (7, y7), (8, y8), (19, y19), (30, y30), (37, y37), (38, y38), (39, y39), (62, y62), (65, y65), (66, y66), (67, y67), (73, y73), (74, z1), (75, y75), (94, y94)] := fun y0 y1 y4 y5 y6 y7 y8 y19 y30 y37 y38 y39 y62 y65 y66 y67 y73 y74 y75 y94 z0 z1 => rfl
                      refine R_nil (tr _ _ _ _ _ _ _ _ _ _ _ _ _ _ _ _ _ _ _ _ _ _) ?_; clear tr
                      refine then_n ?_
                      exact ⟨_, _, ⟨w + 1, _, _, _, _, rfl, rfl, by rfl, by omega, by exact all_step hs (by omega)⟩, by rfl, by omega⟩
                · try simp only [decide_eq_true_eq, decide_eq_false_iff_not, Bool.not_eq_true', Bool.not_eq_false', beq_iff_eq, beq_eq_false_iff_ne, ne_eq] at h10
                  refine at_exit rfl ?_
                  refine then_x ?_
                  refine then_x ?_
                  refine blk_x ?_
                  refine blk_n ?_
                  refine then_n ?_
                  refine rg rfl ?_
                  refine Rq ?_
                  refine Rq ?_
                  have tr : ∀ y0 y1 y4 y5 y6 y7 y8 y19 y30 y37 y38 y39 y62 y65 y66 y67 y73 y74 y75 y94 z0 z1 : AV, trim [(66, z1), (96, z0), (0, y0), (1, y1), (4, y4), (5, y5), (6, y6), (7, y7), (8, y8), (19, y19), (30, y30), (37, y37), (38, y38), (39, y39), (62, y62), (65, y65), (66, y66), (67, y67), (73, y73), (74, y74), (75, y75), (94, y94)] [(0, y0), (1, y1), (4, y4), (5, y5), (6, y6), (7, y7), (8, y8), (19, y19), (30, y30), (37, y37), (38, y38), (39, y39), (62, y62), (65, y65), (66, y66), (67, y67), (73, y73), (74, y74), (75, y75), (94, y94)] = [(0, y0), (1, y1), (4, y4), (5, y5), (6, y6), (7, y7), (8, y8), (19, y19), (30, y30), (37, y37), (38, y38), (39, y39), (62, y62), (65, y65), (66, z1), (67, y67), (73, y73), (74, y74), (75, y75), (94, y94)] := fun y0 y1 y4 y5 y6 y7 y8 y19 y30 y37 y38 y39 y62 y65 y66 y67 y73 y74 y75 y94 z0 z1 => rfl
                  refine R_nil (tr _ _ _ _ _ _ _ _ _ _ _ _ _ _ _ _ _ _ _ _ _ _) ?_; clear tr
                  refine then_n ?_
                  exact ⟨_, _, ⟨v + 1, _, _, _, _, _, _, _, _, rfl, rfl, by rfl, by omega, by exact all_step hr fun w hw => hs w (by omega)⟩, by rfl, by omega⟩
              · try simp only [decide_eq_true_eq, decide_eq_false_iff_not, Bool.not_eq_true', Bool.not_eq_false', beq_iff_eq, beq_eq_false_iff_ne, ne_eq] at h9
                refine at_exit rfl ?_
                refine then_x ?_
                refine then_x ?_
                refine blk_x ?_
                refine then_n ?_
                refine at_seq rfl ?_
                refine rg rfl ?_
                refine Rq ?_
                have tr : ∀ y0 y1 y4 y5 y6 y7 y8 y19 y30 y37 y38 y39 y62 y65 y66 y67 y73 y74 y75 y94 z0 : AV, trim [(4, z0), (0, y0), (1, y1), (4, y4), (5, y5), (6, y6), (7, y7), (8, y8), (19, y19), (30, y30), (37, y37), (38, y38), (39, y39), (62, y62), (65, y65), (66, y66), (67, y67), (73, y73), (74, y74), (75, y75), (94, y94)] [(0, y0), (1, y1), (4, y4), (5, y5), (6, y6), (7, y7), (8, y8), (19, y19), (30, y30), (37, y37), (38, y38), (39, y39), (62, y62), (65, y65), (66, y66), (67, y67), (73, y73), (74, y74), (75, y75), (94, y94)] = [(0, y0), (1, y1), (4, z0), (5, y5), (6, y6), (7, y7), (8, y8), (19, y19), (30, y30), (37, y37), (38, y38), (39, y39), (62, y62), (65, y65), (66, y66), (67, y67), (73, y73), (74, y74), (75, y75), (94, y94)] := fun y0 y1 y4 y5 y6 y7 y8 y19 y30 y37 y38 y39 y62 y65 y66 y67 y73 y74 y75 y94 z0 => rfl
                refine R_nil (tr _ _ _ _ _ _ _ _ _ _ _ _ _ _ _ _ _ _ _ _ _) ?_; clear tr
                refine then_n ?_
                refine at_ret rfl ?_
                refine fpure ?_
                refine ⟨?_, rfl⟩
                rw [formS, if_neg (by omega), if_neg (by omega), if_neg (by omega), if_neg (fun hh => hh hq3), if_neg (fun hh => hh fun i hi => hr i (by omega))]

theorem rform_ok (lim : Nat) (H : Heap) (a b : Tb) :
    ACall sig lim 34 [rowsAV a, rowsAV b] H fun r H' => r = AV.i (formS a b) ∧ H' = H := by
  refine ACall_pure (fa := fa34) rfl rfl rfl rfl ?_
  have tr : ∀ a0 a1 : AV, env0 fa34.keep [a0, a1] = [(0, a0), (1, a1), (4, .any), (5, .any), (6, .any), (7, .any), (17, .any), (27, .any), (32, .any), (34, .any), (35, .any), (36, .any), (59, .any), (62, .any), (63, .any), (64, .any), (70, .any), (71, .any), (72, .any), (91, .any)] := fun a0 a1 => rfl
  refine W_to (tr _ _) ?_; clear tr
  refine at_seq rfl ?_
  refine rg rfl ?_
  refine Rq ?_
  have tr : ∀ y0 y1 y4 y5 y6 y7 y17 y27 y32 y34 y35 y36 y59 y62 y63 y64 y70 y71 y72 y91 z0 : AV, trim [(4, z0), (0, y0), (1, y1), (4, y4), (5, y5), (6, y6), (7, y7), (17, y17), (27, y27), (32, y32), (34, y34), (35, y35), (36, y36), (59, y59), (62, y62), (63, y63), (64, y64), (70, y70), (71, y71), (72, y72), (91, y91)] [(0, y0), (1, y1), (4, y4), (5, y5), (6, y6), (7, y7), (17, y17), (27, y27), (32, y32), (34, y34), (35, y35), (36, y36), (59, y59), (62, y62), (63, y63), (64, y64), (70, y70), (71, y71), (72, y72), (91, y91)] = [(0, y0), (1, y1), (4, z0), (5, y5), (6, y6), (7, y7), (17, y17), (27, y27), (32, y32), (34, y34), (35, y35), (36, y36), (59, y59), (62, y62), (63, y63), (64, y64), (70, y70), (71, y71), (72, y72), (91, y91)] := fun y0 y1 y4 y5 y6 y7 y17 y27 y32 y34 y35 y36 y59 y62 y63 y64 y70 y71 y72 y91 z0 => rfl
  refine R_nil (tr _ _ _ _ _ _ _ _ _ _ _ _ _ _ _ _ _ _ _ _ _) ?_; clear tr
  refine then_n ?_
  refine at_seq rfl ?_
  refine at_seq rfl ?_
  refine rg rfl ?_
  refine Rq ?_
  refine Rq ?_
  refine Rq ?_
  refine Rq ?_
  refine Rp_split (fun h1 => ?_) (fun h1 => ?_)
  · try simp only [decide_eq_true_eq, decide_eq_false_iff_not, Bool.not_eq_true', Bool.not_eq_false', beq_iff_eq, beq_eq_false_iff_ne, ne_eq] at h1
    refine Rn ?_
    refine Rn ?_
    refine Rn ?_
    refine Rn ?_
    refine Rn ?_
    refine Rq ?_
    have tr : ∀ y0 y1 y4 y5 y6 y7 y17 y27 y32 y34 y35 y36 y59 y62 y63 y64 y70 y71 y72 y91 z0 z1 z2 z3 z4 z5 z6 z7 z8 z9 : AV, trim [(17, z9), (16, z8), (15, z7), (14, z6), (13, z5), (12, z4), (11, z3), (10, z2), (9, z1), (8, z0), (0, y0), (1, y1), (4, y4), (5, y5), (6, y6), (7, y7), (17, y17), (27, y27), (32, y32), (34, y34), (35, y35), (36, y36), (59, y59), (62, y62), (63, y63), (64, y64), (70, y70), (71, y71), (72, y72), (91, y91)] [(0, y0), (1, y1), (4, y4), (5, y5), (6, y6), (7, y7), (17, y17), (27, y27), (32, y32), (34, y34), (35, y35), (36, y36), (59, y59), (62, y62), (63, y63), (64, y64), (70, y70), (71, y71), (72, y72), (91, y91)] = [(0, y0), (1, y1), (4, y4), (5, y5), (6, y6), (7, y7), (17, z9), (27, y27), (32, y32), (34, y34), (35, y35), (36, y36), (59, y59), (62, y62), (63, y63), (64, y64), (70, y70), (71, y71), (72, y72), (91, y91)] := fun y0 y1 y4 y5 y6 y7 y17 y27 y32 y34 y35 y36 y59 y62 y63 y64 y70 y71 y72 y91 z0 z1 z2 z3 z4 z5 z6 z7 z8 z9 => rfl
    refine R_nil (tr _ _ _ _ _ _ _ _ _ _ _ _ _ _ _ _ _ _ _ _ _ _ _ _ _ _ _ _ _ _) ?_; clear tr
    refine then_n ?_
    refine cdt ?_
    refine at_seq rfl ?_
    refine rg rfl ?_
    refine Rq ?_
    have tr : ∀ y0 y1 y4 y5 y6 y7 y17 y27 y32 y34 y35 y36 y59 y62 y63 y64 y70 y71 y72 y91 z0 : AV, trim [(4, z0), (0, y0), (1, y1), (4, y4), (5, y5), (6, y6), (7, y7), (17, y17), (27, y27), (32, y32), (34, y34), (35, y35), (36, y36), (59, y59), (62, y62), (63, y63), (64, y64), (70, y70), (71, y71), (72, y72), (91, y91)] [(0, y0), (1, y1), (4, y4), (5, y5), (6, y6), (7, y7), (17, y17), (27, y27), (32, y32), (34, y34), (35, y35), (36, y36), (59, y59), (62, y62), (63, y63), (64, y64), (70, y70), (71, y71), (72, y72), (91, y91)] = [(0, y0), (1, y1), (4, z0), (5, y5), (6, y6), (7, y7), (17, y17), (27, y27), (32, y32), (34, y34), (35, y35), (36, y36), (59, y59), (62, y62), (63, y63), (64, y64), (70, y70), (71, y71), (72, y72), (91, y91)] := fun y0 y1 y4 y5 y6 y7 y17 y27 y32 y34 y35 y36 y59 y62 y63 y64 y70 y71 y72 y91 z0 => rfl
    refine R_nil (tr _ _ _ _ _ _ _ _ _ _ _ _ _ _ _ _ _ _ _ _ _) ?_; clear tr
    refine then_n ?_
    refine at_ret rfl ?_
    refine then_r ?_
    refine fpure ?_
    refine ⟨?_, rfl⟩
    rw [formS, if_pos (by omega)]
  · try simp only [decide_eq_true_eq, decide_eq_false_iff_not, Bool.not_eq_true', Bool.not_eq_false', beq_iff_eq, beq_eq_false_iff_ne, ne_eq] at h1
    refine Ry ?_
    refine Rq ?_
    refine Ry ?_
    refine Rq ?_
    refine Ry ?_
    refine Rq ?_
    refine Ry ?_
    refine Rq ?_
    refine Ry ?_
    refine Rq ?_
    refine Rq ?_
    have tr : ∀ y0 y1 y4 y5 y6 y7 y17 y27 y32 y34 y35 y36 y59 y62 y63 y64 y70 y71 y72 y91 z0 z1 z2 z3 z4 z5 z6 z7 z8 z9 : AV, trim [(17, z9), (16, z8), (15, z7), (14, z6), (13, z5), (12, z4), (11, z3), (10, z2), (9, z1), (8, z0), (0, y0), (1, y1), (4, y4), (5, y5), (6, y6), (7, y7), (17, y17), (27, y27), (32, y32), (34, y34), (35, y35), (36, y36), (59, y59), (62, y62), (63, y63), (64, y64), (70, y70), (71, y71), (72, y72), (91, y91)] [(0, y0), (1, y1), (4, y4), (5, y5), (6, y6), (7, y7), (17, y17), (27, y27), (32, y32), (34, y34), (35, y35), (36, y36), (59, y59), (62, y62), (63, y63), (64, y64), (70, y70), (71, y71), (72, y72), (91, y91)] = [(0, y0), (1, y1), (4, y4), (5, y5), (6, y6), (7, y7), (17, z9), (27, y27), (32, y32), (34, y34), (35, y35), (36, y36), (59, y59), (62, y62), (63, y63), (64, y64), (70, y70), (71, y71), (72, y72), (91, y91)] := fun y0 y1 y4 y5 y6 y7 y17 y27 y32 y34 y35 y36 y59 y62 y63 y64 y70 y71 y72 y91 z0 z1 z2 z3 z4 z5 z6 z7 z8 z9 => rfl
    refine R_nil (tr _ _ _ _ _ _ _ _ _ _ _ _ _ _ _ _ _ _ _ _ _ _ _ _ _ _ _ _ _ _) ?_; clear tr
    refine then_n ?_
    refine cdd (fun h2 => ?_) (fun h2 => ?_)
    · try simp only [decide_eq_true_eq, decide_eq_false_iff_not, Bool.not_eq_true', Bool.not_eq_false', beq_iff_eq, beq_eq_false_iff_ne, ne_eq] at h2
      refine at_seq rfl ?_
      refine rg rfl ?_
      refine Rq ?_
      have tr : ∀ y0 y1 y4 y5 y6 y7 y17 y27 y32 y34 y35 y36 y59 y62 y63 y64 y70 y71 y72 y91 z0 : AV, trim [(4, z0), (0, y0), (1, y1), (4, y4), (5, y5), (6, y6), (7, y7), (17, y17), (27, y27), (32, y32), (34, y34), (35, y35), (36, y36), (59, y59), (62, y62), (63, y63), (64, y64), (70, y70), (71, y71), (72, y72), (91, y91)] [(0, y0), (1, y1), (4, y4), (5, y5), (6, y6), (7, y7), (17, y17), (27, y27), (32, y32), (34, y34), (35, y35), (36, y36), (59, y59), (62, y62), (63, y63), (64, y64), (70, y70), (71, y71), (72, y72), (91, y91)] = [(0, y0), (1, y1), (4, z0), (5, y5), (6, y6), (7, y7), (17, y17), (27, y27), (32, y32), (34, y34), (35, y35), (36, y36), (59, y59), (62, y62), (63, y63), (64, y64), (70, y70), (71, y71), (72, y72), (91, y91)] := fun y0 y1 y4 y5 y6 y7 y17 y27 y32 y34 y35 y36 y59 y62 y63 y64 y70 y71 y72 y91 z0 => rfl
      refine R_nil (tr _ _ _ _ _ _ _ _ _ _ _ _ _ _ _ _ _ _ _ _ _) ?_; clear tr
      refine then_n ?_
      refine at_ret rfl ?_
      refine then_r ?_
      refine fpure ?_
      refine ⟨?_, rfl⟩
      rw [formS, if_pos (by omega)]
    · try simp only [decide_eq_true_eq, decide_eq_false_iff_not, Bool.not_eq_true', Bool.not_eq_false', beq_iff_eq, beq_eq_false_iff_ne, ne_eq] at h2
      refine at_skip rfl ?_
      refine then_n ?_
      refine at_seq rfl ?_
      refine at_seq rfl ?_
      refine rg rfl ?_
      refine Rq ?_
      refine Rq ?_
      refine Rq ?_
      refine Rq ?_
      refine Rp_split (fun h3 => ?_) (fun h3 => ?_)
      · try simp only [decide_eq_true_eq, decide_eq_false_iff_not, Bool.not_eq_true', Bool.not_eq_false', beq_iff_eq, beq_eq_false_iff_ne, ne_eq] at h3
        refine Rn ?_
        refine Rn ?_
        refine Rn ?_
        refine Rn ?_
        refine Rn ?_
        refine Rq ?_
        have tr : ∀ y0 y1 y4 y5 y6 y7 y17 y27 y32 y34 y35 y36 y59 y62 y63 y64 y70 y71 y72 y91 z0 z1 z2 z3 z4 z5 z6 z7 z8 z9 : AV, trim [(27, z9), (26, z8), (25, z7), (24, z6), (23, z5), (22, z4), (21, z3), (20, z2), (19, z1), (18, z0), (0, y0), (1, y1), (4, y4), (5, y5), (6, y6), (7, y7), (17, y17), (27, y27), (32, y32), (34, y34), (35, y35), (36, y36), (59, y59), (62, y62), (63, y63), (64, y64), (70, y70), (71, y71), (72, y72), (91, y91)] [(0, y0), (1, y1), (4, y4), (5, y5), (6, y6), (7, y7), (17, y17), (27, y27), (32, y32), (34, y34), (35, y35), (36, y36), (59, y59), (62, y62), (63, y63), (64, y64), (70, y70), (71, y71), (72, y72), (91, y91)] = [(0, y0), (1, y1), (4, y4), (5, y5), (6, y6), (7, y7), (17, y17), (27, z9), (32, y32), (34, y34), (35, y35), (36, y36), (59, y59), (62, y62), (63, y63), (64, y64), (70, y70), (71, y71), (72, y72), (91, y91)] := fun y0 y1 y4 y5 y6 y7 y17 y27 y32 y34 y35 y36 y59 y62 y63 y64 y70 y71 y72 y91 z0 z1 z2 z3 z4 z5 z6 z7 z8 z9 => rfl
        refine R_nil (tr _ _ _ _ _ _ _ _ _ _ _ _ _ _ _ _ _ _ _ _ _ _ _ _ _ _ _ _ _ _) ?_; clear tr
        refine then_n ?_
        refine cdt ?_
        refine at_seq rfl ?_
        refine rg rfl ?_
        refine Rq ?_
        have tr : ∀ y0 y1 y4 y5 y6 y7 y17 y27 y32 y34 y35 y36 y59 y62 y63 y64 y70 y71 y72 y91 z0 : AV, trim [(4, z0), (0, y0), (1, y1), (4, y4), (5, y5), (6, y6), (7, y7), (17, y17), (27, y27), (32, y32), (34, y34), (35, y35), (36, y36), (59, y59), (62, y62), (63, y63), (64, y64), (70, y70), (71, y71), (72, y72), (91, y91)] [(0, y0), (1, y1), (4, y4), (5, y5), (6, y6), (7, y7), (17, y17), (27, y27), (32, y32), (34, y34), (35, y35), (36, y36), (59, y59), (62, y62), (63, y63), (64, y64), (70, y70), (71, y71), (72, y72), (91, y91)] = [(0, y0), (1, y1), (4, z0), (5, y5), (6, y6), (7, y7), (17, y17), (27, y27), (32, y32), (34, y34), (35, y35), (36, y36), (59, y59), (62, y62), (63, y63), (64, y64), (70, y70), (71, y71), (72, y72), (91, y91)] := fun y0 y1 y4 y5 y6 y7 y17 y27 y32 y34 y35 y36 y59 y62 y63 y64 y70 y71 y72 y91 z0 => rfl
        refine R_nil (tr _ _ _ _ _ _ _ _ _ _ _ _ _ _ _ _ _ _ _ _ _) ?_; clear tr
        refine then_n ?_
        refine at_ret rfl ?_
        refine then_r ?_
        refine fpure ?_
        refine ⟨?_, rfl⟩
        rw [formS, if_neg (by omega), if_pos (by omega)]
      · try simp only [decide_eq_true_eq, decide_eq_false_iff_not, Bool.not_eq_true', Bool.not_eq_false', beq_iff_eq, beq_eq_false_iff_ne, ne_eq] at h3
        refine Ry ?_
        refine Rq ?_
        refine Ry ?_
        refine Rq ?_
        refine Ry ?_
        refine Rq ?_
        refine Ry ?_
        refine Rq ?_
        refine Ry ?_
        refine Rq ?_
        refine Rq ?_
        have tr : ∀ y0 y1 y4 y5 y6 y7 y17 y27 y32 y34 y35 y36 y59 y62 y63 y64 y70 y71 y72 y91 z0 z1 z2 z3 z4 z5 z6 z7 z8 z9 : AV, trim [(27, z9), (26, z8), (25, z7), (24, z6), (23, z5), (22, z4), (21, z3), (20, z2), (19, z1), (18, z0), (0, y0), (1, y1), (4, y4), (5, y5), (6, y6), (7, y7), (17, y17), (27, y27), (32, y32), (34, y34), (35, y35), (36, y36), (59, y59), (62, y62), (63, y63), (64, y64), (70, y70), (71, y71), (72, y72), (91, y91)] [(0, y0), (1, y1), (4, y4), (5, y5), (6, y6), (7, y7), (17, y17), (27, y27), (32, y32), (34, y34), (35, y35), (36, y36), (59, y59), (62, y62), (63, y63), (64, y64), (70, y70), (71, y71), (72, y72), (91, y91)] = [(0, y0), (1, y1), (4, y4), (5, y5), (6, y6), (7, y7), (17, y17), (27, z9), (32, y32), (34, y34), (35, y35), (36, y36), (59, y59), (62, y62), (63, y63), (64, y64), (70, y70), (71, y71), (72, y72), (91, y91)] := fun y0 y1 y4 y5 y6 y7 y17 y27 y32 y34 y35 y36 y59 y62 y63 y64 y70 y71 y72 y91 z0 z1 z2 z3 z4 z5 z6 z7 z8 z9 => rfl
        refine R_nil (tr _ _ _ _ _ _ _ _ _ _ _ _ _ _ _ _ _ _ _ _ _ _ _ _ _ _ _ _ _ _) ?_; clear tr
        refine then_n ?_
        refine cdd (fun h4 => ?_) (fun h4 => ?_)
        · try simp only [decide_eq_true_eq, decide_eq_false_iff_not, Bool.not_eq_true', Bool.not_eq_false', beq_iff_eq, beq_eq_false_iff_ne, ne_eq] at h4
          refine at_seq rfl ?_
          refine rg rfl ?_
          refine Rq ?_
          have tr : ∀ y0 y1 y4 y5 y6 y7 y17 y27 y32 y34 y35 y36 y59 y62 y63 y64 y70 y71 y72 y91 z0 : AV, trim [(4, z0), (0, y0), (1, y1), (4, y4), (5, y5), (6, y6), (7, y7), (17, y17), (27, y27), (32, y32), (34, y34), (35, y35), (36, y36), (59, y59), (62, y62), (63, y63), (64, y64), (70, y70), (71, y71), (72, y72), (91, y91)] [(0, y0), (1, y1), (4, y4), (5, y5), (6, y6), (7, y7), (17, y17), (27, y27), (32, y32), (34, y34), (35, y35), (36, y36), (59, y59), (62, y62), (63, y63), (64, y64), (70, y70), (71, y71), (72, y72), (91, y91)] = [(0, y0), (1, y1), (4, z0), (5, y5), (6, y6), (7, y7), (17, y17), (27, y27), (32, y32), (34, y34), (35, y35), (36, y36), (59, y59), (62, y62), (63, y63), (64, y64), (70, y70), (71, y71), (72, y72), (91, y91)] := fun y0 y1 y4 y5 y6 y7 y17 y27 y32 y34 y35 y36 y59 y62 y63 y64 y70 y71 y72 y91 z0 => rfl
          refine R_nil (tr _ _ _ _ _ _ _ _ _ _ _ _ _ _ _ _ _ _ _ _ _) ?_; clear tr
          refine then_n ?_
          refine at_ret rfl ?_
          refine then_r ?_
          refine fpure ?_
          refine ⟨?_, rfl⟩
          rw [formS, if_neg (by omega), if_pos (by omega)]
        · try simp only [decide_eq_true_eq, decide_eq_false_iff_not, Bool.not_eq_true', Bool.not_eq_false', beq_iff_eq, beq_eq_false_iff_ne, ne_eq] at h4
          refine at_skip rfl ?_
          refine then_n ?_
          refine at_seq rfl ?_
          refine at_seq rfl ?_
          refine rg rfl ?_
          refine Rq ?_
          refine Rq ?_
          refine Rq ?_
          refine Rq ?_
          refine Rq ?_
          have tr : ∀ y0 y1 y4 y5 y6 y7 y17 y27 y32 y34 y35 y36 y59 y62 y63 y64 y70 y71 y72 y91 z0 z1 z2 z3 z4 : AV, trim [(32, z4), (31, z3), (30, z2), (29, z1), (28, z0), (0, y0), (1, y1), (4, y4), (5, y5), (6, y6), (7, y7), (17, y17), (27, y27), (32, y32), (34, y34), (35, y35), (36, y36), (59, y59), (62, y62), (63, y63), (64, y64), (70, y70), (71, y71), (72, y72), (91, y91)] [(0, y0), (1, y1), (4, y4), (5, y5), (6, y6), (7, y7), (17, y17), (27, y27), (32, y32), (34, y34), (35, y35), (36, y36), (59, y59), (62, y62), (63, y63), (64, y64), (70, y70), (71, y71), (72, y72), (91, y91)] = [(0, y0), (1, y1), (4, y4), (5, y5), (6, y6), (7, y7), (17, y17), (27, y27), (32, z4), (34, y34), (35, y35), (36, y36), (59, y59), (62, y62), (63, y63), (64, y64), (70, y70), (71, y71), (72, y72), (91, y91)] := fun y0 y1 y4 y5 y6 y7 y17 y27 y32 y34 y35 y36 y59 y62 y63 y64 y70 y71 y72 y91 z0 z1 z2 z3 z4 => rfl
          refine R_nil (tr _ _ _ _ _ _ _ _ _ _ _ _ _ _ _ _ _ _ _ _ _ _ _ _ _) ?_; clear tr
          refine then_n ?_
          refine cdd (fun h5 => ?_) (fun h5 => ?_)
          · try simp only [decide_eq_true_eq, decide_eq_false_iff_not, Bool.not_eq_true', Bool.not_eq_false', beq_iff_eq, beq_eq_false_iff_ne, ne_eq] at h5
            refine at_seq rfl ?_
            refine rg rfl ?_
            refine Rq ?_
            have tr : ∀ y0 y1 y4 y5 y6 y7 y17 y27 y32 y34 y35 y36 y59 y62 y63 y64 y70 y71 y72 y91 z0 : AV, trim [(4, z0), (0, y0), (1, y1), (4, y4), (5, y5), (6, y6), (7, y7), (17, y17), (27, y27), (32, y32), (34, y34), (35, y35), (36, y36), (59, y59), (62, y62), (63, y63), (64, y64), (70, y70), (71, y71), (72, y72), (91, y91)] [(0, y0), (1, y1), (4, y4), (5, y5), (6, y6), (7, y7), (17, y17), (27, y27), (32, y32), (34, y34), (35, y35), (36, y36), (59, y59), (62, y62), (63, y63), (64, y64), (70, y70), (71, y71), (72, y72), (91, y91)] = [(0, y0), (1, y1), (4, z0), (5, y5), (6, y6), (7, y7), (17, y17), (27, y27), (32, y32), (34, y34), (35, y35), (36, y36), (59, y59), (62, y62), (63, y63), (64, y64), (70, y70), (71, y71), (72, y72), (91, y91)] := fun y0 y1 y4 y5 y6 y7 y17 y27 y32 y34 y35 y36 y59 y62 y63 y64 y70 y71 y72 y91 z0 => rfl
            refine R_nil (tr _ _ _ _ _ _ _ _ _ _ _ _ _ _ _ _ _ _ _ _ _) ?_; clear tr
            refine then_n ?_
            refine at_ret rfl ?_
            refine then_r ?_
            refine fpure ?_
            refine ⟨?_, rfl⟩
            rw [formS, if_neg (by omega), if_neg (by omega), if_pos (by omega)]
          · try simp only [decide_eq_true_eq, decide_eq_false_iff_not, Bool.not_eq_true', Bool.not_eq_false', beq_iff_eq, beq_eq_false_iff_ne, ne_eq] at h5
            refine at_skip rfl ?_
            refine then_n ?_
            refine at_seq rfl ?_
            refine at_seq rfl ?_
            refine rg rfl ?_
            refine Rq ?_
            refine Rq ?_
            refine Rq ?_
            have tr : ∀ y0 y1 y4 y5 y6 y7 y17 y27 y32 y34 y35 y36 y59 y62 y63 y64 y70 y71 y72 y91 z0 z1 z2 : AV, trim [(35, z2), (34, z1), (33, z0), (0, y0), (1, y1), (4, y4), (5, y5), (6, y6), (7, y7), (17, y17), (27, y27), (32, y32), (34, y34), (35, y35), (36, y36), (59, y59), (62, y62), (63, y63), (64, y64), (70, y70), (71, y71), (72, y72), (91, y91)] [(0, y0), (1, y1), (4, y4), (5, y5), (6, y6), (7, y7), (17, y17), (27, y27), (32, y32), (34, y34), (35, y35), (36, y36), (59, y59), (62, y62), (63, y63), (64, y64), (70, y70), (71, y71), (72, y72), (91, y91)] = [(0, y0), (1, y1), (4, y4), (5, y5), (6, y6), (7, y7), (17, y17), (27, y27), (32, y32), (34, z1), (35, z2), (36, y36), (59, y59), (62, y62), (63, y63), (64, y64), (70, y70), (71, y71), (72, y72), (91, y91)] := fun y0 y1 y4 y5 y6 y7 y17 y27 y32 y34 y35 y36 y59 y62 y63 y64 y70 y71 y72 y91 z0 z1 z2 => rfl
            refine R_nil (tr _ _ _ _ _ _ _ _ _ _ _ _ _ _ _ _ _ _ _ _ _ _ _) ?_; clear tr
            refine then_n ?_
            refine at_block rfl ?_
            refine loop_n rfl (fun mm kv H' => ∃ u : Nat, ∃ x4 x5 x36 x59 : AV, (kv = [(4, x4), (5, x5), (35, AV.i u), (36, x36), (59, x59)]) ∧ (mm = a.length - u) ∧ (H = H') ∧ (u ≤ a.length) ∧ (∀ i, i < u → (gt a i).length = (gt a 0).length ∧ (gt b i).length = (gt a 0).length)) ⟨0, _, _, _, _, rfl, rfl, by rfl, by omega, by intro i hi; omega⟩ (by rfl) ?_
            rintro mm kv H2 ⟨u, x4, x5, x36, x59, rfl, rfl, hX, hu, hq⟩
            have tr : ∀ y0 y1 y4 y5 y6 y7 y17 y27 y32 y34 y35 y36 y59 y62 y63 y64 y70 y71 y72 y91 z4 z5 z35 z36 z59 : AV, upd [(0, y0), (1, y1), (4, y4), (5, y5), (6, y6), (7, y7), (17, y17), (27, y27), (32, y32), (34, y34), (35, y35), (36, y36), (59, y59), (62, y62), (63, y63), (64, y64), (70, y70), (71, y71), (72, y72), (91, y91)] [(4, z4), (5, z5), (35, z35), (36, z36), (59, z59)] = [(0, y0), (1, y1), (4, z4), (5, z5), (6, y6), (7, y7), (17, y17), (27, y27), (32, y32), (34, y34), (35, z35), (36, z36), (59, z59), (62, y62), (63, y63), (64, y64), (70, y70), (71, y71), (72, y72), (91, y91)] := fun y0 y1 y4 y5 y6 y7 y17 y27 y32 y34 y35 y36 y59 y62 y63 y64 y70 y71 y72 y91 z4 z5 z35 z36 z59 => rfl
            refine W_to (tr _ _ _ _ _ _ _ _ _ _ _ _ _ _ _ _ _ _ _ _ _ _ _ _ _) ?_; clear tr
            subst hX
            refine at_seq rfl ?_
            refine rg rfl ?_
            refine Rq ?_
            have tr : ∀ y0 y1 y4 y5 y6 y7 y17 y27 y32 y34 y35 y36 y59 y62 y63 y64 y70 y71 y72 y91 z0 : AV, trim [(36, z0), (0, y0), (1, y1), (4, y4), (5, y5), (6, y6), (7, y7), (17, y17), (27, y27), (32, y32), (34, y34), (35, y35), (36, y36), (59, y59), (62, y62), (63, y63), (64, y64), (70, y70), (71, y71), (72, y72), (91, y91)] [(0, y0), (1, y1), (4, y4), (5, y5), (6, y6), (7, y7), (17, y17), (27, y27), (32, y32), (34, y34), (35, y35), (36, y36), (59, y59), (62, y62), (63, y63), (64, y64), (70, y70), (71, y71), (72, y72), (91, y91)] = [(0, y0), (1, y1), (4, y4), (5, y5), (6, y6), (7, y7), (17, y17), (27, y27), (32, y32), (34, y34), (35, y35), (36, z0), (59, y59), (62, y62), (63, y63), (64, y64), (70, y70), (71, y71), (72, y72), (91, y91)] := fun y0 y1 y4 y5 y6 y7 y17 y27 y32 y34 y35 y36 y59 y62 y63 y64 y70 y71 y72 y91 z0 => rfl
            refine R_nil (tr _ _ _ _ _ _ _ _ _ _ _ _ _ _ _ _ _ _ _ _ _) ?_; clear tr
            refine then_n ?_
            refine at_seq rfl ?_
            refine cdd (fun h6 => ?_) (fun h6 => ?_)
            · try simp only [decide_eq_true_eq, decide_eq_false_iff_not, Bool.not_eq_true', Bool.not_eq_false', beq_iff_eq, beq_eq_false_iff_ne, ne_eq] at h6
              refine at_skip rfl ?_
              refine then_n ?_
              refine at_seq rfl ?_
              refine at_block rfl ?_
              refine at_seq rfl ?_
              refine rg rfl ?_
              refine Rq ?_
              refine Rq ?_
              have tr : ∀ y0 y1 y4 y5 y6 y7 y17 y27 y32 y34 y35 y36 y59 y62 y63 y64 y70 y71 y72 y91 z0 z1 : AV, trim [(5, z1), (37, z0), (0, y0), (1, y1), (4, y4), (5, y5), (6, y6), (7, y7), (17, y17), (27, y27), (32, y32), (34, y34), (35, y35), (36, y36), (59, y59), (62, y62), (63, y63), (64, y64), (70, y70), (71, y71), (72, y72), (91, y91)] [(0, y0), (1, y1), (4, y4), (5, y5), (6, y6), (7, y7), (17, y17), (27, y27), (32, y32), (34, y34), (35, y35), (36, y36), (59, y59), (62, y62), (63, y63), (64, y64), (70, y70), (71, y71), (72, y72), (91, y91)] = [(0, y0), (1, y1), (4, y4), (5, z1), (6, y6), (7, y7), (17, y17), (27, y27), (32, y32), (34, y34), (35, y35), (36, y36), (59, y59), (62, y62), (63, y63), (64, y64), (70, y70), (71, y71), (72, y72), (91, y91)] := fun y0 y1 y4 y5 y6 y7 y17 y27 y32 y34 y35 y36 y59 y62 y63 y64 y70 y71 y72 y91 z0 z1 => rfl
              refine R_nil (tr _ _ _ _ _ _ _ _ _ _ _ _ _ _ _ _ _ _ _ _ _ _) ?_; clear tr
              refine then_n ?_
              refine at_seq rfl ?_
              refine rd rfl rfl ?_
              refine Qq ?_
              refine Qq ?_
              refine Qq ?_
              refine Qq ?_
              refine Qq ?_
              refine Qq ?_
              refine Qq ?_
              refine Qq ?_
              refine Qq ?_
              refine Qq ?_
              refine Qq ?_
              refine Qp_split (fun h7 => ?_) (fun h7 => ?_)
              · try simp only [decide_eq_true_eq, decide_eq_false_iff_not, Bool.not_eq_true', Bool.not_eq_false', beq_iff_eq, beq_eq_false_iff_ne, ne_eq] at h7
                refine Qn ?_
                refine Qn ?_
                refine Qn ?_
                refine Qn ?_
                refine Qn ?_
                refine Qn ?_
                refine Qn ?_
                refine Qn ?_
                refine Qn ?_
                refine Qn ?_
                refine Qq ?_
                refine Q_nil ?_
                have tr : ∀ y0 y1 y4 y5 y6 y7 y17 y27 y32 y34 y35 y36 y59 y62 y63 y64 y70 y71 y72 y91 z0 z1 z2 z3 z4 z5 z6 z7 z8 z9 z10 z11 z12 z13 z14 z15 z16 z17 z18 z19 z20 z21 : AV, trim [(59, z21), (58, z20), (57, z19), (56, z18), (55, z17), (54, z16), (53, z15), (52, z14), (51, z13), (50, z12), (49, z11), (48, z10), (47, z9), (46, z8), (45, z7), (44, z6), (43, z5), (42, z4), (41, z3), (40, z2), (39, z1), (38, z0), (0, y0), (1, y1), (4, y4), (5, y5), (6, y6), (7, y7), (17, y17), (27, y27), (32, y32), (34, y34), (35, y35), (36, y36), (59, y59), (62, y62), (63, y63), (64, y64), (70, y70), (71, y71), (72, y72), (91, y91)] [(0, y0), (1, y1), (4, y4), (5, y5), (6, y6), (7, y7), (17, y17), (27, y27), (32, y32), (34, y34), (35, y35), (36, y36), (59, y59), (62, y62), (63, y63), (64, y64), (70, y70), (71, y71), (72, y72), (91, y91)] = [(0, y0), (1, y1), (4, y4), (5, y5), (6, y6), (7, y7), (17, y17), (27, y27), (32, y32), (34, y34), (35, y35), (36, y36), (59, z21), (62, y62), (63, y63), (64, y64), (70, y70), (71, y71), (72, y72), (91, y91)] := fun y0 y1 y4 y5 y6 y7 y17 y27 y32 y34 y35 y36 y59 y62 y63 y64 y70 y71 y72 y91 z0 z1 z2 z3 z4 z5 z6 z7 z8 z9 z10 z11 z12 z13 z14 z15 z16 z17 z18 z19 z20 z21 => rfl
                refine R_nil (tr _ _ _ _ _ _ _ _ _ _ _ _ _ _ _ _ _ _ _ _ _ _ _ _ _ _ _ _ _ _ _ _ _ _ _ _ _ _ _ _ _ _) ?_; clear tr
                refine then_n ?_
                refine cdt ?_
                refine at_seq rfl ?_
                refine rg rfl ?_
                refine Rq ?_
                have tr : ∀ y0 y1 y4 y5 y6 y7 y17 y27 y32 y34 y35 y36 y59 y62 y63 y64 y70 y71 y72 y91 z0 : AV, trim [(4, z0), (0, y0), (1, y1), (4, y4), (5, y5), (6, y6), (7, y7), (17, y17), (27, y27), (32, y32), (34, y34), (35, y35), (36, y36), (59, y59), (62, y62), (63, y63), (64, y64), (70, y70), (71, y71), (72, y72), (91, y91)] [(0, y0), (1, y1), (4, y4), (5, y5), (6, y6), (7, y7), (17, y17), (27, y27), (32, y32), (34, y34), (35, y35), (36, y36), (59, y59), (62, y62), (63, y63), (64, y64), (70, y70), (71, y71), (72, y72), (91, y91)] = [(0, y0), (1, y1), (4, z0), (5, y5), (6, y6), (7, y7), (17, y17), (27, y27), (32, y32), (34, y34), (35, y35), (36, y36), (59, y59), (62, y62), (63, y63), (64, y64), (70, y70), (71, y71), (72, y72), (91, y91)] := fun y0 y1 y4 y5 y6 y7 y17 y27 y32 y34 y35 y36 y59 y62 y63 y64 y70 y71 y72 y91 z0 => rfl
                refine R_nil (tr _ _ _ _ _ _ _ _ _ _ _ _ _ _ _ _ _ _ _ _ _) ?_; clear tr
                refine then_n ?_
                refine at_ret rfl ?_
                refine blk_r ?_
                refine then_r ?_
                refine then_r ?_
                refine blk_r ?_
                refine then_r ?_
                refine fpure ?_
                refine ⟨?_, rfl⟩
                rw [formS, if_neg (by omega), if_neg (by omega), if_neg (by omega), if_pos (fun hh => absurd (hh u (by omega)) (by omega))]
              · try simp only [decide_eq_true_eq, decide_eq_false_iff_not, Bool.not_eq_true', Bool.not_eq_false', beq_iff_eq, beq_eq_false_iff_ne, ne_eq] at h7
                refine Qy ?_
                refine Qq ?_
                refine Qy ?_
                refine Qq ?_
                refine Qy ?_
                refine Qq ?_
                refine Qy ?_
                refine Qq ?_
                refine Qy ?_
                refine Qq ?_
                refine Qy ?_
                refine Qq ?_
                refine Qy ?_
                refine Qq ?_
                refine Qy ?_
                refine Qq ?_
                refine Qy ?_
                refine Qq ?_
                refine Qy ?_
                refine Qq ?_
                refine Qq ?_
                refine Q_nil ?_
                have tr : ∀ y0 y1 y4 y5 y6 y7 y17 y27 y32 y34 y35 y36 y59 y62 y63 y64 y70 y71 y72 y91 z0 z1 z2 z3 z4 z5 z6 z7 z8 z9 z10 z11 z12 z13 z14 z15 z16 z17 z18 z19 z20 z21 : AV, trim [(59, z21), (58, z20), (57, z19), (56, z18), (55, z17), (54, z16), (53, z15), (52, z14), (51, z13), (50, z12), (49, z11), (48, z10), (47, z9), (46, z8), (45, z7), (44, z6), (43, z5), (42, z4), (41, z3), (40, z2), (39, z1), (38, z0), (0, y0), (1, y1), (4, y4), (5, y5), (6, y6), (7, y7), (17, y17), (27, y27), (32, y32), (34, y34), (35, y35), (36, y36), (59, y59), (62, y62), (63, y63), (64, y64), (70, y70), (71, y71), (72, y72), (91, y91)] [(0, y0), (1, y1), (4, y4), (5, y5), (6, y6), (7, y7), (17, y17), (27, y27), (32, y32), (34, y34), (35, y35), (36, y36), (59, y59), (62, y62), (63, y63), (64, y64), (70, y70), (71, y71), (72, y72), (91, y91)] = [(0, y0), (1, y1), (4, y4), (5, y5), (6, y6), (7, y7), (17, y17), (27, y27), (32, y32), (34, y34), (35, y35), (36, y36), (59, z21), (62, y62), (63, y63), (64, y64), (70, y70), (71, y71), (72, y72), (91, y91)] := fun y0 y1 y4 y5 y6 y7 y17 y27 y32 y34 y35 y36 y59 y62 y63 y64 y70 y71 y72 y91 z0 z1 z2 z3 z4 z5 z6 z7 z8 z9 z10 z11 z12 z13 z14 z15 z16 z17 z18 z19 z20 z21 => rfl
                refine R_nil (tr _ _ _ _ _ _ _ _ _ _ _ _ _ _ _ _ _ _ _ _ _ _ _ _ _ _ _ _ _ _ _ _ _ _ _ _ _ _ _ _ _ _) ?_; clear tr
                refine then_n ?_
                refine cdd (fun h8 => ?_) (fun h8 => ?_)
                · try simp only [decide_eq_true_eq, decide_eq_false_iff_not, Bool.not_eq_true', Bool.not_eq_false', beq_iff_eq, beq_eq_false_iff_ne, ne_eq] at h8
                  refine at_seq rfl ?_
                  refine rg rfl ?_
                  refine Rq ?_
                  have tr : ∀ y0 y1 y4 y5 y6 y7 y17 y27 y32 y34 y35 y36 y59 y62 y63 y64 y70 y71 y72 y91 z0 : AV, trim [(4, z0), (0, y0), (1, y1), (4, y4), (5, y5), (6, y6), (7, y7), (17, y17), (27, y27), (32, y32), (34, y34), (35, y35), (36, y36), (59, y59), (62, y62), (63, y63), (64, y64), (70, y70), (71, y71), (72, y72), (91, y91)] [(0, y0), (1, y1), (4, y4), (5, y5), (6, y6), (7, y7), (17, y17), (27, y27), (32, y32), (34, y34), (35, y35), (36, y36), (59, y59), (62, y62), (63, y63), (64, y64), (70, y70), (71, y71), (72, y72), (91, y91)] = [(0, y0), (1, y1), (4, z0), (5, y5), (6, y6), (7, y7), (17, y17), (27, y27), (32, y32), (34, y34), (35, y35), (36, y36), (59, y59), (62, y62), (63, y63), (64, y64), (70, y70), (71, y71), (72, y72), (91, y91)] := fun y0 y1 y4 y5 y6 y7 y17 y27 y32 y34 y35 y36 y59 y62 y63 y64 y70 y71 y72 y91 z0 => rfl
                  refine R_nil (tr _ _ _ _ _ _ _ _ _ _ _ _ _ _ _ _ _ _ _ _ _) ?_; clear tr
                  refine then_n ?_
                  refine at_ret rfl ?_
                  refine blk_r ?_
                  refine then_r ?_
                  refine then_r ?_
                  refine blk_r ?_
                  refine then_r ?_
                  refine fpure ?_
                  refine ⟨?_, rfl⟩
                  rw [formS, if_neg (by omega), if_neg (by omega), if_neg (by omega), if_pos (fun hh => absurd (hh u (by omega)) (by omega))]
                · try simp only [decide_eq_true_eq, decide_eq_false_iff_not, Bool.not_eq_true', Bool.not_eq_false', beq_iff_eq, beq_eq_false_iff_ne, ne_eq] at h8
                  refine at_skip rfl ?_
                  refine blk_n ?_
                  refine then_n ?_
                  refine rg rfl ?_
                  refine Rq ?_
                  refine Rq ?_
                  have tr : ∀ y0 y1 y4 y5 y6 y7 y17 y27 y32 y34 y35 y36 y59 y62 y63 y64 y70 y71 y72 y91 z0 z1 : AV, trim [(35, z1), (60, z0), (0, y0), (1, y1), (4, y4), (5, y5), (6, y6), (7, y7), (17, y17), (27, y27), (32, y32), (34, y34), (35, y35), (36, y36), (59, y59), (62, y62), (63, y63), (64, y64), (70, y70), (71, y71), (72, y72), (91, y91)] [(0, y0), (1, y1), (4, y4), (5, y5), (6, y6), (7, y7), (17, y17), (27, y27), (32, y32), (34, y34), (35, y35), (36, y36), (59, y59), (62, y62), (63, y63), (64, y64), (70, y70), (71, y71), (72, y72), (91, y91)] = [(0, y0), (1, y1), (4, y4), (5, y5), (6, y6), (7, y7), (17, y17), (27, y27), (32, y32), (34, y34), (35, z1), (36, y36), (59, y59), (62, y62), (63, y63), (64, y64), (70, y70), (71, y71), (72, y72), (91, y91)] := fun y0 y1 y4 y5 y6 y7 y17 y27 y32 y34 y35 y36 y59 y62 y63 y64 y70 y71 y72 y91 z0 z1 => rfl
                  refine R_nil (tr _ _ _ _ _ _ _ _ _ _ _ _ _ _ _ _ _ _ _ _ _ _) ?_; clear tr
                  refine then_n ?_
                  exact ⟨_, _, ⟨u + 1, _, _, _, _, rfl, rfl, by rfl, by omega, by exact all_step hq (by omega)⟩, by rfl, by omega⟩
            · try simp only [decide_eq_true_eq, decide_eq_false_iff_not, Bool.not_eq_true', Bool.not_eq_false', beq_iff_eq, beq_eq_false_iff_ne, ne_eq] at h6
              refine at_exit rfl ?_
              refine then_x ?_
              refine then_x ?_
              refine blk_x ?_
              refine then_n ?_
              refine at_seq rfl ?_
              refine at_seq rfl ?_
              refine rg rfl ?_
              have hq3 : FLen a b := fun i hi => hq i (by omega)
              refine Rq ?_
              refine Rq ?_
              refine Rq ?_
              have tr : ∀ y0 y1 y4 y5 y6 y7 y17 y27 y32 y34 y35 y36 y59 y62 y63 y64 y70 y71 y72 y91 z0 z1 z2 : AV, trim [(63, z2), (62, z1), (61, z0), (0, y0), (1, y1), (4, y4), (5, y5), (6, y6), (7, y7), (17, y17), (27, y27), (32, y32), (34, y34), (35, y35), (36, y36), (59, y59), (62, y62), (63, y63), (64, y64), (70, y70), (71, y71), (72, y72), (91, y91)] [(0, y0), (1, y1), (4, y4), (5, y5), (6, y6), (7, y7), (17, y17), (27, y27), (32, y32), (34, y34), (35, y35), (36, y36), (59, y59), (62, y62), (63, y63), (64, y64), (70, y70), (71, y71), (72, y72), (91, y91)] = [(0, y0), (1, y1), (4, y4), (5, y5), (6, y6), (7, y7), (17, y17), (27, y27), (32, y32), (34, y34), (35, y35), (36, y36), (59, y59), (62, z1), (63, z2), (64, y64), (70, y70), (71, y71), (72, y72), (91, y91)] := fun y0 y1 y4 y5 y6 y7 y17 y27 y32 y34 y35 y36 y59 y62 y63 y64 y70 y71 y72 y91 z0 z1 z2 => rfl
              refine R_nil (tr _ _ _ _ _ _ _ _ _ _ _ _ _ _ _ _ _ _ _ _ _ _ _) ?_; clear tr
              refine then_n ?_
              refine at_block rfl ?_
              refine loop_n rfl (fun mm kv H' => ∃ v : Nat, ∃ x4 x6 x7 x64 x70 x71 x72 x91 : AV, (kv = [(4, x4), (6, x6), (7, x7), (63, AV.i v), (64, x64), (70, x70), (71, x71), (72, x72), (91, x91)]) ∧ (mm = a.length - v) ∧ (H = H') ∧ (v ≤ a.length) ∧ (∀ i, i < v → ∀ w, w < (gt a i).length → 0 ≤ gt (gt a i) w ∧ 0 ≤ gt (gt b i) w)) ⟨0, _, _, _, _, _, _, _, _, rfl, rfl, by rfl, by omega, by intro i hi; omega⟩ (by rfl) ?_
              rintro mm kv H2 ⟨v, x4, x6, x7, x64, x70, x71, x72, x91, rfl, rfl, hX, hv, hr⟩
              have tr : ∀ y0 y1 y4 y5 y6 y7 y17 y27 y32 y34 y35 y36 y59 y62 y63 y64 y70 y71 y72 y91 z4 z6 z7 z63 z64 z70 z71 z72 z91 : AV, upd [(0, y0), (1, y1), (4, y4), (5, y5), (6, y6), (7, y7), (17, y17), (27, y27), (32, y32), (34, y34), (35, y35), (36, y36), (59, y59), (62, y62), (63, y63), (64, y64), (70, y70), (71, y71), (72, y72), (91, y91)] [(4, z4), (6, z6), (7, z7), (63, z63), (64, z64), (70, z70), (71, z71), (72, z72), (91, z91)] = [(0, y0), (1, y1), (4, z4), (5, y5), (6, z6), (7, z7), (17, y17), (27, y27), (32, y32), (34, y34), (35, y35), (36, y36), (59, y59), (62, y62), (63, z63), (64, z64), (70, z70), (71, z71), (72, z72), (91, z91)] := fun y0 y1 y4 y5 y6 y7 y17 y27 y32 y34 y35 y36 y59 y62 y63 y64 y70 y71 y72 y91 z4 z6 z7 z63 z64 z70 z71 z72 z91 => rfl
              refine W_to (tr _ _ _ _ _ _ _ _ _ _ _ _ _ _ _ _ _ _ _ _ _ _ _ _ _ _ _ _ _) ?_; clear tr
              subst hX
              refine at_seq rfl ?_
              refine rg rfl ?_
              refine Rq ?_
              have tr : ∀ y0 y1 y4 y5 y6 y7 y17 y27 y32 y34 y35 y36 y59 y62 y63 y64 y70 y71 y72 y91 z0 : AV, trim [(64, z0), (0, y0), (1, y1), (4, y4), (5, y5), (6, y6), (7, y7), (17, y17), (27, y27), (32, y32), (34, y34), (35, y35), (36, y36), (59, y59), (62, y62), (63, y63), (64, y64), (70, y70), (71, y71), (72, y72), (91, y91)] [(0, y0), (1, y1), (4, y4), (5, y5), (6, y6), (7, y7), (17, y17), (27, y27), (32, y32), (34, y34), (35, y35), (36, y36), (59, y59), (62, y62), (63, y63), (64, y64), (70, y70), (71, y71), (72, y72), (91, y91)] = [(0, y0), (1, y1), (4, y4), (5, y5), (6, y6), (7, y7), (17, y17), (27, y27), (32, y32), (34, y34), (35, y35), (36, y36), (59, y59), (62, y62), (63, y63), (64, z0), (70, y70), (71, y71), (72, y72), (91, y91)] := fun y0 y1 y4 y5 y6 y7 y17 y27 y32 y34 y35 y36 y59 y62 y63 y64 y70 y71 y72 y91 z0 => rfl
              refine R_nil (tr _ _ _ _ _ _ _ _ _ _ _ _ _ _ _ _ _ _ _ _ _) ?_; clear tr
              refine then_n ?_
              refine at_seq rfl ?_
              refine cdd (fun h9 => ?_) (fun h9 => ?_)
              · try simp only [decide_eq_true_eq, decide_eq_false_iff_not, Bool.not_eq_true', Bool.not_eq_false', beq_iff_eq, beq_eq_false_iff_ne, ne_eq] at h9
                refine at_skip rfl ?_
                refine then_n ?_
                refine at_seq rfl ?_
                refine at_block rfl ?_
                refine at_seq rfl ?_
                refine rg rfl ?_
                refine Rq ?_
                refine Rq ?_
                have tr : ∀ y0 y1 y4 y5 y6 y7 y17 y27 y32 y34 y35 y36 y59 y62 y63 y64 y70 y71 y72 y91 z0 z1 : AV, trim [(6, z1), (65, z0), (0, y0), (1, y1), (4, y4), (5, y5), (6, y6), (7, y7), (17, y17), (27, y27), (32, y32), (34, y34), (35, y35), (36, y36), (59, y59), (62, y62), (63, y63), (64, y64), (70, y70), (71, y71), (72, y72), (91, y91)] [(0, y0), (1, y1), (4, y4), (5, y5), (6, y6), (7, y7), (17, y17), (27, y27), (32, y32), (34, y34), (35, y35), (36, y36), (59, y59), (62, y62), (63, y63), (64, y64), (70, y70), (71, y71), (72, y72), (91, y91)] = [(0, y0), (1, y1), (4, y4), (5, y5), (6, z1), (7, y7), (17, y17), (27, y27), (32, y32), (34, y34), (35, y35), (36, y36), (59, y59), (62, y62), (63, y63), (64, y64), (70, y70), (71, y71), (72, y72), (91, y91)] := fun y0 y1 y4 y5 y6 y7 y17 y27 y32 y34 y35 y36 y59 y62 y63 y64 y70 y71 y72 y91 z0 z1 => rfl
                refine R_nil (tr _ _ _ _ _ _ _ _ _ _ _ _ _ _ _ _ _ _ _ _ _ _) ?_; clear tr
                refine then_n ?_
                refine at_seq rfl ?_
                refine rg rfl ?_
                have hlv := hq3 v (by omega)
                refine Rq ?_
                refine Rq ?_
                refine Rq ?_
                refine Rq ?_
                refine Rq ?_
                refine Rq ?_
                have tr : ∀ y0 y1 y4 y5 y6 y7 y17 y27 y32 y34 y35 y36 y59 y62 y63 y64 y70 y71 y72 y91 z0 z1 z2 z3 z4 z5 : AV, trim [(71, z5), (70, z4), (69, z3), (68, z2), (67, z1), (66, z0), (0, y0), (1, y1), (4, y4), (5, y5), (6, y6), (7, y7), (17, y17), (27, y27), (32, y32), (34, y34), (35, y35), (36, y36), (59, y59), (62, y62), (63, y63), (64, y64), (70, y70), (71, y71), (72, y72), (91, y91)] [(0, y0), (1, y1), (4, y4), (5, y5), (6, y6), (7, y7), (17, y17), (27, y27), (32, y32), (34, y34), (35, y35), (36, y36), (59, y59), (62, y62), (63, y63), (64, y64), (70, y70), (71, y71), (72, y72), (91, y91)] = [(0, y0), (1, y1), (4, y4), (5, y5), (6, y6), (7, y7), (17, y17), (27, y27), (32, y32), (34, y34), (35, y35), (36, y36), (59, y59), (62, y62), (63, y63), (64, y64), (70, z4), (71, z5), (72, y72), (91, y91)] := fun y0 y1 y4 y5 y6 y7 y17 y27 y32 y34 y35 y36 y59 y62 y63 y64 y70 y71 y72 y91 z0 z1 z2 z3 z4 z5 => rfl
                refine R_nil (tr _ _ _ _ _ _ _ _ _ _ _ _ _ _ _ _ _ _ _ _ _ _ _ _ _ _) ?_; clear tr
                refine then_n ?_
                refine at_block rfl ?_
                refine loop_n rfl (fun mm kv H' => ∃ w : Nat, ∃ x4 x7 x72 x91 : AV, (kv = [(4, x4), (7, x7), (71, AV.i w), (72, x72), (91, x91)]) ∧ (mm = (gt a v).length - w) ∧ (H = H') ∧ (w ≤ (gt a v).length) ∧ (∀ j, j < w → 0 ≤ gt (gt a v) j ∧ 0 ≤ gt (gt b v) j)) ⟨0, _, _, _, _, rfl, rfl, by rfl, by omega, by intro j hj; omega⟩ (by rfl) ?_
                rintro mm kv H2 ⟨w, x4, x7, x72, x91, rfl, rfl, hX, hw, hs⟩
                have tr : ∀ y0 y1 y4 y5 y6 y7 y17 y27 y32 y34 y35 y36 y59 y62 y63 y64 y70 y71 y72 y91 z4 z7 z71 z72 z91 : AV, upd [(0, y0), (1, y1), (4, y4), (5, y5), (6, y6), (7, y7), (17, y17), (27, y27), (32, y32), (34, y34), (35, y35), (36, y36), (59, y59), (62, y62), (63, y63), (64, y64), (70, y70), (71, y71), (72, y72), (91, y91)] [(4, z4), (7, z7), (71, z71), (72, z72), (91, z91)] = [(0, y0), (1, y1), (4, z4), (5, y5), (6, y6), (7, z7), (17, y17), (27, y27), (32, y32), (34, y34), (35, y35), (36, y36), (59, y59), (62, y62), (63, y63), (64, y64), (70, y70), (71, z71), (72, z72), (91, z91)] := fun y0 y1 y4 y5 y6 y7 y17 y27 y32 y34 y35 y36 y59 y62 y63 y64 y70 y71 y72 y91 z4 z7 z71 z72 z91 => rfl
                refine W_to (tr _ _ _ _ _ _ _ _ _ _ _ _ _ _ _ _ _ _ _ _ _ _ _ _ _) ?_; clear tr
                subst hX
                have hlv := hq3 v (by omega)
                refine at_seq rfl ?_
                refine rg rfl ?_
                refine Rq ?_
                have tr : ∀ y0 y1 y4 y5 y6 y7 y17 y27 y32 y34 y35 y36 y59 y62 y63 y64 y70 y71 y72 y91 z0 : AV, trim [(72, z0), (0, y0), (1, y1), (4, y4), (5, y5), (6, y6), (7, y7), (17, y17), (27, y27), (32, y32), (34, y34), (35, y35), (36, y36), (59, y59), (62, y62), (63, y63), (64, y64), (70, y70), (71, y71), (72, y72), (91, y91)] [(0, y0), (1, y1), (4, y4), (5, y5), (6, y6), (7, y7), (17, y17), (27, y27), (32, y32), (34, y34), (35, y35), (36, y36), (59, y59), (62, y62), (63, y63), (64, y64), (70, y70), (71, y71), (72, y72), (91, y91)] = [(0, y0), (1, y1), (4, y4), (5, y5), (6, y6), (7, y7), (17, y17), (27, y27), (32, y32), (34, y34), (35, y35), (36, y36), (59, y59), (62, y62), (63, y63), (64, y64), (70, y70), (71, y71), (72, z0), (91, y91)] := fun y0 y1 y4 y5 y6 y7 y17 y27 y32 y34 y35 y36 y59 y62 y63 y64 y70 y71 y72 y91 z0 => rfl
                refine R_nil (tr _ _ _ _ _ _ _ _ _ _ _ _ _ _ _ _ _ _ _ _ _) ?_; clear tr
                refine then_n ?_
                refine at_seq rfl ?_
                refine cdd (fun h10 => ?_) (fun h10 => ?_)
                · try simp only [decide_eq_true_eq, decide_eq_false_iff_not, Bool.not_eq_true', Bool.not_eq_false', beq_iff_eq, beq_eq_false_iff_ne, ne_eq] at h10
                  refine at_skip rfl ?_
                  refine then_n ?_
                  refine at_seq rfl ?_
                  refine at_block rfl ?_
                  refine at_seq rfl ?_
                  refine rg rfl ?_
                  refine Rq ?_
                  refine Rq ?_
                  have tr : ∀ y0 y1 y4 y5 y6 y7 y17 y27 y32 y34 y35 y36 y59 y62 y63 y64 y70 y71 y72 y91 z0 z1 : AV, trim [(7, z1), (73, z0), (0, y0), (1, y1), (4, y4), (5, y5), (6, y6), (7, y7), (17, y17), (27, y27), (32, y32), (34, y34), (35, y35), (36, y36), (59, y59), (62, y62), (63, y63), (64, y64), (70, y70), (71, y71), (72, y72), (91, y91)] [(0, y0), (1, y1), (4, y4), (5, y5), (6, y6), (7, y7), (17, y17), (27, y27), (32, y32), (34, y34), (35, y35), (36, y36), (59, y59), (62, y62), (63, y63), (64, y64), (70, y70), (71, y71), (72, y72), (91, y91)] = [(0, y0), (1, y1), (4, y4), (5, y5), (6, y6), (7, z1), (17, y17), (27, y27), (32, y32), (34, y34), (35, y35), (36, y36), (59, y59), (62, y62), (63, y63), (64, y64), (70, y70), (71, y71), (72, y72), (91, y91)] := fun y0 y1 y4 y5 y6 y7 y17 y27 y32 y34 y35 y36 y59 y62 y63 y64 y70 y71 y72 y91 z0 z1 => rfl
                  refine R_nil (tr _ _ _ _ _ _ _ _ _ _ _ _ _ _ _ _ _ _ _ _ _ _) ?_; clear tr
                  refine then_n ?_
                  refine at_seq rfl ?_
                  refine rg rfl ?_
                  refine Rq ?_
                  refine Rq ?_
                  refine Rq ?_
                  refine Rq ?_
                  refine Rq ?_
                  refine Rq ?_
                  refine Rq ?_
                  refine Rq ?_
                  refine Rq ?_
                  refine Rp_split (fun h11 => ?_) (fun h11 => ?_)
                  · try simp only [decide_eq_true_eq, decide_eq_false_iff_not, Bool.not_eq_true', Bool.not_eq_false', beq_iff_eq, beq_eq_false_iff_ne, ne_eq] at h11
                    refine Rn ?_
                    refine Rn ?_
                    refine Rn ?_
                    refine Rn ?_
                    refine Rn ?_
                    refine Rn ?_
                    refine Rn ?_
                    refine Rn ?_
                    refine Rq ?_
                    have tr : ∀ y0 y1 y4 y5 y6 y7 y17 y27 y32 y34 y35 y36 y59 y62 y63 y64 y70 y71 y72 y91 z0 z1 z2 z3 z4 z5 z6 z7 z8 z9 z10 z11 z12 z13 z14 z15 z16 z17 : AV, trim [(91, z17), (90, z16), (89, z15), (88, z14), (87, z13), (86, z12), (85, z11), (84, z10), (83, z9), (82, z8), (81, z7), (80, z6), (79, z5), (78, z4), (77, z3), (76, z2), (75, z1), (74, z0), (0, y0), (1, y1), (4, y4), (5, y5), (6, y6), (7, y7), (17, y17), (27, y27), (32, y32), (34, y34), (35, y35), (36, y36), (59, y59), (62, y62), (63, y63), (64, y64), (70, y70), (71, y71), (72, y72), (91, y91)] [(0, y0), (1, y1), (4, y4), (5, y5), (6, y6), (7, y7), (17, y17), (27, y27), (32, y32), (34, y34), (35, y35), (36, y36), (59, y59), (62, y62), (63, y63), (64, y64), (70, y70), (71, y71), (72, y72), (91, y91)] = [(0, y0), (1, y1), (4, y4), (5, y5), (6, y6), (7, y7), (17, y17), (27, y27), (32, y32), (34, y34), (35, y35), (36, y36), (59, y59), (62, y62), (63, y63), (64, y64), (70, y70), (71, y71), (72, y72), (91, z17)] := fun y0 y1 y4 y5 y6 y7 y17 y27 y32 y34 y35 y36 y59 y62 y63 y64 y70 y71 y72 y91 z0 z1 z2 z3 z4 z5 z6 z7 z8 z9 z10 z11 z12 z13 z14 z15 z16 z17 => rfl
                    refine R_nil (tr _ _ _ _ _ _ _ _ _ _ _ _ _ _ _ _ _ _ _ _ _ _ _ _ _ _ _ _ _ _ _ _ _ _ _ _ _ _) ?_; clear tr
                    refine then_n ?_
                    refine cdt ?_
                    refine at_seq rfl ?_
                    refine rg rfl ?_
                    refine Rq ?_
                    have tr : ∀ y0 y1 y4 y5 y6 y7 y17 y27 y32 y34 y35 y36 y59 y62 y63 y64 y70 y71 y72 y91 z0 : AV, trim [(4, z0), (0, y0), (1, y1), (4, y4), (5, y5), (6, y6), (7, y7), (17, y17), (27, y27), (32, y32), (34, y34), (35, y35), (36, y36), (59, y59), (62, y62), (63, y63), (64, y64), (70, y70), (71, y71), (72, y72), (91, y91)] [(0, y0), (1, y1), (4, y4), (5, y5), (6, y6), (7, y7), (17, y17), (27, y27), (32, y32), (34, y34), (35, y35), (36, y36), (59, y59), (62, y62), (63, y63), (64, y64), (70, y70), (71, y71), (72, y72), (91, y91)] = [(0, y0), (1, y1), (4, z0), (5, y5), (6, y6), (7, y7), (17, y17), (27, y27), (32, y32), (34, y34), (35, y35), (36, y36), (59, y59), (62, y62), (63, y63), (64, y64), (70, y70), (71, y71), (72, y72), (91, y91)] := fun y0 y1 y4 y5 y6 y7 y17 y27 y32 y34 y35 y36 y59 y62 y63 y64 y70 y71 y72 y91 z0 => rfl
                    refine R_nil (tr _ _ _ _ _ _ _ _ _ _ _ _ _ _ _ _ _ _ _ _ _) ?_; clear tr
                    refine then_n ?_
                    refine at_ret rfl ?_
                    refine blk_r ?_
                    refine then_r ?_
                    refine then_r ?_
                    refine blk_r ?_
                    refine blk_r ?_
                    refine then_r ?_
                    refine then_r ?_
                    refine blk_r ?_
                    refine then_r ?_
                    refine fpure ?_
                    refine ⟨?_, rfl⟩
                    rw [formS, if_neg (by omega), if_neg (by omega), if_neg (by omega), if_neg (fun hh => hh hq3), if_pos (fun hh => absurd (hh v (by omega) w (by omega)) (by omega))]
                  · try simp only [decide_eq_true_eq, decide_eq_false_iff_not, Bool.not_eq_true', Bool.not_eq_false', beq_iff_eq, beq_eq_false_iff_ne, ne_eq] at h11
                    refine Ry ?_
                    refine Rq ?_
                    refine Ry ?_
                    refine Rq ?_
                    refine Ry ?_
                    refine Rq ?_
                    refine Ry ?_
                    refine Rq ?_
                    refine Ry ?_
                    refine Rq ?_
                    refine Ry ?_
                    refine Rq ?_
                    refine Ry ?_
                    refine Rq ?_
                    refine Ry ?_
                    refine Rq ?_
                    refine Rq ?_
                    have tr : ∀ y0 y1 y4 y5 y6 y7 y17 y27 y32 y34 y35 y36 y59 y62 y63 y64 y70 y71 y72 y91 z0 z1 z2 z3 z4 z5 z6 z7 z8 z9 z10 z11 z12 z13 z14 z15 z16 z17 : AV, trim [(91, z17), (90, z16), (89, z15), (88, z14), (87, z13), (86, z12), (85, z11), (84, z10), (83, z9), (82, z8), (81, z7), (80, z6), (79, z5), (78, z4), (77, z3), (76, z2), (75, z1), (74, z0), (0, y0), (1, y1), (4, y4), (5, y5), (6, y6), (7, y7), (17, y17), (27, y27), (32, y32), (34, y34), (35, y35), (36, y36), (59, y59), (62, y62), (63, y63), (64, y64), (70, y70), (71, y71), (72, y72), (91, y91)] [(0, y0), (1, y1), (4, y4), (5, y5), (6, y6), (7, y7), (17, y17), (27, y27), (32, y32), (34, y34), (35, y35), (36, y36), (59, y59), (62, y62), (63, y63), (64, y64), (70, y70), (71, y71), (72, y72), (91, y91)] = [(0, y0), (1, y1), (4, y4), (5, y5), (6, y6), (7, y7), (17, y17), (27, y27), (32, y32), (34, y34), (35, y35), (36, y36), (59, y59), (62, y62), (63, y63), (64, y64), (70, y70), (71, y71), (72, y72), (91, z17)] := fun y0 y1 y4 y5 y6 y7 y17 y27 y32 y34 y35 y36 y59 y62 y63 y64 y70 y71 y72 y91 z0 z1 z2 z3 z4 z5 z6 z7 z8 z9 z10 z11 z12 z13 z14 z15 z16 z17 => rfl
                    refine R_nil (tr _ _ _ _ _ _ _ _ _ _ _ _ _ _ _ _ _ _ _ _ _ _ _ _ _ _ _ _ _ _ _ _ _ _ _ _ _ _) ?_; clear tr
                    refine then_n ?_
                    refine cdd (fun h12 => ?_) (fun h12 => ?_)
                    · try simp only [decide_eq_true_eq, decide_eq_false_iff_not, Bool.not_eq_true', Bool.not_eq_false', beq_iff_eq, beq_eq_false_iff_ne, ne_eq] at h12
                      refine at_seq rfl ?_
                      refine rg rfl ?_
                      refine Rq ?_
                      have tr : ∀ y0 y1 y4 y5 y6 y7 y17 y27 y32 y34 y35 y36 y59 y62 y63 y64 y70 y71 y72 y91 z0 : AV, trim [(4, z0), (0, y0), (1, y1), (4, y4), (5, y5), (6, y6), (7, y7), (17, y17), (27, y27), (32, y32), (34, y34), (35, y35), (36, y36), (59, y59), (62, y62), (63, y63), (64, y64), (70, y70), (71, y71), (72, y72), (91, y91)] [(0, y0), (1, y1), (4, y4), (5, y5), (6, y6), (7, y7), (17, y17), (27, y27), (32, y32), (34, y34), (35, y35), (36, y36), (59, y59), (62, y62), (63, y63), (64, y64), (70, y70), (71, y71), (72, y72), (91, y91)] = [(0, y0), (1, y1), (4, z0), (5, y5), (6, y6), (7, y7), (17, y17), (27, y27), (32, y32), (34, y34), (35, y35), (36, y36), (59, y59), (62, y62), (63, y63), (64, y64), (70, y70), (71, y71), (72, y72), (91, y91)] := fun y0 y1 y4 y5 y6 y7 y17 y27 y32 y34 y35 y36 y59 y62 y63 y64 y70 y71 y72 y91 z0 => rfl
                      refine R_nil (tr _ _ _ _ _ _ _ _ _ _ _ _ _ _ _ _ _ _ _ _ _) ?_; clear tr
                      refine then_n ?_
                      refine at_ret rfl ?_
                      refine blk_r ?_
                      refine then_r ?_
                      refine then_r ?_
                      refine blk_r ?_
                      refine blk_r ?_
                      refine then_r ?_
                      refine then_r ?_
                      refine blk_r ?_
                      refine then_r ?_
                      refine fpure ?_
                      refine ⟨?_, rfl⟩
                      rw [formS, if_neg (by omega), if_neg (by omega), if_neg (by omega), if_neg (fun hh => hh hq3), if_pos (fun hh => absurd (hh v (by omega) w (by omega)) (by omega))]
                    · try simp only [decide_eq_true_eq, decide_eq_false_iff_not, Bool.not_eq_true', Bool.not_eq_false', beq_iff_eq, beq_eq_false_iff_ne, ne_eq] at h12
                      refine at_skip rfl ?_
                      refine blk_n ?_
                      refine then_n ?_
                      refine rg rfl ?_
                      refine Rq ?_
                      refine Rq ?_
                      have tr : ∀ y0 y1 y4 y5 y6 y7 y17 y27 y32 y34 y35 y36 y59 y62 y63 y64 y70 y71 y72 y91 z0 z1 : AV, trim [(71, z1), (92, z0), (0, y0), (1, y1), (4, y4), (5, y5), (6, y6), (7, y7), (17, y17), (27, y27), (32, y32), (34, y34), (35, y35), (36, y36), (59, y59), (62, y62), (63, y63), (64, y64), (70, y70), (71, y71), (72, y72), (91, y91)] [(0, y0), (1, y1), (4, y4), (5, y5), (6, y6), (7, y7), (17, y17), (27, y27), (32, y32), (34, y34), (35, y35), (36, y36), (59, y59), (62, y62), (63, y63), (64, y64), (70, y70), (71, y71), (72, y72), (91, y91)] = [(0, y0), (1, y1), (4, y4), (5, y5), (6, y6), (7, y7), (17, y17), (27, y27), (32, y32), (34, y34), (35, y35), (36, y36), (59, y59), (62, y62), (63, y63), (64, y64), (70, y70), (71, z1), (72, y72), (91, y91)] := fun y0 y1 y4 y5 y6 y7 y17 y27 y32 y34 y35 y36 y59 y62 y63 y64 y70 y71 y72 y91 z0 z1 => rfl
                      refine R_nil (tr _ _ _ _ _ _ _ _ _ _ _ _ _ _ _ _ _ _ _ _ _ _) ?_; clear tr
                      refine then_n ?_
                      exact ⟨_, _, ⟨w + 1, _, _, _, _, rfl, rfl, by rfl, by omega, by exact all_step hs (by omega)⟩, by rfl, by omega⟩
                · try simp only [decide_eq_true_eq, decide_eq_false_iff_not, Bool.not_eq_true', Bool.not_eq_false', beq_iff_eq, beq_eq_false_iff_ne, ne_eq] at h10
                  refine at_exit rfl ?_
                  refine then_x ?_
                  refine then_x ?_
                  refine blk_x ?_
                  refine blk_n ?_
                  refine then_n ?_
                  refine rg rfl ?_
                  refine Rq ?_
                  refine Rq ?_
                  have tr : ∀ y0 y1 y4 y5 y6 y7 y17 y27 y32 y34 y35 y36 y59 y62 y63 y64 y70 y71 y72 y91 z0 z1 : AV, trim [(63, z1), (93, z0), (0, y0), (1, y1), (4, y4), (5, y5), (6, y6), (7, y7), (17, y17), (27, y27), (32, y32), (34, y34), (35, y35), (36, y36), (59, y59), (62, y62), (63, y63), (64, y64), (70, y70), (71, y71), (72, y72), (91, y91)] [(0, y0), (1, y1), (4, y4), (5, y5), (6, y6), (7, y7), (17, y17), (27, y27), (32, y32), (34, y34), (35, y35), (36, y36), (59, y59), (62, y62), (63, y63), (64, y64), (70, y70), (71, y71), (72, y72), (91, y91)] = [(0, y0), (1, y1), (4, y4), (5, y5), (6, y6), (7, y7), (17, y17), (27, y27), (32, y32), (34, y34), (35, y35), (36, y36), (59, y59), (62, y62), (63, z1), (64, y64), (70, y70), (71, y71), (72, y72), (91, y91)] := fun y0 y1 y4 y5 y6 y7 y17 y27 y32 y34 y35 y36 y59 y62 y63 y64 y70 y71 y72 y91 z0 z1 => rfl
                  refine R_nil (tr _ _ _ _ _ _ _ _ _ _ _ _ _ _ _ _ _ _ _ _ _ _) ?_; clear tr
                  refine then_n ?_
                  exact ⟨_, _, ⟨v + 1, _, _, _, _, _, _, _, _, rfl, rfl, by rfl, by omega, by exact all_step hr fun w hw => hs w (by omega)⟩, by rfl, by omega⟩
              · try simp only [decide_eq_true_eq, decide_eq_false_iff_not, Bool.not_eq_true', Bool.not_eq_false', beq_iff_eq, beq_eq_false_iff_ne, ne_eq] at h9
                refine at_exit rfl ?_
                refine then_x ?_
                refine then_x ?_
                refine blk_x ?_
                refine then_n ?_
                refine at_seq rfl ?_
                refine rg rfl ?_
                refine Rq ?_
                have tr : ∀ y0 y1 y4 y5 y6 y7 y17 y27 y32 y34 y35 y36 y59 y62 y63 y64 y70 y71 y72 y91 z0 : AV, trim [(4, z0), (0, y0), (1, y1), (4, y4), (5, y5), (6, y6), (7, y7), (17, y17), (27, y27), (32, y32), (34, y34), (35, y35), (36, y36), (59, y59), (62, y62), (63, y63), (64, y64), (70, y70), (71, y71), (72, y72), (91, y91)] [(0, y0), (1, y1), (4, y4), (5, y5), (6, y6), (7, y7), (17, y17), (27, y27), (32, y32), (34, y34), (35, y35), (36, y36), (59, y59), (62, y62), (63, y63), (64, y64), (70, y70), (71, y71), (72, y72), (91, y91)] = [(0, y0), (1, y1), (4, z0), (5, y5), (6, y6), (7, y7), (17, y17), (27, y27), (32, y32), (34, y34), (35, y35), (36, y36), (59, y59), (62, y62), (63, y63), (64, y64), (70, y70), (71, y71), (72, y72), (91, y91)] := fun y0 y1 y4 y5 y6 y7 y17 y27 y32 y34 y35 y36 y59 y62 y63 y64 y70 y71 y72 y91 z0 => rfl
                refine R_nil (tr _ _ _ _ _ _ _ _ _ _ _ _ _ _ _ _ _ _ _ _ _) ?_; clear tr
                refine then_n ?_
                refine at_ret rfl ?_
                refine fpure ?_
                refine ⟨?_, rfl⟩
                rw [formS, if_neg (by omega), if_neg (by omega), if_neg (by omega), if_neg (fun hh => hh hq3), if_neg (fun hh => hh fun i hi => hr i (by omega))]

theorem mean_ok (lim : Nat) (H : Heap) (a b : Tb) (hI : I64T a) :
    ACall sig lim 16 [rowsAV a, rowsAV b] H fun r H' => H' = H ∧ r = .tup [.agg [meanAV a b], AV.i (formS a b)] := by
  have hT : True := trivial
  have cu := hT
  have hcell := hT
  have hrow := hT
  refine ACall_pure (fa := fa16) rfl rfl rfl rfl ?_
  have tr : ∀ a0 a1 : AV, env0 fa16.keep [a0, a1] = [(0, a0), (1, a1), (4, .any), (5, .any), (6, .any), (7, .any), (8, .any), (9, .any), (10, .any), (15, .any), (20, .any), (21, .any), (22, .any), (23, .any), (28, .any), (29, .any), (30, .any), (43, .any)] := fun a0 a1 => rfl
  refine W_to (tr _ _) ?_; clear tr
  refine at_seq rfl ?_
  refine rg rfl ?_
  refine R_alloc (by simp (disch := first | omega | (simp only [List.length_map, List.length_append, List.length_set, List.length_cons, List.length_nil, List.length_take, List.length_drop]; omega)) only [go_sem, ↓reduceIte, Nat.reduceEqDiff, reduceCtorEq, hT, cu, hrow, hcell]; rfl) rfl (by simp only [List.map_cons, List.map_nil]; rfl) ?_
  refine Rq ?_
  have tr : ∀ y0 y1 y4 y5 y6 y7 y8 y9 y10 y15 y20 y21 y22 y23 y28 y29 y30 y43 z0 z1 : AV, trim [(5, z1), (4, z0), (0, y0), (1, y1), (4, y4), (5, y5), (6, y6), (7, y7), (8, y8), (9, y9), (10, y10), (15, y15), (20, y20), (21, y21), (22, y22), (23, y23), (28, y28), (29, y29), (30, y30), (43, y43)] [(0, y0), (1, y1), (4, y4), (5, y5), (6, y6), (7, y7), (8, y8), (9, y9), (10, y10), (15, y15), (20, y20), (21, y21), (22, y22), (23, y23), (28, y28), (29, y29), (30, y30), (43, y43)] = [(0, y0), (1, y1), (4, z0), (5, z1), (6, y6), (7, y7), (8, y8), (9, y9), (10, y10), (15, y15), (20, y20), (21, y21), (22, y22), (23, y23), (28, y28), (29, y29), (30, y30), (43, y43)] := fun y0 y1 y4 y5 y6 y7 y8 y9 y10 y15 y20 y21 y22 y23 y28 y29 y30 y43 z0 z1 => rfl
  refine R_nil (tr _ _ _ _ _ _ _ _ _ _ _ _ _ _ _ _ _ _ _ _) ?_; clear tr
  refine then_n ?_
  refine at_seq rfl ?_
  refine at_seq rfl ?_
  refine rg rfl ?_
  refine Rq ?_
  refine Rq ?_
  refine Rcall ?_
  refine ACall_eq (form_ok _ _ _ _) ?_
  refine Rq ?_
  have tr : ∀ y0 y1 y4 y5 y6 y7 y8 y9 y10 y15 y20 y21 y22 y23 y28 y29 y30 y43 z0 z1 z2 z3 : AV, trim [(6, z3), (13, z2), (12, z1), (11, z0), (0, y0), (1, y1), (4, y4), (5, y5), (6, y6), (7, y7), (8, y8), (9, y9), (10, y10), (15, y15), (20, y20), (21, y21), (22, y22), (23, y23), (28, y28), (29, y29), (30, y30), (43, y43)] [(0, y0), (1, y1), (4, y4), (5, y5), (6, y6), (7, y7), (8, y8), (9, y9), (10, y10), (15, y15), (20, y20), (21, y21), (22, y22), (23, y23), (28, y28), (29, y29), (30, y30), (43, y43)] = [(0, y0), (1, y1), (4, y4), (5, y5), (6, z3), (7, y7), (8, y8), (9, y9), (10, y10), (15, y15), (20, y20), (21, y21), (22, y22), (23, y23), (28, y28), (29, y29), (30, y30), (43, y43)] := fun y0 y1 y4 y5 y6 y7 y8 y9 y10 y15 y20 y21 y22 y23 y28 y29 y30 y43 z0 z1 z2 z3 => rfl
  refine R_nil (tr _ _ _ _ _ _ _ _ _ _ _ _ _ _ _ _ _ _ _ _ _ _) ?_; clear tr
  refine then_n ?_
  refine at_seq rfl ?_
  refine rg rfl ?_
  refine Rq ?_
  refine Rq ?_
  have tr : ∀ y0 y1 y4 y5 y6 y7 y8 y9 y10 y15 y20 y21 y22 y23 y28 y29 y30 y43 z0 z1 : AV, trim [(15, z1), (14, z0), (0, y0), (1, y1), (4, y4), (5, y5), (6, y6), (7, y7), (8, y8), (9, y9), (10, y10), (15, y15), (20, y20), (21, y21), (22, y22), (23, y23), (28, y28), (29, y29), (30, y30), (43, y43)] [(0, y0), (1, y1), (4, y4), (5, y5), (6, y6), (7, y7), (8, y8), (9, y9), (10, y10), (15, y15), (20, y20), (21, y21), (22, y22), (23, y23), (28, y28), (29, y29), (30, y30), (43, y43)] = [(0, y0), (1, y1), (4, y4), (5, y5), (6, y6), (7, y7), (8, y8), (9, y9), (10, y10), (15, z1), (20, y20), (21, y21), (22, y22), (23, y23), (28, y28), (29, y29), (30, y30), (43, y43)] := fun y0 y1 y4 y5 y6 y7 y8 y9 y10 y15 y20 y21 y22 y23 y28 y29 y30 y43 z0 z1 => rfl
  refine R_nil (tr _ _ _ _ _ _ _ _ _ _ _ _ _ _ _ _ _ _ _ _) ?_; clear tr
  refine then_n ?_
  refine cdd (fun h1 => ?_) (fun h1 => ?_)
  · try simp only [decide_eq_true_eq, decide_eq_false_iff_not, Bool.not_eq_true', Bool.not_eq_false', beq_iff_eq, beq_eq_false_iff_ne, ne_eq] at h1
    refine at_seq rfl ?_
    refine rg rfl ?_
    refine R_q rfl (by simp only [go_sem, List.map_nil, bld24_0]; rfl) ?_
    refine Rq ?_
    refine R_store ty24 (by simp (disch := first | omega | (simp only [List.length_map, List.length_append, List.length_set, List.length_cons, List.length_nil, List.length_take, List.length_drop]; omega)) only [go_sem, ↓reduceIte, Nat.reduceEqDiff, reduceCtorEq, hT, cu, hrow, hcell]; rfl) (by simp (disch := first | omega | (simp only [List.length_map, List.length_append, List.length_set, List.length_cons, List.length_nil, List.length_take, List.length_drop]; omega)) only [go_sem, ↓reduceIte, Nat.reduceEqDiff, reduceCtorEq, hT, cu, hrow, hcell]; rfl) (by simp (disch := first | omega | (simp only [List.length_map, List.length_append, List.length_set, List.length_cons, List.length_nil, List.length_take, List.length_drop]; omega)) only [go_sem, ↓reduceIte, Nat.reduceEqDiff, reduceCtorEq, hT, cu, hrow, hcell]; rfl) (by simp) (by rfl) (by simp (disch := first | omega | (simp only [List.length_map, List.length_append, List.length_set, List.length_cons, List.length_nil, List.length_take, List.length_drop]; omega)) only [go_sem, ↓reduceIte, Nat.reduceEqDiff, reduceCtorEq, hT, cu, hrow, hcell]; rfl) ?_
    refine Rq ?_
    have tr : ∀ y0 y1 y4 y5 y6 y7 y8 y9 y10 y15 y20 y21 y22 y23 y28 y29 y30 y43 z0 z1 z2 : AV, trim [(5, z2), (17, z1), (16, z0), (0, y0), (1, y1), (4, y4), (5, y5), (6, y6), (7, y7), (8, y8), (9, y9), (10, y10), (15, y15), (20, y20), (21, y21), (22, y22), (23, y23), (28, y28), (29, y29), (30, y30), (43, y43)] [(0, y0), (1, y1), (4, y4), (5, y5), (6, y6), (7, y7), (8, y8), (9, y9), (10, y10), (15, y15), (20, y20), (21, y21), (22, y22), (23, y23), (28, y28), (29, y29), (30, y30), (43, y43)] = [(0, y0), (1, y1), (4, y4), (5, z2), (6, y6), (7, y7), (8, y8), (9, y9), (10, y10), (15, y15), (20, y20), (21, y21), (22, y22), (23, y23), (28, y28), (29, y29), (30, y30), (43, y43)] := fun y0 y1 y4 y5 y6 y7 y8 y9 y10 y15 y20 y21 y22 y23 y28 y29 y30 y43 z0 z1 z2 => rfl
    refine R_nil (tr _ _ _ _ _ _ _ _ _ _ _ _ _ _ _ _ _ _ _ _ _) ?_; clear tr
    refine then_n ?_
    refine at_ret rfl ?_
    refine then_r ?_
    refine fin_pure (rs := [.cell 4 24, .tmp 5]) rfl (by simp only [go_sem, ↓reduceIte, Nat.reduceEqDiff]; rfl) (by simp only [go_sem, ↓reduceIte, Nat.reduceEqDiff]; rfl) ?_
    exact ⟨rfl, by rw [meanAV, if_neg h1]⟩
  · try simp only [decide_eq_true_eq, decide_eq_false_iff_not, Bool.not_eq_true', Bool.not_eq_false', beq_iff_eq, beq_eq_false_iff_ne, ne_eq] at h1
    refine at_skip rfl ?_
    refine then_n ?_
    refine at_seq rfl ?_
    refine rg rfl ?_
    obtain ⟨g2, g91, g1, g10, ge, gl, gp⟩ := formed_of h1
    refine Rq ?_
    refine Rcall ?_
    refine ACall_mono (clone_ok _ _ (by simp) a (by omega) (fun i hi => by rw [(gl i hi).1]; omega)) ?_
    rintro r H5 ⟨X, rfl, hO⟩
    rcases hO with ⟨h0, _⟩ | ⟨b0, bs, rfl, T⟩
    · exfalso; subst h0; simp at g2
    refine Rq ?_
    have tr : ∀ y0 y1 y4 y5 y6 y7 y8 y9 y10 y15 y20 y21 y22 y23 y28 y29 y30 y43 z0 z1 z2 : AV, trim [(7, z2), (19, z1), (18, z0), (0, y0), (1, y1), (4, y4), (5, y5), (6, y6), (7, y7), (8, y8), (9, y9), (10, y10), (15, y15), (20, y20), (21, y21), (22, y22), (23, y23), (28, y28), (29, y29), (30, y30), (43, y43)] [(0, y0), (1, y1), (4, y4), (5, y5), (6, y6), (7, y7), (8, y8), (9, y9), (10, y10), (15, y15), (20, y20), (21, y21), (22, y22), (23, y23), (28, y28), (29, y29), (30, y30), (43, y43)] = [(0, y0), (1, y1), (4, y4), (5, y5), (6, y6), (7, z2), (8, y8), (9, y9), (10, y10), (15, y15), (20, y20), (21, y21), (22, y22), (23, y23), (28, y28), (29, y29), (30, y30), (43, y43)] := fun y0 y1 y4 y5 y6 y7 y8 y9 y10 y15 y20 y21 y22 y23 y28 y29 y30 y43 z0 z1 z2 => rfl
    refine R_nil (tr _ _ _ _ _ _ _ _ _ _ _ _ _ _ _ _ _ _ _ _ _) ?_; clear tr
    refine then_n ?_
    refine at_seq rfl ?_
    refine at_seq rfl ?_
    refine rg rfl ?_
    have J00 := MJ.start (f := mcell a b) (D := fun i _ => i < 0) T (fun _ _ _ _ h => by omega)
    have hT := J00.tab.outer
    have hln := J00.same.len
    have hrl : Rect _ (gt a 0).length := J00.same.rect (fun u hu => (gl u hu).1)
    obtain ⟨cu, hcell⟩ := tab_facts J00.tab hrl
    have hrow := J00.tab.row
    
    refine Rq ?_
    refine Rq ?_
    refine Rq ?_
    have tr : ∀ y0 y1 y4 y5 y6 y7 y8 y9 y10 y15 y20 y21 y22 y23 y28 y29 y30 y43 z0 z1 z2 : AV, trim [(22, z2), (21, z1), (20, z0), (0, y0), (1, y1), (4, y4), (5, y5), (6, y6), (7, y7), (8, y8), (9, y9), (10, y10), (15, y15), (20, y20), (21, y21), (22, y22), (23, y23), (28, y28), (29, y29), (30, y30), (43, y43)] [(0, y0), (1, y1), (4, y4), (5, y5), (6, y6), (7, y7), (8, y8), (9, y9), (10, y10), (15, y15), (20, y20), (21, y21), (22, y22), (23, y23), (28, y28), (29, y29), (30, y30), (43, y43)] = [(0, y0), (1, y1), (4, y4), (5, y5), (6, y6), (7, y7), (8, y8), (9, y9), (10, y10), (15, y15), (20, z0), (21, z1), (22, z2), (23, y23), (28, y28), (29, y29), (30, y30), (43, y43)] := fun y0 y1 y4 y5 y6 y7 y8 y9 y10 y15 y20 y21 y22 y23 y28 y29 y30 y43 z0 z1 z2 => rfl
    refine R_nil (tr _ _ _ _ _ _ _ _ _ _ _ _ _ _ _ _ _ _ _ _ _) ?_; clear tr
    refine then_n ?_
    refine at_block rfl ?_
    refine loop_n rfl (fun mm kv H' => ∃ u : Nat, ∃ l : Tb, ∃ x8 x9 x10 x23 x28 x29 x30 x43 : AV, (kv = [(8, x8), (9, x9), (10, x10), (22, AV.i u), (23, x23), (28, x28), (29, x29), (30, x30), (43, x43)]) ∧ (mm = a.length - u) ∧ (u ≤ a.length) ∧ (MJ a (mcell a b) (H ++ [some [AV.v (.slice none 0 0)]]).length b0 bs (fun i _ => i < u) ((H ++ [some [AV.v (.slice none 0 0)]]) ++ X) H' l)) ⟨0, a, _, _, _, _, _, _, _, _, rfl, rfl, by omega, by exact J00⟩ (by rfl) ?_
    rintro mm kv H1' ⟨u, l, x8, x9, x10, x23, x28, x29, x30, x43, rfl, rfl, hu, J0⟩
    have tr : ∀ y0 y1 y4 y5 y6 y7 y8 y9 y10 y15 y20 y21 y22 y23 y28 y29 y30 y43 z8 z9 z10 z22 z23 z28 z29 z30 z43 : AV, upd [(0, y0), (1, y1), (4, y4), (5, y5), (6, y6), (7, y7), (8, y8), (9, y9), (10, y10), (15, y15), (20, y20), (21, y21), (22, y22), (23, y23), (28, y28), (29, y29), (30, y30), (43, y43)] [(8, z8), (9, z9), (10, z10), (22, z22), (23, z23), (28, z28), (29, z29), (30, z30), (43, z43)] = [(0, y0), (1, y1), (4, y4), (5, y5), (6, y6), (7, y7), (8, z8), (9, z9), (10, z10), (15, y15), (20, y20), (21, y21), (22, z22), (23, z23), (28, z28), (29, z29), (30, z30), (43, z43)] := fun y0 y1 y4 y5 y6 y7 y8 y9 y10 y15 y20 y21 y22 y23 y28 y29 y30 y43 z8 z9 z10 z22 z23 z28 z29 z30 z43 => rfl
    refine W_to (tr _ _ _ _ _ _ _ _ _ _ _ _ _ _ _ _ _ _ _ _ _ _ _ _ _ _ _) ?_; clear tr
    have hT := J0.tab.outer
    have hln := J0.same.len
    have hrl : Rect _ (gt a 0).length := J0.same.rect (fun u hu => (gl u hu).1)
    obtain ⟨cu, hcell⟩ := tab_facts J0.tab hrl
    have hrow := J0.tab.row
    
    refine at_seq rfl ?_
    refine rg rfl ?_
    refine Rq ?_
    have tr : ∀ y0 y1 y4 y5 y6 y7 y8 y9 y10 y15 y20 y21 y22 y23 y28 y29 y30 y43 z0 : AV, trim [(23, z0), (0, y0), (1, y1), (4, y4), (5, y5), (6, y6), (7, y7), (8, y8), (9, y9), (10, y10), (15, y15), (20, y20), (21, y21), (22, y22), (23, y23), (28, y28), (29, y29), (30, y30), (43, y43)] [(0, y0), (1, y1), (4, y4), (5, y5), (6, y6), (7, y7), (8, y8), (9, y9), (10, y10), (15, y15), (20, y20), (21, y21), (22, y22), (23, y23), (28, y28), (29, y29), (30, y30), (43, y43)] = [(0, y0), (1, y1), (4, y4), (5, y5), (6, y6), (7, y7), (8, y8), (9, y9), (10, y10), (15, y15), (20, y20), (21, y21), (22, y22), (23, z0), (28, y28), (29, y29), (30, y30), (43, y43)] := fun y0 y1 y4 y5 y6 y7 y8 y9 y10 y15 y20 y21 y22 y23 y28 y29 y30 y43 z0 => rfl
    refine R_nil (tr _ _ _ _ _ _ _ _ _ _ _ _ _ _ _ _ _ _ _) ?_; clear tr
    refine then_n ?_
    refine at_seq rfl ?_
    refine cdd (fun h2 => ?_) (fun h2 => ?_)
    · try simp only [decide_eq_true_eq, decide_eq_false_iff_not, Bool.not_eq_true', Bool.not_eq_false', beq_iff_eq, beq_eq_false_iff_ne, ne_eq] at h2
      refine at_skip rfl ?_
      refine then_n ?_
      refine at_seq rfl ?_
      refine at_block rfl ?_
      refine at_seq rfl ?_
      refine rg rfl ?_
      refine Rq ?_
      refine Rq ?_
      refine R_q rfl (by simp (disch := first | omega | (simp only [List.length_map, List.length_append, List.length_set, List.length_cons, List.length_nil, List.length_take, List.length_drop]; omega)) only [go_sem, ↓reduceIte, Nat.reduceEqDiff, reduceCtorEq, hT, cu, hrow, hcell]; rfl) ?_
      refine Rq ?_
      refine Rq ?_
      have tr : ∀ y0 y1 y4 y5 y6 y7 y8 y9 y10 y15 y20 y21 y22 y23 y28 y29 y30 y43 z0 z1 z2 z3 z4 : AV, trim [(9, z4), (8, z3), (26, z2), (25, z1), (24, z0), (0, y0), (1, y1), (4, y4), (5, y5), (6, y6), (7, y7), (8, y8), (9, y9), (10, y10), (15, y15), (20, y20), (21, y21), (22, y22), (23, y23), (28, y28), (29, y29), (30, y30), (43, y43)] [(0, y0), (1, y1), (4, y4), (5, y5), (6, y6), (7, y7), (8, y8), (9, y9), (10, y10), (15, y15), (20, y20), (21, y21), (22, y22), (23, y23), (28, y28), (29, y29), (30, y30), (43, y43)] = [(0, y0), (1, y1), (4, y4), (5, y5), (6, y6), (7, y7), (8, z3), (9, z4), (10, y10), (15, y15), (20, y20), (21, y21), (22, y22), (23, y23), (28, y28), (29, y29), (30, y30), (43, y43)] := fun y0 y1 y4 y5 y6 y7 y8 y9 y10 y15 y20 y21 y22 y23 y28 y29 y30 y43 z0 z1 z2 z3 z4 => rfl
      refine R_nil (tr _ _ _ _ _ _ _ _ _ _ _ _ _ _ _ _ _ _ _ _ _ _ _) ?_; clear tr
      refine then_n ?_
      refine at_seq rfl ?_
      refine rg rfl ?_
      have hglu := gl u (by omega)
      have hlu := hrl u (by omega)
      refine Rq ?_
      refine Rq ?_
      refine Rq ?_
      have tr : ∀ y0 y1 y4 y5 y6 y7 y8 y9 y10 y15 y20 y21 y22 y23 y28 y29 y30 y43 z0 z1 z2 : AV, trim [(29, z2), (28, z1), (27, z0), (0, y0), (1, y1), (4, y4), (5, y5), (6, y6), (7, y7), (8, y8), (9, y9), (10, y10), (15, y15), (20, y20), (21, y21), (22, y22), (23, y23), (28, y28), (29, y29), (30, y30), (43, y43)] [(0, y0), (1, y1), (4, y4), (5, y5), (6, y6), (7, y7), (8, y8), (9, y9), (10, y10), (15, y15), (20, y20), (21, y21), (22, y22), (23, y23), (28, y28), (29, y29), (30, y30), (43, y43)] = [(0, y0), (1, y1), (4, y4), (5, y5), (6, y6), (7, y7), (8, y8), (9, y9), (10, y10), (15, y15), (20, y20), (21, y21), (22, y22), (23, y23), (28, z1), (29, z2), (30, y30), (43, y43)] := fun y0 y1 y4 y5 y6 y7 y8 y9 y10 y15 y20 y21 y22 y23 y28 y29 y30 y43 z0 z1 z2 => rfl
      refine R_nil (tr _ _ _ _ _ _ _ _ _ _ _ _ _ _ _ _ _ _ _ _ _) ?_; clear tr
      refine then_n ?_
      refine at_block rfl ?_
      refine loop_n rfl (fun mm kv H' => ∃ w : Nat, ∃ l1 : Tb, ∃ x10 x30 x43 : AV, (kv = [(10, x10), (29, AV.i w), (30, x30), (43, x43)]) ∧ (mm = (gt a 0).length - w) ∧ (w ≤ (gt a 0).length) ∧ (MJ a (mcell a b) (H ++ [some [AV.v (.slice none 0 0)]]).length b0 bs (fun i j => i < u ∨ (i = u ∧ j < w)) ((H ++ [some [AV.v (.slice none 0 0)]]) ++ X) H' l1)) ⟨0, l, _, _, _, rfl, rfl, by omega, by exact J0.congr fun i j hi hj => by omega⟩ (by rfl) ?_
      rintro mm kv H2' ⟨w, l1, x10, x30, x43, rfl, rfl, hw, J1⟩
      have tr : ∀ y0 y1 y4 y5 y6 y7 y8 y9 y10 y15 y20 y21 y22 y23 y28 y29 y30 y43 z10 z29 z30 z43 : AV, upd [(0, y0), (1, y1), (4, y4), (5, y5), (6, y6), (7, y7), (8, y8), (9, y9), (10, y10), (15, y15), (20, y20), (21, y21), (22, y22), (23, y23), (28, y28), (29, y29), (30, y30), (43, y43)] [(10, z10), (29, z29), (30, z30), (43, z43)] = [(0, y0), (1, y1), (4, y4), (5, y5), (6, y6), (7, y7), (8, y8), (9, y9), (10, z10), (15, y15), (20, y20), (21, y21), (22, y22), (23, y23), (28, y28), (29, z29), (30, z30), (43, z43)] := fun y0 y1 y4 y5 y6 y7 y8 y9 y10 y15 y20 y21 y22 y23 y28 y29 y30 y43 z10 z29 z30 z43 => rfl
      refine W_to (tr _ _ _ _ _ _ _ _ _ _ _ _ _ _ _ _ _ _ _ _ _ _) ?_; clear tr
      clear hT cu hcell hrow hln hrl hlu
      have hT := J1.tab.outer
      have hln := J1.same.len
      have hrl : Rect _ (gt a 0).length := J1.same.rect (fun u hu => (gl u hu).1)
      obtain ⟨cu, hcell⟩ := tab_facts J1.tab hrl
      have hrow := J1.tab.row
      
      have hlu := hrl u (by omega)
      refine at_seq rfl ?_
      refine rg rfl ?_
      refine Rq ?_
      have tr : ∀ y0 y1 y4 y5 y6 y7 y8 y9 y10 y15 y20 y21 y22 y23 y28 y29 y30 y43 z0 : AV, trim [(30, z0), (0, y0), (1, y1), (4, y4), (5, y5), (6, y6), (7, y7), (8, y8), (9, y9), (10, y10), (15, y15), (20, y20), (21, y21), (22, y22), (23, y23), (28, y28), (29, y29), (30, y30), (43, y43)] [(0, y0), (1, y1), (4, y4), (5, y5), (6, y6), (7, y7), (8, y8), (9, y9), (10, y10), (15, y15), (20, y20), (21, y21), (22, y22), (23, y23), (28, y28), (29, y29), (30, y30), (43, y43)] = [(0, y0), (1, y1), (4, y4), (5, y5), (6, y6), (7, y7), (8, y8), (9, y9), (10, y10), (15, y15), (20, y20), (21, y21), (22, y22), (23, y23), (28, y28), (29, y29), (30, z0), (43, y43)] := fun y0 y1 y4 y5 y6 y7 y8 y9 y10 y15 y20 y21 y22 y23 y28 y29 y30 y43 z0 => rfl
      refine R_nil (tr _ _ _ _ _ _ _ _ _ _ _ _ _ _ _ _ _ _ _) ?_; clear tr
      refine then_n ?_
      refine at_seq rfl ?_
      refine cdd (fun h3 => ?_) (fun h3 => ?_)
      · try simp only [decide_eq_true_eq, decide_eq_false_iff_not, Bool.not_eq_true', Bool.not_eq_false', beq_iff_eq, beq_eq_false_iff_ne, ne_eq] at h3
        refine at_skip rfl ?_
        refine then_n ?_
        refine at_seq rfl ?_
        refine at_block rfl ?_
        refine at_seq rfl ?_
        refine rg rfl ?_
        refine Rq ?_
        refine Rq ?_
        have tr : ∀ y0 y1 y4 y5 y6 y7 y8 y9 y10 y15 y20 y21 y22 y23 y28 y29 y30 y43 z0 z1 : AV, trim [(10, z1), (31, z0), (0, y0), (1, y1), (4, y4), (5, y5), (6, y6), (7, y7), (8, y8), (9, y9), (10, y10), (15, y15), (20, y20), (21, y21), (22, y22), (23, y23), (28, y28), (29, y29), (30, y30), (43, y43)] [(0, y0), (1, y1), (4, y4), (5, y5), (6, y6), (7, y7), (8, y8), (9, y9), (10, y10), (15, y15), (20, y20), (21, y21), (22, y22), (23, y23), (28, y28), (29, y29), (30, y30), (43, y43)] = [(0, y0), (1, y1), (4, y4), (5, y5), (6, y6), (7, y7), (8, y8), (9, y9), (10, z1), (15, y15), (20, y20), (21, y21), (22, y22), (23, y23), (28, y28), (29, y29), (30, y30), (43, y43)] := fun y0 y1 y4 y5 y6 y7 y8 y9 y10 y15 y20 y21 y22 y23 y28 y29 y30 y43 z0 z1 => rfl
        refine R_nil (tr _ _ _ _ _ _ _ _ _ _ _ _ _ _ _ _ _ _ _ _) ?_; clear tr
        refine then_n ?_
        refine at_seq rfl ?_
        refine rg rfl ?_
        refine Rq ?_
        refine Rq ?_
        refine Rq ?_
        refine Rp_split (fun h4 => ?_) (fun h4 => ?_)
        · try simp only [decide_eq_true_eq, decide_eq_false_iff_not, Bool.not_eq_true', Bool.not_eq_false', beq_iff_eq, beq_eq_false_iff_ne, ne_eq] at h4
          refine Rn ?_
          refine Rn ?_
          refine Rn ?_
          refine Rn ?_
          refine Rn ?_
          refine Rn ?_
          refine Rn ?_
          refine Rn ?_
          refine Rq ?_
          have tr : ∀ y0 y1 y4 y5 y6 y7 y8 y9 y10 y15 y20 y21 y22 y23 y28 y29 y30 y43 z0 z1 z2 z3 z4 z5 z6 z7 z8 z9 z10 z11 : AV, trim [(43, z11), (42, z10), (41, z9), (40, z8), (39, z7), (38, z6), (37, z5), (36, z4), (35, z3), (34, z2), (33, z1), (32, z0), (0, y0), (1, y1), (4, y4), (5, y5), (6, y6), (7, y7), (8, y8), (9, y9), (10, y10), (15, y15), (20, y20), (21, y21), (22, y22), (23, y23), (28, y28), (29, y29), (30, y30), (43, y43)] [(0, y0), (1, y1), (4, y4), (5, y5), (6, y6), (7, y7), (8, y8), (9, y9), (10, y10), (15, y15), (20, y20), (21, y21), (22, y22), (23, y23), (28, y28), (29, y29), (30, y30), (43, y43)] = [(0, y0), (1, y1), (4, y4), (5, y5), (6, y6), (7, y7), (8, y8), (9, y9), (10, y10), (15, y15), (20, y20), (21, y21), (22, y22), (23, y23), (28, y28), (29, y29), (30, y30), (43, z11)] := fun y0 y1 y4 y5 y6 y7 y8 y9 y10 y15 y20 y21 y22 y23 y28 y29 y30 y43 z0 z1 z2 z3 z4 z5 z6 z7 z8 z9 z10 z11 => rfl
          refine R_nil (tr _ _ _ _ _ _ _ _ _ _ _ _ _ _ _ _ _ _ _ _ _ _ _ _ _ _ _ _ _ _) ?_; clear tr
          refine then_n ?_
          refine cdt ?_
          refine rg rfl ?_
          refine Rq ?_
          refine Rq ?_
          refine Rq ?_
          refine R_store ty2 (by simp (disch := first | omega | (simp only [List.length_map, List.length_append, List.length_set, List.length_cons, List.length_nil, List.length_take, List.length_drop]; omega)) only [go_sem, ↓reduceIte, Nat.reduceEqDiff, reduceCtorEq, hT, cu, hrow, hcell]; rfl) (by simp (disch := first | omega | (simp only [List.length_map, List.length_append, List.length_set, List.length_cons, List.length_nil, List.length_take, List.length_drop]; omega)) only [go_sem, ↓reduceIte, Nat.reduceEqDiff, reduceCtorEq, hT, cu, hrow, hcell]; rfl) (hrow u (by omega)) ⟨Nat.le_trans (by simp) (J1.tab.low u (by omega)), rfl, by simp only [List.length_map, hrl u (by omega)]; omega⟩ (setL_map _ _ _) rfl ?_
          have tr : ∀ y0 y1 y4 y5 y6 y7 y8 y9 y10 y15 y20 y21 y22 y23 y28 y29 y30 y43 z0 z1 z2 : AV, trim [(46, z2), (45, z1), (44, z0), (0, y0), (1, y1), (4, y4), (5, y5), (6, y6), (7, y7), (8, y8), (9, y9), (10, y10), (15, y15), (20, y20), (21, y21), (22, y22), (23, y23), (28, y28), (29, y29), (30, y30), (43, y43)] [(0, y0), (1, y1), (4, y4), (5, y5), (6, y6), (7, y7), (8, y8), (9, y9), (10, y10), (15, y15), (20, y20), (21, y21), (22, y22), (23, y23), (28, y28), (29, y29), (30, y30), (43, y43)] = [(0, y0), (1, y1), (4, y4), (5, y5), (6, y6), (7, y7), (8, y8), (9, y9), (10, y10), (15, y15), (20, y20), (21, y21), (22, y22), (23, y23), (28, y28), (29, y29), (30, y30), (43, y43)] := fun y0 y1 y4 y5 y6 y7 y8 y9 y10 y15 y20 y21 y22 y23 y28 y29 y30 y43 z0 z1 z2 => rfl
          refine R_nil (tr _ _ _ _ _ _ _ _ _ _ _ _ _ _ _ _ _ _ _ _ _) ?_; clear tr
          refine blk_n ?_
          refine then_n ?_
          refine rg rfl ?_
          refine Rq ?_
          refine Rq ?_
          have tr : ∀ y0 y1 y4 y5 y6 y7 y8 y9 y10 y15 y20 y21 y22 y23 y28 y29 y30 y43 z0 z1 : AV, trim [(29, z1), (63, z0), (0, y0), (1, y1), (4, y4), (5, y5), (6, y6), (7, y7), (8, y8), (9, y9), (10, y10), (15, y15), (20, y20), (21, y21), (22, y22), (23, y23), (28, y28), (29, y29), (30, y30), (43, y43)] [(0, y0), (1, y1), (4, y4), (5, y5), (6, y6), (7, y7), (8, y8), (9, y9), (10, y10), (15, y15), (20, y20), (21, y21), (22, y22), (23, y23), (28, y28), (29, y29), (30, y30), (43, y43)] = [(0, y0), (1, y1), (4, y4), (5, y5), (6, y6), (7, y7), (8, y8), (9, y9), (10, y10), (15, y15), (20, y20), (21, y21), (22, y22), (23, y23), (28, y28), (29, z1), (30, y30), (43, y43)] := fun y0 y1 y4 y5 y6 y7 y8 y9 y10 y15 y20 y21 y22 y23 y28 y29 y30 y43 z0 z1 => rfl
          refine R_nil (tr _ _ _ _ _ _ _ _ _ _ _ _ _ _ _ _ _ _ _ _) ?_; clear tr
          refine then_n ?_
          exact ⟨_, _, ⟨w + 1, _, _, _, _, rfl, rfl, by omega, by exact J1.put (by omega) (by omega) _ (by first | (rw [mcell, if_pos (by omega)]) | (rewrite [mcell, if_neg (by omega), ← hx]; omega)) fun i j hi hj => by omega⟩, by rfl, by omega⟩
        · try simp only [decide_eq_true_eq, decide_eq_false_iff_not, Bool.not_eq_true', Bool.not_eq_false', beq_iff_eq, beq_eq_false_iff_ne, ne_eq] at h4
          refine Ry ?_
          refine Rq ?_
          refine Ry ?_
          refine Rq ?_
          refine Ry ?_
          refine Rq ?_
          refine Ry ?_
          refine R_q rfl (by simp (disch := first | omega | (simp only [List.length_map, List.length_append, List.length_set, List.length_cons, List.length_nil, List.length_take, List.length_drop]; omega)) only [go_sem, ↓reduceIte, Nat.reduceEqDiff, reduceCtorEq, hT, cu, hrow, hcell]; rfl) ?_
          refine Ry ?_
          refine Rq ?_
          refine Ry ?_
          refine Rq ?_
          refine Ry ?_
          refine R_q rfl (by simp (disch := first | omega | (simp only [List.length_map, List.length_append, List.length_set, List.length_cons, List.length_nil, List.length_take, List.length_drop]; omega)) only [go_sem, ↓reduceIte, Nat.reduceEqDiff, reduceCtorEq, hT, cu, hrow, hcell]; rfl) ?_
          refine Ry ?_
          refine Rq ?_
          refine Rq ?_
          have tr : ∀ y0 y1 y4 y5 y6 y7 y8 y9 y10 y15 y20 y21 y22 y23 y28 y29 y30 y43 z0 z1 z2 z3 z4 z5 z6 z7 z8 z9 z10 z11 : AV, trim [(43, z11), (42, z10), (41, z9), (40, z8), (39, z7), (38, z6), (37, z5), (36, z4), (35, z3), (34, z2), (33, z1), (32, z0), (0, y0), (1, y1), (4, y4), (5, y5), (6, y6), (7, y7), (8, y8), (9, y9), (10, y10), (15, y15), (20, y20), (21, y21), (22, y22), (23, y23), (28, y28), (29, y29), (30, y30), (43, y43)] [(0, y0), (1, y1), (4, y4), (5, y5), (6, y6), (7, y7), (8, y8), (9, y9), (10, y10), (15, y15), (20, y20), (21, y21), (22, y22), (23, y23), (28, y28), (29, y29), (30, y30), (43, y43)] = [(0, y0), (1, y1), (4, y4), (5, y5), (6, y6), (7, y7), (8, y8), (9, y9), (10, y10), (15, y15), (20, y20), (21, y21), (22, y22), (23, y23), (28, y28), (29, y29), (30, y30), (43, z11)] := fun y0 y1 y4 y5 y6 y7 y8 y9 y10 y15 y20 y21 y22 y23 y28 y29 y30 y43 z0 z1 z2 z3 z4 z5 z6 z7 z8 z9 z10 z11 => rfl
          refine R_nil (tr _ _ _ _ _ _ _ _ _ _ _ _ _ _ _ _ _ _ _ _ _ _ _ _ _ _ _ _ _ _) ?_; clear tr
          refine then_n ?_
          refine cdd (fun h5 => ?_) (fun h5 => ?_)
          · try simp only [decide_eq_true_eq, decide_eq_false_iff_not, Bool.not_eq_true', Bool.not_eq_false', beq_iff_eq, beq_eq_false_iff_ne, ne_eq] at h5
            refine rg rfl ?_
            refine Rq ?_
            refine Rq ?_
            refine Rq ?_
            refine R_store ty2 (by simp (disch := first | omega | (simp only [List.length_map, List.length_append, List.length_set, List.length_cons, List.length_nil, List.length_take, List.length_drop]; omega)) only [go_sem, ↓reduceIte, Nat.reduceEqDiff, reduceCtorEq, hT, cu, hrow, hcell]; rfl) (by simp (disch := first | omega | (simp only [List.length_map, List.length_append, List.length_set, List.length_cons, List.length_nil, List.length_take, List.length_drop]; omega)) only [go_sem, ↓reduceIte, Nat.reduceEqDiff, reduceCtorEq, hT, cu, hrow, hcell]; rfl) (hrow u (by omega)) ⟨Nat.le_trans (by simp) (J1.tab.low u (by omega)), rfl, by simp only [List.length_map, hrl u (by omega)]; omega⟩ (setL_map _ _ _) rfl ?_
            have tr : ∀ y0 y1 y4 y5 y6 y7 y8 y9 y10 y15 y20 y21 y22 y23 y28 y29 y30 y43 z0 z1 z2 : AV, trim [(46, z2), (45, z1), (44, z0), (0, y0), (1, y1), (4, y4), (5, y5), (6, y6), (7, y7), (8, y8), (9, y9), (10, y10), (15, y15), (20, y20), (21, y21), (22, y22), (23, y23), (28, y28), (29, y29), (30, y30), (43, y43)] [(0, y0), (1, y1), (4, y4), (5, y5), (6, y6), (7, y7), (8, y8), (9, y9), (10, y10), (15, y15), (20, y20), (21, y21), (22, y22), (23, y23), (28, y28), (29, y29), (30, y30), (43, y43)] = [(0, y0), (1, y1), (4, y4), (5, y5), (6, y6), (7, y7), (8, y8), (9, y9), (10, y10), (15, y15), (20, y20), (21, y21), (22, y22), (23, y23), (28, y28), (29, y29), (30, y30), (43, y43)] := fun y0 y1 y4 y5 y6 y7 y8 y9 y10 y15 y20 y21 y22 y23 y28 y29 y30 y43 z0 z1 z2 => rfl
            refine R_nil (tr _ _ _ _ _ _ _ _ _ _ _ _ _ _ _ _ _ _ _ _ _) ?_; clear tr
            refine blk_n ?_
            refine then_n ?_
            refine rg rfl ?_
            refine Rq ?_
            refine Rq ?_
            have tr : ∀ y0 y1 y4 y5 y6 y7 y8 y9 y10 y15 y20 y21 y22 y23 y28 y29 y30 y43 z0 z1 : AV, trim [(29, z1), (63, z0), (0, y0), (1, y1), (4, y4), (5, y5), (6, y6), (7, y7), (8, y8), (9, y9), (10, y10), (15, y15), (20, y20), (21, y21), (22, y22), (23, y23), (28, y28), (29, y29), (30, y30), (43, y43)] [(0, y0), (1, y1), (4, y4), (5, y5), (6, y6), (7, y7), (8, y8), (9, y9), (10, y10), (15, y15), (20, y20), (21, y21), (22, y22), (23, y23), (28, y28), (29, y29), (30, y30), (43, y43)] = [(0, y0), (1, y1), (4, y4), (5, y5), (6, y6), (7, y7), (8, y8), (9, y9), (10, y10), (15, y15), (20, y20), (21, y21), (22, y22), (23, y23), (28, y28), (29, z1), (30, y30), (43, y43)] := fun y0 y1 y4 y5 y6 y7 y8 y9 y10 y15 y20 y21 y22 y23 y28 y29 y30 y43 z0 z1 => rfl
            refine R_nil (tr _ _ _ _ _ _ _ _ _ _ _ _ _ _ _ _ _ _ _ _) ?_; clear tr
            refine then_n ?_
            exact ⟨_, _, ⟨w + 1, _, _, _, _, rfl, rfl, by omega, by exact J1.put (by omega) (by omega) _ (by first | (rw [mcell, if_pos (by omega)]) | (rewrite [mcell, if_neg (by omega), ← hx]; omega)) fun i j hi hj => by omega⟩, by rfl, by omega⟩
          · try simp only [decide_eq_true_eq, decide_eq_false_iff_not, Bool.not_eq_true', Bool.not_eq_false', beq_iff_eq, beq_eq_false_iff_ne, ne_eq] at h5
            refine rd rfl rfl ?_
            have hp := gp u (by omega) w (by omega)
            have hx : gt (gt l1 u) w = gt (gt a u) w := J1.left u w (by omega) (by omega) (by omega)
            have hi := hI u (by omega) w (by omega)
            have hq0 : 0 ≤ gt (gt l1 u) w / gt (gt b u) w := Int.ediv_nonneg (by omega) (by omega)
            have hq1 : gt (gt l1 u) w / gt (gt b u) w ≤ gt (gt l1 u) w := Int.ediv_le_self _ (by omega)
            have hq2 : 0 ≤ gt (gt l1 u) w := by omega
            refine Qq ?_
            refine Qq ?_
            refine Qq ?_
            refine Qq ?_
            refine Qq ?_
            refine Q_q rfl (by simp (disch := first | omega | (simp only [List.length_map, List.length_append, List.length_set, List.length_cons, List.length_nil, List.length_take, List.length_drop]; omega)) only [go_sem, ↓reduceIte, Nat.reduceEqDiff, reduceCtorEq, hT, cu, hrow, hcell]; rfl) ?_
            refine Qq ?_
            refine Qq ?_
            refine Qq ?_
            refine Q_q rfl (by simp (disch := first | omega | (simp only [List.length_map, List.length_append, List.length_set, List.length_cons, List.length_nil, List.length_take, List.length_drop]; omega)) only [go_sem, ↓reduceIte, Nat.reduceEqDiff, reduceCtorEq, hT, cu, hrow, hcell]; rfl) ?_
            refine Qq ?_
            refine Qq ?_
            refine Q_q rfl (by simp (disch := first | omega | (simp only [List.length_map, List.length_append, List.length_set, List.length_cons, List.length_nil, List.length_take, List.length_drop]; omega)) only [go_sem, ↓reduceIte, Nat.reduceEqDiff, reduceCtorEq, hT, cu, hrow, hcell]; rfl) ?_
            refine Qq ?_
            refine Qq ?_
            refine Qq ?_
            refine Q_nil ?_
            refine R_store ty2 (by simp (disch := first | omega | (simp only [List.length_map, List.length_append, List.length_set, List.length_cons, List.length_nil, List.length_take, List.length_drop]; omega)) only [go_sem, ↓reduceIte, Nat.reduceEqDiff, reduceCtorEq, hT, cu, hrow, hcell]; rfl) (by simp (disch := first | omega | (simp only [List.length_map, List.length_append, List.length_set, List.length_cons, List.length_nil, List.length_take, List.length_drop]; omega)) only [go_sem, ↓reduceIte, Nat.reduceEqDiff, reduceCtorEq, hT, cu, hrow, hcell]; rfl) (hrow u (by omega)) ⟨Nat.le_trans (by simp) (J1.tab.low u (by omega)), rfl, by simp only [List.length_map, hrl u (by omega)]; omega⟩ (setL_map _ _ _) rfl ?_
            have tr : ∀ y0 y1 y4 y5 y6 y7 y8 y9 y10 y15 y20 y21 y22 y23 y28 y29 y30 y43 z0 z1 z2 z3 z4 z5 z6 z7 z8 z9 z10 z11 z12 z13 z14 z15 : AV, trim [(62, z15), (61, z14), (60, z13), (59, z12), (58, z11), (57, z10), (56, z9), (55, z8), (54, z7), (53, z6), (52, z5), (51, z4), (50, z3), (49, z2), (48, z1), (47, z0), (0, y0), (1, y1), (4, y4), (5, y5), (6, y6), (7, y7), (8, y8), (9, y9), (10, y10), (15, y15), (20, y20), (21, y21), (22, y22), (23, y23), (28, y28), (29, y29), (30, y30), (43, y43)] [(0, y0), (1, y1), (4, y4), (5, y5), (6, y6), (7, y7), (8, y8), (9, y9), (10, y10), (15, y15), (20, y20), (21, y21), (22, y22), (23, y23), (28, y28), (29, y29), (30, y30), (43, y43)] = [(0, y0), (1, y1), (4, y4), (5, y5), (6, y6), (7, y7), (8, y8), (9, y9), (10, y10), (15, y15), (20, y20), (21, y21), (22, y22), (23, y23), (28, y28), (29, y29), (30, y30), (43, y43)] := fun y0 y1 y4 y5 y6 y7 y8 y9 y10 y15 y20 y21 y22 y23 y28 y29 y30 y43 z0 z1 z2 z3 z4 z5 z6 z7 z8 z9 z10 z11 z12 z13 z14 z15 => rfl
            refine R_nil (tr _ _ _ _ _ _ _ _ _ _ _ _ _ _ _ _ _ _ _ _ _ _ _ _ _ _ _ _ _ _ _ _ _ _) ?_; clear tr
            refine blk_n ?_
            refine then_n ?_
            refine rg rfl ?_
            refine Rq ?_
            refine Rq ?_
            have tr : ∀ y0 y1 y4 y5 y6 y7 y8 y9 y10 y15 y20 y21 y22 y23 y28 y29 y30 y43 z0 z1 : AV, trim [(29, z1), (63, z0), (0, y0), (1, y1), (4, y4), (5, y5), (6, y6), (7, y7), (8, y8), (9, y9), (10, y10), (15, y15), (20, y20), (21, y21), (22, y22), (23, y23), (28, y28), (29, y29), (30, y30), (43, y43)] [(0, y0), (1, y1), (4, y4), (5, y5), (6, y6), (7, y7), (8, y8), (9, y9), (10, y10), (15, y15), (20, y20), (21, y21), (22, y22), (23, y23), (28, y28), (29, y29), (30, y30), (43, y43)] = [(0, y0), (1, y1), (4, y4), (5, y5), (6, y6), (7, y7), (8, y8), (9, y9), (10, y10), (15, y15), (20, y20), (21, y21), (22, y22), (23, y23), (28, y28), (29, z1), (30, y30), (43, y43)] := fun y0 y1 y4 y5 y6 y7 y8 y9 y10 y15 y20 y21 y22 y23 y28 y29 y30 y43 z0 z1 => rfl
            refine R_nil (tr _ _ _ _ _ _ _ _ _ _ _ _ _ _ _ _ _ _ _ _) ?_; clear tr
            refine then_n ?_
            exact ⟨_, _, ⟨w + 1, _, _, _, _, rfl, rfl, by omega, by exact J1.put (by omega) (by omega) _ (by first | (rw [mcell, if_pos (by omega)]) | (rewrite [mcell, if_neg (by omega), ← hx]; omega)) fun i j hi hj => by omega⟩, by rfl, by omega⟩
      · try simp only [decide_eq_true_eq, decide_eq_false_iff_not, Bool.not_eq_true', Bool.not_eq_false', beq_iff_eq, beq_eq_false_iff_ne, ne_eq] at h3
        refine at_exit rfl ?_
        refine then_x ?_
        refine then_x ?_
        refine blk_x ?_
        refine blk_n ?_
        refine then_n ?_
        refine rg rfl ?_
        refine Rq ?_
        refine Rq ?_
        have tr : ∀ y0 y1 y4 y5 y6 y7 y8 y9 y10 y15 y20 y21 y22 y23 y28 y29 y30 y43 z0 z1 : AV, trim [(22, z1), (64, z0), (0, y0), (1, y1), (4, y4), (5, y5), (6, y6), (7, y7), (8, y8), (9, y9), (10, y10), (15, y15), (20, y20), (21, y21), (22, y22), (23, y23), (28, y28), (29, y29), (30, y30), (43, y43)] [(0, y0), (1, y1), (4, y4), (5, y5), (6, y6), (7, y7), (8, y8), (9, y9), (10, y10), (15, y15), (20, y20), (21, y21), (22, y22), (23, y23), (28, y28), (29, y29), (30, y30), (43, y43)] = [(0, y0), (1, y1), (4, y4), (5, y5), (6, y6), (7, y7), (8, y8), (9, y9), (10, y10), (15, y15), (20, y20), (21, y21), (22, z1), (23, y23), (28, y28), (29, y29), (30, y30), (43, y43)] := fun y0 y1 y4 y5 y6 y7 y8 y9 y10 y15 y20 y21 y22 y23 y28 y29 y30 y43 z0 z1 => rfl
        refine R_nil (tr _ _ _ _ _ _ _ _ _ _ _ _ _ _ _ _ _ _ _ _) ?_; clear tr
        refine then_n ?_
        exact ⟨_, _, ⟨u + 1, _, _, _, _, _, _, _, _, _, rfl, rfl, by omega, by exact J1.congr fun i j hi hj => by have := gl i hi; omega⟩, by rfl, by omega⟩
    · try simp only [decide_eq_true_eq, decide_eq_false_iff_not, Bool.not_eq_true', Bool.not_eq_false', beq_iff_eq, beq_eq_false_iff_ne, ne_eq] at h2
      refine at_exit rfl ?_
      refine then_x ?_
      refine then_x ?_
      refine blk_x ?_
      refine then_n ?_
      refine at_seq rfl ?_
      refine rg rfl ?_
      have hlz := hrl (a.length - 1) (by omega)
      refine Rq ?_
      refine Rq ?_
      refine Rq ?_
      refine Rq ?_
      refine Rq ?_
      refine R_q rfl (by simp (disch := first | omega | (simp only [List.length_map, List.length_append, List.length_set, List.length_cons, List.length_nil, List.length_take, List.length_drop]; omega)) only [go_sem, ↓reduceIte, Nat.reduceEqDiff, reduceCtorEq, hT, cu, hrow, hcell]; rfl) ?_
      refine Rq ?_
      refine R_store ty2 (by simp (disch := first | omega | (simp only [List.length_map, List.length_append, List.length_set, List.length_cons, List.length_nil, List.length_take, List.length_drop]; omega)) only [go_sem, ↓reduceIte, Nat.reduceEqDiff, reduceCtorEq, hT, cu, hrow, hcell]; rfl) (by simp (disch := first | omega | (simp only [List.length_map, List.length_append, List.length_set, List.length_cons, List.length_nil, List.length_take, List.length_drop]; omega)) only [go_sem, ↓reduceIte, Nat.reduceEqDiff, reduceCtorEq, hT, cu, hrow, hcell]; rfl) (hrow (a.length - 1) (by omega)) ⟨Nat.le_trans (by simp) (J0.tab.low _ (by omega)), rfl, by simp only [List.length_map, hrl (a.length - 1) (by omega)]; omega⟩ (setL_map _ _ _) rfl ?_
      have tr : ∀ y0 y1 y4 y5 y6 y7 y8 y9 y10 y15 y20 y21 y22 y23 y28 y29 y30 y43 z0 z1 z2 z3 z4 z5 z6 : AV, trim [(71, z6), (70, z5), (69, z4), (68, z3), (67, z2), (66, z1), (65, z0), (0, y0), (1, y1), (4, y4), (5, y5), (6, y6), (7, y7), (8, y8), (9, y9), (10, y10), (15, y15), (20, y20), (21, y21), (22, y22), (23, y23), (28, y28), (29, y29), (30, y30), (43, y43)] [(0, y0), (1, y1), (4, y4), (5, y5), (6, y6), (7, y7), (8, y8), (9, y9), (10, y10), (15, y15), (20, y20), (21, y21), (22, y22), (23, y23), (28, y28), (29, y29), (30, y30), (43, y43)] = [(0, y0), (1, y1), (4, y4), (5, y5), (6, y6), (7, y7), (8, y8), (9, y9), (10, y10), (15, y15), (20, y20), (21, y21), (22, y22), (23, y23), (28, y28), (29, y29), (30, y30), (43, y43)] := fun y0 y1 y4 y5 y6 y7 y8 y9 y10 y15 y20 y21 y22 y23 y28 y29 y30 y43 z0 z1 z2 z3 z4 z5 z6 => rfl
      refine R_nil (tr _ _ _ _ _ _ _ _ _ _ _ _ _ _ _ _ _ _ _ _ _ _ _ _ _) ?_; clear tr
      refine then_n ?_
      refine at_seq rfl ?_
      refine rg rfl ?_
      have T9 := J0.tab.upd (a.length - 1) 0 10000 (by omega)
      have e9 : l = mtab a b := mtab_ext J0.same fun i hi j hj => J0.done i j hi hj (by omega)
      have e8 : updT l (a.length - 1) 0 10000 = meanT a b := by rw [meanT, e9]
      have hl9 : (meanT a b).length = l.length := by rw [← (mean_same a b (by omega)).len]; omega
      rw [e8] at T9
      have hq0 : hget (hset H1' (bs (a.length - 1)) (some (((gt l (a.length - 1)).set 0 10000).map AV.i))) H.length = some [AV.v (.slice none 0 0)] := by
        rw [hget_set _ _ _ _ (by have := J0.tab.low (a.length - 1) (by omega); simp at this; omega), J0.frame _ (by simp), hget_low _ _ _ (by simp), hget_app]; rfl
      have hq1 := hget_lt hq0
      refine Rq ?_
      refine R_q rfl (by simp only [go_sem, ↓reduceIte, Nat.reduceEqDiff, List.map_cons, List.map_nil, bld24]; rfl) ?_
      refine R_store ty24 (by simp (disch := first | omega | (simp only [List.length_map, List.length_append, List.length_set, List.length_cons, List.length_nil, List.length_take, List.length_drop]; omega)) only [go_sem, ↓reduceIte, Nat.reduceEqDiff, reduceCtorEq]; rfl) (by simp (disch := first | omega | (simp only [List.length_map, List.length_append, List.length_set, List.length_cons, List.length_nil, List.length_take, List.length_drop]; omega)) only [go_sem, ↓reduceIte, Nat.reduceEqDiff, reduceCtorEq]; rfl) hq0 (by simp) (by rfl) (by rfl) ?_
      refine Rq ?_
      have tr : ∀ y0 y1 y4 y5 y6 y7 y8 y9 y10 y15 y20 y21 y22 y23 y28 y29 y30 y43 z0 z1 z2 : AV, trim [(5, z2), (73, z1), (72, z0), (0, y0), (1, y1), (4, y4), (5, y5), (6, y6), (7, y7), (8, y8), (9, y9), (10, y10), (15, y15), (20, y20), (21, y21), (22, y22), (23, y23), (28, y28), (29, y29), (30, y30), (43, y43)] [(0, y0), (1, y1), (4, y4), (5, y5), (6, y6), (7, y7), (8, y8), (9, y9), (10, y10), (15, y15), (20, y20), (21, y21), (22, y22), (23, y23), (28, y28), (29, y29), (30, y30), (43, y43)] = [(0, y0), (1, y1), (4, y4), (5, z2), (6, y6), (7, y7), (8, y8), (9, y9), (10, y10), (15, y15), (20, y20), (21, y21), (22, y22), (23, y23), (28, y28), (29, y29), (30, y30), (43, y43)] := fun y0 y1 y4 y5 y6 y7 y8 y9 y10 y15 y20 y21 y22 y23 y28 y29 y30 y43 z0 z1 z2 => rfl
      refine R_nil (tr _ _ _ _ _ _ _ _ _ _ _ _ _ _ _ _ _ _ _ _ _) ?_; clear tr
      refine then_n ?_
      refine at_ret rfl ?_
      have hl8 : (meanT a b).length = a.length := by omega
      have hfr := (T9.other H.length (some [AV.own 1 b0 0 a.length]) (by simp)).frz H.length 3 (by simp)
      rw [hl8] at hfr
      refine fin_pure (rs := [.cell 4 24, .tmp 5]) rfl (l := [.agg [.own 1 b0 0 a.length], AV.i 0]) (by simp only [go_sem, ↓reduceIte, Nat.reduceEqDiff, hget_set_self _ _ _ hq1]; rfl) (by simp only [go_sem, hfr]; rfl) ?_
      exact ⟨rfl, by rw [meanAV, if_pos h1, h1]⟩

end Go.Proofs.Ytdkhgpdojjdadaa
