/-
  What is proved: RaceOf returns true for every input, and each argument reads behind the call as it read before. No conditions. (The step from the walk to the row, written by program.)
-/
import Derived.Test.YtfnapmdedmbdbaaKRaceOf7
import Derived.Test.YtfnapmdedmbdbaaKRaceOf8
import Derived.Test.YtfnapmdedmbdbaaKRaceOf14
import Derived.Test.YtfnapmdedmbdbaaKRaceOf11
import Derived.Test.YtfnapmdedmbdbaaKRaceOf4
import Derived.ProofKit
import Derived.ChangeArms
import Derived.DataReads
import Derived.OpenShut
import Derived.WideShapes
import Derived.KernelRfl
import Derived.Test.YtfnapmdedmbdbaaRows
import Derived.ChangeOld
import Derived.Below
section
set_option linter.unusedSimpArgs false
set_option linter.unusedVariables false
set_option maxHeartbeats 4000000
set_option maxRecDepth 20000
namespace Go.Proofs.Ytfnapmdedmbdbaa
open Go Go.Am
abbrev lc_raceof6_ok (a b c d e f g h i j k m n o p q : AV) : Env := [(0,a),(1,b),(2,c),(6,d),(7,e),(8,f),(9,g),(10,h),(12,i),(13,j),(21,k),(30,m),(31,n),(32,o),(33,p),(47,q)]
theorem raceof6_ok (lim : Nat) (H : Heap) (n : Int) (hn : -9223372036854775808 ≤ n ∧ n ≤ 9223372036854775807) (l : List Pl) (L : List Pr) (hL : L.length ≤ 100) : ACall sig lim 6 [AV.i n, plsAV l, prsAV L] H fun r H' => r = .tup [ofA n l L, AV.i (ofE n l L)] ∧ H' = H := by
 have q6 : True := trivial
 have q10 : True := trivial
 have qP : True := trivial
 have q12 : True := trivial
 have qL : True := trivial
 refine ACall_pure (fa := fa6) rfl rfl rfl rfl ?_
 have tr : ∀ a0 a1 a2 : AV, env0 fa6.keep [a0, a1, a2] = [(0,a0),(1,a1),(2,a2),(6,.any),(7,.any),(8,.any),(9,.any),(10,.any),(12,.any),(13,.any),(21,.any),(30,.any),(31,.any),(32,.any),(33,.any),(47,.any)] := fun a0 a1 a2 => rfl
 refine W_to (tr _ _ _) ?_; clear tr
 refine at_seq rfl ?_
 refine rg rfl ?_
 refine A_alloc rfl ?_
 intro H1 n0
 have en0 := n0.len
 have q6 : hget H1 H.length = some [nilP, nilP] := n0.new
 refine Rq ?_
 have tr : ∀ a b c d e f g h i j k m n o p q r s : AV, let l := lc_raceof6_ok a b c d e f g h i j k m n o p q; trim ((7,s)::(6,r)::l) l = [(0,a),(1,b),(2,c),(6,r),(7,s),(8,f),(9,g),(10,h),(12,i),(13,j),(21,k),(30,m),(31,n),(32,o),(33,p),(47,q)] := by intros; rfl
 refine R_nil (tr ..) ?_; clear tr
 refine then_n ?_
 refine at_seq rfl ?_
 refine rg rfl ?_
 refine Rq ?_
 refine Rq ?_
 refine Rcall ?_
 refine ACall_eq (rtable_ok _ _ n hn l) ?_
 refine Rq ?_
 refine Rq ?_
 refine Rq ?_
 refine Rq ?_
 refine Rq ?_
 have tr : ∀ a b c d e f g h i j k m n o p q r s t u v w x y : AV, let l := lc_raceof6_ok a b c d e f g h i j k m n o p q; trim ((9,y)::(8,x)::(19,w)::(18,v)::(14,u)::(17,t)::(16,s)::(15,r)::l) l = [(0,a),(1,b),(2,c),(6,d),(7,e),(8,x),(9,y),(10,h),(12,i),(13,j),(21,k),(30,m),(31,n),(32,o),(33,p),(47,q)] := by intros; rfl
 refine R_nil (tr ..) ?_; clear tr
 refine then_n ?_
 refine at_seq rfl ?_
 refine at_seq rfl ?_
 refine rg rfl ?_
 refine Rq ?_
 refine Rq ?_
 have tr : ∀ a b c d e f g h i j k m n o p q r s : AV, let l := lc_raceof6_ok a b c d e f g h i j k m n o p q; trim ((21,s)::(20,r)::l) l = [(0,a),(1,b),(2,c),(6,d),(7,e),(8,f),(9,g),(10,h),(12,i),(13,j),(21,s),(30,m),(31,n),(32,o),(33,p),(47,q)] := by intros; rfl
 refine R_nil (tr ..) ?_; clear tr
 refine then_n ?_
 refine cdd (fun h1 => ?_) (fun h1 => ?_)
 ·
  try simp only [decide_eq_true_eq, decide_eq_false_iff_not, Bool.not_eq_true', Bool.not_eq_false', beq_iff_eq, beq_eq_false_iff_ne, ne_eq] at h1
  refine at_seq rfl ?_
  refine rg rfl ?_
  refine Rq ?_
  refine Rq ?_
  have lq6 := hget_lt q6
  refine A_store ty27 (by simp (disch := first | omega | (simp only [List.length_map, List.length_append, List.length_set, List.length_cons, List.length_nil]; omega)) only [go_sem, ↓reduceIte, Nat.reduceEqDiff, reduceCtorEq, q6] <;> rfl) (by simp (disch := first | omega | (simp only [List.length_map, List.length_append, List.length_set, List.length_cons, List.length_nil]; omega)) only [go_sem, ↓reduceIte, Nat.reduceEqDiff, reduceCtorEq, q6] <;> rfl) q6 ⟨by omega, rfl, by first | exact Nat.le_refl _ | simp⟩ (k' := [nilP, nilP]) rfl ?_
  intro HE wE
  have ewE := wE.len
  have q6 := wE.new
  refine Rq ?_
  have tr : ∀ a b c d e f g h i j k m n o p q r s t : AV, let l := lc_raceof6_ok a b c d e f g h i j k m n o p q; trim ((7,t)::(23,s)::(22,r)::l) l = [(0,a),(1,b),(2,c),(6,d),(7,t),(8,f),(9,g),(10,h),(12,i),(13,j),(21,k),(30,m),(31,n),(32,o),(33,p),(47,q)] := by intros; rfl
  refine R_nil (tr ..) ?_; clear tr
  refine then_n ?_
  refine at_ret rfl ?_
  refine then_r ?_
  refine fin_pure (rs := [.cell 6 27, .tmp 7]) rfl (by simp (disch := first | omega | (simp only [List.length_map, List.length_append, List.length_set, List.length_cons, List.length_nil]; omega)) only [go_sem, ↓reduceIte, Nat.reduceEqDiff, reduceCtorEq, q6] <;> rfl) (v := .tup [.agg [nilP, nilP], AV.i (chS n l)]) (by rfl) ?_
  refine ⟨?_, rfl⟩
  rw [(of_1 L (by assumption)).1, (of_1 L (by assumption)).2]
 ·
  try simp only [decide_eq_true_eq, decide_eq_false_iff_not, Bool.not_eq_true', Bool.not_eq_false', beq_iff_eq, beq_eq_false_iff_ne, ne_eq] at h1
  refine at_skip rfl ?_
  refine then_n ?_
  refine at_seq rfl ?_
  refine rls2 rfl rfl ?_
  have hc : chS n l = 0 := by first | assumption | omega
  obtain ⟨hn2, hl4, hpl⟩ := chS_z hc
  obtain ⟨zs, hzs⟩ : ∃ zs, zs = tabS n l := ⟨_, rfl⟩
  obtain ⟨hz0, hzl, hzt⟩ := tab_row hzs hc
  rewrite [← hzs, tbAV_ne hz0]
  refine Lq ?_
  refine Lq ?_
  refine L_nil ?_
  refine R_makeSlice (ms25 _ _ n _ _ _ (by omega) (by omega) (by simp (disch := first | omega | (simp only [List.length_map, List.length_append, List.length_set, List.length_cons, List.length_nil]; omega)) only [go_sem, ↓reduceIte, Nat.reduceEqDiff, reduceCtorEq]) (by simp (disch := first | omega | (simp only [List.length_map, List.length_append, List.length_set, List.length_cons, List.length_nil]; omega)) only [go_sem, ↓reduceIte, Nat.reduceEqDiff, reduceCtorEq])) ?_
  refine R_buildSlice (bs23e _ _ _) ?_
  refine R_append (by simp (disch := first | omega | (simp only [List.length_map, List.length_append, List.length_set, List.length_cons, List.length_nil]; omega)) only [go_sem, ↓reduceIte, Nat.reduceEqDiff, reduceCtorEq]; exact app23 (by simp [hget, hset]) (by simp [hset]; try omega) (by omega)) ?_
  refine R_q rfl (by simp (disch := first | omega | (simp only [List.length_map, List.length_append, List.length_set, List.length_cons, List.length_nil]; omega)) only [go_sem, ↓reduceIte, Nat.reduceEqDiff, reduceCtorEq]; exact bld27 rfl rfl) ?_
  refine R_alloc (z := [.slice none 0 0, .slice none 0 0]) (by simp (disch := first | omega | (simp only [List.length_map, List.length_append, List.length_set, List.length_cons, List.length_nil]; omega)) only [go_sem, ↓reduceIte, Nat.reduceEqDiff, reduceCtorEq] <;> rfl) rfl (H' := _ ++ [some [nilP, nilP]]) rfl ?_
  refine R_end ⟨?_, ?_⟩
  ·
   refine ⟨?_, ?_⟩
   ·
    refine R_makeSlice (ms25 _ _ n _ _ _ (by omega) (by omega) (by simp (disch := first | omega | (simp only [List.length_map, List.length_append, List.length_set, List.length_cons, List.length_nil]; omega)) only [go_sem, ↓reduceIte, Nat.reduceEqDiff, reduceCtorEq]) (by simp (disch := first | omega | (simp only [List.length_map, List.length_append, List.length_set, List.length_cons, List.length_nil]; omega)) only [go_sem, ↓reduceIte, Nat.reduceEqDiff, reduceCtorEq])) ?_
    refine R_buildSlice (bs23e _ _ _) ?_
    refine R_append (by simp (disch := first | omega | (simp only [List.length_map, List.length_append, List.length_set, List.length_cons, List.length_nil]; omega)) only [go_sem, ↓reduceIte, Nat.reduceEqDiff, reduceCtorEq]; exact app23 (by simp [hget, hset]) (by simp [hset]; try omega) (by omega)) ?_
    refine R_alloc (z := [.slice none 0 0, .slice none 0 0]) (by simp (disch := first | omega | (simp only [List.length_map, List.length_append, List.length_set, List.length_cons, List.length_nil]; omega)) only [go_sem, ↓reduceIte, Nat.reduceEqDiff, reduceCtorEq] <;> rfl) rfl (H' := _ ++ [some [nilP, nilP]]) rfl ?_
    refine R_q rfl (by simp (disch := first | omega | (simp only [List.length_map, List.length_append, List.length_set, List.length_cons, List.length_nil]; omega)) only [go_sem, ↓reduceIte, Nat.reduceEqDiff, reduceCtorEq]; exact bld27 rfl rfl) ?_
    refine R_end ?_
    refine ⟨[0, 1, 2, 3], by simp [hset], by simp [hset], by simp [hset], by decide, by decide, by decide, ?_, ?_⟩
    · intro t ht
      simp only [List.mem_cons, List.not_mem_nil, or_false] at ht
      rcases ht with rfl | rfl
      · simp only [get_cons, put_some, ↓reduceIte, Nat.reduceEqDiff, ren_os, ren_oo, ren_p8, List.length_append, List.length_cons, List.length_nil, hset, List.length_set, Nat.zero_add, Nat.add_assoc, Nat.reduceAdd, rnB_add, rnB_zero]
        first | done | rfl
      · simp only [get_cons, put_some, ↓reduceIte, Nat.reduceEqDiff, ren_os, ren_oo, ren_p8, List.length_append, List.length_cons, List.length_nil, hset, List.length_set, Nat.zero_add, Nat.add_assoc, Nat.reduceAdd, rnB_add, rnB_zero]
        first | done | rfl
    · intro k hk
      simp only [List.mem_cons, List.not_mem_nil, or_false] at hk
      rcases hk with rfl | rfl | rfl | rfl <;> first | (simp [hget, hset, ints_ren, prs_ren]; done) | (simp [hget, hset, ints_ren, prs_ren, ren])
   refine ⟨?_, ?_⟩
   ·
    refine R_makeSlice (ms25 _ _ n _ _ _ (by omega) (by omega) (by simp (disch := first | omega | (simp only [List.length_map, List.length_append, List.length_set, List.length_cons, List.length_nil]; omega)) only [go_sem, ↓reduceIte, Nat.reduceEqDiff, reduceCtorEq]) (by simp (disch := first | omega | (simp only [List.length_map, List.length_append, List.length_set, List.length_cons, List.length_nil]; omega)) only [go_sem, ↓reduceIte, Nat.reduceEqDiff, reduceCtorEq])) ?_
    refine R_buildSlice (bs23e _ _ _) ?_
    refine R_alloc (z := [.slice none 0 0, .slice none 0 0]) (by simp (disch := first | omega | (simp only [List.length_map, List.length_append, List.length_set, List.length_cons, List.length_nil]; omega)) only [go_sem, ↓reduceIte, Nat.reduceEqDiff, reduceCtorEq] <;> rfl) rfl (H' := _ ++ [some [nilP, nilP]]) rfl ?_
    refine R_append (by simp (disch := first | omega | (simp only [List.length_map, List.length_append, List.length_set, List.length_cons, List.length_nil]; omega)) only [go_sem, ↓reduceIte, Nat.reduceEqDiff, reduceCtorEq]; exact app23 (by simp [hget, hset]) (by simp [hset]; try omega) (by omega)) ?_
    refine R_q rfl (by simp (disch := first | omega | (simp only [List.length_map, List.length_append, List.length_set, List.length_cons, List.length_nil]; omega)) only [go_sem, ↓reduceIte, Nat.reduceEqDiff, reduceCtorEq]; exact bld27 rfl rfl) ?_
    refine R_end ?_
    refine ⟨[0, 1, 3, 2], by simp [hset], by simp [hset], by simp [hset], by decide, by decide, by decide, ?_, ?_⟩
    · intro t ht
      simp only [List.mem_cons, List.not_mem_nil, or_false] at ht
      rcases ht with rfl | rfl
      · simp only [get_cons, put_some, ↓reduceIte, Nat.reduceEqDiff, ren_os, ren_oo, ren_p8, List.length_append, List.length_cons, List.length_nil, hset, List.length_set, Nat.zero_add, Nat.add_assoc, Nat.reduceAdd, rnB_add, rnB_zero]
        first | done | rfl
      · simp only [get_cons, put_some, ↓reduceIte, Nat.reduceEqDiff, ren_os, ren_oo, ren_p8, List.length_append, List.length_cons, List.length_nil, hset, List.length_set, Nat.zero_add, Nat.add_assoc, Nat.reduceAdd, rnB_add, rnB_zero]
        first | done | rfl
    · intro k hk
      simp only [List.mem_cons, List.not_mem_nil, or_false] at hk
      rcases hk with rfl | rfl | rfl | rfl <;> first | (simp [hget, hset, ints_ren, prs_ren]; done) | (simp [hget, hset, ints_ren, prs_ren, ren])
   refine ⟨?_, ?_⟩
   ·
    refine R_makeSlice (ms25 _ _ n _ _ _ (by omega) (by omega) (by simp (disch := first | omega | (simp only [List.length_map, List.length_append, List.length_set, List.length_cons, List.length_nil]; omega)) only [go_sem, ↓reduceIte, Nat.reduceEqDiff, reduceCtorEq]) (by simp (disch := first | omega | (simp only [List.length_map, List.length_append, List.length_set, List.length_cons, List.length_nil]; omega)) only [go_sem, ↓reduceIte, Nat.reduceEqDiff, reduceCtorEq])) ?_
    refine R_alloc (z := [.slice none 0 0, .slice none 0 0]) (by simp (disch := first | omega | (simp only [List.length_map, List.length_append, List.length_set, List.length_cons, List.length_nil]; omega)) only [go_sem, ↓reduceIte, Nat.reduceEqDiff, reduceCtorEq] <;> rfl) rfl (H' := _ ++ [some [nilP, nilP]]) rfl ?_
    refine R_buildSlice (bs23e _ _ _) ?_
    refine R_append (by simp (disch := first | omega | (simp only [List.length_map, List.length_append, List.length_set, List.length_cons, List.length_nil]; omega)) only [go_sem, ↓reduceIte, Nat.reduceEqDiff, reduceCtorEq]; exact app23 (by simp [hget, hset]) (by simp [hset]; try omega) (by omega)) ?_
    refine R_q rfl (by simp (disch := first | omega | (simp only [List.length_map, List.length_append, List.length_set, List.length_cons, List.length_nil]; omega)) only [go_sem, ↓reduceIte, Nat.reduceEqDiff, reduceCtorEq]; exact bld27 rfl rfl) ?_
    refine R_end ?_
    refine ⟨[0, 2, 3, 1], by simp [hset], by simp [hset], by simp [hset], by decide, by decide, by decide, ?_, ?_⟩
    · intro t ht
      simp only [List.mem_cons, List.not_mem_nil, or_false] at ht
      rcases ht with rfl | rfl
      · simp only [get_cons, put_some, ↓reduceIte, Nat.reduceEqDiff, ren_os, ren_oo, ren_p8, List.length_append, List.length_cons, List.length_nil, hset, List.length_set, Nat.zero_add, Nat.add_assoc, Nat.reduceAdd, rnB_add, rnB_zero]
        first | done | rfl
      · simp only [get_cons, put_some, ↓reduceIte, Nat.reduceEqDiff, ren_os, ren_oo, ren_p8, List.length_append, List.length_cons, List.length_nil, hset, List.length_set, Nat.zero_add, Nat.add_assoc, Nat.reduceAdd, rnB_add, rnB_zero]
        first | done | rfl
    · intro k hk
      simp only [List.mem_cons, List.not_mem_nil, or_false] at hk
      rcases hk with rfl | rfl | rfl | rfl <;> first | (simp [hget, hset, ints_ren, prs_ren]; done) | (simp [hget, hset, ints_ren, prs_ren, ren])
   refine ⟨?_, ?_⟩
   ·
    refine R_buildSlice (bs23e _ _ _) ?_
    refine R_makeSlice (ms25 _ _ n _ _ _ (by omega) (by omega) (by simp (disch := first | omega | (simp only [List.length_map, List.length_append, List.length_set, List.length_cons, List.length_nil]; omega)) only [go_sem, ↓reduceIte, Nat.reduceEqDiff, reduceCtorEq]) (by simp (disch := first | omega | (simp only [List.length_map, List.length_append, List.length_set, List.length_cons, List.length_nil]; omega)) only [go_sem, ↓reduceIte, Nat.reduceEqDiff, reduceCtorEq])) ?_
    refine R_append (by simp (disch := first | omega | (simp only [List.length_map, List.length_append, List.length_set, List.length_cons, List.length_nil]; omega)) only [go_sem, ↓reduceIte, Nat.reduceEqDiff, reduceCtorEq]; exact app23 (by simp [hget, hset]) (by simp [hset]; try omega) (by omega)) ?_
    refine R_q rfl (by simp (disch := first | omega | (simp only [List.length_map, List.length_append, List.length_set, List.length_cons, List.length_nil]; omega)) only [go_sem, ↓reduceIte, Nat.reduceEqDiff, reduceCtorEq]; exact bld27 rfl rfl) ?_
    refine R_alloc (z := [.slice none 0 0, .slice none 0 0]) (by simp (disch := first | omega | (simp only [List.length_map, List.length_append, List.length_set, List.length_cons, List.length_nil]; omega)) only [go_sem, ↓reduceIte, Nat.reduceEqDiff, reduceCtorEq] <;> rfl) rfl (H' := _ ++ [some [nilP, nilP]]) rfl ?_
    refine R_end ?_
    refine ⟨[1, 0, 2, 3], by simp [hset], by simp [hset], by simp [hset], by decide, by decide, by decide, ?_, ?_⟩
    · intro t ht
      simp only [List.mem_cons, List.not_mem_nil, or_false] at ht
      rcases ht with rfl | rfl
      · simp only [get_cons, put_some, ↓reduceIte, Nat.reduceEqDiff, ren_os, ren_oo, ren_p8, List.length_append, List.length_cons, List.length_nil, hset, List.length_set, Nat.zero_add, Nat.add_assoc, Nat.reduceAdd, rnB_add, rnB_zero]
        first | done | rfl
      · simp only [get_cons, put_some, ↓reduceIte, Nat.reduceEqDiff, ren_os, ren_oo, ren_p8, List.length_append, List.length_cons, List.length_nil, hset, List.length_set, Nat.zero_add, Nat.add_assoc, Nat.reduceAdd, rnB_add, rnB_zero]
        first | done | rfl
    · intro k hk
      simp only [List.mem_cons, List.not_mem_nil, or_false] at hk
      rcases hk with rfl | rfl | rfl | rfl <;> first | (simp [hget, hset, ints_ren, prs_ren]; done) | (simp [hget, hset, ints_ren, prs_ren, ren])
   refine ⟨?_, ?_⟩
   ·
    refine R_buildSlice (bs23e _ _ _) ?_
    refine R_makeSlice (ms25 _ _ n _ _ _ (by omega) (by omega) (by simp (disch := first | omega | (simp only [List.length_map, List.length_append, List.length_set, List.length_cons, List.length_nil]; omega)) only [go_sem, ↓reduceIte, Nat.reduceEqDiff, reduceCtorEq]) (by simp (disch := first | omega | (simp only [List.length_map, List.length_append, List.length_set, List.length_cons, List.length_nil]; omega)) only [go_sem, ↓reduceIte, Nat.reduceEqDiff, reduceCtorEq])) ?_
    refine R_append (by simp (disch := first | omega | (simp only [List.length_map, List.length_append, List.length_set, List.length_cons, List.length_nil]; omega)) only [go_sem, ↓reduceIte, Nat.reduceEqDiff, reduceCtorEq]; exact app23 (by simp [hget, hset]) (by simp [hset]; try omega) (by omega)) ?_
    refine R_alloc (z := [.slice none 0 0, .slice none 0 0]) (by simp (disch := first | omega | (simp only [List.length_map, List.length_append, List.length_set, List.length_cons, List.length_nil]; omega)) only [go_sem, ↓reduceIte, Nat.reduceEqDiff, reduceCtorEq] <;> rfl) rfl (H' := _ ++ [some [nilP, nilP]]) rfl ?_
    refine R_q rfl (by simp (disch := first | omega | (simp only [List.length_map, List.length_append, List.length_set, List.length_cons, List.length_nil]; omega)) only [go_sem, ↓reduceIte, Nat.reduceEqDiff, reduceCtorEq]; exact bld27 rfl rfl) ?_
    refine R_end ?_
    refine ⟨[1, 0, 2, 3], by simp [hset], by simp [hset], by simp [hset], by decide, by decide, by decide, ?_, ?_⟩
    · intro t ht
      simp only [List.mem_cons, List.not_mem_nil, or_false] at ht
      rcases ht with rfl | rfl
      · simp only [get_cons, put_some, ↓reduceIte, Nat.reduceEqDiff, ren_os, ren_oo, ren_p8, List.length_append, List.length_cons, List.length_nil, hset, List.length_set, Nat.zero_add, Nat.add_assoc, Nat.reduceAdd, rnB_add, rnB_zero]
        first | done | rfl
      · simp only [get_cons, put_some, ↓reduceIte, Nat.reduceEqDiff, ren_os, ren_oo, ren_p8, List.length_append, List.length_cons, List.length_nil, hset, List.length_set, Nat.zero_add, Nat.add_assoc, Nat.reduceAdd, rnB_add, rnB_zero]
        first | done | rfl
    · intro k hk
      simp only [List.mem_cons, List.not_mem_nil, or_false] at hk
      rcases hk with rfl | rfl | rfl | rfl <;> first | (simp [hget, hset, ints_ren, prs_ren]; done) | (simp [hget, hset, ints_ren, prs_ren, ren])
   refine ⟨?_, ?_⟩
   ·
    refine R_buildSlice (bs23e _ _ _) ?_
    refine R_makeSlice (ms25 _ _ n _ _ _ (by omega) (by omega) (by simp (disch := first | omega | (simp only [List.length_map, List.length_append, List.length_set, List.length_cons, List.length_nil]; omega)) only [go_sem, ↓reduceIte, Nat.reduceEqDiff, reduceCtorEq]) (by simp (disch := first | omega | (simp only [List.length_map, List.length_append, List.length_set, List.length_cons, List.length_nil]; omega)) only [go_sem, ↓reduceIte, Nat.reduceEqDiff, reduceCtorEq])) ?_
    refine R_alloc (z := [.slice none 0 0, .slice none 0 0]) (by simp (disch := first | omega | (simp only [List.length_map, List.length_append, List.length_set, List.length_cons, List.length_nil]; omega)) only [go_sem, ↓reduceIte, Nat.reduceEqDiff, reduceCtorEq] <;> rfl) rfl (H' := _ ++ [some [nilP, nilP]]) rfl ?_
    refine R_append (by simp (disch := first | omega | (simp only [List.length_map, List.length_append, List.length_set, List.length_cons, List.length_nil]; omega)) only [go_sem, ↓reduceIte, Nat.reduceEqDiff, reduceCtorEq]; exact app23 (by simp [hget, hset]) (by simp [hset]; try omega) (by omega)) ?_
    refine R_q rfl (by simp (disch := first | omega | (simp only [List.length_map, List.length_append, List.length_set, List.length_cons, List.length_nil]; omega)) only [go_sem, ↓reduceIte, Nat.reduceEqDiff, reduceCtorEq]; exact bld27 rfl rfl) ?_
    refine R_end ?_
    refine ⟨[1, 0, 3, 2], by simp [hset], by simp [hset], by simp [hset], by decide, by decide, by decide, ?_, ?_⟩
    · intro t ht
      simp only [List.mem_cons, List.not_mem_nil, or_false] at ht
      rcases ht with rfl | rfl
      · simp only [get_cons, put_some, ↓reduceIte, Nat.reduceEqDiff, ren_os, ren_oo, ren_p8, List.length_append, List.length_cons, List.length_nil, hset, List.length_set, Nat.zero_add, Nat.add_assoc, Nat.reduceAdd, rnB_add, rnB_zero]
        first | done | rfl
      · simp only [get_cons, put_some, ↓reduceIte, Nat.reduceEqDiff, ren_os, ren_oo, ren_p8, List.length_append, List.length_cons, List.length_nil, hset, List.length_set, Nat.zero_add, Nat.add_assoc, Nat.reduceAdd, rnB_add, rnB_zero]
        first | done | rfl
    · intro k hk
      simp only [List.mem_cons, List.not_mem_nil, or_false] at hk
      rcases hk with rfl | rfl | rfl | rfl <;> first | (simp [hget, hset, ints_ren, prs_ren]; done) | (simp [hget, hset, ints_ren, prs_ren, ren])
   refine ⟨?_, ?_⟩
   ·
    refine R_buildSlice (bs23e _ _ _) ?_
    refine R_append (by simp (disch := first | omega | (simp only [List.length_map, List.length_append, List.length_set, List.length_cons, List.length_nil]; omega)) only [go_sem, ↓reduceIte, Nat.reduceEqDiff, reduceCtorEq]; exact app23 (by simp [hget, hset]) (by simp [hset]; try omega) (by omega)) ?_
    refine R_makeSlice (ms25 _ _ n _ _ _ (by omega) (by omega) (by simp (disch := first | omega | (simp only [List.length_map, List.length_append, List.length_set, List.length_cons, List.length_nil]; omega)) only [go_sem, ↓reduceIte, Nat.reduceEqDiff, reduceCtorEq]) (by simp (disch := first | omega | (simp only [List.length_map, List.length_append, List.length_set, List.length_cons, List.length_nil]; omega)) only [go_sem, ↓reduceIte, Nat.reduceEqDiff, reduceCtorEq])) ?_
    refine R_q rfl (by simp (disch := first | omega | (simp only [List.length_map, List.length_append, List.length_set, List.length_cons, List.length_nil]; omega)) only [go_sem, ↓reduceIte, Nat.reduceEqDiff, reduceCtorEq]; exact bld27 rfl rfl) ?_
    refine R_alloc (z := [.slice none 0 0, .slice none 0 0]) (by simp (disch := first | omega | (simp only [List.length_map, List.length_append, List.length_set, List.length_cons, List.length_nil]; omega)) only [go_sem, ↓reduceIte, Nat.reduceEqDiff, reduceCtorEq] <;> rfl) rfl (H' := _ ++ [some [nilP, nilP]]) rfl ?_
    refine R_end ?_
    refine ⟨[2, 0, 1, 3], by simp [hset], by simp [hset], by simp [hset], by decide, by decide, by decide, ?_, ?_⟩
    · intro t ht
      simp only [List.mem_cons, List.not_mem_nil, or_false] at ht
      rcases ht with rfl | rfl
      · simp only [get_cons, put_some, ↓reduceIte, Nat.reduceEqDiff, ren_os, ren_oo, ren_p8, List.length_append, List.length_cons, List.length_nil, hset, List.length_set, Nat.zero_add, Nat.add_assoc, Nat.reduceAdd, rnB_add, rnB_zero]
        first | done | rfl
      · simp only [get_cons, put_some, ↓reduceIte, Nat.reduceEqDiff, ren_os, ren_oo, ren_p8, List.length_append, List.length_cons, List.length_nil, hset, List.length_set, Nat.zero_add, Nat.add_assoc, Nat.reduceAdd, rnB_add, rnB_zero]
        first | done | rfl
    · intro k hk
      simp only [List.mem_cons, List.not_mem_nil, or_false] at hk
      rcases hk with rfl | rfl | rfl | rfl <;> first | (simp [hget, hset, ints_ren, prs_ren]; done) | (simp [hget, hset, ints_ren, prs_ren, ren])
   refine ⟨?_, ?_⟩
   ·
    refine R_buildSlice (bs23e _ _ _) ?_
    refine R_append (by simp (disch := first | omega | (simp only [List.length_map, List.length_append, List.length_set, List.length_cons, List.length_nil]; omega)) only [go_sem, ↓reduceIte, Nat.reduceEqDiff, reduceCtorEq]; exact app23 (by simp [hget, hset]) (by simp [hset]; try omega) (by omega)) ?_
    refine R_makeSlice (ms25 _ _ n _ _ _ (by omega) (by omega) (by simp (disch := first | omega | (simp only [List.length_map, List.length_append, List.length_set, List.length_cons, List.length_nil]; omega)) only [go_sem, ↓reduceIte, Nat.reduceEqDiff, reduceCtorEq]) (by simp (disch := first | omega | (simp only [List.length_map, List.length_append, List.length_set, List.length_cons, List.length_nil]; omega)) only [go_sem, ↓reduceIte, Nat.reduceEqDiff, reduceCtorEq])) ?_
    refine R_alloc (z := [.slice none 0 0, .slice none 0 0]) (by simp (disch := first | omega | (simp only [List.length_map, List.length_append, List.length_set, List.length_cons, List.length_nil]; omega)) only [go_sem, ↓reduceIte, Nat.reduceEqDiff, reduceCtorEq] <;> rfl) rfl (H' := _ ++ [some [nilP, nilP]]) rfl ?_
    refine R_q rfl (by simp (disch := first | omega | (simp only [List.length_map, List.length_append, List.length_set, List.length_cons, List.length_nil]; omega)) only [go_sem, ↓reduceIte, Nat.reduceEqDiff, reduceCtorEq]; exact bld27 rfl rfl) ?_
    refine R_end ?_
    refine ⟨[2, 0, 1, 3], by simp [hset], by simp [hset], by simp [hset], by decide, by decide, by decide, ?_, ?_⟩
    · intro t ht
      simp only [List.mem_cons, List.not_mem_nil, or_false] at ht
      rcases ht with rfl | rfl
      · simp only [get_cons, put_some, ↓reduceIte, Nat.reduceEqDiff, ren_os, ren_oo, ren_p8, List.length_append, List.length_cons, List.length_nil, hset, List.length_set, Nat.zero_add, Nat.add_assoc, Nat.reduceAdd, rnB_add, rnB_zero]
        first | done | rfl
      · simp only [get_cons, put_some, ↓reduceIte, Nat.reduceEqDiff, ren_os, ren_oo, ren_p8, List.length_append, List.length_cons, List.length_nil, hset, List.length_set, Nat.zero_add, Nat.add_assoc, Nat.reduceAdd, rnB_add, rnB_zero]
        first | done | rfl
    · intro k hk
      simp only [List.mem_cons, List.not_mem_nil, or_false] at hk
      rcases hk with rfl | rfl | rfl | rfl <;> first | (simp [hget, hset, ints_ren, prs_ren]; done) | (simp [hget, hset, ints_ren, prs_ren, ren])
   refine ⟨?_, ?_⟩
   ·
    refine R_buildSlice (bs23e _ _ _) ?_
    refine R_append (by simp (disch := first | omega | (simp only [List.length_map, List.length_append, List.length_set, List.length_cons, List.length_nil]; omega)) only [go_sem, ↓reduceIte, Nat.reduceEqDiff, reduceCtorEq]; exact app23 (by simp [hget, hset]) (by simp [hset]; try omega) (by omega)) ?_
    refine R_alloc (z := [.slice none 0 0, .slice none 0 0]) (by simp (disch := first | omega | (simp only [List.length_map, List.length_append, List.length_set, List.length_cons, List.length_nil]; omega)) only [go_sem, ↓reduceIte, Nat.reduceEqDiff, reduceCtorEq] <;> rfl) rfl (H' := _ ++ [some [nilP, nilP]]) rfl ?_
    refine R_makeSlice (ms25 _ _ n _ _ _ (by omega) (by omega) (by simp (disch := first | omega | (simp only [List.length_map, List.length_append, List.length_set, List.length_cons, List.length_nil]; omega)) only [go_sem, ↓reduceIte, Nat.reduceEqDiff, reduceCtorEq]) (by simp (disch := first | omega | (simp only [List.length_map, List.length_append, List.length_set, List.length_cons, List.length_nil]; omega)) only [go_sem, ↓reduceIte, Nat.reduceEqDiff, reduceCtorEq])) ?_
    refine R_q rfl (by simp (disch := first | omega | (simp only [List.length_map, List.length_append, List.length_set, List.length_cons, List.length_nil]; omega)) only [go_sem, ↓reduceIte, Nat.reduceEqDiff, reduceCtorEq]; exact bld27 rfl rfl) ?_
    refine R_end ?_
    refine ⟨[3, 0, 1, 2], by simp [hset], by simp [hset], by simp [hset], by decide, by decide, by decide, ?_, ?_⟩
    · intro t ht
      simp only [List.mem_cons, List.not_mem_nil, or_false] at ht
      rcases ht with rfl | rfl
      · simp only [get_cons, put_some, ↓reduceIte, Nat.reduceEqDiff, ren_os, ren_oo, ren_p8, List.length_append, List.length_cons, List.length_nil, hset, List.length_set, Nat.zero_add, Nat.add_assoc, Nat.reduceAdd, rnB_add, rnB_zero]
        first | done | rfl
      · simp only [get_cons, put_some, ↓reduceIte, Nat.reduceEqDiff, ren_os, ren_oo, ren_p8, List.length_append, List.length_cons, List.length_nil, hset, List.length_set, Nat.zero_add, Nat.add_assoc, Nat.reduceAdd, rnB_add, rnB_zero]
        first | done | rfl
    · intro k hk
      simp only [List.mem_cons, List.not_mem_nil, or_false] at hk
      rcases hk with rfl | rfl | rfl | rfl <;> first | (simp [hget, hset, ints_ren, prs_ren]; done) | (simp [hget, hset, ints_ren, prs_ren, ren])
   refine ⟨?_, ?_⟩
   ·
    refine R_buildSlice (bs23e _ _ _) ?_
    refine R_alloc (z := [.slice none 0 0, .slice none 0 0]) (by simp (disch := first | omega | (simp only [List.length_map, List.length_append, List.length_set, List.length_cons, List.length_nil]; omega)) only [go_sem, ↓reduceIte, Nat.reduceEqDiff, reduceCtorEq] <;> rfl) rfl (H' := _ ++ [some [nilP, nilP]]) rfl ?_
    refine R_makeSlice (ms25 _ _ n _ _ _ (by omega) (by omega) (by simp (disch := first | omega | (simp only [List.length_map, List.length_append, List.length_set, List.length_cons, List.length_nil]; omega)) only [go_sem, ↓reduceIte, Nat.reduceEqDiff, reduceCtorEq]) (by simp (disch := first | omega | (simp only [List.length_map, List.length_append, List.length_set, List.length_cons, List.length_nil]; omega)) only [go_sem, ↓reduceIte, Nat.reduceEqDiff, reduceCtorEq])) ?_
    refine R_append (by simp (disch := first | omega | (simp only [List.length_map, List.length_append, List.length_set, List.length_cons, List.length_nil]; omega)) only [go_sem, ↓reduceIte, Nat.reduceEqDiff, reduceCtorEq]; exact app23 (by simp [hget, hset]) (by simp [hset]; try omega) (by omega)) ?_
    refine R_q rfl (by simp (disch := first | omega | (simp only [List.length_map, List.length_append, List.length_set, List.length_cons, List.length_nil]; omega)) only [go_sem, ↓reduceIte, Nat.reduceEqDiff, reduceCtorEq]; exact bld27 rfl rfl) ?_
    refine R_end ?_
    refine ⟨[2, 0, 3, 1], by simp [hset], by simp [hset], by simp [hset], by decide, by decide, by decide, ?_, ?_⟩
    · intro t ht
      simp only [List.mem_cons, List.not_mem_nil, or_false] at ht
      rcases ht with rfl | rfl
      · simp only [get_cons, put_some, ↓reduceIte, Nat.reduceEqDiff, ren_os, ren_oo, ren_p8, List.length_append, List.length_cons, List.length_nil, hset, List.length_set, Nat.zero_add, Nat.add_assoc, Nat.reduceAdd, rnB_add, rnB_zero]
        first | done | rfl
      · simp only [get_cons, put_some, ↓reduceIte, Nat.reduceEqDiff, ren_os, ren_oo, ren_p8, List.length_append, List.length_cons, List.length_nil, hset, List.length_set, Nat.zero_add, Nat.add_assoc, Nat.reduceAdd, rnB_add, rnB_zero]
        first | done | rfl
    · intro k hk
      simp only [List.mem_cons, List.not_mem_nil, or_false] at hk
      rcases hk with rfl | rfl | rfl | rfl <;> first | (simp [hget, hset, ints_ren, prs_ren]; done) | (simp [hget, hset, ints_ren, prs_ren, ren])
   refine ⟨?_, ?_⟩
   ·
    refine R_buildSlice (bs23e _ _ _) ?_
    refine R_alloc (z := [.slice none 0 0, .slice none 0 0]) (by simp (disch := first | omega | (simp only [List.length_map, List.length_append, List.length_set, List.length_cons, List.length_nil]; omega)) only [go_sem, ↓reduceIte, Nat.reduceEqDiff, reduceCtorEq] <;> rfl) rfl (H' := _ ++ [some [nilP, nilP]]) rfl ?_
    refine R_append (by simp (disch := first | omega | (simp only [List.length_map, List.length_append, List.length_set, List.length_cons, List.length_nil]; omega)) only [go_sem, ↓reduceIte, Nat.reduceEqDiff, reduceCtorEq]; exact app23 (by simp [hget, hset]) (by simp [hset]; try omega) (by omega)) ?_
    refine R_makeSlice (ms25 _ _ n _ _ _ (by omega) (by omega) (by simp (disch := first | omega | (simp only [List.length_map, List.length_append, List.length_set, List.length_cons, List.length_nil]; omega)) only [go_sem, ↓reduceIte, Nat.reduceEqDiff, reduceCtorEq]) (by simp (disch := first | omega | (simp only [List.length_map, List.length_append, List.length_set, List.length_cons, List.length_nil]; omega)) only [go_sem, ↓reduceIte, Nat.reduceEqDiff, reduceCtorEq])) ?_
    refine R_q rfl (by simp (disch := first | omega | (simp only [List.length_map, List.length_append, List.length_set, List.length_cons, List.length_nil]; omega)) only [go_sem, ↓reduceIte, Nat.reduceEqDiff, reduceCtorEq]; exact bld27 rfl rfl) ?_
    refine R_end ?_
    refine ⟨[3, 0, 2, 1], by simp [hset], by simp [hset], by simp [hset], by decide, by decide, by decide, ?_, ?_⟩
    · intro t ht
      simp only [List.mem_cons, List.not_mem_nil, or_false] at ht
      rcases ht with rfl | rfl
      · simp only [get_cons, put_some, ↓reduceIte, Nat.reduceEqDiff, ren_os, ren_oo, ren_p8, List.length_append, List.length_cons, List.length_nil, hset, List.length_set, Nat.zero_add, Nat.add_assoc, Nat.reduceAdd, rnB_add, rnB_zero]
        first | done | rfl
      · simp only [get_cons, put_some, ↓reduceIte, Nat.reduceEqDiff, ren_os, ren_oo, ren_p8, List.length_append, List.length_cons, List.length_nil, hset, List.length_set, Nat.zero_add, Nat.add_assoc, Nat.reduceAdd, rnB_add, rnB_zero]
        first | done | rfl
    · intro k hk
      simp only [List.mem_cons, List.not_mem_nil, or_false] at hk
      rcases hk with rfl | rfl | rfl | rfl <;> first | (simp [hget, hset, ints_ren, prs_ren]; done) | (simp [hget, hset, ints_ren, prs_ren, ren])
   refine ⟨?_, ?_⟩
   ·
    refine R_alloc (z := [.slice none 0 0, .slice none 0 0]) (by simp (disch := first | omega | (simp only [List.length_map, List.length_append, List.length_set, List.length_cons, List.length_nil]; omega)) only [go_sem, ↓reduceIte, Nat.reduceEqDiff, reduceCtorEq] <;> rfl) rfl (H' := _ ++ [some [nilP, nilP]]) rfl ?_
    refine R_makeSlice (ms25 _ _ n _ _ _ (by omega) (by omega) (by simp (disch := first | omega | (simp only [List.length_map, List.length_append, List.length_set, List.length_cons, List.length_nil]; omega)) only [go_sem, ↓reduceIte, Nat.reduceEqDiff, reduceCtorEq]) (by simp (disch := first | omega | (simp only [List.length_map, List.length_append, List.length_set, List.length_cons, List.length_nil]; omega)) only [go_sem, ↓reduceIte, Nat.reduceEqDiff, reduceCtorEq])) ?_
    refine R_buildSlice (bs23e _ _ _) ?_
    refine R_append (by simp (disch := first | omega | (simp only [List.length_map, List.length_append, List.length_set, List.length_cons, List.length_nil]; omega)) only [go_sem, ↓reduceIte, Nat.reduceEqDiff, reduceCtorEq]; exact app23 (by simp [hget, hset]) (by simp [hset]; try omega) (by omega)) ?_
    refine R_q rfl (by simp (disch := first | omega | (simp only [List.length_map, List.length_append, List.length_set, List.length_cons, List.length_nil]; omega)) only [go_sem, ↓reduceIte, Nat.reduceEqDiff, reduceCtorEq]; exact bld27 rfl rfl) ?_
    refine R_end ?_
    refine ⟨[1, 2, 3, 0], by simp [hset], by simp [hset], by simp [hset], by decide, by decide, by decide, ?_, ?_⟩
    · intro t ht
      simp only [List.mem_cons, List.not_mem_nil, or_false] at ht
      rcases ht with rfl | rfl
      · simp only [get_cons, put_some, ↓reduceIte, Nat.reduceEqDiff, ren_os, ren_oo, ren_p8, List.length_append, List.length_cons, List.length_nil, hset, List.length_set, Nat.zero_add, Nat.add_assoc, Nat.reduceAdd, rnB_add, rnB_zero]
        first | done | rfl
      · simp only [get_cons, put_some, ↓reduceIte, Nat.reduceEqDiff, ren_os, ren_oo, ren_p8, List.length_append, List.length_cons, List.length_nil, hset, List.length_set, Nat.zero_add, Nat.add_assoc, Nat.reduceAdd, rnB_add, rnB_zero]
        first | done | rfl
    · intro k hk
      simp only [List.mem_cons, List.not_mem_nil, or_false] at hk
      rcases hk with rfl | rfl | rfl | rfl <;> first | (simp [hget, hset, ints_ren, prs_ren]; done) | (simp [hget, hset, ints_ren, prs_ren, ren])
   refine ⟨?_, ?_⟩
   ·
    refine R_alloc (z := [.slice none 0 0, .slice none 0 0]) (by simp (disch := first | omega | (simp only [List.length_map, List.length_append, List.length_set, List.length_cons, List.length_nil]; omega)) only [go_sem, ↓reduceIte, Nat.reduceEqDiff, reduceCtorEq] <;> rfl) rfl (H' := _ ++ [some [nilP, nilP]]) rfl ?_
    refine R_buildSlice (bs23e _ _ _) ?_
    refine R_makeSlice (ms25 _ _ n _ _ _ (by omega) (by omega) (by simp (disch := first | omega | (simp only [List.length_map, List.length_append, List.length_set, List.length_cons, List.length_nil]; omega)) only [go_sem, ↓reduceIte, Nat.reduceEqDiff, reduceCtorEq]) (by simp (disch := first | omega | (simp only [List.length_map, List.length_append, List.length_set, List.length_cons, List.length_nil]; omega)) only [go_sem, ↓reduceIte, Nat.reduceEqDiff, reduceCtorEq])) ?_
    refine R_append (by simp (disch := first | omega | (simp only [List.length_map, List.length_append, List.length_set, List.length_cons, List.length_nil]; omega)) only [go_sem, ↓reduceIte, Nat.reduceEqDiff, reduceCtorEq]; exact app23 (by simp [hget, hset]) (by simp [hset]; try omega) (by omega)) ?_
    refine R_q rfl (by simp (disch := first | omega | (simp only [List.length_map, List.length_append, List.length_set, List.length_cons, List.length_nil]; omega)) only [go_sem, ↓reduceIte, Nat.reduceEqDiff, reduceCtorEq]; exact bld27 rfl rfl) ?_
    refine R_end ?_
    refine ⟨[2, 1, 3, 0], by simp [hset], by simp [hset], by simp [hset], by decide, by decide, by decide, ?_, ?_⟩
    · intro t ht
      simp only [List.mem_cons, List.not_mem_nil, or_false] at ht
      rcases ht with rfl | rfl
      · simp only [get_cons, put_some, ↓reduceIte, Nat.reduceEqDiff, ren_os, ren_oo, ren_p8, List.length_append, List.length_cons, List.length_nil, hset, List.length_set, Nat.zero_add, Nat.add_assoc, Nat.reduceAdd, rnB_add, rnB_zero]
        first | done | rfl
      · simp only [get_cons, put_some, ↓reduceIte, Nat.reduceEqDiff, ren_os, ren_oo, ren_p8, List.length_append, List.length_cons, List.length_nil, hset, List.length_set, Nat.zero_add, Nat.add_assoc, Nat.reduceAdd, rnB_add, rnB_zero]
        first | done | rfl
    · intro k hk
      simp only [List.mem_cons, List.not_mem_nil, or_false] at hk
      rcases hk with rfl | rfl | rfl | rfl <;> first | (simp [hget, hset, ints_ren, prs_ren]; done) | (simp [hget, hset, ints_ren, prs_ren, ren])
   refine ⟨?_, ?_⟩
   ·
    refine R_alloc (z := [.slice none 0 0, .slice none 0 0]) (by simp (disch := first | omega | (simp only [List.length_map, List.length_append, List.length_set, List.length_cons, List.length_nil]; omega)) only [go_sem, ↓reduceIte, Nat.reduceEqDiff, reduceCtorEq] <;> rfl) rfl (H' := _ ++ [some [nilP, nilP]]) rfl ?_
    refine R_buildSlice (bs23e _ _ _) ?_
    refine R_append (by simp (disch := first | omega | (simp only [List.length_map, List.length_append, List.length_set, List.length_cons, List.length_nil]; omega)) only [go_sem, ↓reduceIte, Nat.reduceEqDiff, reduceCtorEq]; exact app23 (by simp [hget, hset]) (by simp [hset]; try omega) (by omega)) ?_
    refine R_makeSlice (ms25 _ _ n _ _ _ (by omega) (by omega) (by simp (disch := first | omega | (simp only [List.length_map, List.length_append, List.length_set, List.length_cons, List.length_nil]; omega)) only [go_sem, ↓reduceIte, Nat.reduceEqDiff, reduceCtorEq]) (by simp (disch := first | omega | (simp only [List.length_map, List.length_append, List.length_set, List.length_cons, List.length_nil]; omega)) only [go_sem, ↓reduceIte, Nat.reduceEqDiff, reduceCtorEq])) ?_
    refine R_q rfl (by simp (disch := first | omega | (simp only [List.length_map, List.length_append, List.length_set, List.length_cons, List.length_nil]; omega)) only [go_sem, ↓reduceIte, Nat.reduceEqDiff, reduceCtorEq]; exact bld27 rfl rfl) ?_
    refine R_end ?_
    refine ⟨[3, 1, 2, 0], by simp [hset], by simp [hset], by simp [hset], by decide, by decide, by decide, ?_, ?_⟩
    · intro t ht
      simp only [List.mem_cons, List.not_mem_nil, or_false] at ht
      rcases ht with rfl | rfl
      · simp only [get_cons, put_some, ↓reduceIte, Nat.reduceEqDiff, ren_os, ren_oo, ren_p8, List.length_append, List.length_cons, List.length_nil, hset, List.length_set, Nat.zero_add, Nat.add_assoc, Nat.reduceAdd, rnB_add, rnB_zero]
        first | done | rfl
      · simp only [get_cons, put_some, ↓reduceIte, Nat.reduceEqDiff, ren_os, ren_oo, ren_p8, List.length_append, List.length_cons, List.length_nil, hset, List.length_set, Nat.zero_add, Nat.add_assoc, Nat.reduceAdd, rnB_add, rnB_zero]
        first | done | rfl
    · intro k hk
      simp only [List.mem_cons, List.not_mem_nil, or_false] at hk
      rcases hk with rfl | rfl | rfl | rfl <;> first | (simp [hget, hset, ints_ren, prs_ren]; done) | (simp [hget, hset, ints_ren, prs_ren, ren])
   exact trivial
  rewrite [show hset (H1 ++ [some ((List.replicate n.toNat (0 : Int)).map AV.i)] ++ [some []]) (H1 ++ [some ((List.replicate n.toNat (0 : Int)).map AV.i)]).length none ++ [some (flatQ L)] ++ [some [nilP, nilP]] = H1 ++ [some ((List.replicate n.toNat (0 : Int)).map AV.i)] ++ [none] ++ [some (flatQ L)] ++ [some [nilP, nilP]] by simp [hset], keep_four]
  refine Rp_env (e' := [(29, _), (10, _), (24, .any), (25, .any), (26, .any), (27, .any), (28, .any), (29, .any), (10, .any), (0, _), (1, _), (2, _), (6, _), (7, _), (8, _), (9, _), (10, _), (12, _), (13, _), (21, _), (30, _), (31, _), (32, _), (33, _), (47, _)]) rfl ?_
  simp only [put_some, get_cons, ↓reduceIte, Nat.reduceEqDiff]
  have q6 := (four_low (A := some ((List.replicate n.toNat (0 : Int)).map AV.i)) (B := none) (C := some (flatQ L)) (D := some [nilP, nilP]) (hget_lt q6)).trans q6
  have qP := four_0 H1 (some ((List.replicate n.toNat (0 : Int)).map AV.i)) none (some (flatQ L)) (some [nilP, nilP])
  have qL := four_2 H1 (some ((List.replicate n.toNat (0 : Int)).map AV.i)) none (some (flatQ L)) (some [nilP, nilP])
  have q10 := four_3 H1 (some ((List.replicate n.toNat (0 : Int)).map AV.i)) none (some (flatQ L)) (some [nilP, nilP])
  have eHN : (H1 ++ [some ((List.replicate n.toNat (0 : Int)).map AV.i)] ++ [none] ++ [some (flatQ L)] ++ [some [nilP, nilP]]).length = H1.length + 4 := by simp
  simp only [List.length_append, List.length_cons, List.length_nil, hset, List.length_set, Nat.zero_add, Nat.add_assoc, Nat.reduceAdd]
  obtain ⟨bP, hbP⟩ : ∃ b, b = H1.length := ⟨_, rfl⟩
  obtain ⟨bL, hbL⟩ : ∃ b, b = H1.length + 2 := ⟨_, rfl⟩
  obtain ⟨bR, hbR⟩ : ∃ b, b = H1.length + 3 := ⟨_, rfl⟩
  generalize H1 ++ [some ((List.replicate n.toNat (0 : Int)).map AV.i)] ++ [none] ++ [some (flatQ L)] ++ [some [nilP, nilP]] = HN at q6 qP q10 qL eHN ⊢
  rewrite [← hbP] at qP
  rewrite [← hbL] at qL
  rewrite [← hbR] at q10
  rewrite [← hbR, ← hbL, ← hbP]
  have lq6 := hget_lt q6
  have lq10 := hget_lt q10
  have lqP := hget_lt qP
  have lqL := hget_lt qL
  refine A_store ty27 (by simp (disch := first | omega | (simp only [List.length_map, List.length_append, List.length_set, List.length_cons, List.length_nil]; omega)) only [go_sem, ↓reduceIte, Nat.reduceEqDiff, reduceCtorEq, q6, q10, qP, qL] <;> rfl) (by simp (disch := first | omega | (simp only [List.length_map, List.length_append, List.length_set, List.length_cons, List.length_nil]; omega)) only [go_sem, ↓reduceIte, Nat.reduceEqDiff, reduceCtorEq, q6, q10, qP, qL] <;> rfl) q10 ⟨by omega, rfl, by first | exact Nat.le_refl _ | simp⟩ (k' := [.own 1 bP 0 n.toNat, .own 2 bL 0 L.length]) rfl ?_
  intro H3 w1
  have ew1 := w1.len
  have q6 := (w1.old _ (by omega)).trans q6
  have qP := (w1.old _ (by omega)).trans qP
  have qL := (w1.old _ (by omega)).trans qL
  have q10 := w1.new
  have tr : ∀ a b c d e f g h i j k m n o p q r s t u v w x y z : AV, let l := lc_raceof6_ok a b c d e f g h i j k m n o p q; trim ((29,z)::(10,y)::(24,x)::(25,w)::(26,v)::(27,u)::(28,t)::(29,s)::(10,r)::l) l = [(0,a),(1,b),(2,c),(6,d),(7,e),(8,f),(9,g),(10,y),(12,i),(13,j),(21,k),(30,m),(31,n),(32,o),(33,p),(47,q)] := by intros; rfl
  refine R_nil (tr ..) ?_; clear tr
  refine then_n ?_
  refine at_seq rfl ?_
  refine at_seq rfl ?_
  refine rg rfl ?_
  refine Rq ?_
  refine Rq ?_
  refine Rq ?_
  have tr : ∀ a b c d e f g h i j k m n o p q r s t : AV, let l := lc_raceof6_ok a b c d e f g h i j k m n o p q; trim ((32,t)::(31,s)::(30,r)::l) l = [(0,a),(1,b),(2,c),(6,d),(7,e),(8,f),(9,g),(10,h),(12,i),(13,j),(21,k),(30,r),(31,s),(32,t),(33,p),(47,q)] := by intros; rfl
  refine R_nil (tr ..) ?_; clear tr
  refine then_n ?_
  refine at_block rfl ?_
  refine loop_n rfl (fun mm kv H' => ∃ u : Nat, ∃ x12 x33 : AV, (kv = [(12, x12), (32, AV.i (u : Int)), (33, x33)]) ∧ (mm = zs.length - u) ∧ (hget H' H.length = some [nilP, nilP]) ∧ (hget H' bR = some [.own 1 bP 0 n.toNat, .own 2 bL 0 L.length]) ∧ (hget H' bP = some ((ptsN n.toNat zs u).map AV.i)) ∧ (hget H' bL = some (flatQ L)) ∧ (u ≤ zs.length) ∧ (HN.length ≤ H'.length)) ⟨0, _, _, rfl, rfl, by exact q6, by exact q10, by exact qP, by exact qL, by omega, by omega⟩ (by rfl) ?_
  rintro mm kv HB ⟨u, x12, x33, rfl, rfl, q6, q10, qP, qL, hu, hHB⟩
  have tr : ∀ a b c d e f g h i j k m n o p q r s t : AV, upd [(0,a),(1,b),(2,c),(6,d),(7,e),(8,f),(9,g),(10,h),(12,i),(13,j),(21,k),(30,m),(31,n),(32,o),(33,p),(47,q)] [(12,r),(32,s),(33,t)] = [(0,a),(1,b),(2,c),(6,d),(7,e),(8,f),(9,g),(10,h),(12,r),(13,j),(21,k),(30,m),(31,n),(32,s),(33,t),(47,q)] := by intros; rfl
  refine W_to (tr ..) ?_; clear tr
  refine at_seq rfl ?_
  refine rg rfl ?_
  refine Rq ?_
  have tr : ∀ a b c d e f g h i j k m n o p q r : AV, let l := lc_raceof6_ok a b c d e f g h i j k m n o p q; trim ((33,r)::l) l = [(0,a),(1,b),(2,c),(6,d),(7,e),(8,f),(9,g),(10,h),(12,i),(13,j),(21,k),(30,m),(31,n),(32,o),(33,r),(47,q)] := by intros; rfl
  refine R_nil (tr ..) ?_; clear tr
  refine then_n ?_
  refine at_seq rfl ?_
  refine cdd (fun h2 => ?_) (fun h2 => ?_)
  ·
   try simp only [decide_eq_true_eq, decide_eq_false_iff_not, Bool.not_eq_true', Bool.not_eq_false', beq_iff_eq, beq_eq_false_iff_ne, ne_eq] at h2
   refine at_skip rfl ?_
   refine then_n ?_
   refine at_seq rfl ?_
   refine at_block rfl ?_
   refine at_seq rfl ?_
   refine rg rfl ?_
   refine Rq ?_
   refine R_q rfl (by simp (disch := first | omega | (simp only [List.length_map, List.length_append, List.length_set, List.length_cons, List.length_nil]; omega)) only [go_sem, ↓reduceIte, Nat.reduceEqDiff, reduceCtorEq, q6, q10, qP, q12, qL] <;> rfl) ?_
   refine A_alloc rfl ?_
   intro H4 n2
   have en2 := n2.len
   have q6 := (n2.old _ (hget_lt q6)).trans q6
   have q10 := (n2.old _ (hget_lt q10)).trans q10
   have qP := (n2.old _ (hget_lt qP)).trans qP
   have qL := (n2.old _ (hget_lt qL)).trans qL
   have q12 := n2.new
   have lq6 := hget_lt q6
   have lq10 := hget_lt q10
   have lqP := hget_lt qP
   have lq12 := hget_lt q12
   have lqL := hget_lt qL
   refine A_store ty47 (by simp (disch := first | omega | (simp only [List.length_map, List.length_append, List.length_set, List.length_cons, List.length_nil]; omega)) only [go_sem, ↓reduceIte, Nat.reduceEqDiff, reduceCtorEq, q6, q10, qP, q12, qL] <;> rfl) (by simp (disch := first | omega | (simp only [List.length_map, List.length_append, List.length_set, List.length_cons, List.length_nil]; omega)) only [go_sem, ↓reduceIte, Nat.reduceEqDiff, reduceCtorEq, q6, q10, qP, q12, qL] <;> rfl) q12 ⟨by omega, rfl, Nat.le_refl 10⟩ (k' := stL (gz zs u)) rfl ?_
   intro H5 w2
   have ew2 := w2.len
   have q6 := (w2.old _ (by omega)).trans q6
   have q10 := (w2.old _ (by omega)).trans q10
   have qP := (w2.old _ (by omega)).trans qP
   have qL := (w2.old _ (by omega)).trans qL
   have q12 := w2.new
   have tr : ∀ a b c d e f g h i j k m n o p q r s t : AV, let l := lc_raceof6_ok a b c d e f g h i j k m n o p q; trim ((12,t)::(35,s)::(34,r)::l) l = [(0,a),(1,b),(2,c),(6,d),(7,e),(8,f),(9,g),(10,h),(12,t),(13,j),(21,k),(30,m),(31,n),(32,o),(33,p),(47,q)] := by intros; rfl
   refine R_nil (tr ..) ?_; clear tr
   refine then_n ?_
   refine rg rfl ?_
   have hut := hzt u (by omega)
   have hpl := pts_len n.toNat zs u
   refine Rq ?_
   refine R_q rfl (by simp (disch := first | omega | (simp only [List.length_map, List.length_append, List.length_set, List.length_cons, List.length_nil]; omega)) only [go_sem, ↓reduceIte, Nat.reduceEqDiff, reduceCtorEq, q6, q10, qP, q12, qL] <;> rfl) ?_
   refine Rq ?_
   refine R_q rfl (by simp (disch := first | omega | (simp only [List.length_map, List.length_append, List.length_set, List.length_cons, List.length_nil]; omega)) only [go_sem, ↓reduceIte, Nat.reduceEqDiff, reduceCtorEq, q6, q10, qP, q12, qL] <;> rfl) ?_
   refine Rq ?_
   refine R_q rfl (by simp (disch := first | omega | (simp only [List.length_map, List.length_append, List.length_set, List.length_cons, List.length_nil]; omega)) only [go_sem, ↓reduceIte, Nat.reduceEqDiff, reduceCtorEq, q6, q10, qP, q12, qL] <;> rfl) ?_
   refine Rq ?_
   have lq6 := hget_lt q6
   have lq10 := hget_lt q10
   have lqP := hget_lt qP
   have lq12 := hget_lt q12
   have lqL := hget_lt qL
   refine A_store ty3 (by simp (disch := first | omega | (simp only [List.length_map, List.length_append, List.length_set, List.length_cons, List.length_nil]; omega)) only [go_sem, ↓reduceIte, Nat.reduceEqDiff, reduceCtorEq, q6, q10, qP, q12, qL] <;> rfl) (by simp (disch := first | omega | (simp only [List.length_map, List.length_append, List.length_set, List.length_cons, List.length_nil]; omega)) only [go_sem, ↓reduceIte, Nat.reduceEqDiff, reduceCtorEq, q6, q10, qP, q12, qL] <;> rfl) qP ⟨by omega, rfl, by simp only [List.length_map, pts_len]; omega⟩ (k' := (ptsN n.toNat zs (u + 1)).map AV.i) (by rw [setL_map]; rfl) ?_
   intro H6 w3
   have ew3 := w3.len
   have q6 := (w3.old _ (by omega)).trans q6
   have q10 := (w3.old _ (by omega)).trans q10
   have q12 := (w3.old _ (by omega)).trans q12
   have qL := (w3.old _ (by omega)).trans qL
   have qP := w3.new
   have tr : ∀ a b c d e f g h i j k m n o p q r s t u v w x : AV, let l := lc_raceof6_ok a b c d e f g h i j k m n o p q; trim ((42,x)::(41,w)::(40,v)::(39,u)::(38,t)::(37,s)::(36,r)::l) l = [(0,a),(1,b),(2,c),(6,d),(7,e),(8,f),(9,g),(10,h),(12,i),(13,j),(21,k),(30,m),(31,n),(32,o),(33,p),(47,q)] := by intros; rfl
   refine R_nil (tr ..) ?_; clear tr
   refine blk_n ?_
   refine then_n ?_
   refine rg rfl ?_
   refine Rq ?_
   refine Rq ?_
   have tr : ∀ a b c d e f g h i j k m n o p q r s : AV, let l := lc_raceof6_ok a b c d e f g h i j k m n o p q; trim ((32,s)::(43,r)::l) l = [(0,a),(1,b),(2,c),(6,d),(7,e),(8,f),(9,g),(10,h),(12,i),(13,j),(21,k),(30,m),(31,n),(32,s),(33,p),(47,q)] := by intros; rfl
   refine R_nil (tr ..) ?_; clear tr
   refine then_n ?_
   exact ⟨_, _, ⟨u + 1, _, _, rfl, rfl, by exact q6, by exact q10, by exact qP, by exact qL, by omega, by (show HN.length ≤ H6.length; omega)⟩, by rfl, by omega⟩
  ·
   try simp only [decide_eq_true_eq, decide_eq_false_iff_not, Bool.not_eq_true', Bool.not_eq_false', beq_iff_eq, beq_eq_false_iff_ne, ne_eq] at h2
   refine at_exit rfl ?_
   refine then_x ?_
   refine then_x ?_
   refine blk_x ?_
   refine then_n ?_
   refine at_seq rfl ?_
   refine at_seq rfl ?_
   refine rg rfl ?_
   obtain rfl : u = zs.length := by omega
   refine R_q rfl (by simp (disch := first | omega | (simp only [List.length_map, List.length_append, List.length_set, List.length_cons, List.length_nil]; omega)) only [go_sem, ↓reduceIte, Nat.reduceEqDiff, reduceCtorEq, q6, q10, qP, q12, qL] <;> rfl) ?_
   refine Rcall ?_
   refine ACall_eq (rchk53_x _ _ (ptsN n.toNat zs zs.length) L _ (frz_oo (d := 4) qP qL (by omega) (by omega) (pts_len ..).symm rfl)) ?_
   refine Rq ?_
   have tr : ∀ a b c d e f g h i j k m n o p q r s t : AV, let l := lc_raceof6_ok a b c d e f g h i j k m n o p q; trim ((13,t)::(45,s)::(44,r)::l) l = [(0,a),(1,b),(2,c),(6,d),(7,e),(8,f),(9,g),(10,h),(12,i),(13,t),(21,k),(30,m),(31,n),(32,o),(33,p),(47,q)] := by intros; rfl
   refine R_nil (tr ..) ?_; clear tr
   refine then_n ?_
   refine at_seq rfl ?_
   refine rg rfl ?_
   refine Rq ?_
   refine Rq ?_
   have tr : ∀ a b c d e f g h i j k m n o p q r s : AV, let l := lc_raceof6_ok a b c d e f g h i j k m n o p q; trim ((47,s)::(46,r)::l) l = [(0,a),(1,b),(2,c),(6,d),(7,e),(8,f),(9,g),(10,h),(12,i),(13,j),(21,k),(30,m),(31,n),(32,o),(33,p),(47,s)] := by intros; rfl
   refine R_nil (tr ..) ?_; clear tr
   refine then_n ?_
   refine cdd (fun h3 => ?_) (fun h3 => ?_)
   ·
    try simp only [decide_eq_true_eq, decide_eq_false_iff_not, Bool.not_eq_true', Bool.not_eq_false', beq_iff_eq, beq_eq_false_iff_ne, ne_eq] at h3
    refine at_seq rfl ?_
    refine rg rfl ?_
    refine Rq ?_
    refine Rq ?_
    have lq6 := hget_lt q6
    have lq10 := hget_lt q10
    have lqP := hget_lt qP
    have lqL := hget_lt qL
    refine A_store ty27 (by simp (disch := first | omega | (simp only [List.length_map, List.length_append, List.length_set, List.length_cons, List.length_nil]; omega)) only [go_sem, ↓reduceIte, Nat.reduceEqDiff, reduceCtorEq, q6, q10, qP, qL] <;> rfl) (by simp (disch := first | omega | (simp only [List.length_map, List.length_append, List.length_set, List.length_cons, List.length_nil]; omega)) only [go_sem, ↓reduceIte, Nat.reduceEqDiff, reduceCtorEq, q6, q10, qP, qL] <;> rfl) q6 ⟨by omega, rfl, by first | exact Nat.le_refl _ | simp⟩ (k' := [nilP, nilP]) rfl ?_
    intro HE wE
    have ewE := wE.len
    have q10 := (wE.old _ (by omega)).trans q10
    have qP := (wE.old _ (by omega)).trans qP
    have qL := (wE.old _ (by omega)).trans qL
    have q6 := wE.new
    refine Rq ?_
    have tr : ∀ a b c d e f g h i j k m n o p q r s t : AV, let l := lc_raceof6_ok a b c d e f g h i j k m n o p q; trim ((7,t)::(49,s)::(48,r)::l) l = [(0,a),(1,b),(2,c),(6,d),(7,t),(8,f),(9,g),(10,h),(12,i),(13,j),(21,k),(30,m),(31,n),(32,o),(33,p),(47,q)] := by intros; rfl
    refine R_nil (tr ..) ?_; clear tr
    refine then_n ?_
    refine at_ret rfl ?_
    refine then_r ?_
    refine fin_pure (rs := [.cell 6 27, .tmp 7]) rfl (by simp (disch := first | omega | (simp only [List.length_map, List.length_append, List.length_set, List.length_cons, List.length_nil]; omega)) only [go_sem, ↓reduceIte, Nat.reduceEqDiff, reduceCtorEq, q6] <;> rfl) (v := .tup [.agg [nilP, nilP], AV.i (rchkS (ptsN n.toNat zs zs.length) L)]) (by rfl) ?_
    refine ⟨?_, rfl⟩
    rw [(of_2 hzs hc (by assumption)).1, (of_2 hzs hc (by assumption)).2]
   ·
    try simp only [decide_eq_true_eq, decide_eq_false_iff_not, Bool.not_eq_true', Bool.not_eq_false', beq_iff_eq, beq_eq_false_iff_ne, ne_eq] at h3
    refine at_skip rfl ?_
    refine then_n ?_
    refine at_seq rfl ?_
    refine rg rfl ?_
    refine R_q rfl (by simp (disch := first | omega | (simp only [List.length_map, List.length_append, List.length_set, List.length_cons, List.length_nil]; omega)) only [go_sem, ↓reduceIte, Nat.reduceEqDiff, reduceCtorEq, q6, q10, qP, q12, qL] <;> rfl) ?_
    have lq6 := hget_lt q6
    have lq10 := hget_lt q10
    have lqP := hget_lt qP
    have lqL := hget_lt qL
    refine A_store ty27 (by simp (disch := first | omega | (simp only [List.length_map, List.length_append, List.length_set, List.length_cons, List.length_nil]; omega)) only [go_sem, ↓reduceIte, Nat.reduceEqDiff, reduceCtorEq, q6, q10, qP, qL] <;> rfl) (by simp (disch := first | omega | (simp only [List.length_map, List.length_append, List.length_set, List.length_cons, List.length_nil]; omega)) only [go_sem, ↓reduceIte, Nat.reduceEqDiff, reduceCtorEq, q6, q10, qP, qL] <;> rfl) q6 ⟨by omega, rfl, by first | exact Nat.le_refl _ | simp⟩ (k' := [.own 1 bP 0 n.toNat, .own 2 bL 0 L.length]) rfl ?_
    intro HE wE
    have ewE := wE.len
    have q10 := (wE.old _ (by omega)).trans q10
    have qP := (wE.old _ (by omega)).trans qP
    have qL := (wE.old _ (by omega)).trans qL
    have q6 := wE.new
    refine Rq ?_
    have tr : ∀ a b c d e f g h i j k m n o p q r s : AV, let l := lc_raceof6_ok a b c d e f g h i j k m n o p q; trim ((7,s)::(50,r)::l) l = [(0,a),(1,b),(2,c),(6,d),(7,s),(8,f),(9,g),(10,h),(12,i),(13,j),(21,k),(30,m),(31,n),(32,o),(33,p),(47,q)] := by intros; rfl
    refine R_nil (tr ..) ?_; clear tr
    refine then_n ?_
    refine at_ret rfl ?_
    refine fin_pure (rs := [.cell 6 27, .tmp 7]) rfl (by simp (disch := first | omega | (simp only [List.length_map, List.length_append, List.length_set, List.length_cons, List.length_nil]; omega)) only [go_sem, ↓reduceIte, Nat.reduceEqDiff, reduceCtorEq, q6] <;> rfl) (v := .tup [.agg (raceC (ptsN n.toNat zs zs.length) L), AV.i 0]) (by show AV.tup [frz _ _ 7 _, AV.i 0] = _; rw [frz_oo (d := 3) qP qL (by omega) (by omega) (pts_len ..).symm rfl]) ?_
    refine ⟨?_, rfl⟩
    rw [(of_3 hzs hc (by assumption)).1, (of_3 hzs hc (by assumption)).2]

end Go.Proofs.Ytfnapmdedmbdbaa
end
section
set_option linter.unusedSimpArgs false
set_option linter.unusedVariables false
set_option maxHeartbeats 4000000
set_option maxRecDepth 20000
namespace Go.Proofs.Ytfnapmdedmbdbaa
open Go Go.Am
abbrev lc_intq_ok (a b c d e f g h i : AV) : Env := [(0,a),(1,b),(4,c),(5,d),(10,e),(12,f),(13,g),(14,h),(24,i)]
theorem intq_ok (lim : Nat) (H : Heap) (P : List Int) (hP : P.length ≤ 100) : ACall sig lim 11 [intsAV P, intsAV P] H fun r H' => r = .v (.bool true) ∧ H' = H := by
 refine ACall_pure (fa := fa11) rfl rfl rfl rfl ?_
 have tr : ∀ a0 a1 : AV, env0 fa11.keep [a0, a1] = [(0,a0),(1,a1),(4,.any),(5,.any),(10,.any),(12,.any),(13,.any),(14,.any),(24,.any)] := fun a0 a1 => rfl
 refine W_to (tr _ _) ?_; clear tr
 refine at_seq rfl ?_
 refine rg rfl ?_
 refine Rq ?_
 have tr : ∀ a b c d e f g h i j : AV, let l := lc_intq_ok a b c d e f g h i; trim ((4,j)::l) l = [(0,a),(1,b),(4,j),(5,d),(10,e),(12,f),(13,g),(14,h),(24,i)] := by intros; rfl
 refine R_nil (tr ..) ?_; clear tr
 refine then_n ?_
 refine at_seq rfl ?_
 refine at_seq rfl ?_
 refine rg rfl ?_
 refine Rq ?_
 refine Rq ?_
 refine Rq ?_
 refine Rq ?_
 refine Rq ?_
 have tr : ∀ a b c d e f g h i j k m n o : AV, let l := lc_intq_ok a b c d e f g h i; trim ((10,o)::(9,n)::(8,m)::(7,k)::(6,j)::l) l = [(0,a),(1,b),(4,c),(5,d),(10,o),(12,f),(13,g),(14,h),(24,i)] := by intros; rfl
 refine R_nil (tr ..) ?_; clear tr
 refine then_n ?_
 refine cdd (fun h1 => ?_) (fun h1 => ?_)
 ·
  try simp only [decide_eq_true_eq, decide_eq_false_iff_not, Bool.not_eq_true', Bool.not_eq_false', beq_iff_eq, beq_eq_false_iff_ne, ne_eq] at h1
  exfalso; first | omega | (simp at h1; done) | (simp at h2; done) | (simp at h3; done) | (simp at h4; done) | simp_all
 ·
  try simp only [decide_eq_true_eq, decide_eq_false_iff_not, Bool.not_eq_true', Bool.not_eq_false', beq_iff_eq, beq_eq_false_iff_ne, ne_eq] at h1
  refine at_skip rfl ?_
  refine then_n ?_
  refine at_seq rfl ?_
  refine at_seq rfl ?_
  refine rg rfl ?_
  refine Rq ?_
  refine Rq ?_
  refine Rq ?_
  have tr : ∀ a b c d e f g h i j k m : AV, let l := lc_intq_ok a b c d e f g h i; trim ((13,m)::(12,k)::(11,j)::l) l = [(0,a),(1,b),(4,c),(5,d),(10,e),(12,k),(13,m),(14,h),(24,i)] := by intros; rfl
  refine R_nil (tr ..) ?_; clear tr
  refine then_n ?_
  refine at_block rfl ?_
  refine loop_n rfl (fun mm kv H' => ∃ u : Nat, ∃ x4 x5 x14 x24 : AV, (kv = [(4, x4), (5, x5), (13, AV.i (u : Int)), (14, x14), (24, x24)]) ∧ (mm = P.length - u) ∧ (H' = H) ∧ (u ≤ P.length)) ⟨0, _, _, _, _, rfl, rfl, rfl, by omega⟩ (by rfl) ?_
  rintro mm kv H' ⟨u, x4, x5, x14, x24, rfl, rfl, rfl, hu⟩
  have tr : ∀ a b c d e f g h i j k m n o : AV, upd [(0,a),(1,b),(4,c),(5,d),(10,e),(12,f),(13,g),(14,h),(24,i)] [(4,j),(5,k),(13,m),(14,n),(24,o)] = [(0,a),(1,b),(4,j),(5,k),(10,e),(12,f),(13,m),(14,n),(24,o)] := by intros; rfl
  refine W_to (tr ..) ?_; clear tr
  refine at_seq rfl ?_
  refine rg rfl ?_
  refine Rq ?_
  have tr : ∀ a b c d e f g h i j : AV, let l := lc_intq_ok a b c d e f g h i; trim ((14,j)::l) l = [(0,a),(1,b),(4,c),(5,d),(10,e),(12,f),(13,g),(14,j),(24,i)] := by intros; rfl
  refine R_nil (tr ..) ?_; clear tr
  refine then_n ?_
  refine at_seq rfl ?_
  refine cdd (fun h2 => ?_) (fun h2 => ?_)
  ·
   try simp only [decide_eq_true_eq, decide_eq_false_iff_not, Bool.not_eq_true', Bool.not_eq_false', beq_iff_eq, beq_eq_false_iff_ne, ne_eq] at h2
   refine at_skip rfl ?_
   refine then_n ?_
   refine at_seq rfl ?_
   refine at_block rfl ?_
   refine at_seq rfl ?_
   refine rg rfl ?_
   refine Rq ?_
   refine Rq ?_
   have tr : ∀ a b c d e f g h i j k : AV, let l := lc_intq_ok a b c d e f g h i; trim ((5,k)::(15,j)::l) l = [(0,a),(1,b),(4,c),(5,k),(10,e),(12,f),(13,g),(14,h),(24,i)] := by intros; rfl
   refine R_nil (tr ..) ?_; clear tr
   refine then_n ?_
   refine at_seq rfl ?_
   refine rd rfl rfl ?_
   refine Qq ?_
   refine Qq ?_
   refine Qq ?_
   refine Qq ?_
   refine Qq ?_
   refine Qq ?_
   refine Qq ?_
   refine Qq ?_
   refine Qq ?_
   refine Q_nil ?_
   have tr : ∀ a b c d e f g h i j k m n o p q r s : AV, let l := lc_intq_ok a b c d e f g h i; trim ((24,s)::(23,r)::(22,q)::(21,p)::(20,o)::(19,n)::(18,m)::(17,k)::(16,j)::l) l = [(0,a),(1,b),(4,c),(5,d),(10,e),(12,f),(13,g),(14,h),(24,s)] := by intros; rfl
   refine R_nil (tr ..) ?_; clear tr
   refine then_n ?_
   refine cdd (fun h3 => ?_) (fun h3 => ?_)
   ·
    try simp only [decide_eq_true_eq, decide_eq_false_iff_not, Bool.not_eq_true', Bool.not_eq_false', beq_iff_eq, beq_eq_false_iff_ne, ne_eq] at h3
    exfalso; first | omega | (simp at h1; done) | (simp at h2; done) | (simp at h3; done) | (simp at h4; done) | simp_all
   ·
    try simp only [decide_eq_true_eq, decide_eq_false_iff_not, Bool.not_eq_true', Bool.not_eq_false', beq_iff_eq, beq_eq_false_iff_ne, ne_eq] at h3
    refine at_skip rfl ?_
    refine blk_n ?_
    refine then_n ?_
    refine rg rfl ?_
    refine Rq ?_
    refine Rq ?_
    have tr : ∀ a b c d e f g h i j k : AV, let l := lc_intq_ok a b c d e f g h i; trim ((13,k)::(25,j)::l) l = [(0,a),(1,b),(4,c),(5,d),(10,e),(12,f),(13,k),(14,h),(24,i)] := by intros; rfl
    refine R_nil (tr ..) ?_; clear tr
    refine then_n ?_
    exact ⟨_, _, ⟨u + 1, _, _, _, _, rfl, rfl, rfl, by omega⟩, by rfl, by omega⟩
  ·
   try simp only [decide_eq_true_eq, decide_eq_false_iff_not, Bool.not_eq_true', Bool.not_eq_false', beq_iff_eq, beq_eq_false_iff_ne, ne_eq] at h2
   refine at_exit rfl ?_
   refine then_x ?_
   refine then_x ?_
   refine blk_x ?_
   refine then_n ?_
   refine at_seq rfl ?_
   refine rg rfl ?_
   refine Rq ?_
   have tr : ∀ a b c d e f g h i j : AV, let l := lc_intq_ok a b c d e f g h i; trim ((4,j)::l) l = [(0,a),(1,b),(4,j),(5,d),(10,e),(12,f),(13,g),(14,h),(24,i)] := by intros; rfl
   refine R_nil (tr ..) ?_; clear tr
   refine then_n ?_
   refine at_ret rfl ?_
   refine fpure ?_
   exact ⟨rfl, rfl⟩

abbrev lc_intq_nil (a b c d e f g h i : AV) : Env := [(0,a),(1,b),(4,c),(5,d),(10,e),(12,f),(13,g),(14,h),(24,i)]
theorem intq_nil (lim : Nat) (H : Heap) : ACall sig lim 11 [nilP, nilP] H fun r H' => r = .v (.bool true) ∧ H' = H := by
 refine ACall_pure (fa := fa11) rfl rfl rfl rfl ?_
 have tr : ∀ a0 a1 : AV, env0 fa11.keep [a0, a1] = [(0,a0),(1,a1),(4,.any),(5,.any),(10,.any),(12,.any),(13,.any),(14,.any),(24,.any)] := fun a0 a1 => rfl
 refine W_to (tr _ _) ?_; clear tr
 refine at_seq rfl ?_
 refine rg rfl ?_
 refine Rq ?_
 have tr : ∀ a b c d e f g h i j : AV, let l := lc_intq_nil a b c d e f g h i; trim ((4,j)::l) l = [(0,a),(1,b),(4,j),(5,d),(10,e),(12,f),(13,g),(14,h),(24,i)] := by intros; rfl
 refine R_nil (tr ..) ?_; clear tr
 refine then_n ?_
 refine at_seq rfl ?_
 refine at_seq rfl ?_
 refine rg rfl ?_
 refine Rq ?_
 refine Rq ?_
 refine Rq ?_
 refine Rq ?_
 refine Rq ?_
 have tr : ∀ a b c d e f g h i j k m n o : AV, let l := lc_intq_nil a b c d e f g h i; trim ((10,o)::(9,n)::(8,m)::(7,k)::(6,j)::l) l = [(0,a),(1,b),(4,c),(5,d),(10,o),(12,f),(13,g),(14,h),(24,i)] := by intros; rfl
 refine R_nil (tr ..) ?_; clear tr
 refine then_n ?_
 refine cdd (fun h1 => ?_) (fun h1 => ?_)
 ·
  try simp only [decide_eq_true_eq, decide_eq_false_iff_not, Bool.not_eq_true', Bool.not_eq_false', beq_iff_eq, beq_eq_false_iff_ne, ne_eq] at h1
  exfalso; first | omega | (simp at h1; done) | (simp at h2; done) | (simp at h3; done) | (simp at h4; done) | simp_all
 ·
  try simp only [decide_eq_true_eq, decide_eq_false_iff_not, Bool.not_eq_true', Bool.not_eq_false', beq_iff_eq, beq_eq_false_iff_ne, ne_eq] at h1
  refine at_skip rfl ?_
  refine then_n ?_
  refine at_seq rfl ?_
  refine at_seq rfl ?_
  refine rg rfl ?_
  refine Rq ?_
  refine Rq ?_
  refine Rq ?_
  have tr : ∀ a b c d e f g h i j k m : AV, let l := lc_intq_nil a b c d e f g h i; trim ((13,m)::(12,k)::(11,j)::l) l = [(0,a),(1,b),(4,c),(5,d),(10,e),(12,k),(13,m),(14,h),(24,i)] := by intros; rfl
  refine R_nil (tr ..) ?_; clear tr
  refine then_n ?_
  refine at_block rfl ?_
  refine loop_n rfl (fun mm kv H' => ∃ u : Nat, ∃ x4 x5 x14 x24 : AV, (kv = [(4, x4), (5, x5), (13, AV.i (u : Int)), (14, x14), (24, x24)]) ∧ (mm = 0) ∧ (H' = H) ∧ (u = 0)) ⟨0, _, _, _, _, rfl, rfl, rfl, by rfl⟩ (by rfl) ?_
  rintro mm kv H' ⟨u, x4, x5, x14, x24, rfl, rfl, rfl, hu⟩
  have tr : ∀ a b c d e f g h i j k m n o : AV, upd [(0,a),(1,b),(4,c),(5,d),(10,e),(12,f),(13,g),(14,h),(24,i)] [(4,j),(5,k),(13,m),(14,n),(24,o)] = [(0,a),(1,b),(4,j),(5,k),(10,e),(12,f),(13,m),(14,n),(24,o)] := by intros; rfl
  refine W_to (tr ..) ?_; clear tr
  refine at_seq rfl ?_
  refine rg rfl ?_
  refine Rq ?_
  have tr : ∀ a b c d e f g h i j : AV, let l := lc_intq_nil a b c d e f g h i; trim ((14,j)::l) l = [(0,a),(1,b),(4,c),(5,d),(10,e),(12,f),(13,g),(14,j),(24,i)] := by intros; rfl
  refine R_nil (tr ..) ?_; clear tr
  refine then_n ?_
  refine at_seq rfl ?_
  refine cdd (fun h2 => ?_) (fun h2 => ?_)
  ·
   try simp only [decide_eq_true_eq, decide_eq_false_iff_not, Bool.not_eq_true', Bool.not_eq_false', beq_iff_eq, beq_eq_false_iff_ne, ne_eq] at h2
   exfalso; first | omega | (simp at h1; done) | (simp at h2; done) | (simp at h3; done) | (simp at h4; done) | simp_all
  ·
   try simp only [decide_eq_true_eq, decide_eq_false_iff_not, Bool.not_eq_true', Bool.not_eq_false', beq_iff_eq, beq_eq_false_iff_ne, ne_eq] at h2
   refine at_exit rfl ?_
   refine then_x ?_
   refine then_x ?_
   refine blk_x ?_
   refine then_n ?_
   refine at_seq rfl ?_
   refine rg rfl ?_
   refine Rq ?_
   have tr : ∀ a b c d e f g h i j : AV, let l := lc_intq_nil a b c d e f g h i; trim ((4,j)::l) l = [(0,a),(1,b),(4,j),(5,d),(10,e),(12,f),(13,g),(14,h),(24,i)] := by intros; rfl
   refine R_nil (tr ..) ?_; clear tr
   refine then_n ?_
   refine at_ret rfl ?_
   refine fpure ?_
   exact ⟨rfl, rfl⟩

abbrev lc_sameq_ok (a b c d e f g h i j k : AV) : Env := [(0,a),(1,b),(2,c),(3,d),(4,e),(5,f),(20,g),(23,h),(24,i),(25,j),(37,k)]
theorem sameq_ok (lim : Nat) (H : Heap) (P : List Int) (L : List Pr) (hP : P.length ≤ 100) (hL : L.length ≤ 100) : ACall sig lim 7 [.agg (raceC P L), .agg (raceC P L)] H fun r H' => r = .v (.bool true) ∧ H' = H := by
 refine ACall_pure (fa := fa7) rfl rfl rfl rfl ?_
 have tr : ∀ a0 a1 : AV, env0 fa7.keep [a0, a1] = [(0,a0),(1,a1),(2,.any),(3,.any),(4,.any),(5,.any),(20,.any),(23,.any),(24,.any),(25,.any),(37,.any)] := fun a0 a1 => rfl
 refine W_to (tr _ _) ?_; clear tr
 refine at_seq rfl ?_
 refine rg rfl ?_
 refine R_box rfl (by simp (disch := omega) only [go_sem, ↓reduceIte, Nat.reduceEqDiff, reduceCtorEq] <;> rfl) rfl rfl ?_
 refine R_box rfl (by simp (disch := omega) only [go_sem, ↓reduceIte, Nat.reduceEqDiff, reduceCtorEq] <;> rfl) rfl rfl ?_
 refine Rq ?_
 have tr : ∀ a b c d e f g h i j k m n o : AV, let l := lc_sameq_ok a b c d e f g h i j k; trim ((4,o)::(3,n)::(2,m)::l) l = [(0,a),(1,b),(2,m),(3,n),(4,o),(5,f),(20,g),(23,h),(24,i),(25,j),(37,k)] := by intros; rfl
 refine R_nil (tr ..) ?_; clear tr
 refine then_n ?_
 refine at_seq rfl ?_
 refine at_seq rfl ?_
 refine rg rfl ?_
 refine Rq ?_
 refine Rq ?_
 refine Rq ?_
 refine Rq ?_
 refine Rcall ?_
 refine ACall_eq (intq_ok _ _ P hP) ?_
 refine Rq ?_
 refine Rq ?_
 refine Ry ?_
 refine Rq ?_
 refine Ry ?_
 refine Rq ?_
 refine Ry ?_
 refine Rq ?_
 refine Ry ?_
 refine Rq ?_
 refine Ry ?_
 refine Rq ?_
 refine Ry ?_
 refine Rq ?_
 refine Ry ?_
 refine Rq ?_
 refine Rq ?_
 have tr : ∀ a b c d e f g h i j k m n o p q r s t u v w x y z A : AV, let l := lc_sameq_ok a b c d e f g h i j k; trim ((20,A)::(19,z)::(18,y)::(17,x)::(16,w)::(15,v)::(14,u)::(13,t)::(12,s)::(11,r)::(10,q)::(9,p)::(8,o)::(7,n)::(6,m)::l) l = [(0,a),(1,b),(2,c),(3,d),(4,e),(5,f),(20,A),(23,h),(24,i),(25,j),(37,k)] := by intros; rfl
 refine R_nil (tr ..) ?_; clear tr
 refine then_n ?_
 refine cdd (fun h1 => ?_) (fun h1 => ?_)
 ·
  try simp only [decide_eq_true_eq, decide_eq_false_iff_not, Bool.not_eq_true', Bool.not_eq_false', beq_iff_eq, beq_eq_false_iff_ne, ne_eq] at h1
  exfalso; first | omega | (simp at h1; done) | (simp at h2; done) | (simp at h3; done) | (simp at h4; done) | simp_all
 ·
  try simp only [decide_eq_true_eq, decide_eq_false_iff_not, Bool.not_eq_true', Bool.not_eq_false', beq_iff_eq, beq_eq_false_iff_ne, ne_eq] at h1
  refine at_skip rfl ?_
  refine then_n ?_
  refine at_seq rfl ?_
  refine at_seq rfl ?_
  refine rg rfl ?_
  refine Rq ?_
  refine Rq ?_
  refine Rq ?_
  refine Rq ?_
  have tr : ∀ a b c d e f g h i j k m n o p : AV, let l := lc_sameq_ok a b c d e f g h i j k; trim ((24,p)::(23,o)::(22,n)::(21,m)::l) l = [(0,a),(1,b),(2,c),(3,d),(4,e),(5,f),(20,g),(23,o),(24,p),(25,j),(37,k)] := by intros; rfl
  refine R_nil (tr ..) ?_; clear tr
  refine then_n ?_
  refine at_block rfl ?_
  refine loop_n rfl (fun mm kv H' => ∃ u : Nat, ∃ x4 x5 x25 x37 : AV, (kv = [(4, x4), (5, x5), (24, AV.i (u : Int)), (25, x25), (37, x37)]) ∧ (mm = L.length - u) ∧ (H' = H ++ [some (raceC P L)] ++ [some (raceC P L)]) ∧ (u ≤ L.length)) ⟨0, _, _, _, _, rfl, rfl, rfl, by omega⟩ (by rfl) ?_
  rintro mm kv H' ⟨u, x4, x5, x25, x37, rfl, rfl, rfl, hu⟩
  have tr : ∀ a b c d e f g h i j k m n o p q : AV, upd [(0,a),(1,b),(2,c),(3,d),(4,e),(5,f),(20,g),(23,h),(24,i),(25,j),(37,k)] [(4,m),(5,n),(24,o),(25,p),(37,q)] = [(0,a),(1,b),(2,c),(3,d),(4,m),(5,n),(20,g),(23,h),(24,o),(25,p),(37,q)] := by intros; rfl
  refine W_to (tr ..) ?_; clear tr
  refine at_seq rfl ?_
  refine rg rfl ?_
  refine Rq ?_
  have tr : ∀ a b c d e f g h i j k m : AV, let l := lc_sameq_ok a b c d e f g h i j k; trim ((25,m)::l) l = [(0,a),(1,b),(2,c),(3,d),(4,e),(5,f),(20,g),(23,h),(24,i),(25,m),(37,k)] := by intros; rfl
  refine R_nil (tr ..) ?_; clear tr
  refine then_n ?_
  refine at_seq rfl ?_
  refine cdd (fun h2 => ?_) (fun h2 => ?_)
  ·
   try simp only [decide_eq_true_eq, decide_eq_false_iff_not, Bool.not_eq_true', Bool.not_eq_false', beq_iff_eq, beq_eq_false_iff_ne, ne_eq] at h2
   refine at_skip rfl ?_
   refine then_n ?_
   refine at_seq rfl ?_
   refine at_block rfl ?_
   refine at_seq rfl ?_
   refine rg rfl ?_
   refine Rq ?_
   refine Rq ?_
   have tr : ∀ a b c d e f g h i j k m n : AV, let l := lc_sameq_ok a b c d e f g h i j k; trim ((5,n)::(26,m)::l) l = [(0,a),(1,b),(2,c),(3,d),(4,e),(5,n),(20,g),(23,h),(24,i),(25,j),(37,k)] := by intros; rfl
   refine R_nil (tr ..) ?_; clear tr
   refine then_n ?_
   refine at_seq rfl ?_
   refine rd rfl rfl ?_
   refine Qq ?_
   refine Qq ?_
   refine Qq ?_
   refine Qq ?_
   refine Qq ?_
   refine Qq ?_
   refine Qq ?_
   refine Qq ?_
   refine Qq ?_
   refine Qq ?_
   refine Qq ?_
   refine Q_nil ?_
   have tr : ∀ a b c d e f g h i j k m n o p q r s t u v w : AV, let l := lc_sameq_ok a b c d e f g h i j k; trim ((37,w)::(36,v)::(35,u)::(34,t)::(33,s)::(32,r)::(31,q)::(30,p)::(29,o)::(28,n)::(27,m)::l) l = [(0,a),(1,b),(2,c),(3,d),(4,e),(5,f),(20,g),(23,h),(24,i),(25,j),(37,w)] := by intros; rfl
   refine R_nil (tr ..) ?_; clear tr
   refine then_n ?_
   refine cdd (fun h3 => ?_) (fun h3 => ?_)
   ·
    try simp only [decide_eq_true_eq, decide_eq_false_iff_not, Bool.not_eq_true', Bool.not_eq_false', beq_iff_eq, beq_eq_false_iff_ne, ne_eq] at h3
    exfalso; first | omega | (simp at h1; done) | (simp at h2; done) | (simp at h3; done) | (simp at h4; done) | simp_all
   ·
    try simp only [decide_eq_true_eq, decide_eq_false_iff_not, Bool.not_eq_true', Bool.not_eq_false', beq_iff_eq, beq_eq_false_iff_ne, ne_eq] at h3
    refine at_skip rfl ?_
    refine blk_n ?_
    refine then_n ?_
    refine rg rfl ?_
    refine Rq ?_
    refine Rq ?_
    have tr : ∀ a b c d e f g h i j k m n : AV, let l := lc_sameq_ok a b c d e f g h i j k; trim ((24,n)::(38,m)::l) l = [(0,a),(1,b),(2,c),(3,d),(4,e),(5,f),(20,g),(23,h),(24,n),(25,j),(37,k)] := by intros; rfl
    refine R_nil (tr ..) ?_; clear tr
    refine then_n ?_
    exact ⟨_, _, ⟨u + 1, _, _, _, _, rfl, rfl, rfl, by omega⟩, by rfl, by omega⟩
  ·
   try simp only [decide_eq_true_eq, decide_eq_false_iff_not, Bool.not_eq_true', Bool.not_eq_false', beq_iff_eq, beq_eq_false_iff_ne, ne_eq] at h2
   refine at_exit rfl ?_
   refine then_x ?_
   refine then_x ?_
   refine blk_x ?_
   refine then_n ?_
   refine at_seq rfl ?_
   refine rg rfl ?_
   refine Rq ?_
   have tr : ∀ a b c d e f g h i j k m : AV, let l := lc_sameq_ok a b c d e f g h i j k; trim ((4,m)::l) l = [(0,a),(1,b),(2,c),(3,d),(4,m),(5,f),(20,g),(23,h),(24,i),(25,j),(37,k)] := by intros; rfl
   refine R_nil (tr ..) ?_; clear tr
   refine then_n ?_
   refine at_ret rfl ?_
   refine fpure ?_
   exact ⟨rfl, rfl⟩

abbrev lc_sameq_nil (a b c d e f g h i j k : AV) : Env := [(0,a),(1,b),(2,c),(3,d),(4,e),(5,f),(20,g),(23,h),(24,i),(25,j),(37,k)]
theorem sameq_nil (lim : Nat) (H : Heap) : ACall sig lim 7 [.agg [nilP, nilP], .agg [nilP, nilP]] H fun r H' => r = .v (.bool true) ∧ H' = H := by
 refine ACall_pure (fa := fa7) rfl rfl rfl rfl ?_
 have tr : ∀ a0 a1 : AV, env0 fa7.keep [a0, a1] = [(0,a0),(1,a1),(2,.any),(3,.any),(4,.any),(5,.any),(20,.any),(23,.any),(24,.any),(25,.any),(37,.any)] := fun a0 a1 => rfl
 refine W_to (tr _ _) ?_; clear tr
 refine at_seq rfl ?_
 refine rg rfl ?_
 refine R_box rfl (by simp (disch := omega) only [go_sem, ↓reduceIte, Nat.reduceEqDiff, reduceCtorEq] <;> rfl) rfl rfl ?_
 refine R_box rfl (by simp (disch := omega) only [go_sem, ↓reduceIte, Nat.reduceEqDiff, reduceCtorEq] <;> rfl) rfl rfl ?_
 refine Rq ?_
 have tr : ∀ a b c d e f g h i j k m n o : AV, let l := lc_sameq_nil a b c d e f g h i j k; trim ((4,o)::(3,n)::(2,m)::l) l = [(0,a),(1,b),(2,m),(3,n),(4,o),(5,f),(20,g),(23,h),(24,i),(25,j),(37,k)] := by intros; rfl
 refine R_nil (tr ..) ?_; clear tr
 refine then_n ?_
 refine at_seq rfl ?_
 refine at_seq rfl ?_
 refine rg rfl ?_
 refine Rq ?_
 refine Rq ?_
 refine Rq ?_
 refine Rq ?_
 refine Rcall ?_
 refine ACall_eq (intq_nil _ _) ?_
 refine Rq ?_
 refine Rq ?_
 refine Ry ?_
 refine Rq ?_
 refine Ry ?_
 refine Rq ?_
 refine Ry ?_
 refine Rq ?_
 refine Ry ?_
 refine Rq ?_
 refine Ry ?_
 refine Rq ?_
 refine Ry ?_
 refine Rq ?_
 refine Ry ?_
 refine Rq ?_
 refine Rq ?_
 have tr : ∀ a b c d e f g h i j k m n o p q r s t u v w x y z A : AV, let l := lc_sameq_nil a b c d e f g h i j k; trim ((20,A)::(19,z)::(18,y)::(17,x)::(16,w)::(15,v)::(14,u)::(13,t)::(12,s)::(11,r)::(10,q)::(9,p)::(8,o)::(7,n)::(6,m)::l) l = [(0,a),(1,b),(2,c),(3,d),(4,e),(5,f),(20,A),(23,h),(24,i),(25,j),(37,k)] := by intros; rfl
 refine R_nil (tr ..) ?_; clear tr
 refine then_n ?_
 refine cdd (fun h1 => ?_) (fun h1 => ?_)
 ·
  try simp only [decide_eq_true_eq, decide_eq_false_iff_not, Bool.not_eq_true', Bool.not_eq_false', beq_iff_eq, beq_eq_false_iff_ne, ne_eq] at h1
  exfalso; first | omega | (simp at h1; done) | (simp at h2; done) | (simp at h3; done) | (simp at h4; done) | simp_all
 ·
  try simp only [decide_eq_true_eq, decide_eq_false_iff_not, Bool.not_eq_true', Bool.not_eq_false', beq_iff_eq, beq_eq_false_iff_ne, ne_eq] at h1
  refine at_skip rfl ?_
  refine then_n ?_
  refine at_seq rfl ?_
  refine at_seq rfl ?_
  refine rg rfl ?_
  refine Rq ?_
  refine Rq ?_
  refine Rq ?_
  refine Rq ?_
  have tr : ∀ a b c d e f g h i j k m n o p : AV, let l := lc_sameq_nil a b c d e f g h i j k; trim ((24,p)::(23,o)::(22,n)::(21,m)::l) l = [(0,a),(1,b),(2,c),(3,d),(4,e),(5,f),(20,g),(23,o),(24,p),(25,j),(37,k)] := by intros; rfl
  refine R_nil (tr ..) ?_; clear tr
  refine then_n ?_
  refine at_block rfl ?_
  refine loop_n rfl (fun mm kv H' => ∃ u : Nat, ∃ x4 x5 x25 x37 : AV, (kv = [(4, x4), (5, x5), (24, AV.i (u : Int)), (25, x25), (37, x37)]) ∧ (mm = 0) ∧ (H' = H ++ [some [nilP, nilP]] ++ [some [nilP, nilP]]) ∧ (u = 0)) ⟨0, _, _, _, _, rfl, rfl, rfl, by rfl⟩ (by rfl) ?_
  rintro mm kv H' ⟨u, x4, x5, x25, x37, rfl, rfl, rfl, hu⟩
  have tr : ∀ a b c d e f g h i j k m n o p q : AV, upd [(0,a),(1,b),(2,c),(3,d),(4,e),(5,f),(20,g),(23,h),(24,i),(25,j),(37,k)] [(4,m),(5,n),(24,o),(25,p),(37,q)] = [(0,a),(1,b),(2,c),(3,d),(4,m),(5,n),(20,g),(23,h),(24,o),(25,p),(37,q)] := by intros; rfl
  refine W_to (tr ..) ?_; clear tr
  refine at_seq rfl ?_
  refine rg rfl ?_
  refine Rq ?_
  have tr : ∀ a b c d e f g h i j k m : AV, let l := lc_sameq_nil a b c d e f g h i j k; trim ((25,m)::l) l = [(0,a),(1,b),(2,c),(3,d),(4,e),(5,f),(20,g),(23,h),(24,i),(25,m),(37,k)] := by intros; rfl
  refine R_nil (tr ..) ?_; clear tr
  refine then_n ?_
  refine at_seq rfl ?_
  refine cdd (fun h2 => ?_) (fun h2 => ?_)
  ·
   try simp only [decide_eq_true_eq, decide_eq_false_iff_not, Bool.not_eq_true', Bool.not_eq_false', beq_iff_eq, beq_eq_false_iff_ne, ne_eq] at h2
   exfalso; first | omega | (simp at h1; done) | (simp at h2; done) | (simp at h3; done) | (simp at h4; done) | simp_all
  ·
   try simp only [decide_eq_true_eq, decide_eq_false_iff_not, Bool.not_eq_true', Bool.not_eq_false', beq_iff_eq, beq_eq_false_iff_ne, ne_eq] at h2
   refine at_exit rfl ?_
   refine then_x ?_
   refine then_x ?_
   refine blk_x ?_
   refine then_n ?_
   refine at_seq rfl ?_
   refine rg rfl ?_
   refine Rq ?_
   have tr : ∀ a b c d e f g h i j k m : AV, let l := lc_sameq_nil a b c d e f g h i j k; trim ((4,m)::l) l = [(0,a),(1,b),(2,c),(3,d),(4,m),(5,f),(20,g),(23,h),(24,i),(25,j),(37,k)] := by intros; rfl
   refine R_nil (tr ..) ?_; clear tr
   refine then_n ?_
   refine at_ret rfl ?_
   refine fpure ?_
   exact ⟨rfl, rfl⟩

end Go.Proofs.Ytfnapmdedmbdbaa
end
section
namespace Go.Proofs.Ytfnapmdedmbdbaa
open Go Go.Am
set_option maxRecDepth 100000
theorem awake53 (lim : Nat) (H : Heap) : acall sig 400 lim 4 [] H = some (.v (.bool true), H) := by kernel_rfl
end Go.Proofs.Ytfnapmdedmbdbaa
end
section
set_option linter.unusedSimpArgs false
set_option linter.unusedVariables false
set_option maxHeartbeats 4000000
set_option maxRecDepth 20000
namespace Go.Proofs.Ytfnapmdedmbdbaa
open Go Go.Am
theorem of_same (n : Int) (l : List Pl) (L : List Pr) (hL : L.length ≤ 100) : ∃ x y : AV, ofA n l L = .agg [x, y] ∧ storable x = true ∧ storable y = true ∧ ∀ (lim : Nat) (H : Heap), ACall sig lim 7 [.agg [x, y], .agg [x, y]] H fun r H' => r = .v (.bool true) ∧ H' = H := by
  by_cases h : chS n l = 0
  · by_cases h2 : rchkS (ptsN n.toNat (tabS n l) (tabS n l).length) L = 0
    · exact ⟨_, _, (of_3 rfl h h2).2, rfl, rfl, fun lim H => sameq_ok lim H _ L (by have := (rok_of h2).n20; omega) hL⟩
    · exact ⟨_, _, (of_2 rfl h h2).2, rfl, rfl, fun lim H => sameq_nil lim H⟩
  · exact ⟨_, _, (of_1 L h).2, rfl, rfl, fun lim H => sameq_nil lim H⟩
abbrev lc_raceof_law (a b c d e f g h i j : AV) : Env := [(0,a),(1,b),(2,c),(6,d),(7,e),(8,f),(9,g),(10,h),(12,i),(20,j)]
theorem raceof_law (lim : Nat) (H : Heap) (n : Int) (l : List Pl) (L : List Pr) (hn : -9223372036854775808 ≤ n ∧ n ≤ 9223372036854775807) : ACall sig lim 3 [AV.i n, plsAV l, prsAV L] H fun r _ => r = .v (.bool true) := by
 have q7 : True := trivial
 have q9 : True := trivial
 refine ACall_pure (fa := fa3) rfl rfl rfl rfl ?_
 have tr : ∀ a0 a1 a2 : AV, env0 fa3.keep [a0, a1, a2] = [(0,a0),(1,a1),(2,a2),(6,.any),(7,.any),(8,.any),(9,.any),(10,.any),(12,.any),(20,.any)] := fun a0 a1 a2 => rfl
 refine W_to (tr _ _ _) ?_; clear tr
 refine at_seq rfl ?_
 refine rg rfl ?_
 refine Rq ?_
 have tr : ∀ a b c d e f g h i j k : AV, let l := lc_raceof_law a b c d e f g h i j; trim ((6,k)::l) l = [(0,a),(1,b),(2,c),(6,k),(7,e),(8,f),(9,g),(10,h),(12,i),(20,j)] := by intros; rfl
 refine R_nil (tr ..) ?_; clear tr
 refine then_n ?_
 refine at_seq rfl ?_
 refine at_seq rfl ?_
 refine rg rfl ?_
 refine Rcall ?_
 refine ACall_eval 400 (awake53 _ _) ?_
 refine Rq ?_
 have tr : ∀ a b c d e f g h i j k m : AV, let l := lc_raceof_law a b c d e f g h i j; trim ((12,m)::(11,k)::l) l = [(0,a),(1,b),(2,c),(6,d),(7,e),(8,f),(9,g),(10,h),(12,m),(20,j)] := by intros; rfl
 refine R_nil (tr ..) ?_; clear tr
 refine then_n ?_
 refine cdf ?_
 refine at_skip rfl ?_
 refine then_n ?_
 refine at_seq rfl ?_
 refine at_seq rfl ?_
 refine rg rfl ?_
 refine Rq ?_
 refine Rq ?_
 refine Rq ?_
 refine Rq ?_
 refine Rp_split (fun h1 => ?_) (fun h1 => ?_)
 ·
  try simp only [decide_eq_true_eq, decide_eq_false_iff_not, Bool.not_eq_true', Bool.not_eq_false', beq_iff_eq, beq_eq_false_iff_ne, ne_eq] at h1
  refine Rn ?_
  refine Rn ?_
  refine Rn ?_
  refine Rq ?_
  have tr : ∀ a b c d e f g h i j k m n o p q r s : AV, let l := lc_raceof_law a b c d e f g h i j; trim ((20,s)::(19,r)::(18,q)::(17,p)::(16,o)::(15,n)::(14,m)::(13,k)::l) l = [(0,a),(1,b),(2,c),(6,d),(7,e),(8,f),(9,g),(10,h),(12,i),(20,s)] := by intros; rfl
  refine R_nil (tr ..) ?_; clear tr
  refine then_n ?_
  refine cdt ?_
  refine at_seq rfl ?_
  refine rg rfl ?_
  refine Rq ?_
  have tr : ∀ a b c d e f g h i j k : AV, let l := lc_raceof_law a b c d e f g h i j; trim ((6,k)::l) l = [(0,a),(1,b),(2,c),(6,k),(7,e),(8,f),(9,g),(10,h),(12,i),(20,j)] := by intros; rfl
  refine R_nil (tr ..) ?_; clear tr
  refine then_n ?_
  refine at_ret rfl ?_
  refine then_r ?_
  refine fpure ?_
  first | rfl | simp
 ·
  try simp only [decide_eq_true_eq, decide_eq_false_iff_not, Bool.not_eq_true', Bool.not_eq_false', beq_iff_eq, beq_eq_false_iff_ne, ne_eq] at h1
  refine Ry ?_
  refine Rq ?_
  refine Ry ?_
  refine Rq ?_
  refine Ry ?_
  refine Rq ?_
  refine Rq ?_
  have tr : ∀ a b c d e f g h i j k m n o p q r s : AV, let l := lc_raceof_law a b c d e f g h i j; trim ((20,s)::(19,r)::(18,q)::(17,p)::(16,o)::(15,n)::(14,m)::(13,k)::l) l = [(0,a),(1,b),(2,c),(6,d),(7,e),(8,f),(9,g),(10,h),(12,i),(20,s)] := by intros; rfl
  refine R_nil (tr ..) ?_; clear tr
  refine then_n ?_
  refine cdd (fun h2 => ?_) (fun h2 => ?_)
  ·
   try simp only [decide_eq_true_eq, decide_eq_false_iff_not, Bool.not_eq_true', Bool.not_eq_false', beq_iff_eq, beq_eq_false_iff_ne, ne_eq] at h2
   refine at_seq rfl ?_
   refine rg rfl ?_
   refine Rq ?_
   have tr : ∀ a b c d e f g h i j k : AV, let l := lc_raceof_law a b c d e f g h i j; trim ((6,k)::l) l = [(0,a),(1,b),(2,c),(6,k),(7,e),(8,f),(9,g),(10,h),(12,i),(20,j)] := by intros; rfl
   refine R_nil (tr ..) ?_; clear tr
   refine then_n ?_
   refine at_ret rfl ?_
   refine then_r ?_
   refine fpure ?_
   first | rfl | simp
  ·
   try simp only [decide_eq_true_eq, decide_eq_false_iff_not, Bool.not_eq_true', Bool.not_eq_false', beq_iff_eq, beq_eq_false_iff_ne, ne_eq] at h2
   refine at_skip rfl ?_
   refine then_n ?_
   refine at_seq rfl ?_
   refine rg rfl ?_
   have hLL : L.length ≤ 100 := by omega
   obtain ⟨x, y, hA, hsx, hsy, hS⟩ := of_same n l L hLL
   refine Rq ?_
   refine Rq ?_
   refine Rq ?_
   refine Rcall ?_
   refine ACall_eq (raceof5_ok _ _ n hn l L hLL) ?_
   rewrite [hA]
   refine Rq ?_
   refine Rq ?_
   refine Rq ?_
   refine A_alloc rfl ?_
   intro H1 n1
   have en1 := n1.len
   have q7 : hget H1 _ = some [nilP, nilP] := n1.new
   have lq7 := hget_lt q7
   refine A_store ty27 (by simp (disch := first | omega | (simp only [List.length_map, List.length_append, List.length_set, List.length_cons, List.length_nil]; omega)) only [go_sem, ↓reduceIte, Nat.reduceEqDiff, reduceCtorEq, q7] <;> rfl) (by simp (disch := first | omega | (simp only [List.length_map, List.length_append, List.length_set, List.length_cons, List.length_nil]; omega)) only [go_sem, ↓reduceIte, Nat.reduceEqDiff, reduceCtorEq, q7, hsx, hsy, Bool.and_self] <;> rfl) q7 ⟨by omega, rfl, by first | exact Nat.le_refl _ | simp⟩ (k' := [x, y]) rfl ?_
   intro H2 w1
   have ew1 := w1.len
   have q7 := w1.new
   refine Rq ?_
   have tr : ∀ a b c d e f g h i j k m n o p q r s t : AV, let l := lc_raceof_law a b c d e f g h i j; trim ((8,t)::(7,s)::(27,r)::(26,q)::(21,p)::(25,o)::(24,n)::(23,m)::(22,k)::l) l = [(0,a),(1,b),(2,c),(6,d),(7,s),(8,t),(9,g),(10,h),(12,i),(20,j)] := by intros; rfl
   refine R_nil (tr ..) ?_; clear tr
   refine then_n ?_
   refine at_seq rfl ?_
   refine rg rfl ?_
   refine Rq ?_
   refine Rq ?_
   refine Rq ?_
   refine Rcall ?_
   refine ACall_eq (raceof6_ok _ _ n hn l L hLL) ?_
   rewrite [hA]
   refine Rq ?_
   refine Rq ?_
   refine Rq ?_
   refine A_alloc rfl ?_
   intro H3 n2
   have en2 := n2.len
   have q7 := (n2.old _ (hget_lt q7)).trans q7
   have q9 : hget H3 _ = some [nilP, nilP] := n2.new
   have lq7 := hget_lt q7
   have lq9 := hget_lt q9
   refine A_store ty27 (by simp (disch := first | omega | (simp only [List.length_map, List.length_append, List.length_set, List.length_cons, List.length_nil]; omega)) only [go_sem, ↓reduceIte, Nat.reduceEqDiff, reduceCtorEq, q7, q9] <;> rfl) (by simp (disch := first | omega | (simp only [List.length_map, List.length_append, List.length_set, List.length_cons, List.length_nil]; omega)) only [go_sem, ↓reduceIte, Nat.reduceEqDiff, reduceCtorEq, q7, q9, hsx, hsy, Bool.and_self] <;> rfl) q9 ⟨by omega, rfl, by first | exact Nat.le_refl _ | simp⟩ (k' := [x, y]) rfl ?_
   intro H4 w2
   have ew2 := w2.len
   have q7 := (w2.old _ (by omega)).trans q7
   have q9 := w2.new
   refine Rq ?_
   have tr : ∀ a b c d e f g h i j k m n o p q r s t : AV, let l := lc_raceof_law a b c d e f g h i j; trim ((10,t)::(9,s)::(34,r)::(33,q)::(28,p)::(32,o)::(31,n)::(30,m)::(29,k)::l) l = [(0,a),(1,b),(2,c),(6,d),(7,e),(8,f),(9,s),(10,t),(12,i),(20,j)] := by intros; rfl
   refine R_nil (tr ..) ?_; clear tr
   refine then_n ?_
   refine at_seq rfl ?_
   refine rg rfl ?_
   refine R_q rfl (by simp (disch := first | omega | (simp only [List.length_map, List.length_append, List.length_set, List.length_cons, List.length_nil]; omega)) only [go_sem, ↓reduceIte, Nat.reduceEqDiff, reduceCtorEq, q7, q9] <;> rfl) ?_
   refine R_q rfl (by simp (disch := first | omega | (simp only [List.length_map, List.length_append, List.length_set, List.length_cons, List.length_nil]; omega)) only [go_sem, ↓reduceIte, Nat.reduceEqDiff, reduceCtorEq, q7, q9] <;> rfl) ?_
   refine Rcall ?_
   refine ACall_eq (hS _ _) ?_
   refine Rq ?_
   refine Ry ?_
   refine Rq ?_
   refine Ry ?_
   refine Rq ?_
   refine Ry ?_
   refine Rq ?_
   refine Rq ?_
   refine Rq ?_
   have tr : ∀ a b c d e f g h i j k m n o p q r s t : AV, let l := lc_raceof_law a b c d e f g h i j; trim ((6,t)::(42,s)::(41,r)::(40,q)::(39,p)::(38,o)::(37,n)::(36,m)::(35,k)::l) l = [(0,a),(1,b),(2,c),(6,t),(7,e),(8,f),(9,g),(10,h),(12,i),(20,j)] := by intros; rfl
   refine R_nil (tr ..) ?_; clear tr
   refine then_n ?_
   refine at_ret rfl ?_
   refine fpure ?_
   first | rfl | simp

end Go.Proofs.Ytfnapmdedmbdbaa
end
section
namespace Go.Am
open Go
section
variable {H : Type} {enc : TypeId × Value → H} {P : Program} {w : World} {held : Bool}

abbrev In (w : World) : Nat → Prop := fun k => k < w.heap.size

theorem cell_lt {w : World} {a : Addr} {v : Value} (h : w.cell? a = some v) : a.block < w.heap.size := by
  unfold World.cell? at h
  by_cases hb : a.block < w.heap.size
  · exact hb
  · rw [Array.getElem?_eq_none (by omega)] at h
    simp at h

end
end Go.Am
end
section
namespace Go.Am
open Go Go.WideShapes
section
variable {P : Program} {w : World}

def DLs (w : World) (l : List AV) (cs : List Value) : Prop := cs.length = l.length ∧ ∀ (j : Nat) (a : AV) (v : Value), l[j]? = some a → cs[j]? = some v → Den [] (In w) w a v

def Opens (P : Program) (t : TypeId) {α : Type} (f : α → List AV) : Prop :=
  ∀ (H : Type) (enc : TypeId × Value → H) (w : World) (held : Bool) (n : Nat) (cs : List Value) (x : DataW H × List MemPlace), DataW.trod enc P w 0 (fun _ => true) held n t cs = some x → ∃ d : α, DLs w (f d) cs

theorem dls_one {a : AV} {v : Value} (h : Den [] (In w) w a v) : DLs w [a] [v] := ⟨rfl, fun j x y hx hy => by
  match j, hx, hy with
  | 0, hx, hy => cases hx; cases hy; exact h⟩

abbrev I64 := {x : Int // -9223372036854775808 ≤ x ∧ x ≤ 9223372036854775807}
abbrev U16 := {x : Int // 0 ≤ x ∧ x ≤ 65535}
abbrev U64 := {x : Int // 0 ≤ x ∧ x ≤ 18446744073709551615}
theorem opens_i64 {t : TypeId} (ht : P.underlying t = some (.int .i64)) : Opens P t (fun d : I64 => [AV.i d.val]) := by
  intro H enc w held n cs x h
  obtain ⟨m, rfl, _, hw⟩ := DataW.trod_int ht h
  simp only [Lit.wf, decide_eq_true_eq, Bool.and_eq_true] at hw
  exact ⟨⟨m, hw⟩, dls_one (.v _)⟩
theorem opens_bool {t : TypeId} (ht : P.underlying t = some .bool) : Opens P t (fun d : Bool => [.v (.bool d)]) := by
  intro H enc w held n cs x h
  obtain ⟨m, rfl, _⟩ := DataW.trod_bool ht h
  exact ⟨m, dls_one (.v _)⟩

theorem flat_uni {α : Type} {f : α → List AV} {z : Nat} (hf : ∀ d, (f d).length = z) : ∀ (l : List α) (i k : Nat) (hi : i < l.length), k < z → (l.map f).flatten[i * z + k]? = (f l[i])[k]?
  | [], i, k, hi, _ => by simp at hi
  | d :: l, 0, k, _, hk => by
    rw [List.map_cons, List.flatten_cons, Nat.zero_mul, Nat.zero_add, List.getElem?_append_left (by rw [hf]; exact hk)]
    rfl
  | d :: l, i + 1, k, hi, hk => by
    rw [List.map_cons, List.flatten_cons, List.getElem?_append_right (by rw [hf, Nat.succ_mul]; omega), hf]
    rw [show (i + 1) * z + k - z = i * z + k by rw [Nat.succ_mul]; omega, flat_uni hf l i k (by simpa using hi) hk]
    rfl
theorem flat_unilen {α : Type} {f : α → List AV} {z : Nat} (hf : ∀ d, (f d).length = z) (l : List α) : (l.map f).flatten.length = l.length * z := by
  induction l with
  | nil => simp
  | cons d l ih => rw [List.map_cons, List.flatten_cons, List.length_append, ih, hf, List.length_cons, Nat.succ_mul]; omega

theorem opens_slice {α : Type} {f : α → List AV} {t e : TypeId} {z : Nat} (ht : P.underlying t = some (.slice e)) (hc : P.cellsOf e = z) (hz : 0 < z) (he : Opens P e f) (hf : ∀ d, (f d).length = z) :
    Opens P t (fun l : List α => [.sl l.length (l.map f).flatten]) := by
  intro H enc w held n cs x h
  rcases DataW.trod_slice ht h with ⟨rfl, _⟩ | ⟨a, len, cap, elems, rest, n, _, rfl, _, _, hl, hm, hlen, hel, hsp, _⟩
  · exact ⟨[], dls_one (.sl0 _ _)⟩
  · have get : ∀ i, i < cap → ∃ d cs', (∀ k, k < z → ∃ c, cs'[k]? = some c ∧ w.cell? ((a.add (i * z)).add k) = some c) ∧ DLs w (f d) cs' := by
      intro i hi
      have hb : ∃ y, (w.cells? 0 (a.add (i * P.cellsOf e)) (P.cellsOf e)).bind (DataW.trod enc P w 0 (fun _ => true) held n e) = some y := by
        by_cases h1 : i < len
        · exact ⟨elems[i]'(by omega), by rw [hel i h1, List.getElem?_eq_getElem (by omega)]⟩
        · obtain ⟨hr, hrr⟩ := hsp rfl
          have := hrr (i - len) (by omega)
          rw [show len + (i - len) = i by omega] at this
          exact ⟨rest[i - len]'(by omega), by rw [this, List.getElem?_eq_getElem (by omega)]⟩
      obtain ⟨y, hy⟩ := hb
      rw [hc, Option.bind_eq_some_iff] at hy
      obtain ⟨cs', hcs, hy'⟩ := hy
      obtain ⟨d, hd⟩ := he H enc w held _ _ _ hy'
      refine ⟨d, cs', fun k hk => ?_, hd⟩
      unfold World.cells? at hcs
      rw [if_pos (Nat.zero_le _)] at hcs
      have hk1 := mapM_some_length hcs
      rw [List.length_range] at hk1
      have := mapM_some_get hcs k k (by simp [hk])
      exact ⟨cs'[k]'(by omega), List.getElem?_eq_getElem (by omega), by rw [this, List.getElem?_eq_getElem (by omega)]⟩
    by_cases h0 : cap = 0
    · subst h0
      have : len = 0 := by omega
      subst this
      exact ⟨[], dls_one (.sl0 _ _)⟩
    · obtain ⟨d0, cs0, hc0, _⟩ := get 0 (by omega)
      obtain ⟨c0, _, hcc⟩ := hc0 0 hz
      have e00 : (a.add (0 * z)).add 0 = a := by simp [Addr.add]
      rw [e00] at hcc
      have hs : a.spot = none := World.cell?_spot hcc
      have hb : a.block < w.heap.size := cell_lt hcc
      have ad : ∀ i, a.add i = ⟨a.block, a.off + i, none⟩ := by
        intro i
        obtain ⟨ab, ao, asp⟩ := a
        simp only at hs
        subst hs
        simp only [Addr.add]
        split
        · rename_i hi; rw [hi]; rfl
        · rfl
      have ad2 : ∀ i k, (a.add i).add k = ⟨a.block, a.off + (i + k), none⟩ := by
        intro i k
        rw [ad i]
        simp only [Addr.add]
        split
        · rename_i hi; rw [hi]; simp
        · simp
      have pick : ∀ i, ∃ d : α, i < len → ∃ cs', (∀ k, k < z → ∃ c, cs'[k]? = some c ∧ w.cell? ⟨a.block, a.off + (i * z + k), none⟩ = some c) ∧ DLs w (f d) cs' := by
        intro i
        by_cases hi : i < len
        · obtain ⟨d, cs', h1, h2⟩ := get i (by omega)
          exact ⟨d, fun _ => ⟨cs', fun k hk => by obtain ⟨c, h3, h4⟩ := h1 k hk; exact ⟨c, h3, by rw [← ad2]; exact h4⟩, h2⟩⟩
        · exact ⟨d0, fun h => absurd h hi⟩
      let D : Nat → α := fun i => (pick i).choose
      have hD : ∀ i, i < len → ∃ cs', (∀ k, k < z → ∃ c, cs'[k]? = some c ∧ w.cell? ⟨a.block, a.off + (i * z + k), none⟩ = some c) ∧ DLs w (f (D i)) cs' := fun i => (pick i).choose_spec
      refine ⟨(List.range len).map D, dls_one ?_⟩
      have hlen2 : ((List.range len).map D).length = len := by simp
      have key : ∀ (j : Nat) (x : AV), (((List.range len).map D).map f).flatten[j]? = some x → ∃ c, w.cell? ⟨a.block, a.off + j, none⟩ = some c ∧ Den [] (In w) w x c := by
        intro j x hx
        have hj : j < len * z := by
          have h1 := (List.getElem?_eq_some_iff.1 hx).1
          rw [flat_unilen hf, hlen2] at h1
          exact h1
        have hdiv : j / z < len := Nat.div_lt_of_lt_mul (by rw [Nat.mul_comm]; exact hj)
        have hmod : j % z < z := Nat.mod_lt _ hz
        have hjj : j / z * z + j % z = j := by rw [Nat.mul_comm]; exact Nat.div_add_mod j z
        have h2 := flat_uni hf ((List.range len).map D) (j / z) (j % z) (by rw [hlen2]; exact hdiv) hmod
        rw [hjj] at h2
        rw [h2] at hx
        simp only [List.getElem_map, List.getElem_range] at hx
        obtain ⟨cs', h3, h4⟩ := hD (j / z) hdiv
        obtain ⟨c, h5, h6⟩ := h3 (j % z) hmod
        rw [hjj] at h6
        exact ⟨c, h6, h4.2 _ _ _ hx h5⟩
      have ha : a = ⟨a.block, a.off, none⟩ := by obtain ⟨ab, ao, asp⟩ := a; simp only at hs; subst hs; rfl
      rw [hlen2]
      refine Den.sl (I := In w) _ _ cap a (fun j => (w.cell? ⟨a.block, a.off + j, none⟩).getD undef) hl hm hs hb ?_ ?_
      · intro j x hx
        obtain ⟨c, h1, _⟩ := key j x hx
        rw [h1]; rfl
      · intro j x hx
        obtain ⟨c, h1, h2⟩ := key j x hx
        rw [h1]; exact h2

theorem dls_split {cs : List Value} {o z : Nat} {l l' : List AV} (h1 : DLs w l ((cs.drop o).take z)) (hz : l.length = z) (h2 : DLs w l' (cs.drop (o + z))) : DLs w (l ++ l') (cs.drop o) := by
  subst hz
  have e : cs.drop o = (cs.drop o).take l.length ++ cs.drop (o + l.length) := by rw [← List.drop_drop]; exact (List.take_append_drop _ _).symm
  have hl := h1.1
  refine ⟨by rw [e, List.length_append, List.length_append, h1.1, h2.1], fun j a v ha hv => ?_⟩
  rw [e] at hv
  rw [List.getElem?_append] at ha hv
  by_cases hj : j < l.length
  · rw [if_pos hj] at ha
    rw [if_pos (by rw [hl]; exact hj)] at hv
    exact h1.2 j a v ha hv
  · rw [if_neg hj] at ha
    rw [if_neg (by rw [hl]; exact hj), hl] at hv
    exact h2.2 _ a v ha hv
theorem dls_end {cs : List Value} {o : Nat} (h : cs.length = o) : DLs w [] (cs.drop o) := ⟨by rw [List.drop_of_length_le (by omega)]; rfl, fun j a v ha _ => by simp at ha⟩

theorem opens_array {α : Type} {f : α → List AV} {t e : TypeId} {z m : Nat} [Inhabited α] (ht : P.underlying t = some (.array m e)) (hc : P.cellsOf e = z) (hct : P.cellsOf t = m * z) (he : Opens P e f) (hf : ∀ d, (f d).length = z) :
    Opens P t (fun l : {l : List α // l.length = m} => (l.val.map f).flatten) := by
  intro H enc w held n cs x h
  obtain ⟨xs, k, _, rfl, hl, hlen, hg⟩ := DataW.trod_array ht h
  have pick : ∀ i, ∃ d : α, i < m → DLs w (f d) ((cs.drop (i * z)).take z) := by
    intro i
    by_cases hi : i < m
    · have h1 := hg i hi
      rw [hc, List.getElem?_eq_getElem (by omega)] at h1
      obtain ⟨d, hd⟩ := he H enc w held _ _ _ h1
      exact ⟨d, fun _ => hd⟩
    · exact ⟨default, fun h => absurd h hi⟩
  let D : Nat → α := fun i => (pick i).choose
  have hD : ∀ i, i < m → DLs w (f (D i)) ((cs.drop (i * z)).take z) := fun i => (pick i).choose_spec
  have key : ∀ k, k ≤ m → DLs w (((List.range m).drop (m - k)).map fun i => f (D i)).flatten (cs.drop ((m - k) * z)) := by
    intro k
    induction k with
    | zero =>
      intro _
      rw [Nat.sub_zero, List.drop_of_length_le (by simp)]
      exact dls_end (by rw [hl, hct])
    | succ k ih =>
      intro hk
      have e : (List.range m).drop (m - (k + 1)) = (m - (k + 1)) :: (List.range m).drop (m - k) := by
        rw [List.drop_eq_getElem_cons (by simp; omega)]
        simp only [List.getElem_range]
        congr 1
        congr 1
        omega
      rw [e, List.map_cons, List.flatten_cons]
      refine dls_split (z := z) (hD _ (by omega)) (hf _) ?_
      have := ih (by omega)
      rwa [show (m - (k + 1)) * z + z = (m - k) * z by rw [← Nat.succ_mul]; congr 1; omega]
  refine ⟨⟨(List.range m).map D, by simp⟩, ?_⟩
  have := key m (Nat.le_refl _)
  rw [Nat.sub_self, Nat.zero_mul, List.drop_zero, List.drop_zero] at this
  simpa [List.map_map, Function.comp_def] using this

end
end Go.Am
end
section
set_option linter.unusedVariables false
namespace Go.Proofs.Ytfnapmdedmbdbaa
open Go Go.Am

instance : Inhabited I64 := ⟨⟨0, by decide⟩⟩
instance : Inhabited U16 := ⟨⟨0, by decide⟩⟩
theorem co3 : Try.prog.cellsOf 3 = 1 := by kernel_rfl
abbrev D3 := I64
abbrev c3 : D3 → List AV := fun d => [.v (.int .i64 d.val)]
theorem cl3 (d : D3) : (c3 d).length = 1 := rfl
theorem opens3 : Opens Try.prog 3 c3 := opens_i64 Try.underlying3
theorem co67 : Try.prog.cellsOf 67 = 8 := by kernel_rfl
theorem co4 : Try.prog.cellsOf 4 = 1 := by kernel_rfl
abbrev D4 := Bool
abbrev c4 : D4 → List AV := fun d => [.v (.bool d)]
theorem cl4 (d : D4) : (c4 d).length = 1 := rfl
theorem opens4 : Opens Try.prog 4 c4 := opens_bool Try.underlying4
abbrev D67 := D3 × D3 × D3 × D3 × D3 × D3 × D3 × D4
abbrev c67 : D67 → List AV := fun d => c3 d.1 ++ (c3 d.2.1 ++ (c3 d.2.2.1 ++ (c3 d.2.2.2.1 ++ (c3 d.2.2.2.2.1 ++ (c3 d.2.2.2.2.2.1 ++ (c3 d.2.2.2.2.2.2.1 ++ (c4 d.2.2.2.2.2.2.2 ++ ([]))))))))
theorem cl67 (d : D67) : (c67 d).length = 8 := rfl
theorem opens67 : Opens Try.prog 67 c67 := by
  intro H enc w held n cs x h
  obtain ⟨xs, m, _, rfl, hl, hlen, hf⟩ := DataW.trod_struct Try.underlying67 h
  rw [co67] at hl
  have g0 := hf 0 _ rfl
  rw [List.getElem?_eq_getElem (by rw [hlen]; decide)] at g0
  obtain ⟨d0, E0⟩ := opens3 _ _ _ _ _ _ _ g0
  have D0 : DLs w (c3 d0) ((cs.drop 0).take (Try.prog.cellsOf 3)) := E0
  rw [co3] at D0
  have g1 := hf 1 _ rfl
  rw [List.getElem?_eq_getElem (by rw [hlen]; decide)] at g1
  obtain ⟨d1, E1⟩ := opens3 _ _ _ _ _ _ _ g1
  have D1 : DLs w (c3 d1) ((cs.drop 1).take (Try.prog.cellsOf 3)) := E1
  rw [co3] at D1
  have g2 := hf 2 _ rfl
  rw [List.getElem?_eq_getElem (by rw [hlen]; decide)] at g2
  obtain ⟨d2, E2⟩ := opens3 _ _ _ _ _ _ _ g2
  have D2 : DLs w (c3 d2) ((cs.drop 2).take (Try.prog.cellsOf 3)) := E2
  rw [co3] at D2
  have g3 := hf 3 _ rfl
  rw [List.getElem?_eq_getElem (by rw [hlen]; decide)] at g3
  obtain ⟨d3, E3⟩ := opens3 _ _ _ _ _ _ _ g3
  have D3 : DLs w (c3 d3) ((cs.drop 3).take (Try.prog.cellsOf 3)) := E3
  rw [co3] at D3
  have g4 := hf 4 _ rfl
  rw [List.getElem?_eq_getElem (by rw [hlen]; decide)] at g4
  obtain ⟨d4, E4⟩ := opens3 _ _ _ _ _ _ _ g4
  have D4 : DLs w (c3 d4) ((cs.drop 4).take (Try.prog.cellsOf 3)) := E4
  rw [co3] at D4
  have g5 := hf 5 _ rfl
  rw [List.getElem?_eq_getElem (by rw [hlen]; decide)] at g5
  obtain ⟨d5, E5⟩ := opens3 _ _ _ _ _ _ _ g5
  have D5 : DLs w (c3 d5) ((cs.drop 5).take (Try.prog.cellsOf 3)) := E5
  rw [co3] at D5
  have g6 := hf 6 _ rfl
  rw [List.getElem?_eq_getElem (by rw [hlen]; decide)] at g6
  obtain ⟨d6, E6⟩ := opens3 _ _ _ _ _ _ _ g6
  have D6 : DLs w (c3 d6) ((cs.drop 6).take (Try.prog.cellsOf 3)) := E6
  rw [co3] at D6
  have g7 := hf 7 _ rfl
  rw [List.getElem?_eq_getElem (by rw [hlen]; decide)] at g7
  obtain ⟨d7, E7⟩ := opens4 _ _ _ _ _ _ _ g7
  have D7 : DLs w (c4 d7) ((cs.drop 7).take (Try.prog.cellsOf 4)) := E7
  rw [co4] at D7
  refine ⟨(d0, d1, d2, d3, d4, d5, d6, d7), ?_⟩
  have key : DLs w (c67 (d0, d1, d2, d3, d4, d5, d6, d7)) (cs.drop 0) := dls_split D0 (cl3 _) (dls_split D1 (cl3 _) (dls_split D2 (cl3 _) (dls_split D3 (cl3 _) (dls_split D4 (cl3 _) (dls_split D5 (cl3 _) (dls_split D6 (cl3 _) (dls_split D7 (cl4 _) (dls_end (by rw [hl])))))))))
  rwa [List.drop_zero] at key
abbrev D22 := List D67
abbrev c22 : D22 → List AV := fun l => [.sl l.length (l.map c67).flatten]
theorem opens22 : Opens Try.prog 22 c22 := opens_slice Try.underlying22 co67 (by decide) opens67 cl67
theorem co33 : Try.prog.cellsOf 33 = 2 := by kernel_rfl
abbrev D33 := {l : List D3 // l.length = 2}
abbrev c33 : D33 → List AV := fun l => (l.val.map c3).flatten
theorem cl33 (d : D33) : (c33 d).length = 2 := by rw [flat_unilen cl3, d.property]
theorem opens33 : Opens Try.prog 33 c33 := opens_array Try.underlying33 co3 (by rw [co33]) opens3 cl3
abbrev D23 := List D33
abbrev c23 : D23 → List AV := fun l => [.sl l.length (l.map c33).flatten]
theorem opens23 : Opens Try.prog 23 c23 := opens_slice Try.underlying23 co33 (by decide) opens33 cl33
end Go.Proofs.Ytfnapmdedmbdbaa
end
section
set_option linter.unusedVariables false
set_option linter.unusedSimpArgs false
set_option maxRecDepth 10000
namespace Go.Proofs.Ytfnapmdedmbdbaa
open Go Go.Am Go.ChangeShapes Go.WideShapes Go.ChangeAt Go.RowKit
theorem list2 {α : Type} {l : List α} (h : l.length = 2) : ∃ x y, l = [x, y] := by
  match l, h with
  | [x, y], _ => exact ⟨x, y, rfl⟩
def prOf (d : D33) : Pr := ⟨(gt d.val 0).val, (gt d.val 1).val⟩
theorem c33_eq (d : D33) : c33 d = prC (prOf d) := by
  obtain ⟨l, h⟩ := d
  obtain ⟨x, y, rfl⟩ := list2 h
  rfl
theorem c23_eq (d : D23) : c23 d = [prsAV (d.map prOf)] := by
  have e : (d.map c33) = (d.map prOf).map prC := by
    rw [List.map_map]
    exact List.map_congr_left fun x _ => c33_eq x
  show [AV.sl d.length (d.map c33).flatten] = _
  rw [e]
  simp only [prsAV, flatQ, List.length_map]
def plOf (d : D67) : Pl := ⟨d.1.val, d.2.1.val, d.2.2.1.val, d.2.2.2.1.val, d.2.2.2.2.1.val, d.2.2.2.2.2.1.val, d.2.2.2.2.2.2.1.val, d.2.2.2.2.2.2.2⟩
theorem c67_eq (d : D67) : c67 d = plC (plOf d) := rfl
theorem c22_eq (d : D22) : c22 d = [plsAV (d.map plOf)] := by
  have e : (d.map c67) = (d.map plOf).map plC := by
    rw [List.map_map]
    exact List.map_congr_left fun x _ => c67_eq x
  show [AV.sl d.length (d.map c67).flatten] = _
  rw [e, plsAV, List.length_map]
  rfl
section
variable {H : Type} {enc : TypeId × Value → H} {W : World} {base : Nat} {r : Reach} {v : Value} {d : DataW H} {p : List MemPlace}
theorem open_3 (hval : Value.okWide Try.prog W r base 3 v) (h : DataW.Trod enc Try.prog W 0 (fun _ => true) true 3 v d p) : ∃ (n : Int) (hn : -9223372036854775808 ≤ n ∧ n ≤ 9223372036854775807), Den [] (In W) W (AV.i n) v := by
  obtain ⟨n, rfl⟩ := okWide_int Try.underlying3 hval
  obtain ⟨fuel, hf⟩ := h
  obtain ⟨x, hx⟩ := opens3 _ _ _ _ _ _ _ hf
  exact ⟨x.val, x.property, hx.2 0 _ _ rfl rfl⟩
theorem open_22 (hval : Value.okWide Try.prog W r base 22 v) (h : DataW.Trod enc Try.prog W 0 (fun _ => true) true 22 v d p) :
    ∃ l : List Pl, Den [] (In W) W (plsAV l) v := by
  obtain ⟨a, len, cap, rfl⟩ := okWide_slice Try.underlying22 hval
  obtain ⟨fuel, hf⟩ := h
  obtain ⟨x, hx⟩ := opens22 _ _ _ _ _ _ _ hf
  rw [c22_eq] at hx
  exact ⟨x.map plOf, hx.2 0 _ _ rfl rfl⟩
theorem open_23 (hval : Value.okWide Try.prog W r base 23 v) (h : DataW.Trod enc Try.prog W 0 (fun _ => true) true 23 v d p) :
    ∃ l : List Pr, Den [] (In W) W (prsAV l) v := by
  obtain ⟨a, len, cap, rfl⟩ := okWide_slice Try.underlying23 hval
  obtain ⟨fuel, hf⟩ := h
  obtain ⟨x, hx⟩ := opens23 _ _ _ _ _ _ _ hf
  rw [c23_eq] at hx
  exact ⟨x.map prOf, hx.2 0 _ _ rfl rfl⟩
end
end Go.Proofs.Ytfnapmdedmbdbaa
end
section
namespace Go.Proofs.Ytfnapmdedmbdbaa
open Go Go.Am Go.ChangeShapes Go.WideShapes Go.ChangeAt Go.RowKit
set_option linter.unusedVariables false

theorem raceOf_own : ownKnob Try.prog.godebug = none := by kernel_rfl
theorem raceOf_laidOut : laidOutB Try.prog = true := by kernel_rfl

theorem raceOf_walk (w : World) (v0 v1 v2 : Value) (n : Int) (l : List Pl) (L : List Pr) (hn : -9223372036854775808 ≤ n ∧ n ≤ 9223372036854775807) (D0 : Den [] (In w) w (AV.i n) v0) (D1 : Den [] (In w) w (plsAV l) v1) (D2 : Den [] (In w) w (prsAV L) v2) :
    Calls Try.prog 3 #[v0, v1, v2] w fun e w' => e = .returned (.bool true) ∧ Below w.heap.size w w' := by
  obtain ⟨n0, r0, H0, hac, rfl⟩ := raceof_law 0 [] n l L hn
  refine (calls_of_acall sig_ok (f := 3) rfl hac ⟨rfl, ?_⟩).mono fun e w' ⟨x0, I', he, hx0, hb⟩ => ?_
  · intro j a y0 ha hy0
    match j, ha, hy0 with
    | 0, ha, hy0 => cases ha; cases hy0; exact D0
    | 1, ha, hy0 => cases ha; cases hy0; exact D1
    | 2, ha, hy0 => cases ha; cases hy0; exact D2
  · rw [den_v hx0] at he
    exact ⟨he, hb⟩

set_option maxRecDepth 100000 in
theorem raceOf_lifted (os : Os) (started : os.Started) (H : Type) (enc : TypeId × Value → H) :
    ReturnsInHanded {} Try.checked os 3 .any (Rows.raceOfSpec.pre6 enc Try.prog Try.f3 Rows.raceOfRow.domain false) (Rows.raceOfSpec.post enc Try.prog Try.f3 false true false false) := by
  refine returnsInHanded_of_change (C := Try.checked) raceOf_own started (by kernel_rfl) Try.func3
    (ChangeSpec.witness6 (enc := enc) (C := Try.checked) false ⟨#[], #[.int .i64 0, .slice none 0 0, .slice none 0 0], []⟩ 8 (by kernel_rfl) (by kernel_rfl) (by kernel_rfl) (by kernel_rfl)) ?_
  intro W base args ds gs before hval0 hW hcnd _
  have hval : ∀ (j : Nat) t v, Try.f3.params[j]? = some t → args[j]? = some v → Value.okWide Try.prog W .any base t v := hval0
  have hW' := hW
  obtain ⟨p, q, hA0, hV, rfl, hfz, hnd⟩ := hW
  have hA : DataW.TrodAll enc Try.prog W 0 (fun _ => true) true Try.f3.params.toList args.toList ds p := hA0
  rw [Try.params3] at hA hval
  obtain ⟨v0, vs0, d0, ds0, p0, q0, hargs, rfl, rfl, h0, s0⟩ := trodAll_cons hA
  obtain ⟨v1, vs1, d1, ds1, p1, q1, rfl, rfl, rfl, h1, s1⟩ := trodAll_cons s0
  obtain ⟨v2, vs2, d2, ds2, p2, q2, rfl, rfl, rfl, h2, s2⟩ := trodAll_cons s1
  obtain ⟨rfl, rfl, rfl⟩ := trodAll_nil s2
  obtain rfl : args = #[v0, v1, v2] := by cases args; simp_all
  obtain ⟨rfl, rfl⟩ := trodVars_none hV
  have k0 := h0
  have lt0 : ∀ x ∈ p0, x.block < W.heap.size := by obtain ⟨m, hm⟩ := k0; exact DataW.trod_lt m _ _ _ hm
  obtain ⟨n, hn, D0⟩ := open_3 (hval 0 3 v0 rfl rfl) h0
  have k1 := h1
  have lt1 : ∀ x ∈ p1, x.block < W.heap.size := by obtain ⟨m, hm⟩ := k1; exact DataW.trod_lt m _ _ _ hm
  obtain ⟨l, D1⟩ := open_22 (hval 1 22 v1 rfl rfl) h1
  have k2 := h2
  have lt2 : ∀ x ∈ p2, x.block < W.heap.size := by obtain ⟨m, hm⟩ := k2; exact DataW.trod_lt m _ _ _ hm
  obtain ⟨L, D2⟩ := open_23 (hval 2 23 v2 rfl rfl) h2
  clear hA0 hval0
  refine (raceOf_walk W v0 v1 v2 n l L hn D0 D1 D2).mono fun e W' ⟨he, bel⟩ => ?_
  subst he
  exact ⟨_, rfl, _, _, _, [], _, [], hW', trodAll_mk1 (shut_bool Try.underlying4 _), (trodAll_cons_mk (Below.trod raceOf_laidOut (by kernel_rfl) (of_decide_eq_true (by kernel_rfl)) k0 bel lt0) (trodAll_cons_mk (Below.trod raceOf_laidOut (by kernel_rfl) (of_decide_eq_true (by kernel_rfl)) k1 bel lt1) (trodAll_cons_mk (Below.trod raceOf_laidOut (by kernel_rfl) (of_decide_eq_true (by kernel_rfl)) k2 bel lt2) trodAll_mk0))), rfl, bel.frame _, fun h => by cases h⟩

theorem raceOf_over : Rows.raceOfRow.holds Try.pinned (OpenSpec.ofChange Rows.raceOfSpec) :=
  OpenClaim.holds_of_wide 3 Try.f3 rfl rfl rfl rfl rfl rfl rfl ⟨rfl, rfl, rfl, rfl, rfl⟩ rfl rfl rfl rfl rfl (by kernel_rfl) Try.func3 (by kernel_rfl)
    (of_decide_eq_true (by kernel_rfl)) (by unfold Func.isWrapper; first | (rw [if_pos (by decide +kernel)]; kernel_rfl) | (rw [if_neg (by decide +kernel)]; exact ⟨rfl, rfl⟩))
    (fun os started H enc _ => raceOf_lifted os started H enc)

theorem raceOf_holds : Rows.RaceOfSaid := raceOf_over
end Go.Proofs.Ytfnapmdedmbdbaa
end
