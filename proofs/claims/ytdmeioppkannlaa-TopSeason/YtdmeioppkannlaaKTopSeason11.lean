/-
  Texts of TopSeason, part 12 of 16. TopSeason: a season played out. The steps are written by program (walk.py).
-/
import Derived.Test.YtdmeioppkannlaaKTopSeason7
import Derived.Test.YtdmeioppkannlaaKTopSeason9
import Derived.Test.YtdmeioppkannlaaKTopSeason10
import Derived.KernelRfl
import Derived.Test.YtdmeioppkannlaaKTopSeason8
section
set_option linter.unusedSimpArgs false
set_option linter.unusedVariables false
set_option maxHeartbeats 40000000
set_option maxRecDepth 20000
namespace Go.Proofs.Ytdmeioppkannlaa
open Go Go.Am

theorem snoc_at {H : Heap} {b : Nat} {k : Blk} {x : Option Blk} (h : hget H b = some k) : hget (H ++ [x]) b = some k := by
  rw [hget_low _ _ _ (hget_lt h)]; exact h
theorem flatQ_part (L : List Pr) (i : Nat) (hi : i ≤ L.length) : ((flatQ L).drop (i * 2)).take ((L.length - i) * 2) = flatQ (L.drop i) := by
  have e : flatQ L = flatQ (L.take i) ++ flatQ (L.drop i) := by
    conv => lhs; rw [← List.take_append_drop i L]
    unfold flatQ; rw [List.map_append, List.flatten_append]
  rw [e, List.drop_append_of_le_length (by rw [flatQ_len, List.length_take]; omega), List.drop_of_length_le (by rw [flatQ_len, List.length_take]; omega), List.nil_append]
  exact List.take_of_length_le (by rw [flatQ_len, List.length_drop]; omega)
theorem cloneO_ok (lim : Nat) (H : Heap) (b i : Nat) (Q L : List Pr) (qL : hget H b = some (flatQ Q)) (hL : L = Q.drop i) (hi : i ≤ Q.length) (h1 : Q.length ≤ 100000) : ACall sig lim 12 [.own 2 b (i * 2) (Q.length - i)] H fun r H' => r = prsAV L ∧ H' = H := by
  subst hL
  refine ⟨1, _, H, ?_, rfl, rfl⟩
  show Option.map _ (cloneV [.own 2 b (i * 2) (Q.length - i)] H) = _
  simp only [cloneV, qL, flatQ_part Q i hi]
  rw [if_pos ⟨by omega, by rw [flatQ_len]; omega, isI_ints _⟩]
  show some (AV.sl (Q.length - i) _, H) = some (AV.sl (Q.drop i).length _, H)
  rw [List.length_drop]

abbrev lc_raceofX_ok (a b c d e f g h i j k m n o p q : AV) : Env := [(0,a),(1,b),(2,c),(6,d),(7,e),(8,f),(9,g),(10,h),(12,i),(13,j),(21,k),(29,m),(30,n),(31,o),(32,p),(46,q)]
theorem raceofX_ok (lim : Nat) (H : Heap) (n : Int) (hn : -9223372036854775808 ≤ n ∧ n ≤ 9223372036854775807) (l : List Pl) (x : AV) (hx : SrcP H x l) (bl i : Nat) (Q : List Pr) (qL : hget H bl = some (flatQ Q)) (hi : i ≤ Q.length) (hQ : Q.length ≤ 100) :
    ACall sig lim 6 [AV.i n, x, .own 2 bl (i * 2) (Q.length - i)] H fun r H' => r = .tup [ofA n l (Q.drop i), AV.i (ofE n l (Q.drop i))] ∧ H' = H := by
 have q6 : True := trivial
 have q10 : True := trivial
 have qP : True := trivial
 have q12 : True := trivial
 obtain ⟨L, hLQ⟩ : ∃ L, L = Q.drop i := ⟨_, rfl⟩
 rewrite [← hLQ]
 refine ACall_pure (fa := fa6) rfl rfl rfl rfl ?_
 have tr : ∀ a0 a1 a2 : AV, env0 fa6.keep [a0, a1, a2] = lc_raceofX_ok a0 a1 a2 .any .any .any .any .any .any .any .any .any .any .any .any .any := fun a0 a1 a2 => rfl
 refine W_to (tr _ _ _) ?_; clear tr
 refine at_seq rfl ?_
 refine rg rfl ?_
 refine A_alloc rfl ?_
 intro H1 n0
 have en0 := n0.len
 have qL := (n0.old _ (hget_lt qL)).trans qL
 have q6 : hget H1 H.length = some [nilP, nilP] := n0.new
 have hx1 := hx.keep fun b hb => n0.old b hb
 refine Rq ?_
 have tr : ∀ a b c d e f g h i j k m n o p q r s : AV, let l := lc_raceofX_ok a b c d e f g h i j k m n o p q; trim ((7,s)::(6,r)::l) l = lc_raceofX_ok a b c r s f g h i j k m n o p q := by intros; rfl
 refine R_nil (tr ..) ?_; clear tr
 refine then_n ?_
 refine at_seq rfl ?_
 refine rg rfl ?_
 refine Rq ?_
 refine Rq ?_
 refine Rcall ?_
 refine ACall_eq (tableX_ok _ _ n hn l x hx1) ?_
 refine Rq ?_
 refine Rq ?_
 refine Rq ?_
 refine Rq ?_
 refine Rq ?_
 have tr : ∀ a b c d e f g h i j k m n o p q r s t u v w x y : AV, let l := lc_raceofX_ok a b c d e f g h i j k m n o p q; trim ((9,y)::(8,x)::(19,w)::(18,v)::(14,u)::(17,t)::(16,s)::(15,r)::l) l = lc_raceofX_ok a b c d e x y h i j k m n o p q := by intros; rfl
 refine R_nil (tr ..) ?_; clear tr
 refine then_n ?_
 refine at_seq rfl ?_
 refine at_seq rfl ?_
 refine rg rfl ?_
 refine Rq ?_
 refine Rq ?_
 have tr : ∀ a b c d e f g h i j k m n o p q r s : AV, let l := lc_raceofX_ok a b c d e f g h i j k m n o p q; trim ((21,s)::(20,r)::l) l = lc_raceofX_ok a b c d e f g h i j s m n o p q := by intros; rfl
 refine R_nil (tr ..) ?_; clear tr
 refine then_n ?_
 refine cdd (fun h1 => ?_) (fun h1 => ?_)
 ·
  try simp only [decide_eq_true_eq, decide_eq_false_iff_not, Bool.not_eq_true', Bool.not_eq_false', beq_iff_eq, beq_eq_false_iff_ne, ne_eq] at h1
  refine at_seq rfl ?_
  refine rg rfl ?_
  refine Rq ?_
  refine Rq ?_
  have lq6 := hget_lt q6
  refine A_store ty36 (by simp (disch := first | omega | (simp only [List.length_map, List.length_append, List.length_set, List.length_cons, List.length_nil]; omega)) only [go_sem, ↓reduceIte, Nat.reduceEqDiff, reduceCtorEq, q6] <;> rfl) (by simp (disch := first | omega | (simp only [List.length_map, List.length_append, List.length_set, List.length_cons, List.length_nil]; omega)) only [go_sem, ↓reduceIte, Nat.reduceEqDiff, reduceCtorEq, q6] <;> rfl) q6 ⟨by omega, rfl, by first | exact Nat.le_refl _ | simp⟩ (k' := [nilP, nilP]) rfl ?_
  intro HE wE
  have ewE := wE.len
  have q6 := wE.new
  refine Rq ?_
  have tr : ∀ a b c d e f g h i j k m n o p q r s t : AV, let l := lc_raceofX_ok a b c d e f g h i j k m n o p q; trim ((7,t)::(23,s)::(22,r)::l) l = lc_raceofX_ok a b c d t f g h i j k m n o p q := by intros; rfl
  refine R_nil (tr ..) ?_; clear tr
  refine then_n ?_
  refine at_ret rfl ?_
  refine then_r ?_
  refine fin_pure (rs := [.cell 6 36, .tmp 7]) rfl (by simp (disch := first | omega | (simp only [List.length_map, List.length_append, List.length_set, List.length_cons, List.length_nil]; omega)) only [go_sem, ↓reduceIte, Nat.reduceEqDiff, reduceCtorEq, q6] <;> rfl) (v := .tup [.agg [nilP, nilP], AV.i (chS n l)]) (by rfl) ?_
  refine ⟨?_, rfl⟩
  rw [(of_1 L (by assumption)).1, (of_1 L (by assumption)).2]
 ·
  try simp only [decide_eq_true_eq, decide_eq_false_iff_not, Bool.not_eq_true', Bool.not_eq_false', beq_iff_eq, beq_eq_false_iff_ne, ne_eq] at h1
  refine at_skip rfl ?_
  refine then_n ?_
  refine at_seq rfl ?_
  refine rls2 rfl rfl ?_
  have hc : chS n l = 0 := by first | assumption | omega
  obtain ⟨hn2, hl4, hpl⟩ := chS_z hc
  obtain ⟨zs, hzs⟩ : ∃ zs, zs = tabS n l := ⟨_, rfl⟩
  obtain ⟨hz0, hzl, hzt⟩ := tab_row hzs hc
  rewrite [← hzs, tbAV_ne hz0]
  refine Lq ?_
  refine Lq ?_
  refine L_nil ?_
  refine R_makeSlice (ms25 _ _ n _ _ _ (by omega) (by omega) (by simp (disch := first | omega | (simp only [List.length_map, List.length_append, List.length_set, List.length_cons, List.length_nil]; omega)) only [go_sem, ↓reduceIte, Nat.reduceEqDiff, reduceCtorEq]) (by simp (disch := first | omega | (simp only [List.length_map, List.length_append, List.length_set, List.length_cons, List.length_nil]; omega)) only [go_sem, ↓reduceIte, Nat.reduceEqDiff, reduceCtorEq])) ?_
  refine Rcall ?_
  refine ACall_eq (cloneO_ok _ _ bl i Q L (by first | exact qL | exact snoc_at qL | exact snoc_at (snoc_at qL)) hLQ hi (by omega)) ?_
  refine R_q rfl (by simp (disch := first | omega | (simp only [List.length_map, List.length_append, List.length_set, List.length_cons, List.length_nil]; omega)) only [go_sem, ↓reduceIte, Nat.reduceEqDiff, reduceCtorEq]; exact bld27 rfl rfl) ?_
  refine R_alloc (z := [.slice none 0 0, .slice none 0 0]) (by simp (disch := first | omega | (simp only [List.length_map, List.length_append, List.length_set, List.length_cons, List.length_nil]; omega)) only [go_sem, ↓reduceIte, Nat.reduceEqDiff, reduceCtorEq] <;> rfl) rfl (H' := _ ++ [some [nilP, nilP]]) rfl ?_
  refine R_end ⟨?_, ?_⟩
  ·
   refine ⟨?_, ?_⟩
   ·
    refine R_makeSlice (ms25 _ _ n _ _ _ (by omega) (by omega) (by simp (disch := first | omega | (simp only [List.length_map, List.length_append, List.length_set, List.length_cons, List.length_nil]; omega)) only [go_sem, ↓reduceIte, Nat.reduceEqDiff, reduceCtorEq]) (by simp (disch := first | omega | (simp only [List.length_map, List.length_append, List.length_set, List.length_cons, List.length_nil]; omega)) only [go_sem, ↓reduceIte, Nat.reduceEqDiff, reduceCtorEq])) ?_
    refine Rcall ?_
    refine ACall_eq (cloneO_ok _ _ bl i Q L (by first | exact qL | exact snoc_at qL | exact snoc_at (snoc_at qL)) hLQ hi (by omega)) ?_
    refine R_alloc (z := [.slice none 0 0, .slice none 0 0]) (by simp (disch := first | omega | (simp only [List.length_map, List.length_append, List.length_set, List.length_cons, List.length_nil]; omega)) only [go_sem, ↓reduceIte, Nat.reduceEqDiff, reduceCtorEq] <;> rfl) rfl (H' := _ ++ [some [nilP, nilP]]) rfl ?_
    refine R_q rfl (by simp (disch := first | omega | (simp only [List.length_map, List.length_append, List.length_set, List.length_cons, List.length_nil]; omega)) only [go_sem, ↓reduceIte, Nat.reduceEqDiff, reduceCtorEq]; exact bld27 rfl rfl) ?_
    refine R_end ?_
    refine ⟨[0, 1], by simp [hset], by simp [hset], by simp [hset], by decide, by decide, by decide, ?_, ?_⟩
    · intro t ht
      simp only [List.mem_cons, List.not_mem_nil, or_false] at ht
      rcases ht with rfl | rfl
      · simp only [get_cons, put_some, ↓reduceIte, Nat.reduceEqDiff, ren_os, ren_oo, ren_p8, List.length_append, List.length_cons, List.length_nil, hset, List.length_set, Nat.zero_add, Nat.add_assoc, Nat.reduceAdd, rnB_add, rnB_zero]
        first | done | rfl
      · simp only [get_cons, put_some, ↓reduceIte, Nat.reduceEqDiff, ren_os, ren_oo, ren_p8, List.length_append, List.length_cons, List.length_nil, hset, List.length_set, Nat.zero_add, Nat.add_assoc, Nat.reduceAdd, rnB_add, rnB_zero]
        first | done | rfl
    · intro k hk
      simp only [List.mem_cons, List.not_mem_nil, or_false] at hk
      rcases hk with rfl | rfl <;> first | (simp [hget, hset, ints_ren, prs_ren]; done) | (simp [hget, hset, ints_ren, prs_ren, ren])
   refine ⟨?_, ?_⟩
   ·
    refine R_makeSlice (ms25 _ _ n _ _ _ (by omega) (by omega) (by simp (disch := first | omega | (simp only [List.length_map, List.length_append, List.length_set, List.length_cons, List.length_nil]; omega)) only [go_sem, ↓reduceIte, Nat.reduceEqDiff, reduceCtorEq]) (by simp (disch := first | omega | (simp only [List.length_map, List.length_append, List.length_set, List.length_cons, List.length_nil]; omega)) only [go_sem, ↓reduceIte, Nat.reduceEqDiff, reduceCtorEq])) ?_
    refine R_alloc (z := [.slice none 0 0, .slice none 0 0]) (by simp (disch := first | omega | (simp only [List.length_map, List.length_append, List.length_set, List.length_cons, List.length_nil]; omega)) only [go_sem, ↓reduceIte, Nat.reduceEqDiff, reduceCtorEq] <;> rfl) rfl (H' := _ ++ [some [nilP, nilP]]) rfl ?_
    refine Rcall ?_
    refine ACall_eq (cloneO_ok _ _ bl i Q L (by first | exact qL | exact snoc_at qL | exact snoc_at (snoc_at qL)) hLQ hi (by omega)) ?_
    refine R_q rfl (by simp (disch := first | omega | (simp only [List.length_map, List.length_append, List.length_set, List.length_cons, List.length_nil]; omega)) only [go_sem, ↓reduceIte, Nat.reduceEqDiff, reduceCtorEq]; exact bld27 rfl rfl) ?_
    refine R_end ?_
    refine ⟨[0, 1], by simp [hset], by simp [hset], by simp [hset], by decide, by decide, by decide, ?_, ?_⟩
    · intro t ht
      simp only [List.mem_cons, List.not_mem_nil, or_false] at ht
      rcases ht with rfl | rfl
      · simp only [get_cons, put_some, ↓reduceIte, Nat.reduceEqDiff, ren_os, ren_oo, ren_p8, List.length_append, List.length_cons, List.length_nil, hset, List.length_set, Nat.zero_add, Nat.add_assoc, Nat.reduceAdd, rnB_add, rnB_zero]
        first | done | rfl
      · simp only [get_cons, put_some, ↓reduceIte, Nat.reduceEqDiff, ren_os, ren_oo, ren_p8, List.length_append, List.length_cons, List.length_nil, hset, List.length_set, Nat.zero_add, Nat.add_assoc, Nat.reduceAdd, rnB_add, rnB_zero]
        first | done | rfl
    · intro k hk
      simp only [List.mem_cons, List.not_mem_nil, or_false] at hk
      rcases hk with rfl | rfl <;> first | (simp [hget, hset, ints_ren, prs_ren]; done) | (simp [hget, hset, ints_ren, prs_ren, ren])
   refine ⟨?_, ?_⟩
   ·
    refine Rcall ?_
    refine ACall_eq (cloneO_ok _ _ bl i Q L (by first | exact qL | exact snoc_at qL | exact snoc_at (snoc_at qL)) hLQ hi (by omega)) ?_
    refine R_makeSlice (ms25 _ _ n _ _ _ (by omega) (by omega) (by simp (disch := first | omega | (simp only [List.length_map, List.length_append, List.length_set, List.length_cons, List.length_nil]; omega)) only [go_sem, ↓reduceIte, Nat.reduceEqDiff, reduceCtorEq]) (by simp (disch := first | omega | (simp only [List.length_map, List.length_append, List.length_set, List.length_cons, List.length_nil]; omega)) only [go_sem, ↓reduceIte, Nat.reduceEqDiff, reduceCtorEq])) ?_
    refine R_q rfl (by simp (disch := first | omega | (simp only [List.length_map, List.length_append, List.length_set, List.length_cons, List.length_nil]; omega)) only [go_sem, ↓reduceIte, Nat.reduceEqDiff, reduceCtorEq]; exact bld27 rfl rfl) ?_
    refine R_alloc (z := [.slice none 0 0, .slice none 0 0]) (by simp (disch := first | omega | (simp only [List.length_map, List.length_append, List.length_set, List.length_cons, List.length_nil]; omega)) only [go_sem, ↓reduceIte, Nat.reduceEqDiff, reduceCtorEq] <;> rfl) rfl (H' := _ ++ [some [nilP, nilP]]) rfl ?_
    refine R_end ?_
    refine ⟨[0, 1], by simp [hset], by simp [hset], by simp [hset], by decide, by decide, by decide, ?_, ?_⟩
    · intro t ht
      simp only [List.mem_cons, List.not_mem_nil, or_false] at ht
      rcases ht with rfl | rfl
      · simp only [get_cons, put_some, ↓reduceIte, Nat.reduceEqDiff, ren_os, ren_oo, ren_p8, List.length_append, List.length_cons, List.length_nil, hset, List.length_set, Nat.zero_add, Nat.add_assoc, Nat.reduceAdd, rnB_add, rnB_zero]
        first | done | rfl
      · simp only [get_cons, put_some, ↓reduceIte, Nat.reduceEqDiff, ren_os, ren_oo, ren_p8, List.length_append, List.length_cons, List.length_nil, hset, List.length_set, Nat.zero_add, Nat.add_assoc, Nat.reduceAdd, rnB_add, rnB_zero]
        first | done | rfl
    · intro k hk
      simp only [List.mem_cons, List.not_mem_nil, or_false] at hk
      rcases hk with rfl | rfl <;> first | (simp [hget, hset, ints_ren, prs_ren]; done) | (simp [hget, hset, ints_ren, prs_ren, ren])
   refine ⟨?_, ?_⟩
   ·
    refine Rcall ?_
    refine ACall_eq (cloneO_ok _ _ bl i Q L (by first | exact qL | exact snoc_at qL | exact snoc_at (snoc_at qL)) hLQ hi (by omega)) ?_
    refine R_makeSlice (ms25 _ _ n _ _ _ (by omega) (by omega) (by simp (disch := first | omega | (simp only [List.length_map, List.length_append, List.length_set, List.length_cons, List.length_nil]; omega)) only [go_sem, ↓reduceIte, Nat.reduceEqDiff, reduceCtorEq]) (by simp (disch := first | omega | (simp only [List.length_map, List.length_append, List.length_set, List.length_cons, List.length_nil]; omega)) only [go_sem, ↓reduceIte, Nat.reduceEqDiff, reduceCtorEq])) ?_
    refine R_alloc (z := [.slice none 0 0, .slice none 0 0]) (by simp (disch := first | omega | (simp only [List.length_map, List.length_append, List.length_set, List.length_cons, List.length_nil]; omega)) only [go_sem, ↓reduceIte, Nat.reduceEqDiff, reduceCtorEq] <;> rfl) rfl (H' := _ ++ [some [nilP, nilP]]) rfl ?_
    refine R_q rfl (by simp (disch := first | omega | (simp only [List.length_map, List.length_append, List.length_set, List.length_cons, List.length_nil]; omega)) only [go_sem, ↓reduceIte, Nat.reduceEqDiff, reduceCtorEq]; exact bld27 rfl rfl) ?_
    refine R_end ?_
    refine ⟨[0, 1], by simp [hset], by simp [hset], by simp [hset], by decide, by decide, by decide, ?_, ?_⟩
    · intro t ht
      simp only [List.mem_cons, List.not_mem_nil, or_false] at ht
      rcases ht with rfl | rfl
      · simp only [get_cons, put_some, ↓reduceIte, Nat.reduceEqDiff, ren_os, ren_oo, ren_p8, List.length_append, List.length_cons, List.length_nil, hset, List.length_set, Nat.zero_add, Nat.add_assoc, Nat.reduceAdd, rnB_add, rnB_zero]
        first | done | rfl
      · simp only [get_cons, put_some, ↓reduceIte, Nat.reduceEqDiff, ren_os, ren_oo, ren_p8, List.length_append, List.length_cons, List.length_nil, hset, List.length_set, Nat.zero_add, Nat.add_assoc, Nat.reduceAdd, rnB_add, rnB_zero]
        first | done | rfl
    · intro k hk
      simp only [List.mem_cons, List.not_mem_nil, or_false] at hk
      rcases hk with rfl | rfl <;> first | (simp [hget, hset, ints_ren, prs_ren]; done) | (simp [hget, hset, ints_ren, prs_ren, ren])
   refine ⟨?_, ?_⟩
   ·
    refine Rcall ?_
    refine ACall_eq (cloneO_ok _ _ bl i Q L (by first | exact qL | exact snoc_at qL | exact snoc_at (snoc_at qL)) hLQ hi (by omega)) ?_
    refine R_alloc (z := [.slice none 0 0, .slice none 0 0]) (by simp (disch := first | omega | (simp only [List.length_map, List.length_append, List.length_set, List.length_cons, List.length_nil]; omega)) only [go_sem, ↓reduceIte, Nat.reduceEqDiff, reduceCtorEq] <;> rfl) rfl (H' := _ ++ [some [nilP, nilP]]) rfl ?_
    refine R_makeSlice (ms25 _ _ n _ _ _ (by omega) (by omega) (by simp (disch := first | omega | (simp only [List.length_map, List.length_append, List.length_set, List.length_cons, List.length_nil]; omega)) only [go_sem, ↓reduceIte, Nat.reduceEqDiff, reduceCtorEq]) (by simp (disch := first | omega | (simp only [List.length_map, List.length_append, List.length_set, List.length_cons, List.length_nil]; omega)) only [go_sem, ↓reduceIte, Nat.reduceEqDiff, reduceCtorEq])) ?_
    refine R_q rfl (by simp (disch := first | omega | (simp only [List.length_map, List.length_append, List.length_set, List.length_cons, List.length_nil]; omega)) only [go_sem, ↓reduceIte, Nat.reduceEqDiff, reduceCtorEq]; exact bld27 rfl rfl) ?_
    refine R_end ?_
    refine ⟨[1, 0], by simp [hset], by simp [hset], by simp [hset], by decide, by decide, by decide, ?_, ?_⟩
    · intro t ht
      simp only [List.mem_cons, List.not_mem_nil, or_false] at ht
      rcases ht with rfl | rfl
      · simp only [get_cons, put_some, ↓reduceIte, Nat.reduceEqDiff, ren_os, ren_oo, ren_p8, List.length_append, List.length_cons, List.length_nil, hset, List.length_set, Nat.zero_add, Nat.add_assoc, Nat.reduceAdd, rnB_add, rnB_zero]
        first | done | rfl
      · simp only [get_cons, put_some, ↓reduceIte, Nat.reduceEqDiff, ren_os, ren_oo, ren_p8, List.length_append, List.length_cons, List.length_nil, hset, List.length_set, Nat.zero_add, Nat.add_assoc, Nat.reduceAdd, rnB_add, rnB_zero]
        first | done | rfl
    · intro k hk
      simp only [List.mem_cons, List.not_mem_nil, or_false] at hk
      rcases hk with rfl | rfl <;> first | (simp [hget, hset, ints_ren, prs_ren]; done) | (simp [hget, hset, ints_ren, prs_ren, ren])
   refine ⟨?_, ?_⟩
   ·
    refine R_alloc (z := [.slice none 0 0, .slice none 0 0]) (by simp (disch := first | omega | (simp only [List.length_map, List.length_append, List.length_set, List.length_cons, List.length_nil]; omega)) only [go_sem, ↓reduceIte, Nat.reduceEqDiff, reduceCtorEq] <;> rfl) rfl (H' := _ ++ [some [nilP, nilP]]) rfl ?_
    refine R_makeSlice (ms25 _ _ n _ _ _ (by omega) (by omega) (by simp (disch := first | omega | (simp only [List.length_map, List.length_append, List.length_set, List.length_cons, List.length_nil]; omega)) only [go_sem, ↓reduceIte, Nat.reduceEqDiff, reduceCtorEq]) (by simp (disch := first | omega | (simp only [List.length_map, List.length_append, List.length_set, List.length_cons, List.length_nil]; omega)) only [go_sem, ↓reduceIte, Nat.reduceEqDiff, reduceCtorEq])) ?_
    refine Rcall ?_
    refine ACall_eq (cloneO_ok _ _ bl i Q L (by first | exact qL | exact snoc_at qL | exact snoc_at (snoc_at qL)) hLQ hi (by omega)) ?_
    refine R_q rfl (by simp (disch := first | omega | (simp only [List.length_map, List.length_append, List.length_set, List.length_cons, List.length_nil]; omega)) only [go_sem, ↓reduceIte, Nat.reduceEqDiff, reduceCtorEq]; exact bld27 rfl rfl) ?_
    refine R_end ?_
    refine ⟨[1, 0], by simp [hset], by simp [hset], by simp [hset], by decide, by decide, by decide, ?_, ?_⟩
    · intro t ht
      simp only [List.mem_cons, List.not_mem_nil, or_false] at ht
      rcases ht with rfl | rfl
      · simp only [get_cons, put_some, ↓reduceIte, Nat.reduceEqDiff, ren_os, ren_oo, ren_p8, List.length_append, List.length_cons, List.length_nil, hset, List.length_set, Nat.zero_add, Nat.add_assoc, Nat.reduceAdd, rnB_add, rnB_zero]
        first | done | rfl
      · simp only [get_cons, put_some, ↓reduceIte, Nat.reduceEqDiff, ren_os, ren_oo, ren_p8, List.length_append, List.length_cons, List.length_nil, hset, List.length_set, Nat.zero_add, Nat.add_assoc, Nat.reduceAdd, rnB_add, rnB_zero]
        first | done | rfl
    · intro k hk
      simp only [List.mem_cons, List.not_mem_nil, or_false] at hk
      rcases hk with rfl | rfl <;> first | (simp [hget, hset, ints_ren, prs_ren]; done) | (simp [hget, hset, ints_ren, prs_ren, ren])
   refine ⟨?_, ?_⟩
   ·
    refine R_alloc (z := [.slice none 0 0, .slice none 0 0]) (by simp (disch := first | omega | (simp only [List.length_map, List.length_append, List.length_set, List.length_cons, List.length_nil]; omega)) only [go_sem, ↓reduceIte, Nat.reduceEqDiff, reduceCtorEq] <;> rfl) rfl (H' := _ ++ [some [nilP, nilP]]) rfl ?_
    refine Rcall ?_
    refine ACall_eq (cloneO_ok _ _ bl i Q L (by first | exact qL | exact snoc_at qL | exact snoc_at (snoc_at qL)) hLQ hi (by omega)) ?_
    refine R_makeSlice (ms25 _ _ n _ _ _ (by omega) (by omega) (by simp (disch := first | omega | (simp only [List.length_map, List.length_append, List.length_set, List.length_cons, List.length_nil]; omega)) only [go_sem, ↓reduceIte, Nat.reduceEqDiff, reduceCtorEq]) (by simp (disch := first | omega | (simp only [List.length_map, List.length_append, List.length_set, List.length_cons, List.length_nil]; omega)) only [go_sem, ↓reduceIte, Nat.reduceEqDiff, reduceCtorEq])) ?_
    refine R_q rfl (by simp (disch := first | omega | (simp only [List.length_map, List.length_append, List.length_set, List.length_cons, List.length_nil]; omega)) only [go_sem, ↓reduceIte, Nat.reduceEqDiff, reduceCtorEq]; exact bld27 rfl rfl) ?_
    refine R_end ?_
    refine ⟨[1, 0], by simp [hset], by simp [hset], by simp [hset], by decide, by decide, by decide, ?_, ?_⟩
    · intro t ht
      simp only [List.mem_cons, List.not_mem_nil, or_false] at ht
      rcases ht with rfl | rfl
      · simp only [get_cons, put_some, ↓reduceIte, Nat.reduceEqDiff, ren_os, ren_oo, ren_p8, List.length_append, List.length_cons, List.length_nil, hset, List.length_set, Nat.zero_add, Nat.add_assoc, Nat.reduceAdd, rnB_add, rnB_zero]
        first | done | rfl
      · simp only [get_cons, put_some, ↓reduceIte, Nat.reduceEqDiff, ren_os, ren_oo, ren_p8, List.length_append, List.length_cons, List.length_nil, hset, List.length_set, Nat.zero_add, Nat.add_assoc, Nat.reduceAdd, rnB_add, rnB_zero]
        first | done | rfl
    · intro k hk
      simp only [List.mem_cons, List.not_mem_nil, or_false] at hk
      rcases hk with rfl | rfl <;> first | (simp [hget, hset, ints_ren, prs_ren]; done) | (simp [hget, hset, ints_ren, prs_ren, ren])
   exact trivial
  rewrite [keep_two]
  refine Rp_env (e' := [(28, _), (10, _), (24, .any), (25, .any), (26, .any), (27, .any), (28, .any), (10, .any), (0, _), (1, _), (2, _), (6, _), (7, _), (8, _), (9, _), (10, _), (12, _), (13, _), (21, _), (29, _), (30, _), (31, _), (32, _), (46, _)]) rfl ?_
  simp only [put_some, get_cons, ↓reduceIte, Nat.reduceEqDiff]
  have q6 := (two_low (A := some ((List.replicate n.toNat (0 : Int)).map AV.i)) (B := some [nilP, nilP]) (hget_lt q6)).trans q6
  have qP := two_0 H1 (some ((List.replicate n.toNat (0 : Int)).map AV.i)) (some [nilP, nilP])
  have q10 := two_1 H1 (some ((List.replicate n.toNat (0 : Int)).map AV.i)) (some [nilP, nilP])
  have eHN : (H1 ++ [some ((List.replicate n.toNat (0 : Int)).map AV.i)] ++ [some [nilP, nilP]]).length = H1.length + 2 := by simp
  simp only [List.length_append, List.length_cons, List.length_nil, Nat.zero_add]
  obtain ⟨bP, hbP⟩ : ∃ b, b = H1.length := ⟨_, rfl⟩
  obtain ⟨bR, hbR⟩ : ∃ b, b = H1.length + 1 := ⟨_, rfl⟩
  generalize H1 ++ [some ((List.replicate n.toNat (0 : Int)).map AV.i)] ++ [some [nilP, nilP]] = HN at q6 qP q10 eHN ⊢
  rewrite [← hbP] at qP
  rewrite [← hbR] at q10
  rewrite [← hbR, ← hbP]
  have lq6 := hget_lt q6
  have lq10 := hget_lt q10
  have lqP := hget_lt qP
  refine A_store ty36 (by simp (disch := first | omega | (simp only [List.length_map, List.length_append, List.length_set, List.length_cons, List.length_nil]; omega)) only [go_sem, ↓reduceIte, Nat.reduceEqDiff, reduceCtorEq, q6, q10, qP] <;> rfl) (by simp (disch := first | omega | (simp only [List.length_map, List.length_append, List.length_set, List.length_cons, List.length_nil]; omega)) only [go_sem, ↓reduceIte, Nat.reduceEqDiff, reduceCtorEq, q6, q10, qP] <;> rfl) q10 ⟨by omega, rfl, by first | exact Nat.le_refl _ | simp⟩ (k' := [.own 1 bP 0 n.toNat, prsAV L]) rfl ?_
  intro H3 w1
  have ew1 := w1.len
  have q6 := (w1.old _ (by omega)).trans q6
  have qP := (w1.old _ (by omega)).trans qP
  have q10 := w1.new
  have tr : ∀ a b c d e f g h i j k m n o p q r s t u v w x y : AV, let l := lc_raceofX_ok a b c d e f g h i j k m n o p q; trim ((28,y)::(10,x)::(24,w)::(25,v)::(26,u)::(27,t)::(28,s)::(10,r)::l) l = lc_raceofX_ok a b c d e f g x i j k m n o p q := by intros; rfl
  refine R_nil (tr ..) ?_; clear tr
  refine then_n ?_
  refine at_seq rfl ?_
  refine at_seq rfl ?_
  refine rg rfl ?_
  refine Rq ?_
  refine Rq ?_
  refine Rq ?_
  have tr : ∀ a b c d e f g h i j k m n o p q r s t : AV, let l := lc_raceofX_ok a b c d e f g h i j k m n o p q; trim ((31,t)::(30,s)::(29,r)::l) l = lc_raceofX_ok a b c d e f g h i j k r s t p q := by intros; rfl
  refine R_nil (tr ..) ?_; clear tr
  refine then_n ?_
  refine at_block rfl ?_
  refine loop_n rfl (fun mm kv H' => ∃ u : Nat, ∃ x12 x32 : AV, (kv = [(12, x12), (31, AV.i (u : Int)), (32, x32)]) ∧ (mm = zs.length - u) ∧ (hget H' H.length = some [nilP, nilP]) ∧ (hget H' bR = some [.own 1 bP 0 n.toNat, prsAV L]) ∧ (hget H' bP = some ((ptsN n.toNat zs u).map AV.i)) ∧ (u ≤ zs.length) ∧ (HN.length ≤ H'.length)) ⟨0, _, _, rfl, rfl, by exact q6, by exact q10, by exact qP, by omega, by omega⟩ (by rfl) ?_
  rintro mm kv HB ⟨u, x12, x32, rfl, rfl, q6, q10, qP, hu, hHB⟩
  have tr : ∀ a b c d e f g h i j k m n o p q r s t : AV, upd (lc_raceofX_ok a b c d e f g h i j k m n o p q) [(12,r),(31,s),(32,t)] = lc_raceofX_ok a b c d e f g h r j k m n s t q := by intros; rfl
  refine W_to (tr ..) ?_; clear tr
  refine at_seq rfl ?_
  refine rg rfl ?_
  refine Rq ?_
  have tr : ∀ a b c d e f g h i j k m n o p q r : AV, let l := lc_raceofX_ok a b c d e f g h i j k m n o p q; trim ((32,r)::l) l = lc_raceofX_ok a b c d e f g h i j k m n o r q := by intros; rfl
  refine R_nil (tr ..) ?_; clear tr
  refine then_n ?_
  refine at_seq rfl ?_
  refine cdd (fun h2 => ?_) (fun h2 => ?_)
  ·
   try simp only [decide_eq_true_eq, decide_eq_false_iff_not, Bool.not_eq_true', Bool.not_eq_false', beq_iff_eq, beq_eq_false_iff_ne, ne_eq] at h2
   refine at_skip rfl ?_
   refine then_n ?_
   refine at_seq rfl ?_
   refine at_block rfl ?_
   refine at_seq rfl ?_
   refine rg rfl ?_
   refine Rq ?_
   refine R_q rfl (by simp (disch := first | omega | (simp only [List.length_map, List.length_append, List.length_set, List.length_cons, List.length_nil]; omega)) only [go_sem, ↓reduceIte, Nat.reduceEqDiff, reduceCtorEq, q6, q10, qP, q12] <;> rfl) ?_
   refine A_alloc rfl ?_
   intro H4 n2
   have en2 := n2.len
   have q6 := (n2.old _ (hget_lt q6)).trans q6
   have q10 := (n2.old _ (hget_lt q10)).trans q10
   have qP := (n2.old _ (hget_lt qP)).trans qP
   have q12 := n2.new
   have lq6 := hget_lt q6
   have lq10 := hget_lt q10
   have lqP := hget_lt qP
   have lq12 := hget_lt q12
   refine A_store ty51 (by simp (disch := first | omega | (simp only [List.length_map, List.length_append, List.length_set, List.length_cons, List.length_nil]; omega)) only [go_sem, ↓reduceIte, Nat.reduceEqDiff, reduceCtorEq, q6, q10, qP, q12] <;> rfl) (by simp (disch := first | omega | (simp only [List.length_map, List.length_append, List.length_set, List.length_cons, List.length_nil]; omega)) only [go_sem, ↓reduceIte, Nat.reduceEqDiff, reduceCtorEq, q6, q10, qP, q12] <;> rfl) q12 ⟨by omega, rfl, Nat.le_refl 10⟩ (k' := stL (gz zs u)) rfl ?_
   intro H5 w2
   have ew2 := w2.len
   have q6 := (w2.old _ (by omega)).trans q6
   have q10 := (w2.old _ (by omega)).trans q10
   have qP := (w2.old _ (by omega)).trans qP
   have q12 := w2.new
   have tr : ∀ a b c d e f g h i j k m n o p q r s t : AV, let l := lc_raceofX_ok a b c d e f g h i j k m n o p q; trim ((12,t)::(34,s)::(33,r)::l) l = lc_raceofX_ok a b c d e f g h t j k m n o p q := by intros; rfl
   refine R_nil (tr ..) ?_; clear tr
   refine then_n ?_
   refine rg rfl ?_
   have hut := hzt u (by omega)
   have hpl := pts_len n.toNat zs u
   refine Rq ?_
   refine R_q rfl (by simp (disch := first | omega | (simp only [List.length_map, List.length_append, List.length_set, List.length_cons, List.length_nil]; omega)) only [go_sem, ↓reduceIte, Nat.reduceEqDiff, reduceCtorEq, q6, q10, qP, q12] <;> rfl) ?_
   refine Rq ?_
   refine R_q rfl (by simp (disch := first | omega | (simp only [List.length_map, List.length_append, List.length_set, List.length_cons, List.length_nil]; omega)) only [go_sem, ↓reduceIte, Nat.reduceEqDiff, reduceCtorEq, q6, q10, qP, q12] <;> rfl) ?_
   refine Rq ?_
   refine R_q rfl (by simp (disch := first | omega | (simp only [List.length_map, List.length_append, List.length_set, List.length_cons, List.length_nil]; omega)) only [go_sem, ↓reduceIte, Nat.reduceEqDiff, reduceCtorEq, q6, q10, qP, q12] <;> rfl) ?_
   refine Rq ?_
   have lq6 := hget_lt q6
   have lq10 := hget_lt q10
   have lqP := hget_lt qP
   have lq12 := hget_lt q12
   refine A_store ty3 (by simp (disch := first | omega | (simp only [List.length_map, List.length_append, List.length_set, List.length_cons, List.length_nil]; omega)) only [go_sem, ↓reduceIte, Nat.reduceEqDiff, reduceCtorEq, q6, q10, qP, q12] <;> rfl) (by simp (disch := first | omega | (simp only [List.length_map, List.length_append, List.length_set, List.length_cons, List.length_nil]; omega)) only [go_sem, ↓reduceIte, Nat.reduceEqDiff, reduceCtorEq, q6, q10, qP, q12] <;> rfl) qP ⟨by omega, rfl, by simp only [List.length_map, pts_len]; omega⟩ (k' := (ptsN n.toNat zs (u + 1)).map AV.i) (by rw [setL_map]; rfl) ?_
   intro H6 w3
   have ew3 := w3.len
   have q6 := (w3.old _ (by omega)).trans q6
   have q10 := (w3.old _ (by omega)).trans q10
   have q12 := (w3.old _ (by omega)).trans q12
   have qP := w3.new
   have tr : ∀ a b c d e f g h i j k m n o p q r s t u v w x : AV, let l := lc_raceofX_ok a b c d e f g h i j k m n o p q; trim ((41,x)::(40,w)::(39,v)::(38,u)::(37,t)::(36,s)::(35,r)::l) l = lc_raceofX_ok a b c d e f g h i j k m n o p q := by intros; rfl
   refine R_nil (tr ..) ?_; clear tr
   refine blk_n ?_
   refine then_n ?_
   refine rg rfl ?_
   refine Rq ?_
   refine Rq ?_
   have tr : ∀ a b c d e f g h i j k m n o p q r s : AV, let l := lc_raceofX_ok a b c d e f g h i j k m n o p q; trim ((31,s)::(42,r)::l) l = lc_raceofX_ok a b c d e f g h i j k m n s p q := by intros; rfl
   refine R_nil (tr ..) ?_; clear tr
   refine then_n ?_
   exact ⟨_, _, ⟨u + 1, _, _, rfl, rfl, by exact q6, by exact q10, by exact qP, by omega, by (show HN.length ≤ H6.length; omega)⟩, by rfl, by omega⟩
  ·
   try simp only [decide_eq_true_eq, decide_eq_false_iff_not, Bool.not_eq_true', Bool.not_eq_false', beq_iff_eq, beq_eq_false_iff_ne, ne_eq] at h2
   refine at_exit rfl ?_
   refine then_x ?_
   refine then_x ?_
   refine blk_x ?_
   refine then_n ?_
   refine at_seq rfl ?_
   refine at_seq rfl ?_
   refine rg rfl ?_
   obtain rfl : u = zs.length := by omega
   refine R_q rfl (by simp (disch := first | omega | (simp only [List.length_map, List.length_append, List.length_set, List.length_cons, List.length_nil]; omega)) only [go_sem, ↓reduceIte, Nat.reduceEqDiff, reduceCtorEq, q6, q10, qP, q12] <;> rfl) ?_
   refine Rcall ?_
   refine ACall_eq (chk53_x _ _ (ptsN n.toNat zs zs.length) L _ (frz_of L qP (pts_len ..).symm)) ?_
   refine Rq ?_
   have tr : ∀ a b c d e f g h i j k m n o p q r s t : AV, let l := lc_raceofX_ok a b c d e f g h i j k m n o p q; trim ((13,t)::(44,s)::(43,r)::l) l = lc_raceofX_ok a b c d e f g h i t k m n o p q := by intros; rfl
   refine R_nil (tr ..) ?_; clear tr
   refine then_n ?_
   refine at_seq rfl ?_
   refine rg rfl ?_
   refine Rq ?_
   refine Rq ?_
   have tr : ∀ a b c d e f g h i j k m n o p q r s : AV, let l := lc_raceofX_ok a b c d e f g h i j k m n o p q; trim ((46,s)::(45,r)::l) l = lc_raceofX_ok a b c d e f g h i j k m n o p s := by intros; rfl
   refine R_nil (tr ..) ?_; clear tr
   refine then_n ?_
   refine cdd (fun h3 => ?_) (fun h3 => ?_)
   ·
    try simp only [decide_eq_true_eq, decide_eq_false_iff_not, Bool.not_eq_true', Bool.not_eq_false', beq_iff_eq, beq_eq_false_iff_ne, ne_eq] at h3
    refine at_seq rfl ?_
    refine rg rfl ?_
    refine Rq ?_
    refine Rq ?_
    have lq6 := hget_lt q6
    have lq10 := hget_lt q10
    have lqP := hget_lt qP
    refine A_store ty36 (by simp (disch := first | omega | (simp only [List.length_map, List.length_append, List.length_set, List.length_cons, List.length_nil]; omega)) only [go_sem, ↓reduceIte, Nat.reduceEqDiff, reduceCtorEq, q6, q10, qP] <;> rfl) (by simp (disch := first | omega | (simp only [List.length_map, List.length_append, List.length_set, List.length_cons, List.length_nil]; omega)) only [go_sem, ↓reduceIte, Nat.reduceEqDiff, reduceCtorEq, q6, q10, qP] <;> rfl) q6 ⟨by omega, rfl, by first | exact Nat.le_refl _ | simp⟩ (k' := [nilP, nilP]) rfl ?_
    intro HE wE
    have ewE := wE.len
    have q10 := (wE.old _ (by omega)).trans q10
    have qP := (wE.old _ (by omega)).trans qP
    have q6 := wE.new
    refine Rq ?_
    have tr : ∀ a b c d e f g h i j k m n o p q r s t : AV, let l := lc_raceofX_ok a b c d e f g h i j k m n o p q; trim ((7,t)::(48,s)::(47,r)::l) l = lc_raceofX_ok a b c d t f g h i j k m n o p q := by intros; rfl
    refine R_nil (tr ..) ?_; clear tr
    refine then_n ?_
    refine at_ret rfl ?_
    refine then_r ?_
    refine fin_pure (rs := [.cell 6 36, .tmp 7]) rfl (by simp (disch := first | omega | (simp only [List.length_map, List.length_append, List.length_set, List.length_cons, List.length_nil]; omega)) only [go_sem, ↓reduceIte, Nat.reduceEqDiff, reduceCtorEq, q6] <;> rfl) (v := .tup [.agg [nilP, nilP], AV.i (rchkS (ptsN n.toNat zs zs.length) L)]) (by rfl) ?_
    refine ⟨?_, rfl⟩
    rw [(of_2 hzs hc (by assumption)).1, (of_2 hzs hc (by assumption)).2]
   ·
    try simp only [decide_eq_true_eq, decide_eq_false_iff_not, Bool.not_eq_true', Bool.not_eq_false', beq_iff_eq, beq_eq_false_iff_ne, ne_eq] at h3
    refine at_skip rfl ?_
    refine then_n ?_
    refine at_seq rfl ?_
    refine rg rfl ?_
    refine R_q rfl (by simp (disch := first | omega | (simp only [List.length_map, List.length_append, List.length_set, List.length_cons, List.length_nil]; omega)) only [go_sem, ↓reduceIte, Nat.reduceEqDiff, reduceCtorEq, q6, q10, qP, q12] <;> rfl) ?_
    have lq6 := hget_lt q6
    have lq10 := hget_lt q10
    have lqP := hget_lt qP
    refine A_store ty36 (by simp (disch := first | omega | (simp only [List.length_map, List.length_append, List.length_set, List.length_cons, List.length_nil]; omega)) only [go_sem, ↓reduceIte, Nat.reduceEqDiff, reduceCtorEq, q6, q10, qP] <;> rfl) (by simp (disch := first | omega | (simp only [List.length_map, List.length_append, List.length_set, List.length_cons, List.length_nil]; omega)) only [go_sem, ↓reduceIte, Nat.reduceEqDiff, reduceCtorEq, q6, q10, qP] <;> rfl) q6 ⟨by omega, rfl, by first | exact Nat.le_refl _ | simp⟩ (k' := [.own 1 bP 0 n.toNat, prsAV L]) rfl ?_
    intro HE wE
    have ewE := wE.len
    have q10 := (wE.old _ (by omega)).trans q10
    have qP := (wE.old _ (by omega)).trans qP
    have q6 := wE.new
    refine Rq ?_
    have tr : ∀ a b c d e f g h i j k m n o p q r s : AV, let l := lc_raceofX_ok a b c d e f g h i j k m n o p q; trim ((7,s)::(49,r)::l) l = lc_raceofX_ok a b c d s f g h i j k m n o p q := by intros; rfl
    refine R_nil (tr ..) ?_; clear tr
    refine then_n ?_
    refine at_ret rfl ?_
    refine fin_pure (rs := [.cell 6 36, .tmp 7]) rfl (by simp (disch := first | omega | (simp only [List.length_map, List.length_append, List.length_set, List.length_cons, List.length_nil]; omega)) only [go_sem, ↓reduceIte, Nat.reduceEqDiff, reduceCtorEq, q6] <;> rfl) (v := .tup [.agg (raceC (ptsN n.toNat zs zs.length) L), AV.i 0]) (by show AV.tup [frz _ _ 7 _, AV.i 0] = _; rw [frz_ofb L qP (by omega) (pts_len ..).symm]) ?_
    refine ⟨?_, rfl⟩
    rw [(of_3 hzs hc (by assumption)).1, (of_3 hzs hc (by assumption)).2]

end Go.Proofs.Ytdmeioppkannlaa
end
section
set_option linter.unusedVariables false
namespace Go.Proofs.Ytdmeioppkannlaa
open Go Go.Am
theorem frz_race (H : Heap) (P : List Int) (L : List Pr) : frz H 0 8 (.agg (raceC P L)) = .agg (raceC P L) := by
  show AV.agg [AV.sl _ ((P.map AV.i).map (frz H 0 6)), AV.sl _ ((flatQ L).map (frz H 0 6))] = _
  rw [frz_ints, frz_prs]
end Go.Proofs.Ytdmeioppkannlaa
end
section
set_option linter.unusedVariables false
namespace Go.Proofs.Ytdmeioppkannlaa
open Go Go.Am
theorem chk53_ok (lim : Nat) (H : Heap) (P : List Int) (L : List Pr) : ACall sig lim 13 [.agg (raceC P L)] H fun r H' => r = AV.i (rchkS P L) ∧ H' = H :=
  chk53_x lim H P L _ (frz_race H P L)
end Go.Proofs.Ytdmeioppkannlaa
end
section
set_option linter.unusedSimpArgs false
set_option linter.unusedVariables false
set_option maxHeartbeats 40000000
set_option maxRecDepth 4000
namespace Go.Proofs.Ytdmeioppkannlaa
open Go Go.Am

abbrev lc_most_ok (a b c d e f g h i j k : AV) : Env := [(0,a),(1,b),(2,c),(4,d),(5,e),(7,f),(14,g),(15,h),(16,i),(17,j),(29,k)]
theorem most_x (lim : Nat) (H : Heap) (P : List Int) (L : List Pr) (t : Int) (g : ROK P L) (ht0 : 0 ≤ t) (ht1 : t < P.length) (x : AV) (hx : frz H 0 8 x = .agg (raceC P L)) :
    ACall sig lim 18 [x, AV.i t] H fun r H' => r = AV.i (mostN P L t L.length) ∧ H' = H := by
 have hp := g.pt t.toNat (by omega)
 have hel := g.el
 have hargs : [x, AV.i t].map (frz H 0 8) = [.agg (raceC P L), AV.i t] := by
  show [frz H 0 8 x, AV.i t] = _
  rw [hx]
 refine ACall_data (fa := fa18) rfl rfl rfl rfl hargs ?_
 have tr : ∀ a0 a1 : AV, env0 fa18.keep [a0, a1] = lc_most_ok a0 a1 .any .any .any .any .any .any .any .any .any := fun a0 a1 => rfl
 refine W_to (tr _ _) ?_; clear tr
 refine at_seq rfl ?_
 refine rg rfl ?_
 refine R_box rfl (by simp (disch := first | omega | (simp only [List.length_map, List.length_append, List.length_set, List.length_cons, List.length_nil]; omega)) only [go_sem, ↓reduceIte, Nat.reduceEqDiff, reduceCtorEq] <;> rfl) rfl rfl ?_
 refine Rq ?_
 have tr : ∀ a b c d e f g h i j k m n : AV, let l := lc_most_ok a b c d e f g h i j k; trim ((4,n)::(2,m)::l) l = lc_most_ok a b m n e f g h i j k := by intros; rfl
 refine R_nil (tr ..) ?_; clear tr
 refine then_n ?_
 refine at_seq rfl ?_
 refine rg rfl ?_
 refine Rq ?_
 refine Rq ?_
 refine Rq ?_
 refine Rq ?_
 refine Rq ?_
 refine Rq ?_
 have tr : ∀ a b c d e f g h i j k m n o p q r : AV, let l := lc_most_ok a b c d e f g h i j k; trim ((5,r)::(12,q)::(11,p)::(10,o)::(9,n)::(8,m)::l) l = lc_most_ok a b c d r f g h i j k := by intros; rfl
 refine R_nil (tr ..) ?_; clear tr
 refine then_n ?_
 refine at_seq rfl ?_
 refine at_seq rfl ?_
 refine rg rfl ?_
 refine Rq ?_
 refine Rq ?_
 refine Rq ?_
 refine Rq ?_
 have tr : ∀ a b c d e f g h i j k m n o p : AV, let l := lc_most_ok a b c d e f g h i j k; trim ((16,p)::(15,o)::(14,n)::(13,m)::l) l = lc_most_ok a b c d e f n o p j k := by intros; rfl
 refine R_nil (tr ..) ?_; clear tr
 refine then_n ?_
 refine at_block rfl ?_
 refine loop_n rfl (fun mm kv H' => ∃ u : Nat, ∃ c : Int, ∃ X : Heap, ∃ x7 x17 x29 : AV, (kv = [(5, AV.i c), (7, x7), (16, AV.i u), (17, x17), (29, x29)]) ∧ (mm = L.length - u) ∧ (H' = [] ++ [some (raceC P L)] ++ X) ∧ (u ≤ L.length) ∧ (c = mostN P L t u)) ⟨0, (gt P t.toNat), [], _, _, _, rfl, rfl, by simp, by omega, by rfl⟩ (by rfl) ?_
 rintro mm kv H1 ⟨u, c, X, x7, x17, x29, rfl, rfl, hX, hu, hc⟩
 have tr : ∀ a b c d e f g h i j k m n o p q : AV, upd (lc_most_ok a b c d e f g h i j k) [(5,m),(7,n),(16,o),(17,p),(29,q)] = lc_most_ok a b c d m n g h o p q := by intros; rfl
 refine W_to (tr ..) ?_; clear tr
 subst hX
 have hmr := most_rng (L := L) hp.1 hp.2 u
 refine at_seq rfl ?_
 refine rg rfl ?_
 refine Rq ?_
 have tr : ∀ a b c d e f g h i j k m : AV, let l := lc_most_ok a b c d e f g h i j k; trim ((17,m)::l) l = lc_most_ok a b c d e f g h i m k := by intros; rfl
 refine R_nil (tr ..) ?_; clear tr
 refine then_n ?_
 refine at_seq rfl ?_
 refine cdd (fun h1 => ?_) (fun h1 => ?_)
 ·
  try simp only [decide_eq_true_eq, decide_eq_false_iff_not, Bool.not_eq_true', Bool.not_eq_false', beq_iff_eq, beq_eq_false_iff_ne, ne_eq] at h1
  refine at_skip rfl ?_
  refine then_n ?_
  refine at_seq rfl ?_
  refine at_block rfl ?_
  refine at_seq rfl ?_
  refine rg rfl ?_
  refine Rq ?_
  refine Rq ?_
  refine R_alloc (by simp (disch := first | omega | (simp only [List.length_map, List.length_append, List.length_set, List.length_cons, List.length_nil]; omega)) only [go_sem, ↓reduceIte, Nat.reduceEqDiff, reduceCtorEq] <;> rfl) rfl (by simp only [List.map_cons, List.map_nil]; rfl) ?_
  refine R_store ty31 (by simp (disch := first | omega | (simp only [List.length_map, List.length_append, List.length_set, List.length_cons, List.length_nil]; omega)) only [go_sem, ↓reduceIte, Nat.reduceEqDiff, reduceCtorEq] <;> rfl) (by simp (disch := first | omega | (simp only [List.length_map, List.length_append, List.length_set, List.length_cons, List.length_nil]; omega)) only [go_sem, ↓reduceIte, Nat.reduceEqDiff, reduceCtorEq] <;> rfl) (by simp (disch := first | omega | (simp only [List.length_map, List.length_append, List.length_set, List.length_cons, List.length_nil]; omega)) only [go_sem, ↓reduceIte, Nat.reduceEqDiff, reduceCtorEq] <;> rfl) (by simp) (by rfl) (by simp (disch := first | omega | (simp only [List.length_map, List.length_append, List.length_set, List.length_cons, List.length_nil]; omega)) only [go_sem, ↓reduceIte, Nat.reduceEqDiff, reduceCtorEq] <;> rfl) ?_
  have tr : ∀ a b c d e f g h i j k m n o : AV, let l := lc_most_ok a b c d e f g h i j k; trim ((7,o)::(19,n)::(18,m)::l) l = lc_most_ok a b c d e o g h i j k := by intros; rfl
  refine R_nil (tr ..) ?_; clear tr
  refine then_n ?_
  refine at_seq rfl ?_
  refine rg rfl ?_
  refine Rq ?_
  refine Rq ?_
  refine Rq ?_
  refine Rq ?_
  refine Rq ?_
  refine Rp_split (fun h2 => ?_) (fun h2 => ?_)
  ·
   try simp only [decide_eq_true_eq, decide_eq_false_iff_not, Bool.not_eq_true', Bool.not_eq_false', beq_iff_eq, beq_eq_false_iff_ne, ne_eq] at h2
   refine Rn ?_
   refine Rn ?_
   refine Rn ?_
   refine Rn ?_
   refine Rq ?_
   have tr : ∀ a b c d e f g h i j k m n o p q r s t u v : AV, let l := lc_most_ok a b c d e f g h i j k; trim ((29,v)::(28,u)::(27,t)::(26,s)::(25,r)::(24,q)::(23,p)::(22,o)::(21,n)::(20,m)::l) l = lc_most_ok a b c d e f g h i j v := by intros; rfl
   refine R_nil (tr ..) ?_; clear tr
   refine then_n ?_
   refine cdt ?_
   refine rg rfl ?_
   refine Rq ?_
   refine Rq ?_
   refine Rq ?_
   have tr : ∀ a b c d e f g h i j k m n o : AV, let l := lc_most_ok a b c d e f g h i j k; trim ((5,o)::(31,n)::(30,m)::l) l = lc_most_ok a b c d o f g h i j k := by intros; rfl
   refine R_nil (tr ..) ?_; clear tr
   refine blk_n ?_
   refine then_n ?_
   refine rg rfl ?_
   refine Rq ?_
   refine Rq ?_
   have tr : ∀ a b c d e f g h i j k m n : AV, let l := lc_most_ok a b c d e f g h i j k; trim ((16,n)::(32,m)::l) l = lc_most_ok a b c d e f g h n j k := by intros; rfl
   refine R_nil (tr ..) ?_; clear tr
   refine then_n ?_
   exact ⟨_, _, ⟨u + 1, (c + 2), X ++ [some (prC (gt L u))], _, _, _, rfl, rfl, by simp <;> rfl, by omega, by rw [mostN, hc]; first | rw [if_pos (by omega)] | rw [if_neg (by omega)]⟩, by rfl, by omega⟩
  ·
   try simp only [decide_eq_true_eq, decide_eq_false_iff_not, Bool.not_eq_true', Bool.not_eq_false', beq_iff_eq, beq_eq_false_iff_ne, ne_eq] at h2
   refine Ry ?_
   refine Rq ?_
   refine Ry ?_
   refine Rq ?_
   refine Ry ?_
   refine Rq ?_
   refine Ry ?_
   refine Rq ?_
   refine Rq ?_
   have tr : ∀ a b c d e f g h i j k m n o p q r s t u v : AV, let l := lc_most_ok a b c d e f g h i j k; trim ((29,v)::(28,u)::(27,t)::(26,s)::(25,r)::(24,q)::(23,p)::(22,o)::(21,n)::(20,m)::l) l = lc_most_ok a b c d e f g h i j v := by intros; rfl
   refine R_nil (tr ..) ?_; clear tr
   refine then_n ?_
   refine cdd (fun h3 => ?_) (fun h3 => ?_)
   ·
    try simp only [decide_eq_true_eq, decide_eq_false_iff_not, Bool.not_eq_true', Bool.not_eq_false', beq_iff_eq, beq_eq_false_iff_ne, ne_eq] at h3
    refine rg rfl ?_
    refine Rq ?_
    refine Rq ?_
    refine Rq ?_
    have tr : ∀ a b c d e f g h i j k m n o : AV, let l := lc_most_ok a b c d e f g h i j k; trim ((5,o)::(31,n)::(30,m)::l) l = lc_most_ok a b c d o f g h i j k := by intros; rfl
    refine R_nil (tr ..) ?_; clear tr
    refine blk_n ?_
    refine then_n ?_
    refine rg rfl ?_
    refine Rq ?_
    refine Rq ?_
    have tr : ∀ a b c d e f g h i j k m n : AV, let l := lc_most_ok a b c d e f g h i j k; trim ((16,n)::(32,m)::l) l = lc_most_ok a b c d e f g h n j k := by intros; rfl
    refine R_nil (tr ..) ?_; clear tr
    refine then_n ?_
    exact ⟨_, _, ⟨u + 1, (c + 2), X ++ [some (prC (gt L u))], _, _, _, rfl, rfl, by simp <;> rfl, by omega, by rw [mostN, hc]; first | rw [if_pos (by omega)] | rw [if_neg (by omega)]⟩, by rfl, by omega⟩
   ·
    try simp only [decide_eq_true_eq, decide_eq_false_iff_not, Bool.not_eq_true', Bool.not_eq_false', beq_iff_eq, beq_eq_false_iff_ne, ne_eq] at h3
    refine at_skip rfl ?_
    refine blk_n ?_
    refine then_n ?_
    refine rg rfl ?_
    refine Rq ?_
    refine Rq ?_
    have tr : ∀ a b c d e f g h i j k m n : AV, let l := lc_most_ok a b c d e f g h i j k; trim ((16,n)::(32,m)::l) l = lc_most_ok a b c d e f g h n j k := by intros; rfl
    refine R_nil (tr ..) ?_; clear tr
    refine then_n ?_
    exact ⟨_, _, ⟨u + 1, c, X ++ [some (prC (gt L u))], _, _, _, rfl, rfl, by simp <;> rfl, by omega, by rw [mostN, hc]; first | rw [if_pos (by omega)] | rw [if_neg (by omega)]⟩, by rfl, by omega⟩
 ·
  try simp only [decide_eq_true_eq, decide_eq_false_iff_not, Bool.not_eq_true', Bool.not_eq_false', beq_iff_eq, beq_eq_false_iff_ne, ne_eq] at h1
  refine at_exit rfl ?_
  refine then_x ?_
  refine then_x ?_
  refine blk_x ?_
  refine then_n ?_
  refine at_seq rfl ?_
  refine rg rfl ?_
  refine Rq ?_
  refine Rq ?_
  have tr : ∀ a b c d e f g h i j k m n : AV, let l := lc_most_ok a b c d e f g h i j k; trim ((4,n)::(33,m)::l) l = lc_most_ok a b c n e f g h i j k := by intros; rfl
  refine R_nil (tr ..) ?_; clear tr
  refine then_n ?_
  refine at_ret rfl ?_
  refine fpure ?_
  refine ⟨rfl, ?_, rfl⟩
  rw [hc, show L.length = u by omega]

theorem most_ok (lim : Nat) (H : Heap) (P : List Int) (L : List Pr) (t : Int) (g : ROK P L) (ht0 : 0 ≤ t) (ht1 : t < P.length) :
    ACall sig lim 18 [.agg (raceC P L), AV.i t] H fun r H' => r = AV.i (mostN P L t L.length) ∧ H' = H :=
  most_x lim H P L t g ht0 ht1 _ (frz_race H P L)

end Go.Proofs.Ytdmeioppkannlaa
end
section
set_option linter.unusedSimpArgs false
set_option linter.unusedVariables false
set_option maxHeartbeats 40000000
set_option maxRecDepth 4000
namespace Go.Proofs.Ytdmeioppkannlaa
open Go Go.Am

abbrev lc_mst_ok (a b c d e f g h : AV) : Env := [(0,a),(1,b),(2,c),(4,d),(5,e),(6,f),(10,g),(20,h)]
theorem mst_x (lim : Nat) (H : Heap) (P : List Int) (L : List Pr) (t : Int) (x : AV) (hx : frz H 0 8 x = .agg (raceC P L)) :
    ACall sig lim 14 [x, AV.i t] H fun r H' => r = .tup [AV.i (mostS P L t).1, AV.i (mostS P L t).2] ∧ H' = H := by
 have hargs : [x, AV.i t].map (frz H 0 8) = [.agg (raceC P L), AV.i t] := by
  show [frz H 0 8 x, AV.i t] = _
  rw [hx]
 refine ACall_data (fa := fa14) rfl rfl rfl rfl hargs ?_
 have tr : ∀ a0 a1 : AV, env0 fa14.keep [a0, a1] = lc_mst_ok a0 a1 .any .any .any .any .any .any := fun a0 a1 => rfl
 refine W_to (tr _ _) ?_; clear tr
 refine at_seq rfl ?_
 refine rg rfl ?_
 refine R_box rfl (by simp (disch := first | omega | (simp only [List.length_map, List.length_append, List.length_set, List.length_cons, List.length_nil]; omega)) only [go_sem, ↓reduceIte, Nat.reduceEqDiff, reduceCtorEq] <;> rfl) rfl rfl ?_
 refine Rq ?_
 refine Rq ?_
 have tr : ∀ a b c d e f g h i j k : AV, let l := lc_mst_ok a b c d e f g h; trim ((5,k)::(4,j)::(2,i)::l) l = lc_mst_ok a b i j k f g h := by intros; rfl
 refine R_nil (tr ..) ?_; clear tr
 refine then_n ?_
 refine at_seq rfl ?_
 refine at_seq rfl ?_
 refine rg rfl ?_
 refine Rq ?_
 refine Rcall ?_
 refine ACall_eq (chk53_ok _ _ P L) ?_
 refine Rq ?_
 have tr : ∀ a b c d e f g h i j k : AV, let l := lc_mst_ok a b c d e f g h; trim ((6,k)::(8,j)::(7,i)::l) l = lc_mst_ok a b c d e k g h := by intros; rfl
 refine R_nil (tr ..) ?_; clear tr
 refine then_n ?_
 refine at_seq rfl ?_
 refine rg rfl ?_
 refine Rq ?_
 refine Rq ?_
 have tr : ∀ a b c d e f g h i j : AV, let l := lc_mst_ok a b c d e f g h; trim ((10,j)::(9,i)::l) l = lc_mst_ok a b c d e f j h := by intros; rfl
 refine R_nil (tr ..) ?_; clear tr
 refine then_n ?_
 refine cdd (fun h1 => ?_) (fun h1 => ?_)
 ·
  try simp only [decide_eq_true_eq, decide_eq_false_iff_not, Bool.not_eq_true', Bool.not_eq_false', beq_iff_eq, beq_eq_false_iff_ne, ne_eq] at h1
  refine at_seq rfl ?_
  refine rg rfl ?_
  refine Rq ?_
  refine Rq ?_
  refine Rq ?_
  have tr : ∀ a b c d e f g h i j k : AV, let l := lc_mst_ok a b c d e f g h; trim ((5,k)::(4,j)::(11,i)::l) l = lc_mst_ok a b c j k f g h := by intros; rfl
  refine R_nil (tr ..) ?_; clear tr
  refine then_n ?_
  refine at_ret rfl ?_
  refine then_r ?_
  refine fpure ?_
  refine ⟨rfl, ?_, rfl⟩
  rw [mostS, if_pos (by assumption)]
 ·
  try simp only [decide_eq_true_eq, decide_eq_false_iff_not, Bool.not_eq_true', Bool.not_eq_false', beq_iff_eq, beq_eq_false_iff_ne, ne_eq] at h1
  refine at_skip rfl ?_
  refine then_n ?_
  refine at_seq rfl ?_
  refine at_seq rfl ?_
  refine rg rfl ?_
  have g := rok_of (by assumption : rchkS P L = 0)
  refine Rq ?_
  refine Rq ?_
  refine Rq ?_
  refine Rp_split (fun h2 => ?_) (fun h2 => ?_)
  ·
   try simp only [decide_eq_true_eq, decide_eq_false_iff_not, Bool.not_eq_true', Bool.not_eq_false', beq_iff_eq, beq_eq_false_iff_ne, ne_eq] at h2
   refine Rn ?_
   refine Rn ?_
   refine Rn ?_
   refine Rn ?_
   refine Rn ?_
   refine Rq ?_
   have tr : ∀ a b c d e f g h i j k m n o p q r : AV, let l := lc_mst_ok a b c d e f g h; trim ((20,r)::(19,q)::(18,p)::(17,o)::(16,n)::(15,m)::(14,k)::(13,j)::(12,i)::l) l = lc_mst_ok a b c d e f g r := by intros; rfl
   refine R_nil (tr ..) ?_; clear tr
   refine then_n ?_
   refine cdt ?_
   refine at_seq rfl ?_
   refine rg rfl ?_
   refine Rq ?_
   refine Rq ?_
   have tr : ∀ a b c d e f g h i j : AV, let l := lc_mst_ok a b c d e f g h; trim ((5,j)::(4,i)::l) l = lc_mst_ok a b c i j f g h := by intros; rfl
   refine R_nil (tr ..) ?_; clear tr
   refine then_n ?_
   refine at_ret rfl ?_
   refine then_r ?_
   refine fpure ?_
   refine ⟨rfl, ?_, rfl⟩
   rw [mostS, if_neg (fun hh => hh (by assumption)), if_pos (by omega)]
  ·
   try simp only [decide_eq_true_eq, decide_eq_false_iff_not, Bool.not_eq_true', Bool.not_eq_false', beq_iff_eq, beq_eq_false_iff_ne, ne_eq] at h2
   refine Ry ?_
   refine Rq ?_
   refine Ry ?_
   refine Rq ?_
   refine Ry ?_
   refine Rq ?_
   refine Ry ?_
   refine Rq ?_
   refine Ry ?_
   refine Rq ?_
   refine Rq ?_
   have tr : ∀ a b c d e f g h i j k m n o p q r : AV, let l := lc_mst_ok a b c d e f g h; trim ((20,r)::(19,q)::(18,p)::(17,o)::(16,n)::(15,m)::(14,k)::(13,j)::(12,i)::l) l = lc_mst_ok a b c d e f g r := by intros; rfl
   refine R_nil (tr ..) ?_; clear tr
   refine then_n ?_
   refine cdd (fun h3 => ?_) (fun h3 => ?_)
   ·
    try simp only [decide_eq_true_eq, decide_eq_false_iff_not, Bool.not_eq_true', Bool.not_eq_false', beq_iff_eq, beq_eq_false_iff_ne, ne_eq] at h3
    refine at_seq rfl ?_
    refine rg rfl ?_
    refine Rq ?_
    refine Rq ?_
    have tr : ∀ a b c d e f g h i j : AV, let l := lc_mst_ok a b c d e f g h; trim ((5,j)::(4,i)::l) l = lc_mst_ok a b c i j f g h := by intros; rfl
    refine R_nil (tr ..) ?_; clear tr
    refine then_n ?_
    refine at_ret rfl ?_
    refine then_r ?_
    refine fpure ?_
    refine ⟨rfl, ?_, rfl⟩
    rw [mostS, if_neg (fun hh => hh (by assumption)), if_pos (by omega)]
   ·
    try simp only [decide_eq_true_eq, decide_eq_false_iff_not, Bool.not_eq_true', Bool.not_eq_false', beq_iff_eq, beq_eq_false_iff_ne, ne_eq] at h3
    refine at_skip rfl ?_
    refine then_n ?_
    refine at_seq rfl ?_
    refine rg rfl ?_
    refine Rq ?_
    refine Rq ?_
    refine Rcall ?_
    refine ACall_eq (most_ok _ _ P L t g (by omega) (by omega)) ?_
    refine Rq ?_
    refine Rq ?_
    have tr : ∀ a b c d e f g h i j k m n : AV, let l := lc_mst_ok a b c d e f g h; trim ((5,n)::(4,m)::(23,k)::(22,j)::(21,i)::l) l = lc_mst_ok a b c m n f g h := by intros; rfl
    refine R_nil (tr ..) ?_; clear tr
    refine then_n ?_
    refine at_ret rfl ?_
    refine fpure ?_
    refine ⟨rfl, ?_, rfl⟩
    rw [mostS, if_neg (fun hh => hh (by assumption)), if_neg (by omega)]

theorem mst_ok (lim : Nat) (H : Heap) (P : List Int) (L : List Pr) (t : Int) :
    ACall sig lim 14 [.agg (raceC P L), AV.i t] H fun r H' => r = .tup [AV.i (mostS P L t).1, AV.i (mostS P L t).2] ∧ H' = H :=
  mst_x lim H P L t _ (frz_race H P L)

end Go.Proofs.Ytdmeioppkannlaa
end
section
set_option linter.unusedSimpArgs false
set_option linter.unusedVariables false
set_option maxHeartbeats 40000000
set_option maxRecDepth 4000
namespace Go.Proofs.Ytdmeioppkannlaa
open Go Go.Am

abbrev lc_pairsown_ok (a b c d e f g h i j : AV) : Env := [(0,a),(2,b),(3,c),(5,d),(6,e),(7,f),(8,g),(9,h),(10,i),(18,j)]
theorem pairsown_ok (lim : Nat) (H : Heap) (bo : Nat) (L : List Pr) (qo : hget H bo = some (flatQ L)) (hL : L.length ≤ 400) :
    ACall sig lim 25 [.own 2 bo 0 L.length] H fun r H' => r = pairsA L ∧ H' = H := by
 have qx : True := trivial
 have qp : True := trivial
 have lo0 := hget_lt qo
 refine ACall_pure (fa := fa25) rfl rfl rfl rfl ?_
 have tr : ∀ a0 : AV, env0 fa25.keep [a0] = lc_pairsown_ok a0 .any .any .any .any .any .any .any .any .any := fun a0 => rfl
 refine W_to (tr _) ?_; clear tr
 refine at_seq rfl ?_
 refine rg rfl ?_
 refine Rq ?_
 have tr : ∀ a b c d e f g h i j k : AV, let l := lc_pairsown_ok a b c d e f g h i j; trim ((2,k)::l) l = lc_pairsown_ok a k c d e f g h i j := by intros; rfl
 refine R_nil (tr ..) ?_; clear tr
 refine then_n ?_
 refine at_seq rfl ?_
 refine rg rfl ?_
 refine Rq ?_
 have tr : ∀ a b c d e f g h i j k : AV, let l := lc_pairsown_ok a b c d e f g h i j; trim ((3,k)::l) l = lc_pairsown_ok a b k d e f g h i j := by intros; rfl
 refine R_nil (tr ..) ?_; clear tr
 refine then_n ?_
 refine at_seq rfl ?_
 refine at_seq rfl ?_
 refine rg rfl ?_
 refine Rq ?_
 refine Rq ?_
 refine Rq ?_
 have tr : ∀ a b c d e f g h i j k m n : AV, let l := lc_pairsown_ok a b c d e f g h i j; trim ((9,n)::(8,m)::(7,k)::l) l = lc_pairsown_ok a b c d e k m n i j := by intros; rfl
 refine R_nil (tr ..) ?_; clear tr
 refine then_n ?_
 refine at_block rfl ?_
 refine loop_n rfl (fun mm kv H' => ∃ u : Nat, ∃ o : AV, ∃ x5 x6 x10 x18 : AV, (kv = [(3, o), (5, x5), (6, x6), (9, AV.i u), (10, x10), (18, x18)]) ∧ (mm = L.length - u) ∧ (H.length ≤ H'.length) ∧ (u ≤ L.length) ∧ (OutP H.length H' o (pairsN L u)) ∧ (hget H' bo = some (flatQ L))) ⟨0, _, _, _, _, _, rfl, rfl, by exact Nat.le_refl _, by omega, by exact .inl ⟨rfl, rfl⟩, by exact qo⟩ (by rfl) ?_
 rintro mm kv HB ⟨u, o, x5, x6, x10, x18, rfl, rfl, hHB, hu, hO, qo⟩
 have tr : ∀ a b c d e f g h i j k m n o p q : AV, upd (lc_pairsown_ok a b c d e f g h i j) [(3,k),(5,m),(6,n),(9,o),(10,p),(18,q)] = lc_pairsown_ok a b k m n f g o p q := by intros; rfl
 refine W_to (tr ..) ?_; clear tr
 have hpl := pairs_len L u
 refine at_seq rfl ?_
 refine rg rfl ?_
 refine Rq ?_
 have tr : ∀ a b c d e f g h i j k : AV, let l := lc_pairsown_ok a b c d e f g h i j; trim ((10,k)::l) l = lc_pairsown_ok a b c d e f g h k j := by intros; rfl
 refine R_nil (tr ..) ?_; clear tr
 refine then_n ?_
 refine at_seq rfl ?_
 refine cdd (fun h1 => ?_) (fun h1 => ?_)
 ·
  try simp only [decide_eq_true_eq, decide_eq_false_iff_not, Bool.not_eq_true', Bool.not_eq_false', beq_iff_eq, beq_eq_false_iff_ne, ne_eq] at h1
  refine at_skip rfl ?_
  refine then_n ?_
  refine at_seq rfl ?_
  refine at_block rfl ?_
  refine at_seq rfl ?_
  refine rg rfl ?_
  have hO1 := hO
  refine Rq ?_
  refine R_q rfl (by simp (disch := first | omega | (simp only [List.length_map, List.length_append, List.length_set, List.length_cons, List.length_nil]; omega)) only [go_sem, ↓reduceIte, Nat.reduceEqDiff, reduceCtorEq, qx, qp, qo] <;> rfl) ?_
  refine A_alloc rfl ?_
  intro HC n4
  have en4 := n4.len
  have qo := (n4.old _ (hget_lt qo)).trans qo
  have qx := n4.new
  have hO := hO.mono fun b hb k hk => (n4.old _ (hget_lt hk)).trans hk
  have lqx := hget_lt qx
  refine A_store ty31 (by simp (disch := first | omega | (simp only [List.length_map, List.length_append, List.length_set, List.length_cons, List.length_nil]; omega)) only [go_sem, ↓reduceIte, Nat.reduceEqDiff, reduceCtorEq, qo] <;> rfl) (by simp (disch := first | omega | (simp only [List.length_map, List.length_append, List.length_set, List.length_cons, List.length_nil]; omega)) only [go_sem, ↓reduceIte, Nat.reduceEqDiff, reduceCtorEq, qx, qo] <;> rfl) qx ⟨by omega, rfl, by first | exact Nat.le_refl _ | simp⟩ (show _ = prC (gt L u) from rfl) ?_
  intro HD w4
  have ew4 := w4.len
  have qo := (w4.old _ (by omega)).trans qo
  have qx := w4.new
  have hO := hO1.mono fun b hb k hk => (w4.old _ (by have := hget_lt hk; omega)).trans ((n4.old _ (hget_lt hk)).trans hk)
  have tr : ∀ a b c d e f g h i j k m n : AV, let l := lc_pairsown_ok a b c d e f g h i j; trim ((5,n)::(12,m)::(11,k)::l) l = lc_pairsown_ok a b c n e f g h i j := by intros; rfl
  refine R_nil (tr ..) ?_; clear tr
  refine then_n ?_
  refine at_seq rfl ?_
  refine rg rfl ?_
  refine R_q rfl (by simp (disch := first | omega | (simp only [List.length_map, List.length_append, List.length_set, List.length_cons, List.length_nil]; omega)) only [go_sem, ↓reduceIte, Nat.reduceEqDiff, reduceCtorEq, qx, qp, qo] <;> rfl) ?_
  refine Rcall ?_
  refine ACall_eq (pair_ok _ _ _) ?_
  have hO1 := hO
  refine A_alloc rfl ?_
  intro HE n5
  have en5 := n5.len
  have qx := (n5.old _ (hget_lt qx)).trans qx
  have qo := (n5.old _ (hget_lt qo)).trans qo
  have qp := n5.new
  have lqx := hget_lt qx
  have lqp := hget_lt qp
  refine A_store ty31 (by simp (disch := first | omega | (simp only [List.length_map, List.length_append, List.length_set, List.length_cons, List.length_nil]; omega)) only [go_sem, ↓reduceIte, Nat.reduceEqDiff, reduceCtorEq] <;> rfl) (by simp (disch := first | omega | (simp only [List.length_map, List.length_append, List.length_set, List.length_cons, List.length_nil]; omega)) only [go_sem, ↓reduceIte, Nat.reduceEqDiff, reduceCtorEq, qp] <;> rfl) qp ⟨by omega, rfl, by first | exact Nat.le_refl _ | simp⟩ (show _ = prC (norm (gt L u)) from rfl) ?_
  intro HF w5
  have ew5 := w5.len
  have qo := (w5.old _ (by omega)).trans qo
  have qx := (w5.old _ (by omega)).trans qx
  have qp := w5.new
  have hO := hO1.mono fun b hb k hk => (w5.old _ (by have := hget_lt hk; omega)).trans ((n5.old _ (hget_lt hk)).trans hk)
  have tr : ∀ a b c d e f g h i j k m n : AV, let l := lc_pairsown_ok a b c d e f g h i j; trim ((6,n)::(14,m)::(13,k)::l) l = lc_pairsown_ok a b c d n f g h i j := by intros; rfl
  refine R_nil (tr ..) ?_; clear tr
  refine then_n ?_
  refine at_seq rfl ?_
  refine rg rfl ?_
  refine Rq ?_
  refine R_q rfl (by simp (disch := first | omega | (simp only [List.length_map, List.length_append, List.length_set, List.length_cons, List.length_nil]; omega)) only [go_sem, ↓reduceIte, Nat.reduceEqDiff, reduceCtorEq, qx, qp, qo] <;> rfl) ?_
  refine Rcall ?_
  refine ACall_eq (contains_ok _ H.length _ o _ _ hO (by omega)) ?_
  refine Rq ?_
  have tr : ∀ a b c d e f g h i j k m n o : AV, let l := lc_pairsown_ok a b c d e f g h i j; trim ((18,o)::(17,n)::(16,m)::(15,k)::l) l = lc_pairsown_ok a b c d e f g h i o := by intros; rfl
  refine R_nil (tr ..) ?_; clear tr
  refine then_n ?_
  refine cdd (fun h2 => ?_) (fun h2 => ?_)
  ·
   try simp only [decide_eq_true_eq, decide_eq_false_iff_not, Bool.not_eq_true', Bool.not_eq_false', beq_iff_eq, beq_eq_false_iff_ne, ne_eq] at h2
   refine rg rfl ?_
   refine Rq ?_
   refine R_q rfl (by simp (disch := first | omega | (simp only [List.length_map, List.length_append, List.length_set, List.length_cons, List.length_nil]; omega)) only [go_sem, ↓reduceIte, Nat.reduceEqDiff, reduceCtorEq, qx, qp, qo] <;> rfl) ?_
   have hob := fun b hb => hO.lt (b := b) hb
   refine A_buildSlice (bs41 _ _ _ _ (norm (gt L u)) (by simp (disch := first | omega | (simp only [List.length_map, List.length_append, List.length_set, List.length_cons, List.length_nil]; omega)) only [go_sem, ↓reduceIte, Nat.reduceEqDiff, reduceCtorEq, qx, qp])) ?_
   intro HG n7
   have en7 := n7.len
   have qx := (n7.old _ (hget_lt qx)).trans qx
   have qp := (n7.old _ (hget_lt qp)).trans qp
   have qo := (n7.old _ (hget_lt qo)).trans qo
   have qn := n7.new
   have hO := hO.mono fun b hb k hk => (n7.old _ (hget_lt hk)).trans hk
   have lqo := hget_lt qo
   obtain ⟨b, hbl, hbl2, hap⟩ := outP_append (lim := H.length) hO hob qn (Nat.le_refl _) (by omega) (by omega)
   refine A_append (by simp (disch := first | omega | (simp only [List.length_map, List.length_append, List.length_set, List.length_cons, List.length_nil]; omega)) only [go_sem, ↓reduceIte, Nat.reduceEqDiff, reduceCtorEq]; exact hap) ?_
   intro HK g7
   have eg7 := g7.len
   have qo := (g7.old _ (by omega) lqo).trans qo
   refine Rq ?_
   have tr : ∀ a b c d e f g h i j k m n o p : AV, let l := lc_pairsown_ok a b c d e f g h i j; trim ((3,p)::(22,o)::(21,n)::(20,m)::(19,k)::l) l = lc_pairsown_ok a b p d e f g h i j := by intros; rfl
   refine R_nil (tr ..) ?_; clear tr
   refine blk_n ?_
   refine then_n ?_
   refine rg rfl ?_
   refine Rq ?_
   refine Rq ?_
   have tr : ∀ a b c d e f g h i j k m : AV, let l := lc_pairsown_ok a b c d e f g h i j; trim ((9,m)::(23,k)::l) l = lc_pairsown_ok a b c d e f g m i j := by intros; rfl
   refine R_nil (tr ..) ?_; clear tr
   refine then_n ?_
   exact ⟨_, _, ⟨u + 1, (.own 2 HG.length 0 ((pairsN L u).length + 1)), _, _, _, _, rfl, rfl, by first | (show H.length ≤ HK.length; omega) | (show H.length ≤ HF.length; omega), by omega, by first | exact pairs_new g7 (by omega) (by assumption) | exact pairs_old hO (by assumption), by exact qo⟩, by rfl, by omega⟩
  ·
   try simp only [decide_eq_true_eq, decide_eq_false_iff_not, Bool.not_eq_true', Bool.not_eq_false', beq_iff_eq, beq_eq_false_iff_ne, ne_eq] at h2
   refine at_skip rfl ?_
   refine blk_n ?_
   refine then_n ?_
   refine rg rfl ?_
   refine Rq ?_
   refine Rq ?_
   have tr : ∀ a b c d e f g h i j k m : AV, let l := lc_pairsown_ok a b c d e f g h i j; trim ((9,m)::(23,k)::l) l = lc_pairsown_ok a b c d e f g m i j := by intros; rfl
   refine R_nil (tr ..) ?_; clear tr
   refine then_n ?_
   exact ⟨_, _, ⟨u + 1, o, _, _, _, _, rfl, rfl, by first | (show H.length ≤ HK.length; omega) | (show H.length ≤ HF.length; omega), by omega, by first | exact pairs_new g7 (by omega) (by assumption) | exact pairs_old hO (by assumption), by exact qo⟩, by rfl, by omega⟩
 ·
  try simp only [decide_eq_true_eq, decide_eq_false_iff_not, Bool.not_eq_true', Bool.not_eq_false', beq_iff_eq, beq_eq_false_iff_ne, ne_eq] at h1
  refine at_exit rfl ?_
  refine then_x ?_
  refine then_x ?_
  refine blk_x ?_
  refine then_n ?_
  refine at_seq rfl ?_
  refine rg rfl ?_
  refine Rq ?_
  refine Rq ?_
  have tr : ∀ a b c d e f g h i j k m : AV, let l := lc_pairsown_ok a b c d e f g h i j; trim ((2,m)::(24,k)::l) l = lc_pairsown_ok a m c d e f g h i j := by intros; rfl
  refine R_nil (tr ..) ?_; clear tr
  refine then_n ?_
  refine at_ret rfl ?_
  obtain rfl : u = L.length := by omega
  refine fpure ?_
  exact ⟨hO.frz, rfl⟩

abbrev lc_pairs_nil (a b c d e f g h i j : AV) : Env := [(0,a),(2,b),(3,c),(5,d),(6,e),(7,f),(8,g),(9,h),(10,i),(18,j)]
theorem pairs_nil (lim : Nat) (H : Heap) :
    ACall sig lim 25 [nilP] H fun r H' => r = nilP ∧ H' = H := by
 refine ACall_pure (fa := fa25) rfl rfl rfl rfl ?_
 have tr : ∀ a0 : AV, env0 fa25.keep [a0] = lc_pairs_nil a0 .any .any .any .any .any .any .any .any .any := fun a0 => rfl
 refine W_to (tr _) ?_; clear tr
 refine at_seq rfl ?_
 refine rg rfl ?_
 refine Rq ?_
 have tr : ∀ a b c d e f g h i j k : AV, let l := lc_pairs_nil a b c d e f g h i j; trim ((2,k)::l) l = lc_pairs_nil a k c d e f g h i j := by intros; rfl
 refine R_nil (tr ..) ?_; clear tr
 refine then_n ?_
 refine at_seq rfl ?_
 refine rg rfl ?_
 refine Rq ?_
 have tr : ∀ a b c d e f g h i j k : AV, let l := lc_pairs_nil a b c d e f g h i j; trim ((3,k)::l) l = lc_pairs_nil a b k d e f g h i j := by intros; rfl
 refine R_nil (tr ..) ?_; clear tr
 refine then_n ?_
 refine at_seq rfl ?_
 refine at_seq rfl ?_
 refine rg rfl ?_
 refine Rq ?_
 refine Rq ?_
 refine Rq ?_
 have tr : ∀ a b c d e f g h i j k m n : AV, let l := lc_pairs_nil a b c d e f g h i j; trim ((9,n)::(8,m)::(7,k)::l) l = lc_pairs_nil a b c d e k m n i j := by intros; rfl
 refine R_nil (tr ..) ?_; clear tr
 refine then_n ?_
 refine at_block rfl ?_
 refine loop_n rfl (fun mm kv H' => ∃ u : Nat, ∃ x5 x6 x10 x18 : AV, (kv = [(3, nilP), (5, x5), (6, x6), (9, AV.i u), (10, x10), (18, x18)]) ∧ (mm = 0) ∧ (H' = H) ∧ (u = 0)) ⟨0, _, _, _, _, rfl, rfl, rfl, by rfl⟩ (by rfl) ?_
 rintro mm kv H' ⟨u, x5, x6, x10, x18, rfl, rfl, rfl, hu⟩
 have tr : ∀ a b c d e f g h i j k m n o p q : AV, upd (lc_pairs_nil a b c d e f g h i j) [(3,k),(5,m),(6,n),(9,o),(10,p),(18,q)] = lc_pairs_nil a b k m n f g o p q := by intros; rfl
 refine W_to (tr ..) ?_; clear tr
 refine at_seq rfl ?_
 refine rg rfl ?_
 refine Rq ?_
 have tr : ∀ a b c d e f g h i j k : AV, let l := lc_pairs_nil a b c d e f g h i j; trim ((10,k)::l) l = lc_pairs_nil a b c d e f g h k j := by intros; rfl
 refine R_nil (tr ..) ?_; clear tr
 refine then_n ?_
 refine at_seq rfl ?_
 refine cdd (fun h1 => ?_) (fun h1 => ?_)
 ·
  try simp only [decide_eq_true_eq, decide_eq_false_iff_not, Bool.not_eq_true', Bool.not_eq_false', beq_iff_eq, beq_eq_false_iff_ne, ne_eq] at h1
  exfalso; omega
 ·
  try simp only [decide_eq_true_eq, decide_eq_false_iff_not, Bool.not_eq_true', Bool.not_eq_false', beq_iff_eq, beq_eq_false_iff_ne, ne_eq] at h1
  refine at_exit rfl ?_
  refine then_x ?_
  refine then_x ?_
  refine blk_x ?_
  refine then_n ?_
  refine at_seq rfl ?_
  refine rg rfl ?_
  refine Rq ?_
  refine Rq ?_
  have tr : ∀ a b c d e f g h i j k m : AV, let l := lc_pairs_nil a b c d e f g h i j; trim ((2,m)::(24,k)::l) l = lc_pairs_nil a m c d e f g h i j := by intros; rfl
  refine R_nil (tr ..) ?_; clear tr
  refine then_n ?_
  refine at_ret rfl ?_
  refine fpure ?_
  refine ⟨?_, rfl⟩
  rfl

theorem pairs_any (lim lo : Nat) (H : Heap) (o : AV) (L : List Pr) (hO : OutP lo H o L) (hL : L.length ≤ 400) :
    ACall sig lim 25 [o] H fun r H' => r = pairsA L ∧ H' = H := by
  rcases hO with ⟨rfl, rfl⟩ | ⟨h0, b, rfl, h2, h3⟩
  · exact pairs_nil lim H
  · exact pairsown_ok lim H b L h3 hL

abbrev lc_indexsl_ok (a b c d e f g h i : AV) : Env := [(0,a),(1,b),(3,c),(4,d),(5,e),(7,f),(8,g),(9,h),(16,i)]
theorem indexsl_ok (lim : Nat) (H : Heap) (m : List Pr) (p : Pr) (hm : m.length ≤ 1000) :
    ACall sig lim 30 [prsAV m, .agg (prC p)] H fun r H' => (∃ k : Int, r = AV.i k ∧ ((0 ≤ k ∧ k < m.length ∧ gt m k.toNat = p) ∨ (k = -1 ∧ p ∉ m))) ∧ H' = H := by
 refine ACall_pure (fa := fa30) rfl rfl rfl rfl ?_
 have tr : ∀ a0 a1 : AV, env0 fa30.keep [a0, a1] = lc_indexsl_ok a0 a1 .any .any .any .any .any .any .any := fun a0 a1 => rfl
 refine W_to (tr _ _) ?_; clear tr
 refine at_seq rfl ?_
 refine rg rfl ?_
 refine R_box rfl (by simp (disch := first | omega | (simp only [List.length_map, List.length_append, List.length_set, List.length_cons, List.length_nil]; omega)) only [go_sem, ↓reduceIte, Nat.reduceEqDiff, reduceCtorEq] <;> rfl) rfl rfl ?_
 refine Rq ?_
 have tr : ∀ a b c d e f g h i j k : AV, let l := lc_indexsl_ok a b c d e f g h i; trim ((4,k)::(3,j)::l) l = lc_indexsl_ok a b j k e f g h i := by intros; rfl
 refine R_nil (tr ..) ?_; clear tr
 refine then_n ?_
 refine at_seq rfl ?_
 refine at_seq rfl ?_
 refine rg rfl ?_
 refine Rq ?_
 refine Rq ?_
 refine Rq ?_
 have tr : ∀ a b c d e f g h i j k m : AV, let l := lc_indexsl_ok a b c d e f g h i; trim ((8,m)::(7,k)::(6,j)::l) l = lc_indexsl_ok a b c d e k m h i := by intros; rfl
 refine R_nil (tr ..) ?_; clear tr
 refine then_n ?_
 refine at_block rfl ?_
 refine loop_n rfl (fun mm kv H' => ∃ u : Nat, ∃ x4 x5 x9 x16 : AV, (kv = [(4, x4), (5, x5), (8, AV.i u), (9, x9), (16, x16)]) ∧ (mm = m.length - u) ∧ (H' = H ++ [some (prC p)]) ∧ (u ≤ m.length) ∧ (∀ i, i < u → gt m i ≠ p)) ⟨0, _, _, _, _, rfl, rfl, rfl, by omega, by intro i hi; omega⟩ (by rfl) ?_
 rintro mm kv H' ⟨u, x4, x5, x9, x16, rfl, rfl, rfl, hu, hq⟩
 have tr : ∀ a b c d e f g h i j k m n o : AV, upd (lc_indexsl_ok a b c d e f g h i) [(4,j),(5,k),(8,m),(9,n),(16,o)] = lc_indexsl_ok a b c j k f m n o := by intros; rfl
 refine W_to (tr ..) ?_; clear tr
 refine at_seq rfl ?_
 refine rg rfl ?_
 refine Rq ?_
 have tr : ∀ a b c d e f g h i j : AV, let l := lc_indexsl_ok a b c d e f g h i; trim ((9,j)::l) l = lc_indexsl_ok a b c d e f g j i := by intros; rfl
 refine R_nil (tr ..) ?_; clear tr
 refine then_n ?_
 refine at_seq rfl ?_
 refine cdd (fun h1 => ?_) (fun h1 => ?_)
 ·
  try simp only [decide_eq_true_eq, decide_eq_false_iff_not, Bool.not_eq_true', Bool.not_eq_false', beq_iff_eq, beq_eq_false_iff_ne, ne_eq] at h1
  refine at_skip rfl ?_
  refine then_n ?_
  refine at_seq rfl ?_
  refine at_block rfl ?_
  refine at_seq rfl ?_
  refine rg rfl ?_
  refine Rq ?_
  refine Rq ?_
  have tr : ∀ a b c d e f g h i j k : AV, let l := lc_indexsl_ok a b c d e f g h i; trim ((5,k)::(10,j)::l) l = lc_indexsl_ok a b c d k f g h i := by intros; rfl
  refine R_nil (tr ..) ?_; clear tr
  refine then_n ?_
  refine at_seq rfl ?_
  refine rd rfl rfl ?_
  refine Qq ?_
  refine Qq ?_
  refine Qq ?_
  refine Qq ?_
  refine Qq ?_
  refine Qq ?_
  refine Q_nil ?_
  have tr : ∀ a b c d e f g h i j k m n o p : AV, let l := lc_indexsl_ok a b c d e f g h i; trim ((16,p)::(15,o)::(14,n)::(13,m)::(12,k)::(11,j)::l) l = lc_indexsl_ok a b c d e f g h p := by intros; rfl
  refine R_nil (tr ..) ?_; clear tr
  refine then_n ?_
  refine cdd (fun h2 => ?_) (fun h2 => ?_)
  ·
   try simp only [decide_eq_true_eq, decide_eq_false_iff_not, Bool.not_eq_true', Bool.not_eq_false', beq_iff_eq, beq_eq_false_iff_ne, ne_eq] at h2
   refine at_seq rfl ?_
   refine rg rfl ?_
   refine Rq ?_
   refine Rq ?_
   have tr : ∀ a b c d e f g h i j k : AV, let l := lc_indexsl_ok a b c d e f g h i; trim ((4,k)::(17,j)::l) l = lc_indexsl_ok a b c k e f g h i := by intros; rfl
   refine R_nil (tr ..) ?_; clear tr
   refine then_n ?_
   refine at_ret rfl ?_
   refine blk_r ?_
   refine then_r ?_
   refine then_r ?_
   refine blk_r ?_
   refine then_r ?_
   refine fpure ?_
   refine ⟨⟨_, rfl, .inl ⟨by omega, by omega, ?_⟩⟩, rfl⟩
   rw [Int.toNat_natCast]
   simp_all
  ·
   try simp only [decide_eq_true_eq, decide_eq_false_iff_not, Bool.not_eq_true', Bool.not_eq_false', beq_iff_eq, beq_eq_false_iff_ne, ne_eq] at h2
   refine at_skip rfl ?_
   refine blk_n ?_
   refine then_n ?_
   refine rg rfl ?_
   refine Rq ?_
   refine Rq ?_
   have tr : ∀ a b c d e f g h i j k : AV, let l := lc_indexsl_ok a b c d e f g h i; trim ((8,k)::(18,j)::l) l = lc_indexsl_ok a b c d e f k h i := by intros; rfl
   refine R_nil (tr ..) ?_; clear tr
   refine then_n ?_
   exact ⟨_, _, ⟨u + 1, _, _, _, _, rfl, rfl, rfl, by omega, by exact all_step hq (fun hh => by simp_all)⟩, by rfl, by omega⟩
 ·
  try simp only [decide_eq_true_eq, decide_eq_false_iff_not, Bool.not_eq_true', Bool.not_eq_false', beq_iff_eq, beq_eq_false_iff_ne, ne_eq] at h1
  refine at_exit rfl ?_
  refine then_x ?_
  refine then_x ?_
  refine blk_x ?_
  refine then_n ?_
  refine at_seq rfl ?_
  refine rg rfl ?_
  refine Rq ?_
  have tr : ∀ a b c d e f g h i j : AV, let l := lc_indexsl_ok a b c d e f g h i; trim ((4,j)::l) l = lc_indexsl_ok a b c j e f g h i := by intros; rfl
  refine R_nil (tr ..) ?_; clear tr
  refine then_n ?_
  refine at_ret rfl ?_
  refine fpure ?_
  refine ⟨⟨_, rfl, .inr ⟨rfl, fun hh => ?_⟩⟩, rfl⟩
  obtain ⟨i, hi, he⟩ := List.mem_iff_getElem.1 hh
  exact hq i (by omega) (by rw [gt_eq _ _ hi]; exact he)

end Go.Proofs.Ytdmeioppkannlaa
end
