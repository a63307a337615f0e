/-
  Walks of the seat of TopReserve. The steps are written by program (walk.py).
-/
import Derived.Test.YtkjgmpjnhfmecaaNw
import Derived.Test.YtkjgmpjnhfmecaaSig
set_option linter.unusedSimpArgs false
set_option linter.unusedVariables false
set_option maxHeartbeats 40000000
set_option maxRecDepth 4000
namespace Go.Proofs.Ytkjgmpjnhfmecaa
open Go Go.Am

abbrev lc_seasonof_ok (a b c d e f g h i j k m : AV) : Env := [(0,a),(1,b),(3,c),(4,d),(5,e),(6,f),(7,g),(8,h),(16,i),(17,j),(18,k),(28,m)]
theorem seasonof_ok (lim : Nat) (H : Heap) (k f0 r0 : Int) (z : AV) (G : List Int) (hz : AnyI z G) (hk : 0 ≤ k ∧ k ≤ 255) :
    ACall sig lim 5 [.v (.int .u8 k), .agg [AV.i f0, AV.i r0, z]] H fun r H' => (∃ (n : Nat) (first rest : Int) (gr : List Int), (n : Int) = 2 + k % 5 ∧ r = .tup [AV.i (n : Nat), .agg (ssC first rest gr)] ∧ (0 ≤ first ∧ first ≤ 100000) ∧ (0 ≤ rest ∧ rest ≤ 9) ∧ gr.length = n ∧ ∀ i, i < gr.length → 0 ≤ gt gr i ∧ gt gr i < 20) ∧ H' = H := by
 have hsz := hz.st
 obtain ⟨n, hn⟩ : ∃ n : Nat, (n : Int) = 2 + k % 5 := ⟨(2 + k % 5).toNat, by omega⟩
 have q3 : True := trivial
 have q5 : True := trivial
 have q7 : True := trivial
 refine ACall_pure (fa := fa5) rfl rfl rfl rfl ?_
 have tr : ∀ a0 a1 : AV, env0 fa5.keep [a0, a1] = [(0,a0),(1,a1),(3,.any),(4,.any),(5,.any),(6,.any),(7,.any),(8,.any),(16,.any),(17,.any),(18,.any),(28,.any)] := fun a0 a1 => rfl
 refine W_to (tr _ _) ?_; clear tr
 refine at_seq rfl ?_
 refine rg rfl ?_
 refine A_box rfl (by simp (disch := first | omega | (simp only [List.length_map, List.length_append, List.length_set, List.length_cons, List.length_nil]; omega)) only [go_sem, ↓reduceIte, Nat.reduceEqDiff, reduceCtorEq, hsz]; rfl) ?_
 intro H1 n1
 have en1 := n1.len
 have q3 := n1.new
 refine Rq ?_
 refine A_alloc rfl ?_
 intro H2 n2
 have en2 := n2.len
 have q3 := (n2.old _ (hget_lt q3)).trans q3
 have q5 : hget H2 H1.length = some [AV.i 0, AV.i 0, .v (.slice none 0 0)] := n2.new
 have tr : ∀ a b c d e f g h i j k m n o p : AV, let l := lc_seasonof_ok a b c d e f g h i j k m; trim ((5,p)::(4,o)::(3,n)::l) l = [(0,a),(1,b),(3,n),(4,o),(5,p),(6,f),(7,g),(8,h),(16,i),(17,j),(18,k),(28,m)] := by intros; rfl
 refine R_nil (tr ..) ?_; clear tr
 refine then_n ?_
 refine at_seq rfl ?_
 refine rg rfl ?_
 refine Rq ?_
 refine Rq ?_
 refine Rq ?_
 refine R_q (r := AV.i (n : Nat)) rfl (by simp (disch := first | omega | (simp only [List.length_map, List.length_append, List.length_set, List.length_cons, List.length_nil]; omega)) only [go_sem, ↓reduceIte, Nat.reduceEqDiff, reduceCtorEq] <;> first | rfl | (rw [hn])) ?_
 refine Rq ?_
 have tr : ∀ a b c d e f g h i j k m n o p q r : AV, let l := lc_seasonof_ok a b c d e f g h i j k m; trim ((6,r)::(12,q)::(11,p)::(10,o)::(9,n)::l) l = [(0,a),(1,b),(3,c),(4,d),(5,e),(6,r),(7,g),(8,h),(16,i),(17,j),(18,k),(28,m)] := by intros; rfl
 refine R_nil (tr ..) ?_; clear tr
 refine then_n ?_
 refine at_seq rfl ?_
 refine rg rfl ?_
 refine Rq ?_
 refine A_makeSlice (ms22 _ _ n _ _ _ (by omega) (by simp (disch := first | omega | (simp only [List.length_map, List.length_append, List.length_set, List.length_cons, List.length_nil]; omega)) only [go_sem, ↓reduceIte, Nat.reduceEqDiff, reduceCtorEq] <;> rfl) (by simp (disch := first | omega | (simp only [List.length_map, List.length_append, List.length_set, List.length_cons, List.length_nil]; omega)) only [go_sem, ↓reduceIte, Nat.reduceEqDiff, reduceCtorEq] <;> rfl)) ?_
 intro H4 n4
 have en4 := n4.len
 have q3 := (n4.old _ (hget_lt q3)).trans q3
 have q5 := (n4.old _ (hget_lt q5)).trans q5
 have q7 := n4.new
 refine Rq ?_
 have tr : ∀ a b c d e f g h i j k m n o p : AV, let l := lc_seasonof_ok a b c d e f g h i j k m; trim ((7,p)::(14,o)::(13,n)::l) l = [(0,a),(1,b),(3,c),(4,d),(5,e),(6,f),(7,p),(8,h),(16,i),(17,j),(18,k),(28,m)] := by intros; rfl
 refine R_nil (tr ..) ?_; clear tr
 refine then_n ?_
 refine at_seq rfl ?_
 refine at_seq rfl ?_
 refine rg rfl ?_
 refine Rq ?_
 refine Rq ?_
 refine Rq ?_
 have tr : ∀ a b c d e f g h i j k m n o p : AV, let l := lc_seasonof_ok a b c d e f g h i j k m; trim ((17,p)::(16,o)::(15,n)::l) l = [(0,a),(1,b),(3,c),(4,d),(5,e),(6,f),(7,g),(8,h),(16,o),(17,p),(18,k),(28,m)] := by intros; rfl
 refine R_nil (tr ..) ?_; clear tr
 refine then_n ?_
 refine at_block rfl ?_
 refine loop_n rfl (fun mm kv H' => ∃ u : Nat, ∃ D : List Int, ∃ x8 x18 x28 : AV, (kv = [(8, x8), (17, AV.i u), (18, x18), (28, x28)]) ∧ (mm = n - u) ∧ (u ≤ n) ∧ (D.length = n) ∧ (∀ i, i < u → 0 ≤ gt D i ∧ gt D i < 20) ∧ (hget H' H.length = some [AV.i f0, AV.i r0, z]) ∧ (hget H' H1.length = some [AV.i 0, AV.i 0, .v (.slice none 0 0)]) ∧ (hget H' H2.length = some (D.map AV.i))) ⟨0, List.replicate n 0, _, _, _, rfl, rfl, by omega, by (rw [List.length_replicate]), by intro i hi; omega, by exact q3, by exact q5, by exact q7⟩ (by rfl) ?_
 rintro mm kv HL ⟨u, D, x8, x18, x28, rfl, rfl, hu, hDl, hD, q3, q5, q7⟩
 have tr : ∀ a b c d e f g h i j k m n o p q : AV, upd [(0,a),(1,b),(3,c),(4,d),(5,e),(6,f),(7,g),(8,h),(16,i),(17,j),(18,k),(28,m)] [(8,n),(17,o),(18,p),(28,q)] = [(0,a),(1,b),(3,c),(4,d),(5,e),(6,f),(7,g),(8,n),(16,i),(17,o),(18,p),(28,q)] := by intros; rfl
 refine W_to (tr ..) ?_; clear tr
 refine at_seq rfl ?_
 refine rg rfl ?_
 refine Rq ?_
 have tr : ∀ a b c d e f g h i j k m n : AV, let l := lc_seasonof_ok a b c d e f g h i j k m; trim ((18,n)::l) l = [(0,a),(1,b),(3,c),(4,d),(5,e),(6,f),(7,g),(8,h),(16,i),(17,j),(18,n),(28,m)] := by intros; rfl
 refine R_nil (tr ..) ?_; clear tr
 refine then_n ?_
 refine at_seq rfl ?_
 refine cdd (fun h1 => ?_) (fun h1 => ?_)
 ·
  try simp only [decide_eq_true_eq, decide_eq_false_iff_not, Bool.not_eq_true', Bool.not_eq_false', beq_iff_eq, beq_eq_false_iff_ne, ne_eq] at h1
  refine at_skip rfl ?_
  refine then_n ?_
  refine at_seq rfl ?_
  refine at_block rfl ?_
  refine at_seq rfl ?_
  refine rg rfl ?_
  refine Rq ?_
  refine Rq ?_
  have tr : ∀ a b c d e f g h i j k m n o : AV, let l := lc_seasonof_ok a b c d e f g h i j k m; trim ((8,o)::(19,n)::l) l = [(0,a),(1,b),(3,c),(4,d),(5,e),(6,f),(7,g),(8,o),(16,i),(17,j),(18,k),(28,m)] := by intros; rfl
  refine R_nil (tr ..) ?_; clear tr
  refine then_n ?_
  refine at_seq rfl ?_
  refine rg rfl ?_
  refine Rq ?_
  refine Rq ?_
  refine Rq ?_
  refine Rq ?_
  have lq3 := hget_lt q3
  have lq5 := hget_lt q5
  have lq7 := hget_lt q7
  refine A_store ty3 (by simp (disch := first | omega | (simp only [List.length_map, List.length_append, List.length_set, List.length_cons, List.length_nil]; omega)) only [go_sem, ↓reduceIte, Nat.reduceEqDiff, reduceCtorEq, q3, q5, q7] <;> rfl) (by simp (disch := first | omega | (simp only [List.length_map, List.length_append, List.length_set, List.length_cons, List.length_nil]; omega)) only [go_sem, ↓reduceIte, Nat.reduceEqDiff, reduceCtorEq, q3, q5, q7] <;> rfl) q7 ⟨by omega, rfl, by first | exact Nat.le_refl _ | (simp; done) | (simp; omega)⟩ (k' := (D.set u (u : Int)).map AV.i) (by first | exact setI _ _ _ | rfl) ?_
  intro H6 w6
  have ew6 := w6.len
  have q3 := (w6.old _ (by omega)).trans q3
  have q5 := (w6.old _ (by omega)).trans q5
  have q7 := w6.new
  have tr : ∀ a b c d e f g h i j k m n o p q : AV, let l := lc_seasonof_ok a b c d e f g h i j k m; trim ((23,q)::(22,p)::(21,o)::(20,n)::l) l = [(0,a),(1,b),(3,c),(4,d),(5,e),(6,f),(7,g),(8,h),(16,i),(17,j),(18,k),(28,m)] := by intros; rfl
  refine R_nil (tr ..) ?_; clear tr
  refine then_n ?_
  refine at_seq rfl ?_
  refine rg rfl ?_
  refine Rq ?_
  refine Rq ?_
  refine R_q rfl (by simp (disch := first | omega | (simp only [List.length_map, List.length_append, List.length_set, List.length_cons, List.length_nil]; omega)) only [go_sem, ↓reduceIte, Nat.reduceEqDiff, reduceCtorEq, q3, q5, q7, hsz]; rfl) ?_
  refine R_q (r := AV.i (G.length : Nat)) rfl (by simp (disch := first | omega | (simp only [List.length_map, List.length_append, List.length_set, List.length_cons, List.length_nil]; omega)) only [go_sem, ↓reduceIte, Nat.reduceEqDiff, reduceCtorEq, q3]; exact hz.len) ?_
  refine Rq ?_
  have tr : ∀ a b c d e f g h i j k m n o p q r : AV, let l := lc_seasonof_ok a b c d e f g h i j k m; trim ((28,r)::(27,q)::(26,p)::(25,o)::(24,n)::l) l = [(0,a),(1,b),(3,c),(4,d),(5,e),(6,f),(7,g),(8,h),(16,i),(17,j),(18,k),(28,r)] := by intros; rfl
  refine R_nil (tr ..) ?_; clear tr
  refine then_n ?_
  refine cdd (fun h2 => ?_) (fun h2 => ?_)
  ·
   try simp only [decide_eq_true_eq, decide_eq_false_iff_not, Bool.not_eq_true', Bool.not_eq_false', beq_iff_eq, beq_eq_false_iff_ne, ne_eq] at h2
   refine rg rfl ?_
   obtain rfl := hz.sl (by omega)
   refine Rq ?_
   refine Rq ?_
   refine Rq ?_
   refine R_q rfl (by simp (disch := first | omega | (simp only [List.length_map, List.length_append, List.length_set, List.length_cons, List.length_nil]; omega)) only [go_sem, ↓reduceIte, Nat.reduceEqDiff, reduceCtorEq, q3, q5, q7, hsz]; rfl) ?_
   refine Rq ?_
   refine Rq ?_
   refine R_q (r := AV.i (gt G u)) rfl (by simp (disch := first | omega | (simp only [List.length_map, List.length_append, List.length_set, List.length_cons, List.length_nil]; omega)) only [go_sem, ↓reduceIte, Nat.reduceEqDiff, reduceCtorEq, q3] <;> exact ints_at G u (by omega)) ?_
   refine Rq ?_
   refine Rq ?_
   refine Rq ?_
   have lq3 := hget_lt q3
   have lq5 := hget_lt q5
   have lq7 := hget_lt q7
   refine A_store ty3 (by simp (disch := first | omega | (simp only [List.length_map, List.length_append, List.length_set, List.length_cons, List.length_nil]; omega)) only [go_sem, ↓reduceIte, Nat.reduceEqDiff, reduceCtorEq, q3, q5, q7] <;> rfl) (by simp (disch := first | omega | (simp only [List.length_map, List.length_append, List.length_set, List.length_cons, List.length_nil]; omega)) only [go_sem, ↓reduceIte, Nat.reduceEqDiff, reduceCtorEq, q3, q5, q7] <;> rfl) q7 ⟨by omega, rfl, by first | exact Nat.le_refl _ | (simp; done) | (simp; omega)⟩ (k' := ((D.set u (u : Int)).set u (max 0 ((gt G u).tmod 20))).map AV.i) (by first | exact setI _ _ _ | rfl) ?_
   intro H8 w8
   have ew8 := w8.len
   have q3 := (w8.old _ (by omega)).trans q3
   have q5 := (w8.old _ (by omega)).trans q5
   have q7 := w8.new
   have tr : ∀ a b c d e f g h i j k m n o p q r s t u v w : AV, let l := lc_seasonof_ok a b c d e f g h i j k m; trim ((38,w)::(37,v)::(36,u)::(35,t)::(34,s)::(33,r)::(32,q)::(31,p)::(30,o)::(29,n)::l) l = [(0,a),(1,b),(3,c),(4,d),(5,e),(6,f),(7,g),(8,h),(16,i),(17,j),(18,k),(28,m)] := by intros; rfl
   refine R_nil (tr ..) ?_; clear tr
   refine blk_n ?_
   refine then_n ?_
   refine rg rfl ?_
   refine Rq ?_
   refine Rq ?_
   have tr : ∀ a b c d e f g h i j k m n o : AV, let l := lc_seasonof_ok a b c d e f g h i j k m; trim ((17,o)::(39,n)::l) l = [(0,a),(1,b),(3,c),(4,d),(5,e),(6,f),(7,g),(8,h),(16,i),(17,o),(18,k),(28,m)] := by intros; rfl
   refine R_nil (tr ..) ?_; clear tr
   refine then_n ?_
   exact ⟨_, _, ⟨u + 1, (D.set u (u : Int)).set u (max 0 ((gt G u).tmod 20)), _, _, _, rfl, rfl, by omega, by (simp only [List.length_set]; exact hDl), by first | exact gr_step hD (by omega) rfl ⟨by omega, by omega⟩ | exact gr_step2 hD (by omega) (tmod_box _), by exact q3, by exact q5, by exact q7⟩, by rfl, by omega⟩
  ·
   try simp only [decide_eq_true_eq, decide_eq_false_iff_not, Bool.not_eq_true', Bool.not_eq_false', beq_iff_eq, beq_eq_false_iff_ne, ne_eq] at h2
   refine at_skip rfl ?_
   refine blk_n ?_
   refine then_n ?_
   refine rg rfl ?_
   refine Rq ?_
   refine Rq ?_
   have tr : ∀ a b c d e f g h i j k m n o : AV, let l := lc_seasonof_ok a b c d e f g h i j k m; trim ((17,o)::(39,n)::l) l = [(0,a),(1,b),(3,c),(4,d),(5,e),(6,f),(7,g),(8,h),(16,i),(17,o),(18,k),(28,m)] := by intros; rfl
   refine R_nil (tr ..) ?_; clear tr
   refine then_n ?_
   exact ⟨_, _, ⟨u + 1, D.set u (u : Int), _, _, _, rfl, rfl, by omega, by (simp only [List.length_set]; exact hDl), by first | exact gr_step hD (by omega) rfl ⟨by omega, by omega⟩ | exact gr_step2 hD (by omega) (tmod_box _), by exact q3, by exact q5, by exact q7⟩, by rfl, by omega⟩
 ·
  try simp only [decide_eq_true_eq, decide_eq_false_iff_not, Bool.not_eq_true', Bool.not_eq_false', beq_iff_eq, beq_eq_false_iff_ne, ne_eq] at h1
  refine at_exit rfl ?_
  refine then_x ?_
  refine then_x ?_
  refine blk_x ?_
  refine then_n ?_
  refine at_seq rfl ?_
  refine rd rfl rfl ?_
  refine Qq ?_
  refine Qq ?_
  refine Q_q rfl (by simp (disch := first | omega | (simp only [List.length_map, List.length_append, List.length_set, List.length_cons, List.length_nil]; omega)) only [go_sem, ↓reduceIte, Nat.reduceEqDiff, reduceCtorEq, q3, q5, q7, hsz]; rfl) ?_
  refine Qq ?_
  refine Qq ?_
  refine Qq ?_
  refine Q_q rfl (by simp (disch := first | omega | (simp only [List.length_map, List.length_append, List.length_set, List.length_cons, List.length_nil]; omega)) only [go_sem, ↓reduceIte, Nat.reduceEqDiff, reduceCtorEq, q3, q5, q7, hsz]; rfl) ?_
  refine Qq ?_
  refine Qq ?_
  refine Qq ?_
  refine Qq ?_
  refine Qq ?_
  refine Q_nil ?_
  have lq3 := hget_lt q3
  have lq5 := hget_lt q5
  have lq7 := hget_lt q7
  refine A_store ty24 (by simp (disch := first | omega | (simp only [List.length_map, List.length_append, List.length_set, List.length_cons, List.length_nil]; omega)) only [go_sem, ↓reduceIte, Nat.reduceEqDiff, reduceCtorEq, q3, q5, q7] <;> rfl) (by simp (disch := first | omega | (simp only [List.length_map, List.length_append, List.length_set, List.length_cons, List.length_nil]; omega)) only [go_sem, ↓reduceIte, Nat.reduceEqDiff, reduceCtorEq, q3, q5, q7] <;> rfl) q5 ⟨by omega, rfl, by first | exact Nat.le_refl _ | (simp; done)⟩ (k' := [AV.i (max 0 (f0.tmod 100000)), AV.i (max 0 (r0.tmod 10)), .own 1 H2.length 0 n]) rfl ?_
  intro HZ wz
  have ewz := wz.len
  have q3 := (wz.old _ (by omega)).trans q3
  have q7 := (wz.old _ (by omega)).trans q7
  have q5 := wz.new
  have tr : ∀ a b c d e f g h i j k m n o p q r s t u v w x y : AV, let l := lc_seasonof_ok a b c d e f g h i j k m; trim ((4,y)::(50,x)::(49,w)::(48,v)::(47,u)::(46,t)::(45,s)::(44,r)::(43,q)::(42,p)::(41,o)::(40,n)::l) l = [(0,a),(1,b),(3,c),(4,y),(5,e),(6,f),(7,g),(8,h),(16,i),(17,j),(18,k),(28,m)] := by intros; rfl
  refine R_nil (tr ..) ?_; clear tr
  refine then_n ?_
  refine at_ret rfl ?_
  have hD2 : ∀ i, i < D.length → 0 ≤ gt D i ∧ gt D i < 20 := fun i hi => hD i (by omega)
  have t1 := Int.tmod_lt_of_pos f0 (show (0 : Int) < 100000 by decide)
  have t2 := Int.tmod_lt_of_pos r0 (show (0 : Int) < 10 by decide)
  refine fin_pure (rs := [.tmp 4, .cell 5 24]) rfl (by simp (disch := first | omega | (simp only [List.length_map, List.length_append, List.length_set, List.length_cons, List.length_nil]; omega)) only [go_sem, ↓reduceIte, Nat.reduceEqDiff, reduceCtorEq, q5] <;> rfl) (v := .tup [AV.i (n : Nat), .agg (ssC (max 0 (f0.tmod 100000)) (max 0 (r0.tmod 10)) D)]) (by show AV.tup [_, .agg [_, _, frz _ _ 6 (.own 1 H2.length 0 n)]] = _; rw [frz_row q7 (by omega) hDl.symm]; rfl) ?_
  exact ⟨⟨n, _, _, D, hn, rfl, ⟨by omega, by omega⟩, ⟨by omega, by omega⟩, hDl, hD2⟩, rfl⟩

end Go.Proofs.Ytkjgmpjnhfmecaa
