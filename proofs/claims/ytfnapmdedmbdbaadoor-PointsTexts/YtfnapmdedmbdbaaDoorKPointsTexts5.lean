/-
  Texts of PointsTexts, part 6 of 10. Callees taken by contract where it is asked that draws are never taken back: math/bits.Add64, Mul64.
-/
import Derived.Test.YtfnapmdedmbdbaaDoorKPointsTexts3
import Derived.Test.YtfnapmdedmbdbaaDoorKPointsTexts4
import Derived.KernelRfl
import Derived.Laws.Externs
import Derived.Shelf.SlSortCmp.InsertionK
section
set_option linter.unusedVariables false
namespace Go.Proofs.YtfnapmdedmbdbaaDoor
open Go Go.Am Go.RowKit Go.Sort
instance dnT : Dn := ⟨True⟩
def add64V : List AV → Heap → Option AV
  | [.v (.int .u64 x), .v (.int .u64 y), .v (.int .u64 c)], _ => if 0 ≤ x ∧ 0 ≤ y ∧ 0 ≤ c ∧ c ≤ 1 then some (.tup [.v (.int .u64 ((x + y + c) % 18446744073709551616)), .v (.int .u64 ((x + y + c) / 18446744073709551616))]) else none
  | _, _ => none
def mul64V : List AV → Heap → Option AV
  | [.v (.int .u64 x), .v (.int .u64 y)], _ => if (0 ≤ x ∧ x ≤ 18446744073709551615) ∧ 0 ≤ y ∧ y ≤ 18446744073709551615 then some (.tup [.v (.int .u64 (x * y / 18446744073709551616)), .v (.int .u64 (x * y % 18446744073709551616))]) else none
  | _, _ => none
theorem two_args {φ : Phi} {I : Nat → Prop} {w : World} {a b : Value} {cs : Array Value} (h : DL φ I w [.v a, .v b] cs) : cs = #[a, b] := by
  obtain ⟨l⟩ := cs
  have hl : l.length = 2 := by simpa using h.1
  match l, hl, h with
  | [x, y], _, h =>
    have h0 := den_v (h.2 0 _ x rfl rfl)
    have h1 := den_v (h.2 1 _ y rfl rfl)
    rw [h0, h1]
theorem three_args {φ : Phi} {I : Nat → Prop} {w : World} {a b c : Value} {cs : Array Value} (h : DL φ I w [.v a, .v b, .v c] cs) : cs = #[a, b, c] := by
  obtain ⟨l⟩ := cs
  have hl : l.length = 3 := by simpa using h.1
  match l, hl, h with
  | [x, y, z], _, h =>
    have h0 := den_v (h.2 0 _ x rfl rfl)
    have h1 := den_v (h.2 1 _ y rfl rfl)
    have h2 := den_v (h.2 2 _ z rfl rfl)
    rw [h0, h1, h2]
theorem named50 : Named Tryd.prog 50 := ⟨Tryd.f50, Tryd.func50, by kernel_rfl, by kernel_rfl⟩
/-- The model's own entries for the sums and differences with a carry. -/
def addE : Array Value → Sem Value := fun args => do
  let (x, y, c) ← Extern.MathBitsCarry.three "Add64" args
  pure (Extern.MathBitsCarry.pair ((x + y + c) % Extern.MathBitsCarry.m64) ((x + y + c) / Extern.MathBitsCarry.m64))
theorem run_addE {P : Program} (x y c : Nat) (hc : c ≤ 1) (w : World) :
    (addE #[.int .u64 x, .int .u64 y, .int .u64 c]).run P w = .ok (.tuple #[.int .u64 (((x + y + c) % 18446744073709551616 : Nat) : Int), .int .u64 (((x + y + c) / 18446744073709551616 : Nat) : Int)]) w := by
  have : c = 0 ∨ c = 1 := by omega
  rcases this with rfl | rfl <;> rfl
theorem run61 (x y c : Nat) (hc : c ≤ 1) (w : World) :
    (callFunc 61 #[.int .u64 x, .int .u64 y, .int .u64 c]).run Tryd.prog w = .ok (.value (.tuple #[.int .u64 (((x + y + c) % 18446744073709551616 : Nat) : Int), .int .u64 (((x + y + c) / 18446744073709551616 : Nat) : Int)])) w := by
  rw [run_callFunc_extern Tryd.func61 (by kernel_rfl) (by kernel_rfl) (by kernel_rfl) (e := addE) (by kernel_rfl), run_addE x y c hc]
  rfl
theorem den_two {φ : Phi} {I : Nat → Prop} {w : World} (a b : Value) : Den φ I w (.tup [.v a, .v b]) (.tuple #[a, b]) :=
  .tup _ _ rfl (fun j x y hx hy => (DL.vs (φ := φ) (I := I) (w := w) [_, _]).2 j x y hx hy)
theorem nat_of {x : Int} (h : 0 ≤ x) : ∃ n : Nat, x = (n : Int) := ⟨x.toNat, by omega⟩
def primC : FuncId → Option (List AV → Heap → Option AV)
  | 61 => some add64V
  | 50 => some mul64V
  | _ => none
theorem primC_ok : ∀ f p, primC f = some p → ∀ args H r, p args H = some r → ∀ (lim : Nat) (φ : Phi) (I : Nat → Prop) (w : World) (cs : Array Value), Tb w → Rel lim φ I w H → DL φ I w args cs → CallW Tryd.prog f cs w (PurePost φ I w lim H r) := by
  intro f p h args H r hr lim φ I w cs hT hR hD
  unfold primC at h
  split at h
  · cases h
    unfold add64V at hr
    split at hr
    · rename_i x y c _
      cases three_args hD
      split at hr
      · rename_i hk
        obtain ⟨hx, hy, hc, hc1⟩ := hk
        obtain ⟨x, rfl⟩ := nat_of hx
        obtain ⟨y, rfl⟩ := nat_of hy
        obtain ⟨c, rfl⟩ := nat_of hc
        cases hr
        exact .inr ⟨_, fun w' => run61 x y c (by omega) w', _, I, rfl, den_two _ _, fun _ h => h, Bel.refl _ _, hR⟩
      · cases hr
    · cases hr
  · cases h
    unfold mul64V at hr
    split at hr
    · rename_i x y _
      cases two_args hD
      split at hr
      · rename_i hk
        obtain ⟨⟨hx, hx1⟩, hy, hy1⟩ := hk
        obtain ⟨x, rfl⟩ := nat_of hx
        obtain ⟨y, rfl⟩ := nat_of hy
        cases hr
        refine .inl ⟨named50, (Tryd.bits_Mul64 x y (by omega) (by omega) w).mono ?_⟩
        rintro e w' ⟨rfl, rfl⟩
        exact ⟨_, I, rfl, den_two _ _, fun _ h => h, Bel.refl _ _, hR⟩
      · cases hr
    · cases hr
  · cases h
end Go.Proofs.YtfnapmdedmbdbaaDoor
end
section
set_option linter.unusedVariables false
namespace Go.Proofs.YtfnapmdedmbdbaaDoor.C
open Go Go.Am
noncomputable def fns : FuncId → Option FnA
  | 13 => some fa13
  | 33 => some fa33
  | 11 => some fa11
  | 26 => some fa26
  | 44 => some fa44
  | 27 => some fa27
  | 28 => some fa28
  | 49 => some fa49
  | 51 => some fa51
  | _ => none
noncomputable def sig : Sig := { P := Tryd.prog, fns := fns, prim := primC, own := fun _ => false, fz := fun _ => false }
theorem fnOK13 : FnOK Tryd.prog sig.pure 13 fa13 := ⟨Tryd.func13, by kernel_rfl, fun c hc => by cases hc; kernel_rfl⟩
theorem fnOK33 : FnOK Tryd.prog sig.pure 33 fa33 := ⟨Tryd.func33, by kernel_rfl, fun c hc => by cases hc; kernel_rfl⟩
theorem fnOK11 : FnOK Tryd.prog sig.pure 11 fa11 := ⟨Tryd.func11, by kernel_rfl, fun c hc => by cases hc; kernel_rfl⟩
theorem fnOK26 : FnOK Tryd.prog sig.pure 26 fa26 := ⟨Tryd.func26, by kernel_rfl, fun c hc => by cases hc; kernel_rfl⟩
theorem fnOK44 : FnOK Tryd.prog sig.pure 44 fa44 := ⟨Tryd.func44, by kernel_rfl, fun c hc => by cases hc; kernel_rfl⟩
theorem fnOK27 : FnOK Tryd.prog sig.pure 27 fa27 := ⟨Tryd.func27, by kernel_rfl, fun c hc => by cases hc; kernel_rfl⟩
theorem fnOK28 : FnOK Tryd.prog sig.pure 28 fa28 := ⟨Tryd.func28, by kernel_rfl, fun c hc => by cases hc; kernel_rfl⟩
theorem fnOK49 : FnOK Tryd.prog sig.pure 49 fa49 := ⟨Tryd.func49, by kernel_rfl, fun c hc => by cases hc; kernel_rfl⟩
theorem fnOK51 : FnOK Tryd.prog sig.pure 51 fa51 := ⟨Tryd.func51, by kernel_rfl, fun c hc => by cases hc; kernel_rfl⟩
theorem fns_ok : ∀ f fa, fns f = some fa → FnOK Tryd.prog sig.pure f fa := by
  intro f fa h
  unfold fns at h
  split at h <;> first | (cases h; done) | skip
  · cases h; exact fnOK13
  · cases h; exact fnOK33
  · cases h; exact fnOK11
  · cases h; exact fnOK26
  · cases h; exact fnOK44
  · cases h; exact fnOK27
  · cases h; exact fnOK28
  · cases h; exact fnOK49
  · cases h; exact fnOK51
theorem sig_ok : SigOK sig := ⟨by kernel_rfl, fns_ok, fun f h => by simp [sig] at h, fun f p h => ⟨rfl, primC_ok f p h⟩, fun f p h => by cases h⟩
theorem sigP : sig.P = Tryd.prog := rfl
attribute [go_sem] sigP
end Go.Proofs.YtfnapmdedmbdbaaDoor.C
end
section
set_option linter.unusedSimpArgs false
set_option linter.unusedVariables false
set_option maxHeartbeats 1000000
set_option maxRecDepth 20000
namespace Go.Proofs.YtfnapmdedmbdbaaDoor.C
open Go Go.Am
abbrev lc_within_ok (a b c : AV) : Env := [(0,a),(1,b),(4,c)]
theorem within_ok (lim : Nat) (H : Heap) (n hi : Int) : ACall sig lim 44 [AV.i n, AV.i hi] H fun r H' => r = .v (.bool (decide (0 ≤ n ∧ n ≤ hi))) ∧ H' = H := by
 refine ACall_pure (fa := fa44) rfl rfl rfl rfl ?_
 have tr : ∀ a0 a1 : AV, env0 fa44.keep [a0, a1] = lc_within_ok a0 a1 .any := fun a0 a1 => rfl
 refine W_to (tr _ _) ?_; clear tr
 refine at_seq rfl ?_
 refine rg rfl ?_
 refine Rq ?_
 have tr : ∀ a b c d : AV, let l := lc_within_ok a b c; trim ((4,d)::l) l = lc_within_ok a b d := by intros; rfl
 refine R_nil (tr ..) ?_; clear tr
 refine then_n ?_
 refine at_seq rfl ?_
 refine rg rfl ?_
 refine Rq ?_
 refine Rq ?_
 refine Rq ?_
 refine Rp_split (fun h1 => ?_) (fun h1 => ?_)
 ·
  try simp only [decide_eq_true_eq, decide_eq_false_iff_not, decide_eq_decide, Bool.not_eq_true', Bool.not_eq_false', beq_iff_eq, beq_eq_false_iff_ne, ne_eq, Bool.and_eq_true, Bool.and_eq_false_iff, decide_not] at h1
  refine Ry ?_
  refine Rq ?_
  refine Ry ?_
  refine Rq ?_
  refine Ry ?_
  refine Rq ?_
  refine Rq ?_
  refine Rq ?_
  have tr : ∀ a b c d e f g h i j k : AV, let l := lc_within_ok a b c; trim ((4,k)::(11,j)::(10,i)::(9,h)::(8,g)::(7,f)::(6,e)::(5,d)::l) l = lc_within_ok a b k := by intros; rfl
  refine R_nil (tr ..) ?_; clear tr
  refine then_n ?_
  refine at_ret rfl ?_
  refine fpure ?_
  refine ⟨?_, rfl⟩
  refine congrArg (fun b => AV.v (.bool b)) ?_
  first | rfl | exact (decide_eq_false (by omega)).symm | exact (decide_eq_true (by omega)).symm | (rw [decide_eq_decide]; omega) | (simp; omega)
 ·
  try simp only [decide_eq_true_eq, decide_eq_false_iff_not, decide_eq_decide, Bool.not_eq_true', Bool.not_eq_false', beq_iff_eq, beq_eq_false_iff_ne, ne_eq, Bool.and_eq_true, Bool.and_eq_false_iff, decide_not] at h1
  refine Rn ?_
  refine Rn ?_
  refine Rn ?_
  refine Rq ?_
  refine Rq ?_
  have tr : ∀ a b c d e f g h i j k : AV, let l := lc_within_ok a b c; trim ((4,k)::(11,j)::(10,i)::(9,h)::(8,g)::(7,f)::(6,e)::(5,d)::l) l = lc_within_ok a b k := by intros; rfl
  refine R_nil (tr ..) ?_; clear tr
  refine then_n ?_
  refine at_ret rfl ?_
  refine fpure ?_
  refine ⟨?_, rfl⟩
  refine congrArg (fun b => AV.v (.bool b)) ?_
  first | rfl | exact (decide_eq_false (by omega)).symm | exact (decide_eq_true (by omega)).symm | (rw [decide_eq_decide]; omega) | (simp; omega)

abbrev lc_before_ok (a b c : AV) : Env := [(0,a),(2,b),(3,c)]
theorem before_ok (lim : Nat) (H : Heap) (b : Bool) : ACall sig lim 33 [.v (.bool b)] H fun r H' => r = AV.i (if b = true then -1 else 1) ∧ H' = H := by
 refine ACall_pure (fa := fa33) rfl rfl rfl rfl ?_
 have tr : ∀ a0 : AV, env0 fa33.keep [a0] = lc_before_ok a0 .any .any := fun a0 => rfl
 refine W_to (tr _) ?_; clear tr
 refine at_seq rfl ?_
 refine rg rfl ?_
 refine Rq ?_
 have tr : ∀ a b c d : AV, let l := lc_before_ok a b c; trim ((2,d)::l) l = lc_before_ok a d c := by intros; rfl
 refine R_nil (tr ..) ?_; clear tr
 refine then_n ?_
 refine at_seq rfl ?_
 refine at_seq rfl ?_
 refine rg rfl ?_
 refine Rq ?_
 have tr : ∀ a b c d : AV, let l := lc_before_ok a b c; trim ((3,d)::l) l = lc_before_ok a b d := by intros; rfl
 refine R_nil (tr ..) ?_; clear tr
 refine then_n ?_
 refine cdd (fun h1 => ?_) (fun h1 => ?_)
 ·
  try simp only [decide_eq_true_eq, decide_eq_false_iff_not, decide_eq_decide, Bool.not_eq_true', Bool.not_eq_false', beq_iff_eq, beq_eq_false_iff_ne, ne_eq, Bool.and_eq_true, Bool.and_eq_false_iff, decide_not] at h1
  refine at_seq rfl ?_
  refine rg rfl ?_
  refine Rq ?_
  have tr : ∀ a b c d : AV, let l := lc_before_ok a b c; trim ((2,d)::l) l = lc_before_ok a d c := by intros; rfl
  refine R_nil (tr ..) ?_; clear tr
  refine then_n ?_
  refine at_ret rfl ?_
  refine then_r ?_
  refine fpure ?_
  refine ⟨?_, rfl⟩
  first | rfl | (rw [if_pos (by assumption)] <;> rfl) | (rw [if_neg (by simp_all)] <;> rfl) | (simp_all <;> rfl)
 ·
  try simp only [decide_eq_true_eq, decide_eq_false_iff_not, decide_eq_decide, Bool.not_eq_true', Bool.not_eq_false', beq_iff_eq, beq_eq_false_iff_ne, ne_eq, Bool.and_eq_true, Bool.and_eq_false_iff, decide_not] at h1
  refine at_skip rfl ?_
  refine then_n ?_
  refine at_seq rfl ?_
  refine rg rfl ?_
  refine Rq ?_
  have tr : ∀ a b c d : AV, let l := lc_before_ok a b c; trim ((2,d)::l) l = lc_before_ok a d c := by intros; rfl
  refine R_nil (tr ..) ?_; clear tr
  refine then_n ?_
  refine at_ret rfl ?_
  refine fpure ?_
  refine ⟨?_, rfl⟩
  first | rfl | (rw [if_pos (by assumption)] <;> rfl) | (rw [if_neg (by simp_all)] <;> rfl) | (simp_all <;> rfl)

abbrev lc_rate_ok (a b c d e f g h i j k m n o p q : AV) : Env := [(0,a),(1,b),(2,c),(3,d),(4,e),(6,f),(7,g),(8,h),(9,i),(10,j),(19,k),(20,m),(21,n),(25,o),(36,p),(38,q)]
theorem rate_ok (lim : Nat) (H : Heap) (z : St) : ACall sig lim 26 [stA z] H fun r H' => r = .tup [AV.i (rtN z), AV.i (rtD z), .v (.bool (decide (okS z)))] ∧ H' = H := by
 refine ACall_pure (fa := fa26) rfl rfl rfl rfl ?_
 have tr : ∀ a0 : AV, env0 fa26.keep [a0] = lc_rate_ok a0 .any .any .any .any .any .any .any .any .any .any .any .any .any .any .any := fun a0 => rfl
 refine W_to (tr _) ?_; clear tr
 refine at_seq rfl ?_
 refine rg rfl ?_
 refine R_box rfl (by simp (disch := first | omega | (simp only [List.length_map, List.length_append, List.length_set, List.length_cons, List.length_nil]; omega)) only [go_sem, ↓reduceIte, Nat.reduceEqDiff, reduceCtorEq] <;> rfl) rfl rfl ?_
 refine Rq ?_
 refine Rq ?_
 refine Rq ?_
 have tr : ∀ a b c d e f g h i j k m n o p q r s t u : AV, let l := lc_rate_ok a b c d e f g h i j k m n o p q; trim ((4,u)::(3,t)::(2,s)::(1,r)::l) l = lc_rate_ok a r s t u f g h i j k m n o p q := by intros; rfl
 refine R_nil (tr ..) ?_; clear tr
 refine then_n ?_
 refine at_seq rfl ?_
 refine at_seq rfl ?_
 refine rg rfl ?_
 refine Rq ?_
 refine Rq ?_
 refine Rq ?_
 refine Rq ?_
 refine Rq ?_
 refine Rq ?_
 refine Rq ?_
 refine Rq ?_
 refine Rq ?_
 refine Rq ?_
 have tr : ∀ a b c d e f g h i j k m n o p q r s t u v w x y z A : AV, let l := lc_rate_ok a b c d e f g h i j k m n o p q; trim ((20,A)::(19,z)::(18,y)::(17,x)::(16,w)::(15,v)::(14,u)::(13,t)::(12,s)::(11,r)::l) l = lc_rate_ok a b c d e f g h i j z A n o p q := by intros; rfl
 refine R_nil (tr ..) ?_; clear tr
 refine then_n ?_
 refine at_block rfl ?_
 refine loop_n rfl (fun mm kv H' => ∃ i : Nat, ∃ x2 x3 x4 x6 x21 x25 : AV, (kv = [(2, x2), (3, x3), (4, x4), (6, x6), (20, AV.i (i : Int)), (21, x21), (25, x25)]) ∧ (mm = 4 - i) ∧ (H' = H ++ [some (stL z)]) ∧ (i ≤ 4) ∧ (∀ j, j < i → inS (gt4 z j))) ⟨0, _, _, _, _, _, _, rfl, rfl, rfl, by omega, by (intro j hj; omega)⟩ (by rfl) ?_
 rintro mm kv H' ⟨i, x2, x3, x4, x6, x21, x25, rfl, rfl, rfl, hi, hr⟩
 have tr : ∀ a b c d e f g h i j k m n o p q r s t u v w x : AV, upd (lc_rate_ok a b c d e f g h i j k m n o p q) [(2,r),(3,s),(4,t),(6,u),(20,v),(21,w),(25,x)] = lc_rate_ok a b r s t u g h i j k v w x p q := by intros; rfl
 refine W_to (tr ..) ?_; clear tr
 refine at_seq rfl ?_
 refine rg rfl ?_
 refine Rq ?_
 have tr : ∀ a b c d e f g h i j k m n o p q r : AV, let l := lc_rate_ok a b c d e f g h i j k m n o p q; trim ((21,r)::l) l = lc_rate_ok a b c d e f g h i j k m r o p q := by intros; rfl
 refine R_nil (tr ..) ?_; clear tr
 refine then_n ?_
 refine at_seq rfl ?_
 refine cdd (fun h1 => ?_) (fun h1 => ?_)
 ·
  try simp only [decide_eq_true_eq, decide_eq_false_iff_not, decide_eq_decide, Bool.not_eq_true', Bool.not_eq_false', beq_iff_eq, beq_eq_false_iff_ne, ne_eq, Bool.and_eq_true, Bool.and_eq_false_iff, decide_not] at h1
  refine at_skip rfl ?_
  refine then_n ?_
  refine at_seq rfl ?_
  refine at_block rfl ?_
  refine at_seq rfl ?_
  refine rg rfl ?_
  refine R_q (r := AV.i (gt4 z i)) rfl (by simp only [go_sem, ↓reduceIte, Nat.reduceEqDiff]; exact ix77 z i (by omega)) ?_
  refine Rq ?_
  have tr : ∀ a b c d e f g h i j k m n o p q r s : AV, let l := lc_rate_ok a b c d e f g h i j k m n o p q; trim ((6,s)::(22,r)::l) l = lc_rate_ok a b c d e s g h i j k m n o p q := by intros; rfl
  refine R_nil (tr ..) ?_; clear tr
  refine then_n ?_
  refine at_seq rfl ?_
  refine rg rfl ?_
  refine Rq ?_
  refine Rcall ?_
  refine ACall_eq (within_ok _ _ _ _) ?_
  refine Rq ?_
  have tr : ∀ a b c d e f g h i j k m n o p q r s t : AV, let l := lc_rate_ok a b c d e f g h i j k m n o p q; trim ((25,t)::(24,s)::(23,r)::l) l = lc_rate_ok a b c d e f g h i j k m n t p q := by intros; rfl
  refine R_nil (tr ..) ?_; clear tr
  refine then_n ?_
  refine cdd (fun h2 => ?_) (fun h2 => ?_)
  ·
   try simp only [decide_eq_true_eq, decide_eq_false_iff_not, decide_eq_decide, Bool.not_eq_true', Bool.not_eq_false', beq_iff_eq, beq_eq_false_iff_ne, ne_eq, Bool.and_eq_true, Bool.and_eq_false_iff, decide_not] at h2
   refine at_seq rfl ?_
   refine rg rfl ?_
   have hno : ¬ okS z := gt4_no (j := i) (by omega) (by unfold inS; omega)
   refine Rq ?_
   refine Rq ?_
   refine Rq ?_
   have tr : ∀ a b c d e f g h i j k m n o p q r s t : AV, let l := lc_rate_ok a b c d e f g h i j k m n o p q; trim ((4,t)::(3,s)::(2,r)::l) l = lc_rate_ok a b r s t f g h i j k m n o p q := by intros; rfl
   refine R_nil (tr ..) ?_; clear tr
   refine then_n ?_
   refine at_ret rfl ?_
   refine blk_r ?_
   refine then_r ?_
   refine then_r ?_
   refine blk_r ?_
   refine then_r ?_
   first | (refine fpure ?_; refine ⟨?_, rfl⟩; rw [rtN_n hno, rtD_n hno, decide_eq_false hno] <;> rfl; done) | (refine fpure ?_; refine ⟨?_, rfl⟩; rw [rtN_y hok, rtD_y hok, decide_eq_true hok] <;> rfl)
  ·
   try simp only [decide_eq_true_eq, decide_eq_false_iff_not, decide_eq_decide, Bool.not_eq_true', Bool.not_eq_false', beq_iff_eq, beq_eq_false_iff_ne, ne_eq, Bool.and_eq_true, Bool.and_eq_false_iff, decide_not] at h2
   refine at_skip rfl ?_
   refine blk_n ?_
   refine then_n ?_
   refine rg rfl ?_
   have hin : inS (gt4 z i) := by unfold inS; omega
   refine Rq ?_
   refine Rq ?_
   have tr : ∀ a b c d e f g h i j k m n o p q r s : AV, let l := lc_rate_ok a b c d e f g h i j k m n o p q; trim ((20,s)::(26,r)::l) l = lc_rate_ok a b c d e f g h i j k s n o p q := by intros; rfl
   refine R_nil (tr ..) ?_; clear tr
   refine then_n ?_
   exact ⟨_, _, ⟨i + 1, _, _, _, _, _, _, rfl, rfl, rfl, by omega, by (intro j hj; rcases Nat.lt_succ_iff_lt_or_eq.mp hj with h | rfl; exact hr j h; exact hin)⟩, by rfl, by omega⟩
 ·
  try simp only [decide_eq_true_eq, decide_eq_false_iff_not, decide_eq_decide, Bool.not_eq_true', Bool.not_eq_false', beq_iff_eq, beq_eq_false_iff_ne, ne_eq, Bool.and_eq_true, Bool.and_eq_false_iff, decide_not] at h1
  refine at_exit rfl ?_
  refine then_x ?_
  refine then_x ?_
  refine blk_x ?_
  refine then_n ?_
  refine at_seq rfl ?_
  refine rd rfl rfl ?_
  obtain rfl : i = 4 := by omega
  have hok := gt4_ok hr
  have hpr := prod_rng hok
  refine Qq ?_
  refine Qq ?_
  refine Qq ?_
  refine Qq ?_
  refine Qq ?_
  refine Qq ?_
  refine Qq ?_
  refine Qq ?_
  refine Qq ?_
  refine Qq ?_
  refine Qq ?_
  refine Qq ?_
  refine Q_nil ?_
  have tr : ∀ a b c d e f g h i j k m n o p q r s t u v w x y z A B C : AV, let l := lc_rate_ok a b c d e f g h i j k m n o p q; trim ((10,C)::(9,B)::(8,A)::(7,z)::(34,y)::(33,x)::(32,w)::(31,v)::(30,u)::(29,t)::(28,s)::(27,r)::l) l = lc_rate_ok a b c d e f z A B C k m n o p q := by intros; rfl
  refine R_nil (tr ..) ?_; clear tr
  refine then_n ?_
  refine seq_cut rfl (fun s => ∃ x2 x3 x4 x6 x20 x21 x25 x36 : AV, s = ⟨[(0, stA z), (1, .ptr H.length 0), (2, x2), (3, x3), (4, x4), (6, x6), (7, AV.i (nil0 z.bf z.rf)), (8, AV.i (one z.bf)), (9, AV.i (z.ra)), (10, AV.i (z.ba)), (19, .agg [AV.i z.rf, AV.i z.bf, AV.i z.ra, AV.i z.ba]), (20, x20), (21, x21), (25, x25), (36, x36), (38, .any)], H ++ [some (stL z)]⟩) ?_ ?_
  ·
   refine at_seq rfl ?_
   refine rg rfl ?_
   refine Rq ?_
   refine Rq ?_
   have tr : ∀ a b c d e f g h i j k m n o p q r s : AV, let l := lc_rate_ok a b c d e f g h i j k m n o p q; trim ((36,s)::(35,r)::l) l = lc_rate_ok a b c d e f g h i j k m n o s q := by intros; rfl
   refine R_nil (tr ..) ?_; clear tr
   refine then_n ?_
   refine cdd (fun h3 => ?_) (fun h3 => ?_)
   ·
    try simp only [decide_eq_true_eq, decide_eq_false_iff_not, decide_eq_decide, Bool.not_eq_true', Bool.not_eq_false', beq_iff_eq, beq_eq_false_iff_ne, ne_eq, Bool.and_eq_true, Bool.and_eq_false_iff, decide_not] at h3
    refine rg rfl ?_
    refine Rq ?_
    refine Rq ?_
    have tr : ∀ a b c d e f g h i j k m n o p q r s : AV, let l := lc_rate_ok a b c d e f g h i j k m n o p q; trim ((8,s)::(7,r)::l) l = lc_rate_ok a b c d e f r s i j k m n o p q := by intros; rfl
    refine R_nil (tr ..) ?_; clear tr
    refine then_n ?_
    exact ⟨_, _, _, _, _, _, _, _, by first | (rw [nil0_y (by assumption : z.bf = 0), one_y (by assumption : z.bf = 0)]) | (rw [nil0_n (by assumption : ¬ z.bf = 0), one_n (by assumption : ¬ z.bf = 0)])⟩
   ·
    try simp only [decide_eq_true_eq, decide_eq_false_iff_not, decide_eq_decide, Bool.not_eq_true', Bool.not_eq_false', beq_iff_eq, beq_eq_false_iff_ne, ne_eq, Bool.and_eq_true, Bool.and_eq_false_iff, decide_not] at h3
    refine at_skip rfl ?_
    refine then_n ?_
    exact ⟨_, _, _, _, _, _, _, _, by first | (rw [nil0_y (by assumption : z.bf = 0), one_y (by assumption : z.bf = 0)]) | (rw [nil0_n (by assumption : ¬ z.bf = 0), one_n (by assumption : ¬ z.bf = 0)])⟩
  ·
   rintro s ⟨x2, x3, x4, x6, x20, x21, x25, x36, rfl⟩
   refine seq_cut rfl (fun s => ∃ x2 x3 x4 x6 x20 x21 x25 x36 x38 : AV, s = ⟨[(0, stA z), (1, .ptr H.length 0), (2, x2), (3, x3), (4, x4), (6, x6), (7, AV.i (nil0 z.bf z.rf)), (8, AV.i (one z.bf)), (9, AV.i (nil0 z.ba z.ra)), (10, AV.i (one z.ba)), (19, .agg [AV.i z.rf, AV.i z.bf, AV.i z.ra, AV.i z.ba]), (20, x20), (21, x21), (25, x25), (36, x36), (38, x38)], H ++ [some (stL z)]⟩) ?_ ?_
   ·
    refine at_seq rfl ?_
    refine rg rfl ?_
    refine Rq ?_
    refine Rq ?_
    have tr : ∀ a b c d e f g h i j k m n o p q r s : AV, let l := lc_rate_ok a b c d e f g h i j k m n o p q; trim ((38,s)::(37,r)::l) l = lc_rate_ok a b c d e f g h i j k m n o p s := by intros; rfl
    refine R_nil (tr ..) ?_; clear tr
    refine then_n ?_
    refine cdd (fun h4 => ?_) (fun h4 => ?_)
    ·
     try simp only [decide_eq_true_eq, decide_eq_false_iff_not, decide_eq_decide, Bool.not_eq_true', Bool.not_eq_false', beq_iff_eq, beq_eq_false_iff_ne, ne_eq, Bool.and_eq_true, Bool.and_eq_false_iff, decide_not] at h4
     refine rg rfl ?_
     refine Rq ?_
     refine Rq ?_
     have tr : ∀ a b c d e f g h i j k m n o p q r s : AV, let l := lc_rate_ok a b c d e f g h i j k m n o p q; trim ((10,s)::(9,r)::l) l = lc_rate_ok a b c d e f g h r s k m n o p q := by intros; rfl
     refine R_nil (tr ..) ?_; clear tr
     refine then_n ?_
     exact ⟨_, _, _, _, _, _, _, _, _, by first | (rw [nil0_y (by assumption : z.ba = 0), one_y (by assumption : z.ba = 0)]) | (rw [nil0_n (by assumption : ¬ z.ba = 0), one_n (by assumption : ¬ z.ba = 0)])⟩
    ·
     try simp only [decide_eq_true_eq, decide_eq_false_iff_not, decide_eq_decide, Bool.not_eq_true', Bool.not_eq_false', beq_iff_eq, beq_eq_false_iff_ne, ne_eq, Bool.and_eq_true, Bool.and_eq_false_iff, decide_not] at h4
     refine at_skip rfl ?_
     refine then_n ?_
     exact ⟨_, _, _, _, _, _, _, _, _, by first | (rw [nil0_y (by assumption : z.ba = 0), one_y (by assumption : z.ba = 0)]) | (rw [nil0_n (by assumption : ¬ z.ba = 0), one_n (by assumption : ¬ z.ba = 0)])⟩
   ·
    rintro s ⟨x2, x3, x4, x6, x20, x21, x25, x36, x38, rfl⟩
    refine at_seq rfl ?_
    refine rg rfl ?_
    refine Rq ?_
    refine Rq ?_
    refine Rq ?_
    refine Rq ?_
    refine Rq ?_
    refine Rq ?_
    refine Rq ?_
    refine Rq ?_
    refine Rq ?_
    refine Rq ?_
    refine Rq ?_
    refine Rq ?_
    refine Rq ?_
    have tr : ∀ a b c d e f g h i j k m n o p q r s t u v w x y z A B C D : AV, let l := lc_rate_ok a b c d e f g h i j k m n o p q; trim ((4,D)::(3,C)::(2,B)::(48,A)::(47,z)::(46,y)::(45,x)::(44,w)::(43,v)::(42,u)::(41,t)::(40,s)::(39,r)::l) l = lc_rate_ok a b B C D f g h i j k m n o p q := by intros; rfl
    refine R_nil (tr ..) ?_; clear tr
    refine then_n ?_
    refine at_ret rfl ?_
    first | (refine fpure ?_; refine ⟨?_, rfl⟩; rw [rtN_n hno, rtD_n hno, decide_eq_false hno] <;> rfl; done) | (refine fpure ?_; refine ⟨?_, rfl⟩; rw [rtN_y hok, rtD_y hok, decide_eq_true hok] <;> rfl)

end Go.Proofs.YtfnapmdedmbdbaaDoor.C
end
section
set_option linter.unusedVariables false
namespace Go.Proofs.YtfnapmdedmbdbaaDoor.C
open Go Go.Am
/-! ### The callees that are taken by contract -/
theorem add64_ok (lim : Nat) (H : Heap) (x y c : Int) (h : 0 ≤ x ∧ 0 ≤ y ∧ 0 ≤ c ∧ c ≤ 1) : ACall sig lim 61 [u6 x, u6 y, u6 c] H fun r H' => r = .tup [u6 ((x + y + c) % 18446744073709551616), u6 ((x + y + c) / 18446744073709551616)] ∧ H' = H :=
  ⟨1, _, H, by show Option.map _ (add64V [u6 x, u6 y, u6 c] H) = _; simp only [add64V, if_pos h]; rfl, rfl, rfl⟩
theorem mul64_ok (lim : Nat) (H : Heap) (x y : Int) (h : (0 ≤ x ∧ x ≤ 18446744073709551615) ∧ 0 ≤ y ∧ y ≤ 18446744073709551615) : ACall sig lim 50 [u6 x, u6 y] H fun r H' => r = .tup [u6 (x * y / 18446744073709551616), u6 (x * y % 18446744073709551616)] ∧ H' = H :=
  ⟨1, _, H, by show Option.map _ (mul64V [u6 x, u6 y] H) = _; simp only [mul64V, if_pos h]; rfl, rfl, rfl⟩
end Go.Proofs.YtfnapmdedmbdbaaDoor.C
end
section
set_option linter.unusedSimpArgs false
set_option linter.unusedVariables false
set_option maxHeartbeats 1000000
set_option maxRecDepth 20000
namespace Go.Proofs.YtfnapmdedmbdbaaDoor.C
open Go Go.Am
abbrev lc_word_ok (a b c d : AV) : Env := [(0,a),(2,b),(3,c),(5,d)]
theorem word_ok (lim : Nat) (H : Heap) (n : Int) (hn : -9223372036854775808 ≤ n ∧ n ≤ 9223372036854775807) : ACall sig lim 49 [AV.i n] H fun r H' => r = .tup [u6 (ab n), .v (.bool (decide (n < 0)))] ∧ H' = H := by
 refine ACall_pure (fa := fa49) rfl rfl rfl rfl ?_
 have tr : ∀ a0 : AV, env0 fa49.keep [a0] = lc_word_ok a0 .any .any .any := fun a0 => rfl
 refine W_to (tr _) ?_; clear tr
 refine at_seq rfl ?_
 refine rg rfl ?_
 refine Rq ?_
 refine Rq ?_
 have tr : ∀ a b c d e f : AV, let l := lc_word_ok a b c d; trim ((3,f)::(2,e)::l) l = lc_word_ok a e f d := by intros; rfl
 refine R_nil (tr ..) ?_; clear tr
 refine then_n ?_
 refine at_seq rfl ?_
 refine at_seq rfl ?_
 refine rg rfl ?_
 refine Rq ?_
 refine Rq ?_
 have tr : ∀ a b c d e f : AV, let l := lc_word_ok a b c d; trim ((5,f)::(4,e)::l) l = lc_word_ok a b c f := by intros; rfl
 refine R_nil (tr ..) ?_; clear tr
 refine then_n ?_
 refine cdd (fun h1 => ?_) (fun h1 => ?_)
 ·
  try simp only [decide_eq_true_eq, decide_eq_false_iff_not, decide_eq_decide, Bool.not_eq_true', Bool.not_eq_false', beq_iff_eq, beq_eq_false_iff_ne, ne_eq, Bool.and_eq_true, Bool.and_eq_false_iff, decide_not] at h1
  refine at_seq rfl ?_
  refine rg rfl ?_
  refine Rq ?_
  refine Rq ?_
  refine Rq ?_
  refine Rq ?_
  refine Rq ?_
  have tr : ∀ a b c d e f g h i : AV, let l := lc_word_ok a b c d; trim ((3,i)::(2,h)::(8,g)::(7,f)::(6,e)::l) l = lc_word_ok a h i d := by intros; rfl
  refine R_nil (tr ..) ?_; clear tr
  refine then_n ?_
  refine at_ret rfl ?_
  refine then_r ?_
  refine fpure ?_
  refine ⟨?_, rfl⟩
  first | (rw [ab_neg (by omega)]; exact tup2 (by omega) (by simp; omega)) | (rw [ab_pos (by omega)]; exact tup2 (by omega) (by simp; omega))
 ·
  try simp only [decide_eq_true_eq, decide_eq_false_iff_not, decide_eq_decide, Bool.not_eq_true', Bool.not_eq_false', beq_iff_eq, beq_eq_false_iff_ne, ne_eq, Bool.and_eq_true, Bool.and_eq_false_iff, decide_not] at h1
  refine at_skip rfl ?_
  refine then_n ?_
  refine at_seq rfl ?_
  refine rg rfl ?_
  refine Rq ?_
  refine Rq ?_
  refine Rq ?_
  refine Rq ?_
  have tr : ∀ a b c d e f g h : AV, let l := lc_word_ok a b c d; trim ((3,h)::(2,g)::(10,f)::(9,e)::l) l = lc_word_ok a g h d := by intros; rfl
  refine R_nil (tr ..) ?_; clear tr
  refine then_n ?_
  refine at_ret rfl ?_
  refine fpure ?_
  refine ⟨?_, rfl⟩
  first | (rw [ab_neg (by omega)]; exact tup2 (by omega) (by simp; omega)) | (rw [ab_pos (by omega)]; exact tup2 (by omega) (by simp; omega))

abbrev lc_made_ok (a b c d e f g h i : AV) : Env := [(0,a),(1,b),(2,c),(6,d),(7,e),(8,f),(10,g),(12,h),(27,i)]
theorem made_ok (lim : Nat) (H : Heap) (h l : Int) (hh : 0 ≤ h ∧ h ≤ 18446744073709551615) (hl : 0 ≤ l ∧ l ≤ 18446744073709551615) (neg : Bool) : ACall sig lim 51 [u6 h, u6 l, .v (.bool neg)] H fun r H' => r = .tup [wv (fS (sg neg (h * 18446744073709551616 + l))).1, .v (.bool (fS (sg neg (h * 18446744073709551616 + l))).2)] ∧ H' = H := by
 refine ACall_pure (fa := fa51) rfl rfl rfl rfl ?_
 have tr : ∀ a0 a1 a2 : AV, env0 fa51.keep [a0, a1, a2] = lc_made_ok a0 a1 a2 .any .any .any .any .any .any := fun a0 a1 a2 => rfl
 refine W_to (tr _ _ _) ?_; clear tr
 refine at_seq rfl ?_
 refine rg rfl ?_
 refine R_alloc (by simp (disch := first | omega | (simp only [List.length_map, List.length_append, List.length_set, List.length_cons, List.length_nil]; omega)) only [go_sem, ↓reduceIte, Nat.reduceEqDiff, reduceCtorEq] <;> rfl) rfl (by simp only [List.map_cons, List.map_nil]; rfl) ?_
 refine Rq ?_
 have tr : ∀ a b c d e f g h i j k : AV, let l := lc_made_ok a b c d e f g h i; trim ((7,k)::(6,j)::l) l = lc_made_ok a b c j k f g h i := by intros; rfl
 refine R_nil (tr ..) ?_; clear tr
 refine then_n ?_
 refine at_seq rfl ?_
 refine at_seq rfl ?_
 refine rg rfl ?_
 refine Rq ?_
 refine Rq ?_
 have tr : ∀ a b c d e f g h i j k : AV, let l := lc_made_ok a b c d e f g h i; trim ((10,k)::(9,j)::l) l = lc_made_ok a b c d e f k h i := by intros; rfl
 refine R_nil (tr ..) ?_; clear tr
 refine then_n ?_
 refine cdd (fun h1 => ?_) (fun h1 => ?_)
 ·
  try simp only [decide_eq_true_eq, decide_eq_false_iff_not, decide_eq_decide, Bool.not_eq_true', Bool.not_eq_false', beq_iff_eq, beq_eq_false_iff_ne, ne_eq, Bool.and_eq_true, Bool.and_eq_false_iff, decide_not] at h1
  refine at_seq rfl ?_
  refine at_seq rfl ?_
  refine rg rfl ?_
  refine Rq ?_
  refine Rq ?_
  have tr : ∀ a b c d e f g h i j k : AV, let l := lc_made_ok a b c d e f g h i; trim ((12,k)::(11,j)::l) l = lc_made_ok a b c d e f g k i := by intros; rfl
  refine R_nil (tr ..) ?_; clear tr
  refine then_n ?_
  refine cdd (fun h2 => ?_) (fun h2 => ?_)
  ·
   try simp only [decide_eq_true_eq, decide_eq_false_iff_not, decide_eq_decide, Bool.not_eq_true', Bool.not_eq_false', beq_iff_eq, beq_eq_false_iff_ne, ne_eq, Bool.and_eq_true, Bool.and_eq_false_iff, decide_not] at h2
   refine at_seq rfl ?_
   refine rg rfl ?_
   refine Rq ?_
   refine R_store ty51 (by simp (disch := first | omega | (simp only [List.length_map, List.length_append, List.length_set, List.length_cons, List.length_nil]; omega)) only [go_sem, ↓reduceIte, Nat.reduceEqDiff, reduceCtorEq] <;> rfl) (by simp (disch := first | omega | (simp only [List.length_map, List.length_append, List.length_set, List.length_cons, List.length_nil]; omega)) only [go_sem, ↓reduceIte, Nat.reduceEqDiff, reduceCtorEq] <;> rfl) (by simp (disch := first | omega | (simp only [List.length_map, List.length_append, List.length_set, List.length_cons, List.length_nil]; omega)) only [go_sem, ↓reduceIte, Nat.reduceEqDiff, reduceCtorEq] <;> rfl) (by simp) (by rfl) (by simp (disch := first | omega | (simp only [List.length_map, List.length_append, List.length_set, List.length_cons, List.length_nil]; omega)) only [go_sem, ↓reduceIte, Nat.reduceEqDiff, reduceCtorEq] <;> rfl) ?_
   refine Rq ?_
   have tr : ∀ a b c d e f g h i j k : AV, let l := lc_made_ok a b c d e f g h i; trim ((7,k)::(13,j)::l) l = lc_made_ok a b c d k f g h i := by intros; rfl
   refine R_nil (tr ..) ?_; clear tr
   refine then_n ?_
   refine at_ret rfl ?_
   refine then_r ?_
   refine then_r ?_
   first | (refine fin_pure (rs := [.cell 6 51, .tmp 7]) rfl (by simp (disch := first | omega | (simp only [List.length_map, List.length_append, List.length_set, List.length_cons, List.length_nil]; omega)) only [go_sem, ↓reduceIte, Nat.reduceEqDiff, reduceCtorEq] <;> rfl) (by simp (disch := first | omega | (simp only [List.length_map, List.length_append, List.length_set, List.length_cons, List.length_nil]; omega)) only [go_sem, ↓reduceIte, Nat.reduceEqDiff, reduceCtorEq] <;> rfl) ?_; refine ⟨?_, rfl⟩; rw [sg_f (by assumption), fS_y (by unfold Fw; omega)]; exact tupW (by omega) (by omega) rfl; done) | (refine fin_pure (rs := [.cell 6 51, .tmp 7]) rfl (by simp (disch := first | omega | (simp only [List.length_map, List.length_append, List.length_set, List.length_cons, List.length_nil]; omega)) only [go_sem, ↓reduceIte, Nat.reduceEqDiff, reduceCtorEq] <;> rfl) (by simp (disch := first | omega | (simp only [List.length_map, List.length_append, List.length_set, List.length_cons, List.length_nil]; omega)) only [go_sem, ↓reduceIte, Nat.reduceEqDiff, reduceCtorEq] <;> rfl) ?_; refine ⟨?_, rfl⟩; rw [sg_f (by assumption), fS_n (by unfold Fw; omega)]; exact tupW (by omega) (by omega) rfl; done) | (refine fin_pure (rs := [.cell 6 51, .tmp 7]) rfl (by simp (disch := first | omega | (simp only [List.length_map, List.length_append, List.length_set, List.length_cons, List.length_nil]; omega)) only [go_sem, ↓reduceIte, Nat.reduceEqDiff, reduceCtorEq] <;> rfl) (by simp (disch := first | omega | (simp only [List.length_map, List.length_append, List.length_set, List.length_cons, List.length_nil]; omega)) only [go_sem, ↓reduceIte, Nat.reduceEqDiff, reduceCtorEq] <;> rfl) ?_; refine ⟨?_, rfl⟩; rw [sg_t (by assumption), fS_y (by unfold Fw; omega)]; exact tupW (by omega) (by omega) rfl; done) | (refine fin_pure (rs := [.cell 6 51, .tmp 7]) rfl (by simp (disch := first | omega | (simp only [List.length_map, List.length_append, List.length_set, List.length_cons, List.length_nil]; omega)) only [go_sem, ↓reduceIte, Nat.reduceEqDiff, reduceCtorEq] <;> rfl) (by simp (disch := first | omega | (simp only [List.length_map, List.length_append, List.length_set, List.length_cons, List.length_nil]; omega)) only [go_sem, ↓reduceIte, Nat.reduceEqDiff, reduceCtorEq] <;> rfl) ?_; refine ⟨?_, rfl⟩; rw [sg_t (by assumption), fS_n (by unfold Fw; omega)]; exact tupW (by omega) (by omega) rfl; done)
  ·
   try simp only [decide_eq_true_eq, decide_eq_false_iff_not, decide_eq_decide, Bool.not_eq_true', Bool.not_eq_false', beq_iff_eq, beq_eq_false_iff_ne, ne_eq, Bool.and_eq_true, Bool.and_eq_false_iff, decide_not] at h2
   refine at_skip rfl ?_
   refine then_n ?_
   refine at_seq rfl ?_
   refine rg rfl ?_
   refine Rq ?_
   refine Rq ?_
   refine Rq ?_
   refine Rq ?_
   refine R_store ty51 (by simp (disch := first | omega | (simp only [List.length_map, List.length_append, List.length_set, List.length_cons, List.length_nil]; omega)) only [go_sem, ↓reduceIte, Nat.reduceEqDiff, reduceCtorEq] <;> rfl) (by simp (disch := first | omega | (simp only [List.length_map, List.length_append, List.length_set, List.length_cons, List.length_nil]; omega)) only [go_sem, ↓reduceIte, Nat.reduceEqDiff, reduceCtorEq] <;> rfl) (by simp (disch := first | omega | (simp only [List.length_map, List.length_append, List.length_set, List.length_cons, List.length_nil]; omega)) only [go_sem, ↓reduceIte, Nat.reduceEqDiff, reduceCtorEq] <;> rfl) (by simp) (by rfl) (by simp (disch := first | omega | (simp only [List.length_map, List.length_append, List.length_set, List.length_cons, List.length_nil]; omega)) only [go_sem, ↓reduceIte, Nat.reduceEqDiff, reduceCtorEq] <;> rfl) ?_
   refine Rq ?_
   have tr : ∀ a b c d e f g h i j k m n o : AV, let l := lc_made_ok a b c d e f g h i; trim ((7,o)::(17,n)::(16,m)::(15,k)::(14,j)::l) l = lc_made_ok a b c d o f g h i := by intros; rfl
   refine R_nil (tr ..) ?_; clear tr
   refine then_n ?_
   refine at_ret rfl ?_
   refine then_r ?_
   first | (refine fin_pure (rs := [.cell 6 51, .tmp 7]) rfl (by simp (disch := first | omega | (simp only [List.length_map, List.length_append, List.length_set, List.length_cons, List.length_nil]; omega)) only [go_sem, ↓reduceIte, Nat.reduceEqDiff, reduceCtorEq] <;> rfl) (by simp (disch := first | omega | (simp only [List.length_map, List.length_append, List.length_set, List.length_cons, List.length_nil]; omega)) only [go_sem, ↓reduceIte, Nat.reduceEqDiff, reduceCtorEq] <;> rfl) ?_; refine ⟨?_, rfl⟩; rw [sg_f (by assumption), fS_y (by unfold Fw; omega)]; exact tupW (by omega) (by omega) rfl; done) | (refine fin_pure (rs := [.cell 6 51, .tmp 7]) rfl (by simp (disch := first | omega | (simp only [List.length_map, List.length_append, List.length_set, List.length_cons, List.length_nil]; omega)) only [go_sem, ↓reduceIte, Nat.reduceEqDiff, reduceCtorEq] <;> rfl) (by simp (disch := first | omega | (simp only [List.length_map, List.length_append, List.length_set, List.length_cons, List.length_nil]; omega)) only [go_sem, ↓reduceIte, Nat.reduceEqDiff, reduceCtorEq] <;> rfl) ?_; refine ⟨?_, rfl⟩; rw [sg_f (by assumption), fS_n (by unfold Fw; omega)]; exact tupW (by omega) (by omega) rfl; done) | (refine fin_pure (rs := [.cell 6 51, .tmp 7]) rfl (by simp (disch := first | omega | (simp only [List.length_map, List.length_append, List.length_set, List.length_cons, List.length_nil]; omega)) only [go_sem, ↓reduceIte, Nat.reduceEqDiff, reduceCtorEq] <;> rfl) (by simp (disch := first | omega | (simp only [List.length_map, List.length_append, List.length_set, List.length_cons, List.length_nil]; omega)) only [go_sem, ↓reduceIte, Nat.reduceEqDiff, reduceCtorEq] <;> rfl) ?_; refine ⟨?_, rfl⟩; rw [sg_t (by assumption), fS_y (by unfold Fw; omega)]; exact tupW (by omega) (by omega) rfl; done) | (refine fin_pure (rs := [.cell 6 51, .tmp 7]) rfl (by simp (disch := first | omega | (simp only [List.length_map, List.length_append, List.length_set, List.length_cons, List.length_nil]; omega)) only [go_sem, ↓reduceIte, Nat.reduceEqDiff, reduceCtorEq] <;> rfl) (by simp (disch := first | omega | (simp only [List.length_map, List.length_append, List.length_set, List.length_cons, List.length_nil]; omega)) only [go_sem, ↓reduceIte, Nat.reduceEqDiff, reduceCtorEq] <;> rfl) ?_; refine ⟨?_, rfl⟩; rw [sg_t (by assumption), fS_n (by unfold Fw; omega)]; exact tupW (by omega) (by omega) rfl; done)
 ·
  try simp only [decide_eq_true_eq, decide_eq_false_iff_not, decide_eq_decide, Bool.not_eq_true', Bool.not_eq_false', beq_iff_eq, beq_eq_false_iff_ne, ne_eq, Bool.and_eq_true, Bool.and_eq_false_iff, decide_not] at h1
  refine at_skip rfl ?_
  refine then_n ?_
  refine at_seq rfl ?_
  refine at_seq rfl ?_
  refine rg rfl ?_
  refine Rq ?_
  refine Rq ?_
  refine Rq ?_
  refine Rp_split (fun h3 => ?_) (fun h3 => ?_)
  ·
   try simp only [decide_eq_true_eq, decide_eq_false_iff_not, decide_eq_decide, Bool.not_eq_true', Bool.not_eq_false', beq_iff_eq, beq_eq_false_iff_ne, ne_eq, Bool.and_eq_true, Bool.and_eq_false_iff, decide_not] at h3
   refine Rn ?_
   refine Rn ?_
   refine Rn ?_
   refine Ru ?_
   refine Ru ?_
   refine Rn ?_
   refine Rq ?_
   have tr : ∀ a b c d e f g h i j k m n o p q r s t : AV, let l := lc_made_ok a b c d e f g h i; trim ((27,t)::(26,s)::(25,r)::(24,q)::(23,p)::(22,o)::(21,n)::(20,m)::(19,k)::(18,j)::l) l = lc_made_ok a b c d e f g h t := by intros; rfl
   refine R_nil (tr ..) ?_; clear tr
   refine then_n ?_
   refine cdt ?_
   refine at_seq rfl ?_
   refine rg rfl ?_
   refine Rq ?_
   refine R_store ty51 (by simp (disch := first | omega | (simp only [List.length_map, List.length_append, List.length_set, List.length_cons, List.length_nil]; omega)) only [go_sem, ↓reduceIte, Nat.reduceEqDiff, reduceCtorEq] <;> rfl) (by simp (disch := first | omega | (simp only [List.length_map, List.length_append, List.length_set, List.length_cons, List.length_nil]; omega)) only [go_sem, ↓reduceIte, Nat.reduceEqDiff, reduceCtorEq] <;> rfl) (by simp (disch := first | omega | (simp only [List.length_map, List.length_append, List.length_set, List.length_cons, List.length_nil]; omega)) only [go_sem, ↓reduceIte, Nat.reduceEqDiff, reduceCtorEq] <;> rfl) (by simp) (by rfl) (by simp (disch := first | omega | (simp only [List.length_map, List.length_append, List.length_set, List.length_cons, List.length_nil]; omega)) only [go_sem, ↓reduceIte, Nat.reduceEqDiff, reduceCtorEq] <;> rfl) ?_
   refine Rq ?_
   have tr : ∀ a b c d e f g h i j k : AV, let l := lc_made_ok a b c d e f g h i; trim ((7,k)::(28,j)::l) l = lc_made_ok a b c d k f g h i := by intros; rfl
   refine R_nil (tr ..) ?_; clear tr
   refine then_n ?_
   refine at_ret rfl ?_
   refine then_r ?_
   first | (refine fin_pure (rs := [.cell 6 51, .tmp 7]) rfl (by simp (disch := first | omega | (simp only [List.length_map, List.length_append, List.length_set, List.length_cons, List.length_nil]; omega)) only [go_sem, ↓reduceIte, Nat.reduceEqDiff, reduceCtorEq] <;> rfl) (by simp (disch := first | omega | (simp only [List.length_map, List.length_append, List.length_set, List.length_cons, List.length_nil]; omega)) only [go_sem, ↓reduceIte, Nat.reduceEqDiff, reduceCtorEq] <;> rfl) ?_; refine ⟨?_, rfl⟩; rw [sg_f (by assumption), fS_y (by unfold Fw; omega)]; exact tupW (by omega) (by omega) rfl; done) | (refine fin_pure (rs := [.cell 6 51, .tmp 7]) rfl (by simp (disch := first | omega | (simp only [List.length_map, List.length_append, List.length_set, List.length_cons, List.length_nil]; omega)) only [go_sem, ↓reduceIte, Nat.reduceEqDiff, reduceCtorEq] <;> rfl) (by simp (disch := first | omega | (simp only [List.length_map, List.length_append, List.length_set, List.length_cons, List.length_nil]; omega)) only [go_sem, ↓reduceIte, Nat.reduceEqDiff, reduceCtorEq] <;> rfl) ?_; refine ⟨?_, rfl⟩; rw [sg_f (by assumption), fS_n (by unfold Fw; omega)]; exact tupW (by omega) (by omega) rfl; done) | (refine fin_pure (rs := [.cell 6 51, .tmp 7]) rfl (by simp (disch := first | omega | (simp only [List.length_map, List.length_append, List.length_set, List.length_cons, List.length_nil]; omega)) only [go_sem, ↓reduceIte, Nat.reduceEqDiff, reduceCtorEq] <;> rfl) (by simp (disch := first | omega | (simp only [List.length_map, List.length_append, List.length_set, List.length_cons, List.length_nil]; omega)) only [go_sem, ↓reduceIte, Nat.reduceEqDiff, reduceCtorEq] <;> rfl) ?_; refine ⟨?_, rfl⟩; rw [sg_t (by assumption), fS_y (by unfold Fw; omega)]; exact tupW (by omega) (by omega) rfl; done) | (refine fin_pure (rs := [.cell 6 51, .tmp 7]) rfl (by simp (disch := first | omega | (simp only [List.length_map, List.length_append, List.length_set, List.length_cons, List.length_nil]; omega)) only [go_sem, ↓reduceIte, Nat.reduceEqDiff, reduceCtorEq] <;> rfl) (by simp (disch := first | omega | (simp only [List.length_map, List.length_append, List.length_set, List.length_cons, List.length_nil]; omega)) only [go_sem, ↓reduceIte, Nat.reduceEqDiff, reduceCtorEq] <;> rfl) ?_; refine ⟨?_, rfl⟩; rw [sg_t (by assumption), fS_n (by unfold Fw; omega)]; exact tupW (by omega) (by omega) rfl; done)
  ·
   try simp only [decide_eq_true_eq, decide_eq_false_iff_not, decide_eq_decide, Bool.not_eq_true', Bool.not_eq_false', beq_iff_eq, beq_eq_false_iff_ne, ne_eq, Bool.and_eq_true, Bool.and_eq_false_iff, decide_not] at h3
   refine Ry ?_
   refine Rq ?_
   refine Ry ?_
   refine Rq ?_
   refine Ry ?_
   refine Rq ?_
   refine Rp_split (fun h4 => ?_) (fun h4 => ?_)
   ·
    try simp only [decide_eq_true_eq, decide_eq_false_iff_not, decide_eq_decide, Bool.not_eq_true', Bool.not_eq_false', beq_iff_eq, beq_eq_false_iff_ne, ne_eq, Bool.and_eq_true, Bool.and_eq_false_iff, decide_not] at h4
    refine Ry ?_
    refine Rq ?_
    refine Ry ?_
    refine Rq ?_
    refine Ry ?_
    refine Rq ?_
    refine Rq ?_
    have tr : ∀ a b c d e f g h i j k m n o p q r s t : AV, let l := lc_made_ok a b c d e f g h i; trim ((27,t)::(26,s)::(25,r)::(24,q)::(23,p)::(22,o)::(21,n)::(20,m)::(19,k)::(18,j)::l) l = lc_made_ok a b c d e f g h t := by intros; rfl
    refine R_nil (tr ..) ?_; clear tr
    refine then_n ?_
    refine cdd (fun h5 => ?_) (fun h5 => ?_)
    ·
     try simp only [decide_eq_true_eq, decide_eq_false_iff_not, decide_eq_decide, Bool.not_eq_true', Bool.not_eq_false', beq_iff_eq, beq_eq_false_iff_ne, ne_eq, Bool.and_eq_true, Bool.and_eq_false_iff, decide_not] at h5
     refine at_seq rfl ?_
     refine rg rfl ?_
     refine Rq ?_
     refine R_store ty51 (by simp (disch := first | omega | (simp only [List.length_map, List.length_append, List.length_set, List.length_cons, List.length_nil]; omega)) only [go_sem, ↓reduceIte, Nat.reduceEqDiff, reduceCtorEq] <;> rfl) (by simp (disch := first | omega | (simp only [List.length_map, List.length_append, List.length_set, List.length_cons, List.length_nil]; omega)) only [go_sem, ↓reduceIte, Nat.reduceEqDiff, reduceCtorEq] <;> rfl) (by simp (disch := first | omega | (simp only [List.length_map, List.length_append, List.length_set, List.length_cons, List.length_nil]; omega)) only [go_sem, ↓reduceIte, Nat.reduceEqDiff, reduceCtorEq] <;> rfl) (by simp) (by rfl) (by simp (disch := first | omega | (simp only [List.length_map, List.length_append, List.length_set, List.length_cons, List.length_nil]; omega)) only [go_sem, ↓reduceIte, Nat.reduceEqDiff, reduceCtorEq] <;> rfl) ?_
     refine Rq ?_
     have tr : ∀ a b c d e f g h i j k : AV, let l := lc_made_ok a b c d e f g h i; trim ((7,k)::(28,j)::l) l = lc_made_ok a b c d k f g h i := by intros; rfl
     refine R_nil (tr ..) ?_; clear tr
     refine then_n ?_
     refine at_ret rfl ?_
     refine then_r ?_
     first | (refine fin_pure (rs := [.cell 6 51, .tmp 7]) rfl (by simp (disch := first | omega | (simp only [List.length_map, List.length_append, List.length_set, List.length_cons, List.length_nil]; omega)) only [go_sem, ↓reduceIte, Nat.reduceEqDiff, reduceCtorEq] <;> rfl) (by simp (disch := first | omega | (simp only [List.length_map, List.length_append, List.length_set, List.length_cons, List.length_nil]; omega)) only [go_sem, ↓reduceIte, Nat.reduceEqDiff, reduceCtorEq] <;> rfl) ?_; refine ⟨?_, rfl⟩; rw [sg_f (by assumption), fS_y (by unfold Fw; omega)]; exact tupW (by omega) (by omega) rfl; done) | (refine fin_pure (rs := [.cell 6 51, .tmp 7]) rfl (by simp (disch := first | omega | (simp only [List.length_map, List.length_append, List.length_set, List.length_cons, List.length_nil]; omega)) only [go_sem, ↓reduceIte, Nat.reduceEqDiff, reduceCtorEq] <;> rfl) (by simp (disch := first | omega | (simp only [List.length_map, List.length_append, List.length_set, List.length_cons, List.length_nil]; omega)) only [go_sem, ↓reduceIte, Nat.reduceEqDiff, reduceCtorEq] <;> rfl) ?_; refine ⟨?_, rfl⟩; rw [sg_f (by assumption), fS_n (by unfold Fw; omega)]; exact tupW (by omega) (by omega) rfl; done) | (refine fin_pure (rs := [.cell 6 51, .tmp 7]) rfl (by simp (disch := first | omega | (simp only [List.length_map, List.length_append, List.length_set, List.length_cons, List.length_nil]; omega)) only [go_sem, ↓reduceIte, Nat.reduceEqDiff, reduceCtorEq] <;> rfl) (by simp (disch := first | omega | (simp only [List.length_map, List.length_append, List.length_set, List.length_cons, List.length_nil]; omega)) only [go_sem, ↓reduceIte, Nat.reduceEqDiff, reduceCtorEq] <;> rfl) ?_; refine ⟨?_, rfl⟩; rw [sg_t (by assumption), fS_y (by unfold Fw; omega)]; exact tupW (by omega) (by omega) rfl; done) | (refine fin_pure (rs := [.cell 6 51, .tmp 7]) rfl (by simp (disch := first | omega | (simp only [List.length_map, List.length_append, List.length_set, List.length_cons, List.length_nil]; omega)) only [go_sem, ↓reduceIte, Nat.reduceEqDiff, reduceCtorEq] <;> rfl) (by simp (disch := first | omega | (simp only [List.length_map, List.length_append, List.length_set, List.length_cons, List.length_nil]; omega)) only [go_sem, ↓reduceIte, Nat.reduceEqDiff, reduceCtorEq] <;> rfl) ?_; refine ⟨?_, rfl⟩; rw [sg_t (by assumption), fS_n (by unfold Fw; omega)]; exact tupW (by omega) (by omega) rfl; done)
    ·
     try simp only [decide_eq_true_eq, decide_eq_false_iff_not, decide_eq_decide, Bool.not_eq_true', Bool.not_eq_false', beq_iff_eq, beq_eq_false_iff_ne, ne_eq, Bool.and_eq_true, Bool.and_eq_false_iff, decide_not] at h5
     refine at_skip rfl ?_
     refine then_n ?_
     refine at_seq rfl ?_
     refine rg rfl ?_
     refine Rq ?_
     refine Rq ?_
     refine Rcall ?_
     refine ACall_eq (add64_ok _ _ _ _ _ (by omega)) ?_
     refine Rq ?_
     refine Rq ?_
     refine Rq ?_
     refine Rq ?_
     refine Rq ?_
     have tr : ∀ a b c d e f g h i j k m n o p q r : AV, let l := lc_made_ok a b c d e f g h i; trim ((8,r)::(1,q)::(34,p)::(33,o)::(29,n)::(32,m)::(31,k)::(30,j)::l) l = lc_made_ok a q c d e r g h i := by intros; rfl
     refine R_nil (tr ..) ?_; clear tr
     refine then_n ?_
     refine at_seq rfl ?_
     refine rg rfl ?_
     refine Rq ?_
     refine Rq ?_
     refine Rq ?_
     refine Rcall ?_
     refine ACall_eq (add64_ok _ _ _ _ _ (by omega)) ?_
     refine Rq ?_
     refine Rq ?_
     refine Rq ?_
     refine Rq ?_
     have tr : ∀ a b c d e f g h i j k m n o p q r : AV, let l := lc_made_ok a b c d e f g h i; trim ((0,r)::(41,q)::(40,p)::(35,o)::(39,n)::(38,m)::(37,k)::(36,j)::l) l = lc_made_ok r b c d e f g h i := by intros; rfl
     refine R_nil (tr ..) ?_; clear tr
     refine then_n ?_
     refine at_seq rfl ?_
     refine rg rfl ?_
     refine Rq ?_
     refine Rq ?_
     refine Rq ?_
     refine Rq ?_
     refine R_store ty51 (by simp (disch := first | omega | (simp only [List.length_map, List.length_append, List.length_set, List.length_cons, List.length_nil]; omega)) only [go_sem, ↓reduceIte, Nat.reduceEqDiff, reduceCtorEq] <;> rfl) (by simp (disch := first | omega | (simp only [List.length_map, List.length_append, List.length_set, List.length_cons, List.length_nil]; omega)) only [go_sem, ↓reduceIte, Nat.reduceEqDiff, reduceCtorEq] <;> rfl) (by simp (disch := first | omega | (simp only [List.length_map, List.length_append, List.length_set, List.length_cons, List.length_nil]; omega)) only [go_sem, ↓reduceIte, Nat.reduceEqDiff, reduceCtorEq] <;> rfl) (by simp) (by rfl) (by simp (disch := first | omega | (simp only [List.length_map, List.length_append, List.length_set, List.length_cons, List.length_nil]; omega)) only [go_sem, ↓reduceIte, Nat.reduceEqDiff, reduceCtorEq] <;> rfl) ?_
     refine Rq ?_
     have tr : ∀ a b c d e f g h i j k m n o : AV, let l := lc_made_ok a b c d e f g h i; trim ((7,o)::(45,n)::(44,m)::(43,k)::(42,j)::l) l = lc_made_ok a b c d o f g h i := by intros; rfl
     refine R_nil (tr ..) ?_; clear tr
     refine then_n ?_
     refine at_ret rfl ?_
     first | (refine fin_pure (rs := [.cell 6 51, .tmp 7]) rfl (by simp (disch := first | omega | (simp only [List.length_map, List.length_append, List.length_set, List.length_cons, List.length_nil]; omega)) only [go_sem, ↓reduceIte, Nat.reduceEqDiff, reduceCtorEq] <;> rfl) (by simp (disch := first | omega | (simp only [List.length_map, List.length_append, List.length_set, List.length_cons, List.length_nil]; omega)) only [go_sem, ↓reduceIte, Nat.reduceEqDiff, reduceCtorEq] <;> rfl) ?_; refine ⟨?_, rfl⟩; rw [sg_f (by assumption), fS_y (by unfold Fw; omega)]; exact tupW (by omega) (by omega) rfl; done) | (refine fin_pure (rs := [.cell 6 51, .tmp 7]) rfl (by simp (disch := first | omega | (simp only [List.length_map, List.length_append, List.length_set, List.length_cons, List.length_nil]; omega)) only [go_sem, ↓reduceIte, Nat.reduceEqDiff, reduceCtorEq] <;> rfl) (by simp (disch := first | omega | (simp only [List.length_map, List.length_append, List.length_set, List.length_cons, List.length_nil]; omega)) only [go_sem, ↓reduceIte, Nat.reduceEqDiff, reduceCtorEq] <;> rfl) ?_; refine ⟨?_, rfl⟩; rw [sg_f (by assumption), fS_n (by unfold Fw; omega)]; exact tupW (by omega) (by omega) rfl; done) | (refine fin_pure (rs := [.cell 6 51, .tmp 7]) rfl (by simp (disch := first | omega | (simp only [List.length_map, List.length_append, List.length_set, List.length_cons, List.length_nil]; omega)) only [go_sem, ↓reduceIte, Nat.reduceEqDiff, reduceCtorEq] <;> rfl) (by simp (disch := first | omega | (simp only [List.length_map, List.length_append, List.length_set, List.length_cons, List.length_nil]; omega)) only [go_sem, ↓reduceIte, Nat.reduceEqDiff, reduceCtorEq] <;> rfl) ?_; refine ⟨?_, rfl⟩; rw [sg_t (by assumption), fS_y (by unfold Fw; omega)]; exact tupW (by omega) (by omega) rfl; done) | (refine fin_pure (rs := [.cell 6 51, .tmp 7]) rfl (by simp (disch := first | omega | (simp only [List.length_map, List.length_append, List.length_set, List.length_cons, List.length_nil]; omega)) only [go_sem, ↓reduceIte, Nat.reduceEqDiff, reduceCtorEq] <;> rfl) (by simp (disch := first | omega | (simp only [List.length_map, List.length_append, List.length_set, List.length_cons, List.length_nil]; omega)) only [go_sem, ↓reduceIte, Nat.reduceEqDiff, reduceCtorEq] <;> rfl) ?_; refine ⟨?_, rfl⟩; rw [sg_t (by assumption), fS_n (by unfold Fw; omega)]; exact tupW (by omega) (by omega) rfl; done)
   ·
    try simp only [decide_eq_true_eq, decide_eq_false_iff_not, decide_eq_decide, Bool.not_eq_true', Bool.not_eq_false', beq_iff_eq, beq_eq_false_iff_ne, ne_eq, Bool.and_eq_true, Bool.and_eq_false_iff, decide_not] at h4
    refine Rn ?_
    refine Rn ?_
    refine Ry ?_
    refine Rq ?_
    refine Rq ?_
    have tr : ∀ a b c d e f g h i j k m n o p q r s t : AV, let l := lc_made_ok a b c d e f g h i; trim ((27,t)::(26,s)::(25,r)::(24,q)::(23,p)::(22,o)::(21,n)::(20,m)::(19,k)::(18,j)::l) l = lc_made_ok a b c d e f g h t := by intros; rfl
    refine R_nil (tr ..) ?_; clear tr
    refine then_n ?_
    refine cdf ?_
    refine at_skip rfl ?_
    refine then_n ?_
    refine at_seq rfl ?_
    refine rg rfl ?_
    refine Rq ?_
    refine Rq ?_
    refine Rcall ?_
    refine ACall_eq (add64_ok _ _ _ _ _ (by omega)) ?_
    refine Rq ?_
    refine Rq ?_
    refine Rq ?_
    refine Rq ?_
    refine Rq ?_
    have tr : ∀ a b c d e f g h i j k m n o p q r : AV, let l := lc_made_ok a b c d e f g h i; trim ((8,r)::(1,q)::(34,p)::(33,o)::(29,n)::(32,m)::(31,k)::(30,j)::l) l = lc_made_ok a q c d e r g h i := by intros; rfl
    refine R_nil (tr ..) ?_; clear tr
    refine then_n ?_
    refine at_seq rfl ?_
    refine rg rfl ?_
    refine Rq ?_
    refine Rq ?_
    refine Rq ?_
    refine Rcall ?_
    refine ACall_eq (add64_ok _ _ _ _ _ (by omega)) ?_
    refine Rq ?_
    refine Rq ?_
    refine Rq ?_
    refine Rq ?_
    have tr : ∀ a b c d e f g h i j k m n o p q r : AV, let l := lc_made_ok a b c d e f g h i; trim ((0,r)::(41,q)::(40,p)::(35,o)::(39,n)::(38,m)::(37,k)::(36,j)::l) l = lc_made_ok r b c d e f g h i := by intros; rfl
    refine R_nil (tr ..) ?_; clear tr
    refine then_n ?_
    refine at_seq rfl ?_
    refine rg rfl ?_
    refine Rq ?_
    refine Rq ?_
    refine Rq ?_
    refine Rq ?_
    refine R_store ty51 (by simp (disch := first | omega | (simp only [List.length_map, List.length_append, List.length_set, List.length_cons, List.length_nil]; omega)) only [go_sem, ↓reduceIte, Nat.reduceEqDiff, reduceCtorEq] <;> rfl) (by simp (disch := first | omega | (simp only [List.length_map, List.length_append, List.length_set, List.length_cons, List.length_nil]; omega)) only [go_sem, ↓reduceIte, Nat.reduceEqDiff, reduceCtorEq] <;> rfl) (by simp (disch := first | omega | (simp only [List.length_map, List.length_append, List.length_set, List.length_cons, List.length_nil]; omega)) only [go_sem, ↓reduceIte, Nat.reduceEqDiff, reduceCtorEq] <;> rfl) (by simp) (by rfl) (by simp (disch := first | omega | (simp only [List.length_map, List.length_append, List.length_set, List.length_cons, List.length_nil]; omega)) only [go_sem, ↓reduceIte, Nat.reduceEqDiff, reduceCtorEq] <;> rfl) ?_
    refine Rq ?_
    have tr : ∀ a b c d e f g h i j k m n o : AV, let l := lc_made_ok a b c d e f g h i; trim ((7,o)::(45,n)::(44,m)::(43,k)::(42,j)::l) l = lc_made_ok a b c d o f g h i := by intros; rfl
    refine R_nil (tr ..) ?_; clear tr
    refine then_n ?_
    refine at_ret rfl ?_
    first | (refine fin_pure (rs := [.cell 6 51, .tmp 7]) rfl (by simp (disch := first | omega | (simp only [List.length_map, List.length_append, List.length_set, List.length_cons, List.length_nil]; omega)) only [go_sem, ↓reduceIte, Nat.reduceEqDiff, reduceCtorEq] <;> rfl) (by simp (disch := first | omega | (simp only [List.length_map, List.length_append, List.length_set, List.length_cons, List.length_nil]; omega)) only [go_sem, ↓reduceIte, Nat.reduceEqDiff, reduceCtorEq] <;> rfl) ?_; refine ⟨?_, rfl⟩; rw [sg_f (by assumption), fS_y (by unfold Fw; omega)]; exact tupW (by omega) (by omega) rfl; done) | (refine fin_pure (rs := [.cell 6 51, .tmp 7]) rfl (by simp (disch := first | omega | (simp only [List.length_map, List.length_append, List.length_set, List.length_cons, List.length_nil]; omega)) only [go_sem, ↓reduceIte, Nat.reduceEqDiff, reduceCtorEq] <;> rfl) (by simp (disch := first | omega | (simp only [List.length_map, List.length_append, List.length_set, List.length_cons, List.length_nil]; omega)) only [go_sem, ↓reduceIte, Nat.reduceEqDiff, reduceCtorEq] <;> rfl) ?_; refine ⟨?_, rfl⟩; rw [sg_f (by assumption), fS_n (by unfold Fw; omega)]; exact tupW (by omega) (by omega) rfl; done) | (refine fin_pure (rs := [.cell 6 51, .tmp 7]) rfl (by simp (disch := first | omega | (simp only [List.length_map, List.length_append, List.length_set, List.length_cons, List.length_nil]; omega)) only [go_sem, ↓reduceIte, Nat.reduceEqDiff, reduceCtorEq] <;> rfl) (by simp (disch := first | omega | (simp only [List.length_map, List.length_append, List.length_set, List.length_cons, List.length_nil]; omega)) only [go_sem, ↓reduceIte, Nat.reduceEqDiff, reduceCtorEq] <;> rfl) ?_; refine ⟨?_, rfl⟩; rw [sg_t (by assumption), fS_y (by unfold Fw; omega)]; exact tupW (by omega) (by omega) rfl; done) | (refine fin_pure (rs := [.cell 6 51, .tmp 7]) rfl (by simp (disch := first | omega | (simp only [List.length_map, List.length_append, List.length_set, List.length_cons, List.length_nil]; omega)) only [go_sem, ↓reduceIte, Nat.reduceEqDiff, reduceCtorEq] <;> rfl) (by simp (disch := first | omega | (simp only [List.length_map, List.length_append, List.length_set, List.length_cons, List.length_nil]; omega)) only [go_sem, ↓reduceIte, Nat.reduceEqDiff, reduceCtorEq] <;> rfl) ?_; refine ⟨?_, rfl⟩; rw [sg_t (by assumption), fS_n (by unfold Fw; omega)]; exact tupW (by omega) (by omega) rfl; done)

abbrev lc_cmp_ok (a b c d e f g : AV) : Env := [(0,a),(1,b),(2,c),(3,d),(4,e),(5,f),(25,g)]
theorem cmp_ok (lim : Nat) (H : Heap) (x : Int) (hx : Fw x) (y : Int) (hy : Fw y) : ACall sig lim 27 [wv x, wv y] H fun r H' => r = AV.i (cmpS x y) ∧ H' = H := by
 have fx := hx
 unfold Fw at fx
 have fy := hy
 unfold Fw at fy
 refine ACall_pure (fa := fa27) rfl rfl rfl rfl ?_
 have tr : ∀ a0 a1 : AV, env0 fa27.keep [a0, a1] = lc_cmp_ok a0 a1 .any .any .any .any .any := fun a0 a1 => rfl
 refine W_to (tr _ _) ?_; clear tr
 refine at_seq rfl ?_
 refine rg rfl ?_
 refine R_box rfl (by simp (disch := first | omega | (simp only [List.length_map, List.length_append, List.length_set, List.length_cons, List.length_nil]; omega)) only [go_sem, ↓reduceIte, Nat.reduceEqDiff, reduceCtorEq] <;> rfl) rfl rfl ?_
 refine R_box rfl (by simp (disch := first | omega | (simp only [List.length_map, List.length_append, List.length_set, List.length_cons, List.length_nil]; omega)) only [go_sem, ↓reduceIte, Nat.reduceEqDiff, reduceCtorEq] <;> rfl) rfl rfl ?_
 refine Rq ?_
 have tr : ∀ a b c d e f g h i j : AV, let l := lc_cmp_ok a b c d e f g; trim ((4,j)::(3,i)::(2,h)::l) l = lc_cmp_ok a b h i j f g := by intros; rfl
 refine R_nil (tr ..) ?_; clear tr
 refine then_n ?_
 refine at_seq rfl ?_
 refine at_block rfl ?_
 refine at_seq rfl ?_
 refine rg rfl ?_
 refine Rq ?_
 refine Rq ?_
 refine Rq ?_
 refine Rq ?_
 refine Rq ?_
 refine Rq ?_
 refine Rp_split (fun h1 => ?_) (fun h1 => ?_)
 ·
  try simp only [decide_eq_true_eq, decide_eq_false_iff_not, decide_eq_decide, Bool.not_eq_true', Bool.not_eq_false', beq_iff_eq, beq_eq_false_iff_ne, ne_eq, Bool.and_eq_true, Bool.and_eq_false_iff, decide_not] at h1
  refine Rn ?_
  refine Rn ?_
  refine Rn ?_
  refine Rn ?_
  refine Rn ?_
  refine Rn ?_
  refine Ru ?_
  refine Ru ?_
  refine Ru ?_
  refine Ru ?_
  refine Ru ?_
  refine Rn ?_
  refine Rq ?_
  refine Rq ?_
  have tr : ∀ a b c d e f g h i j k m n o p q r s t u v w x y z A B : AV, let l := lc_cmp_ok a b c d e f g; trim ((5,B)::(24,A)::(23,z)::(22,y)::(21,x)::(20,w)::(19,v)::(18,u)::(17,t)::(16,s)::(15,r)::(14,q)::(13,p)::(12,o)::(11,n)::(10,m)::(9,k)::(8,j)::(7,i)::(6,h)::l) l = lc_cmp_ok a b c d e B g := by intros; rfl
  refine R_nil (tr ..) ?_; clear tr
  refine then_n ?_
  refine cdt ?_
  refine at_seq rfl ?_
  refine rg rfl ?_
  refine Rq ?_
  have tr : ∀ a b c d e f g h : AV, let l := lc_cmp_ok a b c d e f g; trim ((4,h)::l) l = lc_cmp_ok a b c d h f g := by intros; rfl
  refine R_nil (tr ..) ?_; clear tr
  refine then_n ?_
  refine at_ret rfl ?_
  refine blk_r ?_
  refine then_r ?_
  first | (refine fpure ?_; refine ⟨?_, rfl⟩; rw [cmpS, if_pos (by omega)]; done) | (refine fpure ?_; refine ⟨?_, rfl⟩; rw [cmpS, if_neg (by omega), if_pos (by omega)]; done) | (refine fpure ?_; refine ⟨?_, rfl⟩; rw [cmpS, if_neg (by omega), if_neg (by omega)]; done)
 ·
  try simp only [decide_eq_true_eq, decide_eq_false_iff_not, decide_eq_decide, Bool.not_eq_true', Bool.not_eq_false', beq_iff_eq, beq_eq_false_iff_ne, ne_eq, Bool.and_eq_true, Bool.and_eq_false_iff, decide_not] at h1
  refine Ry ?_
  refine Rq ?_
  refine Ry ?_
  refine Rq ?_
  refine Ry ?_
  refine Rq ?_
  refine Ry ?_
  refine Rq ?_
  refine Ry ?_
  refine Rq ?_
  refine Ry ?_
  refine Rq ?_
  refine Rp_split (fun h2 => ?_) (fun h2 => ?_)
  ·
   try simp only [decide_eq_true_eq, decide_eq_false_iff_not, decide_eq_decide, Bool.not_eq_true', Bool.not_eq_false', beq_iff_eq, beq_eq_false_iff_ne, ne_eq, Bool.and_eq_true, Bool.and_eq_false_iff, decide_not] at h2
   refine Ry ?_
   refine Rq ?_
   refine Ry ?_
   refine Rq ?_
   refine Ry ?_
   refine Rq ?_
   refine Ry ?_
   refine Rq ?_
   refine Ry ?_
   refine Rq ?_
   refine Ry ?_
   refine Rq ?_
   refine Rq ?_
   refine Rq ?_
   have tr : ∀ a b c d e f g h i j k m n o p q r s t u v w x y z A B : AV, let l := lc_cmp_ok a b c d e f g; trim ((5,B)::(24,A)::(23,z)::(22,y)::(21,x)::(20,w)::(19,v)::(18,u)::(17,t)::(16,s)::(15,r)::(14,q)::(13,p)::(12,o)::(11,n)::(10,m)::(9,k)::(8,j)::(7,i)::(6,h)::l) l = lc_cmp_ok a b c d e B g := by intros; rfl
   refine R_nil (tr ..) ?_; clear tr
   refine then_n ?_
   refine cdd (fun h3 => ?_) (fun h3 => ?_)
   ·
    try simp only [decide_eq_true_eq, decide_eq_false_iff_not, decide_eq_decide, Bool.not_eq_true', Bool.not_eq_false', beq_iff_eq, beq_eq_false_iff_ne, ne_eq, Bool.and_eq_true, Bool.and_eq_false_iff, decide_not] at h3
    refine at_seq rfl ?_
    refine rg rfl ?_
    refine Rq ?_
    have tr : ∀ a b c d e f g h : AV, let l := lc_cmp_ok a b c d e f g; trim ((4,h)::l) l = lc_cmp_ok a b c d h f g := by intros; rfl
    refine R_nil (tr ..) ?_; clear tr
    refine then_n ?_
    refine at_ret rfl ?_
    refine blk_r ?_
    refine then_r ?_
    first | (refine fpure ?_; refine ⟨?_, rfl⟩; rw [cmpS, if_pos (by omega)]; done) | (refine fpure ?_; refine ⟨?_, rfl⟩; rw [cmpS, if_neg (by omega), if_pos (by omega)]; done) | (refine fpure ?_; refine ⟨?_, rfl⟩; rw [cmpS, if_neg (by omega), if_neg (by omega)]; done)
   ·
    try simp only [decide_eq_true_eq, decide_eq_false_iff_not, decide_eq_decide, Bool.not_eq_true', Bool.not_eq_false', beq_iff_eq, beq_eq_false_iff_ne, ne_eq, Bool.and_eq_true, Bool.and_eq_false_iff, decide_not] at h3
    refine at_seq rfl ?_
    refine rg rfl ?_
    refine Rq ?_
    refine Rq ?_
    refine Rq ?_
    refine Rq ?_
    have tr : ∀ a b c d e f g h i j k : AV, let l := lc_cmp_ok a b c d e f g; trim ((25,k)::(28,j)::(27,i)::(26,h)::l) l = lc_cmp_ok a b c d e f k := by intros; rfl
    refine R_nil (tr ..) ?_; clear tr
    refine then_n ?_
    refine cdd (fun h4 => ?_) (fun h4 => ?_)
    ·
     try simp only [decide_eq_true_eq, decide_eq_false_iff_not, decide_eq_decide, Bool.not_eq_true', Bool.not_eq_false', beq_iff_eq, beq_eq_false_iff_ne, ne_eq, Bool.and_eq_true, Bool.and_eq_false_iff, decide_not] at h4
     refine at_seq rfl ?_
     refine rg rfl ?_
     refine Rq ?_
     have tr : ∀ a b c d e f g h : AV, let l := lc_cmp_ok a b c d e f g; trim ((4,h)::l) l = lc_cmp_ok a b c d h f g := by intros; rfl
     refine R_nil (tr ..) ?_; clear tr
     refine then_n ?_
     refine at_ret rfl ?_
     refine blk_r ?_
     refine then_r ?_
     first | (refine fpure ?_; refine ⟨?_, rfl⟩; rw [cmpS, if_pos (by omega)]; done) | (refine fpure ?_; refine ⟨?_, rfl⟩; rw [cmpS, if_neg (by omega), if_pos (by omega)]; done) | (refine fpure ?_; refine ⟨?_, rfl⟩; rw [cmpS, if_neg (by omega), if_neg (by omega)]; done)
    ·
     try simp only [decide_eq_true_eq, decide_eq_false_iff_not, decide_eq_decide, Bool.not_eq_true', Bool.not_eq_false', beq_iff_eq, beq_eq_false_iff_ne, ne_eq, Bool.and_eq_true, Bool.and_eq_false_iff, decide_not] at h4
     refine at_skip rfl ?_
     refine blk_n ?_
     refine then_n ?_
     refine at_seq rfl ?_
     refine rg rfl ?_
     refine Rq ?_
     have tr : ∀ a b c d e f g h : AV, let l := lc_cmp_ok a b c d e f g; trim ((4,h)::l) l = lc_cmp_ok a b c d h f g := by intros; rfl
     refine R_nil (tr ..) ?_; clear tr
     refine then_n ?_
     refine at_ret rfl ?_
     first | (refine fpure ?_; refine ⟨?_, rfl⟩; rw [cmpS, if_pos (by omega)]; done) | (refine fpure ?_; refine ⟨?_, rfl⟩; rw [cmpS, if_neg (by omega), if_pos (by omega)]; done) | (refine fpure ?_; refine ⟨?_, rfl⟩; rw [cmpS, if_neg (by omega), if_neg (by omega)]; done)
  ·
   try simp only [decide_eq_true_eq, decide_eq_false_iff_not, decide_eq_decide, Bool.not_eq_true', Bool.not_eq_false', beq_iff_eq, beq_eq_false_iff_ne, ne_eq, Bool.and_eq_true, Bool.and_eq_false_iff, decide_not] at h2
   refine Rn ?_
   refine Rn ?_
   refine Rn ?_
   refine Rn ?_
   refine Rn ?_
   refine Ry ?_
   refine Rq ?_
   refine Rq ?_
   refine Rq ?_
   have tr : ∀ a b c d e f g h i j k m n o p q r s t u v w x y z A B : AV, let l := lc_cmp_ok a b c d e f g; trim ((5,B)::(24,A)::(23,z)::(22,y)::(21,x)::(20,w)::(19,v)::(18,u)::(17,t)::(16,s)::(15,r)::(14,q)::(13,p)::(12,o)::(11,n)::(10,m)::(9,k)::(8,j)::(7,i)::(6,h)::l) l = lc_cmp_ok a b c d e B g := by intros; rfl
   refine R_nil (tr ..) ?_; clear tr
   refine then_n ?_
   refine cdf ?_
   refine at_seq rfl ?_
   refine rg rfl ?_
   refine Rq ?_
   refine Rq ?_
   refine Rq ?_
   refine Rq ?_
   have tr : ∀ a b c d e f g h i j k : AV, let l := lc_cmp_ok a b c d e f g; trim ((25,k)::(28,j)::(27,i)::(26,h)::l) l = lc_cmp_ok a b c d e f k := by intros; rfl
   refine R_nil (tr ..) ?_; clear tr
   refine then_n ?_
   refine cdd (fun h5 => ?_) (fun h5 => ?_)
   ·
    try simp only [decide_eq_true_eq, decide_eq_false_iff_not, decide_eq_decide, Bool.not_eq_true', Bool.not_eq_false', beq_iff_eq, beq_eq_false_iff_ne, ne_eq, Bool.and_eq_true, Bool.and_eq_false_iff, decide_not] at h5
    refine at_seq rfl ?_
    refine rg rfl ?_
    refine Rq ?_
    have tr : ∀ a b c d e f g h : AV, let l := lc_cmp_ok a b c d e f g; trim ((4,h)::l) l = lc_cmp_ok a b c d h f g := by intros; rfl
    refine R_nil (tr ..) ?_; clear tr
    refine then_n ?_
    refine at_ret rfl ?_
    refine blk_r ?_
    refine then_r ?_
    first | (refine fpure ?_; refine ⟨?_, rfl⟩; rw [cmpS, if_pos (by omega)]; done) | (refine fpure ?_; refine ⟨?_, rfl⟩; rw [cmpS, if_neg (by omega), if_pos (by omega)]; done) | (refine fpure ?_; refine ⟨?_, rfl⟩; rw [cmpS, if_neg (by omega), if_neg (by omega)]; done)
   ·
    try simp only [decide_eq_true_eq, decide_eq_false_iff_not, decide_eq_decide, Bool.not_eq_true', Bool.not_eq_false', beq_iff_eq, beq_eq_false_iff_ne, ne_eq, Bool.and_eq_true, Bool.and_eq_false_iff, decide_not] at h5
    refine at_skip rfl ?_
    refine blk_n ?_
    refine then_n ?_
    refine at_seq rfl ?_
    refine rg rfl ?_
    refine Rq ?_
    have tr : ∀ a b c d e f g h : AV, let l := lc_cmp_ok a b c d e f g; trim ((4,h)::l) l = lc_cmp_ok a b c d h f g := by intros; rfl
    refine R_nil (tr ..) ?_; clear tr
    refine then_n ?_
    refine at_ret rfl ?_
    first | (refine fpure ?_; refine ⟨?_, rfl⟩; rw [cmpS, if_pos (by omega)]; done) | (refine fpure ?_; refine ⟨?_, rfl⟩; rw [cmpS, if_neg (by omega), if_pos (by omega)]; done) | (refine fpure ?_; refine ⟨?_, rfl⟩; rw [cmpS, if_neg (by omega), if_neg (by omega)]; done)

abbrev lc_mul_ok (a b c d e f g h i j : AV) : Env := [(0,a),(1,b),(4,c),(5,d),(6,e),(7,f),(8,g),(9,h),(10,i),(11,j)]
theorem mul_ok (lim : Nat) (H : Heap) (a : Int) (ha : -9223372036854775808 ≤ a ∧ a ≤ 9223372036854775807) (b : Int) (hb : -9223372036854775808 ≤ b ∧ b ≤ 9223372036854775807) : ACall sig lim 28 [AV.i a, AV.i b] H fun r H' => r = wv (a * b) ∧ H' = H := by
 have har := ab_rng a
 have hbr := ab_rng b
 have hp := mul_pos' (ab_rng a) (ab_rng b)
 have ha1 := ab_le ha
 have hb1 := ab_le hb
 have hq := mul_le' (ab_rng a) ha1 (ab_rng b) hb1
 refine ACall_pure (fa := fa28) rfl rfl rfl rfl ?_
 have tr : ∀ a0 a1 : AV, env0 fa28.keep [a0, a1] = lc_mul_ok a0 a1 .any .any .any .any .any .any .any .any := fun a0 a1 => rfl
 refine W_to (tr _ _) ?_; clear tr
 refine at_seq rfl ?_
 refine rg rfl ?_
 refine R_alloc (by simp (disch := first | omega | (simp only [List.length_map, List.length_append, List.length_set, List.length_cons, List.length_nil]; omega)) only [go_sem, ↓reduceIte, Nat.reduceEqDiff, reduceCtorEq] <;> rfl) rfl (by simp only [List.map_cons, List.map_nil]; rfl) ?_
 have tr : ∀ a b c d e f g h i j k : AV, let l := lc_mul_ok a b c d e f g h i j; trim ((4,k)::l) l = lc_mul_ok a b k d e f g h i j := by intros; rfl
 refine R_nil (tr ..) ?_; clear tr
 refine then_n ?_
 refine at_seq rfl ?_
 refine rg rfl ?_
 refine Rq ?_
 refine Rcall ?_
 refine ACall_eq (word_ok _ _ _ (by omega)) ?_
 refine Rq ?_
 refine Rq ?_
 refine Rq ?_
 refine Rq ?_
 refine Rq ?_
 have tr : ∀ a b c d e f g h i j k m n o p q r : AV, let l := lc_mul_ok a b c d e f g h i j; trim ((6,r)::(5,q)::(17,p)::(16,o)::(13,n)::(15,m)::(14,k)::l) l = lc_mul_ok a b c q r f g h i j := by intros; rfl
 refine R_nil (tr ..) ?_; clear tr
 refine then_n ?_
 refine at_seq rfl ?_
 refine rg rfl ?_
 refine Rq ?_
 refine Rcall ?_
 refine ACall_eq (word_ok _ _ _ (by omega)) ?_
 refine Rq ?_
 refine Rq ?_
 refine Rq ?_
 refine Rq ?_
 refine Rq ?_
 have tr : ∀ a b c d e f g h i j k m n o p q r : AV, let l := lc_mul_ok a b c d e f g h i j; trim ((8,r)::(7,q)::(22,p)::(21,o)::(18,n)::(20,m)::(19,k)::l) l = lc_mul_ok a b c d e q r h i j := by intros; rfl
 refine R_nil (tr ..) ?_; clear tr
 refine then_n ?_
 refine at_seq rfl ?_
 refine rg rfl ?_
 refine Rq ?_
 refine Rq ?_
 refine Rcall ?_
 refine ACall_eq (mul64_ok _ _ _ _ (by omega)) ?_
 refine Rq ?_
 refine Rq ?_
 refine Rq ?_
 refine Rq ?_
 refine Rq ?_
 have tr : ∀ a b c d e f g h i j k m n o p q r s : AV, let l := lc_mul_ok a b c d e f g h i j; trim ((10,s)::(9,r)::(28,q)::(27,p)::(23,o)::(26,n)::(25,m)::(24,k)::l) l = lc_mul_ok a b c d e f g r s j := by intros; rfl
 refine R_nil (tr ..) ?_; clear tr
 refine then_n ?_
 refine at_seq rfl ?_
 refine rg rfl ?_
 refine Rq ?_
 refine Rq ?_
 refine Rq ?_
 refine Rq ?_
 refine Rq ?_
 refine Rcall ?_
 obtain ⟨P, hP⟩ : ∃ P, P = ab a * ab b := ⟨_, rfl⟩
 rw [← hP] at hp hq ⊢
 refine ACall_eq (made_ok _ _ _ _ (by omega) (by omega) _) ?_
 have hm : sg (!(decide (a < 0) == decide (b < 0))) (P / 18446744073709551616 * 18446744073709551616 + P % 18446744073709551616) = a * b := by
   rw [show P / 18446744073709551616 * 18446744073709551616 + P % 18446744073709551616 = ab a * ab b by omega]; exact ab_mul a b
 rw [hm, fS_y (show Fw (a * b) from ab_fit ha hb)]
 refine Rq ?_
 refine Rq ?_
 refine Rq ?_
 refine R_alloc (by simp (disch := first | omega | (simp only [List.length_map, List.length_append, List.length_set, List.length_cons, List.length_nil]; omega)) only [go_sem, ↓reduceIte, Nat.reduceEqDiff, reduceCtorEq] <;> rfl) rfl (by simp only [List.map_cons, List.map_nil]; rfl) ?_
 refine R_store ty51 (by simp (disch := first | omega | (simp only [List.length_map, List.length_append, List.length_set, List.length_cons, List.length_nil]; omega)) only [go_sem, ↓reduceIte, Nat.reduceEqDiff, reduceCtorEq] <;> rfl) (by simp (disch := first | omega | (simp only [List.length_map, List.length_append, List.length_set, List.length_cons, List.length_nil]; omega)) only [go_sem, ↓reduceIte, Nat.reduceEqDiff, reduceCtorEq] <;> rfl) (by simp (disch := first | omega | (simp only [List.length_map, List.length_append, List.length_set, List.length_cons, List.length_nil]; omega)) only [go_sem, ↓reduceIte, Nat.reduceEqDiff, reduceCtorEq] <;> rfl) (by simp) (by rfl) (by simp (disch := first | omega | (simp only [List.length_map, List.length_append, List.length_set, List.length_cons, List.length_nil]; omega)) only [go_sem, ↓reduceIte, Nat.reduceEqDiff, reduceCtorEq] <;> rfl) ?_
 refine Rq ?_
 have tr : ∀ a b c d e f g h i j k m n o p q r s t u v : AV, let l := lc_mul_ok a b c d e f g h i j; trim ((12,v)::(11,u)::(37,t)::(36,s)::(29,r)::(35,q)::(34,p)::(33,o)::(32,n)::(31,m)::(30,k)::l) l = lc_mul_ok a b c d e f g h i u := by intros; rfl
 refine R_nil (tr ..) ?_; clear tr
 refine then_n ?_
 refine at_seq rfl ?_
 refine rg rfl ?_
 refine Rq ?_
 refine R_store ty51 (by simp (disch := first | omega | (simp only [List.length_map, List.length_append, List.length_set, List.length_cons, List.length_nil]; omega)) only [go_sem, ↓reduceIte, Nat.reduceEqDiff, reduceCtorEq] <;> rfl) (by simp (disch := first | omega | (simp only [List.length_map, List.length_append, List.length_set, List.length_cons, List.length_nil]; omega)) only [go_sem, ↓reduceIte, Nat.reduceEqDiff, reduceCtorEq] <;> rfl) (by simp (disch := first | omega | (simp only [List.length_map, List.length_append, List.length_set, List.length_cons, List.length_nil]; omega)) only [go_sem, ↓reduceIte, Nat.reduceEqDiff, reduceCtorEq] <;> rfl) (by simp) (by rfl) (by simp (disch := first | omega | (simp only [List.length_map, List.length_append, List.length_set, List.length_cons, List.length_nil]; omega)) only [go_sem, ↓reduceIte, Nat.reduceEqDiff, reduceCtorEq] <;> rfl) ?_
 have tr : ∀ a b c d e f g h i j k : AV, let l := lc_mul_ok a b c d e f g h i j; trim ((38,k)::l) l = lc_mul_ok a b c d e f g h i j := by intros; rfl
 refine R_nil (tr ..) ?_; clear tr
 refine then_n ?_
 refine at_ret rfl ?_
 refine fin_pure (rs := [.cell 4 51]) rfl (by simp (disch := first | omega | (simp only [List.length_map, List.length_append, List.length_set, List.length_cons, List.length_nil]; omega)) only [go_sem, ↓reduceIte, Nat.reduceEqDiff, reduceCtorEq] <;> rfl) (by simp (disch := first | omega | (simp only [List.length_map, List.length_append, List.length_set, List.length_cons, List.length_nil]; omega)) only [go_sem, ↓reduceIte, Nat.reduceEqDiff, reduceCtorEq] <;> rfl) ?_
 refine ⟨?_, rfl⟩
 rfl

end Go.Proofs.YtfnapmdedmbdbaaDoor.C
end
section
set_option linter.unusedSimpArgs false
set_option linter.unusedVariables false
set_option maxHeartbeats 1000000
set_option maxRecDepth 20000
namespace Go.Proofs.YtfnapmdedmbdbaaDoor.C
open Go Go.Am
abbrev lc_crate_ok (a b c d e f g h i j k m : AV) : Env := [(0,a),(1,b),(2,c),(3,d),(4,e),(5,f),(6,g),(7,h),(8,i),(9,j),(10,k),(28,m)]
theorem crate_ok (lim : Nat) (H : Heap) (y z : St) : ACall sig lim 11 [stA y, stA z] H fun r H' => r = AV.i (crS y z) ∧ H' = H := by
 have ry := rt_rng y
 have rz := rt_rng z
 refine ACall_pure (fa := fa11) rfl rfl rfl rfl ?_
 have tr : ∀ a0 a1 : AV, env0 fa11.keep [a0, a1] = lc_crate_ok a0 a1 .any .any .any .any .any .any .any .any .any .any := fun a0 a1 => rfl
 refine W_to (tr _ _) ?_; clear tr
 refine at_seq rfl ?_
 refine rg rfl ?_
 refine R_box rfl (by simp (disch := first | omega | (simp only [List.length_map, List.length_append, List.length_set, List.length_cons, List.length_nil]; omega)) only [go_sem, ↓reduceIte, Nat.reduceEqDiff, reduceCtorEq] <;> rfl) rfl rfl ?_
 refine R_box rfl (by simp (disch := first | omega | (simp only [List.length_map, List.length_append, List.length_set, List.length_cons, List.length_nil]; omega)) only [go_sem, ↓reduceIte, Nat.reduceEqDiff, reduceCtorEq] <;> rfl) rfl rfl ?_
 refine Rq ?_
 have tr : ∀ a b c d e f g h i j k m n o p : AV, let l := lc_crate_ok a b c d e f g h i j k m; trim ((4,p)::(3,o)::(2,n)::l) l = lc_crate_ok a b n o p f g h i j k m := by intros; rfl
 refine R_nil (tr ..) ?_; clear tr
 refine then_n ?_
 refine at_seq rfl ?_
 refine rg rfl ?_
 refine Rq ?_
 refine Rcall ?_
 refine ACall_eq (rate_ok _ _ _) ?_
 refine Rq ?_
 refine Rq ?_
 refine Rq ?_
 refine Rq ?_
 refine Rq ?_
 refine Rq ?_
 refine Rq ?_
 have tr : ∀ a b c d e f g h i j k m n o p q r s t u v : AV, let l := lc_crate_ok a b c d e f g h i j k m; trim ((7,v)::(6,u)::(5,t)::(16,s)::(15,r)::(14,q)::(11,p)::(13,o)::(12,n)::l) l = lc_crate_ok a b c d e t u v i j k m := by intros; rfl
 refine R_nil (tr ..) ?_; clear tr
 refine then_n ?_
 refine at_seq rfl ?_
 refine rg rfl ?_
 refine Rq ?_
 refine Rcall ?_
 refine ACall_eq (rate_ok _ _ _) ?_
 refine Rq ?_
 refine Rq ?_
 refine Rq ?_
 refine Rq ?_
 refine Rq ?_
 refine Rq ?_
 refine Rq ?_
 have tr : ∀ a b c d e f g h i j k m n o p q r s t u v : AV, let l := lc_crate_ok a b c d e f g h i j k m; trim ((10,v)::(9,u)::(8,t)::(22,s)::(21,r)::(20,q)::(17,p)::(19,o)::(18,n)::l) l = lc_crate_ok a b c d e f g h t u v m := by intros; rfl
 refine R_nil (tr ..) ?_; clear tr
 refine then_n ?_
 refine at_seq rfl ?_
 refine at_seq rfl ?_
 refine rg rfl ?_
 refine Rq ?_
 refine Rq ?_
 refine Rq ?_
 refine Rp_split (fun h1 => ?_) (fun h1 => ?_)
 ·
  try simp only [decide_eq_true_eq, decide_eq_false_iff_not, decide_eq_decide, Bool.not_eq_true', Bool.not_eq_false', beq_iff_eq, beq_eq_false_iff_ne, ne_eq, Bool.and_eq_true, Bool.and_eq_false_iff, decide_not] at h1
  refine Rn ?_
  refine Rn ?_
  refine Rq ?_
  have tr : ∀ a b c d e f g h i j k m n o p q r s : AV, let l := lc_crate_ok a b c d e f g h i j k m; trim ((28,s)::(27,r)::(26,q)::(25,p)::(24,o)::(23,n)::l) l = lc_crate_ok a b c d e f g h i j k s := by intros; rfl
  refine R_nil (tr ..) ?_; clear tr
  refine then_n ?_
  refine cdt ?_
  refine at_seq rfl ?_
  refine rg rfl ?_
  refine Rq ?_
  have tr : ∀ a b c d e f g h i j k m n : AV, let l := lc_crate_ok a b c d e f g h i j k m; trim ((4,n)::l) l = lc_crate_ok a b c d n f g h i j k m := by intros; rfl
  refine R_nil (tr ..) ?_; clear tr
  refine then_n ?_
  refine at_ret rfl ?_
  refine then_r ?_
  first | (refine fpure ?_; refine ⟨?_, rfl⟩; rw [crS, if_neg (fun h => absurd h.1 (by assumption))] <;> rfl; done) | (refine fpure ?_; refine ⟨?_, rfl⟩; rw [crS, if_neg (fun h => absurd h.2 (by assumption))] <;> rfl; done) | (refine fpure ?_; refine ⟨?_, rfl⟩; rw [crS, if_pos ⟨by assumption, by assumption⟩, rtN_y (by assumption), rtD_y (by assumption), rtN_y (by assumption), rtD_y (by assumption)] <;> rfl; done)
 ·
  try simp only [decide_eq_true_eq, decide_eq_false_iff_not, decide_eq_decide, Bool.not_eq_true', Bool.not_eq_false', beq_iff_eq, beq_eq_false_iff_ne, ne_eq, Bool.and_eq_true, Bool.and_eq_false_iff, decide_not] at h1
  refine Ry ?_
  refine Rq ?_
  refine Ry ?_
  refine Rq ?_
  refine Rq ?_
  have tr : ∀ a b c d e f g h i j k m n o p q r s : AV, let l := lc_crate_ok a b c d e f g h i j k m; trim ((28,s)::(27,r)::(26,q)::(25,p)::(24,o)::(23,n)::l) l = lc_crate_ok a b c d e f g h i j k s := by intros; rfl
  refine R_nil (tr ..) ?_; clear tr
  refine then_n ?_
  refine cdd (fun h2 => ?_) (fun h2 => ?_)
  ·
   try simp only [decide_eq_true_eq, decide_eq_false_iff_not, decide_eq_decide, Bool.not_eq_true', Bool.not_eq_false', beq_iff_eq, beq_eq_false_iff_ne, ne_eq, Bool.and_eq_true, Bool.and_eq_false_iff, decide_not] at h2
   refine at_seq rfl ?_
   refine rg rfl ?_
   refine Rq ?_
   have tr : ∀ a b c d e f g h i j k m n : AV, let l := lc_crate_ok a b c d e f g h i j k m; trim ((4,n)::l) l = lc_crate_ok a b c d n f g h i j k m := by intros; rfl
   refine R_nil (tr ..) ?_; clear tr
   refine then_n ?_
   refine at_ret rfl ?_
   refine then_r ?_
   first | (refine fpure ?_; refine ⟨?_, rfl⟩; rw [crS, if_neg (fun h => absurd h.1 (by assumption))] <;> rfl; done) | (refine fpure ?_; refine ⟨?_, rfl⟩; rw [crS, if_neg (fun h => absurd h.2 (by assumption))] <;> rfl; done) | (refine fpure ?_; refine ⟨?_, rfl⟩; rw [crS, if_pos ⟨by assumption, by assumption⟩, rtN_y (by assumption), rtD_y (by assumption), rtN_y (by assumption), rtD_y (by assumption)] <;> rfl; done)
  ·
   try simp only [decide_eq_true_eq, decide_eq_false_iff_not, decide_eq_decide, Bool.not_eq_true', Bool.not_eq_false', beq_iff_eq, beq_eq_false_iff_ne, ne_eq, Bool.and_eq_true, Bool.and_eq_false_iff, decide_not] at h2
   refine at_skip rfl ?_
   refine then_n ?_
   refine at_seq rfl ?_
   refine rg rfl ?_
   refine Rq ?_
   refine Rq ?_
   refine Rcall ?_
   refine ACall_eq (mul_ok _ _ _ (by omega) _ (by omega)) ?_
   refine Rq ?_
   refine Rq ?_
   refine Rcall ?_
   refine ACall_eq (mul_ok _ _ _ (by omega) _ (by omega)) ?_
   refine Rcall ?_
   refine ACall_eq (cmp_ok _ _ (rtN y * rtD z) (ab_fit (by omega) (by omega)) (rtN z * rtD y) (ab_fit (by omega) (by omega))) ?_
   refine Rq ?_
   have tr : ∀ a b c d e f g h i j k m n o p q r s t u : AV, let l := lc_crate_ok a b c d e f g h i j k m; trim ((4,u)::(35,t)::(34,s)::(33,r)::(32,q)::(31,p)::(30,o)::(29,n)::l) l = lc_crate_ok a b c d u f g h i j k m := by intros; rfl
   refine R_nil (tr ..) ?_; clear tr
   refine then_n ?_
   refine at_ret rfl ?_
   first | (refine fpure ?_; refine ⟨?_, rfl⟩; rw [crS, if_neg (fun h => absurd h.1 (by assumption))] <;> rfl; done) | (refine fpure ?_; refine ⟨?_, rfl⟩; rw [crS, if_neg (fun h => absurd h.2 (by assumption))] <;> rfl; done) | (refine fpure ?_; refine ⟨?_, rfl⟩; rw [crS, if_pos ⟨by assumption, by assumption⟩, rtN_y (by assumption), rtD_y (by assumption), rtN_y (by assumption), rtD_y (by assumption)] <;> rfl; done)

abbrev lc_comp_ok (a b c d e f g h i j : AV) : Env := [(0,a),(1,b),(2,c),(3,d),(4,e),(5,f),(6,g),(18,h),(34,i),(41,j)]
theorem comp_ok (lim : Nat) (H : Heap) (y z : St) : ACall sig lim 13 [stA y, stA z] H fun r H' => r = AV.i (cmS y z) ∧ H' = H := by
 have hc := crS_rng y z
 refine ACall_pure (fa := fa13) rfl rfl rfl rfl ?_
 have tr : ∀ a0 a1 : AV, env0 fa13.keep [a0, a1] = lc_comp_ok a0 a1 .any .any .any .any .any .any .any .any := fun a0 a1 => rfl
 refine W_to (tr _ _) ?_; clear tr
 refine at_seq rfl ?_
 refine rg rfl ?_
 refine R_box rfl (by simp (disch := first | omega | (simp only [List.length_map, List.length_append, List.length_set, List.length_cons, List.length_nil]; omega)) only [go_sem, ↓reduceIte, Nat.reduceEqDiff, reduceCtorEq] <;> rfl) rfl rfl ?_
 refine R_box rfl (by simp (disch := first | omega | (simp only [List.length_map, List.length_append, List.length_set, List.length_cons, List.length_nil]; omega)) only [go_sem, ↓reduceIte, Nat.reduceEqDiff, reduceCtorEq] <;> rfl) rfl rfl ?_
 refine Rq ?_
 have tr : ∀ a b c d e f g h i j k m n : AV, let l := lc_comp_ok a b c d e f g h i j; trim ((4,n)::(3,m)::(2,k)::l) l = lc_comp_ok a b k m n f g h i j := by intros; rfl
 refine R_nil (tr ..) ?_; clear tr
 refine then_n ?_
 refine at_seq rfl ?_
 refine at_block rfl ?_
 refine at_seq rfl ?_
 refine rg rfl ?_
 refine Rq ?_
 refine Rq ?_
 refine Rq ?_
 refine Rq ?_
 refine Rq ?_
 refine Rq ?_
 have tr : ∀ a b c d e f g h i j k m n o p q : AV, let l := lc_comp_ok a b c d e f g h i j; trim ((6,q)::(11,p)::(10,o)::(9,n)::(8,m)::(7,k)::l) l = lc_comp_ok a b c d e f q h i j := by intros; rfl
 refine R_nil (tr ..) ?_; clear tr
 refine then_n ?_
 refine cdd (fun h1 => ?_) (fun h1 => ?_)
 ·
  try simp only [decide_eq_true_eq, decide_eq_false_iff_not, decide_eq_decide, Bool.not_eq_true', Bool.not_eq_false', beq_iff_eq, beq_eq_false_iff_ne, ne_eq, Bool.and_eq_true, Bool.and_eq_false_iff, decide_not] at h1
  refine at_seq rfl ?_
  refine rg rfl ?_
  refine Rq ?_
  refine Rq ?_
  refine Rq ?_
  refine Rq ?_
  refine Rq ?_
  refine Rcall ?_
  refine ACall_eq (before_ok _ _ _) ?_
  refine Rq ?_
  have tr : ∀ a b c d e f g h i j k m n o p q r : AV, let l := lc_comp_ok a b c d e f g h i j; trim ((4,r)::(17,q)::(16,p)::(15,o)::(14,n)::(13,m)::(12,k)::l) l = lc_comp_ok a b c d r f g h i j := by intros; rfl
  refine R_nil (tr ..) ?_; clear tr
  refine then_n ?_
  refine at_ret rfl ?_
  refine blk_r ?_
  refine then_r ?_
  first | (refine fpure ?_; refine ⟨?_, rfl⟩; rw [cm_pt (by assumption)] <;> rfl; done) | (refine fpure ?_; refine ⟨?_, rfl⟩; rw [cm_wn (by assumption) (by assumption)] <;> rfl; done) | (refine fpure ?_; refine ⟨?_, rfl⟩; rw [cm_cr (by assumption) (by assumption) (by assumption)] <;> rfl; done) | (refine fpure ?_; refine ⟨?_, rfl⟩; rw [cm_cr0 (by assumption) (by assumption) (by assumption)] <;> rfl; done) | (refine fpure ?_; refine ⟨?_, rfl⟩; rw [cm_cr' (by assumption) (by assumption) (by assumption)] <;> rfl; done) | (refine fpure ?_; refine ⟨?_, rfl⟩; rw [cm_tm (by assumption) (by assumption) (by assumption) (by assumption)] <;> rfl; done) | (refine fpure ?_; refine ⟨?_, rfl⟩; rw [cm_0 (by assumption) (by assumption) (by assumption) (by assumption)] <;> rfl; done)
 ·
  try simp only [decide_eq_true_eq, decide_eq_false_iff_not, decide_eq_decide, Bool.not_eq_true', Bool.not_eq_false', beq_iff_eq, beq_eq_false_iff_ne, ne_eq, Bool.and_eq_true, Bool.and_eq_false_iff, decide_not] at h1
  refine at_seq rfl ?_
  refine rg rfl ?_
  refine Rq ?_
  refine Rq ?_
  refine Rq ?_
  refine Rq ?_
  refine Rq ?_
  refine Rq ?_
  have tr : ∀ a b c d e f g h i j k m n o p q : AV, let l := lc_comp_ok a b c d e f g h i j; trim ((18,q)::(23,p)::(22,o)::(21,n)::(20,m)::(19,k)::l) l = lc_comp_ok a b c d e f g q i j := by intros; rfl
  refine R_nil (tr ..) ?_; clear tr
  refine then_n ?_
  refine cdd (fun h2 => ?_) (fun h2 => ?_)
  ·
   try simp only [decide_eq_true_eq, decide_eq_false_iff_not, decide_eq_decide, Bool.not_eq_true', Bool.not_eq_false', beq_iff_eq, beq_eq_false_iff_ne, ne_eq, Bool.and_eq_true, Bool.and_eq_false_iff, decide_not] at h2
   refine at_seq rfl ?_
   refine rg rfl ?_
   refine Rq ?_
   refine Rq ?_
   refine Rq ?_
   refine Rq ?_
   refine Rq ?_
   refine Rcall ?_
   refine ACall_eq (before_ok _ _ _) ?_
   refine Rq ?_
   have tr : ∀ a b c d e f g h i j k m n o p q r : AV, let l := lc_comp_ok a b c d e f g h i j; trim ((4,r)::(29,q)::(28,p)::(27,o)::(26,n)::(25,m)::(24,k)::l) l = lc_comp_ok a b c d r f g h i j := by intros; rfl
   refine R_nil (tr ..) ?_; clear tr
   refine then_n ?_
   refine at_ret rfl ?_
   refine blk_r ?_
   refine then_r ?_
   first | (refine fpure ?_; refine ⟨?_, rfl⟩; rw [cm_pt (by assumption)] <;> rfl; done) | (refine fpure ?_; refine ⟨?_, rfl⟩; rw [cm_wn (by assumption) (by assumption)] <;> rfl; done) | (refine fpure ?_; refine ⟨?_, rfl⟩; rw [cm_cr (by assumption) (by assumption) (by assumption)] <;> rfl; done) | (refine fpure ?_; refine ⟨?_, rfl⟩; rw [cm_cr0 (by assumption) (by assumption) (by assumption)] <;> rfl; done) | (refine fpure ?_; refine ⟨?_, rfl⟩; rw [cm_cr' (by assumption) (by assumption) (by assumption)] <;> rfl; done) | (refine fpure ?_; refine ⟨?_, rfl⟩; rw [cm_tm (by assumption) (by assumption) (by assumption) (by assumption)] <;> rfl; done) | (refine fpure ?_; refine ⟨?_, rfl⟩; rw [cm_0 (by assumption) (by assumption) (by assumption) (by assumption)] <;> rfl; done)
  ·
   try simp only [decide_eq_true_eq, decide_eq_false_iff_not, decide_eq_decide, Bool.not_eq_true', Bool.not_eq_false', beq_iff_eq, beq_eq_false_iff_ne, ne_eq, Bool.and_eq_true, Bool.and_eq_false_iff, decide_not] at h2
   refine at_skip rfl ?_
   refine blk_n ?_
   refine then_n ?_
   refine at_seq rfl ?_
   refine at_seq rfl ?_
   refine rg rfl ?_
   refine Rq ?_
   refine Rq ?_
   refine Rcall ?_
   refine ACall_eq (crate_ok _ _ y z) ?_
   refine Rq ?_
   have tr : ∀ a b c d e f g h i j k m n o : AV, let l := lc_comp_ok a b c d e f g h i j; trim ((5,o)::(32,n)::(31,m)::(30,k)::l) l = lc_comp_ok a b c d e o g h i j := by intros; rfl
   refine R_nil (tr ..) ?_; clear tr
   refine then_n ?_
   refine at_seq rfl ?_
   refine rg rfl ?_
   refine Rq ?_
   refine Rq ?_
   have tr : ∀ a b c d e f g h i j k m : AV, let l := lc_comp_ok a b c d e f g h i j; trim ((34,m)::(33,k)::l) l = lc_comp_ok a b c d e f g h m j := by intros; rfl
   refine R_nil (tr ..) ?_; clear tr
   refine then_n ?_
   refine cdd (fun h3 => ?_) (fun h3 => ?_)
   ·
    try simp only [decide_eq_true_eq, decide_eq_false_iff_not, decide_eq_decide, Bool.not_eq_true', Bool.not_eq_false', beq_iff_eq, beq_eq_false_iff_ne, ne_eq, Bool.and_eq_true, Bool.and_eq_false_iff, decide_not] at h3
    refine at_seq rfl ?_
    refine rg rfl ?_
    refine Rq ?_
    refine Rq ?_
    refine Rq ?_
    have tr : ∀ a b c d e f g h i j k m n : AV, let l := lc_comp_ok a b c d e f g h i j; trim ((4,n)::(36,m)::(35,k)::l) l = lc_comp_ok a b c d n f g h i j := by intros; rfl
    refine R_nil (tr ..) ?_; clear tr
    refine then_n ?_
    refine at_ret rfl ?_
    refine then_r ?_
    first | (refine fpure ?_; refine ⟨?_, rfl⟩; rw [cm_pt (by assumption)] <;> rfl; done) | (refine fpure ?_; refine ⟨?_, rfl⟩; rw [cm_wn (by assumption) (by assumption)] <;> rfl; done) | (refine fpure ?_; refine ⟨?_, rfl⟩; rw [cm_cr (by assumption) (by assumption) (by assumption)] <;> rfl; done) | (refine fpure ?_; refine ⟨?_, rfl⟩; rw [cm_cr0 (by assumption) (by assumption) (by assumption)] <;> rfl; done) | (refine fpure ?_; refine ⟨?_, rfl⟩; rw [cm_cr' (by assumption) (by assumption) (by assumption)] <;> rfl; done) | (refine fpure ?_; refine ⟨?_, rfl⟩; rw [cm_tm (by assumption) (by assumption) (by assumption) (by assumption)] <;> rfl; done) | (refine fpure ?_; refine ⟨?_, rfl⟩; rw [cm_0 (by assumption) (by assumption) (by assumption) (by assumption)] <;> rfl; done)
   ·
    try simp only [decide_eq_true_eq, decide_eq_false_iff_not, decide_eq_decide, Bool.not_eq_true', Bool.not_eq_false', beq_iff_eq, beq_eq_false_iff_ne, ne_eq, Bool.and_eq_true, Bool.and_eq_false_iff, decide_not] at h3
    refine at_skip rfl ?_
    refine then_n ?_
    refine at_seq rfl ?_
    refine at_seq rfl ?_
    refine rg rfl ?_
    refine Rq ?_
    refine Rq ?_
    refine Rq ?_
    refine Rq ?_
    refine Rq ?_
    have tr : ∀ a b c d e f g h i j k m n o p : AV, let l := lc_comp_ok a b c d e f g h i j; trim ((41,p)::(40,o)::(39,n)::(38,m)::(37,k)::l) l = lc_comp_ok a b c d e f g h i p := by intros; rfl
    refine R_nil (tr ..) ?_; clear tr
    refine then_n ?_
    refine cdd (fun h4 => ?_) (fun h4 => ?_)
    ·
     try simp only [decide_eq_true_eq, decide_eq_false_iff_not, decide_eq_decide, Bool.not_eq_true', Bool.not_eq_false', beq_iff_eq, beq_eq_false_iff_ne, ne_eq, Bool.and_eq_true, Bool.and_eq_false_iff, decide_not] at h4
     refine at_seq rfl ?_
     refine rg rfl ?_
     refine Rq ?_
     refine Rq ?_
     refine Rq ?_
     refine Rq ?_
     refine Rq ?_
     refine Rcall ?_
     refine ACall_eq (before_ok _ _ _) ?_
     refine Rq ?_
     have tr : ∀ a b c d e f g h i j k m n o p q r : AV, let l := lc_comp_ok a b c d e f g h i j; trim ((4,r)::(47,q)::(46,p)::(45,o)::(44,n)::(43,m)::(42,k)::l) l = lc_comp_ok a b c d r f g h i j := by intros; rfl
     refine R_nil (tr ..) ?_; clear tr
     refine then_n ?_
     refine at_ret rfl ?_
     refine then_r ?_
     first | (refine fpure ?_; refine ⟨?_, rfl⟩; rw [cm_pt (by assumption)] <;> rfl; done) | (refine fpure ?_; refine ⟨?_, rfl⟩; rw [cm_wn (by assumption) (by assumption)] <;> rfl; done) | (refine fpure ?_; refine ⟨?_, rfl⟩; rw [cm_cr (by assumption) (by assumption) (by assumption)] <;> rfl; done) | (refine fpure ?_; refine ⟨?_, rfl⟩; rw [cm_cr0 (by assumption) (by assumption) (by assumption)] <;> rfl; done) | (refine fpure ?_; refine ⟨?_, rfl⟩; rw [cm_cr' (by assumption) (by assumption) (by assumption)] <;> rfl; done) | (refine fpure ?_; refine ⟨?_, rfl⟩; rw [cm_tm (by assumption) (by assumption) (by assumption) (by assumption)] <;> rfl; done) | (refine fpure ?_; refine ⟨?_, rfl⟩; rw [cm_0 (by assumption) (by assumption) (by assumption) (by assumption)] <;> rfl; done)
    ·
     try simp only [decide_eq_true_eq, decide_eq_false_iff_not, decide_eq_decide, Bool.not_eq_true', Bool.not_eq_false', beq_iff_eq, beq_eq_false_iff_ne, ne_eq, Bool.and_eq_true, Bool.and_eq_false_iff, decide_not] at h4
     refine at_skip rfl ?_
     refine then_n ?_
     refine at_seq rfl ?_
     refine rg rfl ?_
     refine Rq ?_
     have tr : ∀ a b c d e f g h i j k : AV, let l := lc_comp_ok a b c d e f g h i j; trim ((4,k)::l) l = lc_comp_ok a b c d k f g h i j := by intros; rfl
     refine R_nil (tr ..) ?_; clear tr
     refine then_n ?_
     refine at_ret rfl ?_
     first | (refine fpure ?_; refine ⟨?_, rfl⟩; rw [cm_pt (by assumption)] <;> rfl; done) | (refine fpure ?_; refine ⟨?_, rfl⟩; rw [cm_wn (by assumption) (by assumption)] <;> rfl; done) | (refine fpure ?_; refine ⟨?_, rfl⟩; rw [cm_cr (by assumption) (by assumption) (by assumption)] <;> rfl; done) | (refine fpure ?_; refine ⟨?_, rfl⟩; rw [cm_cr0 (by assumption) (by assumption) (by assumption)] <;> rfl; done) | (refine fpure ?_; refine ⟨?_, rfl⟩; rw [cm_cr' (by assumption) (by assumption) (by assumption)] <;> rfl; done) | (refine fpure ?_; refine ⟨?_, rfl⟩; rw [cm_tm (by assumption) (by assumption) (by assumption) (by assumption)] <;> rfl; done) | (refine fpure ?_; refine ⟨?_, rfl⟩; rw [cm_0 (by assumption) (by assumption) (by assumption) (by assumption)] <;> rfl; done)

end Go.Proofs.YtfnapmdedmbdbaaDoor.C
end
section
set_option linter.unusedVariables false
namespace Go.Proofs.YtfnapmdedmbdbaaDoor
open Go Go.Am Go.Sort
abbrev SO := {z : St // okS z}
instance : Inhabited SO := ⟨⟨⟨0, 0, 0, 0, 0, 0, 0, 0, 0, 0⟩, by decide⟩⟩
def cmO (x y : SO) : Int := cmS x.1 y.1
def encS (z : SO) : List Value := [.int .i64 z.1.tm, .int .i64 z.1.pl, .int .i64 z.1.wn, .int .i64 z.1.sh, .int .i64 z.1.ls, .int .i64 z.1.pt, .int .i64 z.1.rf, .int .i64 z.1.bf, .int .i64 z.1.ra, .int .i64 z.1.ba]
theorem cmS_self (x : St) : cmS x x = 0 := by have := cmS_anti x x; omega
theorem cmS_zero {x y : St} (h : cmS x y = 0) : x.tm = y.tm := by
  have h0 := cmS_anti x y
  have h1 := (cmS_le x y).1 (by omega)
  have h2 := (cmS_le y x).1 (by omega)
  have h3 := crS_anti x y
  omega
theorem lt_iff (x y : SO) : ltOf cmO x y = true ↔ cmS x.1 y.1 < 0 := by unfold ltOf cmO; simp
theorem lt_not (x y : SO) : ltOf cmO x y = false ↔ cmS y.1 x.1 ≤ 0 := by
  have := cmS_anti x.1 y.1
  unfold ltOf cmO
  simp
  omega
theorem swoS : SWO (ltOf cmO) where
  irrefl x := by rw [lt_not, cmS_self]; omega
  trans x y z h1 h2 := by
    rw [lt_iff] at *
    have a := cmS_trans x.2 y.2 z.2 (by omega) (by omega)
    rcases Int.lt_or_eq_of_le a with h | h
    · exact h
    · have b := cmS_trans z.2 x.2 y.2 (by have := cmS_anti x.1 z.1; omega) (by omega : cmS x.1 y.1 ≤ 0)
      have := cmS_anti y.1 z.1
      omega
  ntrans x y z h1 h2 := by
    rw [lt_not] at *
    exact cmS_trans z.2 y.2 x.2 h2 h1
/-- A standing laid into a row that is read from its end. -/
def insR (s : SO) : List SO → List SO
  | [] => [s]
  | a :: r => if cmS s.1 a.1 < 0 then a :: insR s r else s :: a :: r
def sortL (ps : List SO) : List SO := ps.foldl (fun o s => (insR s o.reverse).reverse) []
theorem insR_perm (s : SO) : ∀ l, (insR s l).Perm (s :: l)
  | [] => List.Perm.refl _
  | a :: r => by
    unfold insR
    split
    · exact ((insR_perm s r).cons a).trans (List.Perm.swap s a r)
    · exact List.Perm.refl _
theorem insR_sorted (s : SO) : ∀ l : List SO, l.Pairwise (fun x y => cmO y x ≤ 0) → (insR s l).Pairwise (fun x y => cmO y x ≤ 0)
  | [], _ => List.pairwise_singleton _ _
  | a :: r, h => by
    have ha := List.pairwise_cons.mp h
    unfold insR
    split
    · rename_i hs
      refine List.pairwise_cons.mpr ⟨fun y hy => ?_, insR_sorted s r ha.2⟩
      rcases List.mem_cons.mp ((insR_perm s r).mem_iff.mp hy) with rfl | hy
      · exact Int.le_of_lt hs
      · exact ha.1 y hy
    · rename_i hs
      have h0 : cmO a s ≤ 0 := by have := cmS_anti s.1 a.1; unfold cmO; omega
      refine List.pairwise_cons.mpr ⟨fun y hy => ?_, h⟩
      rcases List.mem_cons.mp hy with rfl | hy
      · exact h0
      · exact cmS_trans y.2 a.2 s.2 (ha.1 y hy) h0
theorem fold_perm : ∀ (ps o : List SO), (ps.foldl (fun o s => (insR s o.reverse).reverse) o).Perm (o ++ ps)
  | [], o => by simp
  | p :: ps, o => by
    rw [List.foldl_cons]
    refine (fold_perm ps _).trans ?_
    refine (List.Perm.append_right ps ((List.reverse_perm _).trans ((insR_perm p _).trans ((List.reverse_perm o).cons p)))).trans ?_
    exact List.perm_middle.symm
theorem fold_sorted : ∀ (ps o : List SO), o.Pairwise (fun x y => cmO x y ≤ 0) → (ps.foldl (fun o s => (insR s o.reverse).reverse) o).Pairwise (fun x y => cmO x y ≤ 0)
  | [], o, h => h
  | p :: ps, o, h => by
    rw [List.foldl_cons]
    refine fold_sorted ps _ ?_
    rw [List.pairwise_reverse]
    exact insR_sorted p _ (by rw [List.pairwise_reverse]; exact h)
theorem sortL_perm (ps : List SO) : (sortL ps).Perm ps := fold_perm ps []
theorem sortL_sorted (ps : List SO) : (sortL ps).Pairwise (fun x y => cmO x y ≤ 0) := fold_sorted ps [] List.Pairwise.nil
theorem nodup_tm {l : List SO} (h : (l.map (·.1.tm)).Nodup) {x y : SO} (hx : x ∈ l) (hy : y ∈ l) (e : x.1.tm = y.1.tm) : x = y := by
  induction l with
  | nil => cases hx
  | cons a r ih =>
    rw [List.map_cons, List.nodup_cons] at h
    rcases List.mem_cons.mp hx with h1 | h1 <;> rcases List.mem_cons.mp hy with h2 | h2
    · rw [h1, h2]
    · subst h1
      exact (h.1 (List.mem_map.mpr ⟨y, h2, e.symm⟩)).elim
    · subst h2
      exact (h.1 (List.mem_map.mpr ⟨x, h1, e⟩)).elim
    · exact ih h.2 h1 h2
theorem sort_unique {l l' : List SO} (hp : l'.Perm l) (hs : l'.Pairwise (fun x y => cmO x y ≤ 0)) (hn : (l.map (·.1.tm)).Nodup) : l' = sortL l := by
  refine List.Perm.eq_of_pairwise (le := fun x y => cmO x y ≤ 0) (fun a b ha hb h1 h2 => ?_) hs (sortL_sorted l) (hp.trans (sortL_perm l).symm)
  refine nodup_tm hn (hp.mem_iff.mp ha) ((sortL_perm l).mem_iff.mp hb) (cmS_zero ?_)
  have := cmS_anti a.1 b.1
  unfold cmO at h1 h2
  omega
theorem sorted_is {d d' : Array SO} (hp : PermIn 0 d.size d d') (hs : SortedIn (ltOf cmO) 0 d.size d') (hn : (d.toList.map (·.1.tm)).Nodup) : d'.toList = sortL d.toList := by
  obtain ⟨h1, _, h2⟩ := hp
  have e1 : d'.extract 0 d.size = d' := by rw [← h1]; simp
  have e2 : d.extract 0 d.size = d := by simp
  rw [e1, e2] at h2
  refine sort_unique h2 ?_ hn
  rw [List.pairwise_iff_getElem]
  intro i j hi hj hij
  have hi' : i < d'.size := by simpa using hi
  have hj' : j < d'.size := by simpa using hj
  have := hs i j (Nat.zero_le _) hij (by omega)
  rw [lt_not, getElem!_pos d' i hi', getElem!_pos d' j hj'] at this
  simpa [cmO] using this
end Go.Proofs.YtfnapmdedmbdbaaDoor
end
section
set_option linter.unusedVariables false
namespace Go.Proofs.YtfnapmdedmbdbaaDoor
open Go Go.Am Go.Sort Go.RowKit
theorem bel_grow {w w' : World} (h : Bel w.heap.size w w') : ∃ q os', w' = grow (w.drewN q) os' := by
  refine ⟨w'.drawn - w.drawn, w'.heap.extract w.heap.size w'.heap.size, ?_⟩
  have h1 := h.tape.2 trivial
  have h2 : w'.heap = w.heap ++ w'.heap.extract w.heap.size w'.heap.size := by
    apply Array.ext_getElem?
    intro k
    by_cases hk : k < w.heap.size
    · rw [h.block k hk, Array.getElem?_append_left hk]
    · rw [Array.getElem?_append_right (by omega), Array.getElem?_extract]
      have := h.size
      by_cases hk' : k < w'.heap.size
      · rw [if_pos (by omega)]
        congr 1
        omega
      · rw [if_neg (by omega), Array.getElem?_eq_none (by omega)]
  obtain ⟨hp', tp', dr', os', out'⟩ := w'
  obtain ⟨hp, tp, dr, os, out⟩ := w
  have e1 := h.os
  have e2 := h.tape.1
  have e3 := h.output
  simp only at e1 e2 e3 h1 h2
  subst e1 e2 e3
  simp only [grow, World.drewN, World.mk.injEq]
  exact ⟨h2, trivial, by omega, trivial, trivial⟩
theorem den_st {φ : Phi} {I : Nat → Prop} {w : World} (z : SO) : Den φ I w (stA z.1) (.agg (encS z).toArray) :=
  .agg _ _ rfl (fun j x y hx hy => (DL.vs (φ := φ) (I := I) (w := w) (encS z)).2 j x y hx hy)
theorem cmp_calls (y z : SO) (W : World) (hT : ∀ w1 : World, (∀ k, k < W.heap.size → w1.heap[k]? = W.heap[k]?) → Tb w1) :
    Calls Tryd.prog 13 #[.agg (encS y).toArray, .agg (encS z).toArray] W fun e w' => e = .returned (.int .i64 (cmO y z)) ∧ ∃ q os', w' = grow (W.drewN q) os' := by
  obtain ⟨n, r, H', h, hr, _⟩ := C.comp_ok 0 [] y.1 z.1
  have hD : DL [] (fun k => k < W.heap.size) W [stA y.1, stA z.1] #[.agg (encS y).toArray, .agg (encS z).toArray] := by
    refine ⟨rfl, fun j a b ha hb => ?_⟩
    match j, ha, hb with
    | 0, ha, hb => cases ha; cases hb; exact den_st y
    | 1, ha, hb => cases ha; cases hb; exact den_st z
  refine (calls_of_acall' C.sig_ok rfl h hD hT).mono ?_
  rintro e w' ⟨x, I', rfl, hx, hb⟩
  subst hr
  exact ⟨congrArg Ending.returned (den_v hx), bel_grow hb⟩
theorem cmp_lays (blk off size : Nat) (w : World) (hT : ∀ (m : Nat) (os : Array Obj) (dk : Array SO) (w1 : World), (∀ k, k < (sortWorldK encS 10 w blk off m dk os).heap.size → w1.heap[k]? = (sortWorldK encS 10 w blk off m dk os).heap[k]?) → Tb w1) : CmpLays Tryd.prog 13 #[] encS 10 cmO blk off size w :=
  fun m os dk _ x y => cmp_calls x y _ (hT m os dk)
end Go.Proofs.YtfnapmdedmbdbaaDoor
end
section
set_option linter.unusedVariables false
namespace Go.Proofs.YtfnapmdedmbdbaaDoor
open Go Go.Am Go.Sort Go.RowKit
/-- Integers out of cells, standings out of integers. -/
def ai : AV → Option Int
  | .v (.int .i64 n) => some n
  | _ => none
def ais : List AV → Option (List Int)
  | [] => some []
  | x :: r => match ai x, ais r with
    | some a, some l => some (a :: l)
    | _, _ => none
def rdL : List Int → Option (List SO)
  | [] => some []
  | a :: b :: c :: d :: e :: f :: g :: h :: i :: j :: r => if hk : okS ⟨a, b, c, d, e, f, g, h, i, j⟩ then (rdL r).map (⟨_, hk⟩ :: ·) else none
  | _ => none
def flatV (ps : List SO) : List Value := (ps.map encS).flatten
def flatS (ps : List SO) : List AV := (ps.map fun z => stL z.1).flatten
theorem ai_eq {x : AV} {n : Int} (h : ai x = some n) : x = AV.i n := by
  unfold ai at h
  split at h
  · cases h; rfl
  · cases h
theorem ais_eq : ∀ (l : List AV) (is : List Int), ais l = some is → l = is.map fun n => AV.i n
  | [], is, h => by cases h; rfl
  | x :: r, is, h => by
    unfold ais at h
    split at h
    · rename_i a l h1 h2
      cases h
      rw [ai_eq h1, ais_eq r l h2]
      rfl
    · cases h
def intS (ps : List SO) : List Int := (ps.map fun z => [z.1.tm, z.1.pl, z.1.wn, z.1.sh, z.1.ls, z.1.pt, z.1.rf, z.1.bf, z.1.ra, z.1.ba]).flatten
theorem intS_flat : ∀ ps, (intS ps).map (fun n => AV.i n) = flatS ps
  | [] => rfl
  | z :: r => by
    have := intS_flat r
    simp only [intS, flatS, List.map_cons, List.flatten_cons, List.map_append] at this ⊢
    rw [this]
    rfl
theorem rdL_eq : ∀ (n : Nat) (is : List Int), is.length ≤ n → ∀ ps, rdL is = some ps → is = intS ps
  | _, [], _, ps, h => by cases h; rfl
  | 0, a :: r, hn, ps, h => by simp at hn
  | n + 1, a :: r, hn, ps, h => by
    unfold rdL at h
    split at h
    · cases h; simp_all
    · rename_i e1
      split at h
      · rename_i hk
        cases hr : rdL ‹List Int› with
        | none => rw [hr] at h; cases h
        | some qs =>
          rw [hr] at h
          cases h
          rw [e1] at hn ⊢
          have := rdL_eq n _ (by simp at hn; omega) qs hr
          rw [this]
          rfl
      · cases h
    · cases h
/-- The standings that cells hold. -/
def rdS (l : List AV) : Option (List SO) := (ais l).bind rdL
theorem rdS_eq {l : List AV} {ps : List SO} (h : rdS l = some ps) : l = flatS ps := by
  unfold rdS at h
  cases h1 : ais l with
  | none => rw [h1] at h; cases h
  | some is =>
    rw [h1] at h
    rw [ais_eq l is h1, rdL_eq is.length is (Nat.le_refl _) ps h, intS_flat]
theorem flatS_v : ∀ ps, flatS ps = (flatV ps).map .v
  | [] => rfl
  | z :: r => by
    have := flatS_v r
    simp only [flatS, flatV, List.map_cons, List.flatten_cons, List.map_append] at this ⊢
    rw [this]
    rfl
theorem flatV_len : ∀ ps, (flatV ps).length = ps.length * 10
  | [] => rfl
  | z :: r => by
    have := flatV_len r
    simp only [flatV, List.map_cons, List.flatten_cons, List.length_append, List.length_cons] at this ⊢
    rw [this]
    simp [encS]
    omega
theorem flatS_len (ps : List SO) : (flatS ps).length = ps.length * 10 := by rw [flatS_v, List.length_map, flatV_len]
theorem flatV_get : ∀ (ps : List SO) (j : Nat), j < ps.length * 10 → (flatV ps)[j]? = some ((encS ps[j / 10]!)[j % 10]!)
  | [], j, h => by simp at h
  | z :: r, j, h => by
    show (encS z ++ flatV r)[j]? = _
    by_cases hj : j < 10
    · rw [List.getElem?_append_left (by simp [encS]; omega), show j / 10 = 0 by omega, show j % 10 = j by omega]
      rw [List.getElem?_eq_getElem (by simp [encS]; omega)]
      show _ = some ((encS z)[j]!)
      rw [getElem!_pos (encS z) j (by simp [encS]; omega)]
    · obtain ⟨k, rfl⟩ : ∃ k, j = k + 10 := ⟨j - 10, by omega⟩
      rw [List.getElem?_append_right (by simp [encS]), show k + 10 - (encS z).length = k by simp [encS], flatV_get r k (by simp at h; omega), show (k + 10) / 10 = k / 10 + 1 by omega, show (k + 10) % 10 = k % 10 by omega]
      rfl
theorem flatK_get {ps : List SO} {d : Array SO} (hd : d.toList = ps) {j : Nat} (h : j < ps.length * 10) : (flatV ps)[j]? = some ((flatK encS 10 d)[j]!) := by
  subst hd
  rw [flatV_get _ j h, get_flatK encS 10 d j (by simpa using h)]
  have : j / 10 < d.size := by have : j < d.size * 10 := (by simpa using h); omega
  rw [getElem!_pos d.toList (j / 10) (by simpa using this), getElem!_pos d (j / 10) this]
  simp
section
variable {φ : Phi} {I : Nat → Prop} {w : World} {lim : Nat} {H : Heap}
theorem frz_none {k : Nat} {C : Array Value} {T : TypeId} (h : w.heap[k]? = some (.cells C T (0, 0))) (o : Nat) : w.frozen? ⟨k, o, none⟩ = false := by
  unfold World.frozen?
  simp [h]
theorem holds_of {L : Am.Loc} {C : Array Value} {T : TypeId} {ps : List SO} {d : Array SO} (hd : d.toList = ps) (hC : w.heap[L.k]? = some (.cells C T (0, 0))) (hO : CellsOK φ I w C L.base (flatS ps)) : HoldsK encS 10 w L.k L.base d := by
  intro j hj
  have hj' : j < ps.length * 10 := by rw [size_flatK] at hj; subst hd; simpa using hj
  refine ⟨?_, frz_none hC _⟩
  have h1 := flatK_get hd hj'
  obtain ⟨y, e1, e2⟩ := hO.2 j (.v (flatK encS 10 d)[j]!) (by rw [flatS_v, List.getElem?_map, h1]; rfl)
  have := den_v e2
  subst this
  unfold World.cell?
  simp only [hC]
  rw [if_neg (by simp), e1]
  rfl
theorem sw_other {blk off m : Nat} {dk : Array SO} {os : Array Obj} {k : Nat} (hk : k ≠ blk) (hlt : k < w.heap.size) : (sortWorldK encS 10 w blk off m dk os).heap[k]? = w.heap[k]? := by
  show ((putRowK encS 10 (Sort.ahead w m) blk off dk).heap ++ os)[k]? = _
  rw [Array.getElem?_append_left (by show k < (putRow id (Sort.ahead w m) blk off (flatK encS 10 dk)).heap.size; rw [size_putRow]; exact hlt)]
  show (w.heap.modify blk _)[k]? = _
  rw [Array.getElem?_modify, if_neg (fun h => hk h.symm)]
theorem wrote_row [Dn] {blk off m : Nat} {d : Array SO} {C : Array Value} {T : TypeId} (hC : w.heap[blk]? = some (.cells C T (0, 0))) : Wrote w (putRowK encS 10 (Sort.ahead w m) blk off d) blk (putCells id off (flatK encS 10 d) C) T where
  new := by
    show (w.heap.modify blk _)[blk]? = _
    rw [Array.getElem?_modify, if_pos rfl, hC]
    rfl
  other := fun i hi => by
    show (w.heap.modify blk _)[i]? = _
    rw [Array.getElem?_modify, if_neg (fun h => hi h.symm)]
  size := by show (w.heap.modify blk _).size = _; simp
  os := rfl
  tape := ⟨rfl, fun _ => Nat.le_add_right _ _⟩
  output := rfl
theorem put_cells {L : Am.Loc} {C : Array Value} {ps : List SO} {d : Array SO} (hd : d.toList = ps) (hs : L.base + ps.length * 10 ≤ C.size) : CellsOK φ I w (putCells id L.base (flatK encS 10 d) C) L.base (flatS ps) := by
  have hz : (flatK encS 10 d).size = ps.length * 10 := by rw [size_flatK, ← hd]; simp
  refine ⟨by rw [flatS_len]; simp [putCells]; omega, fun j x hx => ?_⟩
  have hj : j < ps.length * 10 := by
    have := (List.getElem?_eq_some_iff.1 hx).1
    rwa [flatS_len] at this
  have h1 := flatK_get hd hj
  rw [flatS_v, List.getElem?_map, h1] at hx
  cases hx
  refine ⟨_, ?_, .v _⟩
  simp only [putCells, Array.getElem?_mapIdx]
  rw [Array.getElem?_eq_getElem (by omega), Option.map_some, if_pos ⟨by omega, by omega⟩, show L.base + j - L.base = j by omega]
  rfl
theorem sorted_rel [Dn] (hR : Rel lim φ I w H) {b : Nat} {ps : List SO} (hb : hget H b = some (flatS ps)) {L : Am.Loc} (hL : φ[b]? = some (some L)) (hlim : lim ≤ b) {C : Array Value} {T : TypeId} (hC : w.heap[L.k]? = some (.cells C T (0, 0))) (hS : C.size = L.S) (hO : CellsOK φ I w C L.base (flatS ps))
    {q : Nat} {d' : Array SO} {os : Array Obj} (hd : d'.toList = sortL ps) : Rel lim φ I (sortWorldK encS 10 w L.k L.base q d' os) (hset H b (some (flatS (sortL ps)))) ∧ Ext lim φ I w φ I (sortWorldK encS 10 w L.k L.base q d' os) := by
  have hw := wrote_row (m := q) (off := L.base) (d := d') hC
  have hlen : (sortL ps).length = ps.length := (sortL_perm ps).length_eq
  have h0 := hO.1
  rw [flatS_len] at h0
  have r1 := write_sound hR hb hL hlim hw (by simp [putCells, hS]) (put_cells (φ := φ) (I := I) (w := w) hd (by rw [hlen]; exact h0))
  have e1 := Wrote.ext hR hb hL hlim hw
  have hb2 : Bel (putRowK encS 10 (Sort.ahead w q) L.k L.base d').heap.size (putRowK encS 10 (Sort.ahead w q) L.k L.base d') (sortWorldK encS 10 w L.k L.base q d' os) :=
    ⟨rfl, ⟨rfl, fun _ => Nat.le_refl _⟩, rfl, by show _ ≤ (_ ++ os).size; simp, fun j hj => by show (_ ++ os)[j]? = _; rw [Array.getElem?_append_left hj]⟩
  refine ⟨r1.down hb2, e1.trans ⟨List.prefix_refl _, fun _ h => h, fun k hk _ => hb2.block k hk, fun c M _ hM => hb2.block _ (r1.disj c M hM).2, fun c M hM => .inr ⟨c, M, hM, rfl⟩, hb2.os, hb2.tape, hb2.output, hb2.size⟩⟩
end
end Go.Proofs.YtfnapmdedmbdbaaDoor
end
