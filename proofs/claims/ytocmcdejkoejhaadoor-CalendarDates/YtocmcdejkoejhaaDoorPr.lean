/-
  The callees that the abstract machine takes by contract: strconv.FormatInt, strings.Repeat.
-/
import Derived.Test.YtocmcdejkoejhaaDoorAmY
import Derived.Test.YtocmcdejkoejhaaDoorSh
import Derived.KernelRfl
set_option linter.unusedVariables false
namespace Go.Proofs.YtocmcdejkoejhaaDoor
open Go Go.Am Go.RowKit Go.Sort
def fmtV : List AV → Heap → Option AV
  | [.v (.int .i64 n), .v (.int .i64 k)], _ => if k = 10 ∧ -9223372036854775808 ≤ n ∧ n ≤ 9223372036854775807 then some (.v (.string ⟨(Lib.itoa n).toArray⟩)) else none
  | _, _ => none
def repV : List AV → Heap → Option AV
  | [.v (.string s), .v (.int .i64 k)], _ => if k = 0 then some (.v (.string ⟨#[]⟩)) else if k = 1 then some (.v (.string s)) else none
  | _, _ => none
def cutV : List AV → Heap → Option AV
  | [.v (.string s), .v (.string p)], _ => some (.tup [.v (.string ⟨(Lib.trimPrefix s.data.toList p.data.toList).toArray⟩), .v (.bool (Lib.hasPrefix s.data.toList p.data.toList))])
  | _, _ => none
def primF : FuncId → Option (List AV → Heap → Option AV)
  | 39 => some cutV
  | 41 => some repV
  | 43 => some fmtV
  | _ => none
theorem two_args {φ : Phi} {I : Nat → Prop} {w : World} {a b : Value} {cs : Array Value} (h : DL φ I w [.v a, .v b] cs) : cs = #[a, b] := by
  obtain ⟨l⟩ := cs
  have hl : l.length = 2 := by simpa using h.1
  match l, hl, h with
  | [x, y], _, h =>
    have h0 := den_v (h.2 0 _ x rfl rfl)
    have h1 := den_v (h.2 1 _ y rfl rfl)
    rw [h0, h1]
theorem named39 : Named Tryd.prog 39 := ⟨Tryd.f39, Tryd.func39, by kernel_rfl, by kernel_rfl⟩
theorem named41 : Named Tryd.prog 41 := ⟨Tryd.f41, Tryd.func41, by kernel_rfl, by kernel_rfl⟩
theorem named43 : Named Tryd.prog 43 := ⟨Tryd.f43, Tryd.func43, by kernel_rfl, by kernel_rfl⟩
theorem below_gr (w : World) (k : Nat) (os : Array Obj) : Below w.heap.size w (grow (w.drewN k) os) :=
  ⟨rfl, rfl, rfl, by show w.heap.size ≤ (w.heap ++ os).size; simp, fun j hj => by show (w.heap ++ os)[j]? = _; rw [Array.getElem?_append_left hj]⟩
theorem prim_ok : ∀ f p, primF f = some p → ∀ args H r, p args H = some r → Named Tryd.prog f ∧ ∀ (lim : Nat) (φ : Phi) (I : Nat → Prop) (w : World) (cs : Array Value), Tb w → Rel lim φ I w H → DL φ I w args cs → Calls Tryd.prog f cs w (PurePost φ I w lim H r) := by
  intro f p h args H r hr
  unfold primF at h
  split at h
  · cases h
    refine ⟨named39, fun lim φ I w cs hT hR hD => ?_⟩
    unfold cutV at hr
    split at hr
    · rename_i s p
      cases two_args hD
      cases hr
      refine (Tryd.strings_CutPrefix s p w).mono ?_
      rintro e w' ⟨rfl, rfl⟩
      exact ⟨_, I, rfl, .tup _ _ rfl (fun j x y hx hy => (DL.vs (φ := φ) (I := I) (w := w') [_, _]).2 j x y hx hy), fun _ h => h, Below.refl _ _, hR⟩
    · cases hr
  · cases h
    refine ⟨named41, fun lim φ I w cs hT hR hD => ?_⟩
    unfold repV at hr
    split at hr
    · rename_i s k
      cases two_args hD
      split at hr
      · rename_i hk; subst hk; cases hr
        refine (Tryd.strings_Repeat_zero s w).mono ?_
        rintro e w' ⟨rfl, rfl⟩
        exact ⟨_, I, rfl, .v _, fun _ h => h, Below.refl _ _, hR⟩
      split at hr
      · rename_i hk; subst hk; cases hr
        refine (Tryd.strings_Repeat_one s w).mono ?_
        rintro e w' ⟨rfl, rfl⟩
        exact ⟨_, I, rfl, .v _, fun _ h => h, Below.refl _ _, hR⟩
      · cases hr
    · cases hr
  · cases h
    refine ⟨named43, fun lim φ I w cs hT hR hD => ?_⟩
    unfold fmtV at hr
    split at hr
    · rename_i n k
      cases two_args hD
      split at hr
      · rename_i hk
        obtain ⟨rfl, h0, h1⟩ := hk
        cases hr
        refine (Tryd.strconv_FormatInt_10 n h0 h1 w hT).mono ?_
        rintro e w' ⟨rfl, k, os, rfl⟩
        exact ⟨_, I, rfl, .v _, fun _ h => h, below_gr w k os, hR.down (below_gr w k os)⟩
      · cases hr
    · cases hr
  · cases h
end Go.Proofs.YtocmcdejkoejhaaDoor
