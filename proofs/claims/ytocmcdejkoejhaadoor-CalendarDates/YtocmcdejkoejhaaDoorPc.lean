/-
  Numbers of a date as texts: both functions, reckoned for every number that there is.
-/
import Derived.Test.YtocmcdejkoejhaaDoorSig
import Derived.Test.YtocmcdejkoejhaaDoorK9
import Derived.Test.YtocmcdejkoejhaaDoorAmW
namespace Go.Proofs.YtocmcdejkoejhaaDoor
open Go Go.Am
set_option maxRecDepth 100000
/-- A function whose answer is plain knows nothing of the caller's memory. -/
theorem acall_fz {S : Sig} {n f : Nat} {fa : FnA} {c : Code} (hp : S.prim f = none) (hf : S.fns f = some fa) (hb : fa.fn.body = some c) (hz : S.fz f = true) (lim : Nat) (args : List AV) (H : Heap) (hA : args.map (frz H 0 8) = args.map (frz [] 0 8)) :
    acall S (n + 1) lim f args H = (acall S (n + 1) 0 f args []).map fun p => (p.1, H) := by
  simp only [acall, hp, hf, hb, hz, if_true, hA]
  generalize finish S false fa [] _ = o
  cases o with
  | none => rfl
  | some p => obtain ⟨r, x⟩ := p; simp only []; split <;> rfl
noncomputable def chkP (f : FuncId) (w n : Int) (l : List UInt8) : Bool :=
  match acall sig 81 0 f [AV.i n, AV.i w] [] with
  | some (.v (.string s), _) => s.data.toList == l
  | _ => false
theorem chk_ok {f : FuncId} {w n : Int} {l : List UInt8} (h : chkP f w n l = true) : ∃ H, acall sig 81 0 f [AV.i n, AV.i w] [] = some (.v (.string (bs l)), H) := by
  unfold chkP at h
  split at h
  · rename_i s H hs
    have e : s.data.toList = l := eq_of_beq h
    refine ⟨H, ?_⟩
    rw [hs, ← e]
  · cases h
theorem c35_4 : (List.range 300).all (fun k => chkP 35 4 (1900 + (k : Int)) (p4l (1900 + (k : Int)))) = true := by kernel_rfl
theorem c35_2 : (List.range 32).all (fun k => chkP 35 2 (k : Int) (p2l (k : Int))) = true := by kernel_rfl
theorem c37_4_0 : (List.range 30).all (fun k => chkP 37 4 (1900 + (k : Int)) (p4l (1900 + (k : Int)))) = true := by kernel_rfl
theorem c37_4_1 : (List.range 30).all (fun k => chkP 37 4 (1930 + (k : Int)) (p4l (1930 + (k : Int)))) = true := by kernel_rfl
theorem c37_4_2 : (List.range 30).all (fun k => chkP 37 4 (1960 + (k : Int)) (p4l (1960 + (k : Int)))) = true := by kernel_rfl
theorem c37_4_3 : (List.range 30).all (fun k => chkP 37 4 (1990 + (k : Int)) (p4l (1990 + (k : Int)))) = true := by kernel_rfl
theorem c37_4_4 : (List.range 30).all (fun k => chkP 37 4 (2020 + (k : Int)) (p4l (2020 + (k : Int)))) = true := by kernel_rfl
theorem c37_4_5 : (List.range 30).all (fun k => chkP 37 4 (2050 + (k : Int)) (p4l (2050 + (k : Int)))) = true := by kernel_rfl
theorem c37_4_6 : (List.range 30).all (fun k => chkP 37 4 (2080 + (k : Int)) (p4l (2080 + (k : Int)))) = true := by kernel_rfl
theorem c37_4_7 : (List.range 30).all (fun k => chkP 37 4 (2110 + (k : Int)) (p4l (2110 + (k : Int)))) = true := by kernel_rfl
theorem c37_4_8 : (List.range 30).all (fun k => chkP 37 4 (2140 + (k : Int)) (p4l (2140 + (k : Int)))) = true := by kernel_rfl
theorem c37_4_9 : (List.range 30).all (fun k => chkP 37 4 (2170 + (k : Int)) (p4l (2170 + (k : Int)))) = true := by kernel_rfl
theorem c37_2 : (List.range 32).all (fun k => chkP 37 2 (k : Int) (p2l (k : Int))) = true := by kernel_rfl
end Go.Proofs.YtocmcdejkoejhaaDoor
