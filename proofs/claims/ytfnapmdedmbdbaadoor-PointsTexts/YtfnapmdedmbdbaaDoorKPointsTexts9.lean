/-
  What is proved: PointsTexts returns true for every input, and each argument reads behind the call as it read before. No conditions. (The step from the walk to the row, written by program.)
-/
import Derived.Test.YtfnapmdedmbdbaaDoorKPointsTexts8
import Derived.Tactics2
import Derived.BigQuiet
import Derived.WalkKit
import Derived.BigCall
import Derived.IntWalk
import Derived.Deep.DeepCutAuto
import Derived.Test.YtfnapmdedmbdbaaDoorKPointsTexts3
import Derived.ProofKit
import Derived.ChangeArms
import Derived.DataReads
import Derived.OpenShut
import Derived.WideShapes
import Derived.KernelRfl
import Derived.Test.YtfnapmdedmbdbaaDoorKPointsTexts4
import Derived.Test.YtfnapmdedmbdbaaDoorKPointsTexts6
import Derived.Test.YtfnapmdedmbdbaaDoorRows
import Derived.Test.YtfnapmdedmbdbaaDoorCards
import Derived.Test.YtfnapmdedmbdbaaDoorTie
import Derived.Test.YtfnapmdedmbdbaaDoorKPointsTexts0
import Derived.SevenTiedAt
import Derived.ChangeOld
import Derived.Below
section
set_option linter.unusedVariables false
namespace Go.Proofs.YtfnapmdedmbdbaaDoor
open Go Go.Am Go.RowKit
theorem bel_alloc (w : World) (o : Obj) : Below w.heap.size w (w.alloc o) := (Below.refl _ w).alloc (Nat.le_refl _) o
theorem builder0 (w : World) : Lib.IsBuilder 68 5 w.heap.size w.heap.size (Lib.byteCells []) (w.alloc (Obj.cells #[Value.pointer none, Value.slice none 0 0] 68)) :=
  Lib.fresh_isBuilder 68 5 w
theorem builderAt_below {T e : TypeId} {B b : Nat} {p : Value} {bs : List Value} {w w' : World} (h : Lib.BuilderAt T e B b p bs w) (hb : Below w.heap.size w w') : Lib.BuilderAt T e B b p bs w' := by
  have hlt := h.lt
  obtain ⟨hB, v, hk, hown, hne⟩ := h
  refine ⟨hB, v, (hb.block b hlt).trans hk, hown.kept (row := none) ⟨hb.os, hb.tape, hb.output, hb.size, fun k hk _ => hb.block k hk⟩ ?_, hne⟩
  exact Decidable.em _
theorem builder_below {T e : TypeId} {B b : Nat} {bs : List Value} {w w' : World} (h : Lib.IsBuilder T e B b bs w) (hb : Below w.heap.size w w') : Lib.IsBuilder T e B b bs w' := by
  rcases h with h | h
  · exact .inl (builderAt_below h hb)
  · exact .inr (builderAt_below h hb)
/-- The round's world: nothing below B is written, the box of the row stands in block bx. -/
structure Rd (B bx : Nat) (z : St) (w w' : World) : Prop where
  below : Below B w w'
  le : B ≤ w.heap.size
  box : w'.heap[bx]? = some (.cells (stV z) 23 (0, 0))
  ne : bx ≠ B
theorem Rd.lt {B bx : Nat} {z : St} {w w' : World} (h : Rd B bx z w w') : bx < w'.heap.size := by
  rcases Nat.lt_or_ge bx w'.heap.size with h' | h'
  · exact h'
  · have := h.box; simp [Array.getElem?_eq_none h'] at this
theorem Rd.cell {B bx : Nat} {z : St} {w w' : World} (h : Rd B bx z w w') (k : Nat) (x : Value) (hx : (stV z)[k]? = some x) : w'.cell? ⟨bx, k, none⟩ = some x := by
  rw [Lib.cell_of_heap h.box]; exact hx
theorem Rd.call {B bx : Nat} {z : St} {w w' w2 : World} (h : Rd B bx z w w') (hb : Below w'.heap.size w' w2) : Rd B bx z w w2 :=
  ⟨h.below.trans (hb.mono (Nat.le_trans h.le h.below.size)), h.le, (hb.block bx h.lt).trans h.box, h.ne⟩
theorem Rd.write {B bx : Nat} {z : St} {w w' w2 : World} (h : Rd B bx z w w') (hb : Below B w' w2) (hk : Lib.OthersKept 5 (some B) w' w2) : Rd B bx z w w2 :=
  ⟨h.below.trans hb, h.le, hk bx _ h.box (fun e => h.ne (Option.some.inj e)) (fun c fz e => by cases e), h.ne⟩
theorem rd_new {B : Nat} {z : St} {w wr : World} (hb : Below B w wr) (hB : B ≤ w.heap.size) (hlt : B < wr.heap.size) : Rd B wr.heap.size z w (wr.alloc (.cells (stV z) 23)) :=
  ⟨hb.alloc (Nat.le_trans hB hb.size) _, hB, heap_alloc_new wr _, by omega⟩
theorem builder_lt {T e : TypeId} {B b : Nat} {bs : List Value} {w : World} (h : Lib.IsBuilder T e B b bs w) : b < w.heap.size := by
  rcases h with h | h
  · exact h.lt
  · exact h.lt
theorem builder_at {T e : TypeId} {B b : Nat} {bs : List Value} {w : World} (h : Lib.BuilderAt T e B b (.pointer (some ⟨b, 0, none⟩)) bs w) : Lib.IsBuilder T e B b bs w := .inr h
theorem cells_app (l m : List UInt8) : Lib.byteCells l ++ Lib.strCells (bs m) = Lib.byteCells (l ++ m) := by
  rw [show Lib.strCells (bs m) = Lib.byteCells m from rfl]
  simp [Lib.byteCells]
/-- The worlds that calls may leave behind, named one by one. -/
theorem fam (w : World) : ∃ (κ : Type) (f : κ → World), (∀ k, Below w.heap.size w (f k)) ∧ (∀ x, Below w.heap.size w x → ∃ k, x = f k) :=
  ⟨{x : World // Below w.heap.size w x}, Subtype.val, fun k => k.2, fun x hx => ⟨⟨x, hx⟩, rfl⟩⟩
theorem wr_c (B : Nat) (l m : List UInt8) (s : ByteArray) (hs : s = bs m) (w : World) (h : Lib.IsBuilder 68 5 B B (Lib.byteCells l) w) (hl : l.length + m.length ≤ 1000000) (hB : B ≤ w.heap.size) :
    Calls Tryd.prog 46 #[.pointer (some ⟨B, 0, none⟩), .string s] w fun e w' => e = .returned (.tuple #[.int .i64 s.size, .nilIface]) ∧ Lib.IsBuilder 68 5 B B (Lib.byteCells (l ++ m)) w' ∧ Below B w w' ∧ Lib.OthersKept 5 (some B) w w' := by
  subst hs
  refine (write_is B B (Lib.byteCells l) (bs m) w h (by rw [Lib.byteCells_length, bs_size]; omega) hB).mono ?_
  rintro e w' ⟨h1, h2, h3, h4⟩
  refine ⟨h1, ?_, h3, h4⟩
  rw [cells_app] at h2
  exact builder_at h2
theorem run_n5 (z : St) (j : Nat) (hj : j < 5) (w : World) : Sem.run Tryd.prog (Instr.index 74 (Value.agg #[Value.int IntKind.i64 z.pl, Value.int IntKind.i64 z.wn, Value.int IntKind.i64 z.sh, Value.int IntKind.i64 z.ls, Value.int IntKind.i64 z.pt]) (Value.int IntKind.i64 (j : Int))) w = .ok (.int .i64 (n5 z j)) w := by
  have h1 : indexV Tryd.prog 74 (.agg [AV.i z.pl, AV.i z.wn, AV.i z.sh, AV.i z.ls, AV.i z.pt]) (AV.i (j : Int)) = some (AV.i (n5 z j)) := by
    have h : j = 0 ∨ j = 1 ∨ j = 2 ∨ j = 3 ∨ j = 4 := by omega
    rcases h with rfl | rfl | rfl | rfl | rfl <;> (simp only [indexV, tk74, ty3]; rfl)
  obtain ⟨v, h, hd⟩ := index_sound (φ := []) (I := fun _ => True) (w := w) h1 (.agg _ #[Value.int IntKind.i64 z.pl, Value.int IntKind.i64 z.wn, Value.int IntKind.i64 z.sh, Value.int IntKind.i64 z.ls, Value.int IntKind.i64 z.pt] rfl fun k x y hx hy => by
    rcases k with _ | _ | _ | _ | _ | k
    all_goals first
      | (simp at hx; done)
      | (obtain rfl := Option.some.inj hx; obtain rfl := Option.some.inj hy; exact .v _)) (.v (.int .i64 (j : Int)))
  obtain rfl := den_v hd
  exact h w
theorem acc_step {ns : List (List UInt8)} {zs : List St} {u : Nat} {z : St} (h : z = gz zs u) : accX ns zs (u + 1) = accX ns zs u ++ (rwA ns z u ++ rwB z 5) ++ ([32] ++ (rtS z 6).1 ++ [10]) := by
  rw [accX, rwX, h]; simp only [List.append_assoc]
end Go.Proofs.YtfnapmdedmbdbaaDoor
end
section
set_option linter.unusedVariables false
namespace Go.Proofs.YtfnapmdedmbdbaaDoor
open Go Go.Am Go.RowKit Go.Shelf
set_option maxHeartbeats 4000000 in
set_option maxRecDepth 1000000 in
theorem text_c (w : World) (hT : HT w) (zs : List St) (ns : List (List UInt8)) (p q : Option Addr) (c d : Nat) (hc : zs.length ≤ c) (hd : ns.length ≤ d) (hl : lay zs ns p q w) (hz : ∀ u, rgS (gz zs u)) (hn : ∀ t, (nmG ns t).length ≤ 9223372036854775807) (hz2 : zs.length ≤ 100) (hn2 : ns.length ≤ 100) :
    Calls Tryd.prog 24 #[.slice p zs.length c, .slice q ns.length d] w fun e w' => e = .returned (.tuple #[.string (bs (txtS zs ns).1), .int .i64 (txtS zs ns).2]) ∧ Below w.heap.size w w' := by
  by_cases h20 : 20 < zs.length
  · go_enter Tryd.func24, Tryd.ntmps24
    go_wp2
    go_ret2
    rw [txtS_9 h20]
    exact ⟨rfl, Below.refl _ _⟩
  have e45 : ∀ args w, (callFunc 45 args).run Tryd.prog w = .ok (.enter 45 args) w := enters_of Tryd.func45 (by kernel_rfl) rfl
  have e15 : ∀ args w, (callFunc 15 args).run Tryd.prog w = .ok (.enter 15 args) w := enters_of Tryd.func15 (by kernel_rfl) rfl
  have e35 : ∀ args w, (callFunc 35 args).run Tryd.prog w = .ok (.enter 35 args) w := enters_of Tryd.func35 (by kernel_rfl) rfl
  have e46 : ∀ args w, (callFunc 46 args).run Tryd.prog w = .ok (.enter 46 args) w := enters_of Tryd.func46 (by kernel_rfl) rfl
  have e47 : ∀ args w, (callFunc 47 args).run Tryd.prog w = .ok (.enter 47 args) w := enters_of Tryd.func47 (by kernel_rfl) rfl
  go_enter Tryd.func24, Tryd.ntmps24
  go_wp2
  go_loopw [18] (fun i wr => ∃ (u : Nat), i = .int .i64 u ∧ u ≤ zs.length ∧ ferr (erT ns zs) u = 0 ∧ Below w.heap.size w wr ∧ Lib.IsBuilder 68 5 w.heap.size w.heap.size (Lib.byteCells (accX ns zs u)) wr) (fun i _ => zs.length - (intOf i).toNat)
  case atStart =>
    exact ⟨0, rfl, Nat.zero_le _, rfl, bel_alloc w _, builder0 w⟩
  case round =>
    obtain ⟨u, rfl, hu, hf, hb, hB⟩ := hrel
    have hTr := hT.below hb
    by_cases hlt : u < zs.length
    · obtain ⟨b, o, rfl, hbl, hcl⟩ := hl.1 (by omega)
      obtain ⟨z, hzu⟩ : ∃ z, z = gz zs u := ⟨_, rfl⟩
      have hee : Hid (erT ns zs u = rwE ns z) := by rw [hzu]; rfl
      have hzr : rgS z := by rw [hzu]; exact hz u
      have hcz := hcl u hlt
      rw [← hzu] at hcz
      have e := fun k x hx => (cell_below (o := o + (u * 10 + k)) hb hbl).trans (hcz k x hx)
      have k0 : wr.cell? ⟨b, o + u * 10, none⟩ = some (.int .i64 z.tm) := e 0 (.int .i64 z.tm) rfl
      have k1 : wr.cell? ⟨b, o + u * 10 + 1, none⟩ = some (.int .i64 z.pl) := e 1 (.int .i64 z.pl) rfl
      have k2 : wr.cell? ⟨b, o + u * 10 + 2, none⟩ = some (.int .i64 z.wn) := e 2 (.int .i64 z.wn) rfl
      have k3 : wr.cell? ⟨b, o + u * 10 + 3, none⟩ = some (.int .i64 z.sh) := e 3 (.int .i64 z.sh) rfl
      have k4 : wr.cell? ⟨b, o + u * 10 + 4, none⟩ = some (.int .i64 z.ls) := e 4 (.int .i64 z.ls) rfl
      have k5 : wr.cell? ⟨b, o + u * 10 + 5, none⟩ = some (.int .i64 z.pt) := e 5 (.int .i64 z.pt) rfl
      have k6 : wr.cell? ⟨b, o + u * 10 + 6, none⟩ = some (.int .i64 z.rf) := e 6 (.int .i64 z.rf) rfl
      have k7 : wr.cell? ⟨b, o + u * 10 + 7, none⟩ = some (.int .i64 z.bf) := e 7 (.int .i64 z.bf) rfl
      have k8 : wr.cell? ⟨b, o + u * 10 + 8, none⟩ = some (.int .i64 z.ra) := e 8 (.int .i64 z.ra) rfl
      have k9 : wr.cell? ⟨b, o + u * 10 + 9, none⟩ = some (.int .i64 z.ba) := e 9 (.int .i64 z.ba) rfl
      have hzH : Hid (z = gz zs u) := hzu
      clear e hcz hcl hzu
      by_cases h1 : z.tm < 0
      · go_wp2
        go_ret2
        rw [txtS_e h20 hlt hf (Eq.trans hee (rwE_1 (.inl h1))) (by decide)]
        exact ⟨rfl, hb.alloc hb.size _⟩
      by_cases h2 : (ns.length : Int) ≤ z.tm
      · go_wp2
        go_ret2
        rw [txtS_e h20 hlt hf (Eq.trans hee (rwE_1 (.inr h2))) (by decide)]
        exact ⟨rfl, hb.alloc hb.size _⟩
      obtain ⟨b2, o2, rfl, hb2, hql⟩ := hl.2 (by omega)
      have hq := (cell_below (o := o2 + z.tm.toNat) hb hb2).trans (hql z.tm (by omega) (by omega))
      have hzr2 : z.tm.toNat < ns.length := by omega
      go_upto_region 9 with fail
      obtain ⟨wa, hwa⟩ : ∃ wa, wa = wr.alloc (.cells (stV z) 23) := ⟨_, rfl⟩
      unfold stV at hwa
      rw [← hwa]
      have hBa := builder_below hB (bel_alloc wr (.cells (stV z) 23))
      have hRa := rd_new (z := z) hb (Nat.le_refl _) (builder_lt hB)
      unfold stV at hBa hRa
      rw [← hwa] at hBa hRa
      have hqa := (cell_below (o := o2 + z.tm.toNat) hRa.below hb2).trans (hql z.tm (by omega) (by omega))
      obtain ⟨bx, hbx⟩ : ∃ bx, bx = wr.heap.size := ⟨_, rfl⟩
      rw [← hbx] at hRa
      rw [← hbx]
      have t0 := hRa.cell 0 (.int .i64 z.tm) rfl
      have hcN := name_c wa (hT.below hRa.below) (nmG ns z.tm) (hn _)
      clear hwa hbx k0 k1 k2 k3 k4 k5 k6 k7 k8 k9 hq
      by_cases hnm : nameS (bs (nmG ns z.tm)) = false
      · rw [hnm] at hcN
        go_wp2_with (go_at_fn 45; refine hcN.mono ?_)
        rintro e w1 rfl hw1
        go_wp2
        go_ret2
        rw [txtS_e h20 hlt hf (Eq.trans hee (rwE_5 (by omega) hnm)) (by decide)]
        exact ⟨rfl, (hRa.call hw1).below⟩
      · have hnm : nameS (bs (nmG ns z.tm)) = true := by simpa using hnm
        rw [hnm] at hcN
        go_wp2_with (go_at_fn 45; refine hcN.mono ?_)
        rintro e w1 rfl hw1
        have hR1 := hRa.call hw1
        have hB1 := builder_below hBa hw1
        clear hBa
        have t0 := hR1.cell 0 (.int .i64 z.tm) rfl
        have t1 := hR1.cell 1 (.int .i64 z.pl) rfl
        have t2 := hR1.cell 2 (.int .i64 z.wn) rfl
        have t3 := hR1.cell 3 (.int .i64 z.sh) rfl
        have t4 := hR1.cell 4 (.int .i64 z.ls) rfl
        have t5 := hR1.cell 5 (.int .i64 z.pt) rfl
        have t6 := hR1.cell 6 (.int .i64 z.rf) rfl
        have t7 := hR1.cell 7 (.int .i64 z.bf) rfl
        have t8 := hR1.cell 8 (.int .i64 z.ra) rfl
        have t9 := hR1.cell 9 (.int .i64 z.ba) rfl
        have hcR := rate_c w1 (hT.below hR1.below) z
        unfold stV at hcR
        by_cases hre : (rtS z 6).2 = 0
        · rw [hre] at hcR
          go_wp2_with (go_at_fn 15; refine hcR.mono ?_)
          rintro e w2 ⟨rfl, hw2⟩
          have hR2 := hR1.call hw2
          have hB2 := builder_below hB1 hw2
          clear hB1 t0 t1 t2 t3 t4 t5 t6 t7 t8 t9
          go_upto_region 14 with fail
          obtain ⟨κ, f, hf1, hf2⟩ := fam w2
          obtain ⟨k0, -⟩ := hf2 w2 (Below.refl _ _)
          haveI : Nonempty κ := ⟨k0⟩
          have htu := txW_len (n := (u : Int) + 1) (by omega)
          have hnl := name_small hnm
          have hrl := rt_small hre
          have hRk := fun k => hR2.call (hf1 k)
          have hBk := fun k => builder_below hB2 (hf1 k)
          have g0 : ∀ k, (f k).cell? ⟨bx, 0, none⟩ = some (.int .i64 z.tm) := fun k => (hRk k).cell 0 _ rfl
          have gq : ∀ k, (f k).cell? ⟨b2, o2 + z.tm.toNat, none⟩ = some (.string (bs (nmG ns z.tm))) := fun k => (cell_below (o := o2 + z.tm.toNat) (hRk k).below hb2).trans (hql z.tm (by omega) (by omega))
          have gd : ∀ k, Calls Tryd.prog 35 #[.int .i64 ((u : Int) + 1)] (f k) fun e w' => e = .returned (.string (bs (txW ((u : Int) + 1)))) ∧ ∃ m, w' = f m := fun k =>
            (dec_c (f k) (hT.below (hRk k).below) ((u : Int) + 1) (by omega)).mono fun e w' ⟨h, h'⟩ => ⟨h, hf2 _ ((hf1 k).trans (h'.mono (hf1 k).size))⟩
          refine region_quiet_tail (C := fun w' => ∃ k, w' = f k) 10 (by kernel_rfl) (by kernel_rfl) (hf2 _ ⟨rfl, rfl, rfl, Nat.le_refl _, fun _ _ => rfl⟩) ?_
          simp only [List.take_succ_cons, List.take_zero, List.drop_succ_cons, List.drop_zero]
          repeat go_big_quiet_step (exact gd _)
          refine wpQuiet_nil ?_
          rintro _ ⟨k, rfl⟩
          have hal := accX_len hz u (by omega) hf
          have hrA := rwA_len (ns := ns) (z := z) (u := u) (by omega) hnm
          have hBs : ∀ j, (rwB z j).length ≤ 21 * j := rwB_len hzr
          have hW := wr_c w.heap.size (accX ns zs u) (rwA ns z u) (bs (txW ((u : Int) + 1)) ++ ⟨#[32]⟩ ++ bs (nmG ns z.tm)) (by show bs (txW ((u : Int) + 1)) ++ bs [32] ++ bs (nmG ns z.tm) = _; rw [bs_app, bs_app]; rfl) (f k) (hBk k) (by omega) (hRk k).below.size
          have hR3 := hRk k
          clear hRk hBk g0 gq gd hf1 hf2 hcR hcN hR1 hRa
          go_wp2_with (go_at_fn 46; refine hW.mono ?_)
          rintro e w4 ⟨rfl, hB4, hb4, hk4⟩
          have hR4 := hR3.write hb4 hk4
          clear hW hb4 hk4 hR3 hR2
          have t0 := hR4.cell 0 (.int .i64 z.tm) rfl
          have t1 := hR4.cell 1 (.int .i64 z.pl) rfl
          have t2 := hR4.cell 2 (.int .i64 z.wn) rfl
          have t3 := hR4.cell 3 (.int .i64 z.sh) rfl
          have t4 := hR4.cell 4 (.int .i64 z.ls) rfl
          have t5 := hR4.cell 5 (.int .i64 z.pt) rfl
          go_wp2
          go_loopw [70] (fun j wj => ∃ (j' : Nat), j = .int .i64 j' ∧ j' ≤ 5 ∧ Rd w.heap.size bx z w wj ∧ Lib.IsBuilder 68 5 w.heap.size w.heap.size (Lib.byteCells (accX ns zs u ++ (rwA ns z u ++ rwB z j'))) wj) (fun j _ => 5 - (intOf j).toNat)
          case atStart => exact ⟨0, rfl, Nat.zero_le _, hR4, by rw [rwB, List.append_nil]; exact hB4⟩
          case round =>
            obtain ⟨j', rfl, hj, hRj, hBj⟩ := hrel
            by_cases hj5 : j' < 5
            · obtain ⟨y, hy, hyr⟩ : ∃ y, y = n5 z j' ∧ rgI y := ⟨_, rfl, hzr j'⟩
              have hix : Sem.run Tryd.prog (Instr.index 74 (Value.agg #[Value.int IntKind.i64 z.pl, Value.int IntKind.i64 z.wn, Value.int IntKind.i64 z.sh, Value.int IntKind.i64 z.ls, Value.int IntKind.i64 z.pt]) (Value.int IntKind.i64 (j' : Int))) wr = .ok (.int .i64 y) wr := by
                rw [hy]
                exact run_n5 z j' hj5 wr
              have hyH : Hid (y = n5 z j') := hy
              clear hy
              have hty := txW_len hyr
              have hd := dec_c wr (hT.below hRj.below) y hyr
              have hw0 := hBs j'
              go_wp2_with (go_at_fn 35; refine hd.mono ?_)
              rintro e w5 ⟨rfl, hw5⟩
              have hR5 := hRj.call hw5
              have hB5 := builder_below hBj hw5
              have hW := wr_c w.heap.size (accX ns zs u ++ (rwA ns z u ++ rwB z j')) ([32] ++ txW y) (⟨#[32]⟩ ++ bs (txW y)) (by show bs [32] ++ bs (txW y) = _; rw [bs_app]) w5 hB5 (by simp only [List.length_append, List.length_cons, List.length_nil]; omega) hR5.below.size
              clear hBj hB5 hd hw5
              go_wp2_with (go_at_fn 46; refine hW.mono ?_)
              rintro e w6 ⟨rfl, hB6, hb6, hk6⟩
              have hR6 := hR5.write hb6 hk6
              clear hW hb6 hk6 hR5 hRj
              go_wp2
              refine ⟨⟨j' + 1, rfl, hj5, hR6, ?_⟩, by simp only [intOf]; omega⟩
              rw [rwB, ← hyH.out, ← List.append_assoc (rwA ns z u), ← List.append_assoc (accX ns zs u)]
              exact hB6
            · obtain rfl : j' = 5 := by omega
              have hw0 := hBs 5
              have hW := wr_c w.heap.size (accX ns zs u ++ (rwA ns z u ++ rwB z 5)) ([32] ++ (rtS z 6).1 ++ [10]) (⟨#[32]⟩ ++ bs (rtS z 6).1 ++ ⟨#[10]⟩) (by show bs [32] ++ bs (rtS z 6).1 ++ bs [10] = _; rw [bs_app, bs_app]) wr hBj (by simp only [List.length_append, List.length_cons, List.length_nil]; omega) hRj.below.size
              clear hBj
              go_wp2_with (go_at_fn 46; refine hW.mono ?_)
              rintro e w6 ⟨rfl, hB6, hb6, hk6⟩
              have hR6 := hRj.write hb6 hk6
              rw [← acc_step hzH.out] at hB6
              clear hW hb6 hk6 hRj
              go_wp2
              exact ⟨⟨u + 1, rfl, hlt, ferr_ok hf (Eq.trans hee ((rwE_r (by omega) hnm).trans hre)), hR6.below, hB6⟩, by simp only [intOf]; omega⟩
        · obtain ⟨er, her⟩ : ∃ er, er = (rtS z 6).2 := ⟨_, rfl⟩
          rw [← her] at hcR hre
          have herH : Hid (er = (rtS z 6).2) := her
          clear her
          go_wp2_with (go_at_fn 15; refine hcR.mono ?_)
          rintro e w2 ⟨rfl, hw2⟩
          have hR2 := hR1.call hw2
          go_wp2
          go_ret2
          rw [txtS_e h20 hlt hf (Eq.trans hee ((rwE_r (by omega) hnm).trans herH.out.symm)) hre]
          exact ⟨rfl, hR2.below⟩
    · obtain rfl : u = zs.length := by omega
      have hS := Tryd.Builder_String_any w.heap.size w.heap.size (accX ns zs zs.length) wr hB hb.size
      go_wp2_with (go_at_fn 47; refine hS.mono ?_)
      rintro e w7 ⟨rfl, hw7⟩
      go_wp2
      go_ret2
      rw [txtS_y h20 hf]
      exact ⟨rfl, hb.trans hw7⟩
end Go.Proofs.YtfnapmdedmbdbaaDoor
end
section
set_option linter.unusedVariables false
namespace Go.Proofs.YtfnapmdedmbdbaaDoor
open Go Go.Am Go.RowKit Go.Shelf
theorem rtext_c (w : World) (hT : HT w) (zs : List St) (ns : List (List UInt8)) (hz : ∀ u, rgS (gz zs u)) (hn : ∀ t, (nmG ns t).length ≤ 9223372036854775807) (hn2 : ns.length ≤ 100) (v u : Value) (h1 : Den [] (fun k => k < w.heap.size) w (stsAV zs) v) (h2 : Den [] (fun k => k < w.heap.size) w (nmsAV ns) u) :
    Calls Tryd.prog 25 #[v, u] w fun e w' => e = .returned (.tuple #[.string (bs (txtS zs ns).1), .int .i64 (txtS zs ns).2]) ∧ Below w.heap.size w w' := by
  obtain ⟨k, r, H', h, hr, _⟩ := rtext_ok 0 [] zs ns hz hn hn2
  subst hr
  exact (calls_of_acall sig_ok rfl h (dl2 h1 h2) hT).mono fun e w' ⟨x, I', h1, h2, h3⟩ => ⟨by rw [h1, den_t2 h2], h3⟩
theorem den_below {w w' : World} (hb : Below w.heap.size w w') {x : AV} {v : Value} (h : Den [] (fun k => k < w.heap.size) w x v) : Den [] (fun k => k < w'.heap.size) w' x v :=
  Den.mono (List.prefix_refl _) (fun k hk => Nat.lt_of_lt_of_le hk hb.size) (fun k hk => hb.block k hk) h
set_option maxHeartbeats 2000000 in
set_option maxRecDepth 1000000 in
theorem ptexts_c (w : World) (hT : HT w) (zs : List St) (ns : List (List UInt8)) (hz : ∀ u, rgS (gz zs u)) (hn : ∀ t, (nmG ns t).length ≤ 9223372036854775807) (v u : Value) (h1 : Den [] (fun k => k < w.heap.size) w (stsAV zs) v) (h2 : Den [] (fun k => k < w.heap.size) w (nmsAV ns) u) :
    Calls Tryd.prog 9 #[v, u] w fun e w' => e = .returned (.bool true) ∧ Below w.heap.size w w' := by
  have e10 : ∀ args w, (callFunc 10 args).run Tryd.prog w = .ok (.enter 10 args) w := enters_of Tryd.func10 (by kernel_rfl) rfl
  have e24 : ∀ args w, (callFunc 24 args).run Tryd.prog w = .ok (.enter 24 args) w := enters_of Tryd.func24 (by kernel_rfl) rfl
  have e25 : ∀ args w, (callFunc 25 args).run Tryd.prog w = .ok (.enter 25 args) w := enters_of Tryd.func25 (by kernel_rfl) rfl
  obtain ⟨p, c, q, d, rfl, rfl, hc, hd, hl⟩ := lay_of h1 h2
  by_cases hz2 : 100 < zs.length
  · go_enter Tryd.func9, Tryd.ntmps9
    go_wp2_with (go_at_fn 10; refine (awake_c w hT).mono ?_)
    rintro e w1 ⟨rfl, hw1⟩
    go_wp2
    go_ret
    exact ⟨rfl, hw1⟩
  by_cases hn2 : 100 < ns.length
  · go_enter Tryd.func9, Tryd.ntmps9
    go_wp2_with (go_at_fn 10; refine (awake_c w hT).mono ?_)
    rintro e w1 ⟨rfl, hw1⟩
    go_wp2
    go_ret
    exact ⟨rfl, hw1⟩
  obtain ⟨T, E, hTE⟩ : ∃ T E, txtS zs ns = (T, E) := ⟨_, _, rfl⟩
  have hA := fun w1 hw1 => text_c w1 (hT.below hw1) zs ns p q c d hc hd (hl.below hw1) hz hn (by omega) (by omega)
  have hB := fun w1 hw1 => rtext_c w1 (hT.below hw1) zs ns hz hn (by omega) _ _ (den_below hw1 h1) (den_below hw1 h2)
  simp only [hTE] at hA hB
  clear hTE hl h1 h2
  go_enter Tryd.func9, Tryd.ntmps9
  go_wp2_with (go_at_fn 10; refine (awake_c w hT).mono ?_)
  rintro e w1 ⟨rfl, hw1⟩
  have hA1 := hA w1 hw1
  clear hA
  go_wp2_with (go_at_fn 24; refine hA1.mono ?_)
  rintro e w2 ⟨rfl, hw2⟩
  have hw2' := hw1.trans (hw2.mono hw1.size)
  have hB2 := hB w2 hw2'
  clear hB hA1
  go_wp2_with (go_at_fn 25; refine hB2.mono ?_)
  rintro e w3 ⟨rfl, hw3⟩
  have hw3' := hw2'.trans (hw3.mono hw2'.size)
  clear hB2 hw1 hw2 hw3
  go_wp2
  go_ret
  exact ⟨rfl, hw3'⟩
end Go.Proofs.YtfnapmdedmbdbaaDoor
end
section
namespace Go.Am
open Go
section
variable {H : Type} {enc : TypeId × Value → H} {P : Program} {w : World} {held : Bool}

abbrev In (w : World) : Nat → Prop := fun k => k < w.heap.size

theorem cell_lt {w : World} {a : Addr} {v : Value} (h : w.cell? a = some v) : a.block < w.heap.size := by
  unfold World.cell? at h
  by_cases hb : a.block < w.heap.size
  · exact hb
  · rw [Array.getElem?_eq_none (by omega)] at h
    simp at h

end
end Go.Am
end
section
namespace Go.Am
open Go Go.WideShapes
section
variable {P : Program} {w : World}

def DLs (w : World) (l : List AV) (cs : List Value) : Prop := cs.length = l.length ∧ ∀ (j : Nat) (a : AV) (v : Value), l[j]? = some a → cs[j]? = some v → Den [] (In w) w a v

def Opens (P : Program) (t : TypeId) {α : Type} (f : α → List AV) : Prop :=
  ∀ (H : Type) (enc : TypeId × Value → H) (w : World) (held : Bool) (n : Nat) (cs : List Value) (x : DataW H × List MemPlace), DataW.trod enc P w 0 (fun _ => true) held n t cs = some x → ∃ d : α, DLs w (f d) cs

theorem dls_one {a : AV} {v : Value} (h : Den [] (In w) w a v) : DLs w [a] [v] := ⟨rfl, fun j x y hx hy => by
  match j, hx, hy with
  | 0, hx, hy => cases hx; cases hy; exact h⟩

abbrev I64 := {x : Int // -9223372036854775808 ≤ x ∧ x ≤ 9223372036854775807}
abbrev U16 := {x : Int // 0 ≤ x ∧ x ≤ 65535}
abbrev U8 := {x : Int // 0 ≤ x ∧ x ≤ 255}
abbrev U64 := {x : Int // 0 ≤ x ∧ x ≤ 18446744073709551615}
theorem opens_i64 {t : TypeId} (ht : P.underlying t = some (.int .i64)) : Opens P t (fun d : I64 => [AV.i d.val]) := by
  intro H enc w held n cs x h
  obtain ⟨m, rfl, _, hw⟩ := DataW.trod_int ht h
  simp only [Lit.wf, decide_eq_true_eq, Bool.and_eq_true] at hw
  exact ⟨⟨m, hw⟩, dls_one (.v _)⟩
abbrev Str := {s : ByteArray // s.size ≤ 9223372036854775807}
theorem opens_string {t : TypeId} (ht : P.underlying t = some .string) : Opens P t (fun d : Str => [.v (.string d.val)]) := by
  intro H enc w held n cs x h
  obtain ⟨m, rfl, _, hm⟩ := DataW.trod_string ht h
  exact ⟨⟨m, by unfold maxLen at hm; omega⟩, dls_one (.v _)⟩
theorem flat_uni {α : Type} {f : α → List AV} {z : Nat} (hf : ∀ d, (f d).length = z) : ∀ (l : List α) (i k : Nat) (hi : i < l.length), k < z → (l.map f).flatten[i * z + k]? = (f l[i])[k]?
  | [], i, k, hi, _ => by simp at hi
  | d :: l, 0, k, _, hk => by
    rw [List.map_cons, List.flatten_cons, Nat.zero_mul, Nat.zero_add, List.getElem?_append_left (by rw [hf]; exact hk)]
    rfl
  | d :: l, i + 1, k, hi, hk => by
    rw [List.map_cons, List.flatten_cons, List.getElem?_append_right (by rw [hf, Nat.succ_mul]; omega), hf]
    rw [show (i + 1) * z + k - z = i * z + k by rw [Nat.succ_mul]; omega, flat_uni hf l i k (by simpa using hi) hk]
    rfl
theorem flat_unilen {α : Type} {f : α → List AV} {z : Nat} (hf : ∀ d, (f d).length = z) (l : List α) : (l.map f).flatten.length = l.length * z := by
  induction l with
  | nil => simp
  | cons d l ih => rw [List.map_cons, List.flatten_cons, List.length_append, ih, hf, List.length_cons, Nat.succ_mul]; omega

theorem opens_slice {α : Type} {f : α → List AV} {t e : TypeId} {z : Nat} (ht : P.underlying t = some (.slice e)) (hc : P.cellsOf e = z) (hz : 0 < z) (he : Opens P e f) (hf : ∀ d, (f d).length = z) :
    Opens P t (fun l : List α => [.sl l.length (l.map f).flatten]) := by
  intro H enc w held n cs x h
  rcases DataW.trod_slice ht h with ⟨rfl, _⟩ | ⟨a, len, cap, elems, rest, n, _, rfl, _, _, hl, hm, hlen, hel, hsp, _⟩
  · exact ⟨[], dls_one (.sl0 _ _)⟩
  · have get : ∀ i, i < cap → ∃ d cs', (∀ k, k < z → ∃ c, cs'[k]? = some c ∧ w.cell? ((a.add (i * z)).add k) = some c) ∧ DLs w (f d) cs' := by
      intro i hi
      have hb : ∃ y, (w.cells? 0 (a.add (i * P.cellsOf e)) (P.cellsOf e)).bind (DataW.trod enc P w 0 (fun _ => true) held n e) = some y := by
        by_cases h1 : i < len
        · exact ⟨elems[i]'(by omega), by rw [hel i h1, List.getElem?_eq_getElem (by omega)]⟩
        · obtain ⟨hr, hrr⟩ := hsp rfl
          have := hrr (i - len) (by omega)
          rw [show len + (i - len) = i by omega] at this
          exact ⟨rest[i - len]'(by omega), by rw [this, List.getElem?_eq_getElem (by omega)]⟩
      obtain ⟨y, hy⟩ := hb
      rw [hc, Option.bind_eq_some_iff] at hy
      obtain ⟨cs', hcs, hy'⟩ := hy
      obtain ⟨d, hd⟩ := he H enc w held _ _ _ hy'
      refine ⟨d, cs', fun k hk => ?_, hd⟩
      unfold World.cells? at hcs
      rw [if_pos (Nat.zero_le _)] at hcs
      have hk1 := mapM_some_length hcs
      rw [List.length_range] at hk1
      have := mapM_some_get hcs k k (by simp [hk])
      exact ⟨cs'[k]'(by omega), List.getElem?_eq_getElem (by omega), by rw [this, List.getElem?_eq_getElem (by omega)]⟩
    by_cases h0 : cap = 0
    · subst h0
      have : len = 0 := by omega
      subst this
      exact ⟨[], dls_one (.sl0 _ _)⟩
    · obtain ⟨d0, cs0, hc0, _⟩ := get 0 (by omega)
      obtain ⟨c0, _, hcc⟩ := hc0 0 hz
      have e00 : (a.add (0 * z)).add 0 = a := by simp [Addr.add]
      rw [e00] at hcc
      have hs : a.spot = none := World.cell?_spot hcc
      have hb : a.block < w.heap.size := cell_lt hcc
      have ad : ∀ i, a.add i = ⟨a.block, a.off + i, none⟩ := by
        intro i
        obtain ⟨ab, ao, asp⟩ := a
        simp only at hs
        subst hs
        simp only [Addr.add]
        split
        · rename_i hi; rw [hi]; rfl
        · rfl
      have ad2 : ∀ i k, (a.add i).add k = ⟨a.block, a.off + (i + k), none⟩ := by
        intro i k
        rw [ad i]
        simp only [Addr.add]
        split
        · rename_i hi; rw [hi]; simp
        · simp
      have pick : ∀ i, ∃ d : α, i < len → ∃ cs', (∀ k, k < z → ∃ c, cs'[k]? = some c ∧ w.cell? ⟨a.block, a.off + (i * z + k), none⟩ = some c) ∧ DLs w (f d) cs' := by
        intro i
        by_cases hi : i < len
        · obtain ⟨d, cs', h1, h2⟩ := get i (by omega)
          exact ⟨d, fun _ => ⟨cs', fun k hk => by obtain ⟨c, h3, h4⟩ := h1 k hk; exact ⟨c, h3, by rw [← ad2]; exact h4⟩, h2⟩⟩
        · exact ⟨d0, fun h => absurd h hi⟩
      let D : Nat → α := fun i => (pick i).choose
      have hD : ∀ i, i < len → ∃ cs', (∀ k, k < z → ∃ c, cs'[k]? = some c ∧ w.cell? ⟨a.block, a.off + (i * z + k), none⟩ = some c) ∧ DLs w (f (D i)) cs' := fun i => (pick i).choose_spec
      refine ⟨(List.range len).map D, dls_one ?_⟩
      have hlen2 : ((List.range len).map D).length = len := by simp
      have key : ∀ (j : Nat) (x : AV), (((List.range len).map D).map f).flatten[j]? = some x → ∃ c, w.cell? ⟨a.block, a.off + j, none⟩ = some c ∧ Den [] (In w) w x c := by
        intro j x hx
        have hj : j < len * z := by
          have h1 := (List.getElem?_eq_some_iff.1 hx).1
          rw [flat_unilen hf, hlen2] at h1
          exact h1
        have hdiv : j / z < len := Nat.div_lt_of_lt_mul (by rw [Nat.mul_comm]; exact hj)
        have hmod : j % z < z := Nat.mod_lt _ hz
        have hjj : j / z * z + j % z = j := by rw [Nat.mul_comm]; exact Nat.div_add_mod j z
        have h2 := flat_uni hf ((List.range len).map D) (j / z) (j % z) (by rw [hlen2]; exact hdiv) hmod
        rw [hjj] at h2
        rw [h2] at hx
        simp only [List.getElem_map, List.getElem_range] at hx
        obtain ⟨cs', h3, h4⟩ := hD (j / z) hdiv
        obtain ⟨c, h5, h6⟩ := h3 (j % z) hmod
        rw [hjj] at h6
        exact ⟨c, h6, h4.2 _ _ _ hx h5⟩
      have ha : a = ⟨a.block, a.off, none⟩ := by obtain ⟨ab, ao, asp⟩ := a; simp only at hs; subst hs; rfl
      rw [hlen2]
      refine Den.sl (I := In w) _ _ cap a (fun j => (w.cell? ⟨a.block, a.off + j, none⟩).getD undef) hl hm hs hb ?_ ?_
      · intro j x hx
        obtain ⟨c, h1, _⟩ := key j x hx
        rw [h1]; rfl
      · intro j x hx
        obtain ⟨c, h1, h2⟩ := key j x hx
        rw [h1]; exact h2

theorem dls_split {cs : List Value} {o z : Nat} {l l' : List AV} (h1 : DLs w l ((cs.drop o).take z)) (hz : l.length = z) (h2 : DLs w l' (cs.drop (o + z))) : DLs w (l ++ l') (cs.drop o) := by
  subst hz
  have e : cs.drop o = (cs.drop o).take l.length ++ cs.drop (o + l.length) := by rw [← List.drop_drop]; exact (List.take_append_drop _ _).symm
  have hl := h1.1
  refine ⟨by rw [e, List.length_append, List.length_append, h1.1, h2.1], fun j a v ha hv => ?_⟩
  rw [e] at hv
  rw [List.getElem?_append] at ha hv
  by_cases hj : j < l.length
  · rw [if_pos hj] at ha
    rw [if_pos (by rw [hl]; exact hj)] at hv
    exact h1.2 j a v ha hv
  · rw [if_neg hj] at ha
    rw [if_neg (by rw [hl]; exact hj), hl] at hv
    exact h2.2 _ a v ha hv
theorem dls_end {cs : List Value} {o : Nat} (h : cs.length = o) : DLs w [] (cs.drop o) := ⟨by rw [List.drop_of_length_le (by omega)]; rfl, fun j a v ha _ => by simp at ha⟩

end
end Go.Am
end
section
set_option linter.unusedVariables false
namespace Go.Proofs.YtfnapmdedmbdbaaDoor
open Go Go.Am

instance : Inhabited I64 := ⟨⟨0, by decide⟩⟩
instance : Inhabited Str := ⟨⟨⟨#[]⟩, by decide⟩⟩
instance : Inhabited U16 := ⟨⟨0, by decide⟩⟩
instance : Inhabited U8 := ⟨⟨0, by decide⟩⟩
theorem flat_one {α : Type} (g : α → AV) (l : List α) : (l.map fun d => [g d]).flatten = l.map g := by induction l with | nil => rfl | cons a l ih => rw [List.map_cons, List.flatten_cons, ih]; rfl
theorem co3 : Tryd.prog.cellsOf 3 = 1 := by kernel_rfl
abbrev D3 := I64
abbrev c3 : D3 → List AV := fun d => [.v (.int .i64 d.val)]
theorem cl3 (d : D3) : (c3 d).length = 1 := rfl
theorem opens3 : Opens Tryd.prog 3 c3 := opens_i64 Tryd.underlying3
abbrev D5 := U8
abbrev c5 : D5 → List AV := fun d => [.v (.int .u8 d.val)]
theorem co23 : Tryd.prog.cellsOf 23 = 10 := by kernel_rfl
abbrev D23 := D3 × D3 × D3 × D3 × D3 × D3 × D3 × D3 × D3 × D3
abbrev c23 : D23 → List AV := fun d => c3 d.1 ++ (c3 d.2.1 ++ (c3 d.2.2.1 ++ (c3 d.2.2.2.1 ++ (c3 d.2.2.2.2.1 ++ (c3 d.2.2.2.2.2.1 ++ (c3 d.2.2.2.2.2.2.1 ++ (c3 d.2.2.2.2.2.2.2.1 ++ (c3 d.2.2.2.2.2.2.2.2.1 ++ (c3 d.2.2.2.2.2.2.2.2.2 ++ ([]))))))))))
theorem cl23 (d : D23) : (c23 d).length = 10 := rfl
theorem opens23 : Opens Tryd.prog 23 c23 := by
  intro H enc w held n cs x h
  obtain ⟨xs, m, _, rfl, hl, hlen, hf⟩ := DataW.trod_struct Tryd.underlying23 h
  rw [co23] at hl
  have g0 := hf 0 _ rfl
  rw [List.getElem?_eq_getElem (by rw [hlen]; decide)] at g0
  obtain ⟨d0, E0⟩ := opens3 _ _ _ _ _ _ _ g0
  have D0 : DLs w (c3 d0) ((cs.drop 0).take (Tryd.prog.cellsOf 3)) := E0
  rw [co3] at D0
  have g1 := hf 1 _ rfl
  rw [List.getElem?_eq_getElem (by rw [hlen]; decide)] at g1
  obtain ⟨d1, E1⟩ := opens3 _ _ _ _ _ _ _ g1
  have D1 : DLs w (c3 d1) ((cs.drop 1).take (Tryd.prog.cellsOf 3)) := E1
  rw [co3] at D1
  have g2 := hf 2 _ rfl
  rw [List.getElem?_eq_getElem (by rw [hlen]; decide)] at g2
  obtain ⟨d2, E2⟩ := opens3 _ _ _ _ _ _ _ g2
  have D2 : DLs w (c3 d2) ((cs.drop 2).take (Tryd.prog.cellsOf 3)) := E2
  rw [co3] at D2
  have g3 := hf 3 _ rfl
  rw [List.getElem?_eq_getElem (by rw [hlen]; decide)] at g3
  obtain ⟨d3, E3⟩ := opens3 _ _ _ _ _ _ _ g3
  have D3 : DLs w (c3 d3) ((cs.drop 3).take (Tryd.prog.cellsOf 3)) := E3
  rw [co3] at D3
  have g4 := hf 4 _ rfl
  rw [List.getElem?_eq_getElem (by rw [hlen]; decide)] at g4
  obtain ⟨d4, E4⟩ := opens3 _ _ _ _ _ _ _ g4
  have D4 : DLs w (c3 d4) ((cs.drop 4).take (Tryd.prog.cellsOf 3)) := E4
  rw [co3] at D4
  have g5 := hf 5 _ rfl
  rw [List.getElem?_eq_getElem (by rw [hlen]; decide)] at g5
  obtain ⟨d5, E5⟩ := opens3 _ _ _ _ _ _ _ g5
  have D5 : DLs w (c3 d5) ((cs.drop 5).take (Tryd.prog.cellsOf 3)) := E5
  rw [co3] at D5
  have g6 := hf 6 _ rfl
  rw [List.getElem?_eq_getElem (by rw [hlen]; decide)] at g6
  obtain ⟨d6, E6⟩ := opens3 _ _ _ _ _ _ _ g6
  have D6 : DLs w (c3 d6) ((cs.drop 6).take (Tryd.prog.cellsOf 3)) := E6
  rw [co3] at D6
  have g7 := hf 7 _ rfl
  rw [List.getElem?_eq_getElem (by rw [hlen]; decide)] at g7
  obtain ⟨d7, E7⟩ := opens3 _ _ _ _ _ _ _ g7
  have D7 : DLs w (c3 d7) ((cs.drop 7).take (Tryd.prog.cellsOf 3)) := E7
  rw [co3] at D7
  have g8 := hf 8 _ rfl
  rw [List.getElem?_eq_getElem (by rw [hlen]; decide)] at g8
  obtain ⟨d8, E8⟩ := opens3 _ _ _ _ _ _ _ g8
  have D8 : DLs w (c3 d8) ((cs.drop 8).take (Tryd.prog.cellsOf 3)) := E8
  rw [co3] at D8
  have g9 := hf 9 _ rfl
  rw [List.getElem?_eq_getElem (by rw [hlen]; decide)] at g9
  obtain ⟨d9, E9⟩ := opens3 _ _ _ _ _ _ _ g9
  have D9 : DLs w (c3 d9) ((cs.drop 9).take (Tryd.prog.cellsOf 3)) := E9
  rw [co3] at D9
  refine ⟨(d0, d1, d2, d3, d4, d5, d6, d7, d8, d9), ?_⟩
  have key : DLs w (c23 (d0, d1, d2, d3, d4, d5, d6, d7, d8, d9)) (cs.drop 0) := dls_split D0 (cl3 _) (dls_split D1 (cl3 _) (dls_split D2 (cl3 _) (dls_split D3 (cl3 _) (dls_split D4 (cl3 _) (dls_split D5 (cl3 _) (dls_split D6 (cl3 _) (dls_split D7 (cl3 _) (dls_split D8 (cl3 _) (dls_split D9 (cl3 _) (dls_end (by rw [hl])))))))))))
  rwa [List.drop_zero] at key
abbrev D27 := List D23
abbrev c27 : D27 → List AV := fun l => [.sl l.length (l.map c23).flatten]
theorem opens27 : Opens Tryd.prog 27 c27 := opens_slice Tryd.underlying27 co23 (by decide) opens23 cl23
theorem co9 : Tryd.prog.cellsOf 9 = 1 := by kernel_rfl
abbrev D9 := Str
abbrev c9 : D9 → List AV := fun d => [.v (.string d.val)]
theorem cl9 (d : D9) : (c9 d).length = 1 := rfl
theorem opens9 : Opens Tryd.prog 9 c9 := opens_string Tryd.underlying9
abbrev D43 := List D9
abbrev c43 : D43 → List AV := fun l => [.sl l.length (l.map c9).flatten]
theorem opens43 : Opens Tryd.prog 43 c43 := opens_slice Tryd.underlying43 co9 (by decide) opens9 cl9
end Go.Proofs.YtfnapmdedmbdbaaDoor
end
section
set_option linter.unusedVariables false
set_option linter.unusedSimpArgs false
set_option maxRecDepth 10000
namespace Go.Proofs.YtfnapmdedmbdbaaDoor
open Go Go.Am Go.ChangeShapes Go.WideShapes Go.ChangeAt Go.RowKit
def st23 (x : D23) : St := ⟨x.1.val, x.2.1.val, x.2.2.1.val, x.2.2.2.1.val, x.2.2.2.2.1.val, x.2.2.2.2.2.1.val, x.2.2.2.2.2.2.1.val, x.2.2.2.2.2.2.2.1.val, x.2.2.2.2.2.2.2.2.1.val, x.2.2.2.2.2.2.2.2.2.val⟩
theorem c23_st (x : D23) : c23 x = stL (st23 x) := rfl
section
variable {H : Type} {enc : TypeId × Value → H} {W : World} {base : Nat} {r : Reach} {v : Value} {d : DataW H} {p : List MemPlace}
end
end Go.Proofs.YtfnapmdedmbdbaaDoor
end
section
set_option linter.unusedVariables false
set_option linter.unusedSimpArgs false
set_option maxRecDepth 10000
namespace Go.Proofs.YtfnapmdedmbdbaaDoor
open Go Go.Am Go.ChangeShapes Go.WideShapes Go.ChangeAt Go.RowKit
theorem c27_eq (d : D27) : c27 d = [stsAV (d.map st23)] := by
  have e : (d.map c23) = (d.map st23).map stL := by
    rw [List.map_map]
    exact List.map_congr_left fun x _ => c23_st x
  show [AV.sl d.length (d.map c23).flatten] = _
  rw [e, stsAV, List.length_map]
  rfl
def nmOf (d : D9) : List UInt8 := d.val.data.toList
theorem c43_eq (d : D43) : c43 d = [nmsAV (d.map nmOf)] := by
  show [AV.sl d.length (d.map c9).flatten] = _
  rw [nmsAV, List.length_map, List.map_map, show (d.map c9).flatten = d.map fun x => AV.v (.string x.val) from flat_one _ _]
  rfl
theorem rgS_st (d : D23) : rgS (st23 d) := fun j => by
  unfold n5 rgI
  split
  · exact d.2.1.property
  split
  · exact d.2.2.1.property
  split
  · exact d.2.2.2.1.property
  split
  · exact d.2.2.2.2.1.property
  · exact d.2.2.2.2.2.1.property
theorem rgS_z0 : rgS z0 := fun j => by
  unfold n5 rgI
  (repeat' split) <;> decide
theorem rgS_gz (d : D27) (u : Nat) : rgS (gz (d.map st23) u) := by
  by_cases h : u < d.length
  · rw [gz_get (by simpa using h), List.getElem_map]; exact rgS_st _
  · have : gz (d.map st23) u = z0 := by unfold gz; rw [List.getD, List.getElem?_eq_none (by simpa using h)]; rfl
    rw [this]; exact rgS_z0
theorem nm_len (d : D43) (t : Int) : (nmG (d.map nmOf) t).length ≤ 9223372036854775807 := by
  unfold nmG
  by_cases h : t.toNat < d.length
  · rw [List.getD, List.getElem?_eq_getElem (by simpa using h), List.getElem_map]
    have := (d[t.toNat]).property
    have e : (nmOf d[t.toNat]).length = (d[t.toNat]).val.size := Array.length_toList
    simp only [Option.getD_some, e]
    exact this
  · rw [List.getD, List.getElem?_eq_none (by simpa using h)]
    decide
section
variable {H : Type} {enc : TypeId × Value → H} {W : World} {base : Nat} {r : Reach} {v : Value} {d : DataW H} {p : List MemPlace}
theorem open_27 (hval : Value.okWide Tryd.prog W r base 27 v) (h : DataW.Trod enc Tryd.prog W 0 (fun _ => true) true 27 v d p) :
    ∃ (zs : List St) (hz : ∀ u, rgS (gz zs u)), Den [] (In W) W (stsAV zs) v := by
  obtain ⟨a, len, cap, rfl⟩ := okWide_slice Tryd.underlying27 hval
  obtain ⟨fuel, hf⟩ := h
  obtain ⟨x, hx⟩ := opens27 _ _ _ _ _ _ _ hf
  rw [c27_eq] at hx
  exact ⟨x.map st23, rgS_gz x, hx.2 0 _ _ rfl rfl⟩
theorem open_43 (hval : Value.okWide Tryd.prog W r base 43 v) (h : DataW.Trod enc Tryd.prog W 0 (fun _ => true) true 43 v d p) :
    ∃ (ns : List (List UInt8)) (hn : ∀ t, (nmG ns t).length ≤ 9223372036854775807), Den [] (In W) W (nmsAV ns) v := by
  obtain ⟨a, len, cap, rfl⟩ := okWide_slice Tryd.underlying43 hval
  obtain ⟨fuel, hf⟩ := h
  obtain ⟨x, hx⟩ := opens43 _ _ _ _ _ _ _ hf
  rw [c43_eq] at hx
  exact ⟨x.map nmOf, nm_len x, hx.2 0 _ _ rfl rfl⟩
end
end Go.Proofs.YtfnapmdedmbdbaaDoor
end
section
namespace Go.Proofs.YtfnapmdedmbdbaaDoor
open Go Go.Am Go.ChangeShapes Go.WideShapes Go.ChangeAt Go.RowKit
set_option linter.unusedVariables false

theorem pointsTexts_own : ownKnob Tryd.prog.godebug = none := by kernel_rfl
theorem pointsTexts_laidOut : laidOutB Tryd.prog = true := by kernel_rfl

theorem pointsTexts_walk (w : World) (hT : ∀ w1 : World, (∀ k, k < w.heap.size → w1.heap[k]? = w.heap[k]?) → Tb w1) (v0 v1 : Value) (zs : List St) (ns : List (List UInt8)) (hz : ∀ u, rgS (gz zs u)) (hn : ∀ t, (nmG ns t).length ≤ 9223372036854775807) (D0 : Den [] (In w) w (stsAV zs) v0) (D1 : Den [] (In w) w (nmsAV ns) v1) :
    Calls Tryd.prog 9 #[v0, v1] w fun e w' => e = .returned (.bool true) ∧ Below w.heap.size w w' := by
  exact ptexts_c w hT zs ns hz hn v0 v1 D0 D1
set_option maxRecDepth 100000 in
theorem pointsTexts_lifted (os : Os) (started : os.Started) (H : Type) (enc : TypeId × Value → H) :
    ReturnsInHanded {} Tryd.checked os 9 .any (fun w args => (Rows.pointsTextsSpec.pre enc Tryd.prog Tryd.f9 Rows.pointsTextsRow.domain false w args ∧ laidMet Tryd.prog Rows.pointsTextsRow.laid w) ∧ sizedMet enc Tryd.prog Tryd.f9 (OpenSpec.ofChange Rows.pointsTextsSpec) false w args) (Rows.pointsTextsSpec.post enc Tryd.prog Tryd.f9 false true false false) := by
  refine returnsInHanded_of_change_and (C := Tryd.checked) (X := fun w _ => laidMet Tryd.prog Rows.pointsTextsRow.laid w) (fun _ _ _ hh h => h.of_heap hh) pointsTexts_own started (by kernel_rfl) Tryd.func9
    (ChangeSpec.witness_at (enc := enc) (C := Tryd.checked) (os := os) (X := fun w _ => laidMet Tryd.prog Rows.pointsTextsRow.laid w) false (ldWorld os) #[.slice none 0 0, .slice none 0 0] 8 rfl (by kernel_rfl) (by kernel_rfl) (by kernel_rfl) (by kernel_rfl) (by kernel_rfl) (ld_met os _)) ?_
  intro W base args ds gs before hval0 hW hcnd _ hL _
  have hval : ∀ (j : Nat) t v, Tryd.f9.params[j]? = some t → args[j]? = some v → Value.okWide Tryd.prog W .any base t v := hval0
  have hW' := hW
  obtain ⟨p, q, hA0, hV, rfl, hfz, hnd⟩ := hW
  have hA : DataW.TrodAll enc Tryd.prog W 0 (fun _ => true) true Tryd.f9.params.toList args.toList ds p := hA0
  rw [Tryd.params9] at hA hval
  obtain ⟨v0, vs0, d0, ds0, p0, q0, hargs, rfl, rfl, h0, s0⟩ := trodAll_cons hA
  obtain ⟨v1, vs1, d1, ds1, p1, q1, rfl, rfl, rfl, h1, s1⟩ := trodAll_cons s0
  obtain ⟨rfl, rfl, rfl⟩ := trodAll_nil s1
  obtain rfl : args = #[v0, v1] := by cases args; simp_all
  obtain ⟨rfl, rfl⟩ := trodVars_none hV
  have k0 := h0
  have lt0 : ∀ x ∈ p0, x.block < W.heap.size := by obtain ⟨m, hm⟩ := k0; exact DataW.trod_lt m _ _ _ hm
  obtain ⟨zs, hz, D0⟩ := open_27 (hval 0 27 v0 rfl rfl) h0
  have k1 := h1
  have lt1 : ∀ x ∈ p1, x.block < W.heap.size := by obtain ⟨m, hm⟩ := k1; exact DataW.trod_lt m _ _ _ hm
  obtain ⟨ns, hn, D1⟩ := open_43 (hval 1 43 v1 rfl rfl) h1
  clear hA0 hval0
  refine (pointsTexts_walk W (fun w1 => tb_keep (ldTab hL)) v0 v1 zs ns hz hn D0 D1).mono fun e W' ⟨he, bel⟩ => ?_
  subst he
  exact ⟨_, rfl, _, _, _, [], _, [], hW', trodAll_mk1 (shut_bool Tryd.underlying4 _), (trodAll_cons_mk (Below.trod pointsTexts_laidOut (by kernel_rfl) (of_decide_eq_true (by kernel_rfl)) k0 bel lt0) (trodAll_cons_mk (Below.trod pointsTexts_laidOut (by kernel_rfl) (of_decide_eq_true (by kernel_rfl)) k1 bel lt1) trodAll_mk0)), rfl, bel.frame _, fun h => by cases h⟩

theorem pointsTexts_over : Rows.pointsTextsRow.holds Tryd.pinned (OpenSpec.ofChange Rows.pointsTextsSpec) :=
  OpenClaim.holds_of_wide 9 Tryd.f9 rfl rfl rfl rfl rfl rfl rfl ⟨rfl, rfl, rfl, rfl, rfl⟩ rfl rfl rfl rfl rfl (by kernel_rfl) Tryd.func9 (by kernel_rfl)
    (of_decide_eq_true (by kernel_rfl)) (by unfold Func.isWrapper; first | (rw [if_pos (by decide +kernel)]; kernel_rfl) | (rw [if_neg (by decide +kernel)]; exact ⟨rfl, rfl⟩))
    (fun os started H enc _ => pointsTexts_lifted os started H enc)

theorem pointsTexts_holds : Rows.PointsTextsCardSaid :=
  Claim7.holds_tied_plain_at .later [] [.data, .data, .data] true (true, "30ca8dafd1132894d3827c3a83ab2b4681a0c4dd19686dabbba2eaa9bbe71a2a") false
    pointsTexts_over (fun _ h => by cases h) (by kernel_rfl) (fun _ h => by cases h) pointsTexts_row_tie rfl ⟨rfl, rfl⟩ (by kernel_rfl) rfl
    (fun f fn hf hfn => by
      obtain rfl : f = 9 := Option.some.inj ((show Tryd.prog.funcNamed Rows.pointsTextsRow.func = some 9 by kernel_rfl).symm.trans hf) |>.symm
      obtain rfl : fn = Tryd.f9 := (Option.some.inj (Tryd.func9.symm.trans hfn)).symm
      exact ⟨by kernel_rfl, fun j t ht => by
        rw [Tryd.params9] at ht
        rcases j with _ | j
        · obtain rfl : t = 27 := by simpa using ht.symm
          exact (show Tryd.prog.wantsStandIn 27 = false by kernel_rfl)
        rcases j with _ | j
        · obtain rfl : t = 43 := by simpa using ht.symm
          exact (show Tryd.prog.wantsStandIn 43 = false by kernel_rfl)
        · simp at ht⟩)
    (by kernel_rfl)
end Go.Proofs.YtfnapmdedmbdbaaDoor
end
