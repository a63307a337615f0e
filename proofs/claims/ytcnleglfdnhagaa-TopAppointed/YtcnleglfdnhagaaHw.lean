/-
  Appoint, walked.
-/
import Derived.Test.YtcnleglfdnhagaaK3
import Derived.BigQuiet
import Derived.WalkKit
import Derived.BigCall
import Derived.IntWalk
import Derived.Tactics2
import Derived.OwnWalk
import Derived.Deep.DeepCutAuto
set_option linter.unusedVariables false
namespace Go.Proofs.Ytcnleglfdnhagaa
open Go Go.Am Go.Maps Go.RowKit
theorem key2 : Try.prog.underlying 2 = some (.int .i64) := Try.underlying2
theorem key3 : Try.prog.underlying 3 = some (.int .i64) := Try.underlying3
theorem info2 : (Try.prog.info? 2).map (fun i => (i.zero, i.size, i.bytes)) = some (some (.int .i64 0), 1, 8) := by kernel_rfl
theorem info3 : (Try.prog.info? 3).map (fun i => (i.zero, i.size, i.bytes)) = some (some (.int .i64 0), 1, 8) := by kernel_rfl
theorem info32 : (Try.prog.info? 32).map (fun i => (i.zero, i.size, i.bytes)) = some (some (.agg #[.int .i64 0, .int .i64 0, .string ⟨#[]⟩, .string ⟨#[]⟩]), 4, 48) := by kernel_rfl
theorem info30 : (Try.prog.info? 30).map (fun i => (i.zero, i.size, i.bytes)) = some (some (.agg #[.int .i64 0, .string ⟨#[]⟩, .string ⟨#[]⟩]), 3, 40) := by kernel_rfl
theorem zero22 (w : World) : (zeroValue 22).run Try.prog w = .ok nilV w := by kernel_rfl
theorem zero49 (w : World) : (zeroValue 49).run Try.prog w = .ok (.agg #[.int .i64 0, .int .i64 0]) w := by kernel_rfl
theorem cell_of {w : World} {b k : Nat} {cs : Array Value} {t : TypeId} {v : Value} (h : w.heap[b]? = some (.cells cs t (0, 0))) (hv : cs[k]? = some v) : w.cell? ⟨b, k, none⟩ = some v := by
  unfold World.cell?
  simp only [h]
  simpa using hv
theorem duty_news (w : World) (x : Du) : ∀ j u, (duV x)[j]? = some u → (w.alloc (.cells #[.int .i64 x.mt, .int .i64 x.dy, .string x.ho, .string x.aw] 32)).drew.cell? ((⟨w.heap.size, 0, none⟩ : Addr).add j) = some u := fun j u hj => by
  rw [addr_add _ _ rfl, Nat.zero_add]
  exact cell_of (cs := (duV x).toArray) (heap_alloc_new w _) (by simpa using hj)
theorem duty_one (x : Du) : ∀ u ∈ duV x, u.oneCell' = true := fun u hu => by
  simp at hu
  rcases hu with rfl | rfl | rfl | rfl <;> rfl
theorem grown_alloc_drew (w : World) (o : Obj) (row : Option Nat) : w.grownBy (w.alloc o).drew row :=
  let h := World.grownBy_alloc w o row
  ⟨h.os, h.tape, h.output, h.size, h.block⟩
theorem nk_normal {Q : Exit → Act → World → Prop} {a : Act} {w : World} (h : Q .normal a w) : NK (Q .normal) Q .normal a w := h
theorem one_int (z : Int) : ∀ u ∈ [Value.int .i64 z], u.oneCell' = true := fun u hu => by
  simp at hu
  rw [hu]; rfl
theorem ap_news (w : World) (x : Ap) : ∀ j u, (apV x)[j]? = some u → (w.alloc (.cells #[.int .i64 x.mt, .string x.one, .string x.two] 30)).drew.cell? ((⟨w.heap.size, 0, none⟩ : Addr).add j) = some u := fun j u hj => by
  rw [addr_add _ _ rfl, Nat.zero_add]
  exact cell_of (cs := (apV x).toArray) (heap_alloc_new w _) (by simpa using hj)
theorem ap_one (x : Ap) : ∀ u ∈ apV x, u.oneCell' = true := fun u hu => by
  simp at hu
  rcases hu with rfl | rfl | rfl <;> rfl
theorem results_tmp3 {fn : Func} {t u v : Tmp} (h : fn.results = #[.tmp t, .tmp u, .tmp v]) (tmps : Array Value) (P : Program) (w : World) :
    (results fn tmps).run P w = .ok (.tuple #[tmps.getD t undef, tmps.getD u undef, tmps.getD v undef]) w := by
  simp [results, h]
set_option maxHeartbeats 4000000 in
set_option maxRecDepth 1000000 in
theorem appoint_c (w : World) (l : List Du) (us : List Um) (v u : Value) (hl : Den [] (Iw w) w (dusAV l) v) (hu : Den [] (Iw w) w (umsAV us) u) (h1 : l.length ≤ 100) (h2 : us.length ≤ 100) (hs : ∀ u, (gt l u).ho.size ≤ 9223372036854775807 ∧ (gt l u).aw.size ≤ 9223372036854775807) (hs2 : ∀ u, (gt us u).nm.size ≤ 9223372036854775807 ∧ (gt us u).tm.size ≤ 9223372036854775807) :
    Calls Try.prog 4 #[v, u] w (AppPost w l us) := by
  have e9 : ∀ args w, (callFunc 9 args).run Try.prog w = .ok (.enter 9 args) w := named_run named9
  have e10 : ∀ args w, (callFunc 10 args).run Try.prog w = .ok (.enter 10 args) w := enters_of Try.func10 (by kernel_rfl) rfl
  have e11 : ∀ args w, (callFunc 11 args).run Try.prog w = .ok (.enter 11 args) w := named_run named11
  have e12 : ∀ args w, (callFunc 12 args).run Try.prog w = .ok (.enter 12 args) w := named_run named12
  have e13 : ∀ args w, (callFunc 13 args).run Try.prog w = .ok (.enter 13 args) w := named_run named13
  have e14 : ∀ args w, (callFunc 14 args).run Try.prog w = .ok (.enter 14 args) w := named_run named14
  obtain ⟨i32, hi32, hz32, hk32, hn32⟩ := info_parts info32
  obtain ⟨i30, hi30, hz30, hk30, hn30⟩ := info_parts info30
  obtain ⟨i2, hi2, hz2, hk2, hn2⟩ := info_parts info2
  obtain ⟨i3, hi3, hz3, hk3, hn3⟩ := info_parts info3
  have hmm := @run_makeMap Try.prog
  have hlv : Den [] (Iw w) w (.sl l.length ((flatVD l).map AV.v)) v := by rw [← flatD_V]; exact hl
  obtain ⟨p, c, rfl, hc, hp⟩ := laid_of (fun k hk => hk) hlv
  obtain ⟨q, d, rfl, hd, hdm, hq⟩ := sl_of hu
  have hck := check_c hl hu (by omega) (by omega) hs hs2
  obtain ⟨E, hE⟩ : ∃ E, ckS l us = E := ⟨_, rfl⟩
  rw [hE] at hck
  go_enter Try.func4, Try.ntmps4
  by_cases h0 : E = 0
  · subst h0
    go_wp2_with (go_at_fn 9; refine hck.mono ?_)
    rintro e w1 ⟨rfl, hw1⟩
    go_wp2
    go_loopw [9, 38] (fun dv i wr => ∃ (k : Nat) (f : Int → Value), k ≤ l.length ∧ i = .int .i64 k ∧ Grp1 w1 wr l k dv f) (fun _ i _ => l.length - (intOf i).toNat)
    case atStart => exact ⟨0, _, Nat.zero_le _, rfl, grp_start w1⟩
    case round =>
      obtain ⟨k, f, hk, rfl, hG⟩ := hrel
      by_cases hlt : k < l.length
      · obtain ⟨b, o, rfl, hbl, hcl⟩ := hp (by omega)
        have hbw := hw1.trans (hG.below.mono hw1.size)
        obtain ⟨x, hx⟩ : ∃ x, x = gt l k := ⟨_, rfl⟩
        have e := fun j v (hj : j < 4) (hv : (duV (gt l k))[j]? = some v) => (cell_below (o := o + (k * 4 + j)) hbw hbl).trans (hcl _ v ((flatVD_at l k j hlt hj).trans hv))
        rw [← hx] at e
        have k0 : wr.cell? ⟨b, o + k * 4, none⟩ = some (.int .i64 x.mt) := e 0 _ (by omega) rfl
        have k1 : wr.cell? ⟨b, o + k * 4 + 1, none⟩ = some (.int .i64 x.dy) := e 1 _ (by omega) rfl
        have k2 : wr.cell? ⟨b, o + k * 4 + 2, none⟩ = some (.string x.ho) := e 2 _ (by omega) rfl
        have k3 : wr.cell? ⟨b, o + k * 4 + 3, none⟩ = some (.string x.aw) := e 3 _ (by omega) rfl
        have hxH : Hid (x = gt l k) := hx
        clear e hx hp hcl
        go_upto_region 9 with fail
        obtain ⟨wa, hwa⟩ : ∃ wa, wa = wr.alloc (.cells (duV x).toArray 32) := ⟨_, rfl⟩
        have hGa : Grp1 w1 wa l k u9 f := by rw [hwa]; exact hG.grow (World.grownBy_alloc _ _ _)
        have hbx : wa.heap[wr.heap.size]? = some (.cells (duV x).toArray 32 (0, 0)) := by rw [hwa]; exact heap_alloc_new wr _
        obtain ⟨bx, hbx0⟩ : ∃ bx, bx = wr.heap.size := ⟨_, rfl⟩
        have hbB : w1.heap.size < bx := by rw [hbx0]; exact hG.map.lt
        have hbd : u9.ownBlock ≠ some bx := fun e => by have := hG.days.lt _ e; omega
        have hbf : ∀ d, (f d).ownBlock ≠ some bx := fun d e => by have := (hG.rows d).lt _ e; omega
        rw [← hbx0] at hbx
        have t0 : wa.cell? ⟨bx, 0, none⟩ = some (.int .i64 x.mt) := cell_of hbx rfl
        have t1 : wa.cell? ⟨bx, 1, none⟩ = some (.int .i64 x.dy) := cell_of hbx rfl
        unfold duV at hwa
        rw [← hwa, ← hbx0]
        clear hwa hbx0 hG k0 k1 k2 k3
        have hxd : (Lit.int .i64 x.dy).wf = true := (by rw [hxH.out]; have := day_rng hE hlt; exact wf_of (by omega) (by omega))
        have hlk := mapF_lookup hGa.map key2 Try.underlying42 (zero22 wa) hxd
        obtain ⟨pf, cf, hf, hcf⟩ := own_slice (hGa.rows x.dy)
        obtain ⟨n0, hn0⟩ : ∃ n0, n0 = (grp (l.take k) x.dy).length := ⟨_, rfl⟩
        rw [← hn0] at hf hcf
        rw [hf] at hlk
        have hn0H : Hid (n0 = (grp (l.take k) x.dy).length) := hn0
        have hfH : Hid (f x.dy = .slice pf n0 cf) := hf
        clear hn0 hf
        by_cases hnew : n0 = 0
        · subst hnew
          go_upto_region 11 with (at_builtin; refine wpList_append_own_at _ rfl (.tmp 48) (.tmp 51) 33 rfl (w1.heap.size + 1) 2 i2 (.int .i64 0) 1 8 Try.underlying33 hi2 hz2 hk2 hn2 rfl (by decide) _ _ _ rfl (hGa.days.alloc _) ⟨wa.heap.size, 0, none⟩ 1 1 [.int .i64 x.dy] rfl rfl (cell_one_new _ _ _) (one_int _) (by have := days_len (l := l) k; unfold maxLen; omega) (by have := days_len (l := l) k; omega) (by have := hGa.size; simp; omega) ?_; intro dv9 wb hownO hgrowO hnilO hlocO)
          obtain ⟨n0, hn0⟩ : ∃ n0 : Nat, n0 = 0 := ⟨_, rfl⟩
          have hbz : bx < wa.heap.size := (Array.getElem?_eq_some_iff.1 hbx).1
          have hgO : wa.grownBy wb u9.ownBlock := (World.grownBy_alloc wa _ _).trans hgrowO
          have hdn : daysOf l (k + 1) = daysOf l k ++ [x.dy] := by rw [daysOf, if_pos (by rw [← hxH.out, ← hn0H.out]), ← hxH.out]
          have hGb : Grp w1 wb k (daysOf l (k + 1)) (fun d => grp (l.take k) d) dv9 f := by rw [hdn]; exact hGa.day hgO hownO (hlocO.imp id fun e => ⟨_, e, by simp⟩)
          replace hbx := (hgO.block bx hbz (fun e => hbd e.symm)).trans hbx
          have hblt : bx < wb.heap.size := (Array.getElem?_eq_some_iff.1 hbx).1
          have hgl : (grp (l.take k) x.dy).length ≤ k := Nat.le_trans (List.length_filter_le _ _) (by simp; omega)
          clear hgO hownO hgrowO hnilO hlocO t0 t1 hGa
          refine region_lead (fun w' => w'.heap[bx]? = some (.cells #[.int .i64 x.mt, .int .i64 x.dy, .string x.ho, .string x.aw] 32 (0, 0)) ∧ MapF w' 2 nilV w1.heap.size k f) 8 10 (by kernel_rfl) (by kernel_rfl) ⟨hbx, hGb.map.kept (row := none) ⟨rfl, rfl, rfl, Nat.le_refl _, fun _ _ _ => rfl⟩ (by simp)⟩ ?_
          simp only [List.take_succ_cons, List.take_zero, List.drop_succ_cons, List.drop_zero]
          refine lead_run (.map (some w1.heap.size)) rfl (fun w' hS => by go_simp) ?_
          simp only [Act.put, List.setIfInBounds_toArray, List.set_cons_zero, List.set_cons_succ]
          refine lead_run (.pointer (some ⟨bx, 1, none⟩)) rfl (fun w' hS => by go_simp) ?_
          simp only [Act.put, List.setIfInBounds_toArray, List.set_cons_zero, List.set_cons_succ]
          refine lead_run (.int .i64 x.dy) rfl (fun w' hS => by (have g1 := cell_of (k := 1) hS.1 rfl; clear hS; go_simp)) ?_
          simp only [Act.put, List.setIfInBounds_toArray, List.set_cons_zero, List.set_cons_succ]
          refine lead_run (.map (some w1.heap.size)) rfl (fun w' hS => by go_simp) ?_
          simp only [Act.put, List.setIfInBounds_toArray, List.set_cons_zero, List.set_cons_succ]
          refine lead_run (.pointer (some ⟨bx, 1, none⟩)) rfl (fun w' hS => by go_simp) ?_
          simp only [Act.put, List.setIfInBounds_toArray, List.set_cons_zero, List.set_cons_succ]
          refine lead_run (.int .i64 x.dy) rfl (fun w' hS => by (have g1 := cell_of (k := 1) hS.1 rfl; clear hS; go_simp)) ?_
          simp only [Act.put, List.setIfInBounds_toArray, List.set_cons_zero, List.set_cons_succ]
          refine lead_run (.slice pf 0 cf) rfl (fun w' hS => by (have g1 := mapF_lookup hS.2 key2 Try.underlying42 (zero22 w') hxd; rw [hfH.out] at g1; clear hS; go_simp)) ?_
          simp only [Act.put, List.setIfInBounds_toArray, List.set_cons_zero, List.set_cons_succ]
          refine lead_run (.agg #[.int .i64 x.mt, .int .i64 x.dy, .string x.ho, .string x.aw]) rfl (fun w' hS => by (have g0 := cell_of (k := 0) hS.1 rfl; have g1 := cell_of (k := 1) hS.1 rfl; have g2 := cell_of (k := 2) hS.1 rfl; have g3 := cell_of (k := 3) hS.1 rfl; clear hS; go_simp)) ?_
          simp only [Act.put, List.setIfInBounds_toArray, List.set_cons_zero, List.set_cons_succ]
          refine lead_nil ?_
          refine mid_cons ?_
          go_wp2
          have hgd := grown_alloc_drew wb (.cells #[.int .i64 x.mt, .int .i64 x.dy, .string x.ho, .string x.aw] 32) none
          refine ⟨⟨(hgd.block bx hblt (by simp)).trans hbx, hGb.map.kept hgd (by simp)⟩, ?_⟩
          refine mid_cons ?_
          have hrow : (wb.alloc (.cells #[.int .i64 x.mt, .int .i64 x.dy, .string x.ho, .string x.aw] 32)).drew.ownsRow (w1.heap.size + 1) 32 4 (.slice pf 0 cf) (grp (l.take k) x.dy).length (flatVD (grp (l.take k) x.dy)) := by rw [← hfH.out]; exact ((hGb.rows x.dy).alloc _).drew
          refine wpList_append_own_at _ rfl (.tmp 59) (.tmp 61) 22 rfl (w1.heap.size + 1) 32 i32 _ 4 48 Try.underlying22 hi32 hz32 hk32 hn32 rfl (by decide) _ _ _ rfl hrow ⟨wb.heap.size, 0, none⟩ 1 1 (duV x) rfl rfl (duty_news wb x) (duty_one x) (by have := hgl; unfold maxLen; omega) (by have := hgl; omega) (by simp; omega) ?_
          intro v' w5 hown' hgrow hnil hloc
          have hg5 : wb.grownBy w5 (f x.dy).ownBlock := by rw [hfH.out]; exact (World.grownBy_alloc wb _ _).trans ⟨hgrow.os, hgrow.tape, hgrow.output, hgrow.size, hgrow.block⟩
          refine ⟨⟨(hg5.block bx hblt (fun e => hbf x.dy e.symm)).trans hbx, hGb.map.kept hg5 (hGb.blk x.dy)⟩, mid_nil ?_⟩
          refine wp_storeF w5 rfl (.tmp 53) (.tmp 55) (.tmp 62) 42 2 22 rfl key2 Try.underlying42 nilV w1.heap.size k f rfl (hGb.map1 hg5) (by unfold maxLen; omega) x.dy rfl hxd v' rfl ?_
          intro w6 hm6 hg6
          have hG6 : Grp1 w1 w6 l (k + 1) dv9 (updM f x.dy v') := by
            unfold Grp1
            rw [← updG_take hlt hxH.out]
            exact hGb.row hg5 hown' (by rw [hfH.out]; exact hloc.imp id fun e => ⟨_, e, by simp⟩) hm6 hg6
          clear hrow hown' hgrow hnil hloc hg5 hm6 hg6 hGb
          go_wp2
          refine nk_normal ?_
          go_wp2
          go_roundw
          case rel => exact ⟨k + 1, _, by omega, by go_num, hG6⟩
          case measure => simp [intOf]; omega
        · go_upto_region 11 with fail
          have hdn : daysOf l (k + 1) = daysOf l k := by rw [daysOf, if_neg (by rw [← hxH.out, ← hn0H.out]; exact hnew)]
          have hGb : Grp w1 wa k (daysOf l (k + 1)) (fun d => grp (l.take k) d) u9 f := by rw [hdn]; exact hGa
          generalize u9 = dv9 at *
          generalize wa = wb at *
          have hblt : bx < wb.heap.size := (Array.getElem?_eq_some_iff.1 hbx).1
          have hgl : (grp (l.take k) x.dy).length ≤ k := Nat.le_trans (List.length_filter_le _ _) (by simp; omega)
          refine region_lead (fun w' => w'.heap[bx]? = some (.cells #[.int .i64 x.mt, .int .i64 x.dy, .string x.ho, .string x.aw] 32 (0, 0)) ∧ MapF w' 2 nilV w1.heap.size k f) 8 10 (by kernel_rfl) (by kernel_rfl) ⟨hbx, hGb.map.kept (row := none) ⟨rfl, rfl, rfl, Nat.le_refl _, fun _ _ _ => rfl⟩ (by simp)⟩ ?_
          simp only [List.take_succ_cons, List.take_zero, List.drop_succ_cons, List.drop_zero]
          refine lead_run (.map (some w1.heap.size)) rfl (fun w' hS => by go_simp) ?_
          simp only [Act.put, List.setIfInBounds_toArray, List.set_cons_zero, List.set_cons_succ]
          refine lead_run (.pointer (some ⟨bx, 1, none⟩)) rfl (fun w' hS => by go_simp) ?_
          simp only [Act.put, List.setIfInBounds_toArray, List.set_cons_zero, List.set_cons_succ]
          refine lead_run (.int .i64 x.dy) rfl (fun w' hS => by (have g1 := cell_of (k := 1) hS.1 rfl; clear hS; go_simp)) ?_
          simp only [Act.put, List.setIfInBounds_toArray, List.set_cons_zero, List.set_cons_succ]
          refine lead_run (.map (some w1.heap.size)) rfl (fun w' hS => by go_simp) ?_
          simp only [Act.put, List.setIfInBounds_toArray, List.set_cons_zero, List.set_cons_succ]
          refine lead_run (.pointer (some ⟨bx, 1, none⟩)) rfl (fun w' hS => by go_simp) ?_
          simp only [Act.put, List.setIfInBounds_toArray, List.set_cons_zero, List.set_cons_succ]
          refine lead_run (.int .i64 x.dy) rfl (fun w' hS => by (have g1 := cell_of (k := 1) hS.1 rfl; clear hS; go_simp)) ?_
          simp only [Act.put, List.setIfInBounds_toArray, List.set_cons_zero, List.set_cons_succ]
          refine lead_run (.slice pf n0 cf) rfl (fun w' hS => by (have g1 := mapF_lookup hS.2 key2 Try.underlying42 (zero22 w') hxd; rw [hfH.out] at g1; clear hS; go_simp)) ?_
          simp only [Act.put, List.setIfInBounds_toArray, List.set_cons_zero, List.set_cons_succ]
          refine lead_run (.agg #[.int .i64 x.mt, .int .i64 x.dy, .string x.ho, .string x.aw]) rfl (fun w' hS => by (have g0 := cell_of (k := 0) hS.1 rfl; have g1 := cell_of (k := 1) hS.1 rfl; have g2 := cell_of (k := 2) hS.1 rfl; have g3 := cell_of (k := 3) hS.1 rfl; clear hS; go_simp)) ?_
          simp only [Act.put, List.setIfInBounds_toArray, List.set_cons_zero, List.set_cons_succ]
          refine lead_nil ?_
          refine mid_cons ?_
          go_wp2
          have hgd := grown_alloc_drew wb (.cells #[.int .i64 x.mt, .int .i64 x.dy, .string x.ho, .string x.aw] 32) none
          refine ⟨⟨(hgd.block bx hblt (by simp)).trans hbx, hGb.map.kept hgd (by simp)⟩, ?_⟩
          refine mid_cons ?_
          have hrow : (wb.alloc (.cells #[.int .i64 x.mt, .int .i64 x.dy, .string x.ho, .string x.aw] 32)).drew.ownsRow (w1.heap.size + 1) 32 4 (.slice pf n0 cf) (grp (l.take k) x.dy).length (flatVD (grp (l.take k) x.dy)) := by rw [← hfH.out]; exact ((hGb.rows x.dy).alloc _).drew
          refine wpList_append_own_at _ rfl (.tmp 59) (.tmp 61) 22 rfl (w1.heap.size + 1) 32 i32 _ 4 48 Try.underlying22 hi32 hz32 hk32 hn32 rfl (by decide) _ _ _ rfl hrow ⟨wb.heap.size, 0, none⟩ 1 1 (duV x) rfl rfl (duty_news wb x) (duty_one x) (by have := hgl; unfold maxLen; omega) (by have := hgl; omega) (by simp; omega) ?_
          intro v' w5 hown' hgrow hnil hloc
          have hg5 : wb.grownBy w5 (f x.dy).ownBlock := by rw [hfH.out]; exact (World.grownBy_alloc wb _ _).trans ⟨hgrow.os, hgrow.tape, hgrow.output, hgrow.size, hgrow.block⟩
          refine ⟨⟨(hg5.block bx hblt (fun e => hbf x.dy e.symm)).trans hbx, hGb.map.kept hg5 (hGb.blk x.dy)⟩, mid_nil ?_⟩
          refine wp_storeF w5 rfl (.tmp 53) (.tmp 55) (.tmp 62) 42 2 22 rfl key2 Try.underlying42 nilV w1.heap.size k f rfl (hGb.map1 hg5) (by unfold maxLen; omega) x.dy rfl hxd v' rfl ?_
          intro w6 hm6 hg6
          have hG6 : Grp1 w1 w6 l (k + 1) dv9 (updM f x.dy v') := by
            unfold Grp1
            rw [← updG_take hlt hxH.out]
            exact hGb.row hg5 hown' (by rw [hfH.out]; exact hloc.imp id fun e => ⟨_, e, by simp⟩) hm6 hg6
          clear hrow hown' hgrow hnil hloc hg5 hm6 hg6 hGb
          go_wp2
          refine nk_normal ?_
          go_wp2
          go_roundw
          case rel => exact ⟨k + 1, _, by omega, by go_num, hG6⟩
          case measure => simp [intOf]; omega
      · obtain rfl : k = l.length := by omega
        have hsc := sort_c hG (by omega)
        go_wp2_with (go_at_fn 10; refine hsc.mono ?_)
        rintro e w2 ⟨rfl, hS⟩
        obtain ⟨pd, cd, rfl, hcd⟩ := own_slice hS.days
        have hw2 := hw1.trans (hS.below.mono hw1.size)
        obtain ⟨nd, hnd⟩ : ∃ nd, nd = (sdays l).length := ⟨_, rfl⟩
        have hndl : nd ≤ 100 := by have := days_len (l := l) l.length; rw [hnd, sdays_len]; omega
        have hdy := hS.days
        rw [← hnd] at hcd hdy ⊢
        have hndH : Hid (nd = (sdays l).length) := hnd
        clear hsc hG hk hnd
        go_wp2
        go_loopw [68] (fun i wr => ∃ k : Nat, k ≤ nd ∧ i = .int .i64 k ∧ Below w2.heap.size w2 wr ∧ Hid (∀ j, j < k → badD l us (gt (sdays l) j) = false)) (fun i _ => nd - (intOf i).toNat)
        case atStart => exact ⟨0, Nat.zero_le _, rfl, Below.refl _ _, fun j hj => absurd hj (Nat.not_lt_zero _)⟩
        case round =>
          obtain ⟨k, hk, rfl, hbr, hgood⟩ := hrel
          by_cases hlt : k < nd
          · obtain ⟨g, c9, hpd, hg0, hg1, hg2, hg3⟩ := own_cells hdy (by omega)
            obtain rfl : pd = some ⟨g, 0, none⟩ := by cases hpd; rfl
            clear hpd hg2
            obtain ⟨dd, hdd⟩ : ∃ dd, dd = gt (sdays l) k := ⟨_, rfl⟩
            obtain ⟨i0, hi0, hi1, hG0⟩ := day_of (l := l) (k := k) (by rw [← hndH.out]; exact hlt)
            rw [← hdd] at hi1 hG0
            have hdr := day_rng hE hi0
            have hxd : (Lit.int .i64 dd).wf = true := wf_of (by omega) (by omega)
            have t0 : wr.cell? ⟨g, k, none⟩ = some (.int .i64 dd) := (cell_below hbr hg1).trans (hg3 k _ (by rw [hdd, List.getElem?_map, gt_eq _ _ (by rw [← hndH.out]; exact hlt), List.getElem?_eq_getElem (by rw [← hndH.out]; exact hlt)]; rfl))
            have hSr := hS.keep hbr
            have hlk := mapF_lookup hSr.map key2 Try.underlying42 (zero22 wr) hxd
            have hrd := hSr.rows dd
            obtain ⟨pf, cf, hf, hcf⟩ := own_slice hrd
            have hfH : Hid (f dd = .slice pf (grp l dd).length cf) := hf
            obtain ⟨n0, hn0⟩ : ∃ n0, n0 = (grp l dd).length := ⟨_, rfl⟩
            rw [hf] at hrd hlk
            rw [← hn0] at hcf hrd hlk hfH
            have hn0H : Hid (n0 = (grp l dd).length) := hn0
            have hddH : Hid (dd = gt (sdays l) k) := hdd
            have hgl := grp_len l dd
            have hdsl := (ckS_facts hE).2
            have hwr := hw2.trans (hbr.mono hw2.size)
            have hgv : Den [] (Iw wr) wr (dusAV (grp l dd)) (.slice pf n0 cf) := by
              show Den [] (Iw wr) wr (.sl (grp l dd).length (flatD (grp l dd))) _
              rw [flatD_V, ← hn0]
              exact den_own hrd fun k e => (hrd.lt k e).2
            have huv : Den [] (Iw wr) wr (umsAV us) (.slice q us.length d) := hu.mono (List.prefix_refl _) (fun k hk => Nat.lt_of_lt_of_le hk hwr.size) fun k hk => hwr.block k hk
            have hcn := new_c hgv huv (by omega) (by omega) (by omega) (fun u => Nat.le_trans (hdsl u) (by decide))
            clear hn0 hf hdd hi1 hdr hgv huv hdsl
            go_wp2_with (go_at_fn 11; refine hcn.mono ?_)
            rintro e w3 ⟨xv, rfl, hM, hb3⟩
            obtain ⟨xp, rfl⟩ := mat_ptr hM
            have hml := mayL_len us (grp l dd)
            rw [← hml] at hM
            have hcf2 := fill_c hM hb3.size (by omega) (by omega) (by omega)
            obtain ⟨lk, hlkE⟩ : ∃ lk, lk = (dayFill (mayL us (grp l dd)) us.length).1 := ⟨_, rfl⟩
            rw [← hlkE] at hcf2
            have hlkH : Hid (lk = (dayFill (mayL us (grp l dd)) us.length).1) := hlkE
            clear hcn hlkE
            go_wp2_with (go_at_fn 12; refine hcf2.mono ?_)
            rintro e w4 ⟨yv, rfl, ⟨py, cy, rfl, hcy, hpy⟩, hML, hb4⟩
            have hb4r : Below w2.heap.size w2 w4 := (hbr.trans (hb3.mono hbr.size)).trans (hb4.mono hbr.size)
            clear hcf2 hM hpy
            by_cases hbad : lk.length = 0
            · go_wp2
              go_roundw
              case rel => exact ⟨k + 1, by omega, by go_num, hb4r, fun j hj => by
                by_cases hjk : j < k
                · exact hgood.out j hjk
                · obtain rfl : j = k := by omega
                  rw [← hddH.out, badD_f, ← hlkH.out]
                  exact List.eq_nil_of_length_eq_zero hbad⟩
              case measure => simp [intOf]; omega
            · have hne : (dayFill (mayL us (grp l dd)) us.length).1 ≠ [] := by rw [← hlkH.out]; exact fun e => hbad (by rw [e]; rfl)
              have hL : MatL wr.heap.size w4 (.pointer xp) (.slice py lk.length cy) (mayL us (grp l dd)) (rep2 (mayL us (grp l dd)).length) (dayFill (mayL us (grp l dd)) us.length).2 (dayFill (mayL us (grp l dd)) us.length).1 := by
                rw [← hlkH.out]
                exact hML fun e => hbad (by rw [e]; rfl)
              have hcl := lacking_c hL (Nat.le_trans hb3.size hb4.size) hne (by omega) (by omega) (by omega)
              have hla := fun m => lack_at (l := l) (us := us) (d := dd) hne (m := m)
              have hnl := nums_len l us dd
              obtain ⟨ol, hol⟩ : ∃ ol, ol = (dayLack (mayL us (grp l dd)) us.length).map fun i : Nat => (i : Int) := ⟨_, rfl⟩
              rw [← hol] at hcl hla hnl
              have hlaH : Hid (∀ m, m < ol.length → ∃ ix : Nat, gt ol m = (ix : Int) ∧ ix < (grp l dd).length ∧ (numsL l us dd)[m]? = some (gt (grp l dd) ix).mt) := fun m hm => hla m hm
              have hnlH : Hid ((numsL l us dd).length = ol.length) := hnl
              have holl : ol.length ≤ 1000000 := by
                have h8 : ol.length ≤ (mayL us (grp l dd)).length := by
                  rw [hol, List.length_map]
                  unfold dayLack lackO
                  refine Nat.le_trans (List.length_filter_le _ _) ?_
                  rw [List.length_range, lackQ_length, mark_len, List.length_replicate]
                  exact Nat.le_refl _
                omega
              clear hML hL hla hnl hol
              go_wp2_with (go_at_fn 13; refine hcl.mono ?_)
              rintro e w5 ⟨zv, rfl, ⟨pz, cz, rfl, hcz, hpz⟩, hb5⟩
              have hb5r : Below w2.heap.size w2 w5 := hb4r.trans (hb5.mono hbr.size)
              obtain ⟨gr, c8, hpf, hgr0, hgr1, hgr2, hgr3⟩ := own_cells hrd (by have := hn0H.out; omega)
              obtain rfl : pf = some ⟨gr, 0, none⟩ := by cases hpf; rfl
              clear hcl hpf hgr0 hgr2 hgr3 hlk t0
              go_wp2
              go_loopw [16, 86] (fun nv j wq => ∃ m : Nat, m ≤ ol.length ∧ j = .int .i64 m ∧ Below w5.heap.size w5 wq ∧ wq.ownsRow w5.heap.size 3 1 nv m (((numsL l us dd).take m).map encI)) (fun _ j _ => ol.length - (intOf j).toNat)
              case atStart => exact ⟨0, Nat.zero_le _, rfl, Below.refl _ _, World.ownsRow_nil _ _ _ _⟩
              case round =>
                obtain ⟨m, hm, rfl, hbq, hown⟩ := hrel
                by_cases hml2 : m < ol.length
                · obtain ⟨gz, oz, hpz1, hgz, hgz2⟩ := hpz (by omega)
                  obtain rfl : pz = some ⟨gz, oz, none⟩ := hpz1
                  obtain ⟨ix, hix, hixl, hixn⟩ := hlaH.out m hml2
                  have tz : wr.cell? ⟨gz, oz + m, none⟩ = some (.int .i64 (ix : Int)) := by rw [cell_below hbq hgz, hgz2 m hml2, hix]
                  have hSq := hS.keep (hb5r.trans (hbq.mono hb5r.size))
                  have hlq := mapF_lookup hSq.map key2 Try.underlying42 (zero22 wr) hxd
                  have hrq := hSq.rows dd
                  rw [hfH.out] at hlq hrq
                  obtain ⟨gr', c8, hpf, hgr0, hgr1', hgr2, hgr3⟩ := own_cells hrq (by omega)
                  obtain rfl : gr' = gr := by cases hpf; rfl
                  obtain ⟨mt, hmt⟩ : ∃ mt, mt = (gt (grp l dd) ix).mt := ⟨_, rfl⟩
                  have tm : wr.cell? ⟨gr', ix * 4, none⟩ = some (.int .i64 mt) := hgr3 (ix * 4) _ (by rw [hmt]; exact flatVD_at _ ix 0 hixl (by omega))
                  rw [← hmt] at hixn
                  rw [← hn0H.out] at hixl
                  have hixnH : Hid ((numsL l us dd)[m]? = some mt) := hixn
                  clear hix hixn hmt hpf hgr0 hgr2 hgr3 hrq hSq hgz2 hpz
                  go_wp2_with (at_builtin; refine wpList_append_own_at _ rfl (.tmp 90) (.tmp 98) 25 rfl w5.heap.size 3 i3 (.int .i64 0) 1 8 Try.underlying25 hi3 hz3 hk3 hn3 rfl (by decide) _ _ _ rfl (hown.alloc _) ⟨wr.heap.size, 0, none⟩ 1 1 [.int .i64 mt] rfl rfl (cell_one_new _ _ _) (one_int _) (by unfold maxLen; omega) (by omega) (by have := hbq.size; simp; omega) ?_; intro nv' w6 hown' hgrow hnil hloc)
                  have hb6 : Below w5.heap.size w5 w6 := (hbq.alloc hbq.size _).grown hgrow (by have := hbq.size; simp; omega) (fun k e => (hown.lt k e).1)
                  have hown6 : w6.ownsRow w5.heap.size 3 1 nv' (m + 1) (((numsL l us dd).take (m + 1)).map encI) := by
                    rw [take_some hixnH.out, List.map_append]
                    exact hown'
                  clear hown' hgrow hnil hloc hown
                  go_wp2
                  go_roundw
                  case rel => exact ⟨m + 1, by omega, by go_num, hb6, hown6⟩
                  case measure => simp [intOf]; omega
                · obtain rfl : m = ol.length := by omega
                  go_wp2
                  refine bodyPost_ret (results_tmp3 rfl _ _ _) rfl ?_
                  refine post_bad hE (fst_some (k := k) (by rw [← hndH.out]; exact hlt) hgood.out (by rw [← hddH.out, badD_t]; exact hne)) ?_ ((hw2.trans (hb5r.mono hw2.size)).trans (hbq.mono (hw2.trans (hb5r.mono hw2.size)).size))
                  rw [← hddH.out, hnlH.out]
                  rw [List.take_of_length_le (by rw [hnlH.out]; exact Nat.le_refl _)] at hown
                  exact own_mono hown (hw2.trans (hb5r.mono hw2.size)).size
          · obtain rfl : k = nd := by omega
            generalize wr = w9 at *
            have hfn : fstBad l us = none := fst_none (k := k) (by rw [← hndH.out]; exact Nat.le_refl _) hgood.out
            have hris := rising_of (ckS_facts hE).1
            have hw9 := hw2.trans (hbr.mono hw2.size)
            obtain ⟨Bp, hBp⟩ : ∃ Bp, Bp = w9.heap.size := ⟨_, rfl⟩
            have hm0 : MapF (w9.alloc (.map #[] 0)) 3 zeroP Bp 0 (fun _ => zeroP) := by rw [hBp]; exact mapF_made w9 3 zeroP
            have hb0 : Below Bp w9 (w9.alloc (.map #[] 0)) := by rw [hBp]; exact (Below.refl _ w9).alloc (Nat.le_refl _) _
            go_wp2
            rw [← hBp]
            have hBpH : Hid (Bp = w9.heap.size) := hBp
            clear hBp
            go_loopw [106] (fun i wq => ∃ (t n : Nat) (g : Int → Value), t ≤ k ∧ i = .int .i64 t ∧ n ≤ t * 100 ∧ MapF wq 3 zeroP Bp n g ∧ Below Bp w9 wq ∧ Hid (Put l us g t 0)) (fun i _ => k - (intOf i).toNat)
            case atStart => exact ⟨0, 0, _, Nat.zero_le _, rfl, Nat.le_refl _, hm0, hb0, put_start _ _ _⟩
            case round =>
              obtain ⟨t, n, gm, ht, rfl, hn, hmp, hb9, hput⟩ := hrel
              by_cases hlt2 : t < k
              · obtain ⟨g, c9, hpd, hg0, hg1, hg2, hg3⟩ := own_cells hdy (by omega)
                obtain rfl : pd = some ⟨g, 0, none⟩ := by cases hpd; rfl
                clear hpd hg2
                have hbr2 : Below w2.heap.size w2 wr := hbr.trans (hb9.mono (by rw [hBpH.out]; exact hbr.size))
                obtain ⟨dd, hdd⟩ : ∃ dd, dd = gt (sdays l) t := ⟨_, rfl⟩
                obtain ⟨i0, hi0, hi1, hG0⟩ := day_of (l := l) (k := t) (by rw [← hndH.out]; exact hlt2)
                rw [← hdd] at hi1 hG0
                have hdr := day_rng hE hi0
                have hxd : (Lit.int .i64 dd).wf = true := wf_of (by omega) (by omega)
                have t0 : wr.cell? ⟨g, t, none⟩ = some (.int .i64 dd) := (cell_below hbr2 hg1).trans (hg3 t _ (by rw [hdd, List.getElem?_map, gt_eq _ _ (by rw [← hndH.out]; exact hlt2), List.getElem?_eq_getElem (by rw [← hndH.out]; exact hlt2)]; rfl))
                have hSr := hS.keep hbr2
                have hlk := mapF_lookup hSr.map key2 Try.underlying42 (zero22 wr) hxd
                have hrd := hSr.rows dd
                obtain ⟨pf, cf, hf, hcf⟩ := own_slice hrd
                have hfH : Hid (f dd = .slice pf (grp l dd).length cf) := hf
                obtain ⟨n0, hn0⟩ : ∃ n0, n0 = (grp l dd).length := ⟨_, rfl⟩
                rw [hf] at hrd hlk
                rw [← hn0] at hcf hrd hlk hfH
                have hn0H : Hid (n0 = (grp l dd).length) := hn0
                have hddH : Hid (dd = gt (sdays l) t) := hdd
                have hgl := grp_len l dd
                have hdsl := (ckS_facts hE).2
                have hwr := hw2.trans (hbr2.mono hw2.size)
                have hgv : Den [] (Iw wr) wr (dusAV (grp l dd)) (.slice pf n0 cf) := by
                  show Den [] (Iw wr) wr (.sl (grp l dd).length (flatD (grp l dd))) _
                  rw [flatD_V, ← hn0]
                  exact den_own hrd fun k e => (hrd.lt k e).2
                have huv : Den [] (Iw wr) wr (umsAV us) (.slice q us.length d) := hu.mono (List.prefix_refl _) (fun k hk => Nat.lt_of_lt_of_le hk hwr.size) fun k hk => hwr.block k hk
                have hcn := new_c hgv huv (by omega) (by omega) (by omega) (fun u => Nat.le_trans (hdsl u) (by decide))
                have hbd : badD l us dd = false := by rw [hdd]; exact hgood.out t hlt2
                have hfe : Hid ((dayFill (mayL us (grp l dd)) us.length).1 = []) := badD_f.1 hbd
                have hn0l : n0 ≤ 100 := by omega
                have hn0p : 0 < n0 := by omega
                have hml := mayL_len us (grp l dd)
                have hmlH : Hid ((mayL us (grp l dd)).length = n0) := by rw [hn0]; exact hml
                clear hn0 hf hdd hi1 hdr hgv huv hdsl hbd hml hG0 hi0
                go_wp2_with (go_at_fn 11; refine hcn.mono ?_)
                rintro e w3 ⟨xv, rfl, hM, hb3⟩
                obtain ⟨xp, rfl⟩ := mat_ptr hM
                have hB0 : Bp < wr.heap.size := hmp.lt
                have hM3 : Mat wr.heap.size w3 (.pointer xp) (mayL us (grp l dd)) (dst (mayL us (grp l dd)) us.length 0).1 (dst (mayL us (grp l dd)) us.length 0).2 := by
                  show Mat _ _ _ _ (List.replicate (mayL us (grp l dd)).length 2) _
                  rw [mayL_len]
                  exact hM
                have hmp3 := hmp.kept (below_grown hb3 none) (by simp)
                have hb93 : Below Bp w9 w3 := hb9.trans (hb3.mono (Nat.le_of_lt hB0))
                have hbr3 : Below w2.heap.size w2 w3 := hbr2.trans (hb3.mono hbr2.size)
                have hlk3 := mapF_lookup (hS.keep hbr3).map key2 Try.underlying42 (zero22 w3) hxd
                rw [hfH.out] at hlk3
                obtain ⟨B0, hB0e⟩ : ∃ B0, B0 = wr.heap.size := ⟨_, rfl⟩
                have hs3 := hb3.size
                rw [← hB0e] at hB0 hM3 hs3
                obtain ⟨gr, c8, hpf, hgr0, hgr1, hgr2, hgr3⟩ := own_cells hrd hn0p
                obtain rfl : pf = some ⟨gr, 0, none⟩ := by cases hpf; rfl
                clear hcn hM hb3 hlk t0 hpf hgr0 hgr2 hgr3 hmp hb9 hB0e hrd hSr
                go_wp2
                go_loopw [119] (fun j wq => ∃ (i n : Nat) (g : Int → Value), i ≤ n0 ∧ j = .int .i64 i ∧ n ≤ t * 100 + i ∧ MapF wq 3 zeroP Bp n g ∧ Below Bp w9 wq ∧ Hid (Put l us g t i) ∧ B0 ≤ wq.heap.size ∧
                  Mat B0 wq (.pointer xp) (mayL us (grp l dd)) (dst (mayL us (grp l dd)) us.length i).1 (dst (mayL us (grp l dd)) us.length i).2) (fun j _ => n0 - (intOf j).toNat)
                case atStart => exact ⟨0, n, gm, Nat.zero_le _, rfl, by omega, hmp3, hb93, hput, hs3, hM3⟩
                case round =>
                  obtain ⟨i, n9, g9, hi, rfl, hn9, hmq, hbq, hputq, hsq, hMq⟩ := hrel
                  by_cases hilt : i < n0
                  · have hSq := hS.keep (hbr.trans (hbq.mono (by rw [hBpH.out]; exact hbr.size)))
                    have hrq := hSq.rows dd
                    rw [hfH.out] at hrq
                    obtain ⟨gr', c7, hpf, hgr0, hgr1', hgr2, hgr3⟩ := own_cells hrq (by have := hn0H.out; omega)
                    obtain rfl : gr' = gr := by cases hpf; rfl
                    obtain ⟨x, hx⟩ : ∃ x, x = gt (grp l dd) i := ⟨_, rfl⟩
                    have e := fun j v (hj : j < 4) (hv : (duV (gt (grp l dd) i))[j]? = some v) => hgr3 (i * 4 + j) v ((flatVD_at _ i j (by have := hn0H.out; omega) hj).trans hv)
                    rw [← hx] at e
                    have k0 : wr.cell? ⟨gr', i * 4, none⟩ = some (.int .i64 x.mt) := e 0 _ (by omega) rfl
                    have k1 : wr.cell? ⟨gr', i * 4 + 1, none⟩ = some (.int .i64 x.dy) := e 1 _ (by omega) rfl
                    have k2 : wr.cell? ⟨gr', i * 4 + 2, none⟩ = some (.string x.ho) := e 2 _ (by omega) rfl
                    have k3 : wr.cell? ⟨gr', i * 4 + 3, none⟩ = some (.string x.aw) := e 3 _ (by omega) rfl
                    have hxH : Hid (x = gt (grp l dd) i) := hx
                    have hxm : (Lit.int .i64 x.mt).wf = true := by
                      obtain ⟨j, hj, e2, _⟩ := grp_idx hris (d := dd) (i := i) (by have := hn0H.out; omega)
                      rw [hx, ← e2]
                      have := day_rng hE hj
                      exact wf_of (by omega) (by omega)
                    clear e hx hpf hgr0 hgr2 hgr3 hrq hSq
                    go_upto_region 36 with fail
                    obtain ⟨wa, hwa⟩ : ∃ wa, wa = wr.alloc (.cells (duV x).toArray 32) := ⟨_, rfl⟩
                    have hba : Below wr.heap.size wr wa := by rw [hwa]; exact (Below.refl _ wr).alloc (Nat.le_refl _) _
                    have hbx : wa.heap[wr.heap.size]? = some (.cells (duV x).toArray 32 (0, 0)) := by rw [hwa]; exact heap_alloc_new wr _
                    have hMx := hMq.box (hba.drew)
                    have hmx := hmq.kept (below_grown hba none) (by simp)
                    obtain ⟨bx, hbx0⟩ : ∃ bx, bx = wr.heap.size := ⟨_, rfl⟩
                    have hsa : wa.heap.size = wr.heap.size + 1 := by rw [hwa]; simp
                    have hbq2 : Below Bp w9 wa := hbq.trans (hba.mono (by omega))
                    rw [← hbx0] at hbx hMx hsa hsq
                    unfold duV at hwa
                    rw [← hwa, ← hbx0]
                    clear hwa hbx0 k0 k1 k2 k3 hMq hmq hbq
                    have hD := day_at hfe.out i (by rw [hmlH.out]; exact hi)
                    have hcc := choose_c hMx (show B0 ≤ wa.heap.size by omega) (show bx < wa.heap.size by omega) hD (by rw [hmlH.out]; exact hilt) (by rw [hmlH.out]; exact hn0l) (by omega)
                    refine region_lead (fun w' => w'.heap[bx]? = some (.cells #[.int .i64 x.mt, .int .i64 x.dy, .string x.ho, .string x.aw] 32 (0, 0))) 5 6 (by kernel_rfl) (by kernel_rfl) hbx ?_
                    simp only [List.take_succ_cons, List.take_zero, List.drop_succ_cons, List.drop_zero]
                    refine lead_run (.map (some Bp)) rfl (fun w' hS => by go_simp) ?_
                    simp only [Act.put, List.setIfInBounds_toArray, List.set_cons_zero, List.set_cons_succ]
                    refine lead_run (.pointer (some ⟨bx, 0, none⟩)) rfl (fun w' hS => by go_simp) ?_
                    simp only [Act.put, List.setIfInBounds_toArray, List.set_cons_zero, List.set_cons_succ]
                    refine lead_run (.int .i64 x.mt) rfl (fun w' hS => by (have g1 := cell_of (k := 0) hS rfl; clear hS; go_simp)) ?_
                    simp only [Act.put, List.setIfInBounds_toArray, List.set_cons_zero, List.set_cons_succ]
                    refine lead_run (.pointer xp) rfl (fun w' hS => by go_simp) ?_
                    simp only [Act.put, List.setIfInBounds_toArray, List.set_cons_zero, List.set_cons_succ]
                    refine lead_run (.int .i64 (i : Int)) rfl (fun w' hS => by go_simp) ?_
                    simp only [Act.put, List.setIfInBounds_toArray, List.set_cons_zero, List.set_cons_succ]
                    refine lead_nil ?_
                    refine mid_cons ?_
                    go_wp2_with (go_at_fn 14; refine hcc.mono ?_)
                    rintro e w5 ⟨rfl, hM5, hb5, hk5⟩
                    go_wp2
                    refine ⟨hk5.trans hbx, mid_nil ?_⟩
                    have hB0' : Bp < B0 := hB0
                    have hmp5 := hmx.block (hb5.block Bp hB0')
                    refine wp_storeF w5 rfl (.tmp 124) (.tmp 126) (.tmp 129) 48 3 49 rfl key3 Try.underlying48 zeroP Bp n9 g9 rfl hmp5 (by unfold maxLen; omega) x.mt rfl hxm _ rfl ?_
                    intro w6 hm6 hg6
                    have hput6 : Hid (Put l us (updM g9 x.mt (pairV (dpr (mayL us (grp l dd)) us.length i))) t (i + 1)) :=
                      put_step hputq.out (by rw [← hddH.out, hxH.out]) (by rw [hxH.out, tgt_grp hris (by have := hn0H.out; omega)])
                    have hb6 : Below Bp w9 w6 := ((hbq2.drew.trans (hb5.mono (Nat.le_of_lt hB0'))).grown hg6 (by have := hmp5.lt; omega) (fun k e => by cases e; exact Nat.le_refl _))
                    have hM6 := hM5.keep (B := Bp) hg6.size (fun k hk hne => hg6.block k hk (fun e => hne (by cases e; rfl))) hmp5.nocells
                    have hs6 : B0 ≤ w6.heap.size := by have := hb5.size; have := hg6.size; simp at *; omega
                    clear hcc hMx hmx hmp5 hM5 hb5 hk5 hg6 hbx hD hba hbq2 hputq
                    go_wp2
                    refine nk_normal ?_
                    go_wp2
                    go_roundw
                    case rel => exact ⟨i + 1, n9 + 1, _, by omega, by go_num, by omega, hm6, hb6, hput6, hs6, hM6⟩
                    case measure => simp [intOf]; omega
                  · obtain rfl : i = n0 := by omega
                    go_wp2
                    go_roundw
                    case rel => exact ⟨t + 1, n9, g9, by omega, by go_num, by omega, hmq, hbq, put_next (by rw [← hddH.out, ← hn0H.out]; exact hputq.out)⟩
                    case measure => simp [intOf]; omega
              · obtain rfl : t = k := by omega
                have hall : Hid (∀ j, j < l.length → gm (gt l j).mt = pairV (prJ l us j)) := fun j hj => put_all hris (by rw [← hndH.out]; exact hput.out) hj
                have hprH : Hid (∀ j, j < l.length → PrOK (mayL us (grp l (gt l j).dy)) us.length (plc l j)) := fun j hj => prJ_lt hfn hj
                have hb90 := hw9.trans (hb9.mono (by rw [hBpH.out]; exact hw9.size))
                generalize wr = w10 at *
                clear hput
                go_wp2
                go_loopw [25, 134] (fun ov j wq => ∃ m : Nat, m ≤ l.length ∧ j = .int .i64 m ∧ Below w10.heap.size w10 wq ∧ wq.ownsRow w10.heap.size 30 3 ov m (flatAV ((List.range m).map (apJ l us)))) (fun _ j _ => l.length - (intOf j).toNat)
                case atStart => exact ⟨0, Nat.zero_le _, rfl, Below.refl _ _, World.ownsRow_nil _ _ _ _⟩
                case round =>
                  obtain ⟨m, hm, rfl, hbm, hown⟩ := hrel
                  by_cases hml : m < l.length
                  · obtain ⟨b, o, rfl, hbl, hcl⟩ := hp (by omega)
                    have hbw := hb90.trans (hbm.mono hb90.size)
                    have P := hprH.out m hml
                    have hg := hall.out m hml
                    obtain ⟨pr, hpr⟩ : ∃ pr, pr = prJ l us m := ⟨_, rfl⟩
                    have hp1 : pr.1 < us.length := by rw [hpr]; exact Nat.lt_trans P.lt P.ltn
                    have hp2 : pr.2 < us.length := by rw [hpr]; exact P.ltn
                    obtain ⟨bu, ou, rfl, hbu, Y, hY, hYD⟩ := hq (by omega)
                    obtain ⟨na, hna⟩ : ∃ na, na = (gt us pr.1).nm := ⟨_, rfl⟩
                    obtain ⟨nb, hnb⟩ : ∃ nb, nb = (gt us pr.2).nm := ⟨_, rfl⟩
                    have n1 : wr.cell? ⟨bu, ou + pr.1 * 3, none⟩ = some (.string na) := by
                      have := flatU0 us pr.1 hp1
                      rw [← hna] at this
                      rw [cell_below hbw hbu, hY _ _ this, den_v (hYD _ _ this)]
                    have n2 : wr.cell? ⟨bu, ou + pr.2 * 3, none⟩ = some (.string nb) := by
                      have := flatU0 us pr.2 hp2
                      rw [← hnb] at this
                      rw [cell_below hbw hbu, hY _ _ this, den_v (hYD _ _ this)]
                    obtain ⟨x, hx⟩ : ∃ x, x = gt l m := ⟨_, rfl⟩
                    rw [← hx, ← hpr] at hg
                    have hap : Hid (apJ l us m = ⟨x.mt, na, nb⟩) := by
                      show _ = _
                      unfold apJ
                      rw [← hpr, ← hx, hna, hnb]
                    have e := fun j v (hj : j < 4) (hv : (duV (gt l m))[j]? = some v) => (cell_below (o := o + (m * 4 + j)) hbw hbl).trans (hcl _ v ((flatVD_at l m j hml hj).trans hv))
                    rw [← hx] at e
                    have k0 : wr.cell? ⟨b, o + m * 4, none⟩ = some (.int .i64 x.mt) := e 0 _ (by omega) rfl
                    have k1 : wr.cell? ⟨b, o + m * 4 + 1, none⟩ = some (.int .i64 x.dy) := e 1 _ (by omega) rfl
                    have k2 : wr.cell? ⟨b, o + m * 4 + 2, none⟩ = some (.string x.ho) := e 2 _ (by omega) rfl
                    have k3 : wr.cell? ⟨b, o + m * 4 + 3, none⟩ = some (.string x.aw) := e 3 _ (by omega) rfl
                    have hxm : (Lit.int .i64 x.mt).wf = true := by
                      have := day_rng hE hml
                      rw [hx]
                      exact wf_of (by omega) (by omega)
                    have hgH : Hid (gm x.mt = pairV pr) := hg
                    clear e hx hcl hp P hg hpr hna hnb hY hYD hq
                    go_upto_region 43 with fail
                    obtain ⟨wa, hwa⟩ : ∃ wa, wa = wr.alloc (.cells (duV x).toArray 32) := ⟨_, rfl⟩
                    have hba : Below wr.heap.size wr wa := by rw [hwa]; exact (Below.refl _ wr).alloc (Nat.le_refl _) _
                    have hbx : wa.heap[wr.heap.size]? = some (.cells (duV x).toArray 32 (0, 0)) := by rw [hwa]; exact heap_alloc_new wr _
                    obtain ⟨bx, hbx0⟩ : ∃ bx, bx = wr.heap.size := ⟨_, rfl⟩
                    have hsa : wa.heap.size = wr.heap.size + 1 := by rw [hwa]; simp
                    have hbu1 : bu < wa.heap.size := by have h8 := hbw.size; have h9 : bu < w.heap.size := hbu; omega
                    have hown1 := own_below hown hba
                    have hbma := hbm.trans (hba.mono hbm.size)
                    have n3 : wa.cell? ⟨bu, ou + pr.1 * 3, none⟩ = some (.string na) := (cell_below hba (by have := hbw.size; simp at hbu; omega)).trans n1
                    have n4 : wa.cell? ⟨bu, ou + pr.2 * 3, none⟩ = some (.string nb) := (cell_below hba (by have := hbw.size; simp at hbu; omega)).trans n2
                    rw [← hbx0] at hbx hsa
                    unfold duV at hwa
                    rw [← hwa, ← hbx0]
                    have t0 : wa.cell? ⟨bx, 0, none⟩ = some (.int .i64 x.mt) := cell_of hbx rfl
                    have hmpa := (hmp.kept (below_grown hbm none) (by simp)).kept (below_grown hba none) (by simp)
                    have hlka := mapF_lookup hmpa key3 Try.underlying48 (zero49 wa) hxm
                    rw [hgH.out] at hlka
                    clear hwa hbx0 k0 k1 k2 k3 n1 n2 hown hba
                    go_upto_region 44 with fail
                    obtain ⟨wc, hwc⟩ : ∃ wc, wc = wa.alloc (.cells #[.int .i64 (pr.1 : Int), .int .i64 (pr.2 : Int)] 49) := ⟨_, rfl⟩
                    have hbc : Below wa.heap.size wa wc := by rw [hwc]; exact (Below.refl _ wa).alloc (Nat.le_refl _) _
                    have hbx2 : wc.heap[bx]? = some (.cells #[.int .i64 x.mt, .int .i64 x.dy, .string x.ho, .string x.aw] 32 (0, 0)) := (hbc.block bx (by omega)).trans hbx
                    have hcx2 : wc.heap[bx + 1]? = some (.cells #[.int .i64 (pr.1 : Int), .int .i64 (pr.2 : Int)] 49 (0, 0)) := by rw [hwc, ← hsa]; exact heap_alloc_new wa _
                    have hbma2 := hbma.trans (hbc.mono hbma.size)
                    have hbu2 := hbu1
                    have n5 := (cell_below hbc hbu2).trans n3
                    have n6 := (cell_below hbc hbu2).trans n4
                    have hown2 := own_below hown1 hbc
                    have hcs : wc.heap.size = bx + 2 := by rw [hwc]; simp; omega
                    have hlt1 : bx < wc.heap.size := by omega
                    have hlt2 : bx + 1 < wc.heap.size := by omega
                    have hbu3 : bu < wc.heap.size := Nat.lt_of_lt_of_le hbu2 hbc.size
                    rw [← hwc]
                    clear hwc hbc hbx hbma n3 n4 hown1 t0 hlka hmpa hsa hcs
                    refine region_lead (fun w' => w'.heap[bx]? = some (.cells #[.int .i64 x.mt, .int .i64 x.dy, .string x.ho, .string x.aw] 32 (0, 0)) ∧ w'.heap[bx + 1]? = some (.cells #[.int .i64 (pr.1 : Int), .int .i64 (pr.2 : Int)] 49 (0, 0)) ∧ w'.cell? ⟨bu, ou + pr.1 * 3, none⟩ = some (.string na) ∧ w'.cell? ⟨bu, ou + pr.2 * 3, none⟩ = some (.string nb)) 16 17 (by kernel_rfl) (by kernel_rfl) ⟨hbx2, hcx2, n5, n6⟩ ?_
                    simp only [List.take_succ_cons, List.take_zero, List.drop_succ_cons, List.drop_zero]
                    refine lead_run (u25) rfl (fun w' hS => by go_simp) ?_
                    simp only [Act.put, List.setIfInBounds_toArray, List.set_cons_zero, List.set_cons_succ]
                    refine lead_run (.pointer (some ⟨bx, 0, none⟩)) rfl (fun w' hS => by go_simp) ?_
                    simp only [Act.put, List.setIfInBounds_toArray, List.set_cons_zero, List.set_cons_succ]
                    refine lead_run (.int .i64 x.mt) rfl (fun w' hS => by (obtain ⟨S1, S2, S3, S4⟩ := hS; have g1 := cell_of (k := 0) S1 rfl; clear S1 S2 S3 S4; go_simp)) ?_
                    simp only [Act.put, List.setIfInBounds_toArray, List.set_cons_zero, List.set_cons_succ]
                    refine lead_run (.slice (some ⟨bu, ou, none⟩) us.length d) rfl (fun w' hS => by go_simp) ?_
                    simp only [Act.put, List.setIfInBounds_toArray, List.set_cons_zero, List.set_cons_succ]
                    refine lead_run (.pointer (some ⟨bx + 1, 0, none⟩)) rfl (fun w' hS => by go_simp) ?_
                    simp only [Act.put, List.setIfInBounds_toArray, List.set_cons_zero, List.set_cons_succ]
                    refine lead_run (.int .i64 (pr.1 : Int)) rfl (fun w' hS => by (obtain ⟨S1, S2, S3, S4⟩ := hS; have g1 := cell_of (k := 0) S2 rfl; clear S1 S2 S3 S4; go_simp)) ?_
                    simp only [Act.put, List.setIfInBounds_toArray, List.set_cons_zero, List.set_cons_succ]
                    refine lead_run (.pointer (some ⟨bu, ou + pr.1 * 3, none⟩)) rfl (fun w' hS => by go_simp) ?_
                    simp only [Act.put, List.setIfInBounds_toArray, List.set_cons_zero, List.set_cons_succ]
                    refine lead_run (.pointer (some ⟨bu, ou + pr.1 * 3, none⟩)) rfl (fun w' hS => by go_simp) ?_
                    simp only [Act.put, List.setIfInBounds_toArray, List.set_cons_zero, List.set_cons_succ]
                    refine lead_run (.string na) rfl (fun w' hS => by (obtain ⟨S1, S2, S3, S4⟩ := hS; have g1 := S3; clear S1 S2 S3 S4; go_simp)) ?_
                    simp only [Act.put, List.setIfInBounds_toArray, List.set_cons_zero, List.set_cons_succ]
                    refine lead_run (.slice (some ⟨bu, ou, none⟩) us.length d) rfl (fun w' hS => by go_simp) ?_
                    simp only [Act.put, List.setIfInBounds_toArray, List.set_cons_zero, List.set_cons_succ]
                    refine lead_run (.pointer (some ⟨bx + 1, 1, none⟩)) rfl (fun w' hS => by go_simp) ?_
                    simp only [Act.put, List.setIfInBounds_toArray, List.set_cons_zero, List.set_cons_succ]
                    refine lead_run (.int .i64 (pr.2 : Int)) rfl (fun w' hS => by (obtain ⟨S1, S2, S3, S4⟩ := hS; have g1 := cell_of (k := 1) S2 rfl; clear S1 S2 S3 S4; go_simp)) ?_
                    simp only [Act.put, List.setIfInBounds_toArray, List.set_cons_zero, List.set_cons_succ]
                    refine lead_run (.pointer (some ⟨bu, ou + pr.2 * 3, none⟩)) rfl (fun w' hS => by go_simp) ?_
                    simp only [Act.put, List.setIfInBounds_toArray, List.set_cons_zero, List.set_cons_succ]
                    refine lead_run (.pointer (some ⟨bu, ou + pr.2 * 3, none⟩)) rfl (fun w' hS => by go_simp) ?_
                    simp only [Act.put, List.setIfInBounds_toArray, List.set_cons_zero, List.set_cons_succ]
                    refine lead_run (.string nb) rfl (fun w' hS => by (obtain ⟨S1, S2, S3, S4⟩ := hS; have g1 := S4; clear S1 S2 S3 S4; go_simp)) ?_
                    simp only [Act.put, List.setIfInBounds_toArray, List.set_cons_zero, List.set_cons_succ]
                    refine lead_run (.agg #[.int .i64 x.mt, .string na, .string nb]) rfl (fun w' hS => by go_simp) ?_
                    simp only [Act.put, List.setIfInBounds_toArray, List.set_cons_zero, List.set_cons_succ]
                    refine lead_nil ?_
                    refine mid_cons ?_
                    go_wp2
                    have hgd := grown_alloc_drew wc (.cells #[.int .i64 x.mt, .string na, .string nb] 30) none
                    have hcg : ∀ o v, wc.cell? ⟨bu, o, none⟩ = some v → (wc.alloc (.cells #[.int .i64 x.mt, .string na, .string nb] 30)).drew.cell? ⟨bu, o, none⟩ = some v := fun o v hv => by
                      rw [World.cell?_of_block (w := wc) (a := ⟨bu, o, none⟩) (hgd.block bu hbu3 (by simp))]; exact hv
                    refine ⟨⟨(hgd.block bx hlt1 (by simp)).trans hbx2, (hgd.block _ hlt2 (by simp)).trans hcx2, hcg _ _ n5, hcg _ _ n6⟩, mid_nil ?_⟩
                    have hrow : (wc.alloc (.cells #[.int .i64 x.mt, .string na, .string nb] 30)).drew.ownsRow w10.heap.size 30 3 u25 m (flatAV ((List.range m).map (apJ l us))) := (hown2.alloc _).drew
                    refine wpList_append_own_at _ rfl (.tmp 142) (.tmp 158) 24 rfl w10.heap.size 30 i30 _ 3 40 Try.underlying24 hi30 hz30 hk30 hn30 rfl (by decide) _ _ _ rfl hrow ⟨wc.heap.size, 0, none⟩ 1 1 (apV ⟨x.mt, na, nb⟩) rfl rfl (ap_news wc ⟨x.mt, na, nb⟩) (ap_one ⟨x.mt, na, nb⟩) (by unfold maxLen; omega) (by omega) (by have := hbma2.size; simp; omega) ?_
                    intro ov' w5 hown' hgrow hnil hloc
                    have hb5 : Below w10.heap.size w10 w5 := (hbma2.alloc hbma2.size _).drew.grown hgrow (by have := hbma2.size; simp; omega) (fun k e => (hrow.lt k e).1)
                    have hown5 : w5.ownsRow w10.heap.size 30 3 ov' (m + 1) (flatAV ((List.range (m + 1)).map (apJ l us))) := by
                      rw [List.range_succ, List.map_append, List.map_cons, List.map_nil, flatAV_snoc, hap.out]
                      exact hown'
                    clear hrow hown' hgrow hnil hloc hbma2 hown2 hgd hcg hbx2 hcx2 n5 n6
                    go_wp2
                    refine nk_normal ?_
                    go_wp2
                    go_roundw
                    case rel => exact ⟨m + 1, by omega, by go_num, hb5, hown5⟩
                    case measure => simp [intOf]; omega
                  · obtain rfl : m = l.length := by omega
                    go_wp2
                    refine bodyPost_ret (results_tmp3 rfl _ _ _) rfl ?_
                    exact post_ok hE hfn (own_mono hown hb90.size) (hb90.trans (hbm.mono hb90.size))
  · go_wp2_with (go_at_fn 9; refine hck.mono ?_)
    rintro e w1 ⟨rfl, hw1⟩
    go_wp2
    refine bodyPost_ret (results_tmp3 rfl _ _ _) rfl ?_
    exact post_err hE h0 hw1
end Go.Proofs.Ytcnleglfdnhagaa
