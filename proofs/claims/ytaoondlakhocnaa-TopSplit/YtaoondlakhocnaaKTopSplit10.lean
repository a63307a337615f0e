/-
  Texts of TopSplit, part 11 of 15. Interruptions divided again and again, and joined: what is left, and where the second innings stands, stay. Plain proofs.
-/
import Derived.Test.YtaoondlakhocnaaKTopSplit9
import Derived.Test.YtaoondlakhocnaaKTopSplit8
section
set_option linter.unusedVariables false
set_option linter.unusedSimpArgs false
namespace Go.Proofs.Ytaoondlakhocnaa
open Go Go.Am
/-- A list of interruptions as it stands in a field: as it came in or was made, or nil. -/
def AnyS (x : AV) (l : List Stp) : Prop := x = stopsAV l ∨ (x = nilS ∧ l = [])
theorem AnyS.sl {x : AV} {l : List Stp} (h : AnyS x l) (h0 : 0 < l.length) : x = stopsAV l := by
  rcases h with h | ⟨_, h⟩
  · exact h
  · subst h; simp at h0
theorem AnyS.frz {x : AV} {l : List Stp} (h : AnyS x l) (H : Heap) (b d : Nat) : Go.Am.frz H b (d + 2) x = x := by
  rcases h with rfl | ⟨rfl, _⟩
  · exact frz_stops _ _ _ _
  · rfl
theorem AnyS.cells {x : AV} {l : List Stp} (h : AnyS x l) : cellsOf x = some [x] := by rcases h with rfl | ⟨rfl, _⟩ <;> rfl
theorem AnyS.stor {x : AV} {l : List Stp} (h : AnyS x l) : storable x = true := by rcases h with rfl | ⟨rfl, _⟩ <;> rfl
theorem AnyS.len {x : AV} {l : List Stp} (h : AnyS x l) : lenV (tyOf Try.prog 25) x = some (AV.i (l.length : Nat)) := by
  rcases h with rfl | ⟨rfl, rfl⟩
  · simp only [lenV, ty25, kOf, Option.map_some]
  · simp only [lenV, ty25, kOf, Option.map_some]; rfl
theorem ren_outT (f : Nat → Nat) (d : Nat) (l : List Stp) : ren f (d + 2) (outT l) = outT l := by
  unfold outT
  split
  · rfl
  · exact ren_stops _ _ _
theorem outT_any (w : List Stp) : AnyS (outT w) w := by
  unfold outT
  split
  · rename_i h; exact .inr ⟨rfl, h⟩
  · exact .inl rfl
/-- Divided some times. -/
inductive Dv (l : List Stp) : List Stp → Prop
  | nil : Dv l l
  | step {m : List Stp} (i t : Int) (h : Dv l m) (hz : splE m i t = 0) : Dv l (spl m i.toNat t)
theorem Dv.len {l m : List Stp} (h : Dv l m) : m.length ≤ max l.length 20 := by
  induction h with
  | nil => omega
  | step i t h hz ih =>
    obtain ⟨_, h1, _, _, h4⟩ := split_of hz
    rw [spl_len t h1]; omega
theorem Dv.keeps {rows : Tb} {per balls : Int} {l m : List Stp} (c : Chk rows per balls l) (h : Dv l m) : Chk rows per balls m ∧ leftS rows per balls m = leftS rows per balls l ∧ mostS balls m = mostS balls l ∧ leastS m = leastS l := by
  induction h with
  | nil => exact ⟨c, rfl, rfl, rfl⟩
  | step i t h hz ih =>
    obtain ⟨c1, e1, e2, e3⟩ := ih
    have hl := last_spl (balls := balls) (t := t) (split_of hz).2.1
    exact ⟨spl_chk c1 hz, (spl_left c1 hz).trans e1, hl.1.trans e2, hl.2.trans e3⟩
theorem join_keeps {rows : Tb} {per balls : Int} {l : List Stp} (c : Chk rows per balls l) : leftS rows per balls (jn l l.length) = leftS rows per balls l ∧ mostS balls (jn l l.length) = mostS balls l ∧ leastS (jn l l.length) = leastS l := by
  refine ⟨join_left c, ?_⟩
  have J := (join_inv c l.length (Nat.le_refl _)).sh
  rcases J with ⟨h0, e⟩ | ⟨p, s, e, h0, ha, hw⟩
  · have hl : l = [] := List.length_eq_zero_iff.1 h0
    subst hl
    exact ⟨rfl, rfl⟩
  · unfold mostS leastS
    rw [e, if_pos h0, if_pos h0, if_pos (by simp), if_pos (by simp), show (p ++ [s]).length - 1 = p.length by simp, gt_snoc]
    exact ⟨ha, hw⟩
theorem win_left {rows : Tb} {per tot wth balls k n w : Int} {l l2 m m2 : List Stp} (h1 : leftS rows per balls l2 = leftS rows per balls l) (h2 : leftS rows per balls m2 = leftS rows per balls m) (h3 : mostS balls m2 = mostS balls m) (h4 : leastS m2 = leastS m) :
    winS rows per tot wth balls l2 m2 k n w = winS rows per tot wth balls l m k n w := by
  simp only [winS, pat_left (per := per) (tot := tot) (wth := wth) h1 h2 h3 h4]
/-- Divided at one number: where the first one contains it. -/
def dv1 (l : List Stp) (t : Int) : List Stp := match (List.range l.length).find? (fun (v : Nat) => decide (splE l (v : Int) t = 0)) with | some v => spl l v t | none => l
theorem dv1_hit {l : List Stp} {t : Int} {v : Nat} (hv : v < l.length) (h : ∀ k, k < v → splE l (k : Int) t ≠ 0) (hz : splE l (v : Int) t = 0) : dv1 l t = spl l v t := by
  have e : (List.range l.length).find? (fun (v : Nat) => decide (splE l (v : Int) t = 0)) = some v := by
    rw [List.find?_range_eq_some]
    exact ⟨decide_eq_true hz, List.mem_range.2 hv, fun k hk => by simp [h k hk]⟩
  rw [dv1, e]
theorem dv1_miss {l : List Stp} {t : Int} {v : Nat} (hv : l.length ≤ v) (h : ∀ k, k < v → splE l (k : Int) t ≠ 0) : dv1 l t = l := by
  have e : (List.range l.length).find? (fun (v : Nat) => decide (splE l (v : Int) t = 0)) = none := by
    rw [List.find?_eq_none]
    intro k hk
    have := h k (by have := List.mem_range.1 hk; omega)
    simp [this]
  rw [dv1, e]
theorem dv1_dv {l m : List Stp} (t : Int) (h : Dv l m) : Dv l (dv1 m t) := by
  unfold dv1
  split
  · rename_i v hv
    have hz := List.find?_some hv
    have := Dv.step (v : Int) t h (of_decide_eq_true hz)
    simpa using this
  · exact h
def dvd (l : List Stp) (ns : List Int) : List Stp := ns.foldl dv1 l
theorem dvd_dv (l : List Stp) (ns : List Int) : Dv l (dvd l ns) := by
  have : ∀ (ns : List Int) (m : List Stp), Dv l m → Dv l (ns.foldl dv1 m) := by
    intro ns
    induction ns with
    | nil => exact fun m h => h
    | cons t ns ih => exact fun m h => ih _ (dv1_dv t h)
  exact this ns l .nil
abbrev gi (ns : List Int) (u : Nat) : Int := gt ns u
theorem gi_at {ns : List Int} {u : Nat} (h : u < ns.length) : (ns.map AV.i)[u]? = some (AV.i (gi ns u)) := by
  simp [gt, h]
theorem gi_at1 {ns : List Int} {u : Nat} (h : u < ns.length) : (ns.map AV.i)[u * 1]? = some (AV.i (gi ns u)) := by
  rw [Nat.mul_one]; exact gi_at h
theorem dvd_step {l : List Stp} {ns : List Int} {u : Nat} (h : u < ns.length) : dvd l (ns.take (u + 1)) = dv1 (dvd l (ns.take u)) (gi ns u) := by
  have : ns.take (u + 1) = ns.take u ++ [gi ns u] := by
    rw [List.take_add_one, List.getElem?_eq_getElem h]
    simp [gt, h]
  rw [this, dvd, dvd, List.foldl_append]; rfl
theorem dvd_full {l : List Stp} {ns : List Int} {u : Nat} (h : u ≤ ns.length) (h2 : ns.length ≤ u) : dvd l (ns.take u) = dvd l ns := by
  rw [show u = ns.length by omega, List.take_length]
theorem all_step3 {p : Nat → Prop} {u : Nat} (h : ∀ i, i < u → p i) (hu : p u) : ∀ i, i < u + 1 → p i := fun i hi => by
  by_cases hiu : i = u
  · subst hiu; exact hu
  · exact h i (by omega)
abbrev chC (rows : Tb) (per tot wth balls : Int) (x y : AV) : List AV := [rowsAV rows, AV.i per, AV.i tot, AV.i wth, AV.i balls, x, y]
/-- One of two: the divided, the joined. -/
def ofT {α : Type} (a b : α) (u : Nat) : α := if u = 0 then a else b
theorem ofT_any {x x' : AV} {l l' : List Stp} (h : AnyS x l) (h' : AnyS x' l') (u : Nat) : AnyS (ofT x x' u) (ofT l l' u) := by
  unfold ofT; split <;> assumption
theorem ofT_same {α β : Type} {f : α → β} {a b : α} {c : β} (h : f a = c) (h' : f b = c) (u : Nat) : f (ofT a b u) = c := by
  unfold ofT; split <;> assumption
theorem ch2_at (rows : Tb) (per tot wth balls : Int) (x y x' y' : AV) (u : Nat) (h : u < 2) :
    ((chC rows per tot wth balls x y ++ chC rows per tot wth balls x' y').drop (u * 7)).take 7 = chC rows per tot wth balls (ofT x x' u) (ofT y y' u) := by
  obtain rfl | rfl : u = 0 ∨ u = 1 := by omega
  · rfl
  · rfl
theorem ld_ch2 (rows : Tb) (per tot wth balls : Int) (x y x' y' : AV) (u : Nat) (h : u < 2) :
    partL { size := 7, bytes := 104, agg := true, k := TyK.struct [(0, 24), (1, 3), (2, 3), (3, 3), (4, 2), (5, 25), (6, 25)], zero := some [.slice none 0 0, .int .i64 0, .int .i64 0, .int .i64 0, .int .i64 0, .slice none 0 0, .slice none 0 0] }
      (chC rows per tot wth balls x y ++ chC rows per tot wth balls x' y') (u * 7) = some (.agg (chC rows per tot wth balls (ofT x x' u) (ofT y y' u))) := by
  obtain rfl | rfl : u = 0 ∨ u = 1 := by omega
  · rfl
  · rfl
theorem ch_cells {rows : Tb} {per tot wth balls : Int} {x y : AV} (s1 : storable x = true) (s2 : storable y = true) : cellsOf (.agg (chC rows per tot wth balls x y)) = some (chC rows per tot wth balls x y) := by
  have h : (chC rows per tot wth balls x y).all storable = true := by
    show (true && (true && (true && (true && (true && (storable x && (storable y && true))))))) = true
    rw [s1, s2]; rfl
  show (if (chC rows per tot wth balls x y).all storable = true then some _ else none) = _
  rw [if_pos h]
theorem bs43two (lim : Nat) (H : Heap) (p q : Operand) (ev : Operand → AV) (rows : Tb) (per tot wth balls : Int) (x y x' y' : AV) (h : ev p = .agg (chC rows per tot wth balls x y)) (h2 : ev q = .agg (chC rows per tot wth balls x' y'))
    (s1 : storable x = true) (s2 : storable y = true) (s3 : storable x' = true) (s4 : storable y' = true) :
    effV Try.prog lim (.buildSlice 43 2 #[(0, p), (1, q)]) ev H = some (.own 7 H.length 0 2, H ++ [some (chC rows per tot wth balls x y ++ chC rows per tot wth balls x' y')]) := by
  simp only [effV, tk43, ty34]
  rw [if_pos ⟨rfl, by decide, by decide⟩]
  simp only [List.map_cons, List.map_nil, h, h2]
  simp [fillA, ch_cells s1 s2, ch_cells s3 s4]
end Go.Proofs.Ytaoondlakhocnaa
end
section
set_option linter.unusedSimpArgs false
set_option linter.unusedVariables false
set_option maxHeartbeats 40000000
set_option maxRecDepth 4000
namespace Go.Proofs.Ytaoondlakhocnaa
open Go Go.Am

abbrev lc_same_nil (a b c d e f g h i : AV) : Env := [(0,a),(1,b),(4,c),(5,d),(10,e),(12,f),(13,g),(14,h),(24,i)]
theorem same_nil (lim : Nat) (H : Heap) :
    ACall sig lim 45 [nilS, nilS] H fun r H' => r = .v (.bool true) ∧ H' = H := by
 refine ACall_pure (fa := fa45) rfl rfl rfl rfl ?_
 have tr : ∀ a0 a1 : AV, env0 fa45.keep [a0, a1] = [(0,a0),(1,a1),(4,.any),(5,.any),(10,.any),(12,.any),(13,.any),(14,.any),(24,.any)] := fun a0 a1 => rfl
 refine W_to (tr _ _) ?_; clear tr
 refine at_seq rfl ?_
 refine rg rfl ?_
 refine Rq ?_
 have tr : ∀ a b c d e f g h i j : AV, let l := lc_same_nil a b c d e f g h i; trim ((4,j)::l) l = [(0,a),(1,b),(4,j),(5,d),(10,e),(12,f),(13,g),(14,h),(24,i)] := by intros; rfl
 refine R_nil (tr ..) ?_; clear tr
 refine then_n ?_
 refine at_seq rfl ?_
 refine at_seq rfl ?_
 refine rg rfl ?_
 refine Rq ?_
 refine Rq ?_
 refine Rq ?_
 refine Rq ?_
 refine Rq ?_
 have tr : ∀ a b c d e f g h i j k m n o : AV, let l := lc_same_nil a b c d e f g h i; trim ((10,o)::(9,n)::(8,m)::(7,k)::(6,j)::l) l = [(0,a),(1,b),(4,c),(5,d),(10,o),(12,f),(13,g),(14,h),(24,i)] := by intros; rfl
 refine R_nil (tr ..) ?_; clear tr
 refine then_n ?_
 refine cdd (fun h1 => ?_) (fun h1 => ?_)
 ·
  try simp only [decide_eq_true_eq, decide_eq_false_iff_not, Bool.not_eq_true', Bool.not_eq_false', beq_iff_eq, beq_eq_false_iff_ne, ne_eq] at h1
  first | omega | contradiction | exact absurd rfl (by assumption) | exact absurd trivial (by assumption)
 ·
  try simp only [decide_eq_true_eq, decide_eq_false_iff_not, Bool.not_eq_true', Bool.not_eq_false', beq_iff_eq, beq_eq_false_iff_ne, ne_eq] at h1
  refine at_skip rfl ?_
  refine then_n ?_
  refine at_seq rfl ?_
  refine at_seq rfl ?_
  refine rg rfl ?_
  refine Rq ?_
  refine Rq ?_
  refine Rq ?_
  have tr : ∀ a b c d e f g h i j k m : AV, let l := lc_same_nil a b c d e f g h i; trim ((13,m)::(12,k)::(11,j)::l) l = [(0,a),(1,b),(4,c),(5,d),(10,e),(12,k),(13,m),(14,h),(24,i)] := by intros; rfl
  refine R_nil (tr ..) ?_; clear tr
  refine then_n ?_
  refine at_block rfl ?_
  refine loop_n rfl (fun mm kv H' => ∃ u : Nat, ∃ x4 x5 x14 x24 : AV, (kv = [(4, x4), (5, x5), (13, AV.i u), (14, x14), (24, x24)]) ∧ (mm = 0) ∧ (H' = H) ∧ (u = 0)) ⟨0, _, _, _, _, rfl, rfl, rfl, by rfl⟩ (by rfl) ?_
  rintro mm kv H' ⟨u, x4, x5, x14, x24, rfl, rfl, rfl, hu⟩
  have tr : ∀ a b c d e f g h i j k m n o : AV, upd [(0,a),(1,b),(4,c),(5,d),(10,e),(12,f),(13,g),(14,h),(24,i)] [(4,j),(5,k),(13,m),(14,n),(24,o)] = [(0,a),(1,b),(4,j),(5,k),(10,e),(12,f),(13,m),(14,n),(24,o)] := by intros; rfl
  refine W_to (tr ..) ?_; clear tr
  refine at_seq rfl ?_
  refine rg rfl ?_
  refine Rq ?_
  have tr : ∀ a b c d e f g h i j : AV, let l := lc_same_nil a b c d e f g h i; trim ((14,j)::l) l = [(0,a),(1,b),(4,c),(5,d),(10,e),(12,f),(13,g),(14,j),(24,i)] := by intros; rfl
  refine R_nil (tr ..) ?_; clear tr
  refine then_n ?_
  refine at_seq rfl ?_
  refine cdd (fun h2 => ?_) (fun h2 => ?_)
  ·
   try simp only [decide_eq_true_eq, decide_eq_false_iff_not, Bool.not_eq_true', Bool.not_eq_false', beq_iff_eq, beq_eq_false_iff_ne, ne_eq] at h2
   exfalso; omega
  ·
   try simp only [decide_eq_true_eq, decide_eq_false_iff_not, Bool.not_eq_true', Bool.not_eq_false', beq_iff_eq, beq_eq_false_iff_ne, ne_eq] at h2
   refine at_exit rfl ?_
   refine then_x ?_
   refine then_x ?_
   refine blk_x ?_
   refine then_n ?_
   refine at_seq rfl ?_
   refine rg rfl ?_
   refine Rq ?_
   have tr : ∀ a b c d e f g h i j : AV, let l := lc_same_nil a b c d e f g h i; trim ((4,j)::l) l = [(0,a),(1,b),(4,j),(5,d),(10,e),(12,f),(13,g),(14,h),(24,i)] := by intros; rfl
   refine R_nil (tr ..) ?_; clear tr
   refine then_n ?_
   refine at_ret rfl ?_
   refine fpure ?_
   refine ⟨?_, rfl⟩
   rfl

abbrev lc_chk_nil (a b c d e f g h i j k m n o p q r s t : AV) : Env := [(0,a),(1,b),(2,c),(3,d),(4,e),(8,f),(9,g),(10,h),(11,i),(15,j),(34,k),(37,m),(38,n),(39,o),(40,p),(41,q),(45,r),(67,s),(73,t)]
theorem chk_nil (lim : Nat) (H : Heap) (rows : Tb) (per balls : Int) :
    ACall sig lim 38 [.agg [rowsAV rows], AV.i per, AV.i balls, nilS] H fun r H' => r = AV.i (chkS rows per balls []) ∧ H' = H := by
 refine ACall_pure (fa := fa38) rfl rfl rfl rfl ?_
 have tr : ∀ a0 a1 a2 a3 : AV, env0 fa38.keep [a0, a1, a2, a3] = [(0,a0),(1,a1),(2,a2),(3,a3),(4,.any),(8,.any),(9,.any),(10,.any),(11,.any),(15,.any),(34,.any),(37,.any),(38,.any),(39,.any),(40,.any),(41,.any),(45,.any),(67,.any),(73,.any)] := fun a0 a1 a2 a3 => rfl
 refine W_to (tr _ _ _ _) ?_; clear tr
 refine at_seq rfl ?_
 refine rg rfl ?_
 refine R_box rfl (by simp (disch := first | omega | (simp only [List.length_map, List.length_append, List.length_set, List.length_cons, List.length_nil]; omega)) only [go_sem, ↓reduceIte, Nat.reduceEqDiff, reduceCtorEq] <;> rfl) rfl rfl ?_
 refine Rq ?_
 have tr : ∀ a b c d e f g h i j k m n o p q r s t u v : AV, let l := lc_chk_nil a b c d e f g h i j k m n o p q r s t; trim ((8,v)::(4,u)::l) l = [(0,a),(1,b),(2,c),(3,d),(4,u),(8,v),(9,g),(10,h),(11,i),(15,j),(34,k),(37,m),(38,n),(39,o),(40,p),(41,q),(45,r),(67,s),(73,t)] := by intros; rfl
 refine R_nil (tr ..) ?_; clear tr
 refine then_n ?_
 refine at_seq rfl ?_
 refine at_seq rfl ?_
 refine rg rfl ?_
 refine Rq ?_
 refine Rcall ?_
 refine ACall_eq (check_ok _ _ _) ?_
 refine Rq ?_
 have tr : ∀ a b c d e f g h i j k m n o p q r s t u v w : AV, let l := lc_chk_nil a b c d e f g h i j k m n o p q r s t; trim ((9,w)::(13,v)::(12,u)::l) l = [(0,a),(1,b),(2,c),(3,d),(4,e),(8,f),(9,w),(10,h),(11,i),(15,j),(34,k),(37,m),(38,n),(39,o),(40,p),(41,q),(45,r),(67,s),(73,t)] := by intros; rfl
 refine R_nil (tr ..) ?_; clear tr
 refine then_n ?_
 refine at_seq rfl ?_
 refine rg rfl ?_
 refine Rq ?_
 refine Rq ?_
 have tr : ∀ a b c d e f g h i j k m n o p q r s t u v : AV, let l := lc_chk_nil a b c d e f g h i j k m n o p q r s t; trim ((15,v)::(14,u)::l) l = [(0,a),(1,b),(2,c),(3,d),(4,e),(8,f),(9,g),(10,h),(11,i),(15,v),(34,k),(37,m),(38,n),(39,o),(40,p),(41,q),(45,r),(67,s),(73,t)] := by intros; rfl
 refine R_nil (tr ..) ?_; clear tr
 refine then_n ?_
 refine cdd (fun h1 => ?_) (fun h1 => ?_)
 ·
  try simp only [decide_eq_true_eq, decide_eq_false_iff_not, Bool.not_eq_true', Bool.not_eq_false', beq_iff_eq, beq_eq_false_iff_ne, ne_eq] at h1
  refine at_seq rfl ?_
  refine rg rfl ?_
  refine Rq ?_
  refine Rq ?_
  have tr : ∀ a b c d e f g h i j k m n o p q r s t u v : AV, let l := lc_chk_nil a b c d e f g h i j k m n o p q r s t; trim ((8,v)::(16,u)::l) l = [(0,a),(1,b),(2,c),(3,d),(4,e),(8,v),(9,g),(10,h),(11,i),(15,j),(34,k),(37,m),(38,n),(39,o),(40,p),(41,q),(45,r),(67,s),(73,t)] := by intros; rfl
  refine R_nil (tr ..) ?_; clear tr
  refine then_n ?_
  refine at_ret rfl ?_
  refine then_r ?_
  refine fpure ?_
  refine ⟨?_, rfl⟩
  rw [chkS, if_pos (by assumption)]
 ·
  try simp only [decide_eq_true_eq, decide_eq_false_iff_not, Bool.not_eq_true', Bool.not_eq_false', beq_iff_eq, beq_eq_false_iff_ne, ne_eq] at h1
  refine at_skip rfl ?_
  refine then_n ?_
  refine at_seq rfl ?_
  refine at_seq rfl ?_
  refine rg rfl ?_
  refine Rq ?_
  refine Rq ?_
  refine Rq ?_
  refine Rp_split (fun h2 => ?_) (fun h2 => ?_)
  ·
   try simp only [decide_eq_true_eq, decide_eq_false_iff_not, Bool.not_eq_true', Bool.not_eq_false', beq_iff_eq, beq_eq_false_iff_ne, ne_eq] at h2
   refine Rn ?_
   refine Rn ?_
   refine Rq ?_
   refine Rq ?_
   refine Rn ?_
   refine Rn ?_
   refine Rq ?_
   refine Rq ?_
   refine Rn ?_
   refine Rn ?_
   refine Rn ?_
   refine Rn ?_
   refine Rn ?_
   refine Rn ?_
   refine Rq ?_
   have tr : ∀ a b c d e f g h i j k m n o p q r s t u v w x y z A B C D E F G H I J K L : AV, let l := lc_chk_nil a b c d e f g h i j k m n o p q r s t; trim ((34,L)::(33,K)::(32,J)::(31,I)::(30,H)::(29,G)::(28,F)::(27,E)::(26,D)::(25,C)::(24,B)::(23,A)::(22,z)::(21,y)::(20,x)::(19,w)::(18,v)::(17,u)::l) l = [(0,a),(1,b),(2,c),(3,d),(4,e),(8,f),(9,g),(10,h),(11,i),(15,j),(34,L),(37,m),(38,n),(39,o),(40,p),(41,q),(45,r),(67,s),(73,t)] := by intros; rfl
   refine R_nil (tr ..) ?_; clear tr
   refine then_n ?_
   refine cdt ?_
   refine at_seq rfl ?_
   refine rg rfl ?_
   refine Rq ?_
   have tr : ∀ a b c d e f g h i j k m n o p q r s t u : AV, let l := lc_chk_nil a b c d e f g h i j k m n o p q r s t; trim ((8,u)::l) l = [(0,a),(1,b),(2,c),(3,d),(4,e),(8,u),(9,g),(10,h),(11,i),(15,j),(34,k),(37,m),(38,n),(39,o),(40,p),(41,q),(45,r),(67,s),(73,t)] := by intros; rfl
   refine R_nil (tr ..) ?_; clear tr
   refine then_n ?_
   refine at_ret rfl ?_
   refine then_r ?_
   refine fpure ?_
   refine ⟨?_, rfl⟩
   rw [chkS, if_neg (by omega), if_pos (by unfold chkBad; omega)]
  ·
   try simp only [decide_eq_true_eq, decide_eq_false_iff_not, Bool.not_eq_true', Bool.not_eq_false', beq_iff_eq, beq_eq_false_iff_ne, ne_eq] at h2
   refine Ry ?_
   refine Rq ?_
   refine Ry ?_
   refine Rq ?_
   refine Rq ?_
   refine Rq ?_
   refine Rp_split (fun h3 => ?_) (fun h3 => ?_)
   ·
    try simp only [decide_eq_true_eq, decide_eq_false_iff_not, Bool.not_eq_true', Bool.not_eq_false', beq_iff_eq, beq_eq_false_iff_ne, ne_eq] at h3
    refine Rn ?_
    refine Rn ?_
    refine Rq ?_
    refine Rq ?_
    refine Rn ?_
    refine Rn ?_
    refine Rn ?_
    refine Rn ?_
    refine Rn ?_
    refine Rn ?_
    refine Rq ?_
    have tr : ∀ a b c d e f g h i j k m n o p q r s t u v w x y z A B C D E F G H I J K L : AV, let l := lc_chk_nil a b c d e f g h i j k m n o p q r s t; trim ((34,L)::(33,K)::(32,J)::(31,I)::(30,H)::(29,G)::(28,F)::(27,E)::(26,D)::(25,C)::(24,B)::(23,A)::(22,z)::(21,y)::(20,x)::(19,w)::(18,v)::(17,u)::l) l = [(0,a),(1,b),(2,c),(3,d),(4,e),(8,f),(9,g),(10,h),(11,i),(15,j),(34,L),(37,m),(38,n),(39,o),(40,p),(41,q),(45,r),(67,s),(73,t)] := by intros; rfl
    refine R_nil (tr ..) ?_; clear tr
    refine then_n ?_
    refine cdt ?_
    refine at_seq rfl ?_
    refine rg rfl ?_
    refine Rq ?_
    have tr : ∀ a b c d e f g h i j k m n o p q r s t u : AV, let l := lc_chk_nil a b c d e f g h i j k m n o p q r s t; trim ((8,u)::l) l = [(0,a),(1,b),(2,c),(3,d),(4,e),(8,u),(9,g),(10,h),(11,i),(15,j),(34,k),(37,m),(38,n),(39,o),(40,p),(41,q),(45,r),(67,s),(73,t)] := by intros; rfl
    refine R_nil (tr ..) ?_; clear tr
    refine then_n ?_
    refine at_ret rfl ?_
    refine then_r ?_
    refine fpure ?_
    refine ⟨?_, rfl⟩
    rw [chkS, if_neg (by omega), if_pos (by unfold chkBad; omega)]
   ·
    try simp only [decide_eq_true_eq, decide_eq_false_iff_not, Bool.not_eq_true', Bool.not_eq_false', beq_iff_eq, beq_eq_false_iff_ne, ne_eq] at h3
    refine Ry ?_
    refine Rq ?_
    refine Ry ?_
    refine Rq ?_
    refine Rq ?_
    refine Rq ?_
    refine Rp_split (fun h4 => ?_) (fun h4 => ?_)
    ·
     try simp only [decide_eq_true_eq, decide_eq_false_iff_not, Bool.not_eq_true', Bool.not_eq_false', beq_iff_eq, beq_eq_false_iff_ne, ne_eq] at h4
     refine Rn ?_
     refine Rn ?_
     refine Rn ?_
     refine Rn ?_
     refine Rn ?_
     refine Rn ?_
     refine Rq ?_
     have tr : ∀ a b c d e f g h i j k m n o p q r s t u v w x y z A B C D E F G H I J K L : AV, let l := lc_chk_nil a b c d e f g h i j k m n o p q r s t; trim ((34,L)::(33,K)::(32,J)::(31,I)::(30,H)::(29,G)::(28,F)::(27,E)::(26,D)::(25,C)::(24,B)::(23,A)::(22,z)::(21,y)::(20,x)::(19,w)::(18,v)::(17,u)::l) l = [(0,a),(1,b),(2,c),(3,d),(4,e),(8,f),(9,g),(10,h),(11,i),(15,j),(34,L),(37,m),(38,n),(39,o),(40,p),(41,q),(45,r),(67,s),(73,t)] := by intros; rfl
     refine R_nil (tr ..) ?_; clear tr
     refine then_n ?_
     refine cdt ?_
     refine at_seq rfl ?_
     refine rg rfl ?_
     refine Rq ?_
     have tr : ∀ a b c d e f g h i j k m n o p q r s t u : AV, let l := lc_chk_nil a b c d e f g h i j k m n o p q r s t; trim ((8,u)::l) l = [(0,a),(1,b),(2,c),(3,d),(4,e),(8,u),(9,g),(10,h),(11,i),(15,j),(34,k),(37,m),(38,n),(39,o),(40,p),(41,q),(45,r),(67,s),(73,t)] := by intros; rfl
     refine R_nil (tr ..) ?_; clear tr
     refine then_n ?_
     refine at_ret rfl ?_
     refine then_r ?_
     refine fpure ?_
     refine ⟨?_, rfl⟩
     rw [chkS, if_neg (by omega), if_pos (by unfold chkBad; omega)]
    ·
     try simp only [decide_eq_true_eq, decide_eq_false_iff_not, Bool.not_eq_true', Bool.not_eq_false', beq_iff_eq, beq_eq_false_iff_ne, ne_eq] at h4
     refine Ry ?_
     refine Rq ?_
     refine Ry ?_
     refine Rq ?_
     refine Ry ?_
     refine Rcall ?_
     have s := check_shaped (by assumption : checkS rows = 0)
     have g2 := s.two
     have g91 := s.most
     refine ACall_eq (overs_ok _ _ rows g91 g2) ?_
     have hpm := mul_box (a := (rows.length : Int) - 1) (b := per) (A := 90) (B := 8) (by omega) (by omega) (by omega) (by omega)
     refine Ry ?_
     refine Rq ?_
     refine Ry ?_
     refine Rq ?_
     refine Ry ?_
     refine Rq ?_
     refine Rq ?_
     have tr : ∀ a b c d e f g h i j k m n o p q r s t u v w x y z A B C D E F G H I J K L : AV, let l := lc_chk_nil a b c d e f g h i j k m n o p q r s t; trim ((34,L)::(33,K)::(32,J)::(31,I)::(30,H)::(29,G)::(28,F)::(27,E)::(26,D)::(25,C)::(24,B)::(23,A)::(22,z)::(21,y)::(20,x)::(19,w)::(18,v)::(17,u)::l) l = [(0,a),(1,b),(2,c),(3,d),(4,e),(8,f),(9,g),(10,h),(11,i),(15,j),(34,L),(37,m),(38,n),(39,o),(40,p),(41,q),(45,r),(67,s),(73,t)] := by intros; rfl
     refine R_nil (tr ..) ?_; clear tr
     refine then_n ?_
     refine cdd (fun h5 => ?_) (fun h5 => ?_)
     ·
      try simp only [decide_eq_true_eq, decide_eq_false_iff_not, Bool.not_eq_true', Bool.not_eq_false', beq_iff_eq, beq_eq_false_iff_ne, ne_eq] at h5
      refine at_seq rfl ?_
      refine rg rfl ?_
      refine Rq ?_
      have tr : ∀ a b c d e f g h i j k m n o p q r s t u : AV, let l := lc_chk_nil a b c d e f g h i j k m n o p q r s t; trim ((8,u)::l) l = [(0,a),(1,b),(2,c),(3,d),(4,e),(8,u),(9,g),(10,h),(11,i),(15,j),(34,k),(37,m),(38,n),(39,o),(40,p),(41,q),(45,r),(67,s),(73,t)] := by intros; rfl
      refine R_nil (tr ..) ?_; clear tr
      refine then_n ?_
      refine at_ret rfl ?_
      refine then_r ?_
      refine fpure ?_
      refine ⟨?_, rfl⟩
      rw [chkS, if_neg (by omega), if_pos (by unfold chkBad; omega)]
     ·
      try simp only [decide_eq_true_eq, decide_eq_false_iff_not, Bool.not_eq_true', Bool.not_eq_false', beq_iff_eq, beq_eq_false_iff_ne, ne_eq] at h5
      refine at_skip rfl ?_
      refine then_n ?_
      refine at_seq rfl ?_
      refine at_seq rfl ?_
      refine rg rfl ?_
      refine Rq ?_
      refine Rq ?_
      refine Rq ?_
      have tr : ∀ a b c d e f g h i j k m n o p q r s t u v w : AV, let l := lc_chk_nil a b c d e f g h i j k m n o p q r s t; trim ((37,w)::(36,v)::(35,u)::l) l = [(0,a),(1,b),(2,c),(3,d),(4,e),(8,f),(9,g),(10,h),(11,i),(15,j),(34,k),(37,w),(38,n),(39,o),(40,p),(41,q),(45,r),(67,s),(73,t)] := by intros; rfl
      refine R_nil (tr ..) ?_; clear tr
      refine then_n ?_
      refine cdd (fun h6 => ?_) (fun h6 => ?_)
      ·
       try simp only [decide_eq_true_eq, decide_eq_false_iff_not, Bool.not_eq_true', Bool.not_eq_false', beq_iff_eq, beq_eq_false_iff_ne, ne_eq] at h6
       refine at_seq rfl ?_
       refine rg rfl ?_
       refine Rq ?_
       have tr : ∀ a b c d e f g h i j k m n o p q r s t u : AV, let l := lc_chk_nil a b c d e f g h i j k m n o p q r s t; trim ((8,u)::l) l = [(0,a),(1,b),(2,c),(3,d),(4,e),(8,u),(9,g),(10,h),(11,i),(15,j),(34,k),(37,m),(38,n),(39,o),(40,p),(41,q),(45,r),(67,s),(73,t)] := by intros; rfl
       refine R_nil (tr ..) ?_; clear tr
       refine then_n ?_
       refine at_ret rfl ?_
       refine then_r ?_
       exfalso; omega
      ·
       try simp only [decide_eq_true_eq, decide_eq_false_iff_not, Bool.not_eq_true', Bool.not_eq_false', beq_iff_eq, beq_eq_false_iff_ne, ne_eq] at h6
       refine at_skip rfl ?_
       refine then_n ?_
       refine at_seq rfl ?_
       refine at_seq rfl ?_
       refine rg rfl ?_
       refine Rq ?_
       refine Rq ?_
       refine Rq ?_
       have tr : ∀ a b c d e f g h i j k m n o p q r s t u v w : AV, let l := lc_chk_nil a b c d e f g h i j k m n o p q r s t; trim ((40,w)::(39,v)::(38,u)::l) l = [(0,a),(1,b),(2,c),(3,d),(4,e),(8,f),(9,g),(10,h),(11,i),(15,j),(34,k),(37,m),(38,u),(39,v),(40,w),(41,q),(45,r),(67,s),(73,t)] := by intros; rfl
       refine R_nil (tr ..) ?_; clear tr
       refine then_n ?_
       refine at_block rfl ?_
       refine loop_n rfl (fun mm kv H' => ∃ u : Nat, ∃ x8 x10 x11 x41 x45 x67 x73 : AV, (kv = [(8, x8), (10, x10), (11, x11), (40, AV.i u), (41, x41), (45, x45), (67, x67), (73, x73)]) ∧ (mm = 0) ∧ (H' = H ++ [some [rowsAV rows]]) ∧ (u = 0)) ⟨0, _, _, _, _, _, _, _, rfl, rfl, rfl, by rfl⟩ (by rfl) ?_
       rintro mm kv H' ⟨u, x8, x10, x11, x41, x45, x67, x73, rfl, rfl, rfl, hu⟩
       have tr : ∀ a b c d e f g h i j k m n o p q r s t u v w x y z A B : AV, upd [(0,a),(1,b),(2,c),(3,d),(4,e),(8,f),(9,g),(10,h),(11,i),(15,j),(34,k),(37,m),(38,n),(39,o),(40,p),(41,q),(45,r),(67,s),(73,t)] [(8,u),(10,v),(11,w),(40,x),(41,y),(45,z),(67,A),(73,B)] = [(0,a),(1,b),(2,c),(3,d),(4,e),(8,u),(9,g),(10,v),(11,w),(15,j),(34,k),(37,m),(38,n),(39,o),(40,x),(41,y),(45,z),(67,A),(73,B)] := by intros; rfl
       refine W_to (tr ..) ?_; clear tr
       refine at_seq rfl ?_
       refine rg rfl ?_
       refine Rq ?_
       have tr : ∀ a b c d e f g h i j k m n o p q r s t u : AV, let l := lc_chk_nil a b c d e f g h i j k m n o p q r s t; trim ((41,u)::l) l = [(0,a),(1,b),(2,c),(3,d),(4,e),(8,f),(9,g),(10,h),(11,i),(15,j),(34,k),(37,m),(38,n),(39,o),(40,p),(41,u),(45,r),(67,s),(73,t)] := by intros; rfl
       refine R_nil (tr ..) ?_; clear tr
       refine then_n ?_
       refine at_seq rfl ?_
       refine cdd (fun h7 => ?_) (fun h7 => ?_)
       ·
        try simp only [decide_eq_true_eq, decide_eq_false_iff_not, Bool.not_eq_true', Bool.not_eq_false', beq_iff_eq, beq_eq_false_iff_ne, ne_eq] at h7
        exfalso; omega
       ·
        try simp only [decide_eq_true_eq, decide_eq_false_iff_not, Bool.not_eq_true', Bool.not_eq_false', beq_iff_eq, beq_eq_false_iff_ne, ne_eq] at h7
        refine at_exit rfl ?_
        refine then_x ?_
        refine then_x ?_
        refine blk_x ?_
        refine then_n ?_
        refine at_seq rfl ?_
        refine rg rfl ?_
        refine Rq ?_
        have tr : ∀ a b c d e f g h i j k m n o p q r s t u : AV, let l := lc_chk_nil a b c d e f g h i j k m n o p q r s t; trim ((8,u)::l) l = [(0,a),(1,b),(2,c),(3,d),(4,e),(8,u),(9,g),(10,h),(11,i),(15,j),(34,k),(37,m),(38,n),(39,o),(40,p),(41,q),(45,r),(67,s),(73,t)] := by intros; rfl
        refine R_nil (tr ..) ?_; clear tr
        refine then_n ?_
        refine at_ret rfl ?_
        refine fpure ?_
        refine ⟨?_, rfl⟩
        rw [chkS, if_neg (by omega), if_neg (by unfold chkBad; omega), if_neg (by simp)]
        rfl

abbrev lc_left_nil (a b c d e f g h i j k m n o p q r s t u : AV) : Env := [(0,a),(1,b),(2,c),(3,d),(4,e),(8,f),(9,g),(10,h),(11,i),(12,j),(14,k),(15,m),(16,n),(23,o),(33,p),(35,q),(36,r),(37,s),(38,t),(49,u)]
theorem left_nil (lim : Nat) (H : Heap) (rows : Tb) (per balls : Int) :
    ACall sig lim 36 [.agg [rowsAV rows], AV.i per, AV.i balls, nilS] H fun r H' => r = .tup [AV.i (leftS rows per balls []).1, AV.i (leftS rows per balls []).2] ∧ H' = H := by
 have hargs : [AV.agg [rowsAV rows], AV.i per, AV.i balls, nilS].map (frz H 0 8) = [.agg [rowsAV rows], AV.i per, AV.i balls, nilS] := by
   show [AV.agg [frz H 0 7 (rowsAV rows)], AV.i per, AV.i balls, nilS] = _
   rw [frz_rows]
 refine ACall_data (fa := fa36) rfl rfl rfl rfl hargs ?_
 have tr : ∀ a0 a1 a2 a3 : AV, env0 fa36.keep [a0, a1, a2, a3] = [(0,a0),(1,a1),(2,a2),(3,a3),(4,.any),(8,.any),(9,.any),(10,.any),(11,.any),(12,.any),(14,.any),(15,.any),(16,.any),(23,.any),(33,.any),(35,.any),(36,.any),(37,.any),(38,.any),(49,.any)] := fun a0 a1 a2 a3 => rfl
 refine W_to (tr _ _ _ _) ?_; clear tr
 refine at_seq rfl ?_
 refine rg rfl ?_
 refine R_box rfl (by simp (disch := first | omega | (simp only [List.length_map, List.length_append, List.length_set, List.length_cons, List.length_nil]; omega)) only [go_sem, ↓reduceIte, Nat.reduceEqDiff, reduceCtorEq] <;> rfl) rfl rfl ?_
 refine Rq ?_
 refine Rq ?_
 have tr : ∀ a b c d e f g h i j k m n o p q r s t u v w x : AV, let l := lc_left_nil a b c d e f g h i j k m n o p q r s t u; trim ((9,x)::(8,w)::(4,v)::l) l = [(0,a),(1,b),(2,c),(3,d),(4,v),(8,w),(9,x),(10,h),(11,i),(12,j),(14,k),(15,m),(16,n),(23,o),(33,p),(35,q),(36,r),(37,s),(38,t),(49,u)] := by intros; rfl
 refine R_nil (tr ..) ?_; clear tr
 refine then_n ?_
 refine at_seq rfl ?_
 refine at_seq rfl ?_
 refine rg rfl ?_
 refine Rq ?_
 refine Rq ?_
 refine Rq ?_
 refine Rq ?_
 refine Rcall ?_
 refine ACall_eq (chk_nil _ _ rows per balls) ?_
 refine Rq ?_
 have tr : ∀ a b c d e f g h i j k m n o p q r s t u v w x y z A : AV, let l := lc_left_nil a b c d e f g h i j k m n o p q r s t u; trim ((10,A)::(21,z)::(20,y)::(19,x)::(18,w)::(17,v)::l) l = [(0,a),(1,b),(2,c),(3,d),(4,e),(8,f),(9,g),(10,A),(11,i),(12,j),(14,k),(15,m),(16,n),(23,o),(33,p),(35,q),(36,r),(37,s),(38,t),(49,u)] := by intros; rfl
 refine R_nil (tr ..) ?_; clear tr
 refine then_n ?_
 refine at_seq rfl ?_
 refine rg rfl ?_
 refine Rq ?_
 refine Rq ?_
 have tr : ∀ a b c d e f g h i j k m n o p q r s t u v w : AV, let l := lc_left_nil a b c d e f g h i j k m n o p q r s t u; trim ((23,w)::(22,v)::l) l = [(0,a),(1,b),(2,c),(3,d),(4,e),(8,f),(9,g),(10,h),(11,i),(12,j),(14,k),(15,m),(16,n),(23,w),(33,p),(35,q),(36,r),(37,s),(38,t),(49,u)] := by intros; rfl
 refine R_nil (tr ..) ?_; clear tr
 refine then_n ?_
 refine cdd (fun h1 => ?_) (fun h1 => ?_)
 ·
  try simp only [decide_eq_true_eq, decide_eq_false_iff_not, Bool.not_eq_true', Bool.not_eq_false', beq_iff_eq, beq_eq_false_iff_ne, ne_eq] at h1
  refine at_seq rfl ?_
  refine rg rfl ?_
  refine Rq ?_
  refine Rq ?_
  refine Rq ?_
  have tr : ∀ a b c d e f g h i j k m n o p q r s t u v w x : AV, let l := lc_left_nil a b c d e f g h i j k m n o p q r s t u; trim ((9,x)::(8,w)::(24,v)::l) l = [(0,a),(1,b),(2,c),(3,d),(4,e),(8,w),(9,x),(10,h),(11,i),(12,j),(14,k),(15,m),(16,n),(23,o),(33,p),(35,q),(36,r),(37,s),(38,t),(49,u)] := by intros; rfl
  refine R_nil (tr ..) ?_; clear tr
  refine then_n ?_
  refine at_ret rfl ?_
  refine then_r ?_
  refine fpure ?_
  refine ⟨rfl, ?_, rfl⟩
  rw [leftS, if_pos (by assumption)]
 ·
  try simp only [decide_eq_true_eq, decide_eq_false_iff_not, Bool.not_eq_true', Bool.not_eq_false', beq_iff_eq, beq_eq_false_iff_ne, ne_eq] at h1
  refine at_skip rfl ?_
  refine then_n ?_
  refine at_seq rfl ?_
  refine rg rfl ?_
  have hk : chkS rows per balls [] = 0 := by assumption
  have c := chk_of hk
  have hat0 := c.at0
  have hatr := at_range (rows := rows) (per := per) (balls := balls) (w := 0)
  refine Rq ?_
  refine Rq ?_
  refine Rq ?_
  refine Rcall ?_
  refine ACall_eq (at_ok _ _ rows per balls 0) ?_
  refine Rq ?_
  refine Rq ?_
  refine Rq ?_
  refine Rq ?_
  refine Rq ?_
  have tr : ∀ a b c d e f g h i j k m n o p q r s t u v w x y z A B C D : AV, let l := lc_left_nil a b c d e f g h i j k m n o p q r s t u; trim ((12,D)::(11,C)::(31,B)::(30,A)::(25,z)::(29,y)::(28,x)::(27,w)::(26,v)::l) l = [(0,a),(1,b),(2,c),(3,d),(4,e),(8,f),(9,g),(10,h),(11,C),(12,D),(14,k),(15,m),(16,n),(23,o),(33,p),(35,q),(36,r),(37,s),(38,t),(49,u)] := by intros; rfl
  refine R_nil (tr ..) ?_; clear tr
  refine then_n ?_
  refine at_seq rfl ?_
  refine at_seq rfl ?_
  refine rg rfl ?_
  refine Rq ?_
  refine Rq ?_
  have tr : ∀ a b c d e f g h i j k m n o p q r s t u v w : AV, let l := lc_left_nil a b c d e f g h i j k m n o p q r s t u; trim ((33,w)::(32,v)::l) l = [(0,a),(1,b),(2,c),(3,d),(4,e),(8,f),(9,g),(10,h),(11,i),(12,j),(14,k),(15,m),(16,n),(23,o),(33,w),(35,q),(36,r),(37,s),(38,t),(49,u)] := by intros; rfl
  refine R_nil (tr ..) ?_; clear tr
  refine then_n ?_
  refine cdd (fun h2 => ?_) (fun h2 => ?_)
  ·
   try simp only [decide_eq_true_eq, decide_eq_false_iff_not, Bool.not_eq_true', Bool.not_eq_false', beq_iff_eq, beq_eq_false_iff_ne, ne_eq] at h2
   refine at_seq rfl ?_
   refine rg rfl ?_
   refine Rq ?_
   refine Rq ?_
   refine Rq ?_
   have tr : ∀ a b c d e f g h i j k m n o p q r s t u v w x : AV, let l := lc_left_nil a b c d e f g h i j k m n o p q r s t u; trim ((9,x)::(8,w)::(34,v)::l) l = [(0,a),(1,b),(2,c),(3,d),(4,e),(8,w),(9,x),(10,h),(11,i),(12,j),(14,k),(15,m),(16,n),(23,o),(33,p),(35,q),(36,r),(37,s),(38,t),(49,u)] := by intros; rfl
   refine R_nil (tr ..) ?_; clear tr
   refine then_n ?_
   refine at_ret rfl ?_
   refine then_r ?_
   exfalso; omega
  ·
   try simp only [decide_eq_true_eq, decide_eq_false_iff_not, Bool.not_eq_true', Bool.not_eq_false', beq_iff_eq, beq_eq_false_iff_ne, ne_eq] at h2
   refine at_skip rfl ?_
   refine then_n ?_
   refine at_seq rfl ?_
   refine at_seq rfl ?_
   refine rg rfl ?_
   refine Rq ?_
   refine Rq ?_
   refine Rq ?_
   have tr : ∀ a b c d e f g h i j k m n o p q r s t u v w x : AV, let l := lc_left_nil a b c d e f g h i j k m n o p q r s t u; trim ((37,x)::(36,w)::(35,v)::l) l = [(0,a),(1,b),(2,c),(3,d),(4,e),(8,f),(9,g),(10,h),(11,i),(12,j),(14,k),(15,m),(16,n),(23,o),(33,p),(35,v),(36,w),(37,x),(38,t),(49,u)] := by intros; rfl
   refine R_nil (tr ..) ?_; clear tr
   refine then_n ?_
   refine at_block rfl ?_
   refine loop_n rfl (fun mm kv H' => ∃ u : Nat, ∃ n : Int, ∃ x8 x9 x14 x15 x16 x38 x49 : AV, (kv = [(8, x8), (9, x9), (11, AV.i n), (14, x14), (15, x15), (16, x16), (37, AV.i u), (38, x38), (49, x49)]) ∧ (mm = 0) ∧ (H' = [] ++ [some [rowsAV rows]]) ∧ (u = 0) ∧ (n = (atS rows per balls 0).1)) ⟨0, (atS rows per balls 0).1, _, _, _, _, _, _, _, rfl, rfl, rfl, by rfl, by rfl⟩ (by rfl) ?_
   rintro mm kv H' ⟨u, n, x8, x9, x14, x15, x16, x38, x49, rfl, rfl, rfl, hu, hn⟩
   have tr : ∀ a b c d e f g h i j k m n o p q r s t u v w x y z A B C D : AV, upd [(0,a),(1,b),(2,c),(3,d),(4,e),(8,f),(9,g),(10,h),(11,i),(12,j),(14,k),(15,m),(16,n),(23,o),(33,p),(35,q),(36,r),(37,s),(38,t),(49,u)] [(8,v),(9,w),(11,x),(14,y),(15,z),(16,A),(37,B),(38,C),(49,D)] = [(0,a),(1,b),(2,c),(3,d),(4,e),(8,v),(9,w),(10,h),(11,x),(12,j),(14,y),(15,z),(16,A),(23,o),(33,p),(35,q),(36,r),(37,B),(38,C),(49,D)] := by intros; rfl
   refine W_to (tr ..) ?_; clear tr
   refine at_seq rfl ?_
   refine rg rfl ?_
   refine Rq ?_
   have tr : ∀ a b c d e f g h i j k m n o p q r s t u v : AV, let l := lc_left_nil a b c d e f g h i j k m n o p q r s t u; trim ((38,v)::l) l = [(0,a),(1,b),(2,c),(3,d),(4,e),(8,f),(9,g),(10,h),(11,i),(12,j),(14,k),(15,m),(16,n),(23,o),(33,p),(35,q),(36,r),(37,s),(38,v),(49,u)] := by intros; rfl
   refine R_nil (tr ..) ?_; clear tr
   refine then_n ?_
   refine at_seq rfl ?_
   refine cdd (fun h3 => ?_) (fun h3 => ?_)
   ·
    try simp only [decide_eq_true_eq, decide_eq_false_iff_not, Bool.not_eq_true', Bool.not_eq_false', beq_iff_eq, beq_eq_false_iff_ne, ne_eq] at h3
    exfalso; omega
   ·
    try simp only [decide_eq_true_eq, decide_eq_false_iff_not, Bool.not_eq_true', Bool.not_eq_false', beq_iff_eq, beq_eq_false_iff_ne, ne_eq] at h3
    refine at_exit rfl ?_
    refine then_x ?_
    refine then_x ?_
    refine blk_x ?_
    refine then_n ?_
    refine at_seq rfl ?_
    refine rg rfl ?_
    refine Rq ?_
    refine Rq ?_
    refine Rq ?_
    have tr : ∀ a b c d e f g h i j k m n o p q r s t u v w x : AV, let l := lc_left_nil a b c d e f g h i j k m n o p q r s t u; trim ((9,x)::(8,w)::(55,v)::l) l = [(0,a),(1,b),(2,c),(3,d),(4,e),(8,w),(9,x),(10,h),(11,i),(12,j),(14,k),(15,m),(16,n),(23,o),(33,p),(35,q),(36,r),(37,s),(38,t),(49,u)] := by intros; rfl
    refine R_nil (tr ..) ?_; clear tr
    refine then_n ?_
    refine at_ret rfl ?_
    refine fpure ?_
    refine ⟨rfl, ?_, rfl⟩
    rw [leftS, if_neg (fun hh => hh hk), hn]
    show AV.tup [AV.i ((atS rows per balls 0).1), _] = AV.tup [AV.i ((atS rows per balls 0).1 - 0), _]
    rw [Int.sub_zero]

end Go.Proofs.Ytaoondlakhocnaa
end
section
set_option linter.unusedSimpArgs false
set_option linter.unusedVariables false
set_option maxHeartbeats 40000000
set_option maxRecDepth 4000
namespace Go.Proofs.Ytaoondlakhocnaa
open Go Go.Am

theorem left_any (lim : Nat) (H : Heap) (rows : Tb) (per balls : Int) (l : List Stp) (x : AV) (hx : AnyS x l) :
    ACall sig lim 36 [.agg [rowsAV rows], AV.i per, AV.i balls, x] H fun r H' => r = .tup [AV.i (leftS rows per balls l).1, AV.i (leftS rows per balls l).2] ∧ H' = H := by
  rcases hx with rfl | ⟨rfl, rfl⟩
  · exact left_ok lim H rows per balls l
  · exact left_nil lim H rows per balls
abbrev lc_res_any (a b c d e f g h : AV) : Env := [(0,a),(1,b),(2,c),(3,d),(4,e),(5,f),(19,g),(34,h)]
theorem res_any (lim : Nat) (H : Heap) (rows : Tb) (per tot wth balls : Int) (l m : List Stp) (x y : AV) (hx : AnyS x l) (hy : AnyS y m) :
    ACall sig lim 50 [.agg [rowsAV rows, AV.i per, AV.i tot, AV.i wth, AV.i balls, x, y]] H fun r H' => r = .tup [AV.i (res1 rows per balls l m), AV.i (res2 rows per balls l m), AV.i (res3 rows per balls l m), AV.i (resE rows per balls l m)] ∧ H' = H := by
 have hsx := hx.stor
 have hsy := hy.stor
 refine ACall_pure (fa := fa50) rfl rfl rfl rfl ?_
 have tr : ∀ a0 : AV, env0 fa50.keep [a0] = [(0,a0),(1,.any),(2,.any),(3,.any),(4,.any),(5,.any),(19,.any),(34,.any)] := fun a0 => rfl
 refine W_to (tr _) ?_; clear tr
 refine at_seq rfl ?_
 refine rg rfl ?_
 refine R_box rfl (by simp (disch := first | omega | (simp only [List.length_map, List.length_append, List.length_set, List.length_cons, List.length_nil]; omega)) only [go_sem, ↓reduceIte, Nat.reduceEqDiff, reduceCtorEq, hsx, hsy] <;> rfl) rfl rfl ?_
 refine Rq ?_
 refine Rq ?_
 refine Rq ?_
 refine Rq ?_
 have tr : ∀ a b c d e f g h i j k m n : AV, let l := lc_res_any a b c d e f g h; trim ((5,n)::(4,m)::(3,k)::(2,j)::(1,i)::l) l = [(0,a),(1,i),(2,j),(3,k),(4,m),(5,n),(19,g),(34,h)] := by intros; rfl
 refine R_nil (tr ..) ?_; clear tr
 refine then_n ?_
 refine at_seq rfl ?_
 refine rg rfl ?_
 refine Rq ?_
 refine R_q rfl (by simp (disch := first | omega | (simp only [List.length_map, List.length_append, List.length_set, List.length_cons, List.length_nil]; omega)) only [go_sem, ↓reduceIte, Nat.reduceEqDiff, reduceCtorEq, hsx, hsy] <;> rfl) ?_
 refine Rq ?_
 refine R_q rfl (by simp (disch := first | omega | (simp only [List.length_map, List.length_append, List.length_set, List.length_cons, List.length_nil]; omega)) only [go_sem, ↓reduceIte, Nat.reduceEqDiff, reduceCtorEq, hsx, hsy] <;> rfl) ?_
 refine Rq ?_
 refine R_q rfl (by simp (disch := first | omega | (simp only [List.length_map, List.length_append, List.length_set, List.length_cons, List.length_nil]; omega)) only [go_sem, ↓reduceIte, Nat.reduceEqDiff, reduceCtorEq, hsx, hsy] <;> rfl) ?_
 refine Rq ?_
 refine R_q rfl (by simp (disch := first | omega | (simp only [List.length_map, List.length_append, List.length_set, List.length_cons, List.length_nil]; omega)) only [go_sem, ↓reduceIte, Nat.reduceEqDiff, reduceCtorEq, hsx, hsy] <;> rfl) ?_
 refine Rcall ?_
 refine ACall_eq (left_any _ _ rows per balls l _ hx) ?_
 refine Rq ?_
 refine Rq ?_
 refine Rq ?_
 refine Rq ?_
 refine Rq ?_
 have tr : ∀ a b c d e f g h i j k m n o p q r s t u v w : AV, let l := lc_res_any a b c d e f g h; trim ((5,w)::(2,v)::(17,u)::(16,t)::(6,s)::(15,r)::(14,q)::(13,p)::(12,o)::(11,n)::(10,m)::(9,k)::(8,j)::(7,i)::l) l = [(0,a),(1,b),(2,v),(3,d),(4,e),(5,w),(19,g),(34,h)] := by intros; rfl
 refine R_nil (tr ..) ?_; clear tr
 refine then_n ?_
 refine at_seq rfl ?_
 refine at_seq rfl ?_
 refine rg rfl ?_
 refine Rq ?_
 refine Rq ?_
 have tr : ∀ a b c d e f g h i j : AV, let l := lc_res_any a b c d e f g h; trim ((19,j)::(18,i)::l) l = [(0,a),(1,b),(2,c),(3,d),(4,e),(5,f),(19,j),(34,h)] := by intros; rfl
 refine R_nil (tr ..) ?_; clear tr
 refine then_n ?_
 refine cdd (fun h1 => ?_) (fun h1 => ?_)
 ·
  try simp only [decide_eq_true_eq, decide_eq_false_iff_not, Bool.not_eq_true', Bool.not_eq_false', beq_iff_eq, beq_eq_false_iff_ne, ne_eq] at h1
  refine at_seq rfl ?_
  refine rg rfl ?_
  refine Rq ?_
  refine Rq ?_
  refine Rq ?_
  refine Rq ?_
  refine Rq ?_
  have tr : ∀ a b c d e f g h i j k m n : AV, let l := lc_res_any a b c d e f g h; trim ((5,n)::(4,m)::(3,k)::(2,j)::(20,i)::l) l = [(0,a),(1,b),(2,j),(3,k),(4,m),(5,n),(19,g),(34,h)] := by intros; rfl
  refine R_nil (tr ..) ?_; clear tr
  refine then_n ?_
  refine at_ret rfl ?_
  refine then_r ?_
  refine fpure ?_
  refine ⟨?_, rfl⟩
  obtain ⟨e0, e1, e2, e3⟩ := res_a (m := m) h1
  simp only [e0, e1, e2, e3]
 ·
  try simp only [decide_eq_true_eq, decide_eq_false_iff_not, Bool.not_eq_true', Bool.not_eq_false', beq_iff_eq, beq_eq_false_iff_ne, ne_eq] at h1
  refine at_skip rfl ?_
  refine then_n ?_
  refine at_seq rfl ?_
  refine rg rfl ?_
  refine Rq ?_
  refine R_q rfl (by simp (disch := first | omega | (simp only [List.length_map, List.length_append, List.length_set, List.length_cons, List.length_nil]; omega)) only [go_sem, ↓reduceIte, Nat.reduceEqDiff, reduceCtorEq, hsx, hsy] <;> rfl) ?_
  refine Rq ?_
  refine R_q rfl (by simp (disch := first | omega | (simp only [List.length_map, List.length_append, List.length_set, List.length_cons, List.length_nil]; omega)) only [go_sem, ↓reduceIte, Nat.reduceEqDiff, reduceCtorEq, hsx, hsy] <;> rfl) ?_
  refine Rq ?_
  refine R_q rfl (by simp (disch := first | omega | (simp only [List.length_map, List.length_append, List.length_set, List.length_cons, List.length_nil]; omega)) only [go_sem, ↓reduceIte, Nat.reduceEqDiff, reduceCtorEq, hsx, hsy] <;> rfl) ?_
  refine Rq ?_
  refine R_q rfl (by simp (disch := first | omega | (simp only [List.length_map, List.length_append, List.length_set, List.length_cons, List.length_nil]; omega)) only [go_sem, ↓reduceIte, Nat.reduceEqDiff, reduceCtorEq, hsx, hsy] <;> rfl) ?_
  refine Rcall ?_
  refine ACall_eq (left_any _ _ rows per balls m _ hy) ?_
  refine Rq ?_
  refine Rq ?_
  refine Rq ?_
  refine Rq ?_
  refine Rq ?_
  have tr : ∀ a b c d e f g h i j k m n o p q r s t u v w : AV, let l := lc_res_any a b c d e f g h; trim ((5,w)::(3,v)::(32,u)::(31,t)::(21,s)::(30,r)::(29,q)::(28,p)::(27,o)::(26,n)::(25,m)::(24,k)::(23,j)::(22,i)::l) l = [(0,a),(1,b),(2,c),(3,v),(4,e),(5,w),(19,g),(34,h)] := by intros; rfl
  refine R_nil (tr ..) ?_; clear tr
  refine then_n ?_
  refine at_seq rfl ?_
  refine at_seq rfl ?_
  refine rg rfl ?_
  refine Rq ?_
  refine Rq ?_
  have tr : ∀ a b c d e f g h i j : AV, let l := lc_res_any a b c d e f g h; trim ((34,j)::(33,i)::l) l = [(0,a),(1,b),(2,c),(3,d),(4,e),(5,f),(19,g),(34,j)] := by intros; rfl
  refine R_nil (tr ..) ?_; clear tr
  refine then_n ?_
  refine cdd (fun h2 => ?_) (fun h2 => ?_)
  ·
   try simp only [decide_eq_true_eq, decide_eq_false_iff_not, Bool.not_eq_true', Bool.not_eq_false', beq_iff_eq, beq_eq_false_iff_ne, ne_eq] at h2
   refine at_seq rfl ?_
   refine rg rfl ?_
   refine Rq ?_
   refine Rq ?_
   refine Rq ?_
   refine Rq ?_
   refine Rq ?_
   have tr : ∀ a b c d e f g h i j k m n : AV, let l := lc_res_any a b c d e f g h; trim ((5,n)::(4,m)::(3,k)::(2,j)::(35,i)::l) l = [(0,a),(1,b),(2,j),(3,k),(4,m),(5,n),(19,g),(34,h)] := by intros; rfl
   refine R_nil (tr ..) ?_; clear tr
   refine then_n ?_
   refine at_ret rfl ?_
   refine then_r ?_
   refine fpure ?_
   refine ⟨?_, rfl⟩
   obtain ⟨e0, e1, e2, e3⟩ := res_b h1 h2
   simp only [e0, e1, e2, e3]
  ·
   try simp only [decide_eq_true_eq, decide_eq_false_iff_not, Bool.not_eq_true', Bool.not_eq_false', beq_iff_eq, beq_eq_false_iff_ne, ne_eq] at h2
   refine at_skip rfl ?_
   refine then_n ?_
   refine at_seq rfl ?_
   refine rd rfl rfl ?_
   have hper := left_per (by assumption : (leftS rows per balls l).2 = 0)
   refine Qq ?_
   refine Qq ?_
   refine Qq ?_
   refine Q_q rfl (by simp (disch := first | omega | (simp only [List.length_map, List.length_append, List.length_set, List.length_cons, List.length_nil]; omega)) only [go_sem, ↓reduceIte, Nat.reduceEqDiff, reduceCtorEq, hsx, hsy] <;> rfl) ?_
   refine Qq ?_
   refine Qq ?_
   refine Qq ?_
   refine Qq ?_
   refine Qq ?_
   refine Q_nil ?_
   have tr : ∀ a b c d e f g h i j k m n o p q r : AV, let l := lc_res_any a b c d e f g h; trim ((5,r)::(4,q)::(3,p)::(2,o)::(40,n)::(39,m)::(38,k)::(37,j)::(36,i)::l) l = [(0,a),(1,b),(2,o),(3,p),(4,q),(5,r),(19,g),(34,h)] := by intros; rfl
   refine R_nil (tr ..) ?_; clear tr
   refine then_n ?_
   refine at_ret rfl ?_
   refine fpure ?_
   refine ⟨?_, rfl⟩
   obtain ⟨e0, e1, e2, e3⟩ := res_c h1 h2
   simp only [e0, e1, e2, e3]

abbrev lc_tgt_any (a b c d e f g h i : AV) : Env := [(0,a),(1,b),(2,c),(3,d),(4,e),(5,f),(6,g),(7,h),(16,i)]
theorem tgt_any (lim : Nat) (H : Heap) (rows : Tb) (per tot wth balls : Int) (l m : List Stp) (x y : AV) (hx : AnyS x l) (hy : AnyS y m) :
    ACall sig lim 19 [.agg [rowsAV rows, AV.i per, AV.i tot, AV.i wth, AV.i balls, x, y]] H fun r H' => r = .tup [AV.i (tgtS rows per tot wth balls l m).1, AV.i (tgtS rows per tot wth balls l m).2] ∧ H' = H := by
 have hsx := hx.stor
 have hsy := hy.stor
 have hargs : [AV.agg [rowsAV rows, AV.i per, AV.i tot, AV.i wth, AV.i balls, x, y]].map (frz H 0 8) = [.agg [rowsAV rows, AV.i per, AV.i tot, AV.i wth, AV.i balls, x, y]] := by
   show [AV.agg [frz H 0 7 (rowsAV rows), AV.i per, AV.i tot, AV.i wth, AV.i balls, frz H 0 7 x, frz H 0 7 y]] = _
   rw [frz_rows, hx.frz, hy.frz]
 refine ACall_data (fa := fa19) rfl rfl rfl rfl hargs ?_
 have tr : ∀ a0 : AV, env0 fa19.keep [a0] = [(0,a0),(1,.any),(2,.any),(3,.any),(4,.any),(5,.any),(6,.any),(7,.any),(16,.any)] := fun a0 => rfl
 refine W_to (tr _) ?_; clear tr
 refine at_seq rfl ?_
 refine rg rfl ?_
 refine R_box rfl (by simp (disch := first | omega | (simp only [List.length_map, List.length_append, List.length_set, List.length_cons, List.length_nil]; omega)) only [go_sem, ↓reduceIte, Nat.reduceEqDiff, reduceCtorEq, hsx, hsy] <;> rfl) rfl rfl ?_
 refine Rq ?_
 refine Rq ?_
 have tr : ∀ a b c d e f g h i j k m : AV, let l := lc_tgt_any a b c d e f g h i; trim ((3,m)::(2,k)::(1,j)::l) l = [(0,a),(1,j),(2,k),(3,m),(4,e),(5,f),(6,g),(7,h),(16,i)] := by intros; rfl
 refine R_nil (tr ..) ?_; clear tr
 refine then_n ?_
 refine at_seq rfl ?_
 refine rg rfl ?_
 refine R_q rfl (by simp (disch := first | omega | (simp only [List.length_map, List.length_append, List.length_set, List.length_cons, List.length_nil]; omega)) only [go_sem, ↓reduceIte, Nat.reduceEqDiff, reduceCtorEq, hsx, hsy] <;> rfl) ?_
 refine Rcall ?_
 refine ACall_eq (res_any _ _ rows per tot wth balls l m x y hx hy) ?_
 refine Rq ?_
 refine Rq ?_
 refine Rq ?_
 refine Rq ?_
 refine Rq ?_
 refine Rq ?_
 refine Rq ?_
 refine Rq ?_
 refine Rq ?_
 have tr : ∀ a b c d e f g h i j k m n o p q r s t u : AV, let l := lc_tgt_any a b c d e f g h i; trim ((7,u)::(6,t)::(5,s)::(4,r)::(14,q)::(13,p)::(12,o)::(11,n)::(8,m)::(10,k)::(9,j)::l) l = [(0,a),(1,b),(2,c),(3,d),(4,r),(5,s),(6,t),(7,u),(16,i)] := by intros; rfl
 refine R_nil (tr ..) ?_; clear tr
 refine then_n ?_
 refine at_seq rfl ?_
 refine at_seq rfl ?_
 refine rg rfl ?_
 refine Rq ?_
 refine Rq ?_
 have tr : ∀ a b c d e f g h i j k : AV, let l := lc_tgt_any a b c d e f g h i; trim ((16,k)::(15,j)::l) l = [(0,a),(1,b),(2,c),(3,d),(4,e),(5,f),(6,g),(7,h),(16,k)] := by intros; rfl
 refine R_nil (tr ..) ?_; clear tr
 refine then_n ?_
 refine cdd (fun h1 => ?_) (fun h1 => ?_)
 ·
  try simp only [decide_eq_true_eq, decide_eq_false_iff_not, Bool.not_eq_true', Bool.not_eq_false', beq_iff_eq, beq_eq_false_iff_ne, ne_eq] at h1
  refine at_seq rfl ?_
  refine rg rfl ?_
  refine Rq ?_
  refine Rq ?_
  refine Rq ?_
  have tr : ∀ a b c d e f g h i j k m : AV, let l := lc_tgt_any a b c d e f g h i; trim ((3,m)::(2,k)::(17,j)::l) l = [(0,a),(1,b),(2,k),(3,m),(4,e),(5,f),(6,g),(7,h),(16,i)] := by intros; rfl
  refine R_nil (tr ..) ?_; clear tr
  refine then_n ?_
  refine at_ret rfl ?_
  refine then_r ?_
  refine fpure ?_
  refine ⟨rfl, ?_, rfl⟩
  rw [tgtS, if_pos (by assumption)]
 ·
  try simp only [decide_eq_true_eq, decide_eq_false_iff_not, Bool.not_eq_true', Bool.not_eq_false', beq_iff_eq, beq_eq_false_iff_ne, ne_eq] at h1
  refine at_skip rfl ?_
  refine then_n ?_
  refine at_seq rfl ?_
  refine rg rfl ?_
  have e3 : res3 rows per balls l m = 10000 * per := by rw [res3, if_pos (by assumption)]
  have hper := res_per (by assumption : resE rows per balls l m = 0)
  refine Rq ?_
  refine R_q rfl (by simp (disch := first | omega | (simp only [List.length_map, List.length_append, List.length_set, List.length_cons, List.length_nil]; omega)) only [go_sem, ↓reduceIte, Nat.reduceEqDiff, reduceCtorEq, hsx, hsy] <;> rfl) ?_
  refine Rq ?_
  refine Rq ?_
  refine Rq ?_
  refine Rq ?_
  refine R_q rfl (by simp (disch := first | omega | (simp only [List.length_map, List.length_append, List.length_set, List.length_cons, List.length_nil]; omega)) only [go_sem, ↓reduceIte, Nat.reduceEqDiff, reduceCtorEq, hsx, hsy] <;> rfl) ?_
  refine Rcall ?_
  refine ACall_eq (rev_ok _ _ tot (res1 rows per balls l m) (res2 rows per balls l m) (res3 rows per balls l m) wth) ?_
  refine Rq ?_
  refine Rq ?_
  refine Rq ?_
  refine Rq ?_
  have tr : ∀ a b c d e f g h i j k m n o p q r s t u v : AV, let l := lc_tgt_any a b c d e f g h i; trim ((3,v)::(2,u)::(27,t)::(26,s)::(25,r)::(24,q)::(23,p)::(22,o)::(21,n)::(20,m)::(19,k)::(18,j)::l) l = [(0,a),(1,b),(2,u),(3,v),(4,e),(5,f),(6,g),(7,h),(16,i)] := by intros; rfl
  refine R_nil (tr ..) ?_; clear tr
  refine then_n ?_
  refine at_ret rfl ?_
  refine fpure ?_
  refine ⟨rfl, ?_, rfl⟩
  rw [tgtS, if_neg (by omega)]

end Go.Proofs.Ytaoondlakhocnaa
end
section
set_option linter.unusedSimpArgs false
set_option linter.unusedVariables false
set_option maxHeartbeats 40000000
set_option maxRecDepth 4000
namespace Go.Proofs.Ytaoondlakhocnaa
open Go Go.Am

abbrev lc_pat_any (a b c d e f g h i j k m n o p q r s t : AV) : Env := [(0,a),(1,b),(2,c),(3,d),(6,e),(7,f),(9,g),(10,h),(11,i),(12,j),(13,k),(14,m),(15,n),(16,o),(17,p),(25,q),(38,r),(46,s),(68,t)]
theorem pat_any (lim : Nat) (H : Heap) (rows : Tb) (per tot wth balls : Int) (l m : List Stp) (n w : Int) (x y : AV) (hx : AnyS x l) (hy : AnyS y m) :
    ACall sig lim 23 [.agg [rowsAV rows, AV.i per, AV.i tot, AV.i wth, AV.i balls, x, y], AV.i n, AV.i w] H fun r H' => r = .tup [AV.i (patS rows per tot wth balls l m n w).1, AV.i (patS rows per tot wth balls l m n w).2] ∧ H' = H := by
 have hsx := hx.stor
 have hsy := hy.stor
 refine ACall_pure (fa := fa23) rfl rfl rfl rfl ?_
 have tr : ∀ a0 a1 a2 : AV, env0 fa23.keep [a0, a1, a2] = [(0,a0),(1,a1),(2,a2),(3,.any),(6,.any),(7,.any),(9,.any),(10,.any),(11,.any),(12,.any),(13,.any),(14,.any),(15,.any),(16,.any),(17,.any),(25,.any),(38,.any),(46,.any),(68,.any)] := fun a0 a1 a2 => rfl
 refine W_to (tr _ _ _) ?_; clear tr
 refine at_seq rfl ?_
 refine rg rfl ?_
 refine R_box rfl (by simp (disch := first | omega | (simp only [List.length_map, List.length_append, List.length_set, List.length_cons, List.length_nil]; omega)) only [go_sem, ↓reduceIte, Nat.reduceEqDiff, reduceCtorEq, hsx, hsy] <;> rfl) rfl rfl ?_
 refine Rq ?_
 refine Rq ?_
 have tr : ∀ a b c d e f g h i j k m n o p q r s t u v w : AV, let l := lc_pat_any a b c d e f g h i j k m n o p q r s t; trim ((7,w)::(6,v)::(3,u)::l) l = [(0,a),(1,b),(2,c),(3,u),(6,v),(7,w),(9,g),(10,h),(11,i),(12,j),(13,k),(14,m),(15,n),(16,o),(17,p),(25,q),(38,r),(46,s),(68,t)] := by intros; rfl
 refine R_nil (tr ..) ?_; clear tr
 refine then_n ?_
 refine at_seq rfl ?_
 refine at_seq rfl ?_
 refine rg rfl ?_
 refine R_q rfl (by simp (disch := first | omega | (simp only [List.length_map, List.length_append, List.length_set, List.length_cons, List.length_nil]; omega)) only [go_sem, ↓reduceIte, Nat.reduceEqDiff, reduceCtorEq, hsx, hsy] <;> rfl) ?_
 refine Rcall ?_
 refine ACall_eq (tgt_any _ _ rows per tot wth balls l m _ _ hx hy) ?_
 refine Rq ?_
 refine Rq ?_
 refine Rq ?_
 refine Rq ?_
 refine Rq ?_
 have tr : ∀ a b c d e f g h i j k m n o p q r s t u v w x y z A : AV, let l := lc_pat_any a b c d e f g h i j k m n o p q r s t; trim ((9,A)::(8,z)::(23,y)::(22,x)::(19,w)::(21,v)::(20,u)::l) l = [(0,a),(1,b),(2,c),(3,d),(6,e),(7,f),(9,A),(10,h),(11,i),(12,j),(13,k),(14,m),(15,n),(16,o),(17,p),(25,q),(38,r),(46,s),(68,t)] := by intros; rfl
 refine R_nil (tr ..) ?_; clear tr
 refine then_n ?_
 refine at_seq rfl ?_
 refine rg rfl ?_
 refine Rq ?_
 refine Rq ?_
 have tr : ∀ a b c d e f g h i j k m n o p q r s t u v : AV, let l := lc_pat_any a b c d e f g h i j k m n o p q r s t; trim ((25,v)::(24,u)::l) l = [(0,a),(1,b),(2,c),(3,d),(6,e),(7,f),(9,g),(10,h),(11,i),(12,j),(13,k),(14,m),(15,n),(16,o),(17,p),(25,v),(38,r),(46,s),(68,t)] := by intros; rfl
 refine R_nil (tr ..) ?_; clear tr
 refine then_n ?_
 refine cdd (fun h1 => ?_) (fun h1 => ?_)
 ·
  try simp only [decide_eq_true_eq, decide_eq_false_iff_not, Bool.not_eq_true', Bool.not_eq_false', beq_iff_eq, beq_eq_false_iff_ne, ne_eq] at h1
  refine at_seq rfl ?_
  refine rg rfl ?_
  refine Rq ?_
  refine Rq ?_
  refine Rq ?_
  have tr : ∀ a b c d e f g h i j k m n o p q r s t u v w : AV, let l := lc_pat_any a b c d e f g h i j k m n o p q r s t; trim ((7,w)::(6,v)::(26,u)::l) l = [(0,a),(1,b),(2,c),(3,d),(6,v),(7,w),(9,g),(10,h),(11,i),(12,j),(13,k),(14,m),(15,n),(16,o),(17,p),(25,q),(38,r),(46,s),(68,t)] := by intros; rfl
  refine R_nil (tr ..) ?_; clear tr
  refine then_n ?_
  refine at_ret rfl ?_
  refine then_r ?_
  refine fpure ?_
  refine ⟨?_, rfl⟩
  first | (rw [patS, if_pos (by assumption)]; done) | (rw [patS, if_neg (by omega), if_pos (by assumption)]; done) | (rw [patS, if_neg (by omega), if_neg (by omega), if_pos (by omega)]; done) | (rw [patS, if_neg (by omega), if_neg (by omega), if_neg (by omega)]; done)
 ·
  try simp only [decide_eq_true_eq, decide_eq_false_iff_not, Bool.not_eq_true', Bool.not_eq_false', beq_iff_eq, beq_eq_false_iff_ne, ne_eq] at h1
  refine at_skip rfl ?_
  refine then_n ?_
  refine at_seq rfl ?_
  refine rg rfl ?_
  refine Rq ?_
  refine R_q rfl (by simp (disch := first | omega | (simp only [List.length_map, List.length_append, List.length_set, List.length_cons, List.length_nil]; omega)) only [go_sem, ↓reduceIte, Nat.reduceEqDiff, reduceCtorEq, hsx, hsy] <;> rfl) ?_
  refine Rq ?_
  refine R_q rfl (by simp (disch := first | omega | (simp only [List.length_map, List.length_append, List.length_set, List.length_cons, List.length_nil]; omega)) only [go_sem, ↓reduceIte, Nat.reduceEqDiff, reduceCtorEq, hsx, hsy] <;> rfl) ?_
  refine Rq ?_
  refine Rq ?_
  refine Rcall ?_
  refine ACall_eq (at_ok _ _ rows per n w) ?_
  refine Rq ?_
  refine Rq ?_
  refine Rq ?_
  refine Rq ?_
  refine Rq ?_
  have tr : ∀ a b c d e f g h i j k m n o p q r s t u v w x y z A B C D E F : AV, let l := lc_pat_any a b c d e f g h i j k m n o p q r s t; trim ((11,F)::(10,E)::(36,D)::(35,C)::(27,B)::(34,A)::(33,z)::(32,y)::(31,x)::(30,w)::(29,v)::(28,u)::l) l = [(0,a),(1,b),(2,c),(3,d),(6,e),(7,f),(9,g),(10,E),(11,F),(12,j),(13,k),(14,m),(15,n),(16,o),(17,p),(25,q),(38,r),(46,s),(68,t)] := by intros; rfl
  refine R_nil (tr ..) ?_; clear tr
  refine then_n ?_
  refine at_seq rfl ?_
  refine at_seq rfl ?_
  refine rg rfl ?_
  refine Rq ?_
  refine Rq ?_
  have tr : ∀ a b c d e f g h i j k m n o p q r s t u v : AV, let l := lc_pat_any a b c d e f g h i j k m n o p q r s t; trim ((38,v)::(37,u)::l) l = [(0,a),(1,b),(2,c),(3,d),(6,e),(7,f),(9,g),(10,h),(11,i),(12,j),(13,k),(14,m),(15,n),(16,o),(17,p),(25,q),(38,v),(46,s),(68,t)] := by intros; rfl
  refine R_nil (tr ..) ?_; clear tr
  refine then_n ?_
  refine cdd (fun h2 => ?_) (fun h2 => ?_)
  ·
   try simp only [decide_eq_true_eq, decide_eq_false_iff_not, Bool.not_eq_true', Bool.not_eq_false', beq_iff_eq, beq_eq_false_iff_ne, ne_eq] at h2
   refine at_seq rfl ?_
   refine rg rfl ?_
   refine Rq ?_
   refine Rq ?_
   refine Rq ?_
   have tr : ∀ a b c d e f g h i j k m n o p q r s t u v w : AV, let l := lc_pat_any a b c d e f g h i j k m n o p q r s t; trim ((7,w)::(6,v)::(39,u)::l) l = [(0,a),(1,b),(2,c),(3,d),(6,v),(7,w),(9,g),(10,h),(11,i),(12,j),(13,k),(14,m),(15,n),(16,o),(17,p),(25,q),(38,r),(46,s),(68,t)] := by intros; rfl
   refine R_nil (tr ..) ?_; clear tr
   refine then_n ?_
   refine at_ret rfl ?_
   refine then_r ?_
   refine fpure ?_
   refine ⟨?_, rfl⟩
   first | (rw [patS, if_pos (by assumption)]; done) | (rw [patS, if_neg (by omega), if_pos (by assumption)]; done) | (rw [patS, if_neg (by omega), if_neg (by omega), if_pos (by omega)]; done) | (rw [patS, if_neg (by omega), if_neg (by omega), if_neg (by omega)]; done)
  ·
   try simp only [decide_eq_true_eq, decide_eq_false_iff_not, Bool.not_eq_true', Bool.not_eq_false', beq_iff_eq, beq_eq_false_iff_ne, ne_eq] at h2
   refine at_skip rfl ?_
   refine then_n ?_
   refine at_seq rfl ?_
   refine rg rfl ?_
   have hE := tgt_E (by assumption : (tgtS rows per tot wth balls l m).2 = 0)
   have e3 : res3 rows per balls l m = 10000 * per := by rw [res3, if_pos hE]
   have hper := res_per hE
   have hml := (left_zero (res_zero hE).2).1.most
   have hm := most_case balls m
   refine Rq ?_
   refine R_q rfl (by simp (disch := first | omega | (simp only [List.length_map, List.length_append, List.length_set, List.length_cons, List.length_nil]; omega)) only [go_sem, ↓reduceIte, Nat.reduceEqDiff, reduceCtorEq, hsx, hsy] <;> rfl) ?_
   refine Rq ?_
   refine Rq ?_
   have tr : ∀ a b c d e f g h i j k m n o p q r s t u v w x : AV, let l := lc_pat_any a b c d e f g h i j k m n o p q r s t; trim ((13,x)::(12,w)::(41,v)::(40,u)::l) l = [(0,a),(1,b),(2,c),(3,d),(6,e),(7,f),(9,g),(10,h),(11,i),(12,w),(13,x),(14,m),(15,n),(16,o),(17,p),(25,q),(38,r),(46,s),(68,t)] := by intros; rfl
   refine R_nil (tr ..) ?_; clear tr
   refine then_n ?_
   refine at_seq rfl ?_
   refine at_seq rfl ?_
   refine rg rfl ?_
   refine Rq ?_
   refine R_q rfl (by simp (disch := first | omega | (simp only [List.length_map, List.length_append, List.length_set, List.length_cons, List.length_nil]; omega)) only [go_sem, ↓reduceIte, Nat.reduceEqDiff, reduceCtorEq, hsx, hsy] <;> rfl) ?_
   refine R_q rfl (by simp (disch := first | omega | (simp only [List.length_map, List.length_append, List.length_set, List.length_cons, List.length_nil]; omega)) only [go_sem, ↓reduceIte, Nat.reduceEqDiff, reduceCtorEq]; exact hy.len) ?_
   refine Rq ?_
   have tr : ∀ a b c d e f g h i j k m n o p q r s t u v w x : AV, let l := lc_pat_any a b c d e f g h i j k m n o p q r s t; trim ((14,x)::(44,w)::(43,v)::(42,u)::l) l = [(0,a),(1,b),(2,c),(3,d),(6,e),(7,f),(9,g),(10,h),(11,i),(12,j),(13,k),(14,x),(15,n),(16,o),(17,p),(25,q),(38,r),(46,s),(68,t)] := by intros; rfl
   refine R_nil (tr ..) ?_; clear tr
   refine then_n ?_
   refine at_seq rfl ?_
   refine rg rfl ?_
   refine Rq ?_
   refine Rq ?_
   have tr : ∀ a b c d e f g h i j k m n o p q r s t u v : AV, let l := lc_pat_any a b c d e f g h i j k m n o p q r s t; trim ((46,v)::(45,u)::l) l = [(0,a),(1,b),(2,c),(3,d),(6,e),(7,f),(9,g),(10,h),(11,i),(12,j),(13,k),(14,m),(15,n),(16,o),(17,p),(25,q),(38,r),(46,v),(68,t)] := by intros; rfl
   refine R_nil (tr ..) ?_; clear tr
   refine then_n ?_
   refine cdd (fun h3 => ?_) (fun h3 => ?_)
   ·
    try simp only [decide_eq_true_eq, decide_eq_false_iff_not, Bool.not_eq_true', Bool.not_eq_false', beq_iff_eq, beq_eq_false_iff_ne, ne_eq] at h3
    refine rd rfl rfl ?_
    obtain rfl := hy.sl (by omega)
    refine Qq ?_
    refine Q_q rfl (by simp (disch := first | omega | (simp only [List.length_map, List.length_append, List.length_set, List.length_cons, List.length_nil]; omega)) only [go_sem, ↓reduceIte, Nat.reduceEqDiff, reduceCtorEq, hsx, hsy] <;> rfl) ?_
    refine Qq ?_
    refine Qq ?_
    refine Qq ?_
    refine Qq ?_
    refine Q_q rfl (by simp (disch := first | omega | (simp only [List.length_map, List.length_append, List.length_set, List.length_cons, List.length_nil]; omega)) only [go_sem, ↓reduceIte, Nat.reduceEqDiff, reduceCtorEq, hsx, hsy] <;> rfl) ?_
    refine Qq ?_
    refine Q_q rfl (by simp (disch := first | omega | (simp only [List.length_map, List.length_append, List.length_set, List.length_cons, List.length_nil]; omega)) only [go_sem, ↓reduceIte, Nat.reduceEqDiff, reduceCtorEq, hsx, hsy] <;> rfl) ?_
    refine Qq ?_
    refine Qq ?_
    refine Qq ?_
    refine Qq ?_
    refine Q_q rfl (by simp (disch := first | omega | (simp only [List.length_map, List.length_append, List.length_set, List.length_cons, List.length_nil]; omega)) only [go_sem, ↓reduceIte, Nat.reduceEqDiff, reduceCtorEq, hsx, hsy] <;> rfl) ?_
    refine Qq ?_
    refine Qq ?_
    refine Q_nil ?_
    have tr : ∀ a b c d e f g h i j k m n o p q r s t u v w x y z A B C D E F G H I J : AV, let l := lc_pat_any a b c d e f g h i j k m n o p q r s t; trim ((13,J)::(12,I)::(60,H)::(59,G)::(58,F)::(57,E)::(56,D)::(55,C)::(54,B)::(53,A)::(52,z)::(51,y)::(50,x)::(49,w)::(48,v)::(47,u)::l) l = [(0,a),(1,b),(2,c),(3,d),(6,e),(7,f),(9,g),(10,h),(11,i),(12,I),(13,J),(14,m),(15,n),(16,o),(17,p),(25,q),(38,r),(46,s),(68,t)] := by intros; rfl
    refine R_nil (tr ..) ?_; clear tr
    refine then_n ?_
    refine at_seq rfl ?_
    refine at_seq rfl ?_
    refine rg rfl ?_
    refine Rq ?_
    refine Rq ?_
    refine Rq ?_
    refine Rq ?_
    refine Rp_split (fun h4 => ?_) (fun h4 => ?_)
    ·
     try simp only [decide_eq_true_eq, decide_eq_false_iff_not, Bool.not_eq_true', Bool.not_eq_false', beq_iff_eq, beq_eq_false_iff_ne, ne_eq] at h4
     refine Rn ?_
     refine Rn ?_
     refine Rn ?_
     refine Rq ?_
     have tr : ∀ a b c d e f g h i j k m n o p q r s t u v w x y z A B : AV, let l := lc_pat_any a b c d e f g h i j k m n o p q r s t; trim ((68,B)::(67,A)::(66,z)::(65,y)::(64,x)::(63,w)::(62,v)::(61,u)::l) l = [(0,a),(1,b),(2,c),(3,d),(6,e),(7,f),(9,g),(10,h),(11,i),(12,j),(13,k),(14,m),(15,n),(16,o),(17,p),(25,q),(38,r),(46,s),(68,B)] := by intros; rfl
     refine R_nil (tr ..) ?_; clear tr
     refine then_n ?_
     refine cdt ?_
     refine at_seq rfl ?_
     refine rg rfl ?_
     refine Rq ?_
     refine Rq ?_
     have tr : ∀ a b c d e f g h i j k m n o p q r s t u v : AV, let l := lc_pat_any a b c d e f g h i j k m n o p q r s t; trim ((7,v)::(6,u)::l) l = [(0,a),(1,b),(2,c),(3,d),(6,u),(7,v),(9,g),(10,h),(11,i),(12,j),(13,k),(14,m),(15,n),(16,o),(17,p),(25,q),(38,r),(46,s),(68,t)] := by intros; rfl
     refine R_nil (tr ..) ?_; clear tr
     refine then_n ?_
     refine at_ret rfl ?_
     refine then_r ?_
     refine fpure ?_
     refine ⟨?_, rfl⟩
     first | (rw [patS, if_pos (by assumption)]; done) | (rw [patS, if_neg (by omega), if_pos (by assumption)]; done) | (rw [patS, if_neg (by omega), if_neg (by omega), if_pos (by omega)]; done) | (rw [patS, if_neg (by omega), if_neg (by omega), if_neg (by omega)]; done)
    ·
     try simp only [decide_eq_true_eq, decide_eq_false_iff_not, Bool.not_eq_true', Bool.not_eq_false', beq_iff_eq, beq_eq_false_iff_ne, ne_eq] at h4
     refine Ry ?_
     refine Rq ?_
     refine Ry ?_
     refine Rq ?_
     refine Ry ?_
     refine Rq ?_
     refine Rq ?_
     have tr : ∀ a b c d e f g h i j k m n o p q r s t u v w x y z A B : AV, let l := lc_pat_any a b c d e f g h i j k m n o p q r s t; trim ((68,B)::(67,A)::(66,z)::(65,y)::(64,x)::(63,w)::(62,v)::(61,u)::l) l = [(0,a),(1,b),(2,c),(3,d),(6,e),(7,f),(9,g),(10,h),(11,i),(12,j),(13,k),(14,m),(15,n),(16,o),(17,p),(25,q),(38,r),(46,s),(68,B)] := by intros; rfl
     refine R_nil (tr ..) ?_; clear tr
     refine then_n ?_
     refine cdd (fun h5 => ?_) (fun h5 => ?_)
     ·
      try simp only [decide_eq_true_eq, decide_eq_false_iff_not, Bool.not_eq_true', Bool.not_eq_false', beq_iff_eq, beq_eq_false_iff_ne, ne_eq] at h5
      refine at_seq rfl ?_
      refine rg rfl ?_
      refine Rq ?_
      refine Rq ?_
      have tr : ∀ a b c d e f g h i j k m n o p q r s t u v : AV, let l := lc_pat_any a b c d e f g h i j k m n o p q r s t; trim ((7,v)::(6,u)::l) l = [(0,a),(1,b),(2,c),(3,d),(6,u),(7,v),(9,g),(10,h),(11,i),(12,j),(13,k),(14,m),(15,n),(16,o),(17,p),(25,q),(38,r),(46,s),(68,t)] := by intros; rfl
      refine R_nil (tr ..) ?_; clear tr
      refine then_n ?_
      refine at_ret rfl ?_
      refine then_r ?_
      refine fpure ?_
      refine ⟨?_, rfl⟩
      first | (rw [patS, if_pos (by assumption)]; done) | (rw [patS, if_neg (by omega), if_pos (by assumption)]; done) | (rw [patS, if_neg (by omega), if_neg (by omega), if_pos (by omega)]; done) | (rw [patS, if_neg (by omega), if_neg (by omega), if_neg (by omega)]; done)
     ·
      try simp only [decide_eq_true_eq, decide_eq_false_iff_not, Bool.not_eq_true', Bool.not_eq_false', beq_iff_eq, beq_eq_false_iff_ne, ne_eq] at h5
      refine at_skip rfl ?_
      refine then_n ?_
      refine at_seq rfl ?_
      refine rg rfl ?_
      refine R_q rfl (by simp (disch := first | omega | (simp only [List.length_map, List.length_append, List.length_set, List.length_cons, List.length_nil]; omega)) only [go_sem, ↓reduceIte, Nat.reduceEqDiff, reduceCtorEq, hsx, hsy] <;> rfl) ?_
      refine Rcall ?_
      refine ACall_eq (res_any _ _ rows per tot wth balls l m _ _ hx hy) ?_
      refine Rq ?_
      refine Rq ?_
      refine Rq ?_
      refine Rq ?_
      refine Rq ?_
      refine Rq ?_
      refine Rq ?_
      refine Rq ?_
      refine Rq ?_
      have tr : ∀ a b c d e f g h i j k m n o p q r s t u v w x y z A B C D E : AV, let l := lc_pat_any a b c d e f g h i j k m n o p q r s t; trim ((18,E)::(17,D)::(16,C)::(15,B)::(75,A)::(74,z)::(73,y)::(72,x)::(69,w)::(71,v)::(70,u)::l) l = [(0,a),(1,b),(2,c),(3,d),(6,e),(7,f),(9,g),(10,h),(11,i),(12,j),(13,k),(14,m),(15,B),(16,C),(17,D),(25,q),(38,r),(46,s),(68,t)] := by intros; rfl
      refine R_nil (tr ..) ?_; clear tr
      refine then_n ?_
      refine at_seq rfl ?_
      refine rg rfl ?_
      refine Rq ?_
      refine R_q rfl (by simp (disch := first | omega | (simp only [List.length_map, List.length_append, List.length_set, List.length_cons, List.length_nil]; omega)) only [go_sem, ↓reduceIte, Nat.reduceEqDiff, reduceCtorEq, hsx, hsy] <;> rfl) ?_
      refine Rq ?_
      refine Rq ?_
      refine Rq ?_
      refine Rq ?_
      refine Rq ?_
      refine R_q rfl (by simp (disch := first | omega | (simp only [List.length_map, List.length_append, List.length_set, List.length_cons, List.length_nil]; omega)) only [go_sem, ↓reduceIte, Nat.reduceEqDiff, reduceCtorEq, hsx, hsy] <;> rfl) ?_
      refine Rcall ?_
      refine ACall_eq (par_ok _ _ tot (res1 rows per balls l m) (res2 rows per balls l m) (atS rows per n w).1 (res3 rows per balls l m) wth) ?_
      refine Rq ?_
      refine Rq ?_
      refine Rq ?_
      refine Rq ?_
      have tr : ∀ a b c d e f g h i j k m n o p q r s t u v w x y z A B C D E F G : AV, let l := lc_pat_any a b c d e f g h i j k m n o p q r s t; trim ((7,G)::(6,F)::(86,E)::(85,D)::(84,C)::(83,B)::(82,A)::(81,z)::(80,y)::(79,x)::(78,w)::(77,v)::(76,u)::l) l = [(0,a),(1,b),(2,c),(3,d),(6,F),(7,G),(9,g),(10,h),(11,i),(12,j),(13,k),(14,m),(15,n),(16,o),(17,p),(25,q),(38,r),(46,s),(68,t)] := by intros; rfl
      refine R_nil (tr ..) ?_; clear tr
      refine then_n ?_
      refine at_ret rfl ?_
      refine fpure ?_
      refine ⟨?_, rfl⟩
      first | (rw [patS, if_pos (by assumption)]; done) | (rw [patS, if_neg (by omega), if_pos (by assumption)]; done) | (rw [patS, if_neg (by omega), if_neg (by omega), if_pos (by omega)]; done) | (rw [patS, if_neg (by omega), if_neg (by omega), if_neg (by omega)]; done)
   ·
    try simp only [decide_eq_true_eq, decide_eq_false_iff_not, Bool.not_eq_true', Bool.not_eq_false', beq_iff_eq, beq_eq_false_iff_ne, ne_eq] at h3
    refine at_skip rfl ?_
    refine then_n ?_
    refine at_seq rfl ?_
    refine at_seq rfl ?_
    refine rg rfl ?_
    refine Rq ?_
    refine Rq ?_
    refine Rq ?_
    refine Rq ?_
    refine Rp_split (fun h6 => ?_) (fun h6 => ?_)
    ·
     try simp only [decide_eq_true_eq, decide_eq_false_iff_not, Bool.not_eq_true', Bool.not_eq_false', beq_iff_eq, beq_eq_false_iff_ne, ne_eq] at h6
     refine Rn ?_
     refine Rn ?_
     refine Rn ?_
     refine Rq ?_
     have tr : ∀ a b c d e f g h i j k m n o p q r s t u v w x y z A B : AV, let l := lc_pat_any a b c d e f g h i j k m n o p q r s t; trim ((68,B)::(67,A)::(66,z)::(65,y)::(64,x)::(63,w)::(62,v)::(61,u)::l) l = [(0,a),(1,b),(2,c),(3,d),(6,e),(7,f),(9,g),(10,h),(11,i),(12,j),(13,k),(14,m),(15,n),(16,o),(17,p),(25,q),(38,r),(46,s),(68,B)] := by intros; rfl
     refine R_nil (tr ..) ?_; clear tr
     refine then_n ?_
     refine cdt ?_
     refine at_seq rfl ?_
     refine rg rfl ?_
     refine Rq ?_
     refine Rq ?_
     have tr : ∀ a b c d e f g h i j k m n o p q r s t u v : AV, let l := lc_pat_any a b c d e f g h i j k m n o p q r s t; trim ((7,v)::(6,u)::l) l = [(0,a),(1,b),(2,c),(3,d),(6,u),(7,v),(9,g),(10,h),(11,i),(12,j),(13,k),(14,m),(15,n),(16,o),(17,p),(25,q),(38,r),(46,s),(68,t)] := by intros; rfl
     refine R_nil (tr ..) ?_; clear tr
     refine then_n ?_
     refine at_ret rfl ?_
     refine then_r ?_
     refine fpure ?_
     refine ⟨?_, rfl⟩
     first | (rw [patS, if_pos (by assumption)]; done) | (rw [patS, if_neg (by omega), if_pos (by assumption)]; done) | (rw [patS, if_neg (by omega), if_neg (by omega), if_pos (by omega)]; done) | (rw [patS, if_neg (by omega), if_neg (by omega), if_neg (by omega)]; done)
    ·
     try simp only [decide_eq_true_eq, decide_eq_false_iff_not, Bool.not_eq_true', Bool.not_eq_false', beq_iff_eq, beq_eq_false_iff_ne, ne_eq] at h6
     refine Ry ?_
     refine Rq ?_
     refine Ry ?_
     refine Rq ?_
     refine Ry ?_
     refine Rq ?_
     refine Rq ?_
     have tr : ∀ a b c d e f g h i j k m n o p q r s t u v w x y z A B : AV, let l := lc_pat_any a b c d e f g h i j k m n o p q r s t; trim ((68,B)::(67,A)::(66,z)::(65,y)::(64,x)::(63,w)::(62,v)::(61,u)::l) l = [(0,a),(1,b),(2,c),(3,d),(6,e),(7,f),(9,g),(10,h),(11,i),(12,j),(13,k),(14,m),(15,n),(16,o),(17,p),(25,q),(38,r),(46,s),(68,B)] := by intros; rfl
     refine R_nil (tr ..) ?_; clear tr
     refine then_n ?_
     refine cdd (fun h7 => ?_) (fun h7 => ?_)
     ·
      try simp only [decide_eq_true_eq, decide_eq_false_iff_not, Bool.not_eq_true', Bool.not_eq_false', beq_iff_eq, beq_eq_false_iff_ne, ne_eq] at h7
      refine at_seq rfl ?_
      refine rg rfl ?_
      refine Rq ?_
      refine Rq ?_
      have tr : ∀ a b c d e f g h i j k m n o p q r s t u v : AV, let l := lc_pat_any a b c d e f g h i j k m n o p q r s t; trim ((7,v)::(6,u)::l) l = [(0,a),(1,b),(2,c),(3,d),(6,u),(7,v),(9,g),(10,h),(11,i),(12,j),(13,k),(14,m),(15,n),(16,o),(17,p),(25,q),(38,r),(46,s),(68,t)] := by intros; rfl
      refine R_nil (tr ..) ?_; clear tr
      refine then_n ?_
      refine at_ret rfl ?_
      refine then_r ?_
      refine fpure ?_
      refine ⟨?_, rfl⟩
      first | (rw [patS, if_pos (by assumption)]; done) | (rw [patS, if_neg (by omega), if_pos (by assumption)]; done) | (rw [patS, if_neg (by omega), if_neg (by omega), if_pos (by omega)]; done) | (rw [patS, if_neg (by omega), if_neg (by omega), if_neg (by omega)]; done)
     ·
      try simp only [decide_eq_true_eq, decide_eq_false_iff_not, Bool.not_eq_true', Bool.not_eq_false', beq_iff_eq, beq_eq_false_iff_ne, ne_eq] at h7
      refine at_skip rfl ?_
      refine then_n ?_
      refine at_seq rfl ?_
      refine rg rfl ?_
      refine R_q rfl (by simp (disch := first | omega | (simp only [List.length_map, List.length_append, List.length_set, List.length_cons, List.length_nil]; omega)) only [go_sem, ↓reduceIte, Nat.reduceEqDiff, reduceCtorEq, hsx, hsy] <;> rfl) ?_
      refine Rcall ?_
      refine ACall_eq (res_any _ _ rows per tot wth balls l m _ _ hx hy) ?_
      refine Rq ?_
      refine Rq ?_
      refine Rq ?_
      refine Rq ?_
      refine Rq ?_
      refine Rq ?_
      refine Rq ?_
      refine Rq ?_
      refine Rq ?_
      have tr : ∀ a b c d e f g h i j k m n o p q r s t u v w x y z A B C D E : AV, let l := lc_pat_any a b c d e f g h i j k m n o p q r s t; trim ((18,E)::(17,D)::(16,C)::(15,B)::(75,A)::(74,z)::(73,y)::(72,x)::(69,w)::(71,v)::(70,u)::l) l = [(0,a),(1,b),(2,c),(3,d),(6,e),(7,f),(9,g),(10,h),(11,i),(12,j),(13,k),(14,m),(15,B),(16,C),(17,D),(25,q),(38,r),(46,s),(68,t)] := by intros; rfl
      refine R_nil (tr ..) ?_; clear tr
      refine then_n ?_
      refine at_seq rfl ?_
      refine rg rfl ?_
      refine Rq ?_
      refine R_q rfl (by simp (disch := first | omega | (simp only [List.length_map, List.length_append, List.length_set, List.length_cons, List.length_nil]; omega)) only [go_sem, ↓reduceIte, Nat.reduceEqDiff, reduceCtorEq, hsx, hsy] <;> rfl) ?_
      refine Rq ?_
      refine Rq ?_
      refine Rq ?_
      refine Rq ?_
      refine Rq ?_
      refine R_q rfl (by simp (disch := first | omega | (simp only [List.length_map, List.length_append, List.length_set, List.length_cons, List.length_nil]; omega)) only [go_sem, ↓reduceIte, Nat.reduceEqDiff, reduceCtorEq, hsx, hsy] <;> rfl) ?_
      refine Rcall ?_
      refine ACall_eq (par_ok _ _ tot (res1 rows per balls l m) (res2 rows per balls l m) (atS rows per n w).1 (res3 rows per balls l m) wth) ?_
      refine Rq ?_
      refine Rq ?_
      refine Rq ?_
      refine Rq ?_
      have tr : ∀ a b c d e f g h i j k m n o p q r s t u v w x y z A B C D E F G : AV, let l := lc_pat_any a b c d e f g h i j k m n o p q r s t; trim ((7,G)::(6,F)::(86,E)::(85,D)::(84,C)::(83,B)::(82,A)::(81,z)::(80,y)::(79,x)::(78,w)::(77,v)::(76,u)::l) l = [(0,a),(1,b),(2,c),(3,d),(6,F),(7,G),(9,g),(10,h),(11,i),(12,j),(13,k),(14,m),(15,n),(16,o),(17,p),(25,q),(38,r),(46,s),(68,t)] := by intros; rfl
      refine R_nil (tr ..) ?_; clear tr
      refine then_n ?_
      refine at_ret rfl ?_
      refine fpure ?_
      refine ⟨?_, rfl⟩
      first | (rw [patS, if_pos (by assumption)]; done) | (rw [patS, if_neg (by omega), if_pos (by assumption)]; done) | (rw [patS, if_neg (by omega), if_neg (by omega), if_pos (by omega)]; done) | (rw [patS, if_neg (by omega), if_neg (by omega), if_neg (by omega)]; done)

abbrev lc_win_any (a b c d e f g h i j k m n : AV) : Env := [(0,a),(1,b),(2,c),(3,d),(4,e),(8,f),(9,g),(10,h),(11,i),(20,j),(22,k),(26,m),(30,n)]
theorem win_any (lim : Nat) (H : Heap) (rows : Tb) (per tot wth balls : Int) (l m : List Stp) (k n w : Int) (x y : AV) (hx : AnyS x l) (hy : AnyS y m) :
    ACall sig lim 22 [.agg [rowsAV rows, AV.i per, AV.i tot, AV.i wth, AV.i balls, x, y], AV.i k, AV.i n, AV.i w] H fun r H' => r = .tup [AV.i (winS rows per tot wth balls l m k n w).1, AV.i (winS rows per tot wth balls l m k n w).2] ∧ H' = H := by
 have hsx := hx.stor
 have hsy := hy.stor
 refine ACall_pure (fa := fa22) rfl rfl rfl rfl ?_
 have tr : ∀ a0 a1 a2 a3 : AV, env0 fa22.keep [a0, a1, a2, a3] = [(0,a0),(1,a1),(2,a2),(3,a3),(4,.any),(8,.any),(9,.any),(10,.any),(11,.any),(20,.any),(22,.any),(26,.any),(30,.any)] := fun a0 a1 a2 a3 => rfl
 refine W_to (tr _ _ _ _) ?_; clear tr
 refine at_seq rfl ?_
 refine rg rfl ?_
 refine R_box rfl (by simp (disch := first | omega | (simp only [List.length_map, List.length_append, List.length_set, List.length_cons, List.length_nil]; omega)) only [go_sem, ↓reduceIte, Nat.reduceEqDiff, reduceCtorEq, hsx, hsy] <;> rfl) rfl rfl ?_
 refine Rq ?_
 refine Rq ?_
 have tr : ∀ a b c d e f g h i j k m n o p q : AV, let l := lc_win_any a b c d e f g h i j k m n; trim ((9,q)::(8,p)::(4,o)::l) l = [(0,a),(1,b),(2,c),(3,d),(4,o),(8,p),(9,q),(10,h),(11,i),(20,j),(22,k),(26,m),(30,n)] := by intros; rfl
 refine R_nil (tr ..) ?_; clear tr
 refine then_n ?_
 refine at_seq rfl ?_
 refine rg rfl ?_
 refine R_q rfl (by simp (disch := first | omega | (simp only [List.length_map, List.length_append, List.length_set, List.length_cons, List.length_nil]; omega)) only [go_sem, ↓reduceIte, Nat.reduceEqDiff, reduceCtorEq, hsx, hsy] <;> rfl) ?_
 refine Rq ?_
 refine Rq ?_
 refine Rcall ?_
 refine ACall_eq (pat_any _ _ rows per tot wth balls l m n w _ _ hx hy) ?_
 refine Rq ?_
 refine Rq ?_
 refine Rq ?_
 refine Rq ?_
 refine Rq ?_
 have tr : ∀ a b c d e f g h i j k m n o p q r s t u v w : AV, let l := lc_win_any a b c d e f g h i j k m n; trim ((11,w)::(10,v)::(18,u)::(17,t)::(12,s)::(16,r)::(15,q)::(14,p)::(13,o)::l) l = [(0,a),(1,b),(2,c),(3,d),(4,e),(8,f),(9,g),(10,v),(11,w),(20,j),(22,k),(26,m),(30,n)] := by intros; rfl
 refine R_nil (tr ..) ?_; clear tr
 refine then_n ?_
 refine at_seq rfl ?_
 refine at_seq rfl ?_
 refine rg rfl ?_
 refine Rq ?_
 refine Rq ?_
 have tr : ∀ a b c d e f g h i j k m n o p : AV, let l := lc_win_any a b c d e f g h i j k m n; trim ((20,p)::(19,o)::l) l = [(0,a),(1,b),(2,c),(3,d),(4,e),(8,f),(9,g),(10,h),(11,i),(20,p),(22,k),(26,m),(30,n)] := by intros; rfl
 refine R_nil (tr ..) ?_; clear tr
 refine then_n ?_
 refine cdd (fun h1 => ?_) (fun h1 => ?_)
 ·
  try simp only [decide_eq_true_eq, decide_eq_false_iff_not, Bool.not_eq_true', Bool.not_eq_false', beq_iff_eq, beq_eq_false_iff_ne, ne_eq] at h1
  refine at_seq rfl ?_
  refine rg rfl ?_
  refine Rq ?_
  refine Rq ?_
  refine Rq ?_
  have tr : ∀ a b c d e f g h i j k m n o p q : AV, let l := lc_win_any a b c d e f g h i j k m n; trim ((9,q)::(8,p)::(21,o)::l) l = [(0,a),(1,b),(2,c),(3,d),(4,e),(8,p),(9,q),(10,h),(11,i),(20,j),(22,k),(26,m),(30,n)] := by intros; rfl
  refine R_nil (tr ..) ?_; clear tr
  refine then_n ?_
  refine at_ret rfl ?_
  refine then_r ?_
  refine fpure ?_
  refine ⟨?_, rfl⟩
  first | (rw [winS, if_pos (by assumption)]; done) | (rw [winS, if_neg (by omega), if_pos (by omega)]; done) | (rw [winS, if_neg (by omega), if_neg (by omega), if_pos (by omega)]; done) | (rw [winS, if_neg (by omega), if_neg (by omega), if_neg (by omega), if_pos (by omega)]; done) | (rw [winS, if_neg (by omega), if_neg (by omega), if_neg (by omega), if_neg (by omega)]; done)
 ·
  try simp only [decide_eq_true_eq, decide_eq_false_iff_not, Bool.not_eq_true', Bool.not_eq_false', beq_iff_eq, beq_eq_false_iff_ne, ne_eq] at h1
  refine at_skip rfl ?_
  refine then_n ?_
  refine at_seq rfl ?_
  refine at_block rfl ?_
  refine at_seq rfl ?_
  refine rg rfl ?_
  refine Rq ?_
  refine Rcall ?_
  refine ACall_eq (total_ok _ _ _) ?_
  refine Rq ?_
  refine Rq ?_
  have tr : ∀ a b c d e f g h i j k m n o p q r : AV, let l := lc_win_any a b c d e f g h i j k m n; trim ((22,r)::(25,q)::(24,p)::(23,o)::l) l = [(0,a),(1,b),(2,c),(3,d),(4,e),(8,f),(9,g),(10,h),(11,i),(20,j),(22,r),(26,m),(30,n)] := by intros; rfl
  refine R_nil (tr ..) ?_; clear tr
  refine then_n ?_
  refine cdd (fun h2 => ?_) (fun h2 => ?_)
  ·
   try simp only [decide_eq_true_eq, decide_eq_false_iff_not, Bool.not_eq_true', Bool.not_eq_false', beq_iff_eq, beq_eq_false_iff_ne, ne_eq] at h2
   refine at_seq rfl ?_
   refine rg rfl ?_
   refine Rq ?_
   refine Rq ?_
   have tr : ∀ a b c d e f g h i j k m n o p : AV, let l := lc_win_any a b c d e f g h i j k m n; trim ((9,p)::(8,o)::l) l = [(0,a),(1,b),(2,c),(3,d),(4,e),(8,o),(9,p),(10,h),(11,i),(20,j),(22,k),(26,m),(30,n)] := by intros; rfl
   refine R_nil (tr ..) ?_; clear tr
   refine then_n ?_
   refine at_ret rfl ?_
   refine blk_r ?_
   refine then_r ?_
   refine fpure ?_
   refine ⟨?_, rfl⟩
   first | (rw [winS, if_pos (by assumption)]; done) | (rw [winS, if_neg (by omega), if_pos (by omega)]; done) | (rw [winS, if_neg (by omega), if_neg (by omega), if_pos (by omega)]; done) | (rw [winS, if_neg (by omega), if_neg (by omega), if_neg (by omega), if_pos (by omega)]; done) | (rw [winS, if_neg (by omega), if_neg (by omega), if_neg (by omega), if_neg (by omega)]; done)
  ·
   try simp only [decide_eq_true_eq, decide_eq_false_iff_not, Bool.not_eq_true', Bool.not_eq_false', beq_iff_eq, beq_eq_false_iff_ne, ne_eq] at h2
   refine at_seq rfl ?_
   refine rg rfl ?_
   refine Rq ?_
   refine Rq ?_
   refine Rq ?_
   refine Rq ?_
   have tr : ∀ a b c d e f g h i j k m n o p q r : AV, let l := lc_win_any a b c d e f g h i j k m n; trim ((26,r)::(29,q)::(28,p)::(27,o)::l) l = [(0,a),(1,b),(2,c),(3,d),(4,e),(8,f),(9,g),(10,h),(11,i),(20,j),(22,k),(26,r),(30,n)] := by intros; rfl
   refine R_nil (tr ..) ?_; clear tr
   refine then_n ?_
   refine cdd (fun h3 => ?_) (fun h3 => ?_)
   ·
    try simp only [decide_eq_true_eq, decide_eq_false_iff_not, Bool.not_eq_true', Bool.not_eq_false', beq_iff_eq, beq_eq_false_iff_ne, ne_eq] at h3
    refine at_seq rfl ?_
    refine rg rfl ?_
    refine Rq ?_
    refine Rq ?_
    have tr : ∀ a b c d e f g h i j k m n o p : AV, let l := lc_win_any a b c d e f g h i j k m n; trim ((9,p)::(8,o)::l) l = [(0,a),(1,b),(2,c),(3,d),(4,e),(8,o),(9,p),(10,h),(11,i),(20,j),(22,k),(26,m),(30,n)] := by intros; rfl
    refine R_nil (tr ..) ?_; clear tr
    refine then_n ?_
    refine at_ret rfl ?_
    refine blk_r ?_
    refine then_r ?_
    refine fpure ?_
    refine ⟨?_, rfl⟩
    first | (rw [winS, if_pos (by assumption)]; done) | (rw [winS, if_neg (by omega), if_pos (by omega)]; done) | (rw [winS, if_neg (by omega), if_neg (by omega), if_pos (by omega)]; done) | (rw [winS, if_neg (by omega), if_neg (by omega), if_neg (by omega), if_pos (by omega)]; done) | (rw [winS, if_neg (by omega), if_neg (by omega), if_neg (by omega), if_neg (by omega)]; done)
   ·
    try simp only [decide_eq_true_eq, decide_eq_false_iff_not, Bool.not_eq_true', Bool.not_eq_false', beq_iff_eq, beq_eq_false_iff_ne, ne_eq] at h3
    refine at_seq rfl ?_
    refine rg rfl ?_
    refine Rq ?_
    refine Rq ?_
    refine Rq ?_
    refine Rq ?_
    have tr : ∀ a b c d e f g h i j k m n o p q r : AV, let l := lc_win_any a b c d e f g h i j k m n; trim ((30,r)::(33,q)::(32,p)::(31,o)::l) l = [(0,a),(1,b),(2,c),(3,d),(4,e),(8,f),(9,g),(10,h),(11,i),(20,j),(22,k),(26,m),(30,r)] := by intros; rfl
    refine R_nil (tr ..) ?_; clear tr
    refine then_n ?_
    refine cdd (fun h4 => ?_) (fun h4 => ?_)
    ·
     try simp only [decide_eq_true_eq, decide_eq_false_iff_not, Bool.not_eq_true', Bool.not_eq_false', beq_iff_eq, beq_eq_false_iff_ne, ne_eq] at h4
     refine at_seq rfl ?_
     refine rg rfl ?_
     refine Rq ?_
     refine Rq ?_
     have tr : ∀ a b c d e f g h i j k m n o p : AV, let l := lc_win_any a b c d e f g h i j k m n; trim ((9,p)::(8,o)::l) l = [(0,a),(1,b),(2,c),(3,d),(4,e),(8,o),(9,p),(10,h),(11,i),(20,j),(22,k),(26,m),(30,n)] := by intros; rfl
     refine R_nil (tr ..) ?_; clear tr
     refine then_n ?_
     refine at_ret rfl ?_
     refine blk_r ?_
     refine then_r ?_
     refine fpure ?_
     refine ⟨?_, rfl⟩
     first | (rw [winS, if_pos (by assumption)]; done) | (rw [winS, if_neg (by omega), if_pos (by omega)]; done) | (rw [winS, if_neg (by omega), if_neg (by omega), if_pos (by omega)]; done) | (rw [winS, if_neg (by omega), if_neg (by omega), if_neg (by omega), if_pos (by omega)]; done) | (rw [winS, if_neg (by omega), if_neg (by omega), if_neg (by omega), if_neg (by omega)]; done)
    ·
     try simp only [decide_eq_true_eq, decide_eq_false_iff_not, Bool.not_eq_true', Bool.not_eq_false', beq_iff_eq, beq_eq_false_iff_ne, ne_eq] at h4
     refine at_skip rfl ?_
     refine blk_n ?_
     refine then_n ?_
     refine at_seq rfl ?_
     refine rg rfl ?_
     refine Rq ?_
     refine Rq ?_
     have tr : ∀ a b c d e f g h i j k m n o p : AV, let l := lc_win_any a b c d e f g h i j k m n; trim ((9,p)::(8,o)::l) l = [(0,a),(1,b),(2,c),(3,d),(4,e),(8,o),(9,p),(10,h),(11,i),(20,j),(22,k),(26,m),(30,n)] := by intros; rfl
     refine R_nil (tr ..) ?_; clear tr
     refine then_n ?_
     refine at_ret rfl ?_
     refine fpure ?_
     refine ⟨?_, rfl⟩
     first | (rw [winS, if_pos (by assumption)]; done) | (rw [winS, if_neg (by omega), if_pos (by omega)]; done) | (rw [winS, if_neg (by omega), if_neg (by omega), if_pos (by omega)]; done) | (rw [winS, if_neg (by omega), if_neg (by omega), if_neg (by omega), if_pos (by omega)]; done) | (rw [winS, if_neg (by omega), if_neg (by omega), if_neg (by omega), if_neg (by omega)]; done)

end Go.Proofs.Ytaoondlakhocnaa
end
