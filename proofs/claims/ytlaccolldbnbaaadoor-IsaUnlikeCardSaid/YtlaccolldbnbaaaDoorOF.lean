/-
  THE FUNCTION of: an operation's shape.
-/
import Derived.Test.YtlaccolldbnbaaaDoorA0
import Derived.Deep.WholeRow
namespace Go.Proofs.YtlaccolldbnbaaaDoor.Gx
open Go.RowKit Go.Proofs.YtlaccolldbnbaaaDoorW.PrintWords Go.Proofs.YtlaccolldbnbaaaDoorW.PrintLast Go.Proofs.YtlaccolldbnbaaaDoorW.PrintMore
attribute [local go_sem] max2_int min2_int max_two min_two max_three min_three max_four min_four
set_option linter.unusedVariables false
set_option linter.unusedSimpArgs false

def cs43 : Array Value := #[.string (⟨#[]⟩ : ByteArray), .int .i64 0, .bool false]
def cs57 : Array Value := #[.string (⟨#[104, 97, 108, 116]⟩ : ByteArray), .int .i64 0, .bool false, .string (⟨#[116, 114, 97, 112]⟩ : ByteArray), .int .i64 0, .bool true, .string (⟨#[109, 111, 118, 101]⟩ : ByteArray), .int .i64 3, .bool false, .string (⟨#[99, 111, 110, 115, 116]⟩ : ByteArray), .int .i64 1, .bool true, .string (⟨#[104, 105, 103, 104]⟩ : ByteArray), .int .i64 1, .bool true, .string (⟨#[108, 111, 97, 100]⟩ : ByteArray), .int .i64 3, .bool true, .string (⟨#[115, 116, 111, 114, 101]⟩ : ByteArray), .int .i64 3, .bool true, .string (⟨#[106, 117, 109, 112]⟩ : ByteArray), .int .i64 0, .bool true, .string (⟨#[122, 101, 114, 111]⟩ : ByteArray), .int .i64 1, .bool true, .string (⟨#[115, 111, 109, 101]⟩ : ByteArray), .int .i64 1, .bool true, .string (⟨#[99, 97, 108, 108]⟩ : ByteArray), .int .i64 0, .bool true, .string (⟨#[97, 116]⟩ : ByteArray), .int .i64 1, .bool false, .string (⟨#[114, 101, 116]⟩ : ByteArray), .int .i64 0, .bool false, .string (⟨#[105, 110]⟩ : ByteArray), .int .i64 1, .bool false, .string (⟨#[111, 117, 116]⟩ : ByteArray), .int .i64 1, .bool false, .string (⟨#[114, 111, 111, 109]⟩ : ByteArray), .int .i64 1, .bool false]
def cs58 : Array Value := #[.string (⟨#[97, 100, 100]⟩ : ByteArray), .string (⟨#[115, 117, 98]⟩ : ByteArray), .string (⟨#[109, 117, 108]⟩ : ByteArray), .string (⟨#[100, 105, 118]⟩ : ByteArray), .string (⟨#[114, 101, 109]⟩ : ByteArray), .string (⟨#[97, 110, 100]⟩ : ByteArray), .string (⟨#[111, 114]⟩ : ByteArray), .string (⟨#[120, 111, 114]⟩ : ByteArray), .string (⟨#[115, 104, 108]⟩ : ByteArray), .string (⟨#[115, 104, 114]⟩ : ByteArray), .string (⟨#[101, 113]⟩ : ByteArray), .string (⟨#[110, 101]⟩ : ByteArray), .string (⟨#[108, 116]⟩ : ByteArray), .string (⟨#[108, 101]⟩ : ByteArray), .string (⟨#[103, 116]⟩ : ByteArray), .string (⟨#[103, 101]⟩ : ByteArray)]
def cs59 : Array Value := #[.string (⟨#[110, 101, 103]⟩ : ByteArray), .string (⟨#[102, 108, 105, 112]⟩ : ByteArray), .string (⟨#[98, 97, 110, 103]⟩ : ByteArray)]
/-- The shapes of the operations from 0 on; the names of those with three registers; of those with two. -/
def plainL : List (ByteArray × Int × Bool) := [((⟨#[104, 97, 108, 116]⟩ : ByteArray), 0, false), ((⟨#[116, 114, 97, 112]⟩ : ByteArray), 0, true), ((⟨#[109, 111, 118, 101]⟩ : ByteArray), 3, false), ((⟨#[99, 111, 110, 115, 116]⟩ : ByteArray), 1, true), ((⟨#[104, 105, 103, 104]⟩ : ByteArray), 1, true), ((⟨#[108, 111, 97, 100]⟩ : ByteArray), 3, true), ((⟨#[115, 116, 111, 114, 101]⟩ : ByteArray), 3, true), ((⟨#[106, 117, 109, 112]⟩ : ByteArray), 0, true), ((⟨#[122, 101, 114, 111]⟩ : ByteArray), 1, true), ((⟨#[115, 111, 109, 101]⟩ : ByteArray), 1, true), ((⟨#[99, 97, 108, 108]⟩ : ByteArray), 0, true), ((⟨#[97, 116]⟩ : ByteArray), 1, false), ((⟨#[114, 101, 116]⟩ : ByteArray), 0, false), ((⟨#[105, 110]⟩ : ByteArray), 1, false), ((⟨#[111, 117, 116]⟩ : ByteArray), 1, false), ((⟨#[114, 111, 111, 109]⟩ : ByteArray), 1, false)]
def twoL : List ByteArray := [(⟨#[97, 100, 100]⟩ : ByteArray), (⟨#[115, 117, 98]⟩ : ByteArray), (⟨#[109, 117, 108]⟩ : ByteArray), (⟨#[100, 105, 118]⟩ : ByteArray), (⟨#[114, 101, 109]⟩ : ByteArray), (⟨#[97, 110, 100]⟩ : ByteArray), (⟨#[111, 114]⟩ : ByteArray), (⟨#[120, 111, 114]⟩ : ByteArray), (⟨#[115, 104, 108]⟩ : ByteArray), (⟨#[115, 104, 114]⟩ : ByteArray), (⟨#[101, 113]⟩ : ByteArray), (⟨#[110, 101]⟩ : ByteArray), (⟨#[108, 116]⟩ : ByteArray), (⟨#[108, 101]⟩ : ByteArray), (⟨#[103, 116]⟩ : ByteArray), (⟨#[103, 101]⟩ : ByteArray)]
def oneL : List ByteArray := [(⟨#[110, 101, 103]⟩ : ByteArray), (⟨#[102, 108, 105, 112]⟩ : ByteArray), (⟨#[98, 97, 110, 103]⟩ : ByteArray)]
/-- What lies in memory once the three tables are laid. -/
def OfAt (w W : World) : Prop := Below w.heap.size w W ∧ W.heap[w.heap.size]? = some (.cells cs43 43 (0, 0)) ∧ W.heap[w.heap.size + 1]? = some (.cells cs57 57 (0, 0)) ∧ W.heap[w.heap.size + 1 + 1]? = some (.cells cs58 58 (0, 0)) ∧ W.heap[w.heap.size + 1 + 1 + 1]? = some (.cells cs59 59 (0, 0))
theorem size_alloc1 (w : World) (o : Obj) : (w.alloc o).heap.size = w.heap.size + 1 := Array.size_push ..
theorem OfAt.laid (w : World) : OfAt w ((((w.alloc (.cells cs43 43)).alloc (.cells cs57 57)).alloc (.cells cs58 58)).alloc (.cells cs59 59)) := by
  have s1 := size_alloc1 w (.cells cs43 43)
  have s2 := size_alloc1 (w.alloc (.cells cs43 43)) (.cells cs57 57)
  have s3 := size_alloc1 ((w.alloc (.cells cs43 43)).alloc (.cells cs57 57)) (.cells cs58 58)
  have n2 := blk_new (w.alloc (.cells cs43 43)) (.cells cs57 57)
  have n3 := blk_new ((w.alloc (.cells cs43 43)).alloc (.cells cs57 57)) (.cells cs58 58)
  have n4 := blk_new (((w.alloc (.cells cs43 43)).alloc (.cells cs57 57)).alloc (.cells cs58 58)) (.cells cs59 59)
  rw [s1] at s2 n2
  rw [s2] at s3 n3
  rw [s3] at n4
  exact ⟨below_alloc (below_alloc (below_alloc (below_alloc (Below.refl _ _) _) _) _) _, blk_alloc (blk_alloc (blk_alloc (blk_new w _) _) _) _, blk_alloc (blk_alloc n2 _) _, blk_alloc n3 _, n4⟩
theorem gen_world {P : World → Prop} {W : World} (Q : World → Prop) (hq : Q W) (h : ∀ w9, Q w9 → P w9) : P W := h W hq
theorem cell57 {w W : World} (h : OfAt w W) (i : Nat) (hi : i < 16) : W.cell? ⟨w.heap.size + 1, i * 3, none⟩ = some (.string (plainL.getD i (⟨#[]⟩, 0, false)).1) ∧ W.cell? ⟨w.heap.size + 1, i * 3 + 1, none⟩ = some (.int .i64 (plainL.getD i (⟨#[]⟩, 0, false)).2.1) ∧ W.cell? ⟨w.heap.size + 1, i * 3 + 2, none⟩ = some (.bool (plainL.getD i (⟨#[]⟩, 0, false)).2.2) := by
  obtain ⟨_, _, h2, _, _⟩ := h
  rw [blk_cell h2, blk_cell h2, blk_cell h2]
  rcases (show i = 0 ∨ i = 1 ∨ i = 2 ∨ i = 3 ∨ i = 4 ∨ i = 5 ∨ i = 6 ∨ i = 7 ∨ i = 8 ∨ i = 9 ∨ i = 10 ∨ i = 11 ∨ i = 12 ∨ i = 13 ∨ i = 14 ∨ i = 15 by omega) with rfl | rfl | rfl | rfl | rfl | rfl | rfl | rfl | rfl | rfl | rfl | rfl | rfl | rfl | rfl | rfl <;> exact ⟨rfl, rfl, rfl⟩
theorem cell58 {w W : World} (h : OfAt w W) (i : Nat) (hi : i < 16) : W.cell? ⟨w.heap.size + 1 + 1, i, none⟩ = some (.string (twoL.getD i ⟨#[]⟩)) := by
  obtain ⟨_, _, _, h3, _⟩ := h
  rw [blk_cell h3]
  rcases (show i = 0 ∨ i = 1 ∨ i = 2 ∨ i = 3 ∨ i = 4 ∨ i = 5 ∨ i = 6 ∨ i = 7 ∨ i = 8 ∨ i = 9 ∨ i = 10 ∨ i = 11 ∨ i = 12 ∨ i = 13 ∨ i = 14 ∨ i = 15 by omega) with rfl | rfl | rfl | rfl | rfl | rfl | rfl | rfl | rfl | rfl | rfl | rfl | rfl | rfl | rfl | rfl <;> rfl
theorem cell59 {w W : World} (h : OfAt w W) (i : Nat) (hi : i < 3) : W.cell? ⟨w.heap.size + 1 + 1 + 1, i, none⟩ = some (.string (oneL.getD i ⟨#[]⟩)) := by
  obtain ⟨_, _, _, _, h4⟩ := h
  rw [blk_cell h4]
  rcases (show i = 0 ∨ i = 1 ∨ i = 2 by omega) with rfl | rfl | rfl <;> rfl
/-- A whole array, stored into the block that was made last. -/
theorem store_new {P : Program} {ops : Array Oper} {rest : List Oper} {o : Oper} {a : Act} {Q : Exit → Act → World → Prop} (W : World) (old cs : Array Value) (ty : TypeId) (x y : Operand) (hgd : o.guard = none) (ho : o.op = .store ty x y)
    (g : Nat) (hg : W.heap.size = g) (hx : a.eval x = .pointer (some ⟨g, 0, none⟩)) (hy : a.eval y = .agg cs) (hi : (P.info? ty).map (·.size) = some cs.size) (hold : old.size = cs.size) (h1 : cs.all (·.oneCell') = true)
    (h : wpList P ops Q rest (a.put o.dst undef) (W.alloc (.cells cs ty))) : wpList P ops Q (o :: rest) a (W.alloc (.cells old ty)) := by
  subst hg
  refine wpList_store_row hgd ty x y ho W.heap.size cs hx hy ty old (heap_alloc_last W _) hi hold h1 ?_
  rw [World.setRow_alloc_new]
  exact h
theorem size57 : (Tryd.prog.info? 57).map (·.size) = some cs57.size := by kernel_rfl
theorem size58 : (Tryd.prog.info? 58).map (·.size) = some cs58.size := by kernel_rfl
theorem size59 : (Tryd.prog.info? 59).map (·.size) = some cs59.size := by kernel_rfl
theorem one57 : cs57.all (·.oneCell') = true := by kernel_rfl
theorem one58 : cs58.all (·.oneCell') = true := by kernel_rfl
theorem one59 : cs59.all (·.oneCell') = true := by kernel_rfl

def isa_of.f (a0 : Int) : Option (ByteArray × Int × Bool × Bool) := some (if 0 ≤ a0 ∧ a0 < 16 then ((plainL.getD a0.toNat (⟨#[]⟩, 0, false)).1, (plainL.getD a0.toNat (⟨#[]⟩, 0, false)).2.1, (plainL.getD a0.toNat (⟨#[]⟩, 0, false)).2.2, true) else if 17 ≤ a0 ∧ a0 ≤ 32 then (twoL.getD (a0 - 17).toNat ⟨#[]⟩, 7, false, true) else if 41 ≤ a0 ∧ a0 ≤ 43 then (oneL.getD (a0 - 41).toNat ⟨#[]⟩, 3, false, true) else (⟨#[]⟩, 0, false, false))
set_option maxHeartbeats 8000000 in
set_option maxRecDepth 100000 in
theorem isa_of.calls (a0 : Int) (r1 : ByteArray) (r2 : Int) (r3 : Bool) (r4 : Bool) (w : World) (h : isa_of.f a0 = some (r1, r2, r3, r4)) :
    Calls Tryd.prog 20 #[.int .i64 a0] w fun e w' => e = .returned (.tuple #[.agg #[.string r1, .int .i64 r2, .bool r3], .bool r4]) ∧ Below w.heap.size w w' := by
  have hu43 := Tryd.underlying43
  replace h := Option.some.inj h
  have HH := Aside0.mk h
  clear h
  go_enter Tryd.func20, Tryd.ntmps20
  go_upto_region 4 with (first | (refine store_new _ _ cs57 57 (.tmp 4) (.tmp 23) rfl rfl (w.heap.size + 1) ?g57 rfl rfl size57 rfl one57 ?_; (case g57 => rw [size_alloc1])) | (refine store_new _ _ cs58 58 (.tmp 5) (.tmp 24) rfl rfl (w.heap.size + 1 + 1) ?g58 rfl rfl size58 rfl one58 ?_; (case g58 => rw [size_alloc1, size_alloc1])) | (refine store_new _ _ cs59 59 (.tmp 6) (.tmp 25) rfl rfl (w.heap.size + 1 + 1 + 1) ?g59 rfl rfl size59 rfl one59 ?_; (case g59 => rw [size_alloc1, size_alloc1, size_alloc1])))
  refine gen_world (OfAt w) (OfAt.laid w) ?_
  intro W hW
  have HW := Aside0.mk hW
  have hw2 := blk_frozen hW.2.1 0
  have hw3 := blk_frozen hW.2.1 1
  have hw4 := blk_frozen hW.2.1 2
  have hw5 : W.cell? ⟨w.heap.size, 0, none⟩ = some (.string (⟨#[]⟩ : ByteArray)) := (blk_cell hW.2.1 0).trans rfl
  have hw6 : W.cell? ⟨w.heap.size, 1, none⟩ = some (.int .i64 0) := (blk_cell hW.2.1 1).trans rfl
  have hw7 : W.cell? ⟨w.heap.size, 2, none⟩ = some (.bool false) := (blk_cell hW.2.1 2).trans rfl
  clear hW
  by_cases d1 : 0 ≤ a0 ∧ a0 < 16
  · have H := HH.out
    rw [if_pos d1] at H
    simp only [Prod.mk.injEq] at H
    obtain ⟨rfl, rfl, rfl, rfl⟩ := H
    clear HH
    obtain ⟨hx0, hx1, hx2⟩ := cell57 HW.out a0.toNat (by omega)
    obtain ⟨h0, h1⟩ := d1
    have c0 : decide (0 ≤ a0) = true := decide_eq_true h0
    have c1 : decide (a0 < 16) = true := decide_eq_true h1
    have c2 := eq_true h0
    have c3 := eq_true h1
    clear h0 h1
    go_wp2
    refine bodyPost_ret (results_ct rfl _ _ w.heap.size 43 #[.string ((plainL.getD a0.toNat (⟨#[]⟩, 0, false)).1), .int .i64 ((plainL.getD a0.toNat (⟨#[]⟩, 0, false)).2.1), .bool ((plainL.getD a0.toNat (⟨#[]⟩, 0, false)).2.2)] (0, 0) _ rfl (blk_put (cs := #[.string ((plainL.getD a0.toNat (⟨#[]⟩, 0, false)).1), .int .i64 ((plainL.getD a0.toNat (⟨#[]⟩, 0, false)).2.1), .bool false]) (blk_put (cs := #[.string ((plainL.getD a0.toNat (⟨#[]⟩, 0, false)).1), .int .i64 0, .bool false]) (blk_put (cs := cs43) HW.out.2.1 0 _ rfl) 1 _ rfl) 2 _ rfl) Tryd.underlying43 rfl (by kernel_rfl)) rfl ?_
    exact ⟨rfl, below_set (below_set (below_set HW.out.1 (Nat.le_refl _)) (Nat.le_refl _)) (Nat.le_refl _)⟩
  · by_cases d2 : 17 ≤ a0 ∧ a0 ≤ 32
    · have H := HH.out
      rw [if_neg d1, if_pos d2] at H
      simp only [Prod.mk.injEq] at H
      obtain ⟨rfl, rfl, rfl, rfl⟩ := H
      clear HH
      have hx := cell58 HW.out (a0 - 17).toNat (by omega)
      obtain ⟨h0, h1⟩ := d2
      have c0 : decide (0 ≤ a0) = true := decide_eq_true (by omega)
      have c1 : decide (a0 < 16) = false := decide_eq_false (by omega)
      have c2 : decide (17 ≤ a0) = true := decide_eq_true h0
      have c3 : decide (a0 ≤ 32) = true := decide_eq_true h1
      obtain ⟨j, hj⟩ : ∃ j, j = a0 - 17 := ⟨_, rfl⟩
      have cj : wrap64 (wrap64 (a0 - 16) - 1) = j := by unfold wrap64; omega
      have c4 : (0 ≤ j) = True := eq_true (by omega)
      have c5 : (j < 16) = True := eq_true (by omega)
      rw [← hj] at hx
      have HJ := Aside0.mk hj
      clear h0 h1 d1 hj
      go_wp2
      refine bodyPost_ret (results_ct rfl _ _ w.heap.size 43 #[.string (twoL.getD j.toNat ⟨#[]⟩), .int .i64 (7), .bool (false)] (0, 0) _ rfl (blk_put (cs := #[.string (twoL.getD j.toNat ⟨#[]⟩), .int .i64 (7), .bool false]) (blk_put (cs := #[.string (twoL.getD j.toNat ⟨#[]⟩), .int .i64 0, .bool false]) (blk_put (cs := cs43) HW.out.2.1 0 _ rfl) 1 _ rfl) 2 _ rfl) Tryd.underlying43 rfl (by kernel_rfl)) rfl ?_
      exact ⟨by rw [HJ.out]; rfl, below_set (below_set (below_set HW.out.1 (Nat.le_refl _)) (Nat.le_refl _)) (Nat.le_refl _)⟩
    · by_cases d3 : 41 ≤ a0 ∧ a0 ≤ 43
      · have H := HH.out
        rw [if_neg d1, if_neg d2, if_pos d3] at H
        simp only [Prod.mk.injEq] at H
        obtain ⟨rfl, rfl, rfl, rfl⟩ := H
        clear HH
        have hx := cell59 HW.out (a0 - 41).toNat (by omega)
        obtain ⟨h0, h1⟩ := d3
        have c0 : decide (0 ≤ a0) = true := decide_eq_true (by omega)
        have c1 : decide (a0 < 16) = false := decide_eq_false (by omega)
        have c2 : decide (17 ≤ a0) = true := decide_eq_true (by omega)
        have c3 : decide (a0 ≤ 32) = false := decide_eq_false (by omega)
        have c6 : decide (41 ≤ a0) = true := decide_eq_true h0
        have c7 : decide (a0 ≤ 43) = true := decide_eq_true h1
        obtain ⟨j, hj⟩ : ∃ j, j = a0 - 41 := ⟨_, rfl⟩
        have cj : wrap64 (wrap64 (a0 - 40) - 1) = j := by unfold wrap64; omega
        have c4 : (0 ≤ j) = True := eq_true (by omega)
        have c5 : (j < 3) = True := eq_true (by omega)
        rw [← hj] at hx
        have HJ := Aside0.mk hj
        clear h0 h1 d1 d2 hj
        go_wp2
        refine bodyPost_ret (results_ct rfl _ _ w.heap.size 43 #[.string (oneL.getD j.toNat ⟨#[]⟩), .int .i64 (3), .bool (false)] (0, 0) _ rfl (blk_put (cs := #[.string (oneL.getD j.toNat ⟨#[]⟩), .int .i64 (3), .bool false]) (blk_put (cs := #[.string (oneL.getD j.toNat ⟨#[]⟩), .int .i64 0, .bool false]) (blk_put (cs := cs43) HW.out.2.1 0 _ rfl) 1 _ rfl) 2 _ rfl) Tryd.underlying43 rfl (by kernel_rfl)) rfl ?_
        exact ⟨by rw [HJ.out]; rfl, below_set (below_set (below_set HW.out.1 (Nat.le_refl _)) (Nat.le_refl _)) (Nat.le_refl _)⟩
      · have H := HH.out
        rw [if_neg d1, if_neg d2, if_neg d3] at H
        simp only [Prod.mk.injEq] at H
        obtain ⟨rfl, rfl, rfl, rfl⟩ := H
        clear HH
        have c0 : (decide (0 ≤ a0) && decide (a0 < 16)) = false := by rw [Bool.eq_false_iff]; intro h; simp only [Bool.and_eq_true, decide_eq_true_iff] at h; exact d1 h
        have c1 : (decide (17 ≤ a0) && decide (a0 ≤ 32)) = false := by rw [Bool.eq_false_iff]; intro h; simp only [Bool.and_eq_true, decide_eq_true_iff] at h; exact d2 h
        have c2 : (decide (41 ≤ a0) && decide (a0 ≤ 43)) = false := by rw [Bool.eq_false_iff]; intro h; simp only [Bool.and_eq_true, decide_eq_true_iff] at h; exact d3 h
        by_cases e0 : 0 ≤ a0
        · have b0 : decide (0 ≤ a0) = true := decide_eq_true e0
          have b1 : decide (a0 < 16) = false := decide_eq_false (by omega)
          by_cases e1 : 17 ≤ a0
          · have b2 : decide (17 ≤ a0) = true := decide_eq_true e1
            have b3 : decide (a0 ≤ 32) = false := decide_eq_false (by omega)
            by_cases e2 : 41 ≤ a0
            · have b4 : decide (41 ≤ a0) = true := decide_eq_true e2
              have b5 : decide (a0 ≤ 43) = false := decide_eq_false (by omega)
              clear c0 c1 c2 d1 d2 d3 e0 e1 e2
              go_wp2
              refine bodyPost_ret (results_ct rfl _ _ w.heap.size 43 #[.string (⟨#[]⟩), .int .i64 (0), .bool (false)] (0, 0) _ rfl (blk_put (cs := #[.string (⟨#[]⟩), .int .i64 (0), .bool false]) (blk_put (cs := #[.string (⟨#[]⟩), .int .i64 0, .bool false]) (blk_put (cs := cs43) HW.out.2.1 0 _ rfl) 1 _ rfl) 2 _ rfl) Tryd.underlying43 rfl (by kernel_rfl)) rfl ?_
              exact ⟨rfl, below_set (below_set (below_set HW.out.1 (Nat.le_refl _)) (Nat.le_refl _)) (Nat.le_refl _)⟩
            · have b4 : decide (41 ≤ a0) = false := decide_eq_false e2
              clear c0 c1 c2 d1 d2 d3 e0 e1 e2
              go_wp2
              refine bodyPost_ret (results_ct rfl _ _ w.heap.size 43 #[.string (⟨#[]⟩), .int .i64 (0), .bool (false)] (0, 0) _ rfl (blk_put (cs := #[.string (⟨#[]⟩), .int .i64 (0), .bool false]) (blk_put (cs := #[.string (⟨#[]⟩), .int .i64 0, .bool false]) (blk_put (cs := cs43) HW.out.2.1 0 _ rfl) 1 _ rfl) 2 _ rfl) Tryd.underlying43 rfl (by kernel_rfl)) rfl ?_
              exact ⟨rfl, below_set (below_set (below_set HW.out.1 (Nat.le_refl _)) (Nat.le_refl _)) (Nat.le_refl _)⟩
          · have b2 : decide (17 ≤ a0) = false := decide_eq_false e1
            have b4 : decide (41 ≤ a0) = false := decide_eq_false (by omega)
            clear c0 c1 c2 d1 d2 d3 e0 e1
            go_wp2
            refine bodyPost_ret (results_ct rfl _ _ w.heap.size 43 #[.string (⟨#[]⟩), .int .i64 (0), .bool (false)] (0, 0) _ rfl (blk_put (cs := #[.string (⟨#[]⟩), .int .i64 (0), .bool false]) (blk_put (cs := #[.string (⟨#[]⟩), .int .i64 0, .bool false]) (blk_put (cs := cs43) HW.out.2.1 0 _ rfl) 1 _ rfl) 2 _ rfl) Tryd.underlying43 rfl (by kernel_rfl)) rfl ?_
            exact ⟨rfl, below_set (below_set (below_set HW.out.1 (Nat.le_refl _)) (Nat.le_refl _)) (Nat.le_refl _)⟩
        · have b0 : decide (0 ≤ a0) = false := decide_eq_false e0
          have b2 : decide (17 ≤ a0) = false := decide_eq_false (by omega)
          have b4 : decide (41 ≤ a0) = false := decide_eq_false (by omega)
          clear c0 c1 c2 d1 d2 d3 e0
          go_wp2
          refine bodyPost_ret (results_ct rfl _ _ w.heap.size 43 #[.string (⟨#[]⟩), .int .i64 (0), .bool (false)] (0, 0) _ rfl (blk_put (cs := #[.string (⟨#[]⟩), .int .i64 (0), .bool false]) (blk_put (cs := #[.string (⟨#[]⟩), .int .i64 0, .bool false]) (blk_put (cs := cs43) HW.out.2.1 0 _ rfl) 1 _ rfl) 2 _ rfl) Tryd.underlying43 rfl (by kernel_rfl)) rfl ?_
          exact ⟨rfl, below_set (below_set (below_set HW.out.1 (Nat.le_refl _)) (Nat.le_refl _)) (Nat.le_refl _)⟩
end Go.Proofs.YtlaccolldbnbaaaDoor.Gx
