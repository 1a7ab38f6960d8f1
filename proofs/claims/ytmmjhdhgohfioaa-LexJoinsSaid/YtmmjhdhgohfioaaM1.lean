/-
  THE READER IN MEMORY, and what its method put does: one token more, in a row of its own.
-/
import Derived.Test.YtmmjhdhgohfioaaBytes
import Derived.Deep.RegionLaw
namespace Go.Proofs.Ytmmjhdhgohfioaa.Gx
open Go.RowKit Go.Proofs.YtmmjhdhgohfioaaW.PrintWords Go.Proofs.YtmmjhdhgohfioaaW.PrintLast Go.Proofs.YtmmjhdhgohfioaaW.PrintMore
set_option linter.unusedVariables false
set_option linter.unusedSimpArgs false

/-- The reader at block g of W: its text, its place, and the tokens, in a row that was made since w0. -/
def Rdr (w0 W : World) (g : Nat) (f0 : ByteArray) (f1 : Int) (f2 : List (S31)) : Prop := ∃ A2 c2, W.heap[g]? = some (.cells #[.string f0, .int .i64 f1, .slice A2 f2.length c2] 41 (0, 0)) ∧ w0.heap.size ≤ g ∧ Kd.R k31 31 W w0.heap.size (fun _ => True) (.slice A2 f2.length c2) f2
theorem cellR_0 {W : World} {g : Nat} {v : Value} {f0 : ByteArray} {f1 : Int} (h : W.heap[g]? = some (.cells #[.string f0, .int .i64 f1, v] 41 (0, 0))) : W.cell? ⟨g, 0, none⟩ = some (.string f0) := (blk_cell h 0).trans rfl
theorem cellR_1 {W : World} {g : Nat} {v : Value} {f0 : ByteArray} {f1 : Int} (h : W.heap[g]? = some (.cells #[.string f0, .int .i64 f1, v] 41 (0, 0))) : W.cell? ⟨g, 1, none⟩ = some (.int .i64 f1) := (blk_cell h 1).trans rfl
theorem cellR_2 {W : World} {g : Nat} {v : Value} {f0 : ByteArray} {f1 : Int} (h : W.heap[g]? = some (.cells #[.string f0, .int .i64 f1, v] 41 (0, 0))) : W.cell? ⟨g, 2, none⟩ = some v := (blk_cell h 2).trans rfl
theorem Rdr.below {w0 W : World} {g : Nat} {f0 : ByteArray} {f1 : Int} {f2 : List (S31)} {W1 : World} (h : Rdr w0 W g f0 f1 f2) (hw : Below W.heap.size W W1) : Rdr w0 W1 g f0 f1 f2 := by
  obtain ⟨A2, c2, hb, hg, hr⟩ := h
  exact ⟨A2, c2, (hw.block g (blk_lt hb)).trans hb, hg, Kd.R_below hr hw⟩
theorem Rdr.alloc {w0 W : World} {g : Nat} {f0 : ByteArray} {f1 : Int} {f2 : List (S31)} (h : Rdr w0 W g f0 f1 f2) (o : Obj) : Rdr w0 (W.alloc o) g f0 f1 f2 := h.below (below_alloc (Below.refl _ _) o)
theorem Rdr.drewN {w0 W : World} {g : Nat} {f0 : ByteArray} {f1 : Int} {f2 : List (S31)} (h : Rdr w0 W g f0 f1 f2) (m : Nat) : Rdr w0 (W.drewN m) g f0 f1 f2 := h.below (pw_below_drewN (Below.refl _ _) m)
theorem Rdr.drew {w0 W : World} {g : Nat} {f0 : ByteArray} {f1 : Int} {f2 : List (S31)} (h : Rdr w0 W g f0 f1 f2) : Rdr w0 W.drew g f0 f1 f2 := h.below (below_drew (Below.refl _ _))
theorem Rdr.ge {w0 W : World} {g : Nat} {f0 : ByteArray} {f1 : Int} {f2 : List (S31)} (h : Rdr w0 W g f0 f1 f2) : w0.heap.size ≤ g := by
  obtain ⟨A2, c2, hb, hg, hr⟩ := h
  exact hg
theorem Rdr.set_0 {w0 W : World} {g : Nat} {f0 : ByteArray} {f1 : Int} {f2 : List (S31)} (h : Rdr w0 W g f0 f1 f2) (x : ByteArray) : Rdr w0 (W.setCell ⟨g, 0, none⟩ (.string x)) g x f1 f2 := by
  obtain ⟨A2, c2, hb, hg, hr⟩ := h
  exact ⟨A2, c2, by simpa using blk_set hb 0 (.string x), hg, Kd.R_set hr hb (by decide) 0 _⟩
theorem Rdr.set_1 {w0 W : World} {g : Nat} {f0 : ByteArray} {f1 : Int} {f2 : List (S31)} (h : Rdr w0 W g f0 f1 f2) (x : Int) : Rdr w0 (W.setCell ⟨g, 1, none⟩ (.int .i64 x)) g f0 x f2 := by
  obtain ⟨A2, c2, hb, hg, hr⟩ := h
  exact ⟨A2, c2, by simpa using blk_set hb 1 (.int .i64 x), hg, Kd.R_set hr hb (by decide) 1 _⟩
theorem put_after {w w1 : World} {g : Nat} {s : ByteArray} {at_ : Int} {A2 : Option Addr} {c2 B : Nat} {toks : List S31} {v1 : Value} {x : S31} (hb : w.heap[g]? = some (.cells #[.string s, .int .i64 at_, .slice A2 toks.length c2] 41 (0, 0)))
    (hr : Kd.R k31 31 w B (fun _ => True) (.slice A2 toks.length c2) toks) (ho : Kd.R k31 31 w1 B (fun _ => True) v1 (toks ++ [x])) (hg : w.drew.grownBy w1 (Value.slice A2 toks.length c2).ownBlock) :
    ∃ A3 c3, v1 = .slice A3 (toks ++ [x]).length c3 ∧ w1.heap[g]? = some (.cells #[.string s, .int .i64 at_, .slice A2 toks.length c2] 41 (0, 0)) ∧ Kd.R k31 31 w1 B (fun _ => True) (.slice A3 (toks ++ [x]).length c3) (toks ++ [x]) := by
  obtain ⟨A3, c3, rfl⟩ := Kd.R_slice ho
  exact ⟨A3, c3, rfl, blk_grown (w := w.drew) hb hg (Kd.R_ne hr hb (by decide)), ho⟩
theorem Rdr.put {w0 w1 : World} {g : Nat} {s : ByteArray} {at_ at2 : Int} {A2 A3 : Option Addr} {c2 c3 : Nat} {n : Nat} {toks : List S31} (hg : w0.heap.size ≤ g)
    (hb : w1.heap[g]? = some (.cells #[.string s, .int .i64 at_, .slice A2 n c2] 41 (0, 0))) (ho : Kd.R k31 31 w1 w0.heap.size (fun _ => True) (.slice A3 toks.length c3) toks) :
    Rdr w0 ((w1.setCell ⟨g, 2, none⟩ (.slice A3 toks.length c3)).setCell ⟨g, 1, none⟩ (.int .i64 at2)) g s at2 toks := by
  have h1 := blk_set hb 2 (.slice A3 toks.length c3)
  have h2 := blk_set h1 1 (.int .i64 at2)
  have r1 := Kd.R_set ho hb (by decide) 2 (.slice A3 toks.length c3)
  have r2 := Kd.R_set r1 h1 (by decide) 1 (.int .i64 at2)
  exact ⟨A3, c3, by simpa using h2, hg, r2⟩

set_option maxHeartbeats 2000000 in
set_option maxRecDepth 100000 in
theorem put_calls (g : Nat) (s0_0 : ByteArray) (s0_1 : Int) (s0_2 : List (S31)) (a1 : Int) (a2 : Int) (a3 : ByteArray) (a4 : Int) (w0 w : World) (hI : Rdr w0 w g s0_0 s0_1 s0_2) (hB : Below w0.heap.size w0 w) (hl : s0_2.length < 3518437208883) :
    Calls Try.prog 22 #[.pointer (some ⟨g, 0, none⟩), .int .i64 a1, .int .i64 a2, .string a3, .int .i64 a4] w fun e w' => e = .returned (.tuple #[]) ∧ Rdr w0 w' g s0_0 (wrap64 (s0_1 + a2)) (s0_2 ++ [⟨a1, a3, a4, s0_1⟩]) ∧ Below w0.heap.size w0 w' := by
  obtain ⟨A2, c2, hb, hg, hr⟩ := hI
  have hcz0 := cellR_0 hb
  have hcz1 := cellR_1 hb
  have hcz2 := cellR_2 hb
  have hfz0 := blk_frozen hb 0
  have hfz1 := blk_frozen hb 1
  have hfz2 := blk_frozen hb 2
  have hal1 : ∀ o, (w.alloc o).cell? ⟨g, 1, none⟩ = some (.int .i64 s0_1) := fun o => pw_cell_below (below_alloc (Below.refl _ _) o) hcz1
  have hal2 : ∀ o, (w.alloc o).cell? ⟨g, 2, none⟩ = some (.slice A2 s0_2.length c2) := fun o => pw_cell_below (below_alloc (Below.refl _ _) o) hcz2
  have HB := Aside0.mk hB
  have Hb := Aside0.mk hb
  have Hr := Aside0.mk hr
  have Hg := Aside0.mk hg
  have Hl := Aside0.mk hl
  clear hB hb hr hg hl
  go_enter Try.func22, Try.ntmps22
  go_wp2
  go_region_law (refine Kd.R_append_step (W := w.drew) k31 (w0 := w0) w0.heap.size rfl (.tmp 14) (.tmp 23) 22 31 (.agg #[(.int .i64 0), (.string ⟨#[]⟩), (.int .i64 0), (.int .i64 0)]) 40 rfl Try.underlying22 info31 rfl (by decide) (by omega) (.slice A2 s0_2.length c2) s0_2 (⟨a1, a3, a4, s0_1⟩ : S31) [.int .i64 a1, .string a3, .int .i64 a4, .int .i64 s0_1] (fun _ => True) (fun _ => False) rfl rfl (k31_mkM _ _ _ (⟨a1, a3, a4, s0_1⟩ : S31)) (fun _ hk => hk.elim) (fun _ _ => trivial) (Kd.R_drew Hr.out) (below_drew HB.out) HB.out.size (by have := Hl.out; omega) (fun v1 w1 ho hbl hgr hat => ?_); obtain ⟨A3, c3, rfl, hb1, ho1⟩ := put_after Hb.out Hr.out ho hgr; have hcy0 := cellR_0 hb1; have hcy1 := cellR_1 hb1; have hcy2 := cellR_2 hb1; have hfy1 := blk_frozen hb1 1; have hfy2 := blk_frozen hb1 2; have Hbl := Aside0.mk hbl; have Hb1 := Aside0.mk hb1; have Ho1 := Aside0.mk ho1; clear ho hbl hgr hat hb1 ho1)
  all_goals go_wp2
  all_goals go_end0
  all_goals
    have hp := Rdr.put (at2 := wrap64 (s0_1 + a2)) Hg.out Hb1.out Ho1.out
    rw [List.length_append, List.length_singleton] at hp
    exact ⟨rfl, hp, below_set (below_set Hbl.out Hg.out) Hg.out⟩
end Go.Proofs.Ytmmjhdhgohfioaa.Gx
