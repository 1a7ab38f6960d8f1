/-
  THE LIBRARY's FUNCTIONS ON THE ROAD (Itoa of 0 to 99, FormatInt at base 10, strings.Join), out of the shelf, in the form in which the walks meet them.
-/
import Derived.Test.YtlaccolldbnbaaaDoorA0
import Derived.Test.YtlaccolldbnbaaaDoorS0
import Derived.Lib.LaidTab
namespace Go.Proofs.YtlaccolldbnbaaaDoor.Gx
open Go.RowKit Go.Proofs.YtlaccolldbnbaaaDoorW.PrintWords Go.Proofs.YtlaccolldbnbaaaDoorW.PrintLast Go.Proofs.YtlaccolldbnbaaaDoorW.PrintMore
set_option linter.unusedVariables false
set_option linter.unusedSimpArgs false
theorem info9 : (Tryd.prog.info? 9).map (fun i => (i.zero, i.size, i.bytes)) = some (some (.string ⟨#[]⟩), 1, 16) := by kernel_rfl
/-- The library's table of powers of ten lies in memory. -/
def TabW (w : World) : Prop := Lib.TabIs Tryd.prog w "internal/strconv.uint64pow10" .u64 Lib.pow10Tab
theorem tab_global : ∃ g, Tryd.prog.globalNamed "internal/strconv.uint64pow10" = some g := by first | exact ⟨0, by kernel_rfl⟩ | exact ⟨1, by kernel_rfl⟩ | exact ⟨2, by kernel_rfl⟩ | exact ⟨3, by kernel_rfl⟩ | exact ⟨4, by kernel_rfl⟩
theorem TabW.low {w W : World} (h : TabW w) (hb : Below w.heap.size w W) : TabW W := by
  obtain ⟨g, hg⟩ := tab_global
  unfold TabW Lib.TabIs World.var? at h ⊢
  rw [hg] at h ⊢
  simp only [Option.bind_some] at h ⊢
  have hlt : g < w.heap.size := by
    rcases Nat.lt_or_ge g w.heap.size with h1 | h1
    · exact h1
    · rw [Array.getElem?_eq_none h1] at h
      cases h
  rw [hb.block g hlt]
  exact h
theorem below_grow (w : World) (k : Nat) (os : Array Obj) : Below w.heap.size w (Go.Sort.grow (w.drewN k) os) := by
  refine ⟨rfl, rfl, rfl, ?_, fun i hi => ?_⟩
  · show w.heap.size ≤ (w.heap ++ os).size
    rw [Array.size_append]; omega
  · show (w.heap ++ os)[i]? = w.heap[i]?
    rw [Array.getElem?_append_left hi]
def strconv_Itoa_23.f (a0 : Int) : Option (ByteArray) := if 0 ≤ a0 ∧ a0 < 100 then some ⟨(Lib.decDigits a0.toNat).toArray⟩ else none
theorem strconv_Itoa_23.calls (a0 : Int) (r : ByteArray) (w : World) (h : strconv_Itoa_23.f a0 = some r) :
    Calls Tryd.prog 23 #[.int .i64 a0] w fun e w' => e = .returned (.string r) ∧ Drawn0 w w' := by
  unfold strconv_Itoa_23.f at h
  split at h
  · rename_i hr
    obtain ⟨n, rfl⟩ : ∃ n : Nat, a0 = (n : Int) := ⟨a0.toNat, by omega⟩
    rw [Int.toNat_natCast] at h
    refine (Tryd.strconv_Itoa_small n (by omega) w).mono fun e w' ⟨he, hw⟩ => ?_
    rw [he, hw, Option.some.inj h]
    exact ⟨rfl, Drawn0.refl _⟩
  · cases h
def strconv_FormatInt_24.f (a0 : Int) (a1 : Int) : Option (ByteArray) := if (-9223372036854775808 ≤ a0 ∧ a0 ≤ 9223372036854775807) ∧ a1 = 10 then some ⟨(Lib.itoa a0).toArray⟩ else none
theorem strconv_FormatInt_24.calls (a0 : Int) (a1 : Int) (r : ByteArray) (w : World) (ht : TabW w) (h : strconv_FormatInt_24.f a0 a1 = some r) :
    Calls Tryd.prog 24 #[.int .i64 a0, .int .i64 a1] w fun e w' => e = .returned (.string r) ∧ Below w.heap.size w w' := by
  unfold strconv_FormatInt_24.f at h
  split at h
  · rename_i hr
    obtain ⟨⟨h0, h1⟩, rfl⟩ := hr
    refine (Tryd.strconv_FormatInt_10 a0 h0 h1 w ht).mono fun e w' ⟨he, k, os, hw⟩ => ?_
    rw [he, hw, Option.some.inj h]
    exact ⟨rfl, below_grow w k os⟩
  · cases h
def strings_Join.f (l0 : List ByteArray) (a1 : ByteArray) : Option (ByteArray) := if l0 ≠ [] ∧ l0.length ≤ 140737488355328 ∧ (Lib.join (l0.map (·.data.toList)) a1.data.toList).length ≤ 140737488355328 then some ⟨(Lib.join (l0.map (·.data.toList)) a1.data.toList).toArray⟩ else none
theorem strings_Join.calls (A0 : Option Addr) (c0 : Nat) (l0 : List ByteArray) (a1 : ByteArray) (r : ByteArray) (w : World) (hA : ∀ ad, A0 = some ad → ∃ g, ad = ⟨g, 0, none⟩) (hr0 : Kd.C Kd.string w A0 l0.length l0) (hc0 : l0.length ≤ c0) (h : strings_Join.f l0 a1 = some r) :
    Calls Tryd.prog 25 #[.slice A0 l0.length c0, .string a1] w fun e w' => e = .returned (.string r) ∧ Below w.heap.size w w' := by
  unfold strings_Join.f at h
  split at h
  · rename_i hr
    obtain ⟨hne, hN, hlen⟩ := hr
    have hpos : 0 < l0.length := List.length_pos_iff.2 hne
    obtain ⟨ad, rfl, hc⟩ := hr0.2.2 hpos
    obtain ⟨g, rfl⟩ := hA ad rfl
    have hcells : ∀ (j : Nat) x, l0[j]? = some x → w.cell? ⟨g, 0 + j, none⟩ = some (.string x) := by
      intro j x hj
      obtain ⟨c, hs, hk, hcell⟩ := hc j x hj
      have hk : c = [.string x] := hk
      subst hk
      have := hcell 0 _ rfl
      rw [show j * Kd.string.sz + 0 = j from (show j * 1 + 0 = j by omega)] at this
      have ha : (⟨g, 0, none⟩ : Addr).add j = ⟨g, 0 + j, none⟩ := by unfold Addr.add; split <;> simp_all
      rw [ha] at this
      exact this
    have hg : g < w.heap.size := by
      have h0 := hcells 0 _ (List.getElem?_eq_getElem hpos)
      exact World.block_lt_of_cell? w _ h0
    refine (Tryd.strings_Join g 0 c0 l0 a1 w hcells hg hN hc0 hlen).mono fun e w' ⟨he, hw⟩ => ?_
    rw [he, Option.some.inj h]
    exact ⟨rfl, hw⟩
  · cases h
end Go.Proofs.YtlaccolldbnbaaaDoor.Gx
