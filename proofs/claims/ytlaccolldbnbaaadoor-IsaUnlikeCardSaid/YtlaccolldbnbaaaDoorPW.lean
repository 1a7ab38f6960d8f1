/-
  PLAIN: the document's example.
-/
import Derived.Test.YtlaccolldbnbaaaDoorPE
import Derived.Test.YtlaccolldbnbaaaDoorAW
namespace Go.Proofs.YtlaccolldbnbaaaDoor.Gx
open Go.RowKit Go.Proofs.YtlaccolldbnbaaaDoorW.PrintWords Go.Proofs.YtlaccolldbnbaaaDoorW.PrintLast
set_option linter.unusedVariables false
set_option linter.unusedSimpArgs false
theorem awake_text (k : Nat) : isa_Text.f (k + 5) 3 3 0 0 (-1) = some ⟨#[99, 111, 110, 115, 116, 32, 114, 51, 32, 45, 49]⟩ := by
  have e : encS 3 3 0 0 (-1) = (229683585290862591, 0) := by kernel_rfl
  have d3 : Lib.decDigits 3 = [51] := by rw [Lib.decDigits]; rfl
  have d1 : Lib.itoa (-1) = [45, 49] := by
    have : Lib.decDigits 1 = [49] := by rw [Lib.decDigits]; rfl
    show (if (-1 : Int) < 0 then 45 :: Lib.decDigits (Int.natAbs (-1)) else _) = _
    rw [if_pos (by decide), show Int.natAbs (-1) = 1 from rfl, this]
  unfold isa_Text.f
  rw [isa_enc, e]
  simp only [Option.bind_some, if_true]
  rw [show isa_of.f 3 = some (⟨#[99, 111, 110, 115, 116]⟩, 1, true, true) from by kernel_rfl]
  simp only [Option.bind_some]
  have i3 : strconv_Itoa_23.f 3 = some ⟨#[51]⟩ := by
    unfold strconv_Itoa_23.f
    rw [if_pos (by decide), show (3 : Int).toNat = 3 from rfl, d3]
  have f1 : strconv_FormatInt_24.f (-1) 10 = some ⟨#[45, 49]⟩ := by
    unfold strconv_FormatInt_24.f
    rw [if_pos (by decide), d1]
  have j1 : strings_Join.f [⟨#[99, 111, 110, 115, 116]⟩, ⟨#[114, 51]⟩, ⟨#[45, 49]⟩] ⟨#[32]⟩ = some ⟨#[99, 111, 110, 115, 116, 32, 114, 51, 32, 45, 49]⟩ := by kernel_rfl
  rw [isa_Text.l0, if_pos (by decide), if_pos (by decide), if_pos (by kernel_rfl), show regAt 3 0 0 0 = 3 from rfl, i3]
  simp only [Option.bind_some]
  rw [if_pos (by decide), if_pos (by decide), show wrap64 (0 + 1) = 1 from by kernel_rfl]
  rw [isa_Text.l0, if_pos (by decide), if_pos (by decide), show Go.bits .and .i64 (shr .i64 1 1) 1 = 0 from by kernel_rfl, if_neg (by decide), show wrap64 (1 + 1) = 2 from by kernel_rfl]
  rw [isa_Text.l0, if_pos (by decide), if_pos (by decide), show Go.bits .and .i64 (shr .i64 1 2) 1 = 0 from by kernel_rfl, if_neg (by decide), show wrap64 (2 + 1) = 3 from by kernel_rfl]
  rw [isa_Text.l0, if_neg (by decide), if_pos rfl, f1]
  simp only [Option.bind_some]
  rw [if_pos (by decide)]
  exact j1
theorem awake_eq (k : Nat) : mortiselaw2_awake.f (k + 6) = some true := by
  have e : encS 3 3 0 0 (-1) = (229683585290862591, 0) := by kernel_rfl
  unfold mortiselaw2_awake.f mortiselaw2_num.f
  rw [isa_enc, e, awake_text (k + 1)]
  simp [ba_toList]
end Go.Proofs.YtlaccolldbnbaaaDoor.Gx
