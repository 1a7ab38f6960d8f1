/-
  THE METHOD text: a string, from its opening sign on.
-/
import Derived.Test.YtmmjhdhgohfioaaM1
import Derived.Deep.CutBlock
import Derived.Deep.DeepCutAuto
import Derived.Deep.RegionWith
namespace Go.Proofs.Ytmmjhdhgohfioaa.Gx
open Go.RowKit Go.Proofs.YtmmjhdhgohfioaaW.PrintWords Go.Proofs.YtmmjhdhgohfioaaW.PrintLast Go.Proofs.YtmmjhdhgohfioaaW.PrintMore
attribute [local go_sem] max2_int min2_int max_two min_two max_three min_three max_four min_four
set_option linter.unusedVariables false
set_option linter.unusedSimpArgs false

theorem Rdr.over {w0 W W1 : World} {g : Nat} {f0 : ByteArray} {f1 : Int} {f2 : List S31} {base : Nat} {ok : Nat → Prop} {v : Value} {xs : List Int} (h : Rdr w0 W g f0 f1 f2) (ho : (Kd.int .u8).R 5 W base ok v xs) (hg : W.grownBy W1 v.ownBlock) : Rdr w0 W1 g f0 f1 f2 := by
  obtain ⟨A2, c2, hb, hgg, hr⟩ := h
  exact ⟨A2, c2, blk_grown hb hg (Kd.R_ne ho hb (by decide)), hgg, Kd.R_over hr ho (by decide) hg⟩
/-- What bytes as numbers are. -/
def nat8 (l : List UInt8) : List Int := l.map fun c => (c.toNat : Int)
theorem strOf_nat8 (l : List UInt8) : strOfNums (nat8 l) = ofL l := by
  apply ba_ext
  rw [ofL_data]
  unfold strOfNums nat8
  simp only [List.map_map]
  refine (List.map_congr_left (g := id) fun c _ => ?_).trans (List.map_id l)
  simp
theorem strVal_cons (c : UInt8) (r : List UInt8) : strVal (c :: r) = (if c = 34 then some ([], 1) else if c < 32 ∨ 126 < c then none else if c = 92 then (match r with
      | [] => none
      | d :: q => if d = 110 then (strVal q).map fun x => (10 :: x.1, x.2 + 2) else if d = 34 ∨ d = 92 then (strVal q).map fun x => (d :: x.1, x.2 + 2) else none)
    else (strVal r).map fun x => (c :: x.1, x.2 + 1)) := by
  rw [strVal.eq_def]
  cases r <;> rfl
/-- How the method text ends: r: what stands behind the opening sign. -/
def TextEnd (w0 : World) (g : Nat) (s : ByteArray) (a : Int) (toks : List S31) (r : List UInt8) (e : Ending) (w' : World) : Prop :=
  (∃ b m, strVal r = some (b, m) ∧ b.length ≤ 100 ∧ e = .returned (.bool true) ∧ Rdr w0 w' g s (wrap64 (a + ((m + 1 : Nat) : Int))) (toks ++ [⟨4, ofL b, 0, a⟩]) ∧ Below w0.heap.size w0 w') ∨
  ((∀ b m, strVal r = some (b, m) → 100 < b.length) ∧ e = .returned (.bool false) ∧ Rdr w0 w' g s a toks ∧ Below w0.heap.size w0 w')
/-- Where the loop stands: bytes bs are read, place x is next; i0: where it began; k: rounds that are left. -/
def StrAt (s : ByteArray) (i0 : Nat) (x : Int) (xs : List Int) (k : Nat) : Prop := ∃ (i : Nat) (bs : List UInt8), x = (i : Int) ∧ xs = nat8 bs ∧ i0 ≤ i ∧ i ≤ s.size ∧ s.size < k + i ∧ bs.length ≤ i ∧
  strVal (suf s i0) = (strVal (suf s i)).map fun p => (bs ++ p.1, (i - i0) + p.2)
theorem StrAt.start {s : ByteArray} {i0 : Nat} (h : i0 ≤ s.size) : StrAt s i0 (i0 : Int) [] (s.size + 1) := ⟨i0, [], rfl, rfl, Nat.le_refl _, h, by omega, by simp, by
  cases strVal (suf s i0) <;> simp⟩
theorem StrAt.none_ {s : ByteArray} {i0 : Nat} {x : Int} {xs : List Int} (h : StrAt s i0 x xs 0) : False := by
  obtain ⟨i, bs, _, _, _, h1, h2, _⟩ := h
  omega
theorem StrAt.nonneg {s : ByteArray} {i0 : Nat} {x : Int} {xs : List Int} {k : Nat} (h : StrAt s i0 x xs k) : 0 ≤ x := by
  obtain ⟨i, bs, rfl, _⟩ := h
  omega
theorem StrAt.small {s : ByteArray} {i0 : Nat} {x : Int} {xs : List Int} {k : Nat} (hs : s.size ≤ 8192) (h : StrAt s i0 x xs k) : xs.length ≤ 8192 := by
  obtain ⟨i, bs, rfl, rfl, _, h1, _, h2, _⟩ := h
  simp only [nat8, List.length_map]
  omega
theorem StrAt.ends {s : ByteArray} {i0 : Nat} {x : Int} {xs : List Int} {k : Nat} (h : StrAt s i0 x xs k) (hx : ¬ x < (s.size : Int)) : ∀ b m, strVal (suf s i0) = some (b, m) → 100 < b.length := by
  obtain ⟨i, bs, rfl, rfl, _, h1, _, h2, h3⟩ := h
  intro b m hb
  rw [h3, suf_end (by omega)] at hb
  simp [strVal] at hb
theorem StrAt.long {s : ByteArray} {i0 : Nat} {x : Int} {xs : List Int} {k : Nat} (h : StrAt s i0 x xs k) (hx : ¬ (xs.length : Int) ≤ 100) : ∀ b m, strVal (suf s i0) = some (b, m) → 100 < b.length := by
  obtain ⟨i, bs, rfl, rfl, _, h1, _, h2, h3⟩ := h
  intro b m hb
  rw [h3, Option.map_eq_some_iff] at hb
  obtain ⟨⟨b1, m1⟩, _, hb⟩ := hb
  simp only [Prod.mk.injEq] at hb
  obtain ⟨rfl, rfl⟩ := hb
  simp only [nat8, List.length_map] at hx
  rw [List.length_append]
  omega
theorem StrAt.cons {s : ByteArray} {i0 : Nat} {x : Int} {xs : List Int} {k : Nat} (h : StrAt s i0 x xs k) (hx : x < (s.size : Int)) : ∃ (c : UInt8) (r : List UInt8) (i : Nat) (bs : List UInt8), x = (i : Int) ∧ xs = nat8 bs ∧ i0 ≤ i ∧ s.size < k + i ∧ bs.length ≤ i ∧ suf s i = c :: r ∧ bt s x = (c.toNat : Int) ∧ s.size = i + 1 + r.length ∧ suf s (i + 1) = r ∧
    strVal (suf s i0) = (strVal (c :: r)).map fun p => (bs ++ p.1, (i - i0) + p.2) := by
  obtain ⟨i, bs, rfl, rfl, h0, h1, h4, h2, h3⟩ := h
  match hs : suf s i with
  | [] => have := suf_nil hs; omega
  | c :: r =>
    obtain ⟨a1, a2, a3, a4⟩ := suf_cons hs
    exact ⟨c, r, i, bs, rfl, rfl, h0, h4, h2, hs, a2, a4, a3, by rw [h3, hs]⟩
theorem byte_of {c : UInt8} {n : Int} {m : Nat} (h : (c.toNat : Int) = n) (hn : n = m) (hm : m < 256) : c = UInt8.ofNat m := (toNat_iff c m hm).2 (by omega)
theorem byte_ne {c : UInt8} {m : Nat} (hm : m < 256) (h : ¬ (c.toNat : Int) = m) : ¬ c = UInt8.ofNat m := fun e => h ((toNat_iff c m hm).1 e)
theorem lt32 {c : UInt8} : c < 32 ↔ (c.toNat : Int) < 32 := by rw [UInt8.lt_iff_toNat_lt]; simp only [UInt8.reduceToNat]; omega
theorem gt126 {c : UInt8} : 126 < c ↔ 126 < (c.toNat : Int) := by rw [UInt8.lt_iff_toNat_lt]; simp only [UInt8.reduceToNat]; omega
theorem StrAt.quote {s : ByteArray} {i0 : Nat} {x : Int} {xs : List Int} {k : Nat} (h : StrAt s i0 x xs k) (hx : x < (s.size : Int)) (hl : (xs.length : Int) ≤ 100) (hc : bt s x = 34) :
    ∃ b m, strVal (suf s i0) = some (b, m) ∧ b.length ≤ 100 ∧ strOfNums xs = ofL b ∧ x + 1 = (i0 : Int) + (m : Int) := by
  obtain ⟨c, r, i, bs, rfl, rfl, h1, _, _, hs, hb, _, _, h3⟩ := h.cons hx
  have e : c = 34 := byte_of (m := 34) (hb.symm.trans hc) (by omega) (by omega)
  subst e
  rw [strVal_cons] at h3
  simp only [if_true, Option.map_some, List.append_nil] at h3
  refine ⟨bs, _, h3, ?_, strOf_nat8 bs, by omega⟩
  simp only [nat8, List.length_map] at hl
  omega
theorem StrAt.bad {s : ByteArray} {i0 : Nat} {x : Int} {xs : List Int} {k : Nat} (h : StrAt s i0 x xs k) (hx : x < (s.size : Int)) (h34 : ¬ bt s x = 34) (hc : bt s x < 32 ∨ 126 < bt s x) : ∀ b m, strVal (suf s i0) = some (b, m) → 100 < b.length := by
  obtain ⟨c, r, i, bs, rfl, rfl, h1, _, _, hs, hb, _, _, h3⟩ := h.cons hx
  rw [hb] at h34 hc
  intro b m hm
  rw [h3, strVal_cons, if_neg (show ¬ c = 34 from byte_ne (m := 34) (by omega) h34), if_pos (by rw [lt32, gt126]; exact hc)] at hm
  simp at hm
theorem StrAt.plain {s : ByteArray} {i0 : Nat} {x : Int} {xs : List Int} {k : Nat} (hs8 : s.size ≤ 8192) (h : StrAt s i0 x xs (k + 1)) (hx : x < (s.size : Int)) (h34 : ¬ bt s x = 34) (hlo : ¬ bt s x < 32) (hhi : ¬ 126 < bt s x) (h92 : ¬ bt s x = 92) :
    StrAt s i0 (wrap64 (x + 1)) (xs ++ [bt s x]) k := by
  obtain ⟨c, r, i, bs, rfl, rfl, h1, h4, h5, hs, hb, h6, h7, h3⟩ := h.cons hx
  rw [hb] at h34 hlo hhi h92 ⊢
  refine ⟨i + 1, bs ++ [c], by rw [w64 (by omega) (by omega)]; omega, by simp [nat8], by omega, by omega, by omega, by rw [List.length_append]; simp; omega, ?_⟩
  rw [h3, strVal_cons, if_neg (show ¬ c = 34 from byte_ne (m := 34) (by omega) h34), if_neg (by rw [lt32, gt126]; omega), if_neg (show ¬ c = 92 from byte_ne (m := 92) (by omega) h92), h7, Option.map_map]
  congr 1
  funext p
  simp; omega
theorem StrAt.slashEnd {s : ByteArray} {i0 : Nat} {x : Int} {xs : List Int} {k : Nat} (hs8 : s.size ≤ 8192) (h : StrAt s i0 x xs k) (hx : x < (s.size : Int)) (hc : bt s x = 92) (he : wrap64 (x + 1) = (s.size : Int)) : ∀ b m, strVal (suf s i0) = some (b, m) → 100 < b.length := by
  obtain ⟨c, r, i, bs, rfl, rfl, h1, _, _, hs, hb, h6, h7, h3⟩ := h.cons hx
  have e : c = 92 := byte_of (m := 92) (hb.symm.trans hc) (by omega) (by omega)
  subst e
  rw [w64 (by omega) (by omega)] at he
  obtain rfl : r = [] := List.eq_nil_of_length_eq_zero (by omega)
  intro b m hm
  rw [h3, strVal_cons] at hm
  simp at hm
theorem StrAt.slash {s : ByteArray} {i0 : Nat} {x : Int} {xs : List Int} {k : Nat} (hs8 : s.size ≤ 8192) (h : StrAt s i0 x xs k) (hx : x < (s.size : Int)) (he : ¬ wrap64 (x + 1) = (s.size : Int)) : 0 ≤ wrap64 (x + 1) ∧ wrap64 (x + 1) < (s.size : Int) := by
  obtain ⟨c, r, i, bs, rfl, rfl, h1, _, _, hs, hb, h6, h7, h3⟩ := h.cons hx
  rw [w64 (by omega) (by omega)] at he ⊢
  omega
theorem StrAt.slash2 {s : ByteArray} {i0 : Nat} {x : Int} {xs : List Int} {k : Nat} (hs8 : s.size ≤ 8192) (h : StrAt s i0 x xs (k + 1)) (hx : x < (s.size : Int)) (hc : bt s x = 92) (he : wrap64 (x + 1) < (s.size : Int)) :
    ∃ (d : UInt8) (q : List UInt8) (i : Nat) (bs : List UInt8), bt s (wrap64 (x + 1)) = (d.toNat : Int) ∧ wrap64 (wrap64 (x + 1) + 1) = ((i + 2 : Nat) : Int) ∧ i0 ≤ i ∧ i + 2 ≤ s.size ∧ s.size < k + (i + 2) ∧ bs.length ≤ i ∧ xs = nat8 bs ∧ suf s (i + 2) = q ∧
      strVal (suf s i0) = ((if d = 110 then (strVal q).map fun x => (10 :: x.1, x.2 + 2) else if d = 34 ∨ d = 92 then (strVal q).map fun x => (d :: x.1, x.2 + 2) else none)).map fun p => (bs ++ p.1, (i - i0) + p.2) := by
  obtain ⟨c, r, i, bs, rfl, rfl, h1, h4, h5, hs, hb, h6, h7, h3⟩ := h.cons hx
  have e : c = 92 := byte_of (m := 92) (hb.symm.trans hc) (by omega) (by omega)
  subst e
  have ew : wrap64 ((i : Int) + 1) = ((i + 1 : Nat) : Int) := by rw [w64 (by omega) (by omega)]; omega
  rw [ew] at he ⊢
  match r, h6, h7, h3 with
  | [], h6, h7, h3 => simp at h6; omega
  | d :: q, h6, h7, h3 =>
    obtain ⟨a1, a2, a3, a4⟩ := suf_cons h7
    refine ⟨d, q, i, bs, a2, by rw [w64 (by omega) (by omega)]; omega, h1, by omega, by omega, h5, rfl, a3, ?_⟩
    rw [h3, strVal_cons]
    simp
theorem StrAt.slashN {s : ByteArray} {i0 : Nat} {x : Int} {xs : List Int} {k : Nat} (hs8 : s.size ≤ 8192) (h : StrAt s i0 x xs (k + 1)) (hx : x < (s.size : Int)) (hc : bt s x = 92) (he : wrap64 (x + 1) < (s.size : Int)) (hd : bt s (wrap64 (x + 1)) = 110) :
    StrAt s i0 (wrap64 (wrap64 (x + 1) + 1)) (xs ++ [10]) k := by
  obtain ⟨d, q, i, bs, h1, h2, h3, h4, h5, h6, rfl, h7, h8⟩ := h.slash2 hs8 hx hc he
  have e : d = 110 := byte_of (m := 110) (h1.symm.trans hd) (by omega) (by omega)
  rw [if_pos e] at h8
  refine ⟨i + 2, bs ++ [10], h2, by simp [nat8], by omega, by omega, by omega, by rw [List.length_append]; simp; omega, ?_⟩
  rw [h8, h7, Option.map_map]
  congr 1
  funext p
  simp; omega
theorem StrAt.slashD {s : ByteArray} {i0 : Nat} {x : Int} {xs : List Int} {k : Nat} (hs8 : s.size ≤ 8192) (h : StrAt s i0 x xs (k + 1)) (hx : x < (s.size : Int)) (hc : bt s x = 92) (he : wrap64 (x + 1) < (s.size : Int)) (hd : bt s (wrap64 (x + 1)) = 34 ∨ bt s (wrap64 (x + 1)) = 92) :
    StrAt s i0 (wrap64 (wrap64 (x + 1) + 1)) (xs ++ [bt s (wrap64 (x + 1))]) k := by
  obtain ⟨d, q, i, bs, h1, h2, h3, h4, h5, h6, rfl, h7, h8⟩ := h.slash2 hs8 hx hc he
  rw [h1] at hd ⊢
  have e : d = 34 ∨ d = 92 := hd.imp (fun e => byte_of (m := 34) e (by omega) (by omega)) (fun e => byte_of (m := 92) e (by omega) (by omega))
  have e2 : ¬ d = 110 := by rcases e with rfl | rfl <;> decide
  rw [if_neg e2, if_pos e] at h8
  refine ⟨i + 2, bs ++ [d], h2, by simp [nat8], by omega, by omega, by omega, by rw [List.length_append]; simp; omega, ?_⟩
  rw [h8, h7, Option.map_map]
  congr 1
  funext p
  simp; omega
theorem StrAt.slashX {s : ByteArray} {i0 : Nat} {x : Int} {xs : List Int} {k : Nat} (hs8 : s.size ≤ 8192) (h : StrAt s i0 x xs (k + 1)) (hx : x < (s.size : Int)) (hc : bt s x = 92) (he : wrap64 (x + 1) < (s.size : Int)) (h1 : ¬ bt s (wrap64 (x + 1)) = 110) (h2 : ¬ bt s (wrap64 (x + 1)) = 34) (h3 : ¬ bt s (wrap64 (x + 1)) = 92) :
    ∀ b m, strVal (suf s i0) = some (b, m) → 100 < b.length := by
  obtain ⟨d, q, i, bs, g1, g2, g3, g4, g5, g6, rfl, g7, g8⟩ := h.slash2 hs8 hx hc he
  rw [g1] at h1 h2 h3
  intro b m hm
  rw [g8, if_neg (show ¬ d = 110 from byte_ne (m := 110) (by omega) h1), if_neg (show ¬ (d = 34 ∨ d = 92) from not_or.2 ⟨byte_ne (m := 34) (by omega) h2, byte_ne (m := 92) (by omega) h3⟩)] at hm
  simp at hm
end Go.Proofs.Ytmmjhdhgohfioaa.Gx
