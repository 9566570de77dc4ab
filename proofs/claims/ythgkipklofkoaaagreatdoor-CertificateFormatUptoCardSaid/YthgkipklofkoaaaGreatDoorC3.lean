/-
  Of the texts that prove drosslaw46.CertificateFormat: for every certificate of bulk at most 1048576 the law returns true, and the argument reads as before. Condition: the listed package-level variables hold what the program lays.
-/
import Derived.Test.YthgkipklofkoaaaGreatDoorC2
import Derived.Test.YthgkipklofkoaaaGreatDoorShelf
open Go Go.Proofs Go.Cam Go.RowKit
set_option maxRecDepth 1000000
namespace Go.Proofs.F
theorem grow_below (w : World) (k : Nat) (os : Array Obj) : Below w.heap.size w (Go.Sort.grow (w.drewN k) os) := by
  have e : (w.drewN k).heap = w.heap := rfl
  refine ⟨rfl, rfl, rfl, ?_, fun i hi => ?_⟩
  · show w.heap.size ≤ (w.heap ++ os).size
    simp
  · show (w.heap ++ os)[i]? = w.heap[i]?
    rw [Array.getElem?_append_left hi]
/-- The table of the powers of ten. -/
noncomputable def pow10 : List Value := Lib.pow10Tab.map fun z => Value.int .u64 z
theorem pow10_at : P.globalNamed "internal/strconv.uint64pow10" = some 3 := by kernel_rfl
theorem tab_is {gl : Nat → Option (List Value)} {w : World} (hg : Globals gl w) (h3 : gl 3 = some pow10) : Lib.TabIs P w "internal/strconv.uint64pow10" .u64 Lib.pow10Tab := by
  obtain ⟨arr, ty, fz, e1, e2⟩ := hg 3 pow10 h3
  unfold Lib.TabIs World.var?
  rw [pow10_at]
  simp only [Option.bind_some, e1]
  rw [← Array.toArray_toList (xs := arr), e2]; rfl
theorem format_does (H : Hp) (h3 : H.gl 3 = some pow10) (n : Int) (h0 : -9223372036854775808 ≤ n) (h1 : n ≤ 9223372036854775807) : Does P 42 [.lit (.int .i64 n), .lit (.int .i64 10)] H (.lit (.string (bs (Lib.itoa n)))) H :=
  Does.of_calls (us := #[.int .i64 n, .int .i64 10]) fun w hg => (Tryz.strconv_FormatInt_10 n h0 h1 w (tab_is hg h3)).mono fun e w' ⟨he, k, os, hw⟩ => ⟨he, hw ▸ grow_below w k os⟩
theorem count_does (H : Hp) (s : ByteArray) (c : UInt8) : Does P 37 [.lit (.string s), .lit (.string ⟨#[c]⟩)] H (.lit (.int .i64 (Lib.countByte s.data.toList c))) H :=
  Does.of_calls (us := #[.string s, .string ⟨#[c]⟩]) fun w _ => (Tryz.strings_Count_one s c w).mono fun e w' ⟨he, hw⟩ => ⟨he, hw ▸ Below.refl _ _⟩

/-- The cells of a row of strings. -/
def strs (L : List (List UInt8)) : List (Option AV) := L.map fun x => some (.lit (.string (bs x)))
theorem join_does (H : Hp) (b g n : Nat) (c : Option Nat) (L : List (List UInt8)) (sep : List UInt8) (hb : H.blk.get b = some (.cells (strs L) g)) (hn : n = L.length) (hN : L.length ≤ 140737488355328) (hl : (Lib.join L sep).length ≤ 140737488355328) :
    Does P 35 [.slice b 0 n 1 c, .lit (.string (bs sep))] H (.lit (.string (bs (Lib.join L sep)))) H := by
  subst hn
  refine Does.of_real fun μ w us hr hv => ?_
  obtain ⟨u, u2, rfl, h1, h2⟩ := hv.two
  have e2 := h2.lit_eq
  subst e2
  cases h1 with
  | slice _ _ _ _ cap _ hd k1 k2 k3 =>
  obtain ⟨arr, tf, e, ⟨hs, _⟩, hc⟩ := hr.obj b _ hb
  have := Tryz.strings_Join (μ.blk b) 0 cap (L.map bs) (bs sep) w (fun j x hj => by
    rw [List.getElem?_map] at hj
    cases hL : L[j]? with
    | none => rw [hL] at hj; cases hj
    | some y =>
      rw [hL] at hj
      simp only [Option.map_some, Option.some.injEq] at hj
      obtain ⟨u, g1, g2, _⟩ := hc.2 j (.lit (.string (bs y))) (by simp [strs, hL])
      have := g2.lit_eq
      subst this
      simp only [World.cell?, e, Nat.zero_add, Option.isSome_none, Bool.false_eq_true, if_false]
      rw [g1, hj]) (hr.lt hb) (by simpa using hN) (by simpa using k1) (by simpa [Function.comp_def, bs_list] using hl)
  have em : (L.map bs).map (fun x => x.data.toList) = L := by simp [Function.comp_def, bs_list]
  rw [em, bs_list, List.length_map] at this
  exact this
end Go.Proofs.F
