/-
  Of the texts that prove drosslaw46.CertificateFormat: for every certificate of bulk at most 1048576 the law returns true, and the argument reads as before. Condition: the listed package-level variables hold what the program lays.
-/
import Derived.Test.YthgkipklofkoaaaGreatDoorC3
import Derived.Lib.ItoaLen
open Go Go.Proofs Go.Cam Go.RowKit
set_option maxRecDepth 1000000
namespace Go.Proofs.F
theorem itoa_le (n : Int) (h : okI n) : (Lib.itoa n).length ≤ 21 := Lib.itoa_length_le n h.1 h.2
theorem nums_len : ∀ xs : List Int, (∀ x ∈ xs, okI x) → (nums xs).length ≤ 22 * xs.length
  | [], _ => by simp [nums]
  | x :: xs, h => by
    have h1 := nums_len xs fun y hy => h y (List.mem_cons_of_mem _ hy)
    have h2 := itoa_le x (h x (by simp))
    rw [nums_cons]
    simp only [List.length_append, List.length_cons, List.length_nil]
    omega
theorem sT23 : sliceT P 23 = true := by kernel_rfl
theorem sO23 : sliceOk P 23 1 = true := by kernel_rfl
theorem ti23 : ∃ i elem e, tinf P 23 = some i ∧ i.desc = .slice elem ∧ tinf P elem = some e ∧ 1 = e.size := sliceOk_parts sO23
theorem ti2 : ∃ i, tinf P 2 = some i ∧ i.agg = false := by
  have : (match tinf P 2 with | some i => !i.agg | none => false) = true := by kernel_rfl
  split at this
  · rename_i i hi; exact ⟨i, hi, by simpa using this⟩
  · cases this
theorem ints_frz (H : Hp) (xs : List Int) (hr : ∀ x ∈ xs, okI x) (hl : xs.length ≤ 4611686018427387904) : Ints H (.frz 1 (List.map eInt xs)) xs := by
  obtain ⟨i, elem, e, h1, h2, h3, h4⟩ := ti23
  obtain ⟨i2, k1, k2⟩ := ti2
  refine ⟨?_, fun i n hi => ⟨.frp (eInt n), index_frz sO23 hi, ?_⟩, fun n hn => hr n hn, hl⟩
  · simp only [lenOpA, h1, h2, lenL_eq, List.length_map]; rfl
  · simp only [loadA, k1, k2, eInt]
theorem rowc_one {X : Type} (f : X → AV) : ∀ L : List X, rowc (fun x => [f x]) L = L.map fun x => some (f x)
  | [] => rfl
  | x :: L => by
    have := rowc_one f L
    simp only [rowc] at this ⊢
    simp [this]
theorem rowc_int (L : List Int) : rowc eInt L = L.map fun x => some (.lit (.int .i64 x)) := rowc_one _ L
theorem rowc_str (L : List (List UInt8)) : rowc eStr L = strs L := rowc_one _ L
theorem rowInt_get {xs : List Int} {i : Nat} {n : Int} (h : xs[i]? = some n) : (rowc eInt xs)[i]? = some (some (.lit (.int .i64 n))) := by
  rw [rowc_int, List.getElem?_map, h]; rfl
theorem ints_blk (H : Hp) (b g n : Nat) (c : Option Nat) (xs : List Int) (hb : H.blk.get b = some (.cells (rowc eInt xs) g)) (hn : n = xs.length) (hr : ∀ x ∈ xs, okI x) (hl : xs.length ≤ 4611686018427387904) : Ints H (.slice b 0 n 1 c) xs := by
  subst hn
  obtain ⟨i, elem, e, h1, h2, h3, h4⟩ := ti23
  obtain ⟨i2, k1, k2⟩ := ti2
  refine ⟨?_, fun i n hi => ⟨.ptr b i, ?_, ?_⟩, fun n hn => hr n hn, hl⟩
  · simp only [lenOpA, h1, h2]; rfl
  · unfold indexAddrA
    have hlt : Nat.blt i xs.length = true := by simpa using at_lt hi
    simp only [h1, h2, h3, ← h4, natOf_int, hlt, Nat.mul_one, Nat.zero_add]
  · have hl : H.loadN b i 1 = some [.lit (.int .i64 n)] := by
      unfold Hp.loadN
      rw [hb]
      have := rowInt_get hi
      have hd : (rowc eInt xs).drop i = some (.lit (.int .i64 n)) :: (rowc eInt xs).drop (i + 1) := by
        obtain ⟨q1, q2⟩ := List.getElem?_eq_some_iff.1 this
        rw [List.drop_eq_getElem_cons q1, q2]
      simp only [hd, known]
    simp only [loadA, k1, k2, hl]
theorem ints_nil (H : Hp) : Ints H (.lit (.slice none 0 0)) [] := by
  obtain ⟨i, elem, e, h1, h2, h3, h4⟩ := ti23
  refine ⟨?_, fun i n hi => by simp at hi, fun n hn => by simp at hn, by simp⟩
  simp only [lenOpA, h1, h2]; rfl
theorem okS_wrap {x : Int} (h : okS x) : IntKind.i64.wrap x = x := wrap_i64 (by have := h.1; omega) (by have := h.2; omega)
theorem okS_okI {x : Int} (h : okS x) : okI x := ⟨by have := h.1; omega, by have := h.2; omega⟩
/-- A line: a word, and numbers. -/
def lineOf (w : List UInt8) (xs : List Int) : List UInt8 := w ++ nums xs ++ [10]
theorem lineOf_len (w : List UInt8) (xs : List Int) (h : ∀ x ∈ xs, okI x) : (lineOf w xs).length ≤ w.length + 22 * xs.length + 1 := by
  have := nums_len xs h
  simp only [lineOf, List.length_append, List.length_cons, List.length_nil]; omega
theorem line_ok (H : Hp) (hs : H.str = 1) (w : List UInt8) (x : AV) (xs : List Int) (hx : Ints H x xs) (hw : w.length ≤ 1000000) (hl : xs.length ≤ 268435456) : Does P 60 [.lit (.string (bs w)), x] H (.lit (.string (bs (lineOf w xs)))) H := by
  refine line_does H hs w x xs hx ?_
  have := nums_len xs hx.rng
  rw [List.length_append]; omega
theorem line_blk (H : Hp) (hs : H.str = 1) (w : List UInt8) (b g n : Nat) (c : Option Nat) (xs : List Int) (hb : H.blk.get b = some (.cells (rowc eInt xs) g)) (hn : n = xs.length) (hr : ∀ x ∈ xs, okI x) (hw : w.length ≤ 1000000) (hl : xs.length ≤ 268435456) :
    Does P 60 [.lit (.string (bs w)), .slice b 0 n 1 c] H (.lit (.string (bs (lineOf w xs)))) H := line_ok H hs w _ xs (ints_blk H b g n c xs hb hn hr (by omega)) hw hl
theorem line_frz (H : Hp) (hs : H.str = 1) (w : List UInt8) (xs : List Int) (hr : ∀ x ∈ xs, okI x) (hw : w.length ≤ 1000000) (hl : xs.length ≤ 268435456) :
    Does P 60 [.lit (.string (bs w)), .frz 1 (List.map eInt xs)] H (.lit (.string (bs (lineOf w xs)))) H := line_ok H hs w _ xs (ints_frz H xs hr (by omega)) hw hl
theorem line_nil (H : Hp) (hs : H.str = 1) (w : List UInt8) (hw : w.length ≤ 1000000) : Does P 60 [.lit (.string (bs w)), .lit (.slice none 0 0)] H (.lit (.string (bs (lineOf w [])))) H := line_ok H hs w _ [] (ints_nil H) hw (by simp)
theorem ok1 {a : Int} (h : okI a) : ∀ x ∈ [a], okI x := by intro x hx; simp at hx; subst hx; exact h
theorem ok2 {a b : Int} (h : okI a) (k : okI b) : ∀ x ∈ [a, b], okI x := by intro x hx; simp at hx; rcases hx with rfl | rfl <;> assumption
theorem ok3 {a b c : Int} (h : okI a) (k : okI b) (l : okI c) : ∀ x ∈ [a, b, c], okI x := by intro x hx; simp at hx; rcases hx with rfl | rfl | rfl <;> assumption
/-- The numbers of pairs. -/
def pts (l : List (Int × Int)) : List Int := List.flatMap (fun x => [x.1, x.2]) l
theorem pts_len (l : List (Int × Int)) : (pts l).length = 2 * l.length := flatMap_len (m := 2) (fun _ => rfl) l
theorem pts_ok {l : List (Int × Int)} (h : ∀ x ∈ l, okPt x) : ∀ x ∈ pts l, okI x := by
  intro x hx
  simp only [pts, List.mem_flatMap, List.mem_cons, List.not_mem_nil, or_false] at hx
  obtain ⟨p, hp, rfl | rfl⟩ := hx
  · exact (h p hp).1
  · exact (h p hp).2
/-! ## Nodes -/
def wNode : List UInt8 := [110, 111, 100, 101]
def wLeaf : List UInt8 := [108, 101, 97, 102]
def nodeLine (d : Nd) : List UInt8 := if 0 ≤ d.vertex then lineOf [110, 111, 100, 101] [d.vertex] else lineOf [108, 101, 97, 102] (pts d.shares)
def nodeOk (d : Nd) : Bool := (decide (0 ≤ d.vertex) && d.shares.isEmpty) || d.vertex == -1
def okNd (d : Nd) : Prop := okI d.vertex ∧ ∀ x ∈ d.shares, okPt x
def nodesOut (ns : List Nd) : List UInt8 × Bool := match ns.all nodeOk with
  | true => (ns.flatMap nodeLine, true)
  | false => ([], false)
end Go.Proofs.F
