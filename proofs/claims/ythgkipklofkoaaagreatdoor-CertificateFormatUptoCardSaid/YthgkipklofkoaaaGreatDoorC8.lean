/-
  Of the texts that prove drosslaw46.CertificateFormat: for every certificate of bulk at most 1048576 the law returns true, and the argument reads as before. Condition: the listed package-level variables hold what the program lays.
-/
import Derived.Test.YthgkipklofkoaaaGreatDoorC7
open Go Go.Proofs Go.Cam Go.RowKit
set_option maxRecDepth 1000000
namespace Go.Proofs.F
theorem bs_size' (l : List UInt8) : (bs l).size = l.length := bs_size l
theorem index_bs {t : TypeId} (ht : stringT P t = true) {s : List UInt8} {n : Nat} {k : IntKind} {b : UInt8} (h : s[n]? = some b) : indexA P t (.lit (.string (bs s))) (.lit (.int k (n : Int))) = some (.lit (.int .u8 ((b.toNat : Nat) : Int))) := by
  unfold stringT at ht
  split at ht
  · cases ht
  rename_i i hi
  split at ht
  case h_2 => cases ht
  rename_i hd
  unfold indexA
  simp only [hi, hd]
  split
  · rename_i hc; exact absurd (Int.natCast_nonneg n) (by assumption)
  · simp only [Int.toNat_natCast, bs_list, h]
theorem slice_bs1 {t : TypeId} (ht : stringT P t = true) {s : List UInt8} {n : Nat} {H : Hp} {b : UInt8} (h : s[n]? = some b) : sliceA P t (.lit (.string (bs s))) (some (.lit (.int .i64 (n : Int)))) (some (.lit (.int .i64 ((n + 1 : Nat) : Int)))) H = some (.lit (.string (bs [b]))) := by
  unfold stringT at ht
  split at ht
  · cases ht
  rename_i i hi
  split at ht
  case h_2 => cases ht
  rename_i hd
  have hn := at_lt h
  have e : (bs s).extract n (n + 1) = bs [b] := by
    apply ByteArray.ext
    apply Array.ext'
    simp only [bs, ByteArray.data_extract, Array.toList_extract, List.extract_eq_take_drop]
    rw [List.drop_eq_getElem_cons hn]
    have : s[n] = b := (List.getElem?_eq_some_iff.1 h).2
    simp [this]
  unfold sliceA
  have h1 : Nat.ble (n + 1) s.length = true := by simp; omega
  have h2 : Nat.ble n (n + 1) = true := by simp
  simp only [hi, hd, bs_size, boundA, natOf_int, h1, h2, e]
theorem binA_subN {t : TypeId} {xo yo : Operand} {m : Nat} (h : m ≤ 4611686018427387904) : binA P .sub t xo yo (.lit (.int .i64 ((m + 1 : Nat) : Int))) (.lit (.int .i64 1)) = some (.lit (.int .i64 (m : Int))) := by
  have := binA_subI (P := P) (t := t) (xo := xo) (yo := yo) (i := ((m + 1 : Nat) : Int)) (j := 1) (wrap_i64 (by omega) (by omega))
  rw [show ((m + 1 : Nat) : Int) - 1 = (m : Int) by omega] at this
  exact this
def oneOk (P : Program) (t : TypeId) : Bool :=
  match tinf P t with
  | none => false
  | some i => !i.agg && Nat.beq 1 i.size
theorem rowc_get1 {X : Type} {enc : X → List AV} {f : X → AV} (he : ∀ x, enc x = [f x]) (L : List X) : rowc enc L = L.map fun x => some (f x) := by
  have : enc = fun x => [f x] := funext he
  rw [this]; exact rowc_one f L
theorem load_row1 {t : TypeId} (ht : oneOk P t = true) {X : Type} {enc : X → List AV} {f : X → AV} (he : ∀ x, enc x = [f x]) {H : Hp} {b g m : Nat} {L : List X} {y : X} (hb : H.blk.get b = some (.cells (rowc enc L) g)) (h : L[m]? = some y) : loadA P t (.ptr b m) H = some (f y) := by
  unfold oneOk at ht
  split at ht
  · cases ht
  rename_i i hi
  simp only [Bool.and_eq_true, Bool.not_eq_true'] at ht
  have hl : H.loadN b m 1 = some [f y] := by
    unfold Hp.loadN
    rw [hb]
    have hr : (rowc enc L)[m]? = some (some (f y)) := by rw [rowc_get1 he, List.getElem?_map, h]; rfl
    obtain ⟨q1, q2⟩ := List.getElem?_eq_some_iff.1 hr
    have hd : (rowc enc L).drop m = some (f y) :: (rowc enc L).drop (m + 1) := by rw [List.drop_eq_getElem_cons q1, q2]
    simp only [hd, known]
  simp only [loadA, hi, ht.1, hl]
theorem splice_last (v : AV) (x : Option AV) : ∀ M : List (Option AV), splice (M ++ [x]) M.length [v] = M ++ [some v]
  | [] => rfl
  | c :: M => by
    show c :: splice (M ++ [x]) M.length [v] = c :: (M ++ [some v])
    rw [splice_last v x M]
theorem store_last {t : TypeId} (ht : oneOk P t = true) {X : Type} {enc : X → List AV} {f : X → AV} (he : ∀ x, enc x = [f x]) {H H' : Hp} {b g m : Nat} {M : List X} {y y2 : X} (hb : H.blk.get b = some (.cells (rowc enc (M ++ [y])) g)) (hg : H.grps.get g = some [b]) (hm : m = M.length)
    (hf : (f y2).flat = true) (hc : cellsOf (f y2) = [f y2]) (hH : H' = { H with blk := H.blk.set fuelT b (.cells (rowc enc (M ++ [y2])) g) }) : storeA P t (.ptr b m) (f y2) H = some H' := by
  unfold oneOk at ht
  split at ht
  · cases ht
  rename_i i hi
  simp only [Bool.and_eq_true, Bool.not_eq_true'] at ht
  have e1 : rowc enc (M ++ [y]) = M.map (fun x => some (f x)) ++ [some (f y)] := by rw [rowc_get1 he]; simp
  have e2 : rowc enc (M ++ [y2]) = M.map (fun x => some (f x)) ++ [some (f y2)] := by rw [rowc_get1 he]; simp
  have hs : H.store b m [f y2] = some H' := by
    unfold Hp.store
    rw [hb]
    simp only [hg]
    have h1 : (Nat.ble (m + [f y2].length) (rowc enc (M ++ [y])).length && AV.allFlat [f y2]) = true := by
      rw [e1]; simp [AV.allFlat, hf, hm]
    have h2 : remove1 b [b] = [] := by simp [remove1, Nat.beq_refl]
    rw [h1, h2]
    simp only [Hp.forget]
    rw [hH, e2, e1, hm]
    have := splice_last (f y2) (some (f y)) (M.map fun x => some (f x))
    rw [List.length_map] at this
    rw [this]
  simp only [storeA, hi, hc, List.length_cons, List.length_nil, Nat.zero_add, ht.2, hs]
theorem index_own {t : TypeId} (ht : sliceOk P t 1 = true) {b m n : Nat} {c : Option Nat} (h : m < n) : indexAddrA P t (.slice b 0 n 1 c) (.lit (.int .i64 (m : Int))) = some (.ptr b m) := by
  obtain ⟨i, elem, e, h1, h2, h3, h4⟩ := sliceOk_parts ht
  have hlt : Nat.blt m n = true := by simpa using h
  unfold indexAddrA
  rw [h1]
  simp only [natOf_int, h2, h3, ← h4, hlt, Nat.mul_one, Nat.zero_add]
/-! ## Lines -/
def stepL (L : List (List UInt8)) (b : UInt8) : List (List UInt8) := if b = 10 then L ++ [[]] else L.dropLast ++ [L.getLastD [] ++ [b]]
/-- The lines of a text; the last one is what stands behind the last line feed. -/
def linesOf (s : List UInt8) : List (List UInt8) := s.foldl stepL [[]]
theorem stepL_ne (L : List (List UInt8)) (b : UInt8) : stepL L b ≠ [] := by unfold stepL; split <;> simp
theorem linesOf_ne (s : List UInt8) : ∀ L : List (List UInt8), L ≠ [] → s.foldl stepL L ≠ [] := by
  induction s with
  | nil => intro L h; exact h
  | cons b s ih => intro L h; exact ih _ (stepL_ne L b)
theorem take_foldl_succ {X Y : Type} {f : Y → X → Y} {xs : List X} {i : Nat} {x : X} (h : xs[i]? = some x) (a : Y) : (xs.take (i + 1)).foldl f a = f ((xs.take i).foldl f a) x := by
  rw [take_succ_at h, List.foldl_append]; rfl
end Go.Proofs.F
