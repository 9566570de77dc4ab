/-
  Of the texts that prove drosslaw46.CertificateFormat: for every certificate of bulk at most 1048576 the law returns true, and the argument reads as before. Condition: the listed package-level variables hold what the program lays.
-/
import Derived.Test.YthgkipklofkoaaaGreatDoorC9
open Go Go.Proofs Go.Cam Go.RowKit
set_option maxRecDepth 1000000
namespace Go.Proofs.F

/-- What Format returns. -/
def formatOf (t : List UInt8 × Bool) : List UInt8 × Int := if t.2 = false then ([], 1) else if 65536 < t.1.length then ([], 3) else (t.1, 0)
theorem formatOf_len (t : List UInt8 × Bool) : (formatOf t).1.length ≤ 65536 := by
  unfold formatOf
  split
  · simp
  · split
    · simp
    · rename_i h; exact Nat.le_of_not_lt h
theorem textOut_le {c : Cert} (h : c.Ok) : (textOut c).1.length ≤ 100000000 := by
  have hl := h.le
  have b1 := tRows_le h; have b2 := tCells_le h; have b3 := tCores_le h; have b4 := tSets_le h; have b5 := tPairs_le h; have b6 := tSteps_le h
  have n1 := nodes_le h.rproof hl.rs hl.r; have n2 := nodes_le h.uproof hl.us hl.u
  have m1 := nodesOut_le n1; have m2 := nodesOut_le n2
  unfold textOut
  split
  · have := lineOf_len [100, 101, 108, 101, 116, 101, 115] [c.weight] (ok1 h.weight)
    simp only [List.length_append, List.length_cons, List.length_nil] at this ⊢; omega
  split
  · have := lineOf_len [99, 104, 97, 110, 103, 101, 115] [] (by simp)
    simp only [List.length_append, List.length_cons, List.length_nil] at this ⊢; omega
  split
  · have := lineOf_len [107, 101, 121, 115] [] (by simp)
    simp only [List.length_append, List.length_cons, List.length_nil] at this ⊢; omega
  split
  · have := lineOf_len [112, 114, 111, 111, 102] [c.lhs, c.rhs] (ok2 (okS_okI h.lhs) (okS_okI h.rhs))
    simp only [List.length_append, List.length_cons, List.length_nil] at this ⊢; omega
  · simp
theorem rfmt1 (c : Cert) (gl : Nat → Option (List Value)) (h : c.Ok) (ho : (textOut c).2 = false) :
  Does P 14 [(.agg c.cs)] (heapOf 0 [] gl) (.tuple [(.lit (.string (bs ([])))), (.lit (.int .i64 1))]) (Hp.mk 1 (treeOf [(0, .cells (someAll c.cs) 0)]) (treeOf [(0, [0])]) gl 1) :=
  does follows (n := 1000) (s := [.auto 4, .call (.tuple [(.lit (.string (bs ((textOut c).1)))), (.lit (.bool ((textOut c).2)))]), .auto 7, .dec true, .auto 2]) rfl
    (obs := [Does P 36 [(.agg c.cs)] (Hp.mk 1 (treeOf [(0, .cells (someAll c.cs) 0)]) (treeOf [(0, [0])]) gl 1) (.tuple [(.lit (.string (bs ((textOut c).1)))), (.lit (.bool ((textOut c).2)))]) (Hp.mk 1 (treeOf [(0, .cells (someAll c.cs) 0)]) (treeOf [(0, [0])]) gl 1),
      some (AV.lit (.bool (!((textOut c).2)))) = some (.lit (.bool true))])
    (by kernel_rfl) ⟨text_does c _ h, by rw [ho]; rfl, trivial⟩
theorem rfmt2 (c : Cert) (gl : Nat → Option (List Value)) (h : c.Ok) (ho : (textOut c).2 = true) (hl : 65536 < (textOut c).1.length) :
  Does P 14 [(.agg c.cs)] (heapOf 0 [] gl) (.tuple [(.lit (.string (bs ([])))), (.lit (.int .i64 3))]) (Hp.mk 1 (treeOf [(0, .cells (someAll c.cs) 0)]) (treeOf [(0, [0])]) gl 1) :=
  does follows (n := 1000) (s := [.auto 4, .call (.tuple [(.lit (.string (bs ((textOut c).1)))), (.lit (.bool ((textOut c).2)))]), .auto 7, .dec false, .auto 1, .giv (.lit (.int .i64 ((((textOut c).1).length : Nat) : Int))), .giv (.lit (.bool true)), .dec true, .auto 2]) rfl
    (obs := [Does P 36 [(.agg c.cs)] (Hp.mk 1 (treeOf [(0, .cells (someAll c.cs) 0)]) (treeOf [(0, [0])]) gl 1) (.tuple [(.lit (.string (bs ((textOut c).1)))), (.lit (.bool ((textOut c).2)))]) (Hp.mk 1 (treeOf [(0, .cells (someAll c.cs) 0)]) (treeOf [(0, [0])]) gl 1),
      some (AV.lit (.bool (!((textOut c).2)))) = some (.lit (.bool false)),
      builtinA P (Hp.mk 1 (treeOf [(0, .cells (someAll c.cs) 0)]) (treeOf [(0, [0])]) gl 1) .len #[9] 3 [(.lit (.string (bs ((textOut c).1))))] = some (.val (.lit (.int .i64 ((((textOut c).1).length : Nat) : Int))) (Hp.mk 1 (treeOf [(0, .cells (someAll c.cs) 0)]) (treeOf [(0, [0])]) gl 1)),
      binA P .gtr 3 (.tmp 14) (.const (.int .i64 65536)) (.lit (.int .i64 ((((textOut c).1).length : Nat) : Int))) (.lit (.int .i64 65536)) = some (.lit (.bool true)),
      some (AV.lit (.bool true)) = some (.lit (.bool true))])
    (by kernel_rfl) ⟨text_does c _ h, by rw [ho]; rfl, len_bs (by kernel_rfl), bin_b (c := decide ((((((textOut c).1).length : Nat) : Int) : Int) > 65536)) (by kernel_rfl) (dt (by omega)), rfl, trivial⟩
theorem rfmt3 (c : Cert) (gl : Nat → Option (List Value)) (h : c.Ok) (ho : (textOut c).2 = true) (hl : ¬ 65536 < (textOut c).1.length) :
  Does P 14 [(.agg c.cs)] (heapOf 0 [] gl) (.tuple [(.lit (.string (bs ((textOut c).1)))), (.lit (.int .i64 0))]) (Hp.mk 1 (treeOf [(0, .cells (someAll c.cs) 0)]) (treeOf [(0, [0])]) gl 1) :=
  does follows (n := 1000) (s := [.auto 4, .call (.tuple [(.lit (.string (bs ((textOut c).1)))), (.lit (.bool ((textOut c).2)))]), .auto 7, .dec false, .auto 1, .giv (.lit (.int .i64 ((((textOut c).1).length : Nat) : Int))), .giv (.lit (.bool false)), .dec false, .auto 3]) rfl
    (obs := [Does P 36 [(.agg c.cs)] (Hp.mk 1 (treeOf [(0, .cells (someAll c.cs) 0)]) (treeOf [(0, [0])]) gl 1) (.tuple [(.lit (.string (bs ((textOut c).1)))), (.lit (.bool ((textOut c).2)))]) (Hp.mk 1 (treeOf [(0, .cells (someAll c.cs) 0)]) (treeOf [(0, [0])]) gl 1),
      some (AV.lit (.bool (!((textOut c).2)))) = some (.lit (.bool false)),
      builtinA P (Hp.mk 1 (treeOf [(0, .cells (someAll c.cs) 0)]) (treeOf [(0, [0])]) gl 1) .len #[9] 3 [(.lit (.string (bs ((textOut c).1))))] = some (.val (.lit (.int .i64 ((((textOut c).1).length : Nat) : Int))) (Hp.mk 1 (treeOf [(0, .cells (someAll c.cs) 0)]) (treeOf [(0, [0])]) gl 1)),
      binA P .gtr 3 (.tmp 14) (.const (.int .i64 65536)) (.lit (.int .i64 ((((textOut c).1).length : Nat) : Int))) (.lit (.int .i64 65536)) = some (.lit (.bool false)),
      some (AV.lit (.bool false)) = some (.lit (.bool false))])
    (by kernel_rfl) ⟨text_does c _ h, by rw [ho]; rfl, len_bs (by kernel_rfl), bin_b (c := decide ((((((textOut c).1).length : Nat) : Int) : Int) > 65536)) (by kernel_rfl) (df (by omega)), rfl, trivial⟩
/-- drossref46.Format. -/
theorem rfmt_does (c : Cert) (H : Hp) (h : c.Ok) : Does P 14 [.agg c.cs] H (.tuple [.lit (.string (bs (formatOf (textOut c)).1)), .lit (.int .i64 (formatOf (textOut c)).2)]) H := by
  have ha := pus_get (.cons c.pu .nil)
  have hv : ∀ a b, Pu (.tuple [.lit a, .lit b]) := fun a b => .tuple _ (pus_get (.cons (.lit _) (.cons (.lit _) .nil)))
  unfold formatOf
  cases ho : (textOut c).2 with
  | false => exact Does.liftP (rfmt1 c H.gl h ho) ha (hv _ _)
  | true =>
    rw [if_neg (by simp)]
    by_cases hl : 65536 < (textOut c).1.length
    · rw [if_pos hl]; exact Does.liftP (rfmt2 c H.gl h ho hl) ha (hv _ _)
    · rw [if_neg hl]; exact Does.liftP (rfmt3 c H.gl h ho hl) ha (hv _ _)
def sizeOf (t : List UInt8 × Int) : Int := if t.2 = 0 then ((linesOf t.1).length : Int) - 1 else 0
theorem rsize1 (c : Cert) (gl : Nat → Option (List Value)) (h : c.Ok) (he : (formatOf (textOut c)).2 ≠ 0) :
  Does P 16 [(.agg c.cs)] (heapOf 0 [] gl) (.lit (.int .i64 0)) (Hp.mk 1 (treeOf [(0, .cells (someAll c.cs) 0)]) (treeOf [(0, [0])]) gl 1) :=
  does follows (n := 1000) (s := [.auto 3, .call (.tuple [(.lit (.string (bs ((formatOf (textOut c)).1)))), (.lit (.int .i64 ((formatOf (textOut c)).2)))]), .auto 6, .giv (.lit (.bool true)), .dec true, .auto 1]) rfl
    (obs := [Does P 14 [(.agg c.cs)] (Hp.mk 1 (treeOf [(0, .cells (someAll c.cs) 0)]) (treeOf [(0, [0])]) gl 1) (.tuple [(.lit (.string (bs ((formatOf (textOut c)).1)))), (.lit (.int .i64 ((formatOf (textOut c)).2)))]) (Hp.mk 1 (treeOf [(0, .cells (someAll c.cs) 0)]) (treeOf [(0, [0])]) gl 1),
      binA P .neq 44 (.tmp 10) (.const (.int .i64 0)) (.lit (.int .i64 ((formatOf (textOut c)).2))) (.lit (.int .i64 0)) = some (.lit (.bool true)),
      some (AV.lit (.bool true)) = some (.lit (.bool true))])
    (by kernel_rfl) ⟨rfmt_does c _ h, bin_b (c := ((formatOf (textOut c)).2 : Int) != 0) (by kernel_rfl) (nt (by omega)), rfl, trivial⟩
theorem rsize2 (c : Cert) (gl : Nat → Option (List Value)) (h : c.Ok) (he : (formatOf (textOut c)).2 = 0) :
  Does P 16 [(.agg c.cs)] (heapOf 0 [] gl) (.lit (.int .i64 (((linesOf (formatOf (textOut c)).1).length : Int) - 1))) (Hp.mk 1 (treeOf [(0, .cells (someAll c.cs) 0)]) (treeOf [(0, [0])]) gl 1) :=
  does follows (n := 1000) (s := [.auto 3, .call (.tuple [(.lit (.string (bs ((formatOf (textOut c)).1)))), (.lit (.int .i64 ((formatOf (textOut c)).2)))]), .auto 6, .giv (.lit (.bool false)), .dec false, .auto 1, .call (.frz 1 (List.map eStr (linesOf (formatOf (textOut c)).1))), .giv (.lit (.int .i64 (((linesOf (formatOf (textOut c)).1).length : Nat) : Int))), .giv (.lit (.int .i64 (((linesOf (formatOf (textOut c)).1).length : Int) - 1))), .auto 1]) rfl
    (obs := [Does P 14 [(.agg c.cs)] (Hp.mk 1 (treeOf [(0, .cells (someAll c.cs) 0)]) (treeOf [(0, [0])]) gl 1) (.tuple [(.lit (.string (bs ((formatOf (textOut c)).1)))), (.lit (.int .i64 ((formatOf (textOut c)).2)))]) (Hp.mk 1 (treeOf [(0, .cells (someAll c.cs) 0)]) (treeOf [(0, [0])]) gl 1),
      binA P .neq 44 (.tmp 10) (.const (.int .i64 0)) (.lit (.int .i64 ((formatOf (textOut c)).2))) (.lit (.int .i64 0)) = some (.lit (.bool false)),
      some (AV.lit (.bool false)) = some (.lit (.bool false)),
      Does P 22 [(.lit (.string (bs ((formatOf (textOut c)).1))))] (Hp.mk 1 (treeOf [(0, .cells (someAll c.cs) 0)]) (treeOf [(0, [0])]) gl 1) (.frz 1 (List.map eStr (linesOf (formatOf (textOut c)).1))) (Hp.mk 1 (treeOf [(0, .cells (someAll c.cs) 0)]) (treeOf [(0, [0])]) gl 1),
      builtinA P (Hp.mk 1 (treeOf [(0, .cells (someAll c.cs) 0)]) (treeOf [(0, [0])]) gl 1) .len #[28] 3 [(.frz 1 (List.map eStr (linesOf (formatOf (textOut c)).1)))] = some (.val (.lit (.int .i64 (((linesOf (formatOf (textOut c)).1).length : Nat) : Int))) (Hp.mk 1 (treeOf [(0, .cells (someAll c.cs) 0)]) (treeOf [(0, [0])]) gl 1)),
      binA P .sub 3 (.tmp 14) (.const (.int .i64 1)) (.lit (.int .i64 (((linesOf (formatOf (textOut c)).1).length : Nat) : Int))) (.lit (.int .i64 1)) = some (.lit (.int .i64 (((linesOf (formatOf (textOut c)).1).length : Int) - 1)))])
    (by kernel_rfl) ⟨rfmt_does c _ h, bin_b (c := ((formatOf (textOut c)).2 : Int) != 0) (by kernel_rfl) (nf (by omega)), rfl, lines_does _ _ (by have := formatOf_len (textOut c); omega), len_frz (by kernel_rfl), binA_subI (wrap_i64 (by omega) (by have := lines_count (formatOf (textOut c)).1 [[]] (by simp); have := formatOf_len (textOut c); simp only [linesOf, List.length_cons, List.length_nil] at *; omega)), trivial⟩
/-- drossref46.Size. -/
theorem rsize_does (c : Cert) (H : Hp) (h : c.Ok) : Does P 16 [.agg c.cs] H (.lit (.int .i64 (sizeOf (formatOf (textOut c))))) H := by
  have ha := pus_get (.cons c.pu .nil)
  unfold sizeOf
  by_cases he : (formatOf (textOut c)).2 = 0
  · rw [if_pos he]; exact Does.liftP (rsize2 c H.gl h he) ha (.lit _)
  · rw [if_neg he]; exact Does.liftP (rsize1 c H.gl h he) ha (.lit _)
end Go.Proofs.F
