/-
  Of the texts that prove drosslaw46.CertificateFormat: for every certificate of bulk at most 1048576 the law returns true, and the argument reads as before. Condition: the listed package-level variables hold what the program lays.
-/
import Derived.Test.YthgkipklofkoaaaGreatDoorC14
open Go Go.Proofs Go.Cam Go.RowKit
set_option maxRecDepth 1000000
namespace Go.Proofs.F

theorem lines_len (s : List UInt8) : ∀ L : List (List UInt8), L ≠ [] → (s.foldl stepL L).length = L.length + s.count 10 := by
  induction s with
  | nil => intro L _; simp
  | cons b s ih =>
    intro L hL
    rw [List.foldl_cons, ih (stepL L b) (stepL_ne L b)]
    have := List.length_pos_iff.2 hL
    unfold stepL
    by_cases hb : b = 10
    · subst hb
      rw [if_pos rfl, List.length_append, List.count_cons_self]; simp; omega
    · rw [if_neg hb, List.length_append, List.length_dropLast, List.count_cons_of_ne hb]; simp; omega
theorem linesOf_len (s : List UInt8) : (linesOf s).length = 1 + s.count 10 := lines_len s [[]] (by simp)
theorem bs_data (l : List UInt8) : (bs l).data.toList = l := bs_list l
theorem count_bs (H : Hp) (s : List UInt8) : Does P 37 [.lit (.string (bs s)), .lit (.string (bs [10]))] H (.lit (.int .i64 ((s.count 10 : Nat) : Int))) H := by
  have := count_does H (bs s) 10
  rw [bs_data] at this
  exact this
theorem size_eq (c : Cert) : (((formatOf (textOut c)).1.count 10 : Nat) : Int) = sizeOf (formatOf (textOut c)) := by
  unfold sizeOf
  rw [linesOf_len]
  unfold formatOf
  split
  · simp
  · split
    · simp
    · simp only [if_true]; omega
theorem csize_run (c : Cert) (gl : Nat → Option (List Value)) (h3 : gl 3 = some pow10) (h : c.Ok) :
  Does P 15 [(.agg c.cs)] (heapOf 0 [] gl) (.lit (.int .i64 (((formatOf (textOut c)).1.count 10 : Nat) : Int))) (Hp.mk 1 (treeOf [(0, .cells (someAll c.cs) 0)]) (treeOf [(0, [0])]) gl 1) :=
  does follows (n := 1000) (s := [.auto 3, .call (.tuple [(.lit (.string (bs ((formatOf (textOut c)).1)))), (.lit (.int .i64 ((formatOf (textOut c)).2)))]), .auto 6, .call (.lit (.int .i64 (((formatOf (textOut c)).1.count 10 : Nat) : Int))), .auto 1]) rfl
    (obs := [Does P 12 [(.agg c.cs)] (Hp.mk 1 (treeOf [(0, .cells (someAll c.cs) 0)]) (treeOf [(0, [0])]) gl 1) (.tuple [(.lit (.string (bs ((formatOf (textOut c)).1)))), (.lit (.int .i64 ((formatOf (textOut c)).2)))]) (Hp.mk 1 (treeOf [(0, .cells (someAll c.cs) 0)]) (treeOf [(0, [0])]) gl 1),
      Does P 37 [(.lit (.string (bs ((formatOf (textOut c)).1)))), (.lit (.string (bs ([10]))))] (Hp.mk 1 (treeOf [(0, .cells (someAll c.cs) 0)]) (treeOf [(0, [0])]) gl 1) (.lit (.int .i64 (((formatOf (textOut c)).1.count 10 : Nat) : Int))) (Hp.mk 1 (treeOf [(0, .cells (someAll c.cs) 0)]) (treeOf [(0, [0])]) gl 1)])
    (by kernel_rfl) ⟨cfmt_does c _ h3 h, count_bs _ _, trivial⟩
/-- certificate.Size. -/
theorem csize_does (c : Cert) (H : Hp) (h3 : H.gl 3 = some pow10) (h : c.Ok) : Does P 15 [.agg c.cs] H (.lit (.int .i64 (sizeOf (formatOf (textOut c))))) H := by
  rw [← size_eq]
  exact Does.liftP (csize_run c H.gl h3 h) (pus_get (.cons c.pu .nil)) (.lit _)
/-- What holds of every certificate of Go's. -/
structure Cert.Rng (c : Cert) : Prop where
  weight : okI c.weight
  deleted : ∀ x ∈ c.deleted, okI x
  rproof : ∀ x ∈ c.rproof, okNd x
  cells : ∀ x ∈ c.cells, okPt x
  cores : ∀ x ∈ c.cores, ∀ y ∈ x, okPt y
  uproof : ∀ x ∈ c.uproof, okNd x
  sets : ∀ x ∈ c.sets, okS x
  pairs : ∀ x ∈ c.pairs, okS x.1 ∧ okI x.2.1 ∧ okI x.2.2
  steps : ∀ x ∈ c.steps, okStp x
  lhs : okS c.lhs
  rhs : okS c.rhs
theorem Cert.Rng.ok {c : Cert} (h : c.Rng) (hf : c.parts ≤ 600) : c.Ok := ⟨hf, h.weight, h.deleted, h.rproof, h.cells, h.cores, h.uproof, h.sets, h.pairs, h.steps, h.lhs, h.rhs⟩
theorem st {a b : List UInt8} (h : a = b) : ((bs a).toList == (bs b).toList) = true := by rw [h]; exact beq_self_eq_true _
theorem few_no (c : Cert) (H : Hp) (hn : c.parts ≤ 1000000000000) (hf : ¬ c.parts ≤ 600) : Does P 11 [.agg c.cs] H (.lit (.bool false)) H := by have := few_does c H hn; rw [decide_eq_false hf] at this; exact this
theorem few_yes (c : Cert) (H : Hp) (hf : c.parts ≤ 600) : Does P 11 [.agg c.cs] H (.lit (.bool true)) H := by have := few_does c H (by omega); rw [decide_eq_true hf] at this; exact this
theorem lawF1 (c : Cert) (gl : Nat → Option (List Value)) (hw : ∀ H : Hp, H.gl = gl → Does P 6 [] H (.lit (.bool true)) H) (hp : c.parts ≤ 1000000000000) (hf : ¬ c.parts ≤ 600) :
  Does P 5 [(.agg c.cs)] (heapOf 0 [] gl) (.lit (.bool true)) (Hp.mk 1 (treeOf [(0, .cells (someAll c.cs) 0)]) (treeOf [(0, [0])]) gl 1) :=
  does follows (n := 1000) (s := [.auto 2, .call (.lit (.bool true)), .auto 2, .dec true, .auto 1, .dec true, .call (.lit (.bool false)), .dec true, .auto 2, .dec true, .call (.lit (.bool true)), .auto 1]) rfl
    (obs := [Does P 6 [] (Hp.mk 1 (treeOf [(0, .cells (someAll c.cs) 0)]) (treeOf [(0, [0])]) gl 1) (.lit (.bool true)) (Hp.mk 1 (treeOf [(0, .cells (someAll c.cs) 0)]) (treeOf [(0, [0])]) gl 1),
      some (false == false) = some true,
      some (false == false) = some true,
      Does P 11 [(.agg c.cs)] (Hp.mk 1 (treeOf [(0, .cells (someAll c.cs) 0)]) (treeOf [(0, [0])]) gl 1) (.lit (.bool false)) (Hp.mk 1 (treeOf [(0, .cells (someAll c.cs) 0)]) (treeOf [(0, [0])]) gl 1),
      some (false == false) = some true,
      some (AV.lit (.bool true)) = some (.lit (.bool true)),
      Does P 6 [] (Hp.mk 1 (treeOf [(0, .cells (someAll c.cs) 0)]) (treeOf [(0, [0])]) gl 1) (.lit (.bool true)) (Hp.mk 1 (treeOf [(0, .cells (someAll c.cs) 0)]) (treeOf [(0, [0])]) gl 1)])
    (by kernel_rfl) ⟨hw _ rfl, rfl, rfl, few_no c _ hp hf, rfl, rfl, hw _ rfl, trivial⟩
theorem lawF2 (c : Cert) (gl : Nat → Option (List Value)) (hw : ∀ H : Hp, H.gl = gl → Does P 6 [] H (.lit (.bool true)) H) (h3 : gl 3 = some pow10) (h : c.Ok) :
  Does P 5 [(.agg c.cs)] (heapOf 0 [] gl) (.lit (.bool true)) (Hp.mk 17 (treeOf [(0, .cells (someAll c.cs) 0)]) (treeOf [(0, [0])]) gl 1) :=
  does follows (n := 1000) (s := [.auto 2, .call (.lit (.bool true)), .auto 2, .dec true, .auto 1, .dec true, .call (.lit (.bool true)), .dec true, .auto 2, .dec false, .auto 1, .call (.tuple [(.lit (.string (bs ((formatOf (textOut c)).1)))), (.lit (.int .i64 ((formatOf (textOut c)).2)))]), .auto 6, .call (.tuple [(.lit (.string (bs ((formatOf (textOut c)).1)))), (.lit (.int .i64 ((formatOf (textOut c)).2)))]), .auto 7, .giv (.lit (.bool true)), .auto 1, .dec true, .auto 1, .dec true, .auto 1, .dec true, .giv (.lit (.bool true)), .auto 2, .dec true, .auto 1, .dec true, .call (.lit (.int .i64 (sizeOf (formatOf (textOut c))))), .dec true, .auto 1, .dec true, .call (.lit (.int .i64 (sizeOf (formatOf (textOut c))))), .dec true, .giv (.lit (.bool true)), .auto 2]) rfl
    (obs := [Does P 6 [] (Hp.mk 1 (treeOf [(0, .cells (someAll c.cs) 0)]) (treeOf [(0, [0])]) gl 1) (.lit (.bool true)) (Hp.mk 1 (treeOf [(0, .cells (someAll c.cs) 0)]) (treeOf [(0, [0])]) gl 1),
      some (false == false) = some true,
      some (false == false) = some true,
      Does P 11 [(.agg c.cs)] (Hp.mk 1 (treeOf [(0, .cells (someAll c.cs) 0)]) (treeOf [(0, [0])]) gl 1) (.lit (.bool true)) (Hp.mk 1 (treeOf [(0, .cells (someAll c.cs) 0)]) (treeOf [(0, [0])]) gl 1),
      some (false == false) = some true,
      some (AV.lit (.bool false)) = some (.lit (.bool false)),
      Does P 12 [(.agg c.cs)] (Hp.mk 1 (treeOf [(0, .cells (someAll c.cs) 0)]) (treeOf [(0, [0])]) gl 1) (.tuple [(.lit (.string (bs ((formatOf (textOut c)).1)))), (.lit (.int .i64 ((formatOf (textOut c)).2)))]) (Hp.mk 1 (treeOf [(0, .cells (someAll c.cs) 0)]) (treeOf [(0, [0])]) gl 1),
      Does P 14 [(.agg c.cs)] (Hp.mk 1 (treeOf [(0, .cells (someAll c.cs) 0)]) (treeOf [(0, [0])]) gl 1) (.tuple [(.lit (.string (bs ((formatOf (textOut c)).1)))), (.lit (.int .i64 ((formatOf (textOut c)).2)))]) (Hp.mk 1 (treeOf [(0, .cells (someAll c.cs) 0)]) (treeOf [(0, [0])]) gl 1),
      binA P .eql 9 (.tmp 25) (.tmp 26) (.lit (.string (bs ((formatOf (textOut c)).1)))) (.lit (.string (bs ((formatOf (textOut c)).1)))) = some (.lit (.bool true)),
      some (true == true) = some true,
      some (true == true) = some true,
      some (true == true) = some true,
      binA P .eql 44 (.tmp 29) (.tmp 30) (.lit (.int .i64 ((formatOf (textOut c)).2))) (.lit (.int .i64 ((formatOf (textOut c)).2))) = some (.lit (.bool true)),
      some (true == true) = some true,
      some (true == true) = some true,
      Does P 15 [(.agg c.cs)] (Hp.mk 17 (treeOf [(0, .cells (someAll c.cs) 0)]) (treeOf [(0, [0])]) gl 1) (.lit (.int .i64 (sizeOf (formatOf (textOut c))))) (Hp.mk 17 (treeOf [(0, .cells (someAll c.cs) 0)]) (treeOf [(0, [0])]) gl 1),
      some (true == true) = some true,
      some (true == true) = some true,
      Does P 16 [(.agg c.cs)] (Hp.mk 17 (treeOf [(0, .cells (someAll c.cs) 0)]) (treeOf [(0, [0])]) gl 1) (.lit (.int .i64 (sizeOf (formatOf (textOut c))))) (Hp.mk 17 (treeOf [(0, .cells (someAll c.cs) 0)]) (treeOf [(0, [0])]) gl 1),
      some (true == true) = some true,
      binA P .eql 3 (.tmp 35) (.tmp 37) (.lit (.int .i64 (sizeOf (formatOf (textOut c))))) (.lit (.int .i64 (sizeOf (formatOf (textOut c))))) = some (.lit (.bool true)),
      loadA P 43 (.ptr 0 0) (Hp.mk 17 (treeOf [(0, .cells (someAll c.cs) 0)]) (treeOf [(0, [0])]) gl 1) = some (.agg c.cs),
      loadA P 43 (.ptr 0 0) (Hp.mk 17 (treeOf [(0, .cells (someAll c.cs) 0)]) (treeOf [(0, [0])]) gl 1) = some (.agg c.cs)])
    (by kernel_rfl) ⟨hw _ rfl, rfl, rfl, few_yes c _ h.few, rfl, rfl, cfmt_does c _ h3 h, rfmt_does c _ h, bin_b (c := (bs ((formatOf (textOut c)).1)).toList == (bs ((formatOf (textOut c)).1)).toList) (by kernel_rfl) (st (rfl)), rfl, rfl, rfl, bin_b (c := ((formatOf (textOut c)).2 : Int) == (formatOf (textOut c)).2) (by kernel_rfl) (et (rfl)), rfl, rfl, csize_does c _ h3 h, rfl, rfl, rsize_does c _ h, rfl, bin_b (c := ((sizeOf (formatOf (textOut c))) : Int) == (sizeOf (formatOf (textOut c)))) (by kernel_rfl) (et (rfl)), by kernel_rfl, by kernel_rfl, trivial⟩
/-- drosslaw46.CertificateFormat. -/
theorem lawF_does (c : Cert) (gl : Nat → Option (List Value)) (hw : ∀ H : Hp, H.gl = gl → Does P 6 [] H (.lit (.bool true)) H) (h3 : gl 3 = some pow10) (hr : c.Rng) (hp : c.parts ≤ 1000000000000) : ∃ H1, Does P 5 [.agg c.cs] (heapOf 0 [] gl) (.lit (.bool true)) H1 := by
  by_cases hf : c.parts ≤ 600
  · exact ⟨_, lawF2 c gl hw h3 (hr.ok hf)⟩
  · exact ⟨_, lawF1 c gl hw hp hf⟩
end Go.Proofs.F
