/-
  Of the texts that prove drosslaw46.CertificateFormat: for every certificate of bulk at most 1048576 the law returns true, and the argument reads as before. Condition: the listed package-level variables hold what the program lays.
-/
import Derived.Test.YthgkipklofkoaaaGreatDoorC6
open Go Go.Proofs Go.Cam Go.RowKit
set_option maxRecDepth 1000000
namespace Go.Proofs.F

/-- What may be written. -/
structure Cert.Ok (c : Cert) : Prop where
  few : c.parts ≤ 600
  weight : okI c.weight
  deleted : ∀ x ∈ c.deleted, okI x
  rproof : ∀ x ∈ c.rproof, okNd x
  cells : ∀ x ∈ c.cells, okPt x
  cores : ∀ x ∈ c.cores, ∀ y ∈ x, okPt y
  uproof : ∀ x ∈ c.uproof, okNd x
  sets : ∀ x ∈ c.sets, okS x
  pairs : ∀ x ∈ c.pairs, okS x.1 ∧ okI x.2.1 ∧ okI x.2.2
  steps : ∀ x ∈ c.steps, okStp x
  lhs : okS c.lhs
  rhs : okS c.rhs
def tRows (c : Cert) : List UInt8 := (List.flatMap (fun x => (lineOf [114, 111, 119] [x])) c.deleted)
def tCells (c : Cert) : List UInt8 := (List.flatMap (fun x => (lineOf [99, 101, 108, 108] [x.1, x.2])) c.cells)
def tCores (c : Cert) : List UInt8 := (List.flatMap (fun x => (lineOf [99, 111, 114, 101] (pts x))) c.cores)
def tSets (c : Cert) : List UInt8 := (List.flatMap (fun x => (lineOf [115, 101, 116] [x])) c.sets)
def tPairs (c : Cert) : List UInt8 := (List.flatMap (fun x => (lineOf [112, 97, 105, 114] [x.1, x.2.1, x.2.2])) c.pairs)
def tSteps (c : Cert) : List UInt8 := (List.flatMap (fun x => (lineOf [115, 116, 101, 112] (stepNums x))) c.steps)
/-- What drossref46.text returns. -/
def textOut (c : Cert) : List UInt8 × Bool :=
  if c.kind = 1 then ((lineOf [100, 101, 108, 101, 116, 101, 115] [c.weight]) ++ tRows c ++ (nodesOut c.rproof).1 ++ [101, 110, 100, 10], (nodesOut c.rproof).2)
  else if c.kind = 2 then ((lineOf [99, 104, 97, 110, 103, 101, 115] []) ++ tCells c ++ tCores c ++ (nodesOut c.uproof).1 ++ [101, 110, 100, 10], (nodesOut c.uproof).2)
  else if c.kind = 3 then ((lineOf [107, 101, 121, 115] []) ++ tSets c ++ tPairs c ++ [] ++ [101, 110, 100, 10], true)
  else if c.kind = 4 then ((lineOf [112, 114, 111, 111, 102] [c.lhs, c.rhs]) ++ tSteps c ++ [] ++ [101, 110, 100, 10], true)
  else ([], false)
theorem flatMap_le {X Y : Type} {g : X → List Y} {m : Nat} : ∀ {xs : List X}, (∀ x ∈ xs, (g x).length ≤ m) → (xs.flatMap g).length ≤ m * xs.length
  | [], _ => by simp
  | x :: xs, h => by
    have h1 := h x (by simp)
    have h2 := flatMap_le (xs := xs) (m := m) fun y hy => h y (List.mem_cons_of_mem _ hy)
    rw [List.flatMap_cons, List.length_append, List.length_cons, Nat.mul_add]; omega
theorem mem_le_sum {X : Type} {x : X} (g : X → Nat) : ∀ {xs : List X}, x ∈ xs → g x ≤ (xs.map g).sum
  | y :: xs, h => by
    rw [List.map_cons, List.sum_cons]
    rcases List.mem_cons.1 h with rfl | h
    · omega
    · have := mem_le_sum g h; omega
structure Cert.Le (c : Cert) : Prop where
  d : c.deleted.length ≤ 600
  r : c.rproof.length ≤ 600
  rs : ∀ x ∈ c.rproof, x.shares.length ≤ 600
  u : c.uproof.length ≤ 600
  us : ∀ x ∈ c.uproof, x.shares.length ≤ 600
  ce : c.cells.length ≤ 600
  co : c.cores.length ≤ 600
  cs : ∀ x ∈ c.cores, x.length ≤ 600
  se : c.sets.length ≤ 600
  pa : c.pairs.length ≤ 600
  st : c.steps.length ≤ 600
  ss : ∀ x ∈ c.steps, x.from_.length ≤ 600
theorem Cert.Ok.le {c : Cert} (h : c.Ok) : c.Le := by
  have hf := h.few
  unfold Cert.parts at hf
  have h1 := len_le_sum (fun (n : Nd) => 1 + n.shares.length) (by intro x; omega) c.rproof
  have h2 := len_le_sum (fun (n : Nd) => 1 + n.shares.length) (by intro x; omega) c.uproof
  have h3 := len_le_sum (fun (l : List (Int × Int)) => 1 + l.length) (by intro x; omega) c.cores
  have h4 := len_le_sum (fun (l : Stp) => 1 + l.from_.length) (by intro x; omega) c.steps
  refine ⟨by omega, by omega, fun x hx => ?_, by omega, fun x hx => ?_, by omega, by omega, fun x hx => ?_, by omega, by omega, by omega, fun x hx => ?_⟩
  · have := mem_le_sum (fun (n : Nd) => 1 + n.shares.length) hx; omega
  · have := mem_le_sum (fun (n : Nd) => 1 + n.shares.length) hx; omega
  · have := mem_le_sum (fun (l : List (Int × Int)) => 1 + l.length) hx; omega
  · have := mem_le_sum (fun (l : Stp) => 1 + l.from_.length) hx; omega
theorem nodeLine_le {d : Nd} (h : okNd d) (hs : d.shares.length ≤ 600) : (nodeLine d).length ≤ 30000 := by
  unfold nodeLine
  split
  · have := lineOf_len [110, 111, 100, 101] [d.vertex] (ok1 h.1)
    simp only [List.length_cons, List.length_nil] at this; omega
  · have := lineOf_len [108, 101, 97, 102] (pts d.shares) (pts_ok h.2)
    rw [pts_len] at this
    simp only [List.length_cons, List.length_nil] at this; omega
theorem nodes_le {ns : List Nd} (h : ∀ x ∈ ns, okNd x) (hs : ∀ x ∈ ns, x.shares.length ≤ 600) (hl : ns.length ≤ 600) : (ns.flatMap nodeLine).length ≤ 18000000 := by
  have := flatMap_le (g := nodeLine) (m := 30000) fun x hx => nodeLine_le (h x hx) (hs x hx)
  have := Nat.mul_le_mul (Nat.le_refl 30000) hl
  omega
theorem nodesOut_le {ns : List Nd} (h : (ns.flatMap nodeLine).length ≤ 18000000) : (nodesOut ns).1.length ≤ 18000000 := by
  unfold nodesOut; split
  · exact h
  · simp
theorem tRows_le {c : Cert} (h : c.Ok) : (tRows c).length ≤ 60000 := by
  have hl := h.le
  unfold tRows
  refine Nat.le_trans (flatMap_le (m := 100) fun x hx => ?_) (Nat.mul_le_mul (Nat.le_refl 100) hl.d)
  have := lineOf_len [114, 111, 119] [x] (ok1 (h.deleted x hx))
  simp only [List.length_cons, List.length_nil] at this; omega
theorem tCells_le {c : Cert} (h : c.Ok) : (tCells c).length ≤ 60000 := by
  have hl := h.le
  unfold tCells
  refine Nat.le_trans (flatMap_le (m := 100) fun x hx => ?_) (Nat.mul_le_mul (Nat.le_refl 100) hl.ce)
  have := lineOf_len [99, 101, 108, 108] [x.1, x.2] (ok2 (h.cells x hx).1 (h.cells x hx).2)
  simp only [List.length_cons, List.length_nil] at this; omega
theorem tCores_le {c : Cert} (h : c.Ok) : (tCores c).length ≤ 18000000 := by
  have hl := h.le
  unfold tCores
  refine Nat.le_trans (flatMap_le (m := 30000) fun x hx => ?_) (Nat.mul_le_mul (Nat.le_refl 30000) hl.co)
  have := lineOf_len [99, 111, 114, 101] (pts x) (pts_ok (h.cores x hx))
  rw [pts_len] at this; have q := hl.cs x hx; simp only [List.length_cons, List.length_nil] at this; omega
theorem tSets_le {c : Cert} (h : c.Ok) : (tSets c).length ≤ 60000 := by
  have hl := h.le
  unfold tSets
  refine Nat.le_trans (flatMap_le (m := 100) fun x hx => ?_) (Nat.mul_le_mul (Nat.le_refl 100) hl.se)
  have := lineOf_len [115, 101, 116] [x] (ok1 (okS_okI (h.sets x hx)))
  simp only [List.length_cons, List.length_nil] at this; omega
theorem tPairs_le {c : Cert} (h : c.Ok) : (tPairs c).length ≤ 60000 := by
  have hl := h.le
  unfold tPairs
  refine Nat.le_trans (flatMap_le (m := 100) fun x hx => ?_) (Nat.mul_le_mul (Nat.le_refl 100) hl.pa)
  have := lineOf_len [112, 97, 105, 114] [x.1, x.2.1, x.2.2] (ok3 (okS_okI (h.pairs x hx).1) (h.pairs x hx).2.1 (h.pairs x hx).2.2)
  simp only [List.length_cons, List.length_nil] at this; omega
theorem tSteps_le {c : Cert} (h : c.Ok) : (tSteps c).length ≤ 18000000 := by
  have hl := h.le
  unfold tSteps
  refine Nat.le_trans (flatMap_le (m := 30000) fun x hx => ?_) (Nat.mul_le_mul (Nat.le_refl 30000) hl.st)
  have := lineOf_len [115, 116, 101, 112] (stepNums x) (stepNums_ok (h.steps x hx))
  rw [stepNums_len] at this; have q := hl.ss x hx; simp only [List.length_cons, List.length_nil] at this; omega
theorem text1 (c : Cert) (gl : Nat → Option (List Value)) (h : c.Ok) (hk : c.kind = 1) :
  Does P 36 [(.agg c.cs)] (heapOf 0 [] gl) (.tuple [(.lit (.string (bs ((lineOf [100, 101, 108, 101, 116, 101, 115] [c.weight]) ++ (List.flatMap (fun x => (lineOf [114, 111, 119] [x])) c.deleted) ++ ((nodesOut c.rproof).1) ++ ([101, 110, 100, 10]))))), (.lit (.bool ((nodesOut c.rproof).2)))]) (Hp.mk 1 (treeOf [(0, .cells (someAll c.cs) 0)]) (treeOf [(0, [0])]) gl 1) := by
  have hl := h.le
  have b1 := tRows_le h; have b2 := tCells_le h; have b3 := tCores_le h; have b4 := tSets_le h; have b5 := tPairs_le h; have b6 := tSteps_le h
  have n1 := nodes_le h.rproof hl.rs hl.r; have n2 := nodes_le h.uproof hl.us hl.u
  have m1 := nodesOut_le n1; have m2 := nodesOut_le n2
  have d1 := hl.d; have d2 := hl.r; have d3 := hl.u; have d4 := hl.ce; have d5 := hl.co; have d6 := hl.se; have d7 := hl.pa; have d8 := hl.st
  unfold tRows at b1; unfold tCells at b2; unfold tCores at b3; unfold tSets at b4; unfold tPairs at b5; unfold tSteps at b6
  have w0 := lineOf_len [100, 101, 108, 101, 116, 101, 115] [c.weight] (ok1 h.weight)
  simp only [List.length_cons, List.length_nil] at w0
  exact does follows (n := 1000) (s := [.auto 8, .giv (.lit (.bool true)), .auto 1, .dec true, .auto 4, .call (.lit (.string (bs (lineOf [100, 101, 108, 101, 116, 101, 115] [c.weight])))), .auto 2, .loopR [] 1 [(1, (.ptr 0 0)), (4, (.lit (.string (bs (lineOf [100, 101, 108, 101, 116, 101, 115] [c.weight]))))), (7, (.lit (.int .i64 0)))] [(0, .cells (someAll c.cs) 0)] (.exit 1) (frameOf [(1, (.ptr 0 0)), (4, (.lit (.string (bs ((lineOf [100, 101, 108, 101, 116, 101, 115] [c.weight]) ++ (List.flatMap (fun x => (lineOf [114, 111, 119] [x])) c.deleted))))))]) (heapOf 1 [(0, .cells (someAll c.cs) 0)] gl), .auto 3, .call (.tuple [(.lit (.string (bs ((nodesOut c.rproof).1)))), (.lit (.bool ((nodesOut c.rproof).2)))]), .auto 7, .giv (.lit (.string (bs ((lineOf [100, 101, 108, 101, 116, 101, 115] [c.weight]) ++ (List.flatMap (fun x => (lineOf [114, 111, 119] [x])) c.deleted) ++ ((nodesOut c.rproof).1))))), .giv (.lit (.string (bs ((lineOf [100, 101, 108, 101, 116, 101, 115] [c.weight]) ++ (List.flatMap (fun x => (lineOf [114, 111, 119] [x])) c.deleted) ++ ((nodesOut c.rproof).1) ++ ([101, 110, 100, 10]))))), .auto 3]) rfl
    (obs := [binA P .eql 3 (.tmp 18) (.const (.int .i64 1)) (.lit (.int .i64 c.kind)) (.lit (.int .i64 1)) = some (.lit (.bool true)),
      some (AV.lit (.bool true)) = some (.lit (.bool true)),
      Does P 60 [(.lit (.string (bs ([100, 101, 108, 101, 116, 101, 115])))), (.slice 1 0 1 1 (some 1))] (Hp.mk 2 (treeOf [(0, .cells (someAll c.cs) 0), (1, .cells [some (.lit (.int .i64 c.weight))] 1)]) (treeOf [(0, [0]), (1, [1])]) gl 1) (.lit (.string (bs (lineOf [100, 101, 108, 101, 116, 101, 115] [c.weight])))) (Hp.mk 2 (treeOf [(0, .cells (someAll c.cs) 0), (1, .cells [some (.lit (.int .i64 c.weight))] 1)]) (treeOf [(0, [0]), (1, [1])]) gl 1),
      Rn (nameF 0 []) 1 (.ptr 0 0) (.ptr 0 0),
      Rn (nameF 0 []) 1 (.lit (.string (bs (lineOf [100, 101, 108, 101, 116, 101, 115] [c.weight])))) (.lit (.string (bs (lineOf [100, 101, 108, 101, 116, 101, 115] [c.weight])))),
      Rn (nameF 0 []) 1 (.lit (.int .i64 0)) (.lit (.int .i64 0)),
      RnO (nameF 0 []) 1 (.cells (someAll c.cs) 0) (.cells (someAll c.cs) 0),
      DoesL P 0 257 (loopAt P 36 0) (frameOf [(1, (.ptr 0 0)), (4, (.lit (.string (bs (lineOf [100, 101, 108, 101, 116, 101, 115] [c.weight]))))), (7, (.lit (.int .i64 0)))]) (heapOf 1 [(0, .cells (someAll c.cs) 0)] gl) (.exit 1) (frameOf [(1, (.ptr 0 0)), (4, (.lit (.string (bs ((lineOf [100, 101, 108, 101, 116, 101, 115] [c.weight]) ++ (List.flatMap (fun x => (lineOf [114, 111, 119] [x])) c.deleted))))))]) (heapOf 1 [(0, .cells (someAll c.cs) 0)] gl),
      Does P 61 [(.frz 2 (List.map eNd c.rproof))] (Hp.mk 1 (treeOf [(0, .cells (someAll c.cs) 0)]) (treeOf [(0, [0])]) gl 1) (.tuple [(.lit (.string (bs ((nodesOut c.rproof).1)))), (.lit (.bool ((nodesOut c.rproof).2)))]) (Hp.mk 1 (treeOf [(0, .cells (someAll c.cs) 0)]) (treeOf [(0, [0])]) gl 1),
      binA P .add 9 (.tmp 252) (.tmp 253) (.lit (.string (bs ((lineOf [100, 101, 108, 101, 116, 101, 115] [c.weight]) ++ (List.flatMap (fun x => (lineOf [114, 111, 119] [x])) c.deleted))))) (.lit (.string (bs ((nodesOut c.rproof).1)))) = some (.lit (.string (bs ((lineOf [100, 101, 108, 101, 116, 101, 115] [c.weight]) ++ (List.flatMap (fun x => (lineOf [114, 111, 119] [x])) c.deleted) ++ ((nodesOut c.rproof).1))))),
      binA P .add 9 (.tmp 254) (.const (.string (bs ([101, 110, 100, 10])))) (.lit (.string (bs ((lineOf [100, 101, 108, 101, 116, 101, 115] [c.weight]) ++ (List.flatMap (fun x => (lineOf [114, 111, 119] [x])) c.deleted) ++ ((nodesOut c.rproof).1))))) (.lit (.string (bs ([101, 110, 100, 10])))) = some (.lit (.string (bs ((lineOf [100, 101, 108, 101, 116, 101, 115] [c.weight]) ++ (List.flatMap (fun x => (lineOf [114, 111, 119] [x])) c.deleted) ++ ((nodesOut c.rproof).1) ++ ([101, 110, 100, 10])))))])
    (by kernel_rfl) ⟨bin_b (c := (c.kind : Int) == 1) (by kernel_rfl) (et (by omega)), rfl, line_blk _ rfl _ 1 1 1 _ [c.weight] (by kernel_rfl) rfl (ok1 h.weight) (by decide) (by simp), Rn.ptr _ _ (by decide), Pu.rn (.lit _), Pu.rn (.lit _), (RnC.cons (Pu.rn (.lit _)) (RnC.cons (Pu.rn (Pu.map _ _ eInt_pu)) (RnC.cons (Pu.rn (.lit _)) (RnC.cons (Pu.rn (Pu.map _ _ eNd_pu)) (RnC.cons (Pu.rn (Pu.map _ _ ePt_pu)) (RnC.cons (Pu.rn (.lit _)) (RnC.cons (Pu.rn (Pu.map _ _ eStr_pu)) (RnC.cons (Pu.rn (Pu.map _ _ eRow_pu)) (RnC.cons (Pu.rn (Pu.map _ _ eCore_pu)) (RnC.cons (Pu.rn (Pu.map _ _ eNd_pu)) (RnC.cons (Pu.rn (Pu.map _ _ eSet_pu)) (RnC.cons (Pu.rn (Pu.map _ _ ePair_pu)) (RnC.cons (Pu.rn (Pu.map _ _ eStep_pu)) (RnC.cons (Pu.rn (.lit _)) (RnC.cons (Pu.rn (.lit _)) RnC.nil))))))))))))))), trow c gl _ (by omega) h.deleted (by omega), rnodes_does _ c.rproof h.rproof (by omega) (fun d hd => by have := hl.rs d hd; omega) (by omega), binA_bs (by simp only [List.length_append, List.length_cons, List.length_nil]; omega), binA_bs (by simp only [List.length_append, List.length_cons, List.length_nil]; omega), trivial⟩
theorem text2 (c : Cert) (gl : Nat → Option (List Value)) (h : c.Ok) (hk : c.kind = 2) :
  Does P 36 [(.agg c.cs)] (heapOf 0 [] gl) (.tuple [(.lit (.string (bs ((lineOf [99, 104, 97, 110, 103, 101, 115] []) ++ (List.flatMap (fun x => (lineOf [99, 101, 108, 108] [x.1, x.2])) c.cells) ++ (List.flatMap (fun x => (lineOf [99, 111, 114, 101] (pts x))) c.cores) ++ ((nodesOut c.uproof).1) ++ ([101, 110, 100, 10]))))), (.lit (.bool ((nodesOut c.uproof).2)))]) (Hp.mk 1 (treeOf [(0, .cells (someAll c.cs) 0)]) (treeOf [(0, [0])]) gl 1) := by
  have hl := h.le
  have b1 := tRows_le h; have b2 := tCells_le h; have b3 := tCores_le h; have b4 := tSets_le h; have b5 := tPairs_le h; have b6 := tSteps_le h
  have n1 := nodes_le h.rproof hl.rs hl.r; have n2 := nodes_le h.uproof hl.us hl.u
  have m1 := nodesOut_le n1; have m2 := nodesOut_le n2
  have d1 := hl.d; have d2 := hl.r; have d3 := hl.u; have d4 := hl.ce; have d5 := hl.co; have d6 := hl.se; have d7 := hl.pa; have d8 := hl.st
  unfold tRows at b1; unfold tCells at b2; unfold tCores at b3; unfold tSets at b4; unfold tPairs at b5; unfold tSteps at b6
  have w0 := lineOf_len [99, 104, 97, 110, 103, 101, 115] [] (by simp)
  simp only [List.length_cons, List.length_nil] at w0
  exact does follows (n := 1000) (s := [.auto 8, .giv (.lit (.bool false)), .auto 1, .dec false, .giv (.lit (.bool true)), .auto 1, .dec true, .call (.lit (.string (bs (lineOf [99, 104, 97, 110, 103, 101, 115] [])))), .auto 2, .loopR [] 1 [(1, (.ptr 0 0)), (4, (.lit (.string (bs (lineOf [99, 104, 97, 110, 103, 101, 115] []))))), (8, (.lit (.int .i64 0)))] [(0, .cells (someAll c.cs) 0)] (.exit 3) (frameOf [(1, (.ptr 0 0)), (4, (.lit (.string (bs ((lineOf [99, 104, 97, 110, 103, 101, 115] []) ++ (List.flatMap (fun x => (lineOf [99, 101, 108, 108] [x.1, x.2])) c.cells))))))]) (heapOf 1 [(0, .cells (someAll c.cs) 0)] gl), .auto 1, .loopR [] 1 [(1, (.ptr 0 0)), (4, (.lit (.string (bs ((lineOf [99, 104, 97, 110, 103, 101, 115] []) ++ (List.flatMap (fun x => (lineOf [99, 101, 108, 108] [x.1, x.2])) c.cells)))))), (9, (.lit (.int .i64 0)))] [(0, .cells (someAll c.cs) 0)] (.exit 5) (frameOf [(1, (.ptr 0 0)), (4, (.lit (.string (bs ((lineOf [99, 104, 97, 110, 103, 101, 115] []) ++ (List.flatMap (fun x => (lineOf [99, 101, 108, 108] [x.1, x.2])) c.cells) ++ (List.flatMap (fun x => (lineOf [99, 111, 114, 101] (pts x))) c.cores))))))]) (heapOf 1 [(0, .cells (someAll c.cs) 0)] gl), .auto 3, .call (.tuple [(.lit (.string (bs ((nodesOut c.uproof).1)))), (.lit (.bool ((nodesOut c.uproof).2)))]), .auto 7, .giv (.lit (.string (bs ((lineOf [99, 104, 97, 110, 103, 101, 115] []) ++ (List.flatMap (fun x => (lineOf [99, 101, 108, 108] [x.1, x.2])) c.cells) ++ (List.flatMap (fun x => (lineOf [99, 111, 114, 101] (pts x))) c.cores) ++ ((nodesOut c.uproof).1))))), .giv (.lit (.string (bs ((lineOf [99, 104, 97, 110, 103, 101, 115] []) ++ (List.flatMap (fun x => (lineOf [99, 101, 108, 108] [x.1, x.2])) c.cells) ++ (List.flatMap (fun x => (lineOf [99, 111, 114, 101] (pts x))) c.cores) ++ ((nodesOut c.uproof).1) ++ ([101, 110, 100, 10]))))), .auto 3]) rfl
    (obs := [binA P .eql 3 (.tmp 18) (.const (.int .i64 1)) (.lit (.int .i64 c.kind)) (.lit (.int .i64 1)) = some (.lit (.bool false)),
      some (AV.lit (.bool false)) = some (.lit (.bool false)),
      binA P .eql 3 (.tmp 18) (.const (.int .i64 2)) (.lit (.int .i64 c.kind)) (.lit (.int .i64 2)) = some (.lit (.bool true)),
      some (AV.lit (.bool true)) = some (.lit (.bool true)),
      Does P 60 [(.lit (.string (bs ([99, 104, 97, 110, 103, 101, 115])))), (.lit (.slice none 0 0))] (Hp.mk 1 (treeOf [(0, .cells (someAll c.cs) 0)]) (treeOf [(0, [0])]) gl 1) (.lit (.string (bs (lineOf [99, 104, 97, 110, 103, 101, 115] [])))) (Hp.mk 1 (treeOf [(0, .cells (someAll c.cs) 0)]) (treeOf [(0, [0])]) gl 1),
      Rn (nameF 0 []) 1 (.ptr 0 0) (.ptr 0 0),
      Rn (nameF 0 []) 1 (.lit (.string (bs (lineOf [99, 104, 97, 110, 103, 101, 115] [])))) (.lit (.string (bs (lineOf [99, 104, 97, 110, 103, 101, 115] [])))),
      Rn (nameF 0 []) 1 (.lit (.int .i64 0)) (.lit (.int .i64 0)),
      RnO (nameF 0 []) 1 (.cells (someAll c.cs) 0) (.cells (someAll c.cs) 0),
      DoesL P 0 257 (loopAt P 36 1) (frameOf [(1, (.ptr 0 0)), (4, (.lit (.string (bs (lineOf [99, 104, 97, 110, 103, 101, 115] []))))), (8, (.lit (.int .i64 0)))]) (heapOf 1 [(0, .cells (someAll c.cs) 0)] gl) (.exit 3) (frameOf [(1, (.ptr 0 0)), (4, (.lit (.string (bs ((lineOf [99, 104, 97, 110, 103, 101, 115] []) ++ (List.flatMap (fun x => (lineOf [99, 101, 108, 108] [x.1, x.2])) c.cells))))))]) (heapOf 1 [(0, .cells (someAll c.cs) 0)] gl),
      Rn (nameF 0 []) 1 (.ptr 0 0) (.ptr 0 0),
      Rn (nameF 0 []) 1 (.lit (.string (bs ((lineOf [99, 104, 97, 110, 103, 101, 115] []) ++ (List.flatMap (fun x => (lineOf [99, 101, 108, 108] [x.1, x.2])) c.cells))))) (.lit (.string (bs ((lineOf [99, 104, 97, 110, 103, 101, 115] []) ++ (List.flatMap (fun x => (lineOf [99, 101, 108, 108] [x.1, x.2])) c.cells))))),
      Rn (nameF 0 []) 1 (.lit (.int .i64 0)) (.lit (.int .i64 0)),
      RnO (nameF 0 []) 1 (.cells (someAll c.cs) 0) (.cells (someAll c.cs) 0),
      DoesL P 0 257 (loopAt P 36 2) (frameOf [(1, (.ptr 0 0)), (4, (.lit (.string (bs ((lineOf [99, 104, 97, 110, 103, 101, 115] []) ++ (List.flatMap (fun x => (lineOf [99, 101, 108, 108] [x.1, x.2])) c.cells)))))), (9, (.lit (.int .i64 0)))]) (heapOf 1 [(0, .cells (someAll c.cs) 0)] gl) (.exit 5) (frameOf [(1, (.ptr 0 0)), (4, (.lit (.string (bs ((lineOf [99, 104, 97, 110, 103, 101, 115] []) ++ (List.flatMap (fun x => (lineOf [99, 101, 108, 108] [x.1, x.2])) c.cells) ++ (List.flatMap (fun x => (lineOf [99, 111, 114, 101] (pts x))) c.cores))))))]) (heapOf 1 [(0, .cells (someAll c.cs) 0)] gl),
      Does P 61 [(.frz 2 (List.map eNd c.uproof))] (Hp.mk 1 (treeOf [(0, .cells (someAll c.cs) 0)]) (treeOf [(0, [0])]) gl 1) (.tuple [(.lit (.string (bs ((nodesOut c.uproof).1)))), (.lit (.bool ((nodesOut c.uproof).2)))]) (Hp.mk 1 (treeOf [(0, .cells (someAll c.cs) 0)]) (treeOf [(0, [0])]) gl 1),
      binA P .add 9 (.tmp 252) (.tmp 253) (.lit (.string (bs ((lineOf [99, 104, 97, 110, 103, 101, 115] []) ++ (List.flatMap (fun x => (lineOf [99, 101, 108, 108] [x.1, x.2])) c.cells) ++ (List.flatMap (fun x => (lineOf [99, 111, 114, 101] (pts x))) c.cores))))) (.lit (.string (bs ((nodesOut c.uproof).1)))) = some (.lit (.string (bs ((lineOf [99, 104, 97, 110, 103, 101, 115] []) ++ (List.flatMap (fun x => (lineOf [99, 101, 108, 108] [x.1, x.2])) c.cells) ++ (List.flatMap (fun x => (lineOf [99, 111, 114, 101] (pts x))) c.cores) ++ ((nodesOut c.uproof).1))))),
      binA P .add 9 (.tmp 254) (.const (.string (bs ([101, 110, 100, 10])))) (.lit (.string (bs ((lineOf [99, 104, 97, 110, 103, 101, 115] []) ++ (List.flatMap (fun x => (lineOf [99, 101, 108, 108] [x.1, x.2])) c.cells) ++ (List.flatMap (fun x => (lineOf [99, 111, 114, 101] (pts x))) c.cores) ++ ((nodesOut c.uproof).1))))) (.lit (.string (bs ([101, 110, 100, 10])))) = some (.lit (.string (bs ((lineOf [99, 104, 97, 110, 103, 101, 115] []) ++ (List.flatMap (fun x => (lineOf [99, 101, 108, 108] [x.1, x.2])) c.cells) ++ (List.flatMap (fun x => (lineOf [99, 111, 114, 101] (pts x))) c.cores) ++ ((nodesOut c.uproof).1) ++ ([101, 110, 100, 10])))))])
    (by kernel_rfl) ⟨bin_b (c := (c.kind : Int) == 1) (by kernel_rfl) (ef (by omega)), rfl, bin_b (c := (c.kind : Int) == 2) (by kernel_rfl) (et (by omega)), rfl, line_nil _ rfl _ (by decide), Rn.ptr _ _ (by decide), Pu.rn (.lit _), Pu.rn (.lit _), (RnC.cons (Pu.rn (.lit _)) (RnC.cons (Pu.rn (Pu.map _ _ eInt_pu)) (RnC.cons (Pu.rn (.lit _)) (RnC.cons (Pu.rn (Pu.map _ _ eNd_pu)) (RnC.cons (Pu.rn (Pu.map _ _ ePt_pu)) (RnC.cons (Pu.rn (.lit _)) (RnC.cons (Pu.rn (Pu.map _ _ eStr_pu)) (RnC.cons (Pu.rn (Pu.map _ _ eRow_pu)) (RnC.cons (Pu.rn (Pu.map _ _ eCore_pu)) (RnC.cons (Pu.rn (Pu.map _ _ eNd_pu)) (RnC.cons (Pu.rn (Pu.map _ _ eSet_pu)) (RnC.cons (Pu.rn (Pu.map _ _ ePair_pu)) (RnC.cons (Pu.rn (Pu.map _ _ eStep_pu)) (RnC.cons (Pu.rn (.lit _)) (RnC.cons (Pu.rn (.lit _)) RnC.nil))))))))))))))), tcell c gl _ (by omega) h.cells (by omega), Rn.ptr _ _ (by decide), Pu.rn (.lit _), Pu.rn (.lit _), (RnC.cons (Pu.rn (.lit _)) (RnC.cons (Pu.rn (Pu.map _ _ eInt_pu)) (RnC.cons (Pu.rn (.lit _)) (RnC.cons (Pu.rn (Pu.map _ _ eNd_pu)) (RnC.cons (Pu.rn (Pu.map _ _ ePt_pu)) (RnC.cons (Pu.rn (.lit _)) (RnC.cons (Pu.rn (Pu.map _ _ eStr_pu)) (RnC.cons (Pu.rn (Pu.map _ _ eRow_pu)) (RnC.cons (Pu.rn (Pu.map _ _ eCore_pu)) (RnC.cons (Pu.rn (Pu.map _ _ eNd_pu)) (RnC.cons (Pu.rn (Pu.map _ _ eSet_pu)) (RnC.cons (Pu.rn (Pu.map _ _ ePair_pu)) (RnC.cons (Pu.rn (Pu.map _ _ eStep_pu)) (RnC.cons (Pu.rn (.lit _)) (RnC.cons (Pu.rn (.lit _)) RnC.nil))))))))))))))), tcore c gl _ (by omega) h.cores (fun x hx => by have := hl.cs x hx; omega) (by simp only [List.length_append]; omega), rnodes_does _ c.uproof h.uproof (by omega) (fun d hd => by have := hl.us d hd; omega) (by omega), binA_bs (by simp only [List.length_append, List.length_cons, List.length_nil]; omega), binA_bs (by simp only [List.length_append, List.length_cons, List.length_nil]; omega), trivial⟩
theorem text3 (c : Cert) (gl : Nat → Option (List Value)) (h : c.Ok) (hk : c.kind = 3) :
  Does P 36 [(.agg c.cs)] (heapOf 0 [] gl) (.tuple [(.lit (.string (bs ((lineOf [107, 101, 121, 115] []) ++ (List.flatMap (fun x => (lineOf [115, 101, 116] [x])) c.sets) ++ (List.flatMap (fun x => (lineOf [112, 97, 105, 114] [x.1, x.2.1, x.2.2])) c.pairs) ++ ([]) ++ ([101, 110, 100, 10]))))), (.lit (.bool true))]) (Hp.mk 1 (treeOf [(0, .cells (someAll c.cs) 0)]) (treeOf [(0, [0])]) gl 1) := by
  have hl := h.le
  have b1 := tRows_le h; have b2 := tCells_le h; have b3 := tCores_le h; have b4 := tSets_le h; have b5 := tPairs_le h; have b6 := tSteps_le h
  have n1 := nodes_le h.rproof hl.rs hl.r; have n2 := nodes_le h.uproof hl.us hl.u
  have m1 := nodesOut_le n1; have m2 := nodesOut_le n2
  have d1 := hl.d; have d2 := hl.r; have d3 := hl.u; have d4 := hl.ce; have d5 := hl.co; have d6 := hl.se; have d7 := hl.pa; have d8 := hl.st
  unfold tRows at b1; unfold tCells at b2; unfold tCores at b3; unfold tSets at b4; unfold tPairs at b5; unfold tSteps at b6
  have w0 := lineOf_len [107, 101, 121, 115] [] (by simp)
  simp only [List.length_cons, List.length_nil] at w0
  exact does follows (n := 1000) (s := [.auto 8, .giv (.lit (.bool false)), .auto 1, .dec false, .giv (.lit (.bool false)), .auto 1, .dec false, .giv (.lit (.bool true)), .auto 1, .dec true, .call (.lit (.string (bs (lineOf [107, 101, 121, 115] [])))), .auto 2, .loopR [] 1 [(1, (.ptr 0 0)), (4, (.lit (.string (bs (lineOf [107, 101, 121, 115] []))))), (5, (.lit (.string (bs ([]))))), (6, (.lit (.bool true))), (12, (.lit (.int .i64 0)))] [(0, .cells (someAll c.cs) 0)] (.exit 9) (frameOf [(1, (.ptr 0 0)), (4, (.lit (.string (bs ((lineOf [107, 101, 121, 115] []) ++ (List.flatMap (fun x => (lineOf [115, 101, 116] [x])) c.sets)))))), (5, (.lit (.string (bs ([]))))), (6, (.lit (.bool true)))]) (heapOf 1 [(0, .cells (someAll c.cs) 0)] gl), .auto 1, .loopR [] 1 [(1, (.ptr 0 0)), (4, (.lit (.string (bs ((lineOf [107, 101, 121, 115] []) ++ (List.flatMap (fun x => (lineOf [115, 101, 116] [x])) c.sets)))))), (5, (.lit (.string (bs ([]))))), (6, (.lit (.bool true))), (13, (.lit (.int .i64 0)))] [(0, .cells (someAll c.cs) 0)] (.exit 11) (frameOf [(1, (.ptr 0 0)), (4, (.lit (.string (bs ((lineOf [107, 101, 121, 115] []) ++ (List.flatMap (fun x => (lineOf [115, 101, 116] [x])) c.sets) ++ (List.flatMap (fun x => (lineOf [112, 97, 105, 114] [x.1, x.2.1, x.2.2])) c.pairs)))))), (5, (.lit (.string (bs ([]))))), (6, (.lit (.bool true)))]) (heapOf 1 [(0, .cells (someAll c.cs) 0)] gl), .auto 2, .giv (.lit (.string (bs ((lineOf [107, 101, 121, 115] []) ++ (List.flatMap (fun x => (lineOf [115, 101, 116] [x])) c.sets) ++ (List.flatMap (fun x => (lineOf [112, 97, 105, 114] [x.1, x.2.1, x.2.2])) c.pairs) ++ ([]))))), .giv (.lit (.string (bs ((lineOf [107, 101, 121, 115] []) ++ (List.flatMap (fun x => (lineOf [115, 101, 116] [x])) c.sets) ++ (List.flatMap (fun x => (lineOf [112, 97, 105, 114] [x.1, x.2.1, x.2.2])) c.pairs) ++ ([]) ++ ([101, 110, 100, 10]))))), .auto 3]) rfl
    (obs := [binA P .eql 3 (.tmp 18) (.const (.int .i64 1)) (.lit (.int .i64 c.kind)) (.lit (.int .i64 1)) = some (.lit (.bool false)),
      some (AV.lit (.bool false)) = some (.lit (.bool false)),
      binA P .eql 3 (.tmp 18) (.const (.int .i64 2)) (.lit (.int .i64 c.kind)) (.lit (.int .i64 2)) = some (.lit (.bool false)),
      some (AV.lit (.bool false)) = some (.lit (.bool false)),
      binA P .eql 3 (.tmp 18) (.const (.int .i64 3)) (.lit (.int .i64 c.kind)) (.lit (.int .i64 3)) = some (.lit (.bool true)),
      some (AV.lit (.bool true)) = some (.lit (.bool true)),
      Does P 60 [(.lit (.string (bs ([107, 101, 121, 115])))), (.lit (.slice none 0 0))] (Hp.mk 1 (treeOf [(0, .cells (someAll c.cs) 0)]) (treeOf [(0, [0])]) gl 1) (.lit (.string (bs (lineOf [107, 101, 121, 115] [])))) (Hp.mk 1 (treeOf [(0, .cells (someAll c.cs) 0)]) (treeOf [(0, [0])]) gl 1),
      Rn (nameF 0 []) 1 (.ptr 0 0) (.ptr 0 0),
      Rn (nameF 0 []) 1 (.lit (.string (bs (lineOf [107, 101, 121, 115] [])))) (.lit (.string (bs (lineOf [107, 101, 121, 115] [])))),
      Rn (nameF 0 []) 1 (.lit (.string (bs ([])))) (.lit (.string (bs ([])))),
      Rn (nameF 0 []) 1 (.lit (.bool true)) (.lit (.bool true)),
      Rn (nameF 0 []) 1 (.lit (.int .i64 0)) (.lit (.int .i64 0)),
      RnO (nameF 0 []) 1 (.cells (someAll c.cs) 0) (.cells (someAll c.cs) 0),
      DoesL P 0 257 (loopAt P 36 4) (frameOf [(1, (.ptr 0 0)), (4, (.lit (.string (bs (lineOf [107, 101, 121, 115] []))))), (5, (.lit (.string (bs ([]))))), (6, (.lit (.bool true))), (12, (.lit (.int .i64 0)))]) (heapOf 1 [(0, .cells (someAll c.cs) 0)] gl) (.exit 9) (frameOf [(1, (.ptr 0 0)), (4, (.lit (.string (bs ((lineOf [107, 101, 121, 115] []) ++ (List.flatMap (fun x => (lineOf [115, 101, 116] [x])) c.sets)))))), (5, (.lit (.string (bs ([]))))), (6, (.lit (.bool true)))]) (heapOf 1 [(0, .cells (someAll c.cs) 0)] gl),
      Rn (nameF 0 []) 1 (.ptr 0 0) (.ptr 0 0),
      Rn (nameF 0 []) 1 (.lit (.string (bs ((lineOf [107, 101, 121, 115] []) ++ (List.flatMap (fun x => (lineOf [115, 101, 116] [x])) c.sets))))) (.lit (.string (bs ((lineOf [107, 101, 121, 115] []) ++ (List.flatMap (fun x => (lineOf [115, 101, 116] [x])) c.sets))))),
      Rn (nameF 0 []) 1 (.lit (.string (bs ([])))) (.lit (.string (bs ([])))),
      Rn (nameF 0 []) 1 (.lit (.bool true)) (.lit (.bool true)),
      Rn (nameF 0 []) 1 (.lit (.int .i64 0)) (.lit (.int .i64 0)),
      RnO (nameF 0 []) 1 (.cells (someAll c.cs) 0) (.cells (someAll c.cs) 0),
      DoesL P 0 257 (loopAt P 36 5) (frameOf [(1, (.ptr 0 0)), (4, (.lit (.string (bs ((lineOf [107, 101, 121, 115] []) ++ (List.flatMap (fun x => (lineOf [115, 101, 116] [x])) c.sets)))))), (5, (.lit (.string (bs ([]))))), (6, (.lit (.bool true))), (13, (.lit (.int .i64 0)))]) (heapOf 1 [(0, .cells (someAll c.cs) 0)] gl) (.exit 11) (frameOf [(1, (.ptr 0 0)), (4, (.lit (.string (bs ((lineOf [107, 101, 121, 115] []) ++ (List.flatMap (fun x => (lineOf [115, 101, 116] [x])) c.sets) ++ (List.flatMap (fun x => (lineOf [112, 97, 105, 114] [x.1, x.2.1, x.2.2])) c.pairs)))))), (5, (.lit (.string (bs ([]))))), (6, (.lit (.bool true)))]) (heapOf 1 [(0, .cells (someAll c.cs) 0)] gl),
      binA P .add 9 (.tmp 252) (.tmp 253) (.lit (.string (bs ((lineOf [107, 101, 121, 115] []) ++ (List.flatMap (fun x => (lineOf [115, 101, 116] [x])) c.sets) ++ (List.flatMap (fun x => (lineOf [112, 97, 105, 114] [x.1, x.2.1, x.2.2])) c.pairs))))) (.lit (.string (bs ([])))) = some (.lit (.string (bs ((lineOf [107, 101, 121, 115] []) ++ (List.flatMap (fun x => (lineOf [115, 101, 116] [x])) c.sets) ++ (List.flatMap (fun x => (lineOf [112, 97, 105, 114] [x.1, x.2.1, x.2.2])) c.pairs) ++ ([]))))),
      binA P .add 9 (.tmp 254) (.const (.string (bs ([101, 110, 100, 10])))) (.lit (.string (bs ((lineOf [107, 101, 121, 115] []) ++ (List.flatMap (fun x => (lineOf [115, 101, 116] [x])) c.sets) ++ (List.flatMap (fun x => (lineOf [112, 97, 105, 114] [x.1, x.2.1, x.2.2])) c.pairs) ++ ([]))))) (.lit (.string (bs ([101, 110, 100, 10])))) = some (.lit (.string (bs ((lineOf [107, 101, 121, 115] []) ++ (List.flatMap (fun x => (lineOf [115, 101, 116] [x])) c.sets) ++ (List.flatMap (fun x => (lineOf [112, 97, 105, 114] [x.1, x.2.1, x.2.2])) c.pairs) ++ ([]) ++ ([101, 110, 100, 10])))))])
    (by kernel_rfl) ⟨bin_b (c := (c.kind : Int) == 1) (by kernel_rfl) (ef (by omega)), rfl, bin_b (c := (c.kind : Int) == 2) (by kernel_rfl) (ef (by omega)), rfl, bin_b (c := (c.kind : Int) == 3) (by kernel_rfl) (et (by omega)), rfl, line_nil _ rfl _ (by decide), Rn.ptr _ _ (by decide), Pu.rn (.lit _), Pu.rn (.lit _), Pu.rn (.lit _), Pu.rn (.lit _), (RnC.cons (Pu.rn (.lit _)) (RnC.cons (Pu.rn (Pu.map _ _ eInt_pu)) (RnC.cons (Pu.rn (.lit _)) (RnC.cons (Pu.rn (Pu.map _ _ eNd_pu)) (RnC.cons (Pu.rn (Pu.map _ _ ePt_pu)) (RnC.cons (Pu.rn (.lit _)) (RnC.cons (Pu.rn (Pu.map _ _ eStr_pu)) (RnC.cons (Pu.rn (Pu.map _ _ eRow_pu)) (RnC.cons (Pu.rn (Pu.map _ _ eCore_pu)) (RnC.cons (Pu.rn (Pu.map _ _ eNd_pu)) (RnC.cons (Pu.rn (Pu.map _ _ eSet_pu)) (RnC.cons (Pu.rn (Pu.map _ _ ePair_pu)) (RnC.cons (Pu.rn (Pu.map _ _ eStep_pu)) (RnC.cons (Pu.rn (.lit _)) (RnC.cons (Pu.rn (.lit _)) RnC.nil))))))))))))))), tset c gl _ (by omega) h.sets (by omega), Rn.ptr _ _ (by decide), Pu.rn (.lit _), Pu.rn (.lit _), Pu.rn (.lit _), Pu.rn (.lit _), (RnC.cons (Pu.rn (.lit _)) (RnC.cons (Pu.rn (Pu.map _ _ eInt_pu)) (RnC.cons (Pu.rn (.lit _)) (RnC.cons (Pu.rn (Pu.map _ _ eNd_pu)) (RnC.cons (Pu.rn (Pu.map _ _ ePt_pu)) (RnC.cons (Pu.rn (.lit _)) (RnC.cons (Pu.rn (Pu.map _ _ eStr_pu)) (RnC.cons (Pu.rn (Pu.map _ _ eRow_pu)) (RnC.cons (Pu.rn (Pu.map _ _ eCore_pu)) (RnC.cons (Pu.rn (Pu.map _ _ eNd_pu)) (RnC.cons (Pu.rn (Pu.map _ _ eSet_pu)) (RnC.cons (Pu.rn (Pu.map _ _ ePair_pu)) (RnC.cons (Pu.rn (Pu.map _ _ eStep_pu)) (RnC.cons (Pu.rn (.lit _)) (RnC.cons (Pu.rn (.lit _)) RnC.nil))))))))))))))), tpair c gl _ (by omega) h.pairs (by simp only [List.length_append]; omega), binA_bs (by simp only [List.length_append, List.length_cons, List.length_nil]; omega), binA_bs (by simp only [List.length_append, List.length_cons, List.length_nil]; omega), trivial⟩
theorem text4 (c : Cert) (gl : Nat → Option (List Value)) (h : c.Ok) (hk : c.kind = 4) :
  Does P 36 [(.agg c.cs)] (heapOf 0 [] gl) (.tuple [(.lit (.string (bs ((lineOf [112, 114, 111, 111, 102] [c.lhs, c.rhs]) ++ (List.flatMap (fun x => (lineOf [115, 116, 101, 112] (stepNums x))) c.steps) ++ ([]) ++ ([101, 110, 100, 10]))))), (.lit (.bool true))]) (Hp.mk 1 (treeOf [(0, .cells (someAll c.cs) 0)]) (treeOf [(0, [0])]) gl 1) := by
  have hl := h.le
  have b1 := tRows_le h; have b2 := tCells_le h; have b3 := tCores_le h; have b4 := tSets_le h; have b5 := tPairs_le h; have b6 := tSteps_le h
  have n1 := nodes_le h.rproof hl.rs hl.r; have n2 := nodes_le h.uproof hl.us hl.u
  have m1 := nodesOut_le n1; have m2 := nodesOut_le n2
  have d1 := hl.d; have d2 := hl.r; have d3 := hl.u; have d4 := hl.ce; have d5 := hl.co; have d6 := hl.se; have d7 := hl.pa; have d8 := hl.st
  unfold tRows at b1; unfold tCells at b2; unfold tCores at b3; unfold tSets at b4; unfold tPairs at b5; unfold tSteps at b6
  have w0 := lineOf_len [112, 114, 111, 111, 102] [c.lhs, c.rhs] (ok2 (okS_okI h.lhs) (okS_okI h.rhs))
  simp only [List.length_cons, List.length_nil] at w0
  exact does follows (n := 1000) (s := [.auto 8, .giv (.lit (.bool false)), .auto 1, .dec false, .giv (.lit (.bool false)), .auto 1, .dec false, .giv (.lit (.bool false)), .auto 1, .dec false, .giv (.lit (.bool true)), .auto 1, .dec true, .auto 3, .giv (.lit (.int .i64 c.lhs)), .auto 3, .giv (.lit (.int .i64 c.rhs)), .auto 1, .call (.lit (.string (bs (lineOf [112, 114, 111, 111, 102] [c.lhs, c.rhs])))), .auto 2, .loopR [] 1 [(1, (.ptr 0 0)), (4, (.lit (.string (bs (lineOf [112, 114, 111, 111, 102] [c.lhs, c.rhs]))))), (5, (.lit (.string (bs ([]))))), (6, (.lit (.bool true))), (14, (.lit (.int .i64 0)))] [(0, .cells (someAll c.cs) 0)] (.exit 13) (frameOf [(1, (.ptr 0 0)), (4, (.lit (.string (bs ((lineOf [112, 114, 111, 111, 102] [c.lhs, c.rhs]) ++ (List.flatMap (fun x => (lineOf [115, 116, 101, 112] (stepNums x))) c.steps)))))), (5, (.lit (.string (bs ([]))))), (6, (.lit (.bool true)))]) (heapOf 1 [(0, .cells (someAll c.cs) 0)] gl), .auto 2, .giv (.lit (.string (bs ((lineOf [112, 114, 111, 111, 102] [c.lhs, c.rhs]) ++ (List.flatMap (fun x => (lineOf [115, 116, 101, 112] (stepNums x))) c.steps) ++ ([]))))), .giv (.lit (.string (bs ((lineOf [112, 114, 111, 111, 102] [c.lhs, c.rhs]) ++ (List.flatMap (fun x => (lineOf [115, 116, 101, 112] (stepNums x))) c.steps) ++ ([]) ++ ([101, 110, 100, 10]))))), .auto 3]) rfl
    (obs := [binA P .eql 3 (.tmp 18) (.const (.int .i64 1)) (.lit (.int .i64 c.kind)) (.lit (.int .i64 1)) = some (.lit (.bool false)),
      some (AV.lit (.bool false)) = some (.lit (.bool false)),
      binA P .eql 3 (.tmp 18) (.const (.int .i64 2)) (.lit (.int .i64 c.kind)) (.lit (.int .i64 2)) = some (.lit (.bool false)),
      some (AV.lit (.bool false)) = some (.lit (.bool false)),
      binA P .eql 3 (.tmp 18) (.const (.int .i64 3)) (.lit (.int .i64 c.kind)) (.lit (.int .i64 3)) = some (.lit (.bool false)),
      some (AV.lit (.bool false)) = some (.lit (.bool false)),
      binA P .eql 3 (.tmp 18) (.const (.int .i64 4)) (.lit (.int .i64 c.kind)) (.lit (.int .i64 4)) = some (.lit (.bool true)),
      some (AV.lit (.bool true)) = some (.lit (.bool true)),
      convertA P 39 2 (.lit (.int .u32 c.lhs)) (Hp.mk 1 (treeOf [(0, .cells (someAll c.cs) 0)]) (treeOf [(0, [0])]) gl 1) = some ((.lit (.int .i64 c.lhs)), (Hp.mk 1 (treeOf [(0, .cells (someAll c.cs) 0)]) (treeOf [(0, [0])]) gl 1)),
      convertA P 39 2 (.lit (.int .u32 c.rhs)) (Hp.mk 1 (treeOf [(0, .cells (someAll c.cs) 0)]) (treeOf [(0, [0])]) gl 1) = some ((.lit (.int .i64 c.rhs)), (Hp.mk 1 (treeOf [(0, .cells (someAll c.cs) 0)]) (treeOf [(0, [0])]) gl 1)),
      Does P 60 [(.lit (.string (bs ([112, 114, 111, 111, 102])))), (.slice 1 0 2 1 (some 2))] (Hp.mk 2 (treeOf [(0, .cells (someAll c.cs) 0), (1, .cells [some (.lit (.int .i64 c.lhs)), some (.lit (.int .i64 c.rhs))] 1)]) (treeOf [(0, [0]), (1, [1])]) gl 1) (.lit (.string (bs (lineOf [112, 114, 111, 111, 102] [c.lhs, c.rhs])))) (Hp.mk 2 (treeOf [(0, .cells (someAll c.cs) 0), (1, .cells [some (.lit (.int .i64 c.lhs)), some (.lit (.int .i64 c.rhs))] 1)]) (treeOf [(0, [0]), (1, [1])]) gl 1),
      Rn (nameF 0 []) 1 (.ptr 0 0) (.ptr 0 0),
      Rn (nameF 0 []) 1 (.lit (.string (bs (lineOf [112, 114, 111, 111, 102] [c.lhs, c.rhs])))) (.lit (.string (bs (lineOf [112, 114, 111, 111, 102] [c.lhs, c.rhs])))),
      Rn (nameF 0 []) 1 (.lit (.string (bs ([])))) (.lit (.string (bs ([])))),
      Rn (nameF 0 []) 1 (.lit (.bool true)) (.lit (.bool true)),
      Rn (nameF 0 []) 1 (.lit (.int .i64 0)) (.lit (.int .i64 0)),
      RnO (nameF 0 []) 1 (.cells (someAll c.cs) 0) (.cells (someAll c.cs) 0),
      DoesL P 0 257 (loopAt P 36 6) (frameOf [(1, (.ptr 0 0)), (4, (.lit (.string (bs (lineOf [112, 114, 111, 111, 102] [c.lhs, c.rhs]))))), (5, (.lit (.string (bs ([]))))), (6, (.lit (.bool true))), (14, (.lit (.int .i64 0)))]) (heapOf 1 [(0, .cells (someAll c.cs) 0)] gl) (.exit 13) (frameOf [(1, (.ptr 0 0)), (4, (.lit (.string (bs ((lineOf [112, 114, 111, 111, 102] [c.lhs, c.rhs]) ++ (List.flatMap (fun x => (lineOf [115, 116, 101, 112] (stepNums x))) c.steps)))))), (5, (.lit (.string (bs ([]))))), (6, (.lit (.bool true)))]) (heapOf 1 [(0, .cells (someAll c.cs) 0)] gl),
      binA P .add 9 (.tmp 252) (.tmp 253) (.lit (.string (bs ((lineOf [112, 114, 111, 111, 102] [c.lhs, c.rhs]) ++ (List.flatMap (fun x => (lineOf [115, 116, 101, 112] (stepNums x))) c.steps))))) (.lit (.string (bs ([])))) = some (.lit (.string (bs ((lineOf [112, 114, 111, 111, 102] [c.lhs, c.rhs]) ++ (List.flatMap (fun x => (lineOf [115, 116, 101, 112] (stepNums x))) c.steps) ++ ([]))))),
      binA P .add 9 (.tmp 254) (.const (.string (bs ([101, 110, 100, 10])))) (.lit (.string (bs ((lineOf [112, 114, 111, 111, 102] [c.lhs, c.rhs]) ++ (List.flatMap (fun x => (lineOf [115, 116, 101, 112] (stepNums x))) c.steps) ++ ([]))))) (.lit (.string (bs ([101, 110, 100, 10])))) = some (.lit (.string (bs ((lineOf [112, 114, 111, 111, 102] [c.lhs, c.rhs]) ++ (List.flatMap (fun x => (lineOf [115, 116, 101, 112] (stepNums x))) c.steps) ++ ([]) ++ ([101, 110, 100, 10])))))])
    (by kernel_rfl) ⟨bin_b (c := (c.kind : Int) == 1) (by kernel_rfl) (ef (by omega)), rfl, bin_b (c := (c.kind : Int) == 2) (by kernel_rfl) (ef (by omega)), rfl, bin_b (c := (c.kind : Int) == 3) (by kernel_rfl) (ef (by omega)), rfl, bin_b (c := (c.kind : Int) == 4) (by kernel_rfl) (et (by omega)), rfl, conv_ob (by kernel_rfl) (okS_wrap h.lhs), conv_ob (by kernel_rfl) (okS_wrap h.rhs), line_blk _ rfl _ 1 1 2 _ [c.lhs, c.rhs] (by kernel_rfl) rfl (ok2 (okS_okI h.lhs) (okS_okI h.rhs)) (by decide) (by simp), Rn.ptr _ _ (by decide), Pu.rn (.lit _), Pu.rn (.lit _), Pu.rn (.lit _), Pu.rn (.lit _), (RnC.cons (Pu.rn (.lit _)) (RnC.cons (Pu.rn (Pu.map _ _ eInt_pu)) (RnC.cons (Pu.rn (.lit _)) (RnC.cons (Pu.rn (Pu.map _ _ eNd_pu)) (RnC.cons (Pu.rn (Pu.map _ _ ePt_pu)) (RnC.cons (Pu.rn (.lit _)) (RnC.cons (Pu.rn (Pu.map _ _ eStr_pu)) (RnC.cons (Pu.rn (Pu.map _ _ eRow_pu)) (RnC.cons (Pu.rn (Pu.map _ _ eCore_pu)) (RnC.cons (Pu.rn (Pu.map _ _ eNd_pu)) (RnC.cons (Pu.rn (Pu.map _ _ eSet_pu)) (RnC.cons (Pu.rn (Pu.map _ _ ePair_pu)) (RnC.cons (Pu.rn (Pu.map _ _ eStep_pu)) (RnC.cons (Pu.rn (.lit _)) (RnC.cons (Pu.rn (.lit _)) RnC.nil))))))))))))))), tstep c gl _ (by omega) h.steps (fun x hx => by have := hl.ss x hx; omega) (by omega), binA_bs (by simp only [List.length_append, List.length_cons, List.length_nil]; omega), binA_bs (by simp only [List.length_append, List.length_cons, List.length_nil]; omega), trivial⟩
theorem text5 (c : Cert) (gl : Nat → Option (List Value)) (hk : c.kind ≠ 1 ∧ c.kind ≠ 2 ∧ c.kind ≠ 3 ∧ c.kind ≠ 4) :
  Does P 36 [(.agg c.cs)] (heapOf 0 [] gl) (.tuple [(.lit (.string (bs ([])))), (.lit (.bool false))]) (Hp.mk 1 (treeOf [(0, .cells (someAll c.cs) 0)]) (treeOf [(0, [0])]) gl 1) :=
  does follows (n := 1000) (s := [.auto 8, .giv (.lit (.bool false)), .auto 1, .dec false, .giv (.lit (.bool false)), .auto 1, .dec false, .giv (.lit (.bool false)), .auto 1, .dec false, .giv (.lit (.bool false)), .auto 1, .dec false, .auto 2]) rfl
    (obs := [binA P .eql 3 (.tmp 18) (.const (.int .i64 1)) (.lit (.int .i64 c.kind)) (.lit (.int .i64 1)) = some (.lit (.bool false)),
      some (AV.lit (.bool false)) = some (.lit (.bool false)),
      binA P .eql 3 (.tmp 18) (.const (.int .i64 2)) (.lit (.int .i64 c.kind)) (.lit (.int .i64 2)) = some (.lit (.bool false)),
      some (AV.lit (.bool false)) = some (.lit (.bool false)),
      binA P .eql 3 (.tmp 18) (.const (.int .i64 3)) (.lit (.int .i64 c.kind)) (.lit (.int .i64 3)) = some (.lit (.bool false)),
      some (AV.lit (.bool false)) = some (.lit (.bool false)),
      binA P .eql 3 (.tmp 18) (.const (.int .i64 4)) (.lit (.int .i64 c.kind)) (.lit (.int .i64 4)) = some (.lit (.bool false)),
      some (AV.lit (.bool false)) = some (.lit (.bool false))])
    (by kernel_rfl) ⟨bin_b (c := (c.kind : Int) == 1) (by kernel_rfl) (ef (by omega)), rfl, bin_b (c := (c.kind : Int) == 2) (by kernel_rfl) (ef (by omega)), rfl, bin_b (c := (c.kind : Int) == 3) (by kernel_rfl) (ef (by omega)), rfl, bin_b (c := (c.kind : Int) == 4) (by kernel_rfl) (ef (by omega)), rfl, trivial⟩
/-- drossref46.text. -/
theorem text_does (c : Cert) (H : Hp) (h : c.Ok) : Does P 36 [.agg c.cs] H (.tuple [.lit (.string (bs (textOut c).1)), .lit (.bool (textOut c).2)]) H := by
  have ha := pus_get (.cons c.pu .nil)
  have hv : ∀ a b, Pu (.tuple [.lit a, .lit b]) := fun a b => .tuple _ (pus_get (.cons (.lit _) (.cons (.lit _) .nil)))
  unfold textOut
  by_cases k1 : c.kind = 1
  · rw [if_pos k1]; exact Does.liftP (text1 c H.gl h k1) ha (hv _ _)
  rw [if_neg k1]
  by_cases k2 : c.kind = 2
  · rw [if_pos k2]; exact Does.liftP (text2 c H.gl h k2) ha (hv _ _)
  rw [if_neg k2]
  by_cases k3 : c.kind = 3
  · rw [if_pos k3]; exact Does.liftP (text3 c H.gl h k3) ha (hv _ _)
  rw [if_neg k3]
  by_cases k4 : c.kind = 4
  · rw [if_pos k4]; exact Does.liftP (text4 c H.gl h k4) ha (hv _ _)
  rw [if_neg k4]
  exact Does.liftP (text5 c H.gl ⟨k1, k2, k3, k4⟩) ha (hv _ _)
end Go.Proofs.F
