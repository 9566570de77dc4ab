/-
  Of the texts that prove drosslaw46.CertificateFormat: for every certificate of bulk at most 1048576 the law returns true, and the argument reads as before. Condition: the listed package-level variables hold what the program lays.
-/
import Derived.Test.YthgkipklofkoaaaGreatDoorC1
import Derived.Test.YthgkipklofkoaaaGreatDoorC5
open Go Go.Proofs Go.Cam Go.RowKit
set_option maxRecDepth 1000000
namespace Go.Proofs.F

theorem trow_r (c : Cert) (gl : Nat → Option (List Value)) (o : List UInt8) (i : Nat) (x : Int) (hx : c.deleted[i]? = some x) (hi : i < c.deleted.length) (hN : c.deleted.length ≤ 100000000) (hk : okI x)  (ho : o.length + (lineOf [114, 111, 119] [x]).length ≤ 9223372036854775807) :
  DoesC P 0 257 (loopAt P 36 0) (frameOf [(1, (.ptr 0 0)), (4, (.lit (.string (bs o)))), (7, (.lit (.int .i64 ((i : Nat) : Int))))]) (heapOf 1 [(0, .cells (someAll c.cs) 0)] gl) .normal
    (frameOf [(1, (.ptr 0 0)), (4, (.lit (.string (bs (o ++ (lineOf [114, 111, 119] [x])))))), (7, (.lit (.int .i64 ((i + 1 : Nat) : Int))))]) (heapOf 1 [(0, .cells (someAll c.cs) 0)] gl) :=
  pathR follows (n := 1000) (s := [.auto 4, .giv (.lit (.int .i64 ((c.deleted.length : Nat) : Int))), .giv (.lit (.bool true)), .dec true, .auto 5, .giv (.frp [(.lit (.int .i64 x))]), .auto 2, .call (.lit (.string (bs (lineOf [114, 111, 119] [x])))), .giv (.lit (.string (bs (o ++ (lineOf [114, 111, 119] [x]))))), .auto 2, .giv (.lit (.int .i64 ((i + 1 : Nat) : Int))), .auto 1])
    (obs := [builtinA P (Hp.mk 1 (treeOf [(0, .cells (someAll c.cs) 0)]) (treeOf [(0, [0])]) gl 1) .len #[23] 3 [(.frz 1 (List.map eInt c.deleted))] = some (.val (.lit (.int .i64 ((c.deleted.length : Nat) : Int))) (Hp.mk 1 (treeOf [(0, .cells (someAll c.cs) 0)]) (treeOf [(0, [0])]) gl 1)),
      binA P .lss 3 (.tmp 26) (.tmp 30) (.lit (.int .i64 ((i : Nat) : Int))) (.lit (.int .i64 ((c.deleted.length : Nat) : Int))) = some (.lit (.bool true)),
      some (AV.lit (.bool true)) = some (.lit (.bool true)),
      indexAddrA P 23 (.frz 1 (List.map eInt c.deleted)) (.lit (.int .i64 ((i : Nat) : Int))) = some (.frp [(.lit (.int .i64 x))]),
      Does P 60 [(.lit (.string (bs ([114, 111, 119])))), (.slice 1 0 1 1 (some 1))] (Hp.mk 2 (treeOf [(0, .cells (someAll c.cs) 0), (1, .cells [some (.lit (.int .i64 x))] 1)]) (treeOf [(0, [0]), (1, [1])]) gl 1) (.lit (.string (bs (lineOf [114, 111, 119] [x])))) (Hp.mk 2 (treeOf [(0, .cells (someAll c.cs) 0), (1, .cells [some (.lit (.int .i64 x))] 1)]) (treeOf [(0, [0]), (1, [1])]) gl 1),
      binA P .add 9 (.tmp 34) (.tmp 42) (.lit (.string (bs o))) (.lit (.string (bs (lineOf [114, 111, 119] [x])))) = some (.lit (.string (bs (o ++ (lineOf [114, 111, 119] [x]))))),
      binA P .add 3 (.tmp 32) (.const (.int .i64 1)) (.lit (.int .i64 ((i : Nat) : Int))) (.lit (.int .i64 1)) = some (.lit (.int .i64 ((i + 1 : Nat) : Int))),
      Rn (nameF 0 []) 1 (.ptr 0 0) (.ptr 0 0),
      Rn (nameF 0 []) 1 (.lit (.string (bs (o ++ (lineOf [114, 111, 119] [x]))))) (.lit (.string (bs (o ++ (lineOf [114, 111, 119] [x]))))),
      Rn (nameF 0 []) 1 (.lit (.int .i64 ((i + 1 : Nat) : Int))) (.lit (.int .i64 ((i + 1 : Nat) : Int))),
      RnO (nameF 0 []) 1 (.cells (someAll c.cs) 0) (.cells (someAll c.cs) 0)])
    (τ := []) (nx := 1) (l := [(1, (.ptr 0 0)), (4, (.lit (.string (bs (o ++ (lineOf [114, 111, 119] [x])))))), (7, (.lit (.int .i64 ((i + 1 : Nat) : Int))))])
    (bs := [(0, .cells (someAll c.cs) 0)]) (by kernel_rfl) ⟨len_frz (by kernel_rfl), bin_b (c := decide ((((i : Nat) : Int) : Int) < ((c.deleted.length : Nat) : Int))) (by kernel_rfl) (dt (by omega)), rfl, index_frz (n := i) (by kernel_rfl) hx, line_blk _ rfl _ 1 1 1 _ [x] (by kernel_rfl) rfl (ok1 hk) (by decide) (by simp), binA_bs (by omega), binA_addN (a := i) (b := 1) (by omega), Rn.ptr _ _ (by decide), Pu.rn (.lit _), Pu.rn (.lit _), (RnC.cons (Pu.rn (.lit _)) (RnC.cons (Pu.rn (Pu.map _ _ eInt_pu)) (RnC.cons (Pu.rn (.lit _)) (RnC.cons (Pu.rn (Pu.map _ _ eNd_pu)) (RnC.cons (Pu.rn (Pu.map _ _ ePt_pu)) (RnC.cons (Pu.rn (.lit _)) (RnC.cons (Pu.rn (Pu.map _ _ eStr_pu)) (RnC.cons (Pu.rn (Pu.map _ _ eRow_pu)) (RnC.cons (Pu.rn (Pu.map _ _ eCore_pu)) (RnC.cons (Pu.rn (Pu.map _ _ eNd_pu)) (RnC.cons (Pu.rn (Pu.map _ _ eSet_pu)) (RnC.cons (Pu.rn (Pu.map _ _ ePair_pu)) (RnC.cons (Pu.rn (Pu.map _ _ eStep_pu)) (RnC.cons (Pu.rn (.lit _)) (RnC.cons (Pu.rn (.lit _)) RnC.nil))))))))))))))), trivial⟩
theorem trow_e (c : Cert) (gl : Nat → Option (List Value)) (o : List UInt8) (i : Nat) (hi : c.deleted.length ≤ i) :
  DoesC P 0 257 (loopAt P 36 0) (frameOf [(1, (.ptr 0 0)), (4, (.lit (.string (bs o)))), (7, (.lit (.int .i64 ((i : Nat) : Int))))]) (heapOf 1 [(0, .cells (someAll c.cs) 0)] gl) (.exit 1)
    (frameOf [(1, (.ptr 0 0)), (4, (.lit (.string (bs o))))]) (heapOf 1 [(0, .cells (someAll c.cs) 0)] gl) :=
  pathR follows (n := 1000) (s := [.auto 4, .giv (.lit (.int .i64 ((c.deleted.length : Nat) : Int))), .giv (.lit (.bool false)), .dec false])
    (obs := [builtinA P (Hp.mk 1 (treeOf [(0, .cells (someAll c.cs) 0)]) (treeOf [(0, [0])]) gl 1) .len #[23] 3 [(.frz 1 (List.map eInt c.deleted))] = some (.val (.lit (.int .i64 ((c.deleted.length : Nat) : Int))) (Hp.mk 1 (treeOf [(0, .cells (someAll c.cs) 0)]) (treeOf [(0, [0])]) gl 1)),
      binA P .lss 3 (.tmp 26) (.tmp 30) (.lit (.int .i64 ((i : Nat) : Int))) (.lit (.int .i64 ((c.deleted.length : Nat) : Int))) = some (.lit (.bool false)),
      some (AV.lit (.bool false)) = some (.lit (.bool false)),
      Rn (nameF 0 []) 1 (.ptr 0 0) (.ptr 0 0),
      Rn (nameF 0 []) 1 (.lit (.string (bs o))) (.lit (.string (bs o))),
      RnO (nameF 0 []) 1 (.cells (someAll c.cs) 0) (.cells (someAll c.cs) 0)])
    (τ := []) (nx := 1) (l := [(1, (.ptr 0 0)), (4, (.lit (.string (bs o))))])
    (bs := [(0, .cells (someAll c.cs) 0)]) (by kernel_rfl) ⟨len_frz (by kernel_rfl), bin_b (c := decide ((((i : Nat) : Int) : Int) < ((c.deleted.length : Nat) : Int))) (by kernel_rfl) (df (by omega)), rfl, Rn.ptr _ _ (by decide), Pu.rn (.lit _), (RnC.cons (Pu.rn (.lit _)) (RnC.cons (Pu.rn (Pu.map _ _ eInt_pu)) (RnC.cons (Pu.rn (.lit _)) (RnC.cons (Pu.rn (Pu.map _ _ eNd_pu)) (RnC.cons (Pu.rn (Pu.map _ _ ePt_pu)) (RnC.cons (Pu.rn (.lit _)) (RnC.cons (Pu.rn (Pu.map _ _ eStr_pu)) (RnC.cons (Pu.rn (Pu.map _ _ eRow_pu)) (RnC.cons (Pu.rn (Pu.map _ _ eCore_pu)) (RnC.cons (Pu.rn (Pu.map _ _ eNd_pu)) (RnC.cons (Pu.rn (Pu.map _ _ eSet_pu)) (RnC.cons (Pu.rn (Pu.map _ _ ePair_pu)) (RnC.cons (Pu.rn (Pu.map _ _ eStep_pu)) (RnC.cons (Pu.rn (.lit _)) (RnC.cons (Pu.rn (.lit _)) RnC.nil))))))))))))))), trivial⟩
theorem trow (c : Cert) (gl : Nat → Option (List Value)) (o : List UInt8) (hN : c.deleted.length ≤ 100000000) (hk : ∀ x ∈ c.deleted, okI x)  (ho : o.length + (List.flatMap (fun x => (lineOf [114, 111, 119] [x])) c.deleted).length ≤ 9223372036854775807) :
  DoesL P 0 257 (loopAt P 36 0) (frameOf [(1, (.ptr 0 0)), (4, (.lit (.string (bs o)))), (7, (.lit (.int .i64 0)))]) (boxH c gl) (.exit 1) (frameOf [(1, (.ptr 0 0)), (4, (.lit (.string (bs (o ++ (List.flatMap (fun x => (lineOf [114, 111, 119] [x])) c.deleted))))))]) (boxH c gl) := by
  have h := loop_list (P := P) (K := 0) (nt := 257) (c := loopAt P 36 0) (xs := c.deleted) (fun i => frameOf [(1, (.ptr 0 0)), (4, (.lit (.string (bs (o ++ (List.flatMap (fun x => (lineOf [114, 111, 119] [x])) (List.take i c.deleted))))))), (7, (.lit (.int .i64 ((i : Nat) : Int))))]) (fun _ => boxH c gl) (e := .exit 1) (fr' := frameOf [(1, (.ptr 0 0)), (4, (.lit (.string (bs (o ++ (List.flatMap (fun x => (lineOf [114, 111, 119] [x])) c.deleted))))))]) (H' := boxH c gl) (fun i x hx => ?_) ?_ (by simp)
  · simp only [List.take_zero, List.flatMap_nil, List.append_nil] at h
    exact h
  · have e := take_flatMap_succ hx (fun x => (lineOf [114, 111, 119] [x]))
    have hle := flatMap_take_le c.deleted (i + 1) (fun x => (lineOf [114, 111, 119] [x]))
    rw [e, List.length_append] at hle
    have r := trow_r c gl (o ++ (List.flatMap (fun x => (lineOf [114, 111, 119] [x])) (List.take i c.deleted))) i x hx (at_lt hx) hN (hk x (at_mem hx))  (by rw [List.length_append]; omega)
    rw [List.append_assoc, ← e] at r
    exact r
  · have r := trow_e c gl (o ++ (List.flatMap (fun x => (lineOf [114, 111, 119] [x])) c.deleted)) c.deleted.length (Nat.le_refl _)
    rw [List.take_length]
    exact r
theorem tcell_r (c : Cert) (gl : Nat → Option (List Value)) (o : List UInt8) (i : Nat) (x : Int × Int) (hx : c.cells[i]? = some x) (hi : i < c.cells.length) (hN : c.cells.length ≤ 100000000) (hk : okPt x)  (ho : o.length + (lineOf [99, 101, 108, 108] [x.1, x.2]).length ≤ 9223372036854775807) :
  DoesC P 0 257 (loopAt P 36 1) (frameOf [(1, (.ptr 0 0)), (4, (.lit (.string (bs o)))), (8, (.lit (.int .i64 ((i : Nat) : Int))))]) (heapOf 1 [(0, .cells (someAll c.cs) 0)] gl) .normal
    (frameOf [(1, (.ptr 0 0)), (4, (.lit (.string (bs (o ++ (lineOf [99, 101, 108, 108] [x.1, x.2])))))), (8, (.lit (.int .i64 ((i + 1 : Nat) : Int))))]) (heapOf 1 [(0, .cells (someAll c.cs) 0)] gl) :=
  pathR follows (n := 1000) (s := [.auto 4, .giv (.lit (.int .i64 ((c.cells.length : Nat) : Int))), .giv (.lit (.bool true)), .dec true, .auto 5, .giv (.frp [(.lit (.int .i64 x.1)), (.lit (.int .i64 x.2))]), .auto 6, .giv (.frp [(.lit (.int .i64 x.1)), (.lit (.int .i64 x.2))]), .auto 3, .call (.lit (.string (bs (lineOf [99, 101, 108, 108] [x.1, x.2])))), .giv (.lit (.string (bs (o ++ (lineOf [99, 101, 108, 108] [x.1, x.2]))))), .auto 2, .giv (.lit (.int .i64 ((i + 1 : Nat) : Int))), .auto 1])
    (obs := [builtinA P (Hp.mk 1 (treeOf [(0, .cells (someAll c.cs) 0)]) (treeOf [(0, [0])]) gl 1) .len #[27] 3 [(.frz 2 (List.map ePt c.cells))] = some (.val (.lit (.int .i64 ((c.cells.length : Nat) : Int))) (Hp.mk 1 (treeOf [(0, .cells (someAll c.cs) 0)]) (treeOf [(0, [0])]) gl 1)),
      binA P .lss 3 (.tmp 54) (.tmp 58) (.lit (.int .i64 ((i : Nat) : Int))) (.lit (.int .i64 ((c.cells.length : Nat) : Int))) = some (.lit (.bool true)),
      some (AV.lit (.bool true)) = some (.lit (.bool true)),
      indexAddrA P 27 (.frz 2 (List.map ePt c.cells)) (.lit (.int .i64 ((i : Nat) : Int))) = some (.frp [(.lit (.int .i64 x.1)), (.lit (.int .i64 x.2))]),
      indexAddrA P 27 (.frz 2 (List.map ePt c.cells)) (.lit (.int .i64 ((i : Nat) : Int))) = some (.frp [(.lit (.int .i64 x.1)), (.lit (.int .i64 x.2))]),
      Does P 60 [(.lit (.string (bs ([99, 101, 108, 108])))), (.slice 16 0 2 1 (some 2))] (Hp.mk 20 (treeOf [(0, .cells (someAll c.cs) 0), (16, .cells [some (.lit (.int .i64 x.1)), some (.lit (.int .i64 x.2))] 16)]) (treeOf [(0, [0]), (16, [16])]) gl 1) (.lit (.string (bs (lineOf [99, 101, 108, 108] [x.1, x.2])))) (Hp.mk 20 (treeOf [(0, .cells (someAll c.cs) 0), (16, .cells [some (.lit (.int .i64 x.1)), some (.lit (.int .i64 x.2))] 16)]) (treeOf [(0, [0]), (16, [16])]) gl 1),
      binA P .add 9 (.tmp 62) (.tmp 78) (.lit (.string (bs o))) (.lit (.string (bs (lineOf [99, 101, 108, 108] [x.1, x.2])))) = some (.lit (.string (bs (o ++ (lineOf [99, 101, 108, 108] [x.1, x.2]))))),
      binA P .add 3 (.tmp 60) (.const (.int .i64 1)) (.lit (.int .i64 ((i : Nat) : Int))) (.lit (.int .i64 1)) = some (.lit (.int .i64 ((i + 1 : Nat) : Int))),
      Rn (nameF 0 []) 1 (.ptr 0 0) (.ptr 0 0),
      Rn (nameF 0 []) 1 (.lit (.string (bs (o ++ (lineOf [99, 101, 108, 108] [x.1, x.2]))))) (.lit (.string (bs (o ++ (lineOf [99, 101, 108, 108] [x.1, x.2]))))),
      Rn (nameF 0 []) 1 (.lit (.int .i64 ((i + 1 : Nat) : Int))) (.lit (.int .i64 ((i + 1 : Nat) : Int))),
      RnO (nameF 0 []) 1 (.cells (someAll c.cs) 0) (.cells (someAll c.cs) 0)])
    (τ := []) (nx := 1) (l := [(1, (.ptr 0 0)), (4, (.lit (.string (bs (o ++ (lineOf [99, 101, 108, 108] [x.1, x.2])))))), (8, (.lit (.int .i64 ((i + 1 : Nat) : Int))))])
    (bs := [(0, .cells (someAll c.cs) 0)]) (by kernel_rfl) ⟨len_frz (by kernel_rfl), bin_b (c := decide ((((i : Nat) : Int) : Int) < ((c.cells.length : Nat) : Int))) (by kernel_rfl) (dt (by omega)), rfl, index_frz (n := i) (by kernel_rfl) hx, index_frz (n := i) (by kernel_rfl) hx, line_blk _ rfl _ 16 16 2 _ [x.1, x.2] (by kernel_rfl) rfl (ok2 hk.1 hk.2) (by decide) (by simp), binA_bs (by omega), binA_addN (a := i) (b := 1) (by omega), Rn.ptr _ _ (by decide), Pu.rn (.lit _), Pu.rn (.lit _), (RnC.cons (Pu.rn (.lit _)) (RnC.cons (Pu.rn (Pu.map _ _ eInt_pu)) (RnC.cons (Pu.rn (.lit _)) (RnC.cons (Pu.rn (Pu.map _ _ eNd_pu)) (RnC.cons (Pu.rn (Pu.map _ _ ePt_pu)) (RnC.cons (Pu.rn (.lit _)) (RnC.cons (Pu.rn (Pu.map _ _ eStr_pu)) (RnC.cons (Pu.rn (Pu.map _ _ eRow_pu)) (RnC.cons (Pu.rn (Pu.map _ _ eCore_pu)) (RnC.cons (Pu.rn (Pu.map _ _ eNd_pu)) (RnC.cons (Pu.rn (Pu.map _ _ eSet_pu)) (RnC.cons (Pu.rn (Pu.map _ _ ePair_pu)) (RnC.cons (Pu.rn (Pu.map _ _ eStep_pu)) (RnC.cons (Pu.rn (.lit _)) (RnC.cons (Pu.rn (.lit _)) RnC.nil))))))))))))))), trivial⟩
theorem tcell_e (c : Cert) (gl : Nat → Option (List Value)) (o : List UInt8) (i : Nat) (hi : c.cells.length ≤ i) :
  DoesC P 0 257 (loopAt P 36 1) (frameOf [(1, (.ptr 0 0)), (4, (.lit (.string (bs o)))), (8, (.lit (.int .i64 ((i : Nat) : Int))))]) (heapOf 1 [(0, .cells (someAll c.cs) 0)] gl) (.exit 3)
    (frameOf [(1, (.ptr 0 0)), (4, (.lit (.string (bs o))))]) (heapOf 1 [(0, .cells (someAll c.cs) 0)] gl) :=
  pathR follows (n := 1000) (s := [.auto 4, .giv (.lit (.int .i64 ((c.cells.length : Nat) : Int))), .giv (.lit (.bool false)), .dec false])
    (obs := [builtinA P (Hp.mk 1 (treeOf [(0, .cells (someAll c.cs) 0)]) (treeOf [(0, [0])]) gl 1) .len #[27] 3 [(.frz 2 (List.map ePt c.cells))] = some (.val (.lit (.int .i64 ((c.cells.length : Nat) : Int))) (Hp.mk 1 (treeOf [(0, .cells (someAll c.cs) 0)]) (treeOf [(0, [0])]) gl 1)),
      binA P .lss 3 (.tmp 54) (.tmp 58) (.lit (.int .i64 ((i : Nat) : Int))) (.lit (.int .i64 ((c.cells.length : Nat) : Int))) = some (.lit (.bool false)),
      some (AV.lit (.bool false)) = some (.lit (.bool false)),
      Rn (nameF 0 []) 1 (.ptr 0 0) (.ptr 0 0),
      Rn (nameF 0 []) 1 (.lit (.string (bs o))) (.lit (.string (bs o))),
      RnO (nameF 0 []) 1 (.cells (someAll c.cs) 0) (.cells (someAll c.cs) 0)])
    (τ := []) (nx := 1) (l := [(1, (.ptr 0 0)), (4, (.lit (.string (bs o))))])
    (bs := [(0, .cells (someAll c.cs) 0)]) (by kernel_rfl) ⟨len_frz (by kernel_rfl), bin_b (c := decide ((((i : Nat) : Int) : Int) < ((c.cells.length : Nat) : Int))) (by kernel_rfl) (df (by omega)), rfl, Rn.ptr _ _ (by decide), Pu.rn (.lit _), (RnC.cons (Pu.rn (.lit _)) (RnC.cons (Pu.rn (Pu.map _ _ eInt_pu)) (RnC.cons (Pu.rn (.lit _)) (RnC.cons (Pu.rn (Pu.map _ _ eNd_pu)) (RnC.cons (Pu.rn (Pu.map _ _ ePt_pu)) (RnC.cons (Pu.rn (.lit _)) (RnC.cons (Pu.rn (Pu.map _ _ eStr_pu)) (RnC.cons (Pu.rn (Pu.map _ _ eRow_pu)) (RnC.cons (Pu.rn (Pu.map _ _ eCore_pu)) (RnC.cons (Pu.rn (Pu.map _ _ eNd_pu)) (RnC.cons (Pu.rn (Pu.map _ _ eSet_pu)) (RnC.cons (Pu.rn (Pu.map _ _ ePair_pu)) (RnC.cons (Pu.rn (Pu.map _ _ eStep_pu)) (RnC.cons (Pu.rn (.lit _)) (RnC.cons (Pu.rn (.lit _)) RnC.nil))))))))))))))), trivial⟩
theorem tcell (c : Cert) (gl : Nat → Option (List Value)) (o : List UInt8) (hN : c.cells.length ≤ 100000000) (hk : ∀ x ∈ c.cells, okPt x)  (ho : o.length + (List.flatMap (fun x => (lineOf [99, 101, 108, 108] [x.1, x.2])) c.cells).length ≤ 9223372036854775807) :
  DoesL P 0 257 (loopAt P 36 1) (frameOf [(1, (.ptr 0 0)), (4, (.lit (.string (bs o)))), (8, (.lit (.int .i64 0)))]) (boxH c gl) (.exit 3) (frameOf [(1, (.ptr 0 0)), (4, (.lit (.string (bs (o ++ (List.flatMap (fun x => (lineOf [99, 101, 108, 108] [x.1, x.2])) c.cells))))))]) (boxH c gl) := by
  have h := loop_list (P := P) (K := 0) (nt := 257) (c := loopAt P 36 1) (xs := c.cells) (fun i => frameOf [(1, (.ptr 0 0)), (4, (.lit (.string (bs (o ++ (List.flatMap (fun x => (lineOf [99, 101, 108, 108] [x.1, x.2])) (List.take i c.cells))))))), (8, (.lit (.int .i64 ((i : Nat) : Int))))]) (fun _ => boxH c gl) (e := .exit 3) (fr' := frameOf [(1, (.ptr 0 0)), (4, (.lit (.string (bs (o ++ (List.flatMap (fun x => (lineOf [99, 101, 108, 108] [x.1, x.2])) c.cells))))))]) (H' := boxH c gl) (fun i x hx => ?_) ?_ (by simp)
  · simp only [List.take_zero, List.flatMap_nil, List.append_nil] at h
    exact h
  · have e := take_flatMap_succ hx (fun x => (lineOf [99, 101, 108, 108] [x.1, x.2]))
    have hle := flatMap_take_le c.cells (i + 1) (fun x => (lineOf [99, 101, 108, 108] [x.1, x.2]))
    rw [e, List.length_append] at hle
    have r := tcell_r c gl (o ++ (List.flatMap (fun x => (lineOf [99, 101, 108, 108] [x.1, x.2])) (List.take i c.cells))) i x hx (at_lt hx) hN (hk x (at_mem hx))  (by rw [List.length_append]; omega)
    rw [List.append_assoc, ← e] at r
    exact r
  · have r := tcell_e c gl (o ++ (List.flatMap (fun x => (lineOf [99, 101, 108, 108] [x.1, x.2])) c.cells)) c.cells.length (Nat.le_refl _)
    rw [List.take_length]
    exact r
theorem tcore1_r0 (c : Cert) (gl : Nat → Option (List Value)) (o : List UInt8) (j : Nat) (d : List (Int × Int)) (hd : c.cores[j]? = some d)  (x : Int × Int) (hx : d[0]? = some x) (hi : 0 < d.length) (hL : 2 * d.length ≤ 268435450) :
  DoesC P 0 257 (loopAt P 36 3) (frameOf [(1, (.ptr 0 0)), (4, (.lit (.string (bs o)))), (9, (.lit (.int .i64 ((j : Nat) : Int)))), (10, (.lit (.slice none 0 0))), (11, (.lit (.int .i64 0)))]) (heapOf 1 [(0, .cells (someAll c.cs) 0)] gl) .normal
    (frameOf [(1, (.ptr 0 0)), (4, (.lit (.string (bs o)))), (9, (.lit (.int .i64 ((j : Nat) : Int)))), (10, (.slice 1 0 2 1 none)), (11, (.lit (.int .i64 1)))]) (heapOf 2 [(0, .cells (someAll c.cs) 0), (1, .cells [some (.lit (.int .i64 x.1)), some (.lit (.int .i64 x.2))] 1)] gl) :=
  pathR follows (n := 1000) (s := [.auto 5, .giv (.frp [(.frz 2 (List.map ePt d))]), .auto 1, .giv (.lit (.int .i64 ((d.length : Nat) : Int))), .giv (.lit (.bool true)), .dec true, .auto 5, .giv (.frp [(.frz 2 (List.map ePt d))]), .auto 2, .giv (.frp [(.lit (.int .i64 x.1)), (.lit (.int .i64 x.2))]), .auto 6, .giv (.frp [(.frz 2 (List.map ePt d))]), .auto 2, .giv (.frp [(.lit (.int .i64 x.1)), (.lit (.int .i64 x.2))]), .auto 8])
    (obs := [indexAddrA P 32 (.frz 1 (List.map eCore c.cores)) (.lit (.int .i64 ((j : Nat) : Int))) = some (.frp [(.frz 2 (List.map ePt d))]),
      builtinA P (Hp.mk 1 (treeOf [(0, .cells (someAll c.cs) 0)]) (treeOf [(0, [0])]) gl 1) .len #[27] 3 [(.frz 2 (List.map ePt d))] = some (.val (.lit (.int .i64 ((d.length : Nat) : Int))) (Hp.mk 1 (treeOf [(0, .cells (someAll c.cs) 0)]) (treeOf [(0, [0])]) gl 1)),
      binA P .lss 3 (.tmp 88) (.tmp 95) (.lit (.int .i64 0)) (.lit (.int .i64 ((d.length : Nat) : Int))) = some (.lit (.bool true)),
      some (AV.lit (.bool true)) = some (.lit (.bool true)),
      indexAddrA P 32 (.frz 1 (List.map eCore c.cores)) (.lit (.int .i64 ((j : Nat) : Int))) = some (.frp [(.frz 2 (List.map ePt d))]),
      indexAddrA P 27 (.frz 2 (List.map ePt d)) (.lit (.int .i64 0)) = some (.frp [(.lit (.int .i64 x.1)), (.lit (.int .i64 x.2))]),
      indexAddrA P 32 (.frz 1 (List.map eCore c.cores)) (.lit (.int .i64 ((j : Nat) : Int))) = some (.frp [(.frz 2 (List.map ePt d))]),
      indexAddrA P 27 (.frz 2 (List.map ePt d)) (.lit (.int .i64 0)) = some (.frp [(.lit (.int .i64 x.1)), (.lit (.int .i64 x.2))]),
      Rn (nameF 0 [(1, 25)]) 2 (.ptr 0 0) (.ptr 0 0),
      Rn (nameF 0 [(1, 25)]) 2 (.lit (.string (bs o))) (.lit (.string (bs o))),
      Rn (nameF 0 [(1, 25)]) 2 (.lit (.int .i64 ((j : Nat) : Int))) (.lit (.int .i64 ((j : Nat) : Int))),
      Rn (nameF 0 [(1, 25)]) 2 (.slice 1 0 2 1 none) (.slice 25 0 2 1 none),
      Rn (nameF 0 [(1, 25)]) 2 (.lit (.int .i64 1)) (.lit (.int .i64 1)),
      RnO (nameF 0 [(1, 25)]) 2 (.cells (someAll c.cs) 0) (.cells (someAll c.cs) 0),
      RnO (nameF 0 [(1, 25)]) 2 (.cells [some (.lit (.int .i64 x.1)), some (.lit (.int .i64 x.2))] 1) (.cells [some (.lit (.int .i64 x.1)), some (.lit (.int .i64 x.2))] 25)])
    (τ := [(1, 25)]) (nx := 2) (l := [(1, (.ptr 0 0)), (4, (.lit (.string (bs o)))), (9, (.lit (.int .i64 ((j : Nat) : Int)))), (10, (.slice 1 0 2 1 none)), (11, (.lit (.int .i64 1)))])
    (bs := [(0, .cells (someAll c.cs) 0), (1, .cells [some (.lit (.int .i64 x.1)), some (.lit (.int .i64 x.2))] 1)]) (by kernel_rfl) ⟨index_frz (n := j) (by kernel_rfl) hd, len_frz (by kernel_rfl), bin_b (c := decide ((0 : Int) < ((d.length : Nat) : Int))) (by kernel_rfl) (dt (by omega)), rfl, index_frz (n := j) (by kernel_rfl) hd, index_frz (n := 0) (by kernel_rfl) hx, index_frz (n := j) (by kernel_rfl) hd, index_frz (n := 0) (by kernel_rfl) hx, Rn.ptr _ _ (by decide), Pu.rn (.lit _), Pu.rn (.lit _), Rn.slice _ _ _ _ _ (by decide), Pu.rn (.lit _), (RnC.cons (Pu.rn (.lit _)) (RnC.cons (Pu.rn (Pu.map _ _ eInt_pu)) (RnC.cons (Pu.rn (.lit _)) (RnC.cons (Pu.rn (Pu.map _ _ eNd_pu)) (RnC.cons (Pu.rn (Pu.map _ _ ePt_pu)) (RnC.cons (Pu.rn (.lit _)) (RnC.cons (Pu.rn (Pu.map _ _ eStr_pu)) (RnC.cons (Pu.rn (Pu.map _ _ eRow_pu)) (RnC.cons (Pu.rn (Pu.map _ _ eCore_pu)) (RnC.cons (Pu.rn (Pu.map _ _ eNd_pu)) (RnC.cons (Pu.rn (Pu.map _ _ eSet_pu)) (RnC.cons (Pu.rn (Pu.map _ _ ePair_pu)) (RnC.cons (Pu.rn (Pu.map _ _ eStep_pu)) (RnC.cons (Pu.rn (.lit _)) (RnC.cons (Pu.rn (.lit _)) RnC.nil))))))))))))))), (RnC.cons (Pu.rn (.lit _)) (RnC.cons (Pu.rn (.lit _)) RnC.nil)), trivial⟩
theorem tcore1_r (c : Cert) (gl : Nat → Option (List Value)) (o : List UInt8) (j : Nat) (d : List (Int × Int)) (hd : c.cores[j]? = some d)  (i n : Nat) (L : List Int) (hn : n = L.length) (x : Int × Int) (hx : d[i]? = some x) (hi : i < d.length) (hf : n + 2 ≤ 268435456) (hL : 2 * d.length ≤ 268435450) :
  DoesC P 0 257 (loopAt P 36 3) (frameOf [(1, (.ptr 0 0)), (4, (.lit (.string (bs o)))), (9, (.lit (.int .i64 ((j : Nat) : Int)))), (10, (.slice 1 0 n 1 none)), (11, (.lit (.int .i64 ((i : Nat) : Int))))]) (heapOf 2 [(0, .cells (someAll c.cs) 0), (1, .cells (rowc eInt L) 1)] gl) .normal
    (frameOf [(1, (.ptr 0 0)), (4, (.lit (.string (bs o)))), (9, (.lit (.int .i64 ((j : Nat) : Int)))), (10, (.slice 1 0 (n + 2) 1 none)), (11, (.lit (.int .i64 ((i + 1 : Nat) : Int))))]) (heapOf 2 [(0, .cells (someAll c.cs) 0), (1, .cells (rowc eInt (L ++ [x.1, x.2])) 1)] gl) :=
  pathR follows (n := 1000) (s := [.auto 5, .giv (.frp [(.frz 2 (List.map ePt d))]), .auto 1, .giv (.lit (.int .i64 ((d.length : Nat) : Int))), .giv (.lit (.bool true)), .dec true, .auto 5, .giv (.frp [(.frz 2 (List.map ePt d))]), .auto 2, .giv (.frp [(.lit (.int .i64 x.1)), (.lit (.int .i64 x.2))]), .auto 6, .giv (.frp [(.frz 2 (List.map ePt d))]), .auto 2, .giv (.frp [(.lit (.int .i64 x.1)), (.lit (.int .i64 x.2))]), .auto 3, .givH (.slice 26 0 (n + 2) 1 none) (Hp.mk 27 (treeOf [(0, .cells (someAll c.cs) 0), (1, .cells (rowc eInt L) 1), (23, .cells [some (.lit (.int .i64 x.1)), some (.lit (.int .i64 x.2))] 23), (26, .cells (rowc eInt (L ++ [x.1, x.2])) 1)]) (treeOf [(0, [0]), (1, [26, 1]), (23, [23])]) gl 1), .auto 2, .giv (.lit (.int .i64 ((i + 1 : Nat) : Int))), .auto 1])
    (obs := [indexAddrA P 32 (.frz 1 (List.map eCore c.cores)) (.lit (.int .i64 ((j : Nat) : Int))) = some (.frp [(.frz 2 (List.map ePt d))]),
      builtinA P (Hp.mk 2 (treeOf [(0, .cells (someAll c.cs) 0), (1, .cells (rowc eInt L) 1)]) (treeOf [(0, [0]), (1, [1])]) gl 1) .len #[27] 3 [(.frz 2 (List.map ePt d))] = some (.val (.lit (.int .i64 ((d.length : Nat) : Int))) (Hp.mk 2 (treeOf [(0, .cells (someAll c.cs) 0), (1, .cells (rowc eInt L) 1)]) (treeOf [(0, [0]), (1, [1])]) gl 1)),
      binA P .lss 3 (.tmp 88) (.tmp 95) (.lit (.int .i64 ((i : Nat) : Int))) (.lit (.int .i64 ((d.length : Nat) : Int))) = some (.lit (.bool true)),
      some (AV.lit (.bool true)) = some (.lit (.bool true)),
      indexAddrA P 32 (.frz 1 (List.map eCore c.cores)) (.lit (.int .i64 ((j : Nat) : Int))) = some (.frp [(.frz 2 (List.map ePt d))]),
      indexAddrA P 27 (.frz 2 (List.map ePt d)) (.lit (.int .i64 ((i : Nat) : Int))) = some (.frp [(.lit (.int .i64 x.1)), (.lit (.int .i64 x.2))]),
      indexAddrA P 32 (.frz 1 (List.map eCore c.cores)) (.lit (.int .i64 ((j : Nat) : Int))) = some (.frp [(.frz 2 (List.map ePt d))]),
      indexAddrA P 27 (.frz 2 (List.map ePt d)) (.lit (.int .i64 ((i : Nat) : Int))) = some (.frp [(.lit (.int .i64 x.1)), (.lit (.int .i64 x.2))]),
      builtinA P (Hp.mk 26 (treeOf [(0, .cells (someAll c.cs) 0), (1, .cells (rowc eInt L) 1), (23, .cells [some (.lit (.int .i64 x.1)), some (.lit (.int .i64 x.2))] 23)]) (treeOf [(0, [0]), (1, [1]), (23, [23])]) gl 1) .append #[23, 23] 23 [(.slice 1 0 n 1 none), (.slice 23 0 2 1 (some 2))] = some (.val (.slice 26 0 (n + 2) 1 none) (Hp.mk 27 (treeOf [(0, .cells (someAll c.cs) 0), (1, .cells (rowc eInt L) 1), (23, .cells [some (.lit (.int .i64 x.1)), some (.lit (.int .i64 x.2))] 23), (26, .cells (rowc eInt (L ++ [x.1, x.2])) 1)]) (treeOf [(0, [0]), (1, [26, 1]), (23, [23])]) gl 1)),
      binA P .add 3 (.tmp 97) (.const (.int .i64 1)) (.lit (.int .i64 ((i : Nat) : Int))) (.lit (.int .i64 1)) = some (.lit (.int .i64 ((i + 1 : Nat) : Int))),
      Rn (nameF 0 [(1, 26)]) 2 (.ptr 0 0) (.ptr 0 0),
      Rn (nameF 0 [(1, 26)]) 2 (.lit (.string (bs o))) (.lit (.string (bs o))),
      Rn (nameF 0 [(1, 26)]) 2 (.lit (.int .i64 ((j : Nat) : Int))) (.lit (.int .i64 ((j : Nat) : Int))),
      Rn (nameF 0 [(1, 26)]) 2 (.slice 1 0 (n + 2) 1 none) (.slice 26 0 (n + 2) 1 none),
      Rn (nameF 0 [(1, 26)]) 2 (.lit (.int .i64 ((i + 1 : Nat) : Int))) (.lit (.int .i64 ((i + 1 : Nat) : Int))),
      RnO (nameF 0 [(1, 26)]) 2 (.cells (someAll c.cs) 0) (.cells (someAll c.cs) 0),
      RnO (nameF 0 [(1, 26)]) 2 (.cells (rowc eInt (L ++ [x.1, x.2])) 1) (.cells (rowc eInt (L ++ [x.1, x.2])) 1)])
    (τ := [(1, 26)]) (nx := 2) (l := [(1, (.ptr 0 0)), (4, (.lit (.string (bs o)))), (9, (.lit (.int .i64 ((j : Nat) : Int)))), (10, (.slice 1 0 (n + 2) 1 none)), (11, (.lit (.int .i64 ((i + 1 : Nat) : Int))))])
    (bs := [(0, .cells (someAll c.cs) 0), (1, .cells (rowc eInt (L ++ [x.1, x.2])) 1)]) (by kernel_rfl) ⟨index_frz (n := j) (by kernel_rfl) hd, len_frz (by kernel_rfl), bin_b (c := decide ((((i : Nat) : Int) : Int) < ((d.length : Nat) : Int))) (by kernel_rfl) (dt (by omega)), rfl, index_frz (n := j) (by kernel_rfl) hd, index_frz (n := i) (by kernel_rfl) hx, index_frz (n := j) (by kernel_rfl) hd, index_frz (n := i) (by kernel_rfl) hx, append_row (b := 1) (g := 1) (enc := eInt) (L := L) (L2 := (L ++ [x.1, x.2])) (ys := [(.lit (.int .i64 x.1)), (.lit (.int .i64 x.2))]) (by kernel_rfl) (by kernel_rfl) (by kernel_rfl) (by kernel_rfl) (by simp [eInt]) (by rw [rowc_length eInt_len]; omega) (by kernel_rfl) (by omega) (by kernel_rfl) (by kernel_rfl), binA_addN (a := i) (b := 1) (by omega), Rn.ptr _ _ (by decide), Pu.rn (.lit _), Pu.rn (.lit _), Rn.slice _ _ _ _ _ (by decide), Pu.rn (.lit _), (RnC.cons (Pu.rn (.lit _)) (RnC.cons (Pu.rn (Pu.map _ _ eInt_pu)) (RnC.cons (Pu.rn (.lit _)) (RnC.cons (Pu.rn (Pu.map _ _ eNd_pu)) (RnC.cons (Pu.rn (Pu.map _ _ ePt_pu)) (RnC.cons (Pu.rn (.lit _)) (RnC.cons (Pu.rn (Pu.map _ _ eStr_pu)) (RnC.cons (Pu.rn (Pu.map _ _ eRow_pu)) (RnC.cons (Pu.rn (Pu.map _ _ eCore_pu)) (RnC.cons (Pu.rn (Pu.map _ _ eNd_pu)) (RnC.cons (Pu.rn (Pu.map _ _ eSet_pu)) (RnC.cons (Pu.rn (Pu.map _ _ ePair_pu)) (RnC.cons (Pu.rn (Pu.map _ _ eStep_pu)) (RnC.cons (Pu.rn (.lit _)) (RnC.cons (Pu.rn (.lit _)) RnC.nil))))))))))))))), RnC.row eInt_pu, trivial⟩
theorem tcore1_e0 (c : Cert) (gl : Nat → Option (List Value)) (o : List UInt8) (j : Nat) (d : List (Int × Int)) (hd : c.cores[j]? = some d)  (hi : d.length ≤ 0) :
  DoesC P 0 257 (loopAt P 36 3) (frameOf [(1, (.ptr 0 0)), (4, (.lit (.string (bs o)))), (9, (.lit (.int .i64 ((j : Nat) : Int)))), (10, (.lit (.slice none 0 0))), (11, (.lit (.int .i64 0)))]) (heapOf 1 [(0, .cells (someAll c.cs) 0)] gl) (.exit 7)
    (frameOf [(1, (.ptr 0 0)), (4, (.lit (.string (bs o)))), (9, (.lit (.int .i64 ((j : Nat) : Int)))), (10, (.lit (.slice none 0 0)))]) (Hp.mk 1 (treeOf [(0, .cells (someAll c.cs) 0)]) (treeOf [(0, [0])]) gl 1) :=
  path follows (n := 1000) (s := [.auto 5, .giv (.frp [(.frz 2 (List.map ePt d))]), .auto 1, .giv (.lit (.int .i64 ((d.length : Nat) : Int))), .giv (.lit (.bool false)), .dec false])
    (obs := [indexAddrA P 32 (.frz 1 (List.map eCore c.cores)) (.lit (.int .i64 ((j : Nat) : Int))) = some (.frp [(.frz 2 (List.map ePt d))]),
      builtinA P (Hp.mk 1 (treeOf [(0, .cells (someAll c.cs) 0)]) (treeOf [(0, [0])]) gl 1) .len #[27] 3 [(.frz 2 (List.map ePt d))] = some (.val (.lit (.int .i64 ((d.length : Nat) : Int))) (Hp.mk 1 (treeOf [(0, .cells (someAll c.cs) 0)]) (treeOf [(0, [0])]) gl 1)),
      binA P .lss 3 (.tmp 88) (.tmp 95) (.lit (.int .i64 0)) (.lit (.int .i64 ((d.length : Nat) : Int))) = some (.lit (.bool false)),
      some (AV.lit (.bool false)) = some (.lit (.bool false))])
    (ts := [1, 4, 9, 10]) (by kernel_rfl) ⟨index_frz (n := j) (by kernel_rfl) hd, len_frz (by kernel_rfl), bin_b (c := decide ((0 : Int) < ((d.length : Nat) : Int))) (by kernel_rfl) (df (by omega)), rfl, trivial⟩
theorem tcore1_e (c : Cert) (gl : Nat → Option (List Value)) (o : List UInt8) (j : Nat) (d : List (Int × Int)) (hd : c.cores[j]? = some d)  (i n : Nat) (L : List Int) (hi : d.length ≤ i) :
  DoesC P 0 257 (loopAt P 36 3) (frameOf [(1, (.ptr 0 0)), (4, (.lit (.string (bs o)))), (9, (.lit (.int .i64 ((j : Nat) : Int)))), (10, (.slice 1 0 n 1 none)), (11, (.lit (.int .i64 ((i : Nat) : Int))))]) (heapOf 2 [(0, .cells (someAll c.cs) 0), (1, .cells (rowc eInt L) 1)] gl) (.exit 7)
    (frameOf [(1, (.ptr 0 0)), (4, (.lit (.string (bs o)))), (9, (.lit (.int .i64 ((j : Nat) : Int)))), (10, (.slice 1 0 n 1 none))]) (Hp.mk 2 (treeOf [(0, .cells (someAll c.cs) 0), (1, .cells (rowc eInt L) 1)]) (treeOf [(0, [0]), (1, [1])]) gl 1) :=
  path follows (n := 1000) (s := [.auto 5, .giv (.frp [(.frz 2 (List.map ePt d))]), .auto 1, .giv (.lit (.int .i64 ((d.length : Nat) : Int))), .giv (.lit (.bool false)), .dec false])
    (obs := [indexAddrA P 32 (.frz 1 (List.map eCore c.cores)) (.lit (.int .i64 ((j : Nat) : Int))) = some (.frp [(.frz 2 (List.map ePt d))]),
      builtinA P (Hp.mk 2 (treeOf [(0, .cells (someAll c.cs) 0), (1, .cells (rowc eInt L) 1)]) (treeOf [(0, [0]), (1, [1])]) gl 1) .len #[27] 3 [(.frz 2 (List.map ePt d))] = some (.val (.lit (.int .i64 ((d.length : Nat) : Int))) (Hp.mk 2 (treeOf [(0, .cells (someAll c.cs) 0), (1, .cells (rowc eInt L) 1)]) (treeOf [(0, [0]), (1, [1])]) gl 1)),
      binA P .lss 3 (.tmp 88) (.tmp 95) (.lit (.int .i64 ((i : Nat) : Int))) (.lit (.int .i64 ((d.length : Nat) : Int))) = some (.lit (.bool false)),
      some (AV.lit (.bool false)) = some (.lit (.bool false))])
    (ts := [1, 4, 9, 10]) (by kernel_rfl) ⟨index_frz (n := j) (by kernel_rfl) hd, len_frz (by kernel_rfl), bin_b (c := decide ((((i : Nat) : Int) : Int) < ((d.length : Nat) : Int))) (by kernel_rfl) (df (by omega)), rfl, trivial⟩
theorem tcore1 (c : Cert) (gl : Nat → Option (List Value)) (o : List UInt8) (j : Nat) (d : List (Int × Int)) (hd : c.cores[j]? = some d)  (hlen : 2 * d.length ≤ 268435450) :
  DoesL P 0 257 (loopAt P 36 3) (frameOf [(1, (.ptr 0 0)), (4, (.lit (.string (bs o)))), (9, (.lit (.int .i64 ((j : Nat) : Int)))), (10, (.lit (.slice none 0 0))), (11, (.lit (.int .i64 0)))]) (heapOf 1 [(0, .cells (someAll c.cs) 0)] gl) (.exit 7) (frameOf [(1, (.ptr 0 0)), (4, (.lit (.string (bs o)))), (9, (.lit (.int .i64 ((j : Nat) : Int)))), (10, (.frz 1 (List.map eInt (List.flatMap (fun (x : Int × Int) => [x.1, x.2]) d))))]) (heapOf 1 [(0, .cells (someAll c.cs) 0)] gl) := by
  rcases Nat.eq_zero_or_pos d.length with h0 | h0
  · have h := DoesL.out (tcore1_e0 c gl o j d hd  (by omega)) (by simp)
    have e0 : d = [] := List.length_eq_zero_iff.1 h0
    refine DoesL.clean h (ts := [1, 4, 9, 10]) (l := [(1, (.ptr 0 0)), (4, (.lit (.string (bs o)))), (9, (.lit (.int .i64 ((j : Nat) : Int)))), (10, (.frz 1 (List.map eInt (List.flatMap (fun (x : Int × Int) => [x.1, x.2]) d))))]) 1 [(0, .cells (someAll c.cs) 0)] (by kernel_rfl) ?_ (.cons (.refl _) (.cons (.refl _) (.cons (.refl _) (.cons (.nilL (by rw [e0]; rfl)) .nil)))) ?_ (by kernel_rfl) (ps := [RnO (nameF 0 []) 1 (.cells (someAll c.cs) 0) (.cells (someAll c.cs) 0)]) ⟨(RnC.cons (Pu.rn (.lit _)) (RnC.cons (Pu.rn (Pu.map _ _ eInt_pu)) (RnC.cons (Pu.rn (.lit _)) (RnC.cons (Pu.rn (Pu.map _ _ eNd_pu)) (RnC.cons (Pu.rn (Pu.map _ _ ePt_pu)) (RnC.cons (Pu.rn (.lit _)) (RnC.cons (Pu.rn (Pu.map _ _ eStr_pu)) (RnC.cons (Pu.rn (Pu.map _ _ eRow_pu)) (RnC.cons (Pu.rn (Pu.map _ _ eCore_pu)) (RnC.cons (Pu.rn (Pu.map _ _ eNd_pu)) (RnC.cons (Pu.rn (Pu.map _ _ eSet_pu)) (RnC.cons (Pu.rn (Pu.map _ _ ePair_pu)) (RnC.cons (Pu.rn (Pu.map _ _ eStep_pu)) (RnC.cons (Pu.rn (.lit _)) (RnC.cons (Pu.rn (.lit _)) RnC.nil))))))))))))))), trivial⟩ (by decide) rfl (by kernel_rfl)
    · intro x hx; simp only [List.mem_cons, List.not_mem_nil, or_false] at hx; rcases hx with rfl
      all_goals kernel_rfl
    · intro x hx; simp only [List.mem_cons, List.not_mem_nil, or_false] at hx; rcases hx with rfl | rfl | rfl | rfl
      · exact Rn.ptr _ _ (by decide)
      · exact Pu.rn (.lit _)
      · exact Pu.rn (.lit _)
      · exact Pu.rn (Pu.map _ _ eInt_pu)
  · have h := loop_list (P := P) (K := 0) (nt := 257) (c := loopAt P 36 3) (xs := d) (fun i => match i with | 0 => frameOf [(1, (.ptr 0 0)), (4, (.lit (.string (bs o)))), (9, (.lit (.int .i64 ((j : Nat) : Int)))), (10, (.lit (.slice none 0 0))), (11, (.lit (.int .i64 0)))] | i + 1 => frameOf [(1, (.ptr 0 0)), (4, (.lit (.string (bs o)))), (9, (.lit (.int .i64 ((j : Nat) : Int)))), (10, (.slice 1 0 (2 * (i + 1)) 1 none)), (11, (.lit (.int .i64 ((i + 1 : Nat) : Int))))]) (fun i => match i with | 0 => (heapOf 1 [(0, .cells (someAll c.cs) 0)] gl) | i + 1 => (heapOf 2 [(0, .cells (someAll c.cs) 0), (1, .cells (rowc eInt (List.flatMap (fun (x : Int × Int) => [x.1, x.2]) (List.take (i + 1) d))) 1)] gl))
      (e := .exit 7) (fr' := frameOf [(1, (.ptr 0 0)), (4, (.lit (.string (bs o)))), (9, (.lit (.int .i64 ((j : Nat) : Int)))), (10, (.slice 1 0 (2 * d.length) 1 none))]) (H' := (heapOf 2 [(0, .cells (someAll c.cs) 0), (1, .cells (rowc eInt (List.flatMap (fun (x : Int × Int) => [x.1, x.2]) d)) 1)] gl)) (fun i x hx => ?_) ?_ (by simp)
    · have hn : 2 * d.length = (List.flatMap (fun (x : Int × Int) => [x.1, x.2]) d).length := by simp only [List.length_append, List.length_cons, List.length_nil, flatMap_len (m := 2) (g := (fun (x : Int × Int) => [x.1, x.2])) (fun _ => rfl)]
      refine DoesL.clean h (ts := [1, 4, 9, 10]) (l := [(1, (.ptr 0 0)), (4, (.lit (.string (bs o)))), (9, (.lit (.int .i64 ((j : Nat) : Int)))), (10, (.frz 1 (List.map eInt (List.flatMap (fun (x : Int × Int) => [x.1, x.2]) d))))]) 1 [(0, .cells (someAll c.cs) 0)] (by kernel_rfl) ?_ (.cons (.refl _) (.cons (.refl _) (.cons (.refl _) (.cons (FzV.rowB (b := 1) (g := 1) (c := none) (by kernel_rfl) hn (by kernel_rfl) (by kernel_rfl) eInt_len eInt_flat) .nil)))) ?_ (by kernel_rfl) (ps := [RnO (nameF 0 []) 1 (.cells (someAll c.cs) 0) (.cells (someAll c.cs) 0)]) ⟨(RnC.cons (Pu.rn (.lit _)) (RnC.cons (Pu.rn (Pu.map _ _ eInt_pu)) (RnC.cons (Pu.rn (.lit _)) (RnC.cons (Pu.rn (Pu.map _ _ eNd_pu)) (RnC.cons (Pu.rn (Pu.map _ _ ePt_pu)) (RnC.cons (Pu.rn (.lit _)) (RnC.cons (Pu.rn (Pu.map _ _ eStr_pu)) (RnC.cons (Pu.rn (Pu.map _ _ eRow_pu)) (RnC.cons (Pu.rn (Pu.map _ _ eCore_pu)) (RnC.cons (Pu.rn (Pu.map _ _ eNd_pu)) (RnC.cons (Pu.rn (Pu.map _ _ eSet_pu)) (RnC.cons (Pu.rn (Pu.map _ _ ePair_pu)) (RnC.cons (Pu.rn (Pu.map _ _ eStep_pu)) (RnC.cons (Pu.rn (.lit _)) (RnC.cons (Pu.rn (.lit _)) RnC.nil))))))))))))))), trivial⟩ (by decide) rfl (by kernel_rfl)
      · intro x hx; simp only [List.mem_cons, List.not_mem_nil, or_false] at hx; rcases hx with rfl
        all_goals kernel_rfl
      · intro x hx; simp only [List.mem_cons, List.not_mem_nil, or_false] at hx; rcases hx with rfl | rfl | rfl | rfl
        · exact Rn.ptr _ _ (by decide)
        · exact Pu.rn (.lit _)
        · exact Pu.rn (.lit _)
        · exact Pu.rn (Pu.map _ _ eInt_pu)
    · have hi := at_lt hx
      cases i with
      | zero =>
        have r := tcore1_r0 c gl o j d hd  x hx hi hlen
        have e : List.flatMap (fun (x : Int × Int) => [x.1, x.2]) (List.take (0 + 1) d) = [x.1, x.2] := by rw [take_flatMap_succ hx]; simp
        have e2 : rowc eInt [x.1, x.2] = [some (.lit (.int .i64 x.1)), some (.lit (.int .i64 x.2))] := rfl
        rw [← e2, ← e] at r
        exact r
      | succ i =>
        have hn : 2 * (i + 1) = (List.flatMap (fun (x : Int × Int) => [x.1, x.2]) (List.take (i + 1) d)).length := by simp only [List.length_append, List.length_cons, List.length_nil, flatMap_len (m := 2) (g := (fun (x : Int × Int) => [x.1, x.2])) (fun _ => rfl), List.length_take]; omega
        have r := tcore1_r c gl o j d hd  (i + 1) (2 * (i + 1)) _ hn x hx hi (by omega) hlen
        have e : List.flatMap (fun (x : Int × Int) => [x.1, x.2]) (List.take (i + 1 + 1) d) = (List.flatMap (fun (x : Int × Int) => [x.1, x.2]) (List.take (i + 1) d)) ++ [x.1, x.2] := by rw [take_flatMap_succ hx]
        rw [← e] at r
        exact r
    · obtain ⟨q, hq⟩ : ∃ q, d.length = q + 1 := ⟨d.length - 1, by omega⟩
      have r := tcore1_e c gl o j d hd  (q + 1) (2 * (q + 1)) (List.flatMap (fun (x : Int × Int) => [x.1, x.2]) (List.take (q + 1) d)) (by omega)
      have e : List.take (q + 1) d = d := by rw [← hq, List.take_length]
      rw [e] at r
      rw [hq]
      dsimp only
      rw [e]
      exact r
theorem tcore_r (c : Cert) (gl : Nat → Option (List Value)) (o : List UInt8) (i : Nat) (x : List (Int × Int)) (hx : c.cores[i]? = some x) (hi : i < c.cores.length) (hN : c.cores.length ≤ 100000000) (hk : (∀ y ∈ x, okPt y)) (hk2 : 2 * x.length ≤ 268435450) (ho : o.length + (lineOf [99, 111, 114, 101] (pts x)).length ≤ 9223372036854775807) :
  DoesC P 0 257 (loopAt P 36 2) (frameOf [(1, (.ptr 0 0)), (4, (.lit (.string (bs o)))), (9, (.lit (.int .i64 ((i : Nat) : Int))))]) (heapOf 1 [(0, .cells (someAll c.cs) 0)] gl) .normal
    (frameOf [(1, (.ptr 0 0)), (4, (.lit (.string (bs (o ++ (lineOf [99, 111, 114, 101] (pts x))))))), (9, (.lit (.int .i64 ((i + 1 : Nat) : Int))))]) (heapOf 1 [(0, .cells (someAll c.cs) 0)] gl) :=
  pathR follows (n := 1000) (s := [.auto 4, .giv (.lit (.int .i64 ((c.cores.length : Nat) : Int))), .giv (.lit (.bool true)), .dec true, .auto 2, .loopR [] 1 [(1, (.ptr 0 0)), (4, (.lit (.string (bs o)))), (9, (.lit (.int .i64 ((i : Nat) : Int)))), (10, (.lit (.slice none 0 0))), (11, (.lit (.int .i64 0)))] [(0, .cells (someAll c.cs) 0)] (.exit 7) (frameOf [(1, (.ptr 0 0)), (4, (.lit (.string (bs o)))), (9, (.lit (.int .i64 ((i : Nat) : Int)))), (10, (.frz 1 (List.map eInt (pts x))))]) (heapOf 1 [(0, .cells (someAll c.cs) 0)] gl), .auto 2, .call (.lit (.string (bs (lineOf [99, 111, 114, 101] (pts x))))), .giv (.lit (.string (bs (o ++ (lineOf [99, 111, 114, 101] (pts x)))))), .auto 2, .giv (.lit (.int .i64 ((i + 1 : Nat) : Int))), .auto 1])
    (obs := [builtinA P (Hp.mk 1 (treeOf [(0, .cells (someAll c.cs) 0)]) (treeOf [(0, [0])]) gl 1) .len #[32] 3 [(.frz 1 (List.map eCore c.cores))] = some (.val (.lit (.int .i64 ((c.cores.length : Nat) : Int))) (Hp.mk 1 (treeOf [(0, .cells (someAll c.cs) 0)]) (treeOf [(0, [0])]) gl 1)),
      binA P .lss 3 (.tmp 80) (.tmp 84) (.lit (.int .i64 ((i : Nat) : Int))) (.lit (.int .i64 ((c.cores.length : Nat) : Int))) = some (.lit (.bool true)),
      some (AV.lit (.bool true)) = some (.lit (.bool true)),
      Rn (nameF 0 []) 1 (.ptr 0 0) (.ptr 0 0),
      Rn (nameF 0 []) 1 (.lit (.string (bs o))) (.lit (.string (bs o))),
      Rn (nameF 0 []) 1 (.lit (.int .i64 ((i : Nat) : Int))) (.lit (.int .i64 ((i : Nat) : Int))),
      Rn (nameF 0 []) 1 (.lit (.slice none 0 0)) (.lit (.slice none 0 0)),
      Rn (nameF 0 []) 1 (.lit (.int .i64 0)) (.lit (.int .i64 0)),
      RnO (nameF 0 []) 1 (.cells (someAll c.cs) 0) (.cells (someAll c.cs) 0),
      DoesL P 0 257 (loopAt P 36 3) (frameOf [(1, (.ptr 0 0)), (4, (.lit (.string (bs o)))), (9, (.lit (.int .i64 ((i : Nat) : Int)))), (10, (.lit (.slice none 0 0))), (11, (.lit (.int .i64 0)))]) (heapOf 1 [(0, .cells (someAll c.cs) 0)] gl) (.exit 7) (frameOf [(1, (.ptr 0 0)), (4, (.lit (.string (bs o)))), (9, (.lit (.int .i64 ((i : Nat) : Int)))), (10, (.frz 1 (List.map eInt (pts x))))]) (heapOf 1 [(0, .cells (someAll c.cs) 0)] gl),
      Does P 60 [(.lit (.string (bs ([99, 111, 114, 101])))), (.frz 1 (List.map eInt (pts x)))] (Hp.mk 1 (treeOf [(0, .cells (someAll c.cs) 0)]) (treeOf [(0, [0])]) gl 1) (.lit (.string (bs (lineOf [99, 111, 114, 101] (pts x))))) (Hp.mk 1 (treeOf [(0, .cells (someAll c.cs) 0)]) (treeOf [(0, [0])]) gl 1),
      binA P .add 9 (.tmp 122) (.tmp 124) (.lit (.string (bs o))) (.lit (.string (bs (lineOf [99, 111, 114, 101] (pts x))))) = some (.lit (.string (bs (o ++ (lineOf [99, 111, 114, 101] (pts x)))))),
      binA P .add 3 (.tmp 86) (.const (.int .i64 1)) (.lit (.int .i64 ((i : Nat) : Int))) (.lit (.int .i64 1)) = some (.lit (.int .i64 ((i + 1 : Nat) : Int))),
      Rn (nameF 0 []) 1 (.ptr 0 0) (.ptr 0 0),
      Rn (nameF 0 []) 1 (.lit (.string (bs (o ++ (lineOf [99, 111, 114, 101] (pts x)))))) (.lit (.string (bs (o ++ (lineOf [99, 111, 114, 101] (pts x)))))),
      Rn (nameF 0 []) 1 (.lit (.int .i64 ((i + 1 : Nat) : Int))) (.lit (.int .i64 ((i + 1 : Nat) : Int))),
      RnO (nameF 0 []) 1 (.cells (someAll c.cs) 0) (.cells (someAll c.cs) 0)])
    (τ := []) (nx := 1) (l := [(1, (.ptr 0 0)), (4, (.lit (.string (bs (o ++ (lineOf [99, 111, 114, 101] (pts x))))))), (9, (.lit (.int .i64 ((i + 1 : Nat) : Int))))])
    (bs := [(0, .cells (someAll c.cs) 0)]) (by kernel_rfl) ⟨len_frz (by kernel_rfl), bin_b (c := decide ((((i : Nat) : Int) : Int) < ((c.cores.length : Nat) : Int))) (by kernel_rfl) (dt (by omega)), rfl, Rn.ptr _ _ (by decide), Pu.rn (.lit _), Pu.rn (.lit _), Pu.rn (.lit _), Pu.rn (.lit _), (RnC.cons (Pu.rn (.lit _)) (RnC.cons (Pu.rn (Pu.map _ _ eInt_pu)) (RnC.cons (Pu.rn (.lit _)) (RnC.cons (Pu.rn (Pu.map _ _ eNd_pu)) (RnC.cons (Pu.rn (Pu.map _ _ ePt_pu)) (RnC.cons (Pu.rn (.lit _)) (RnC.cons (Pu.rn (Pu.map _ _ eStr_pu)) (RnC.cons (Pu.rn (Pu.map _ _ eRow_pu)) (RnC.cons (Pu.rn (Pu.map _ _ eCore_pu)) (RnC.cons (Pu.rn (Pu.map _ _ eNd_pu)) (RnC.cons (Pu.rn (Pu.map _ _ eSet_pu)) (RnC.cons (Pu.rn (Pu.map _ _ ePair_pu)) (RnC.cons (Pu.rn (Pu.map _ _ eStep_pu)) (RnC.cons (Pu.rn (.lit _)) (RnC.cons (Pu.rn (.lit _)) RnC.nil))))))))))))))), tcore1 c gl o i x hx hk2, line_frz _ rfl _ (pts x) (pts_ok hk) (by decide) (by rw [pts_len]; omega), binA_bs (by omega), binA_addN (a := i) (b := 1) (by omega), Rn.ptr _ _ (by decide), Pu.rn (.lit _), Pu.rn (.lit _), (RnC.cons (Pu.rn (.lit _)) (RnC.cons (Pu.rn (Pu.map _ _ eInt_pu)) (RnC.cons (Pu.rn (.lit _)) (RnC.cons (Pu.rn (Pu.map _ _ eNd_pu)) (RnC.cons (Pu.rn (Pu.map _ _ ePt_pu)) (RnC.cons (Pu.rn (.lit _)) (RnC.cons (Pu.rn (Pu.map _ _ eStr_pu)) (RnC.cons (Pu.rn (Pu.map _ _ eRow_pu)) (RnC.cons (Pu.rn (Pu.map _ _ eCore_pu)) (RnC.cons (Pu.rn (Pu.map _ _ eNd_pu)) (RnC.cons (Pu.rn (Pu.map _ _ eSet_pu)) (RnC.cons (Pu.rn (Pu.map _ _ ePair_pu)) (RnC.cons (Pu.rn (Pu.map _ _ eStep_pu)) (RnC.cons (Pu.rn (.lit _)) (RnC.cons (Pu.rn (.lit _)) RnC.nil))))))))))))))), trivial⟩
theorem tcore_e (c : Cert) (gl : Nat → Option (List Value)) (o : List UInt8) (i : Nat) (hi : c.cores.length ≤ i) :
  DoesC P 0 257 (loopAt P 36 2) (frameOf [(1, (.ptr 0 0)), (4, (.lit (.string (bs o)))), (9, (.lit (.int .i64 ((i : Nat) : Int))))]) (heapOf 1 [(0, .cells (someAll c.cs) 0)] gl) (.exit 5)
    (frameOf [(1, (.ptr 0 0)), (4, (.lit (.string (bs o))))]) (heapOf 1 [(0, .cells (someAll c.cs) 0)] gl) :=
  pathR follows (n := 1000) (s := [.auto 4, .giv (.lit (.int .i64 ((c.cores.length : Nat) : Int))), .giv (.lit (.bool false)), .dec false])
    (obs := [builtinA P (Hp.mk 1 (treeOf [(0, .cells (someAll c.cs) 0)]) (treeOf [(0, [0])]) gl 1) .len #[32] 3 [(.frz 1 (List.map eCore c.cores))] = some (.val (.lit (.int .i64 ((c.cores.length : Nat) : Int))) (Hp.mk 1 (treeOf [(0, .cells (someAll c.cs) 0)]) (treeOf [(0, [0])]) gl 1)),
      binA P .lss 3 (.tmp 80) (.tmp 84) (.lit (.int .i64 ((i : Nat) : Int))) (.lit (.int .i64 ((c.cores.length : Nat) : Int))) = some (.lit (.bool false)),
      some (AV.lit (.bool false)) = some (.lit (.bool false)),
      Rn (nameF 0 []) 1 (.ptr 0 0) (.ptr 0 0),
      Rn (nameF 0 []) 1 (.lit (.string (bs o))) (.lit (.string (bs o))),
      RnO (nameF 0 []) 1 (.cells (someAll c.cs) 0) (.cells (someAll c.cs) 0)])
    (τ := []) (nx := 1) (l := [(1, (.ptr 0 0)), (4, (.lit (.string (bs o))))])
    (bs := [(0, .cells (someAll c.cs) 0)]) (by kernel_rfl) ⟨len_frz (by kernel_rfl), bin_b (c := decide ((((i : Nat) : Int) : Int) < ((c.cores.length : Nat) : Int))) (by kernel_rfl) (df (by omega)), rfl, Rn.ptr _ _ (by decide), Pu.rn (.lit _), (RnC.cons (Pu.rn (.lit _)) (RnC.cons (Pu.rn (Pu.map _ _ eInt_pu)) (RnC.cons (Pu.rn (.lit _)) (RnC.cons (Pu.rn (Pu.map _ _ eNd_pu)) (RnC.cons (Pu.rn (Pu.map _ _ ePt_pu)) (RnC.cons (Pu.rn (.lit _)) (RnC.cons (Pu.rn (Pu.map _ _ eStr_pu)) (RnC.cons (Pu.rn (Pu.map _ _ eRow_pu)) (RnC.cons (Pu.rn (Pu.map _ _ eCore_pu)) (RnC.cons (Pu.rn (Pu.map _ _ eNd_pu)) (RnC.cons (Pu.rn (Pu.map _ _ eSet_pu)) (RnC.cons (Pu.rn (Pu.map _ _ ePair_pu)) (RnC.cons (Pu.rn (Pu.map _ _ eStep_pu)) (RnC.cons (Pu.rn (.lit _)) (RnC.cons (Pu.rn (.lit _)) RnC.nil))))))))))))))), trivial⟩
theorem tcore (c : Cert) (gl : Nat → Option (List Value)) (o : List UInt8) (hN : c.cores.length ≤ 100000000) (hk : ∀ x ∈ c.cores, (∀ y ∈ x, okPt y)) (hk2 : ∀ x ∈ c.cores, 2 * x.length ≤ 268435450) (ho : o.length + (List.flatMap (fun x => (lineOf [99, 111, 114, 101] (pts x))) c.cores).length ≤ 9223372036854775807) :
  DoesL P 0 257 (loopAt P 36 2) (frameOf [(1, (.ptr 0 0)), (4, (.lit (.string (bs o)))), (9, (.lit (.int .i64 0)))]) (boxH c gl) (.exit 5) (frameOf [(1, (.ptr 0 0)), (4, (.lit (.string (bs (o ++ (List.flatMap (fun x => (lineOf [99, 111, 114, 101] (pts x))) c.cores))))))]) (boxH c gl) := by
  have h := loop_list (P := P) (K := 0) (nt := 257) (c := loopAt P 36 2) (xs := c.cores) (fun i => frameOf [(1, (.ptr 0 0)), (4, (.lit (.string (bs (o ++ (List.flatMap (fun x => (lineOf [99, 111, 114, 101] (pts x))) (List.take i c.cores))))))), (9, (.lit (.int .i64 ((i : Nat) : Int))))]) (fun _ => boxH c gl) (e := .exit 5) (fr' := frameOf [(1, (.ptr 0 0)), (4, (.lit (.string (bs (o ++ (List.flatMap (fun x => (lineOf [99, 111, 114, 101] (pts x))) c.cores))))))]) (H' := boxH c gl) (fun i x hx => ?_) ?_ (by simp)
  · simp only [List.take_zero, List.flatMap_nil, List.append_nil] at h
    exact h
  · have e := take_flatMap_succ hx (fun x => (lineOf [99, 111, 114, 101] (pts x)))
    have hle := flatMap_take_le c.cores (i + 1) (fun x => (lineOf [99, 111, 114, 101] (pts x)))
    rw [e, List.length_append] at hle
    have r := tcore_r c gl (o ++ (List.flatMap (fun x => (lineOf [99, 111, 114, 101] (pts x))) (List.take i c.cores))) i x hx (at_lt hx) hN (hk x (at_mem hx)) (hk2 x (at_mem hx)) (by rw [List.length_append]; omega)
    rw [List.append_assoc, ← e] at r
    exact r
  · have r := tcore_e c gl (o ++ (List.flatMap (fun x => (lineOf [99, 111, 114, 101] (pts x))) c.cores)) c.cores.length (Nat.le_refl _)
    rw [List.take_length]
    exact r
theorem tset_r (c : Cert) (gl : Nat → Option (List Value)) (o : List UInt8) (i : Nat) (x : Int) (hx : c.sets[i]? = some x) (hi : i < c.sets.length) (hN : c.sets.length ≤ 100000000) (hk : okS x)  (ho : o.length + (lineOf [115, 101, 116] [x]).length ≤ 9223372036854775807) :
  DoesC P 0 257 (loopAt P 36 4) (frameOf [(1, (.ptr 0 0)), (4, (.lit (.string (bs o)))), (5, (.lit (.string (bs ([]))))), (6, (.lit (.bool true))), (12, (.lit (.int .i64 ((i : Nat) : Int))))]) (heapOf 1 [(0, .cells (someAll c.cs) 0)] gl) .normal
    (frameOf [(1, (.ptr 0 0)), (4, (.lit (.string (bs (o ++ (lineOf [115, 101, 116] [x])))))), (5, (.lit (.string (bs ([]))))), (6, (.lit (.bool true))), (12, (.lit (.int .i64 ((i + 1 : Nat) : Int))))]) (heapOf 1 [(0, .cells (someAll c.cs) 0)] gl) :=
  pathR follows (n := 1000) (s := [.auto 3, .giv (.lit (.int .i64 ((c.sets.length : Nat) : Int))), .giv (.lit (.bool true)), .dec true, .auto 4, .giv (.frp [(.lit (.int .u32 x))]), .auto 1, .giv (.lit (.int .i64 x)), .auto 1, .call (.lit (.string (bs (lineOf [115, 101, 116] [x])))), .giv (.lit (.string (bs (o ++ (lineOf [115, 101, 116] [x]))))), .auto 2, .giv (.lit (.int .i64 ((i + 1 : Nat) : Int))), .auto 1])
    (obs := [builtinA P (Hp.mk 1 (treeOf [(0, .cells (someAll c.cs) 0)]) (treeOf [(0, [0])]) gl 1) .len #[35] 3 [(.frz 1 (List.map eSet c.sets))] = some (.val (.lit (.int .i64 ((c.sets.length : Nat) : Int))) (Hp.mk 1 (treeOf [(0, .cells (someAll c.cs) 0)]) (treeOf [(0, [0])]) gl 1)),
      binA P .lss 3 (.tmp 136) (.tmp 139) (.lit (.int .i64 ((i : Nat) : Int))) (.lit (.int .i64 ((c.sets.length : Nat) : Int))) = some (.lit (.bool true)),
      some (AV.lit (.bool true)) = some (.lit (.bool true)),
      indexAddrA P 35 (.frz 1 (List.map eSet c.sets)) (.lit (.int .i64 ((i : Nat) : Int))) = some (.frp [(.lit (.int .u32 x))]),
      convertA P 39 2 (.lit (.int .u32 x)) (Hp.mk 1 (treeOf [(0, .cells (someAll c.cs) 0)]) (treeOf [(0, [0])]) gl 1) = some ((.lit (.int .i64 x)), (Hp.mk 1 (treeOf [(0, .cells (someAll c.cs) 0)]) (treeOf [(0, [0])]) gl 1)),
      Does P 60 [(.lit (.string (bs ([115, 101, 116])))), (.slice 1 0 1 1 (some 1))] (Hp.mk 2 (treeOf [(0, .cells (someAll c.cs) 0), (1, .cells [some (.lit (.int .i64 x))] 1)]) (treeOf [(0, [0]), (1, [1])]) gl 1) (.lit (.string (bs (lineOf [115, 101, 116] [x])))) (Hp.mk 2 (treeOf [(0, .cells (someAll c.cs) 0), (1, .cells [some (.lit (.int .i64 x))] 1)]) (treeOf [(0, [0]), (1, [1])]) gl 1),
      binA P .add 9 (.tmp 143) (.tmp 151) (.lit (.string (bs o))) (.lit (.string (bs (lineOf [115, 101, 116] [x])))) = some (.lit (.string (bs (o ++ (lineOf [115, 101, 116] [x]))))),
      binA P .add 3 (.tmp 141) (.const (.int .i64 1)) (.lit (.int .i64 ((i : Nat) : Int))) (.lit (.int .i64 1)) = some (.lit (.int .i64 ((i + 1 : Nat) : Int))),
      Rn (nameF 0 []) 1 (.ptr 0 0) (.ptr 0 0),
      Rn (nameF 0 []) 1 (.lit (.string (bs (o ++ (lineOf [115, 101, 116] [x]))))) (.lit (.string (bs (o ++ (lineOf [115, 101, 116] [x]))))),
      Rn (nameF 0 []) 1 (.lit (.string (bs ([])))) (.lit (.string (bs ([])))),
      Rn (nameF 0 []) 1 (.lit (.bool true)) (.lit (.bool true)),
      Rn (nameF 0 []) 1 (.lit (.int .i64 ((i + 1 : Nat) : Int))) (.lit (.int .i64 ((i + 1 : Nat) : Int))),
      RnO (nameF 0 []) 1 (.cells (someAll c.cs) 0) (.cells (someAll c.cs) 0)])
    (τ := []) (nx := 1) (l := [(1, (.ptr 0 0)), (4, (.lit (.string (bs (o ++ (lineOf [115, 101, 116] [x])))))), (5, (.lit (.string (bs ([]))))), (6, (.lit (.bool true))), (12, (.lit (.int .i64 ((i + 1 : Nat) : Int))))])
    (bs := [(0, .cells (someAll c.cs) 0)]) (by kernel_rfl) ⟨len_frz (by kernel_rfl), bin_b (c := decide ((((i : Nat) : Int) : Int) < ((c.sets.length : Nat) : Int))) (by kernel_rfl) (dt (by omega)), rfl, index_frz (n := i) (by kernel_rfl) hx, conv_ob (by kernel_rfl) (okS_wrap hk), line_blk _ rfl _ 1 1 1 _ [x] (by kernel_rfl) rfl (ok1 (okS_okI hk)) (by decide) (by simp), binA_bs (by omega), binA_addN (a := i) (b := 1) (by omega), Rn.ptr _ _ (by decide), Pu.rn (.lit _), Pu.rn (.lit _), Pu.rn (.lit _), Pu.rn (.lit _), (RnC.cons (Pu.rn (.lit _)) (RnC.cons (Pu.rn (Pu.map _ _ eInt_pu)) (RnC.cons (Pu.rn (.lit _)) (RnC.cons (Pu.rn (Pu.map _ _ eNd_pu)) (RnC.cons (Pu.rn (Pu.map _ _ ePt_pu)) (RnC.cons (Pu.rn (.lit _)) (RnC.cons (Pu.rn (Pu.map _ _ eStr_pu)) (RnC.cons (Pu.rn (Pu.map _ _ eRow_pu)) (RnC.cons (Pu.rn (Pu.map _ _ eCore_pu)) (RnC.cons (Pu.rn (Pu.map _ _ eNd_pu)) (RnC.cons (Pu.rn (Pu.map _ _ eSet_pu)) (RnC.cons (Pu.rn (Pu.map _ _ ePair_pu)) (RnC.cons (Pu.rn (Pu.map _ _ eStep_pu)) (RnC.cons (Pu.rn (.lit _)) (RnC.cons (Pu.rn (.lit _)) RnC.nil))))))))))))))), trivial⟩
theorem tset_e (c : Cert) (gl : Nat → Option (List Value)) (o : List UInt8) (i : Nat) (hi : c.sets.length ≤ i) :
  DoesC P 0 257 (loopAt P 36 4) (frameOf [(1, (.ptr 0 0)), (4, (.lit (.string (bs o)))), (5, (.lit (.string (bs ([]))))), (6, (.lit (.bool true))), (12, (.lit (.int .i64 ((i : Nat) : Int))))]) (heapOf 1 [(0, .cells (someAll c.cs) 0)] gl) (.exit 9)
    (frameOf [(1, (.ptr 0 0)), (4, (.lit (.string (bs o)))), (5, (.lit (.string (bs ([]))))), (6, (.lit (.bool true)))]) (heapOf 1 [(0, .cells (someAll c.cs) 0)] gl) :=
  pathR follows (n := 1000) (s := [.auto 3, .giv (.lit (.int .i64 ((c.sets.length : Nat) : Int))), .giv (.lit (.bool false)), .dec false])
    (obs := [builtinA P (Hp.mk 1 (treeOf [(0, .cells (someAll c.cs) 0)]) (treeOf [(0, [0])]) gl 1) .len #[35] 3 [(.frz 1 (List.map eSet c.sets))] = some (.val (.lit (.int .i64 ((c.sets.length : Nat) : Int))) (Hp.mk 1 (treeOf [(0, .cells (someAll c.cs) 0)]) (treeOf [(0, [0])]) gl 1)),
      binA P .lss 3 (.tmp 136) (.tmp 139) (.lit (.int .i64 ((i : Nat) : Int))) (.lit (.int .i64 ((c.sets.length : Nat) : Int))) = some (.lit (.bool false)),
      some (AV.lit (.bool false)) = some (.lit (.bool false)),
      Rn (nameF 0 []) 1 (.ptr 0 0) (.ptr 0 0),
      Rn (nameF 0 []) 1 (.lit (.string (bs o))) (.lit (.string (bs o))),
      Rn (nameF 0 []) 1 (.lit (.string (bs ([])))) (.lit (.string (bs ([])))),
      Rn (nameF 0 []) 1 (.lit (.bool true)) (.lit (.bool true)),
      RnO (nameF 0 []) 1 (.cells (someAll c.cs) 0) (.cells (someAll c.cs) 0)])
    (τ := []) (nx := 1) (l := [(1, (.ptr 0 0)), (4, (.lit (.string (bs o)))), (5, (.lit (.string (bs ([]))))), (6, (.lit (.bool true)))])
    (bs := [(0, .cells (someAll c.cs) 0)]) (by kernel_rfl) ⟨len_frz (by kernel_rfl), bin_b (c := decide ((((i : Nat) : Int) : Int) < ((c.sets.length : Nat) : Int))) (by kernel_rfl) (df (by omega)), rfl, Rn.ptr _ _ (by decide), Pu.rn (.lit _), Pu.rn (.lit _), Pu.rn (.lit _), (RnC.cons (Pu.rn (.lit _)) (RnC.cons (Pu.rn (Pu.map _ _ eInt_pu)) (RnC.cons (Pu.rn (.lit _)) (RnC.cons (Pu.rn (Pu.map _ _ eNd_pu)) (RnC.cons (Pu.rn (Pu.map _ _ ePt_pu)) (RnC.cons (Pu.rn (.lit _)) (RnC.cons (Pu.rn (Pu.map _ _ eStr_pu)) (RnC.cons (Pu.rn (Pu.map _ _ eRow_pu)) (RnC.cons (Pu.rn (Pu.map _ _ eCore_pu)) (RnC.cons (Pu.rn (Pu.map _ _ eNd_pu)) (RnC.cons (Pu.rn (Pu.map _ _ eSet_pu)) (RnC.cons (Pu.rn (Pu.map _ _ ePair_pu)) (RnC.cons (Pu.rn (Pu.map _ _ eStep_pu)) (RnC.cons (Pu.rn (.lit _)) (RnC.cons (Pu.rn (.lit _)) RnC.nil))))))))))))))), trivial⟩
theorem tset (c : Cert) (gl : Nat → Option (List Value)) (o : List UInt8) (hN : c.sets.length ≤ 100000000) (hk : ∀ x ∈ c.sets, okS x)  (ho : o.length + (List.flatMap (fun x => (lineOf [115, 101, 116] [x])) c.sets).length ≤ 9223372036854775807) :
  DoesL P 0 257 (loopAt P 36 4) (frameOf [(1, (.ptr 0 0)), (4, (.lit (.string (bs o)))), (5, (.lit (.string (bs ([]))))), (6, (.lit (.bool true))), (12, (.lit (.int .i64 0)))]) (boxH c gl) (.exit 9) (frameOf [(1, (.ptr 0 0)), (4, (.lit (.string (bs (o ++ (List.flatMap (fun x => (lineOf [115, 101, 116] [x])) c.sets)))))), (5, (.lit (.string (bs ([]))))), (6, (.lit (.bool true)))]) (boxH c gl) := by
  have h := loop_list (P := P) (K := 0) (nt := 257) (c := loopAt P 36 4) (xs := c.sets) (fun i => frameOf [(1, (.ptr 0 0)), (4, (.lit (.string (bs (o ++ (List.flatMap (fun x => (lineOf [115, 101, 116] [x])) (List.take i c.sets))))))), (5, (.lit (.string (bs ([]))))), (6, (.lit (.bool true))), (12, (.lit (.int .i64 ((i : Nat) : Int))))]) (fun _ => boxH c gl) (e := .exit 9) (fr' := frameOf [(1, (.ptr 0 0)), (4, (.lit (.string (bs (o ++ (List.flatMap (fun x => (lineOf [115, 101, 116] [x])) c.sets)))))), (5, (.lit (.string (bs ([]))))), (6, (.lit (.bool true)))]) (H' := boxH c gl) (fun i x hx => ?_) ?_ (by simp)
  · simp only [List.take_zero, List.flatMap_nil, List.append_nil] at h
    exact h
  · have e := take_flatMap_succ hx (fun x => (lineOf [115, 101, 116] [x]))
    have hle := flatMap_take_le c.sets (i + 1) (fun x => (lineOf [115, 101, 116] [x]))
    rw [e, List.length_append] at hle
    have r := tset_r c gl (o ++ (List.flatMap (fun x => (lineOf [115, 101, 116] [x])) (List.take i c.sets))) i x hx (at_lt hx) hN (hk x (at_mem hx))  (by rw [List.length_append]; omega)
    rw [List.append_assoc, ← e] at r
    exact r
  · have r := tset_e c gl (o ++ (List.flatMap (fun x => (lineOf [115, 101, 116] [x])) c.sets)) c.sets.length (Nat.le_refl _)
    rw [List.take_length]
    exact r
theorem tpair_r (c : Cert) (gl : Nat → Option (List Value)) (o : List UInt8) (i : Nat) (x : Int × Int × Int) (hx : c.pairs[i]? = some x) (hi : i < c.pairs.length) (hN : c.pairs.length ≤ 100000000) (hk : (okS x.1 ∧ okI x.2.1 ∧ okI x.2.2))  (ho : o.length + (lineOf [112, 97, 105, 114] [x.1, x.2.1, x.2.2]).length ≤ 9223372036854775807) :
  DoesC P 0 257 (loopAt P 36 5) (frameOf [(1, (.ptr 0 0)), (4, (.lit (.string (bs o)))), (5, (.lit (.string (bs ([]))))), (6, (.lit (.bool true))), (13, (.lit (.int .i64 ((i : Nat) : Int))))]) (heapOf 1 [(0, .cells (someAll c.cs) 0)] gl) .normal
    (frameOf [(1, (.ptr 0 0)), (4, (.lit (.string (bs (o ++ (lineOf [112, 97, 105, 114] [x.1, x.2.1, x.2.2])))))), (5, (.lit (.string (bs ([]))))), (6, (.lit (.bool true))), (13, (.lit (.int .i64 ((i + 1 : Nat) : Int))))]) (heapOf 1 [(0, .cells (someAll c.cs) 0)] gl) :=
  pathR follows (n := 1000) (s := [.auto 3, .giv (.lit (.int .i64 ((c.pairs.length : Nat) : Int))), .giv (.lit (.bool true)), .dec true, .auto 4, .giv (.frp [(.lit (.int .u32 x.1)), (.lit (.int .i64 x.2.1)), (.lit (.int .i64 x.2.2))]), .auto 2, .giv (.lit (.int .i64 x.1)), .auto 3, .giv (.frp [(.lit (.int .u32 x.1)), (.lit (.int .i64 x.2.1)), (.lit (.int .i64 x.2.2))]), .auto 5, .giv (.frp [(.lit (.int .u32 x.1)), (.lit (.int .i64 x.2.1)), (.lit (.int .i64 x.2.2))]), .auto 3, .call (.lit (.string (bs (lineOf [112, 97, 105, 114] [x.1, x.2.1, x.2.2])))), .giv (.lit (.string (bs (o ++ (lineOf [112, 97, 105, 114] [x.1, x.2.1, x.2.2]))))), .auto 2, .giv (.lit (.int .i64 ((i + 1 : Nat) : Int))), .auto 1])
    (obs := [builtinA P (Hp.mk 1 (treeOf [(0, .cells (someAll c.cs) 0)]) (treeOf [(0, [0])]) gl 1) .len #[36] 3 [(.frz 3 (List.map ePair c.pairs))] = some (.val (.lit (.int .i64 ((c.pairs.length : Nat) : Int))) (Hp.mk 1 (treeOf [(0, .cells (someAll c.cs) 0)]) (treeOf [(0, [0])]) gl 1)),
      binA P .lss 3 (.tmp 153) (.tmp 156) (.lit (.int .i64 ((i : Nat) : Int))) (.lit (.int .i64 ((c.pairs.length : Nat) : Int))) = some (.lit (.bool true)),
      some (AV.lit (.bool true)) = some (.lit (.bool true)),
      indexAddrA P 36 (.frz 3 (List.map ePair c.pairs)) (.lit (.int .i64 ((i : Nat) : Int))) = some (.frp [(.lit (.int .u32 x.1)), (.lit (.int .i64 x.2.1)), (.lit (.int .i64 x.2.2))]),
      convertA P 39 2 (.lit (.int .u32 x.1)) (Hp.mk 25 (treeOf [(0, .cells (someAll c.cs) 0)]) (treeOf [(0, [0])]) gl 1) = some ((.lit (.int .i64 x.1)), (Hp.mk 25 (treeOf [(0, .cells (someAll c.cs) 0)]) (treeOf [(0, [0])]) gl 1)),
      indexAddrA P 36 (.frz 3 (List.map ePair c.pairs)) (.lit (.int .i64 ((i : Nat) : Int))) = some (.frp [(.lit (.int .u32 x.1)), (.lit (.int .i64 x.2.1)), (.lit (.int .i64 x.2.2))]),
      indexAddrA P 36 (.frz 3 (List.map ePair c.pairs)) (.lit (.int .i64 ((i : Nat) : Int))) = some (.frp [(.lit (.int .u32 x.1)), (.lit (.int .i64 x.2.1)), (.lit (.int .i64 x.2.2))]),
      Does P 60 [(.lit (.string (bs ([112, 97, 105, 114])))), (.slice 21 0 3 1 (some 3))] (Hp.mk 25 (treeOf [(0, .cells (someAll c.cs) 0), (21, .cells [some (.lit (.int .i64 x.1)), some (.lit (.int .i64 x.2.1)), some (.lit (.int .i64 x.2.2))] 21)]) (treeOf [(0, [0]), (21, [21])]) gl 1) (.lit (.string (bs (lineOf [112, 97, 105, 114] [x.1, x.2.1, x.2.2])))) (Hp.mk 25 (treeOf [(0, .cells (someAll c.cs) 0), (21, .cells [some (.lit (.int .i64 x.1)), some (.lit (.int .i64 x.2.1)), some (.lit (.int .i64 x.2.2))] 21)]) (treeOf [(0, [0]), (21, [21])]) gl 1),
      binA P .add 9 (.tmp 160) (.tmp 181) (.lit (.string (bs o))) (.lit (.string (bs (lineOf [112, 97, 105, 114] [x.1, x.2.1, x.2.2])))) = some (.lit (.string (bs (o ++ (lineOf [112, 97, 105, 114] [x.1, x.2.1, x.2.2]))))),
      binA P .add 3 (.tmp 158) (.const (.int .i64 1)) (.lit (.int .i64 ((i : Nat) : Int))) (.lit (.int .i64 1)) = some (.lit (.int .i64 ((i + 1 : Nat) : Int))),
      Rn (nameF 0 []) 1 (.ptr 0 0) (.ptr 0 0),
      Rn (nameF 0 []) 1 (.lit (.string (bs (o ++ (lineOf [112, 97, 105, 114] [x.1, x.2.1, x.2.2]))))) (.lit (.string (bs (o ++ (lineOf [112, 97, 105, 114] [x.1, x.2.1, x.2.2]))))),
      Rn (nameF 0 []) 1 (.lit (.string (bs ([])))) (.lit (.string (bs ([])))),
      Rn (nameF 0 []) 1 (.lit (.bool true)) (.lit (.bool true)),
      Rn (nameF 0 []) 1 (.lit (.int .i64 ((i + 1 : Nat) : Int))) (.lit (.int .i64 ((i + 1 : Nat) : Int))),
      RnO (nameF 0 []) 1 (.cells (someAll c.cs) 0) (.cells (someAll c.cs) 0)])
    (τ := []) (nx := 1) (l := [(1, (.ptr 0 0)), (4, (.lit (.string (bs (o ++ (lineOf [112, 97, 105, 114] [x.1, x.2.1, x.2.2])))))), (5, (.lit (.string (bs ([]))))), (6, (.lit (.bool true))), (13, (.lit (.int .i64 ((i + 1 : Nat) : Int))))])
    (bs := [(0, .cells (someAll c.cs) 0)]) (by kernel_rfl) ⟨len_frz (by kernel_rfl), bin_b (c := decide ((((i : Nat) : Int) : Int) < ((c.pairs.length : Nat) : Int))) (by kernel_rfl) (dt (by omega)), rfl, index_frz (n := i) (by kernel_rfl) hx, conv_ob (by kernel_rfl) (okS_wrap hk.1), index_frz (n := i) (by kernel_rfl) hx, index_frz (n := i) (by kernel_rfl) hx, line_blk _ rfl _ 21 21 3 _ [x.1, x.2.1, x.2.2] (by kernel_rfl) rfl (ok3 (okS_okI hk.1) hk.2.1 hk.2.2) (by decide) (by simp), binA_bs (by omega), binA_addN (a := i) (b := 1) (by omega), Rn.ptr _ _ (by decide), Pu.rn (.lit _), Pu.rn (.lit _), Pu.rn (.lit _), Pu.rn (.lit _), (RnC.cons (Pu.rn (.lit _)) (RnC.cons (Pu.rn (Pu.map _ _ eInt_pu)) (RnC.cons (Pu.rn (.lit _)) (RnC.cons (Pu.rn (Pu.map _ _ eNd_pu)) (RnC.cons (Pu.rn (Pu.map _ _ ePt_pu)) (RnC.cons (Pu.rn (.lit _)) (RnC.cons (Pu.rn (Pu.map _ _ eStr_pu)) (RnC.cons (Pu.rn (Pu.map _ _ eRow_pu)) (RnC.cons (Pu.rn (Pu.map _ _ eCore_pu)) (RnC.cons (Pu.rn (Pu.map _ _ eNd_pu)) (RnC.cons (Pu.rn (Pu.map _ _ eSet_pu)) (RnC.cons (Pu.rn (Pu.map _ _ ePair_pu)) (RnC.cons (Pu.rn (Pu.map _ _ eStep_pu)) (RnC.cons (Pu.rn (.lit _)) (RnC.cons (Pu.rn (.lit _)) RnC.nil))))))))))))))), trivial⟩
theorem tpair_e (c : Cert) (gl : Nat → Option (List Value)) (o : List UInt8) (i : Nat) (hi : c.pairs.length ≤ i) :
  DoesC P 0 257 (loopAt P 36 5) (frameOf [(1, (.ptr 0 0)), (4, (.lit (.string (bs o)))), (5, (.lit (.string (bs ([]))))), (6, (.lit (.bool true))), (13, (.lit (.int .i64 ((i : Nat) : Int))))]) (heapOf 1 [(0, .cells (someAll c.cs) 0)] gl) (.exit 11)
    (frameOf [(1, (.ptr 0 0)), (4, (.lit (.string (bs o)))), (5, (.lit (.string (bs ([]))))), (6, (.lit (.bool true)))]) (heapOf 1 [(0, .cells (someAll c.cs) 0)] gl) :=
  pathR follows (n := 1000) (s := [.auto 3, .giv (.lit (.int .i64 ((c.pairs.length : Nat) : Int))), .giv (.lit (.bool false)), .dec false])
    (obs := [builtinA P (Hp.mk 1 (treeOf [(0, .cells (someAll c.cs) 0)]) (treeOf [(0, [0])]) gl 1) .len #[36] 3 [(.frz 3 (List.map ePair c.pairs))] = some (.val (.lit (.int .i64 ((c.pairs.length : Nat) : Int))) (Hp.mk 1 (treeOf [(0, .cells (someAll c.cs) 0)]) (treeOf [(0, [0])]) gl 1)),
      binA P .lss 3 (.tmp 153) (.tmp 156) (.lit (.int .i64 ((i : Nat) : Int))) (.lit (.int .i64 ((c.pairs.length : Nat) : Int))) = some (.lit (.bool false)),
      some (AV.lit (.bool false)) = some (.lit (.bool false)),
      Rn (nameF 0 []) 1 (.ptr 0 0) (.ptr 0 0),
      Rn (nameF 0 []) 1 (.lit (.string (bs o))) (.lit (.string (bs o))),
      Rn (nameF 0 []) 1 (.lit (.string (bs ([])))) (.lit (.string (bs ([])))),
      Rn (nameF 0 []) 1 (.lit (.bool true)) (.lit (.bool true)),
      RnO (nameF 0 []) 1 (.cells (someAll c.cs) 0) (.cells (someAll c.cs) 0)])
    (τ := []) (nx := 1) (l := [(1, (.ptr 0 0)), (4, (.lit (.string (bs o)))), (5, (.lit (.string (bs ([]))))), (6, (.lit (.bool true)))])
    (bs := [(0, .cells (someAll c.cs) 0)]) (by kernel_rfl) ⟨len_frz (by kernel_rfl), bin_b (c := decide ((((i : Nat) : Int) : Int) < ((c.pairs.length : Nat) : Int))) (by kernel_rfl) (df (by omega)), rfl, Rn.ptr _ _ (by decide), Pu.rn (.lit _), Pu.rn (.lit _), Pu.rn (.lit _), (RnC.cons (Pu.rn (.lit _)) (RnC.cons (Pu.rn (Pu.map _ _ eInt_pu)) (RnC.cons (Pu.rn (.lit _)) (RnC.cons (Pu.rn (Pu.map _ _ eNd_pu)) (RnC.cons (Pu.rn (Pu.map _ _ ePt_pu)) (RnC.cons (Pu.rn (.lit _)) (RnC.cons (Pu.rn (Pu.map _ _ eStr_pu)) (RnC.cons (Pu.rn (Pu.map _ _ eRow_pu)) (RnC.cons (Pu.rn (Pu.map _ _ eCore_pu)) (RnC.cons (Pu.rn (Pu.map _ _ eNd_pu)) (RnC.cons (Pu.rn (Pu.map _ _ eSet_pu)) (RnC.cons (Pu.rn (Pu.map _ _ ePair_pu)) (RnC.cons (Pu.rn (Pu.map _ _ eStep_pu)) (RnC.cons (Pu.rn (.lit _)) (RnC.cons (Pu.rn (.lit _)) RnC.nil))))))))))))))), trivial⟩
theorem tpair (c : Cert) (gl : Nat → Option (List Value)) (o : List UInt8) (hN : c.pairs.length ≤ 100000000) (hk : ∀ x ∈ c.pairs, (okS x.1 ∧ okI x.2.1 ∧ okI x.2.2))  (ho : o.length + (List.flatMap (fun x => (lineOf [112, 97, 105, 114] [x.1, x.2.1, x.2.2])) c.pairs).length ≤ 9223372036854775807) :
  DoesL P 0 257 (loopAt P 36 5) (frameOf [(1, (.ptr 0 0)), (4, (.lit (.string (bs o)))), (5, (.lit (.string (bs ([]))))), (6, (.lit (.bool true))), (13, (.lit (.int .i64 0)))]) (boxH c gl) (.exit 11) (frameOf [(1, (.ptr 0 0)), (4, (.lit (.string (bs (o ++ (List.flatMap (fun x => (lineOf [112, 97, 105, 114] [x.1, x.2.1, x.2.2])) c.pairs)))))), (5, (.lit (.string (bs ([]))))), (6, (.lit (.bool true)))]) (boxH c gl) := by
  have h := loop_list (P := P) (K := 0) (nt := 257) (c := loopAt P 36 5) (xs := c.pairs) (fun i => frameOf [(1, (.ptr 0 0)), (4, (.lit (.string (bs (o ++ (List.flatMap (fun x => (lineOf [112, 97, 105, 114] [x.1, x.2.1, x.2.2])) (List.take i c.pairs))))))), (5, (.lit (.string (bs ([]))))), (6, (.lit (.bool true))), (13, (.lit (.int .i64 ((i : Nat) : Int))))]) (fun _ => boxH c gl) (e := .exit 11) (fr' := frameOf [(1, (.ptr 0 0)), (4, (.lit (.string (bs (o ++ (List.flatMap (fun x => (lineOf [112, 97, 105, 114] [x.1, x.2.1, x.2.2])) c.pairs)))))), (5, (.lit (.string (bs ([]))))), (6, (.lit (.bool true)))]) (H' := boxH c gl) (fun i x hx => ?_) ?_ (by simp)
  · simp only [List.take_zero, List.flatMap_nil, List.append_nil] at h
    exact h
  · have e := take_flatMap_succ hx (fun x => (lineOf [112, 97, 105, 114] [x.1, x.2.1, x.2.2]))
    have hle := flatMap_take_le c.pairs (i + 1) (fun x => (lineOf [112, 97, 105, 114] [x.1, x.2.1, x.2.2]))
    rw [e, List.length_append] at hle
    have r := tpair_r c gl (o ++ (List.flatMap (fun x => (lineOf [112, 97, 105, 114] [x.1, x.2.1, x.2.2])) (List.take i c.pairs))) i x hx (at_lt hx) hN (hk x (at_mem hx))  (by rw [List.length_append]; omega)
    rw [List.append_assoc, ← e] at r
    exact r
  · have r := tpair_e c gl (o ++ (List.flatMap (fun x => (lineOf [112, 97, 105, 114] [x.1, x.2.1, x.2.2])) c.pairs)) c.pairs.length (Nat.le_refl _)
    rw [List.take_length]
    exact r
theorem tstep1_r0 (c : Cert) (gl : Nat → Option (List Value)) (o : List UInt8) (j : Nat) (d : Stp) (hd : c.steps[j]? = some d)  (x : Int) (hx : d.from_[0]? = some x) (hi : 0 < d.from_.length) (hL : 1 * d.from_.length ≤ 268435450) :
  DoesC P 0 257 (loopAt P 36 7) (frameOf [(1, (.ptr 0 0)), (4, (.lit (.string (bs o)))), (5, (.lit (.string (bs ([]))))), (6, (.lit (.bool true))), (14, (.lit (.int .i64 ((j : Nat) : Int)))), (15, (.slice 1 0 3 1 (some 3))), (16, (.lit (.int .i64 0)))]) (heapOf 2 [(0, .cells (someAll c.cs) 0), (1, .cells [some (.lit (.int .i64 d.rule)), some (.lit (.int .i64 d.lhs)), some (.lit (.int .i64 d.rhs))] 1)] gl) .normal
    (frameOf [(1, (.ptr 0 0)), (4, (.lit (.string (bs o)))), (5, (.lit (.string (bs ([]))))), (6, (.lit (.bool true))), (14, (.lit (.int .i64 ((j : Nat) : Int)))), (15, (.slice 1 0 4 1 none)), (16, (.lit (.int .i64 1)))]) (heapOf 2 [(0, .cells (someAll c.cs) 0), (1, .cells [some (.lit (.int .i64 d.rule)), some (.lit (.int .i64 d.lhs)), some (.lit (.int .i64 d.rhs)), some (.lit (.int .i64 x))] 1)] gl) :=
  pathR follows (n := 1000) (s := [.auto 4, .giv (.frp [(.lit (.int .i64 d.rule)), (.frz 1 (List.map eInt d.from_)), (.lit (.int .u32 d.lhs)), (.lit (.int .u32 d.rhs))]), .auto 2, .giv (.lit (.int .i64 ((d.from_.length : Nat) : Int))), .giv (.lit (.bool true)), .dec true, .auto 4, .giv (.frp [(.lit (.int .i64 d.rule)), (.frz 1 (List.map eInt d.from_)), (.lit (.int .u32 d.lhs)), (.lit (.int .u32 d.rhs))]), .auto 3, .giv (.frp [(.lit (.int .i64 x))]), .auto 7])
    (obs := [indexAddrA P 37 (.frz 4 (List.map eStep c.steps)) (.lit (.int .i64 ((j : Nat) : Int))) = some (.frp [(.lit (.int .i64 d.rule)), (.frz 1 (List.map eInt d.from_)), (.lit (.int .u32 d.lhs)), (.lit (.int .u32 d.rhs))]),
      builtinA P (Hp.mk 2 (treeOf [(0, .cells (someAll c.cs) 0), (1, .cells [some (.lit (.int .i64 d.rule)), some (.lit (.int .i64 d.lhs)), some (.lit (.int .i64 d.rhs))] 1)]) (treeOf [(0, [0]), (1, [1])]) gl 1) .len #[62] 3 [(.frz 1 (List.map eInt d.from_))] = some (.val (.lit (.int .i64 ((d.from_.length : Nat) : Int))) (Hp.mk 2 (treeOf [(0, .cells (someAll c.cs) 0), (1, .cells [some (.lit (.int .i64 d.rule)), some (.lit (.int .i64 d.lhs)), some (.lit (.int .i64 d.rhs))] 1)]) (treeOf [(0, [0]), (1, [1])]) gl 1)),
      binA P .lss 3 (.tmp 225) (.tmp 232) (.lit (.int .i64 0)) (.lit (.int .i64 ((d.from_.length : Nat) : Int))) = some (.lit (.bool true)),
      some (AV.lit (.bool true)) = some (.lit (.bool true)),
      indexAddrA P 37 (.frz 4 (List.map eStep c.steps)) (.lit (.int .i64 ((j : Nat) : Int))) = some (.frp [(.lit (.int .i64 d.rule)), (.frz 1 (List.map eInt d.from_)), (.lit (.int .u32 d.lhs)), (.lit (.int .u32 d.rhs))]),
      indexAddrA P 62 (.frz 1 (List.map eInt d.from_)) (.lit (.int .i64 0)) = some (.frp [(.lit (.int .i64 x))]),
      Rn (nameF 0 [(1, 3)]) 2 (.ptr 0 0) (.ptr 0 0),
      Rn (nameF 0 [(1, 3)]) 2 (.lit (.string (bs o))) (.lit (.string (bs o))),
      Rn (nameF 0 [(1, 3)]) 2 (.lit (.string (bs ([])))) (.lit (.string (bs ([])))),
      Rn (nameF 0 [(1, 3)]) 2 (.lit (.bool true)) (.lit (.bool true)),
      Rn (nameF 0 [(1, 3)]) 2 (.lit (.int .i64 ((j : Nat) : Int))) (.lit (.int .i64 ((j : Nat) : Int))),
      Rn (nameF 0 [(1, 3)]) 2 (.slice 1 0 4 1 none) (.slice 3 0 4 1 none),
      Rn (nameF 0 [(1, 3)]) 2 (.lit (.int .i64 1)) (.lit (.int .i64 1)),
      RnO (nameF 0 [(1, 3)]) 2 (.cells (someAll c.cs) 0) (.cells (someAll c.cs) 0),
      RnO (nameF 0 [(1, 3)]) 2 (.cells [some (.lit (.int .i64 d.rule)), some (.lit (.int .i64 d.lhs)), some (.lit (.int .i64 d.rhs)), some (.lit (.int .i64 x))] 1) (.cells [some (.lit (.int .i64 d.rule)), some (.lit (.int .i64 d.lhs)), some (.lit (.int .i64 d.rhs)), some (.lit (.int .i64 x))] 3)])
    (τ := [(1, 3)]) (nx := 2) (l := [(1, (.ptr 0 0)), (4, (.lit (.string (bs o)))), (5, (.lit (.string (bs ([]))))), (6, (.lit (.bool true))), (14, (.lit (.int .i64 ((j : Nat) : Int)))), (15, (.slice 1 0 4 1 none)), (16, (.lit (.int .i64 1)))])
    (bs := [(0, .cells (someAll c.cs) 0), (1, .cells [some (.lit (.int .i64 d.rule)), some (.lit (.int .i64 d.lhs)), some (.lit (.int .i64 d.rhs)), some (.lit (.int .i64 x))] 1)]) (by kernel_rfl) ⟨index_frz (n := j) (by kernel_rfl) hd, len_frz (by kernel_rfl), bin_b (c := decide ((0 : Int) < ((d.from_.length : Nat) : Int))) (by kernel_rfl) (dt (by omega)), rfl, index_frz (n := j) (by kernel_rfl) hd, index_frz (n := 0) (by kernel_rfl) hx, Rn.ptr _ _ (by decide), Pu.rn (.lit _), Pu.rn (.lit _), Pu.rn (.lit _), Pu.rn (.lit _), Rn.slice _ _ _ _ _ (by decide), Pu.rn (.lit _), (RnC.cons (Pu.rn (.lit _)) (RnC.cons (Pu.rn (Pu.map _ _ eInt_pu)) (RnC.cons (Pu.rn (.lit _)) (RnC.cons (Pu.rn (Pu.map _ _ eNd_pu)) (RnC.cons (Pu.rn (Pu.map _ _ ePt_pu)) (RnC.cons (Pu.rn (.lit _)) (RnC.cons (Pu.rn (Pu.map _ _ eStr_pu)) (RnC.cons (Pu.rn (Pu.map _ _ eRow_pu)) (RnC.cons (Pu.rn (Pu.map _ _ eCore_pu)) (RnC.cons (Pu.rn (Pu.map _ _ eNd_pu)) (RnC.cons (Pu.rn (Pu.map _ _ eSet_pu)) (RnC.cons (Pu.rn (Pu.map _ _ ePair_pu)) (RnC.cons (Pu.rn (Pu.map _ _ eStep_pu)) (RnC.cons (Pu.rn (.lit _)) (RnC.cons (Pu.rn (.lit _)) RnC.nil))))))))))))))), (RnC.cons (Pu.rn (.lit _)) (RnC.cons (Pu.rn (.lit _)) (RnC.cons (Pu.rn (.lit _)) (RnC.cons (Pu.rn (.lit _)) RnC.nil)))), trivial⟩
theorem tstep1_r (c : Cert) (gl : Nat → Option (List Value)) (o : List UInt8) (j : Nat) (d : Stp) (hd : c.steps[j]? = some d)  (i n : Nat) (L : List Int) (hn : n = L.length) (x : Int) (hx : d.from_[i]? = some x) (hi : i < d.from_.length) (hf : n + 1 ≤ 268435456) (hL : 1 * d.from_.length ≤ 268435450) :
  DoesC P 0 257 (loopAt P 36 7) (frameOf [(1, (.ptr 0 0)), (4, (.lit (.string (bs o)))), (5, (.lit (.string (bs ([]))))), (6, (.lit (.bool true))), (14, (.lit (.int .i64 ((j : Nat) : Int)))), (15, (.slice 1 0 n 1 none)), (16, (.lit (.int .i64 ((i : Nat) : Int))))]) (heapOf 2 [(0, .cells (someAll c.cs) 0), (1, .cells (rowc eInt L) 1)] gl) .normal
    (frameOf [(1, (.ptr 0 0)), (4, (.lit (.string (bs o)))), (5, (.lit (.string (bs ([]))))), (6, (.lit (.bool true))), (14, (.lit (.int .i64 ((j : Nat) : Int)))), (15, (.slice 1 0 (n + 1) 1 none)), (16, (.lit (.int .i64 ((i + 1 : Nat) : Int))))]) (heapOf 2 [(0, .cells (someAll c.cs) 0), (1, .cells (rowc eInt (L ++ [x])) 1)] gl) :=
  pathR follows (n := 1000) (s := [.auto 4, .giv (.frp [(.lit (.int .i64 d.rule)), (.frz 1 (List.map eInt d.from_)), (.lit (.int .u32 d.lhs)), (.lit (.int .u32 d.rhs))]), .auto 2, .giv (.lit (.int .i64 ((d.from_.length : Nat) : Int))), .giv (.lit (.bool true)), .dec true, .auto 4, .giv (.frp [(.lit (.int .i64 d.rule)), (.frz 1 (List.map eInt d.from_)), (.lit (.int .u32 d.lhs)), (.lit (.int .u32 d.rhs))]), .auto 3, .giv (.frp [(.lit (.int .i64 x))]), .auto 2, .givH (.slice 3 0 (n + 1) 1 none) (Hp.mk 4 (treeOf [(0, .cells (someAll c.cs) 0), (1, .cells (rowc eInt L) 1), (2, .cells [some (.lit (.int .i64 x))] 2), (3, .cells (rowc eInt (L ++ [x])) 1)]) (treeOf [(0, [0]), (1, [3, 1]), (2, [2])]) gl 1), .auto 2, .giv (.lit (.int .i64 ((i + 1 : Nat) : Int))), .auto 1])
    (obs := [indexAddrA P 37 (.frz 4 (List.map eStep c.steps)) (.lit (.int .i64 ((j : Nat) : Int))) = some (.frp [(.lit (.int .i64 d.rule)), (.frz 1 (List.map eInt d.from_)), (.lit (.int .u32 d.lhs)), (.lit (.int .u32 d.rhs))]),
      builtinA P (Hp.mk 2 (treeOf [(0, .cells (someAll c.cs) 0), (1, .cells (rowc eInt L) 1)]) (treeOf [(0, [0]), (1, [1])]) gl 1) .len #[62] 3 [(.frz 1 (List.map eInt d.from_))] = some (.val (.lit (.int .i64 ((d.from_.length : Nat) : Int))) (Hp.mk 2 (treeOf [(0, .cells (someAll c.cs) 0), (1, .cells (rowc eInt L) 1)]) (treeOf [(0, [0]), (1, [1])]) gl 1)),
      binA P .lss 3 (.tmp 225) (.tmp 232) (.lit (.int .i64 ((i : Nat) : Int))) (.lit (.int .i64 ((d.from_.length : Nat) : Int))) = some (.lit (.bool true)),
      some (AV.lit (.bool true)) = some (.lit (.bool true)),
      indexAddrA P 37 (.frz 4 (List.map eStep c.steps)) (.lit (.int .i64 ((j : Nat) : Int))) = some (.frp [(.lit (.int .i64 d.rule)), (.frz 1 (List.map eInt d.from_)), (.lit (.int .u32 d.lhs)), (.lit (.int .u32 d.rhs))]),
      indexAddrA P 62 (.frz 1 (List.map eInt d.from_)) (.lit (.int .i64 ((i : Nat) : Int))) = some (.frp [(.lit (.int .i64 x))]),
      builtinA P (Hp.mk 3 (treeOf [(0, .cells (someAll c.cs) 0), (1, .cells (rowc eInt L) 1), (2, .cells [some (.lit (.int .i64 x))] 2)]) (treeOf [(0, [0]), (1, [1]), (2, [2])]) gl 1) .append #[23, 23] 23 [(.slice 1 0 n 1 none), (.slice 2 0 1 1 (some 1))] = some (.val (.slice 3 0 (n + 1) 1 none) (Hp.mk 4 (treeOf [(0, .cells (someAll c.cs) 0), (1, .cells (rowc eInt L) 1), (2, .cells [some (.lit (.int .i64 x))] 2), (3, .cells (rowc eInt (L ++ [x])) 1)]) (treeOf [(0, [0]), (1, [3, 1]), (2, [2])]) gl 1)),
      binA P .add 3 (.tmp 234) (.const (.int .i64 1)) (.lit (.int .i64 ((i : Nat) : Int))) (.lit (.int .i64 1)) = some (.lit (.int .i64 ((i + 1 : Nat) : Int))),
      Rn (nameF 0 [(1, 3)]) 2 (.ptr 0 0) (.ptr 0 0),
      Rn (nameF 0 [(1, 3)]) 2 (.lit (.string (bs o))) (.lit (.string (bs o))),
      Rn (nameF 0 [(1, 3)]) 2 (.lit (.string (bs ([])))) (.lit (.string (bs ([])))),
      Rn (nameF 0 [(1, 3)]) 2 (.lit (.bool true)) (.lit (.bool true)),
      Rn (nameF 0 [(1, 3)]) 2 (.lit (.int .i64 ((j : Nat) : Int))) (.lit (.int .i64 ((j : Nat) : Int))),
      Rn (nameF 0 [(1, 3)]) 2 (.slice 1 0 (n + 1) 1 none) (.slice 3 0 (n + 1) 1 none),
      Rn (nameF 0 [(1, 3)]) 2 (.lit (.int .i64 ((i + 1 : Nat) : Int))) (.lit (.int .i64 ((i + 1 : Nat) : Int))),
      RnO (nameF 0 [(1, 3)]) 2 (.cells (someAll c.cs) 0) (.cells (someAll c.cs) 0),
      RnO (nameF 0 [(1, 3)]) 2 (.cells (rowc eInt (L ++ [x])) 1) (.cells (rowc eInt (L ++ [x])) 1)])
    (τ := [(1, 3)]) (nx := 2) (l := [(1, (.ptr 0 0)), (4, (.lit (.string (bs o)))), (5, (.lit (.string (bs ([]))))), (6, (.lit (.bool true))), (14, (.lit (.int .i64 ((j : Nat) : Int)))), (15, (.slice 1 0 (n + 1) 1 none)), (16, (.lit (.int .i64 ((i + 1 : Nat) : Int))))])
    (bs := [(0, .cells (someAll c.cs) 0), (1, .cells (rowc eInt (L ++ [x])) 1)]) (by kernel_rfl) ⟨index_frz (n := j) (by kernel_rfl) hd, len_frz (by kernel_rfl), bin_b (c := decide ((((i : Nat) : Int) : Int) < ((d.from_.length : Nat) : Int))) (by kernel_rfl) (dt (by omega)), rfl, index_frz (n := j) (by kernel_rfl) hd, index_frz (n := i) (by kernel_rfl) hx, append_row (b := 1) (g := 1) (enc := eInt) (L := L) (L2 := (L ++ [x])) (ys := [(.lit (.int .i64 x))]) (by kernel_rfl) (by kernel_rfl) (by kernel_rfl) (by kernel_rfl) (by simp [eInt]) (by rw [rowc_length eInt_len]; omega) (by kernel_rfl) (by omega) (by kernel_rfl) (by kernel_rfl), binA_addN (a := i) (b := 1) (by omega), Rn.ptr _ _ (by decide), Pu.rn (.lit _), Pu.rn (.lit _), Pu.rn (.lit _), Pu.rn (.lit _), Rn.slice _ _ _ _ _ (by decide), Pu.rn (.lit _), (RnC.cons (Pu.rn (.lit _)) (RnC.cons (Pu.rn (Pu.map _ _ eInt_pu)) (RnC.cons (Pu.rn (.lit _)) (RnC.cons (Pu.rn (Pu.map _ _ eNd_pu)) (RnC.cons (Pu.rn (Pu.map _ _ ePt_pu)) (RnC.cons (Pu.rn (.lit _)) (RnC.cons (Pu.rn (Pu.map _ _ eStr_pu)) (RnC.cons (Pu.rn (Pu.map _ _ eRow_pu)) (RnC.cons (Pu.rn (Pu.map _ _ eCore_pu)) (RnC.cons (Pu.rn (Pu.map _ _ eNd_pu)) (RnC.cons (Pu.rn (Pu.map _ _ eSet_pu)) (RnC.cons (Pu.rn (Pu.map _ _ ePair_pu)) (RnC.cons (Pu.rn (Pu.map _ _ eStep_pu)) (RnC.cons (Pu.rn (.lit _)) (RnC.cons (Pu.rn (.lit _)) RnC.nil))))))))))))))), RnC.row eInt_pu, trivial⟩
theorem tstep1_e0 (c : Cert) (gl : Nat → Option (List Value)) (o : List UInt8) (j : Nat) (d : Stp) (hd : c.steps[j]? = some d)  (hi : d.from_.length ≤ 0) :
  DoesC P 0 257 (loopAt P 36 7) (frameOf [(1, (.ptr 0 0)), (4, (.lit (.string (bs o)))), (5, (.lit (.string (bs ([]))))), (6, (.lit (.bool true))), (14, (.lit (.int .i64 ((j : Nat) : Int)))), (15, (.slice 1 0 3 1 (some 3))), (16, (.lit (.int .i64 0)))]) (heapOf 2 [(0, .cells (someAll c.cs) 0), (1, .cells [some (.lit (.int .i64 d.rule)), some (.lit (.int .i64 d.lhs)), some (.lit (.int .i64 d.rhs))] 1)] gl) (.exit 15)
    (frameOf [(1, (.ptr 0 0)), (4, (.lit (.string (bs o)))), (5, (.lit (.string (bs ([]))))), (6, (.lit (.bool true))), (14, (.lit (.int .i64 ((j : Nat) : Int)))), (15, (.slice 1 0 3 1 (some 3)))]) (Hp.mk 2 (treeOf [(0, .cells (someAll c.cs) 0), (1, .cells [some (.lit (.int .i64 d.rule)), some (.lit (.int .i64 d.lhs)), some (.lit (.int .i64 d.rhs))] 1)]) (treeOf [(0, [0]), (1, [1])]) gl 1) :=
  path follows (n := 1000) (s := [.auto 4, .giv (.frp [(.lit (.int .i64 d.rule)), (.frz 1 (List.map eInt d.from_)), (.lit (.int .u32 d.lhs)), (.lit (.int .u32 d.rhs))]), .auto 2, .giv (.lit (.int .i64 ((d.from_.length : Nat) : Int))), .giv (.lit (.bool false)), .dec false])
    (obs := [indexAddrA P 37 (.frz 4 (List.map eStep c.steps)) (.lit (.int .i64 ((j : Nat) : Int))) = some (.frp [(.lit (.int .i64 d.rule)), (.frz 1 (List.map eInt d.from_)), (.lit (.int .u32 d.lhs)), (.lit (.int .u32 d.rhs))]),
      builtinA P (Hp.mk 2 (treeOf [(0, .cells (someAll c.cs) 0), (1, .cells [some (.lit (.int .i64 d.rule)), some (.lit (.int .i64 d.lhs)), some (.lit (.int .i64 d.rhs))] 1)]) (treeOf [(0, [0]), (1, [1])]) gl 1) .len #[62] 3 [(.frz 1 (List.map eInt d.from_))] = some (.val (.lit (.int .i64 ((d.from_.length : Nat) : Int))) (Hp.mk 2 (treeOf [(0, .cells (someAll c.cs) 0), (1, .cells [some (.lit (.int .i64 d.rule)), some (.lit (.int .i64 d.lhs)), some (.lit (.int .i64 d.rhs))] 1)]) (treeOf [(0, [0]), (1, [1])]) gl 1)),
      binA P .lss 3 (.tmp 225) (.tmp 232) (.lit (.int .i64 0)) (.lit (.int .i64 ((d.from_.length : Nat) : Int))) = some (.lit (.bool false)),
      some (AV.lit (.bool false)) = some (.lit (.bool false))])
    (ts := [1, 4, 5, 6, 14, 15]) (by kernel_rfl) ⟨index_frz (n := j) (by kernel_rfl) hd, len_frz (by kernel_rfl), bin_b (c := decide ((0 : Int) < ((d.from_.length : Nat) : Int))) (by kernel_rfl) (df (by omega)), rfl, trivial⟩
theorem tstep1_e (c : Cert) (gl : Nat → Option (List Value)) (o : List UInt8) (j : Nat) (d : Stp) (hd : c.steps[j]? = some d)  (i n : Nat) (L : List Int) (hi : d.from_.length ≤ i) :
  DoesC P 0 257 (loopAt P 36 7) (frameOf [(1, (.ptr 0 0)), (4, (.lit (.string (bs o)))), (5, (.lit (.string (bs ([]))))), (6, (.lit (.bool true))), (14, (.lit (.int .i64 ((j : Nat) : Int)))), (15, (.slice 1 0 n 1 none)), (16, (.lit (.int .i64 ((i : Nat) : Int))))]) (heapOf 2 [(0, .cells (someAll c.cs) 0), (1, .cells (rowc eInt L) 1)] gl) (.exit 15)
    (frameOf [(1, (.ptr 0 0)), (4, (.lit (.string (bs o)))), (5, (.lit (.string (bs ([]))))), (6, (.lit (.bool true))), (14, (.lit (.int .i64 ((j : Nat) : Int)))), (15, (.slice 1 0 n 1 none))]) (Hp.mk 2 (treeOf [(0, .cells (someAll c.cs) 0), (1, .cells (rowc eInt L) 1)]) (treeOf [(0, [0]), (1, [1])]) gl 1) :=
  path follows (n := 1000) (s := [.auto 4, .giv (.frp [(.lit (.int .i64 d.rule)), (.frz 1 (List.map eInt d.from_)), (.lit (.int .u32 d.lhs)), (.lit (.int .u32 d.rhs))]), .auto 2, .giv (.lit (.int .i64 ((d.from_.length : Nat) : Int))), .giv (.lit (.bool false)), .dec false])
    (obs := [indexAddrA P 37 (.frz 4 (List.map eStep c.steps)) (.lit (.int .i64 ((j : Nat) : Int))) = some (.frp [(.lit (.int .i64 d.rule)), (.frz 1 (List.map eInt d.from_)), (.lit (.int .u32 d.lhs)), (.lit (.int .u32 d.rhs))]),
      builtinA P (Hp.mk 2 (treeOf [(0, .cells (someAll c.cs) 0), (1, .cells (rowc eInt L) 1)]) (treeOf [(0, [0]), (1, [1])]) gl 1) .len #[62] 3 [(.frz 1 (List.map eInt d.from_))] = some (.val (.lit (.int .i64 ((d.from_.length : Nat) : Int))) (Hp.mk 2 (treeOf [(0, .cells (someAll c.cs) 0), (1, .cells (rowc eInt L) 1)]) (treeOf [(0, [0]), (1, [1])]) gl 1)),
      binA P .lss 3 (.tmp 225) (.tmp 232) (.lit (.int .i64 ((i : Nat) : Int))) (.lit (.int .i64 ((d.from_.length : Nat) : Int))) = some (.lit (.bool false)),
      some (AV.lit (.bool false)) = some (.lit (.bool false))])
    (ts := [1, 4, 5, 6, 14, 15]) (by kernel_rfl) ⟨index_frz (n := j) (by kernel_rfl) hd, len_frz (by kernel_rfl), bin_b (c := decide ((((i : Nat) : Int) : Int) < ((d.from_.length : Nat) : Int))) (by kernel_rfl) (df (by omega)), rfl, trivial⟩
theorem tstep1 (c : Cert) (gl : Nat → Option (List Value)) (o : List UInt8) (j : Nat) (d : Stp) (hd : c.steps[j]? = some d)  (hlen : 1 * d.from_.length ≤ 268435450) :
  DoesL P 0 257 (loopAt P 36 7) (frameOf [(1, (.ptr 0 0)), (4, (.lit (.string (bs o)))), (5, (.lit (.string (bs ([]))))), (6, (.lit (.bool true))), (14, (.lit (.int .i64 ((j : Nat) : Int)))), (15, (.slice 1 0 3 1 (some 3))), (16, (.lit (.int .i64 0)))]) (heapOf 2 [(0, .cells (someAll c.cs) 0), (1, .cells [some (.lit (.int .i64 d.rule)), some (.lit (.int .i64 d.lhs)), some (.lit (.int .i64 d.rhs))] 1)] gl) (.exit 15) (frameOf [(1, (.ptr 0 0)), (4, (.lit (.string (bs o)))), (5, (.lit (.string (bs ([]))))), (6, (.lit (.bool true))), (14, (.lit (.int .i64 ((j : Nat) : Int)))), (15, (.frz 1 (List.map eInt ([d.rule, d.lhs, d.rhs] ++ (List.flatMap (fun (x : Int) => [x]) d.from_)))))]) (heapOf 1 [(0, .cells (someAll c.cs) 0)] gl) := by
  rcases Nat.eq_zero_or_pos d.from_.length with h0 | h0
  · have h := DoesL.out (tstep1_e0 c gl o j d hd  (by omega)) (by simp)
    have e0 : d.from_ = [] := List.length_eq_zero_iff.1 h0
    refine DoesL.clean h (ts := [1, 4, 5, 6, 14, 15]) (l := [(1, (.ptr 0 0)), (4, (.lit (.string (bs o)))), (5, (.lit (.string (bs ([]))))), (6, (.lit (.bool true))), (14, (.lit (.int .i64 ((j : Nat) : Int)))), (15, (.frz 1 (List.map eInt ([d.rule, d.lhs, d.rhs] ++ (List.flatMap (fun (x : Int) => [x]) d.from_)))))]) 1 [(0, .cells (someAll c.cs) 0)] (by kernel_rfl) ?_ (.cons (.refl _) (.cons (.refl _) (.cons (.refl _) (.cons (.refl _) (.cons (.refl _) (.cons (by rw [show ([d.rule, d.lhs, d.rhs] ++ (List.flatMap (fun (x : Int) => [x]) d.from_)) = [d.rule, d.lhs, d.rhs] by rw [e0]; rfl]; exact FzV.rowB (b := 1) (g := 1) (c := some 3) (by kernel_rfl) rfl (by kernel_rfl) (by kernel_rfl) eInt_len eInt_flat) .nil)))))) ?_ (by kernel_rfl) (ps := [RnO (nameF 0 []) 1 (.cells (someAll c.cs) 0) (.cells (someAll c.cs) 0)]) ⟨(RnC.cons (Pu.rn (.lit _)) (RnC.cons (Pu.rn (Pu.map _ _ eInt_pu)) (RnC.cons (Pu.rn (.lit _)) (RnC.cons (Pu.rn (Pu.map _ _ eNd_pu)) (RnC.cons (Pu.rn (Pu.map _ _ ePt_pu)) (RnC.cons (Pu.rn (.lit _)) (RnC.cons (Pu.rn (Pu.map _ _ eStr_pu)) (RnC.cons (Pu.rn (Pu.map _ _ eRow_pu)) (RnC.cons (Pu.rn (Pu.map _ _ eCore_pu)) (RnC.cons (Pu.rn (Pu.map _ _ eNd_pu)) (RnC.cons (Pu.rn (Pu.map _ _ eSet_pu)) (RnC.cons (Pu.rn (Pu.map _ _ ePair_pu)) (RnC.cons (Pu.rn (Pu.map _ _ eStep_pu)) (RnC.cons (Pu.rn (.lit _)) (RnC.cons (Pu.rn (.lit _)) RnC.nil))))))))))))))), trivial⟩ (by decide) rfl (by kernel_rfl)
    · intro x hx; simp only [List.mem_cons, List.not_mem_nil, or_false] at hx; rcases hx with rfl
      all_goals kernel_rfl
    · intro x hx; simp only [List.mem_cons, List.not_mem_nil, or_false] at hx; rcases hx with rfl | rfl | rfl | rfl | rfl | rfl
      · exact Rn.ptr _ _ (by decide)
      · exact Pu.rn (.lit _)
      · exact Pu.rn (.lit _)
      · exact Pu.rn (.lit _)
      · exact Pu.rn (.lit _)
      · exact Pu.rn (Pu.map _ _ eInt_pu)
  · have h := loop_list (P := P) (K := 0) (nt := 257) (c := loopAt P 36 7) (xs := d.from_) (fun i => match i with | 0 => frameOf [(1, (.ptr 0 0)), (4, (.lit (.string (bs o)))), (5, (.lit (.string (bs ([]))))), (6, (.lit (.bool true))), (14, (.lit (.int .i64 ((j : Nat) : Int)))), (15, (.slice 1 0 3 1 (some 3))), (16, (.lit (.int .i64 0)))] | i + 1 => frameOf [(1, (.ptr 0 0)), (4, (.lit (.string (bs o)))), (5, (.lit (.string (bs ([]))))), (6, (.lit (.bool true))), (14, (.lit (.int .i64 ((j : Nat) : Int)))), (15, (.slice 1 0 (3 + 1 * (i + 1)) 1 none)), (16, (.lit (.int .i64 ((i + 1 : Nat) : Int))))]) (fun i => match i with | 0 => (heapOf 2 [(0, .cells (someAll c.cs) 0), (1, .cells [some (.lit (.int .i64 d.rule)), some (.lit (.int .i64 d.lhs)), some (.lit (.int .i64 d.rhs))] 1)] gl) | i + 1 => (heapOf 2 [(0, .cells (someAll c.cs) 0), (1, .cells (rowc eInt ([d.rule, d.lhs, d.rhs] ++ (List.flatMap (fun (x : Int) => [x]) (List.take (i + 1) d.from_)))) 1)] gl))
      (e := .exit 15) (fr' := frameOf [(1, (.ptr 0 0)), (4, (.lit (.string (bs o)))), (5, (.lit (.string (bs ([]))))), (6, (.lit (.bool true))), (14, (.lit (.int .i64 ((j : Nat) : Int)))), (15, (.slice 1 0 (3 + 1 * d.from_.length) 1 none))]) (H' := (heapOf 2 [(0, .cells (someAll c.cs) 0), (1, .cells (rowc eInt ([d.rule, d.lhs, d.rhs] ++ (List.flatMap (fun (x : Int) => [x]) d.from_))) 1)] gl)) (fun i x hx => ?_) ?_ (by simp)
    · have hn : 3 + 1 * d.from_.length = ([d.rule, d.lhs, d.rhs] ++ (List.flatMap (fun (x : Int) => [x]) d.from_)).length := by simp only [List.length_append, List.length_cons, List.length_nil, flatMap_len (m := 1) (g := (fun (x : Int) => [x])) (fun _ => rfl)]
      refine DoesL.clean h (ts := [1, 4, 5, 6, 14, 15]) (l := [(1, (.ptr 0 0)), (4, (.lit (.string (bs o)))), (5, (.lit (.string (bs ([]))))), (6, (.lit (.bool true))), (14, (.lit (.int .i64 ((j : Nat) : Int)))), (15, (.frz 1 (List.map eInt ([d.rule, d.lhs, d.rhs] ++ (List.flatMap (fun (x : Int) => [x]) d.from_)))))]) 1 [(0, .cells (someAll c.cs) 0)] (by kernel_rfl) ?_ (.cons (.refl _) (.cons (.refl _) (.cons (.refl _) (.cons (.refl _) (.cons (.refl _) (.cons (FzV.rowB (b := 1) (g := 1) (c := none) (by kernel_rfl) hn (by kernel_rfl) (by kernel_rfl) eInt_len eInt_flat) .nil)))))) ?_ (by kernel_rfl) (ps := [RnO (nameF 0 []) 1 (.cells (someAll c.cs) 0) (.cells (someAll c.cs) 0)]) ⟨(RnC.cons (Pu.rn (.lit _)) (RnC.cons (Pu.rn (Pu.map _ _ eInt_pu)) (RnC.cons (Pu.rn (.lit _)) (RnC.cons (Pu.rn (Pu.map _ _ eNd_pu)) (RnC.cons (Pu.rn (Pu.map _ _ ePt_pu)) (RnC.cons (Pu.rn (.lit _)) (RnC.cons (Pu.rn (Pu.map _ _ eStr_pu)) (RnC.cons (Pu.rn (Pu.map _ _ eRow_pu)) (RnC.cons (Pu.rn (Pu.map _ _ eCore_pu)) (RnC.cons (Pu.rn (Pu.map _ _ eNd_pu)) (RnC.cons (Pu.rn (Pu.map _ _ eSet_pu)) (RnC.cons (Pu.rn (Pu.map _ _ ePair_pu)) (RnC.cons (Pu.rn (Pu.map _ _ eStep_pu)) (RnC.cons (Pu.rn (.lit _)) (RnC.cons (Pu.rn (.lit _)) RnC.nil))))))))))))))), trivial⟩ (by decide) rfl (by kernel_rfl)
      · intro x hx; simp only [List.mem_cons, List.not_mem_nil, or_false] at hx; rcases hx with rfl
        all_goals kernel_rfl
      · intro x hx; simp only [List.mem_cons, List.not_mem_nil, or_false] at hx; rcases hx with rfl | rfl | rfl | rfl | rfl | rfl
        · exact Rn.ptr _ _ (by decide)
        · exact Pu.rn (.lit _)
        · exact Pu.rn (.lit _)
        · exact Pu.rn (.lit _)
        · exact Pu.rn (.lit _)
        · exact Pu.rn (Pu.map _ _ eInt_pu)
    · have hi := at_lt hx
      cases i with
      | zero =>
        have r := tstep1_r0 c gl o j d hd  x hx hi hlen
        have e : ([d.rule, d.lhs, d.rhs] ++ List.flatMap (fun (x : Int) => [x]) (List.take (0 + 1) d.from_)) = [d.rule, d.lhs, d.rhs, x] := by rw [take_flatMap_succ hx]; simp
        have e2 : rowc eInt [d.rule, d.lhs, d.rhs, x] = [some (.lit (.int .i64 d.rule)), some (.lit (.int .i64 d.lhs)), some (.lit (.int .i64 d.rhs)), some (.lit (.int .i64 x))] := rfl
        rw [← e2, ← e] at r
        exact r
      | succ i =>
        have hn : 3 + 1 * (i + 1) = ([d.rule, d.lhs, d.rhs] ++ (List.flatMap (fun (x : Int) => [x]) (List.take (i + 1) d.from_))).length := by simp only [List.length_append, List.length_cons, List.length_nil, flatMap_len (m := 1) (g := (fun (x : Int) => [x])) (fun _ => rfl), List.length_take]; omega
        have r := tstep1_r c gl o j d hd  (i + 1) (3 + 1 * (i + 1)) _ hn x hx hi (by omega) hlen
        have e : ([d.rule, d.lhs, d.rhs] ++ List.flatMap (fun (x : Int) => [x]) (List.take (i + 1 + 1) d.from_)) = ([d.rule, d.lhs, d.rhs] ++ (List.flatMap (fun (x : Int) => [x]) (List.take (i + 1) d.from_))) ++ [x] := by rw [take_flatMap_succ hx]; simp
        rw [← e] at r
        exact r
    · obtain ⟨q, hq⟩ : ∃ q, d.from_.length = q + 1 := ⟨d.from_.length - 1, by omega⟩
      have r := tstep1_e c gl o j d hd  (q + 1) (3 + 1 * (q + 1)) ([d.rule, d.lhs, d.rhs] ++ (List.flatMap (fun (x : Int) => [x]) (List.take (q + 1) d.from_))) (by omega)
      have e : List.take (q + 1) d.from_ = d.from_ := by rw [← hq, List.take_length]
      rw [e] at r
      rw [hq]
      dsimp only
      rw [e]
      exact r
def stepNums (x : Stp) : List Int := [x.rule, x.lhs, x.rhs] ++ List.flatMap (fun (x : Int) => [x]) x.from_
theorem stepNums_len (x : Stp) : (stepNums x).length = 3 + x.from_.length := by unfold stepNums; rw [List.length_append, flatMap_len (m := 1) (fun _ => rfl)]; simp
def okStp (x : Stp) : Prop := okI x.rule ∧ okS x.lhs ∧ okS x.rhs ∧ ∀ y ∈ x.from_, okI y
theorem stepNums_ok {x : Stp} (h : okStp x) : ∀ y ∈ stepNums x, okI y := by
  intro y hy
  simp only [stepNums, List.mem_append, List.mem_cons, List.not_mem_nil, or_false, List.mem_flatMap] at hy
  rcases hy with (rfl | rfl | rfl) | ⟨z, hz, rfl⟩
  · exact h.1
  · exact okS_okI h.2.1
  · exact okS_okI h.2.2.1
  · exact h.2.2.2 _ hz
theorem tstep_r (c : Cert) (gl : Nat → Option (List Value)) (o : List UInt8) (i : Nat) (x : Stp) (hx : c.steps[i]? = some x) (hi : i < c.steps.length) (hN : c.steps.length ≤ 100000000) (hk : okStp x) (hk2 : 1 * x.from_.length ≤ 268435450) (ho : o.length + (lineOf [115, 116, 101, 112] (stepNums x)).length ≤ 9223372036854775807) :
  DoesC P 0 257 (loopAt P 36 6) (frameOf [(1, (.ptr 0 0)), (4, (.lit (.string (bs o)))), (5, (.lit (.string (bs ([]))))), (6, (.lit (.bool true))), (14, (.lit (.int .i64 ((i : Nat) : Int))))]) (heapOf 1 [(0, .cells (someAll c.cs) 0)] gl) .normal
    (frameOf [(1, (.ptr 0 0)), (4, (.lit (.string (bs (o ++ (lineOf [115, 116, 101, 112] (stepNums x))))))), (5, (.lit (.string (bs ([]))))), (6, (.lit (.bool true))), (14, (.lit (.int .i64 ((i + 1 : Nat) : Int))))]) (heapOf 1 [(0, .cells (someAll c.cs) 0)] gl) :=
  pathR follows (n := 1000) (s := [.auto 3, .giv (.lit (.int .i64 ((c.steps.length : Nat) : Int))), .giv (.lit (.bool true)), .dec true, .auto 3, .giv (.frp [(.lit (.int .i64 x.rule)), (.frz 1 (List.map eInt x.from_)), (.lit (.int .u32 x.lhs)), (.lit (.int .u32 x.rhs))]), .auto 5, .giv (.frp [(.lit (.int .i64 x.rule)), (.frz 1 (List.map eInt x.from_)), (.lit (.int .u32 x.lhs)), (.lit (.int .u32 x.rhs))]), .auto 3, .giv (.lit (.int .i64 x.lhs)), .auto 3, .giv (.frp [(.lit (.int .i64 x.rule)), (.frz 1 (List.map eInt x.from_)), (.lit (.int .u32 x.lhs)), (.lit (.int .u32 x.rhs))]), .auto 3, .giv (.lit (.int .i64 x.rhs)), .auto 3, .loopR [(1, 23)] 2 [(1, (.ptr 0 0)), (4, (.lit (.string (bs o)))), (5, (.lit (.string (bs ([]))))), (6, (.lit (.bool true))), (14, (.lit (.int .i64 ((i : Nat) : Int)))), (15, (.slice 1 0 3 1 (some 3))), (16, (.lit (.int .i64 0)))] [(0, .cells (someAll c.cs) 0), (1, .cells [some (.lit (.int .i64 x.rule)), some (.lit (.int .i64 x.lhs)), some (.lit (.int .i64 x.rhs))] 1)] (.exit 15) (frameOf [(1, (.ptr 0 0)), (4, (.lit (.string (bs o)))), (5, (.lit (.string (bs ([]))))), (6, (.lit (.bool true))), (14, (.lit (.int .i64 ((i : Nat) : Int)))), (15, (.frz 1 (List.map eInt (stepNums x))))]) (heapOf 1 [(0, .cells (someAll c.cs) 0)] gl), .auto 2, .call (.lit (.string (bs (lineOf [115, 116, 101, 112] (stepNums x))))), .giv (.lit (.string (bs (o ++ (lineOf [115, 116, 101, 112] (stepNums x)))))), .auto 2, .giv (.lit (.int .i64 ((i + 1 : Nat) : Int))), .auto 1])
    (obs := [builtinA P (Hp.mk 1 (treeOf [(0, .cells (someAll c.cs) 0)]) (treeOf [(0, [0])]) gl 1) .len #[37] 3 [(.frz 4 (List.map eStep c.steps))] = some (.val (.lit (.int .i64 ((c.steps.length : Nat) : Int))) (Hp.mk 1 (treeOf [(0, .cells (someAll c.cs) 0)]) (treeOf [(0, [0])]) gl 1)),
      binA P .lss 3 (.tmp 195) (.tmp 198) (.lit (.int .i64 ((i : Nat) : Int))) (.lit (.int .i64 ((c.steps.length : Nat) : Int))) = some (.lit (.bool true)),
      some (AV.lit (.bool true)) = some (.lit (.bool true)),
      indexAddrA P 37 (.frz 4 (List.map eStep c.steps)) (.lit (.int .i64 ((i : Nat) : Int))) = some (.frp [(.lit (.int .i64 x.rule)), (.frz 1 (List.map eInt x.from_)), (.lit (.int .u32 x.lhs)), (.lit (.int .u32 x.rhs))]),
      indexAddrA P 37 (.frz 4 (List.map eStep c.steps)) (.lit (.int .i64 ((i : Nat) : Int))) = some (.frp [(.lit (.int .i64 x.rule)), (.frz 1 (List.map eInt x.from_)), (.lit (.int .u32 x.lhs)), (.lit (.int .u32 x.rhs))]),
      convertA P 39 2 (.lit (.int .u32 x.lhs)) (Hp.mk 25 (treeOf [(0, .cells (someAll c.cs) 0)]) (treeOf [(0, [0])]) gl 1) = some ((.lit (.int .i64 x.lhs)), (Hp.mk 25 (treeOf [(0, .cells (someAll c.cs) 0)]) (treeOf [(0, [0])]) gl 1)),
      indexAddrA P 37 (.frz 4 (List.map eStep c.steps)) (.lit (.int .i64 ((i : Nat) : Int))) = some (.frp [(.lit (.int .i64 x.rule)), (.frz 1 (List.map eInt x.from_)), (.lit (.int .u32 x.lhs)), (.lit (.int .u32 x.rhs))]),
      convertA P 39 2 (.lit (.int .u32 x.rhs)) (Hp.mk 25 (treeOf [(0, .cells (someAll c.cs) 0)]) (treeOf [(0, [0])]) gl 1) = some ((.lit (.int .i64 x.rhs)), (Hp.mk 25 (treeOf [(0, .cells (someAll c.cs) 0)]) (treeOf [(0, [0])]) gl 1)),
      Rn (nameF 0 [(1, 23)]) 2 (.ptr 0 0) (.ptr 0 0),
      Rn (nameF 0 [(1, 23)]) 2 (.lit (.string (bs o))) (.lit (.string (bs o))),
      Rn (nameF 0 [(1, 23)]) 2 (.lit (.string (bs ([])))) (.lit (.string (bs ([])))),
      Rn (nameF 0 [(1, 23)]) 2 (.lit (.bool true)) (.lit (.bool true)),
      Rn (nameF 0 [(1, 23)]) 2 (.lit (.int .i64 ((i : Nat) : Int))) (.lit (.int .i64 ((i : Nat) : Int))),
      Rn (nameF 0 [(1, 23)]) 2 (.slice 1 0 3 1 (some 3)) (.slice 23 0 3 1 (some 3)),
      Rn (nameF 0 [(1, 23)]) 2 (.lit (.int .i64 0)) (.lit (.int .i64 0)),
      RnO (nameF 0 [(1, 23)]) 2 (.cells (someAll c.cs) 0) (.cells (someAll c.cs) 0),
      RnO (nameF 0 [(1, 23)]) 2 (.cells [some (.lit (.int .i64 x.rule)), some (.lit (.int .i64 x.lhs)), some (.lit (.int .i64 x.rhs))] 1) (.cells [some (.lit (.int .i64 x.rule)), some (.lit (.int .i64 x.lhs)), some (.lit (.int .i64 x.rhs))] 23),
      DoesL P 0 257 (loopAt P 36 7) (frameOf [(1, (.ptr 0 0)), (4, (.lit (.string (bs o)))), (5, (.lit (.string (bs ([]))))), (6, (.lit (.bool true))), (14, (.lit (.int .i64 ((i : Nat) : Int)))), (15, (.slice 1 0 3 1 (some 3))), (16, (.lit (.int .i64 0)))]) (heapOf 2 [(0, .cells (someAll c.cs) 0), (1, .cells [some (.lit (.int .i64 x.rule)), some (.lit (.int .i64 x.lhs)), some (.lit (.int .i64 x.rhs))] 1)] gl) (.exit 15) (frameOf [(1, (.ptr 0 0)), (4, (.lit (.string (bs o)))), (5, (.lit (.string (bs ([]))))), (6, (.lit (.bool true))), (14, (.lit (.int .i64 ((i : Nat) : Int)))), (15, (.frz 1 (List.map eInt (stepNums x))))]) (heapOf 1 [(0, .cells (someAll c.cs) 0)] gl),
      Does P 60 [(.lit (.string (bs ([115, 116, 101, 112])))), (.frz 1 (List.map eInt (stepNums x)))] (Hp.mk 1 (treeOf [(0, .cells (someAll c.cs) 0)]) (treeOf [(0, [0])]) gl 1) (.lit (.string (bs (lineOf [115, 116, 101, 112] (stepNums x))))) (Hp.mk 1 (treeOf [(0, .cells (someAll c.cs) 0)]) (treeOf [(0, [0])]) gl 1),
      binA P .add 9 (.tmp 248) (.tmp 250) (.lit (.string (bs o))) (.lit (.string (bs (lineOf [115, 116, 101, 112] (stepNums x))))) = some (.lit (.string (bs (o ++ (lineOf [115, 116, 101, 112] (stepNums x)))))),
      binA P .add 3 (.tmp 200) (.const (.int .i64 1)) (.lit (.int .i64 ((i : Nat) : Int))) (.lit (.int .i64 1)) = some (.lit (.int .i64 ((i + 1 : Nat) : Int))),
      Rn (nameF 0 []) 1 (.ptr 0 0) (.ptr 0 0),
      Rn (nameF 0 []) 1 (.lit (.string (bs (o ++ (lineOf [115, 116, 101, 112] (stepNums x)))))) (.lit (.string (bs (o ++ (lineOf [115, 116, 101, 112] (stepNums x)))))),
      Rn (nameF 0 []) 1 (.lit (.string (bs ([])))) (.lit (.string (bs ([])))),
      Rn (nameF 0 []) 1 (.lit (.bool true)) (.lit (.bool true)),
      Rn (nameF 0 []) 1 (.lit (.int .i64 ((i + 1 : Nat) : Int))) (.lit (.int .i64 ((i + 1 : Nat) : Int))),
      RnO (nameF 0 []) 1 (.cells (someAll c.cs) 0) (.cells (someAll c.cs) 0)])
    (τ := []) (nx := 1) (l := [(1, (.ptr 0 0)), (4, (.lit (.string (bs (o ++ (lineOf [115, 116, 101, 112] (stepNums x))))))), (5, (.lit (.string (bs ([]))))), (6, (.lit (.bool true))), (14, (.lit (.int .i64 ((i + 1 : Nat) : Int))))])
    (bs := [(0, .cells (someAll c.cs) 0)]) (by kernel_rfl) ⟨len_frz (by kernel_rfl), bin_b (c := decide ((((i : Nat) : Int) : Int) < ((c.steps.length : Nat) : Int))) (by kernel_rfl) (dt (by omega)), rfl, index_frz (n := i) (by kernel_rfl) hx, index_frz (n := i) (by kernel_rfl) hx, conv_ob (by kernel_rfl) (okS_wrap hk.2.1), index_frz (n := i) (by kernel_rfl) hx, conv_ob (by kernel_rfl) (okS_wrap hk.2.2.1), Rn.ptr _ _ (by decide), Pu.rn (.lit _), Pu.rn (.lit _), Pu.rn (.lit _), Pu.rn (.lit _), Rn.slice _ _ _ _ _ (by decide), Pu.rn (.lit _), (RnC.cons (Pu.rn (.lit _)) (RnC.cons (Pu.rn (Pu.map _ _ eInt_pu)) (RnC.cons (Pu.rn (.lit _)) (RnC.cons (Pu.rn (Pu.map _ _ eNd_pu)) (RnC.cons (Pu.rn (Pu.map _ _ ePt_pu)) (RnC.cons (Pu.rn (.lit _)) (RnC.cons (Pu.rn (Pu.map _ _ eStr_pu)) (RnC.cons (Pu.rn (Pu.map _ _ eRow_pu)) (RnC.cons (Pu.rn (Pu.map _ _ eCore_pu)) (RnC.cons (Pu.rn (Pu.map _ _ eNd_pu)) (RnC.cons (Pu.rn (Pu.map _ _ eSet_pu)) (RnC.cons (Pu.rn (Pu.map _ _ ePair_pu)) (RnC.cons (Pu.rn (Pu.map _ _ eStep_pu)) (RnC.cons (Pu.rn (.lit _)) (RnC.cons (Pu.rn (.lit _)) RnC.nil))))))))))))))), (RnC.cons (Pu.rn (.lit _)) (RnC.cons (Pu.rn (.lit _)) (RnC.cons (Pu.rn (.lit _)) RnC.nil))), tstep1 c gl o i x hx hk2, line_frz _ rfl _ (stepNums x) (stepNums_ok hk) (by decide) (by rw [stepNums_len]; omega), binA_bs (by omega), binA_addN (a := i) (b := 1) (by omega), Rn.ptr _ _ (by decide), Pu.rn (.lit _), Pu.rn (.lit _), Pu.rn (.lit _), Pu.rn (.lit _), (RnC.cons (Pu.rn (.lit _)) (RnC.cons (Pu.rn (Pu.map _ _ eInt_pu)) (RnC.cons (Pu.rn (.lit _)) (RnC.cons (Pu.rn (Pu.map _ _ eNd_pu)) (RnC.cons (Pu.rn (Pu.map _ _ ePt_pu)) (RnC.cons (Pu.rn (.lit _)) (RnC.cons (Pu.rn (Pu.map _ _ eStr_pu)) (RnC.cons (Pu.rn (Pu.map _ _ eRow_pu)) (RnC.cons (Pu.rn (Pu.map _ _ eCore_pu)) (RnC.cons (Pu.rn (Pu.map _ _ eNd_pu)) (RnC.cons (Pu.rn (Pu.map _ _ eSet_pu)) (RnC.cons (Pu.rn (Pu.map _ _ ePair_pu)) (RnC.cons (Pu.rn (Pu.map _ _ eStep_pu)) (RnC.cons (Pu.rn (.lit _)) (RnC.cons (Pu.rn (.lit _)) RnC.nil))))))))))))))), trivial⟩
theorem tstep_e (c : Cert) (gl : Nat → Option (List Value)) (o : List UInt8) (i : Nat) (hi : c.steps.length ≤ i) :
  DoesC P 0 257 (loopAt P 36 6) (frameOf [(1, (.ptr 0 0)), (4, (.lit (.string (bs o)))), (5, (.lit (.string (bs ([]))))), (6, (.lit (.bool true))), (14, (.lit (.int .i64 ((i : Nat) : Int))))]) (heapOf 1 [(0, .cells (someAll c.cs) 0)] gl) (.exit 13)
    (frameOf [(1, (.ptr 0 0)), (4, (.lit (.string (bs o)))), (5, (.lit (.string (bs ([]))))), (6, (.lit (.bool true)))]) (heapOf 1 [(0, .cells (someAll c.cs) 0)] gl) :=
  pathR follows (n := 1000) (s := [.auto 3, .giv (.lit (.int .i64 ((c.steps.length : Nat) : Int))), .giv (.lit (.bool false)), .dec false])
    (obs := [builtinA P (Hp.mk 1 (treeOf [(0, .cells (someAll c.cs) 0)]) (treeOf [(0, [0])]) gl 1) .len #[37] 3 [(.frz 4 (List.map eStep c.steps))] = some (.val (.lit (.int .i64 ((c.steps.length : Nat) : Int))) (Hp.mk 1 (treeOf [(0, .cells (someAll c.cs) 0)]) (treeOf [(0, [0])]) gl 1)),
      binA P .lss 3 (.tmp 195) (.tmp 198) (.lit (.int .i64 ((i : Nat) : Int))) (.lit (.int .i64 ((c.steps.length : Nat) : Int))) = some (.lit (.bool false)),
      some (AV.lit (.bool false)) = some (.lit (.bool false)),
      Rn (nameF 0 []) 1 (.ptr 0 0) (.ptr 0 0),
      Rn (nameF 0 []) 1 (.lit (.string (bs o))) (.lit (.string (bs o))),
      Rn (nameF 0 []) 1 (.lit (.string (bs ([])))) (.lit (.string (bs ([])))),
      Rn (nameF 0 []) 1 (.lit (.bool true)) (.lit (.bool true)),
      RnO (nameF 0 []) 1 (.cells (someAll c.cs) 0) (.cells (someAll c.cs) 0)])
    (τ := []) (nx := 1) (l := [(1, (.ptr 0 0)), (4, (.lit (.string (bs o)))), (5, (.lit (.string (bs ([]))))), (6, (.lit (.bool true)))])
    (bs := [(0, .cells (someAll c.cs) 0)]) (by kernel_rfl) ⟨len_frz (by kernel_rfl), bin_b (c := decide ((((i : Nat) : Int) : Int) < ((c.steps.length : Nat) : Int))) (by kernel_rfl) (df (by omega)), rfl, Rn.ptr _ _ (by decide), Pu.rn (.lit _), Pu.rn (.lit _), Pu.rn (.lit _), (RnC.cons (Pu.rn (.lit _)) (RnC.cons (Pu.rn (Pu.map _ _ eInt_pu)) (RnC.cons (Pu.rn (.lit _)) (RnC.cons (Pu.rn (Pu.map _ _ eNd_pu)) (RnC.cons (Pu.rn (Pu.map _ _ ePt_pu)) (RnC.cons (Pu.rn (.lit _)) (RnC.cons (Pu.rn (Pu.map _ _ eStr_pu)) (RnC.cons (Pu.rn (Pu.map _ _ eRow_pu)) (RnC.cons (Pu.rn (Pu.map _ _ eCore_pu)) (RnC.cons (Pu.rn (Pu.map _ _ eNd_pu)) (RnC.cons (Pu.rn (Pu.map _ _ eSet_pu)) (RnC.cons (Pu.rn (Pu.map _ _ ePair_pu)) (RnC.cons (Pu.rn (Pu.map _ _ eStep_pu)) (RnC.cons (Pu.rn (.lit _)) (RnC.cons (Pu.rn (.lit _)) RnC.nil))))))))))))))), trivial⟩
theorem tstep (c : Cert) (gl : Nat → Option (List Value)) (o : List UInt8) (hN : c.steps.length ≤ 100000000) (hk : ∀ x ∈ c.steps, okStp x) (hk2 : ∀ x ∈ c.steps, 1 * x.from_.length ≤ 268435450) (ho : o.length + (List.flatMap (fun x => (lineOf [115, 116, 101, 112] (stepNums x))) c.steps).length ≤ 9223372036854775807) :
  DoesL P 0 257 (loopAt P 36 6) (frameOf [(1, (.ptr 0 0)), (4, (.lit (.string (bs o)))), (5, (.lit (.string (bs ([]))))), (6, (.lit (.bool true))), (14, (.lit (.int .i64 0)))]) (boxH c gl) (.exit 13) (frameOf [(1, (.ptr 0 0)), (4, (.lit (.string (bs (o ++ (List.flatMap (fun x => (lineOf [115, 116, 101, 112] (stepNums x))) c.steps)))))), (5, (.lit (.string (bs ([]))))), (6, (.lit (.bool true)))]) (boxH c gl) := by
  have h := loop_list (P := P) (K := 0) (nt := 257) (c := loopAt P 36 6) (xs := c.steps) (fun i => frameOf [(1, (.ptr 0 0)), (4, (.lit (.string (bs (o ++ (List.flatMap (fun x => (lineOf [115, 116, 101, 112] (stepNums x))) (List.take i c.steps))))))), (5, (.lit (.string (bs ([]))))), (6, (.lit (.bool true))), (14, (.lit (.int .i64 ((i : Nat) : Int))))]) (fun _ => boxH c gl) (e := .exit 13) (fr' := frameOf [(1, (.ptr 0 0)), (4, (.lit (.string (bs (o ++ (List.flatMap (fun x => (lineOf [115, 116, 101, 112] (stepNums x))) c.steps)))))), (5, (.lit (.string (bs ([]))))), (6, (.lit (.bool true)))]) (H' := boxH c gl) (fun i x hx => ?_) ?_ (by simp)
  · simp only [List.take_zero, List.flatMap_nil, List.append_nil] at h
    exact h
  · have e := take_flatMap_succ hx (fun x => (lineOf [115, 116, 101, 112] (stepNums x)))
    have hle := flatMap_take_le c.steps (i + 1) (fun x => (lineOf [115, 116, 101, 112] (stepNums x)))
    rw [e, List.length_append] at hle
    have r := tstep_r c gl (o ++ (List.flatMap (fun x => (lineOf [115, 116, 101, 112] (stepNums x))) (List.take i c.steps))) i x hx (at_lt hx) hN (hk x (at_mem hx)) (hk2 x (at_mem hx)) (by rw [List.length_append]; omega)
    rw [List.append_assoc, ← e] at r
    exact r
  · have r := tstep_e c gl (o ++ (List.flatMap (fun x => (lineOf [115, 116, 101, 112] (stepNums x))) c.steps)) c.steps.length (Nat.le_refl _)
    rw [List.take_length]
    exact r
end Go.Proofs.F
