/-
  Of the texts that prove drosslaw46.CertificateFormat: for every certificate of bulk at most 1048576 the law returns true, and the argument reads as before. Condition: the listed package-level variables hold what the program lays.
-/
import Derived.Test.YthgkipklofkoaaaGreatDoorC0
open Go Go.Proofs Go.Cam Go.RowKit
set_option maxRecDepth 1000000
namespace Go.Proofs.F

/-- A certificate in a box. -/
def boxH (c : Cert) (gl : Nat → Option (List Value)) : Hp := ⟨1, treeOf [(0, .cells (someAll c.cs) 0)], treeOf [(0, [0])], gl, 1⟩
theorem few0_round (c : Cert) (gl : Nat → Option (List Value)) (n i : Nat) (x : Nd) (hx : c.rproof[i]? = some x) (hi : i < c.rproof.length) (hn : n + (1 + x.shares.length) ≤ 1000000000000) (hl : c.rproof.length ≤ 1000000000000) :
  DoesC P 0 100 (loopAt P 11 0) (frameOf [(1, (.ptr 0 0)), (3, (.lit (.int .i64 ((n : Nat) : Int)))), (4, (.lit (.int .i64 ((i : Nat) : Int))))]) (boxH c gl) .normal
    (frameOf [(1, (.ptr 0 0)), (3, (.lit (.int .i64 ((n + 1 + x.shares.length : Nat) : Int)))), (4, (.lit (.int .i64 ((i + 1 : Nat) : Int))))]) (boxH c gl) :=
  path follows (n := 1000) (s := [.auto 4, .giv (.lit (.int .i64 ((c.rproof.length : Nat) : Int))), .giv (.lit (.bool true)), .dec true, .auto 1, .giv (.lit (.int .i64 ((n + 1 : Nat) : Int))), .auto 4, .giv (.frp [(.lit (.int .i64 x.vertex)), (.frz 2 (List.map ePt x.shares))]), .auto 2, .giv (.lit (.int .i64 ((x.shares.length : Nat) : Int))), .giv (.lit (.int .i64 ((n + 1 + x.shares.length : Nat) : Int))), .auto 2, .giv (.lit (.int .i64 ((i + 1 : Nat) : Int))), .auto 1])
    (obs := [builtinA P (boxH c gl) .len #[24] 3 [(.frz 2 (List.map eNd c.rproof))] = some (.val (.lit (.int .i64 ((c.rproof.length : Nat) : Int))) (boxH c gl)),
      binA P .lss 3 (.tmp 25) (.tmp 29) (.lit (.int .i64 ((i : Nat) : Int))) (.lit (.int .i64 ((c.rproof.length : Nat) : Int))) = some (.lit (.bool true)),
      some (AV.lit (.bool true)) = some (.lit (.bool true)),
      binA P .add 3 (.tmp 33) (.const (.int .i64 1)) (.lit (.int .i64 ((n : Nat) : Int))) (.lit (.int .i64 1)) = some (.lit (.int .i64 ((n + 1 : Nat) : Int))),
      indexAddrA P 24 (.frz 2 (List.map eNd c.rproof)) (.lit (.int .i64 ((i : Nat) : Int))) = some (.frp [(.lit (.int .i64 x.vertex)), (.frz 2 (List.map ePt x.shares))]),
      builtinA P (boxH c gl) .len #[106] 3 [(.frz 2 (List.map ePt x.shares))] = some (.val (.lit (.int .i64 ((x.shares.length : Nat) : Int))) (boxH c gl)),
      binA P .add 3 (.tmp 34) (.tmp 42) (.lit (.int .i64 ((n + 1 : Nat) : Int))) (.lit (.int .i64 ((x.shares.length : Nat) : Int))) = some (.lit (.int .i64 ((n + 1 + x.shares.length : Nat) : Int))),
      binA P .add 3 (.tmp 31) (.const (.int .i64 1)) (.lit (.int .i64 ((i : Nat) : Int))) (.lit (.int .i64 1)) = some (.lit (.int .i64 ((i + 1 : Nat) : Int)))])
    (ts := [1, 3, 4]) (by kernel_rfl) ⟨len_frz (by kernel_rfl), bin_b (c := decide ((((i : Nat) : Int) : Int) < ((c.rproof.length : Nat) : Int))) (by kernel_rfl) (dt (by omega)), rfl, binA_addN (a := n) (b := 1) (by omega), index_frz (n := i) (by kernel_rfl) hx, len_frz (by kernel_rfl), binA_addN (a := n + 1) (b := x.shares.length) (by omega), binA_addN (a := i) (b := 1) (by omega), trivial⟩
theorem few0_end (c : Cert) (gl : Nat → Option (List Value)) (n i : Nat) (hi : c.rproof.length ≤ i) :
  DoesC P 0 100 (loopAt P 11 0) (frameOf [(1, (.ptr 0 0)), (3, (.lit (.int .i64 ((n : Nat) : Int)))), (4, (.lit (.int .i64 ((i : Nat) : Int))))]) (boxH c gl) (.exit 0)
    (frameOf [(1, (.ptr 0 0)), (3, (.lit (.int .i64 ((n : Nat) : Int))))]) (boxH c gl) :=
  path follows (n := 1000) (s := [.auto 4, .giv (.lit (.int .i64 ((c.rproof.length : Nat) : Int))), .giv (.lit (.bool false)), .dec false])
    (obs := [builtinA P (boxH c gl) .len #[24] 3 [(.frz 2 (List.map eNd c.rproof))] = some (.val (.lit (.int .i64 ((c.rproof.length : Nat) : Int))) (boxH c gl)),
      binA P .lss 3 (.tmp 25) (.tmp 29) (.lit (.int .i64 ((i : Nat) : Int))) (.lit (.int .i64 ((c.rproof.length : Nat) : Int))) = some (.lit (.bool false)),
      some (AV.lit (.bool false)) = some (.lit (.bool false))])
    (ts := [1, 3]) (by kernel_rfl) ⟨len_frz (by kernel_rfl), bin_b (c := decide ((((i : Nat) : Int) : Int) < ((c.rproof.length : Nat) : Int))) (by kernel_rfl) (df (by omega)), rfl, trivial⟩
theorem few1_round (c : Cert) (gl : Nat → Option (List Value)) (n i : Nat) (x : Nd) (hx : c.uproof[i]? = some x) (hi : i < c.uproof.length) (hn : n + (1 + x.shares.length) ≤ 1000000000000) (hl : c.uproof.length ≤ 1000000000000) :
  DoesC P 0 100 (loopAt P 11 1) (frameOf [(1, (.ptr 0 0)), (3, (.lit (.int .i64 ((n : Nat) : Int)))), (5, (.lit (.int .i64 ((i : Nat) : Int))))]) (boxH c gl) .normal
    (frameOf [(1, (.ptr 0 0)), (3, (.lit (.int .i64 ((n + 1 + x.shares.length : Nat) : Int)))), (5, (.lit (.int .i64 ((i + 1 : Nat) : Int))))]) (boxH c gl) :=
  path follows (n := 1000) (s := [.auto 4, .giv (.lit (.int .i64 ((c.uproof.length : Nat) : Int))), .giv (.lit (.bool true)), .dec true, .auto 1, .giv (.lit (.int .i64 ((n + 1 : Nat) : Int))), .auto 4, .giv (.frp [(.lit (.int .i64 x.vertex)), (.frz 2 (List.map ePt x.shares))]), .auto 2, .giv (.lit (.int .i64 ((x.shares.length : Nat) : Int))), .giv (.lit (.int .i64 ((n + 1 + x.shares.length : Nat) : Int))), .auto 2, .giv (.lit (.int .i64 ((i + 1 : Nat) : Int))), .auto 1])
    (obs := [builtinA P (boxH c gl) .len #[24] 3 [(.frz 2 (List.map eNd c.uproof))] = some (.val (.lit (.int .i64 ((c.uproof.length : Nat) : Int))) (boxH c gl)),
      binA P .lss 3 (.tmp 44) (.tmp 48) (.lit (.int .i64 ((i : Nat) : Int))) (.lit (.int .i64 ((c.uproof.length : Nat) : Int))) = some (.lit (.bool true)),
      some (AV.lit (.bool true)) = some (.lit (.bool true)),
      binA P .add 3 (.tmp 52) (.const (.int .i64 1)) (.lit (.int .i64 ((n : Nat) : Int))) (.lit (.int .i64 1)) = some (.lit (.int .i64 ((n + 1 : Nat) : Int))),
      indexAddrA P 24 (.frz 2 (List.map eNd c.uproof)) (.lit (.int .i64 ((i : Nat) : Int))) = some (.frp [(.lit (.int .i64 x.vertex)), (.frz 2 (List.map ePt x.shares))]),
      builtinA P (boxH c gl) .len #[106] 3 [(.frz 2 (List.map ePt x.shares))] = some (.val (.lit (.int .i64 ((x.shares.length : Nat) : Int))) (boxH c gl)),
      binA P .add 3 (.tmp 53) (.tmp 61) (.lit (.int .i64 ((n + 1 : Nat) : Int))) (.lit (.int .i64 ((x.shares.length : Nat) : Int))) = some (.lit (.int .i64 ((n + 1 + x.shares.length : Nat) : Int))),
      binA P .add 3 (.tmp 50) (.const (.int .i64 1)) (.lit (.int .i64 ((i : Nat) : Int))) (.lit (.int .i64 1)) = some (.lit (.int .i64 ((i + 1 : Nat) : Int)))])
    (ts := [1, 3, 5]) (by kernel_rfl) ⟨len_frz (by kernel_rfl), bin_b (c := decide ((((i : Nat) : Int) : Int) < ((c.uproof.length : Nat) : Int))) (by kernel_rfl) (dt (by omega)), rfl, binA_addN (a := n) (b := 1) (by omega), index_frz (n := i) (by kernel_rfl) hx, len_frz (by kernel_rfl), binA_addN (a := n + 1) (b := x.shares.length) (by omega), binA_addN (a := i) (b := 1) (by omega), trivial⟩
theorem few1_end (c : Cert) (gl : Nat → Option (List Value)) (n i : Nat) (hi : c.uproof.length ≤ i) :
  DoesC P 0 100 (loopAt P 11 1) (frameOf [(1, (.ptr 0 0)), (3, (.lit (.int .i64 ((n : Nat) : Int)))), (5, (.lit (.int .i64 ((i : Nat) : Int))))]) (boxH c gl) (.exit 2)
    (frameOf [(1, (.ptr 0 0)), (3, (.lit (.int .i64 ((n : Nat) : Int))))]) (boxH c gl) :=
  path follows (n := 1000) (s := [.auto 4, .giv (.lit (.int .i64 ((c.uproof.length : Nat) : Int))), .giv (.lit (.bool false)), .dec false])
    (obs := [builtinA P (boxH c gl) .len #[24] 3 [(.frz 2 (List.map eNd c.uproof))] = some (.val (.lit (.int .i64 ((c.uproof.length : Nat) : Int))) (boxH c gl)),
      binA P .lss 3 (.tmp 44) (.tmp 48) (.lit (.int .i64 ((i : Nat) : Int))) (.lit (.int .i64 ((c.uproof.length : Nat) : Int))) = some (.lit (.bool false)),
      some (AV.lit (.bool false)) = some (.lit (.bool false))])
    (ts := [1, 3]) (by kernel_rfl) ⟨len_frz (by kernel_rfl), bin_b (c := decide ((((i : Nat) : Int) : Int) < ((c.uproof.length : Nat) : Int))) (by kernel_rfl) (df (by omega)), rfl, trivial⟩
theorem few2_round (c : Cert) (gl : Nat → Option (List Value)) (n i : Nat) (x : List (Int × Int)) (hx : c.cores[i]? = some x) (hi : i < c.cores.length) (hn : n + (1 + x.length) ≤ 1000000000000) (hl : c.cores.length ≤ 1000000000000) :
  DoesC P 0 100 (loopAt P 11 2) (frameOf [(1, (.ptr 0 0)), (3, (.lit (.int .i64 ((n : Nat) : Int)))), (6, (.lit (.int .i64 ((i : Nat) : Int))))]) (boxH c gl) .normal
    (frameOf [(1, (.ptr 0 0)), (3, (.lit (.int .i64 ((n + 1 + x.length : Nat) : Int)))), (6, (.lit (.int .i64 ((i + 1 : Nat) : Int))))]) (boxH c gl) :=
  path follows (n := 1000) (s := [.auto 4, .giv (.lit (.int .i64 ((c.cores.length : Nat) : Int))), .giv (.lit (.bool true)), .dec true, .auto 1, .giv (.lit (.int .i64 ((n + 1 : Nat) : Int))), .auto 4, .giv (.frp [(.frz 2 (List.map ePt x))]), .auto 1, .giv (.lit (.int .i64 ((x.length : Nat) : Int))), .giv (.lit (.int .i64 ((n + 1 + x.length : Nat) : Int))), .auto 2, .giv (.lit (.int .i64 ((i + 1 : Nat) : Int))), .auto 1])
    (obs := [builtinA P (boxH c gl) .len #[32] 3 [(.frz 1 (List.map eCore c.cores))] = some (.val (.lit (.int .i64 ((c.cores.length : Nat) : Int))) (boxH c gl)),
      binA P .lss 3 (.tmp 63) (.tmp 67) (.lit (.int .i64 ((i : Nat) : Int))) (.lit (.int .i64 ((c.cores.length : Nat) : Int))) = some (.lit (.bool true)),
      some (AV.lit (.bool true)) = some (.lit (.bool true)),
      binA P .add 3 (.tmp 71) (.const (.int .i64 1)) (.lit (.int .i64 ((n : Nat) : Int))) (.lit (.int .i64 1)) = some (.lit (.int .i64 ((n + 1 : Nat) : Int))),
      indexAddrA P 32 (.frz 1 (List.map eCore c.cores)) (.lit (.int .i64 ((i : Nat) : Int))) = some (.frp [(.frz 2 (List.map ePt x))]),
      builtinA P (boxH c gl) .len #[27] 3 [(.frz 2 (List.map ePt x))] = some (.val (.lit (.int .i64 ((x.length : Nat) : Int))) (boxH c gl)),
      binA P .add 3 (.tmp 72) (.tmp 79) (.lit (.int .i64 ((n + 1 : Nat) : Int))) (.lit (.int .i64 ((x.length : Nat) : Int))) = some (.lit (.int .i64 ((n + 1 + x.length : Nat) : Int))),
      binA P .add 3 (.tmp 69) (.const (.int .i64 1)) (.lit (.int .i64 ((i : Nat) : Int))) (.lit (.int .i64 1)) = some (.lit (.int .i64 ((i + 1 : Nat) : Int)))])
    (ts := [1, 3, 6]) (by kernel_rfl) ⟨len_frz (by kernel_rfl), bin_b (c := decide ((((i : Nat) : Int) : Int) < ((c.cores.length : Nat) : Int))) (by kernel_rfl) (dt (by omega)), rfl, binA_addN (a := n) (b := 1) (by omega), index_frz (n := i) (by kernel_rfl) hx, len_frz (by kernel_rfl), binA_addN (a := n + 1) (b := x.length) (by omega), binA_addN (a := i) (b := 1) (by omega), trivial⟩
theorem few2_end (c : Cert) (gl : Nat → Option (List Value)) (n i : Nat) (hi : c.cores.length ≤ i) :
  DoesC P 0 100 (loopAt P 11 2) (frameOf [(1, (.ptr 0 0)), (3, (.lit (.int .i64 ((n : Nat) : Int)))), (6, (.lit (.int .i64 ((i : Nat) : Int))))]) (boxH c gl) (.exit 4)
    (frameOf [(1, (.ptr 0 0)), (3, (.lit (.int .i64 ((n : Nat) : Int))))]) (boxH c gl) :=
  path follows (n := 1000) (s := [.auto 4, .giv (.lit (.int .i64 ((c.cores.length : Nat) : Int))), .giv (.lit (.bool false)), .dec false])
    (obs := [builtinA P (boxH c gl) .len #[32] 3 [(.frz 1 (List.map eCore c.cores))] = some (.val (.lit (.int .i64 ((c.cores.length : Nat) : Int))) (boxH c gl)),
      binA P .lss 3 (.tmp 63) (.tmp 67) (.lit (.int .i64 ((i : Nat) : Int))) (.lit (.int .i64 ((c.cores.length : Nat) : Int))) = some (.lit (.bool false)),
      some (AV.lit (.bool false)) = some (.lit (.bool false))])
    (ts := [1, 3]) (by kernel_rfl) ⟨len_frz (by kernel_rfl), bin_b (c := decide ((((i : Nat) : Int) : Int) < ((c.cores.length : Nat) : Int))) (by kernel_rfl) (df (by omega)), rfl, trivial⟩
theorem few3_round (c : Cert) (gl : Nat → Option (List Value)) (n i : Nat) (x : Stp) (hx : c.steps[i]? = some x) (hi : i < c.steps.length) (hn : n + (1 + x.from_.length) ≤ 1000000000000) (hl : c.steps.length ≤ 1000000000000) :
  DoesC P 0 100 (loopAt P 11 3) (frameOf [(1, (.ptr 0 0)), (3, (.lit (.int .i64 ((n : Nat) : Int)))), (7, (.lit (.int .i64 ((i : Nat) : Int))))]) (boxH c gl) .normal
    (frameOf [(1, (.ptr 0 0)), (3, (.lit (.int .i64 ((n + 1 + x.from_.length : Nat) : Int)))), (7, (.lit (.int .i64 ((i + 1 : Nat) : Int))))]) (boxH c gl) :=
  path follows (n := 1000) (s := [.auto 3, .giv (.lit (.int .i64 ((c.steps.length : Nat) : Int))), .giv (.lit (.bool true)), .dec true, .auto 1, .giv (.lit (.int .i64 ((n + 1 : Nat) : Int))), .auto 3, .giv (.frp [(.lit (.int .i64 x.rule)), (.frz 1 (List.map eInt x.from_)), (.lit (.int .u32 x.lhs)), (.lit (.int .u32 x.rhs))]), .auto 2, .giv (.lit (.int .i64 ((x.from_.length : Nat) : Int))), .giv (.lit (.int .i64 ((n + 1 + x.from_.length : Nat) : Int))), .auto 2, .giv (.lit (.int .i64 ((i + 1 : Nat) : Int))), .auto 1])
    (obs := [builtinA P (boxH c gl) .len #[37] 3 [(.frz 4 (List.map eStep c.steps))] = some (.val (.lit (.int .i64 ((c.steps.length : Nat) : Int))) (boxH c gl)),
      binA P .lss 3 (.tmp 81) (.tmp 84) (.lit (.int .i64 ((i : Nat) : Int))) (.lit (.int .i64 ((c.steps.length : Nat) : Int))) = some (.lit (.bool true)),
      some (AV.lit (.bool true)) = some (.lit (.bool true)),
      binA P .add 3 (.tmp 88) (.const (.int .i64 1)) (.lit (.int .i64 ((n : Nat) : Int))) (.lit (.int .i64 1)) = some (.lit (.int .i64 ((n + 1 : Nat) : Int))),
      indexAddrA P 37 (.frz 4 (List.map eStep c.steps)) (.lit (.int .i64 ((i : Nat) : Int))) = some (.frp [(.lit (.int .i64 x.rule)), (.frz 1 (List.map eInt x.from_)), (.lit (.int .u32 x.lhs)), (.lit (.int .u32 x.rhs))]),
      builtinA P (boxH c gl) .len #[62] 3 [(.frz 1 (List.map eInt x.from_))] = some (.val (.lit (.int .i64 ((x.from_.length : Nat) : Int))) (boxH c gl)),
      binA P .add 3 (.tmp 89) (.tmp 96) (.lit (.int .i64 ((n + 1 : Nat) : Int))) (.lit (.int .i64 ((x.from_.length : Nat) : Int))) = some (.lit (.int .i64 ((n + 1 + x.from_.length : Nat) : Int))),
      binA P .add 3 (.tmp 86) (.const (.int .i64 1)) (.lit (.int .i64 ((i : Nat) : Int))) (.lit (.int .i64 1)) = some (.lit (.int .i64 ((i + 1 : Nat) : Int)))])
    (ts := [1, 3, 7]) (by kernel_rfl) ⟨len_frz (by kernel_rfl), bin_b (c := decide ((((i : Nat) : Int) : Int) < ((c.steps.length : Nat) : Int))) (by kernel_rfl) (dt (by omega)), rfl, binA_addN (a := n) (b := 1) (by omega), index_frz (n := i) (by kernel_rfl) hx, len_frz (by kernel_rfl), binA_addN (a := n + 1) (b := x.from_.length) (by omega), binA_addN (a := i) (b := 1) (by omega), trivial⟩
theorem few3_end (c : Cert) (gl : Nat → Option (List Value)) (n i : Nat) (hi : c.steps.length ≤ i) :
  DoesC P 0 100 (loopAt P 11 3) (frameOf [(1, (.ptr 0 0)), (3, (.lit (.int .i64 ((n : Nat) : Int)))), (7, (.lit (.int .i64 ((i : Nat) : Int))))]) (boxH c gl) (.exit 6)
    (frameOf [(1, (.ptr 0 0)), (3, (.lit (.int .i64 ((n : Nat) : Int))))]) (boxH c gl) :=
  path follows (n := 1000) (s := [.auto 3, .giv (.lit (.int .i64 ((c.steps.length : Nat) : Int))), .giv (.lit (.bool false)), .dec false])
    (obs := [builtinA P (boxH c gl) .len #[37] 3 [(.frz 4 (List.map eStep c.steps))] = some (.val (.lit (.int .i64 ((c.steps.length : Nat) : Int))) (boxH c gl)),
      binA P .lss 3 (.tmp 81) (.tmp 84) (.lit (.int .i64 ((i : Nat) : Int))) (.lit (.int .i64 ((c.steps.length : Nat) : Int))) = some (.lit (.bool false)),
      some (AV.lit (.bool false)) = some (.lit (.bool false))])
    (ts := [1, 3]) (by kernel_rfl) ⟨len_frz (by kernel_rfl), bin_b (c := decide ((((i : Nat) : Int) : Int) < ((c.steps.length : Nat) : Int))) (by kernel_rfl) (df (by omega)), rfl, trivial⟩
theorem few0_loop (c : Cert) (gl : Nat → Option (List Value)) (n : Nat) (hn : n + (List.map (fun x => 1 + x.shares.length) c.rproof).sum ≤ 1000000000000) :
  DoesL P 0 100 (loopAt P 11 0) (frameOf [(1, (.ptr 0 0)), (3, (.lit (.int .i64 ((n : Nat) : Int)))), (4, (.lit (.int .i64 0)))]) (boxH c gl) (.exit 0) (frameOf [(1, (.ptr 0 0)), (3, (.lit (.int .i64 ((n + (List.map (fun x => 1 + x.shares.length) c.rproof).sum : Nat) : Int))))]) (boxH c gl) := by
  have hL := len_le_sum (fun x => 1 + x.shares.length) (by intro x; omega) c.rproof
  have h := loop_list (P := P) (K := 0) (nt := 100) (c := loopAt P 11 0) (xs := c.rproof) (fun i => frameOf [(1, (.ptr 0 0)), (3, (.lit (.int .i64 ((n + (List.map (fun x => 1 + x.shares.length) (List.take i c.rproof)).sum : Nat) : Int)))), (4, (.lit (.int .i64 ((i : Nat) : Int))))]) (fun _ => boxH c gl) (e := .exit 0) (fr' := frameOf [(1, (.ptr 0 0)), (3, (.lit (.int .i64 ((n + (List.map (fun x => 1 + x.shares.length) c.rproof).sum : Nat) : Int))))]) (H' := boxH c gl) (fun i x hx => ?_) ?_ (by simp)
  · simpa using h
  · have hs := at_le_sum hx (fun x => 1 + x.shares.length)
    have hi := at_lt hx
    have r := few0_round c gl (n + (List.map (fun x => 1 + x.shares.length) (List.take i c.rproof)).sum) i x hx hi (by omega) (by omega)
    have e : n + (List.map (fun x => 1 + x.shares.length) (List.take (i + 1) c.rproof)).sum = n + (List.map (fun x => 1 + x.shares.length) (List.take i c.rproof)).sum + 1 + x.shares.length := by rw [take_sum_succ hx]; omega
    rw [e]
    exact r
  · have r := few0_end c gl (n + (List.map (fun x => 1 + x.shares.length) c.rproof).sum) c.rproof.length (Nat.le_refl _)
    rw [List.take_length]
    exact r
theorem few1_loop (c : Cert) (gl : Nat → Option (List Value)) (n : Nat) (hn : n + (List.map (fun x => 1 + x.shares.length) c.uproof).sum ≤ 1000000000000) :
  DoesL P 0 100 (loopAt P 11 1) (frameOf [(1, (.ptr 0 0)), (3, (.lit (.int .i64 ((n : Nat) : Int)))), (5, (.lit (.int .i64 0)))]) (boxH c gl) (.exit 2) (frameOf [(1, (.ptr 0 0)), (3, (.lit (.int .i64 ((n + (List.map (fun x => 1 + x.shares.length) c.uproof).sum : Nat) : Int))))]) (boxH c gl) := by
  have hL := len_le_sum (fun x => 1 + x.shares.length) (by intro x; omega) c.uproof
  have h := loop_list (P := P) (K := 0) (nt := 100) (c := loopAt P 11 1) (xs := c.uproof) (fun i => frameOf [(1, (.ptr 0 0)), (3, (.lit (.int .i64 ((n + (List.map (fun x => 1 + x.shares.length) (List.take i c.uproof)).sum : Nat) : Int)))), (5, (.lit (.int .i64 ((i : Nat) : Int))))]) (fun _ => boxH c gl) (e := .exit 2) (fr' := frameOf [(1, (.ptr 0 0)), (3, (.lit (.int .i64 ((n + (List.map (fun x => 1 + x.shares.length) c.uproof).sum : Nat) : Int))))]) (H' := boxH c gl) (fun i x hx => ?_) ?_ (by simp)
  · simpa using h
  · have hs := at_le_sum hx (fun x => 1 + x.shares.length)
    have hi := at_lt hx
    have r := few1_round c gl (n + (List.map (fun x => 1 + x.shares.length) (List.take i c.uproof)).sum) i x hx hi (by omega) (by omega)
    have e : n + (List.map (fun x => 1 + x.shares.length) (List.take (i + 1) c.uproof)).sum = n + (List.map (fun x => 1 + x.shares.length) (List.take i c.uproof)).sum + 1 + x.shares.length := by rw [take_sum_succ hx]; omega
    rw [e]
    exact r
  · have r := few1_end c gl (n + (List.map (fun x => 1 + x.shares.length) c.uproof).sum) c.uproof.length (Nat.le_refl _)
    rw [List.take_length]
    exact r
theorem few2_loop (c : Cert) (gl : Nat → Option (List Value)) (n : Nat) (hn : n + (List.map (fun x => 1 + x.length) c.cores).sum ≤ 1000000000000) :
  DoesL P 0 100 (loopAt P 11 2) (frameOf [(1, (.ptr 0 0)), (3, (.lit (.int .i64 ((n : Nat) : Int)))), (6, (.lit (.int .i64 0)))]) (boxH c gl) (.exit 4) (frameOf [(1, (.ptr 0 0)), (3, (.lit (.int .i64 ((n + (List.map (fun x => 1 + x.length) c.cores).sum : Nat) : Int))))]) (boxH c gl) := by
  have hL := len_le_sum (fun x => 1 + x.length) (by intro x; omega) c.cores
  have h := loop_list (P := P) (K := 0) (nt := 100) (c := loopAt P 11 2) (xs := c.cores) (fun i => frameOf [(1, (.ptr 0 0)), (3, (.lit (.int .i64 ((n + (List.map (fun x => 1 + x.length) (List.take i c.cores)).sum : Nat) : Int)))), (6, (.lit (.int .i64 ((i : Nat) : Int))))]) (fun _ => boxH c gl) (e := .exit 4) (fr' := frameOf [(1, (.ptr 0 0)), (3, (.lit (.int .i64 ((n + (List.map (fun x => 1 + x.length) c.cores).sum : Nat) : Int))))]) (H' := boxH c gl) (fun i x hx => ?_) ?_ (by simp)
  · simpa using h
  · have hs := at_le_sum hx (fun x => 1 + x.length)
    have hi := at_lt hx
    have r := few2_round c gl (n + (List.map (fun x => 1 + x.length) (List.take i c.cores)).sum) i x hx hi (by omega) (by omega)
    have e : n + (List.map (fun x => 1 + x.length) (List.take (i + 1) c.cores)).sum = n + (List.map (fun x => 1 + x.length) (List.take i c.cores)).sum + 1 + x.length := by rw [take_sum_succ hx]; omega
    rw [e]
    exact r
  · have r := few2_end c gl (n + (List.map (fun x => 1 + x.length) c.cores).sum) c.cores.length (Nat.le_refl _)
    rw [List.take_length]
    exact r
theorem few3_loop (c : Cert) (gl : Nat → Option (List Value)) (n : Nat) (hn : n + (List.map (fun x => 1 + x.from_.length) c.steps).sum ≤ 1000000000000) :
  DoesL P 0 100 (loopAt P 11 3) (frameOf [(1, (.ptr 0 0)), (3, (.lit (.int .i64 ((n : Nat) : Int)))), (7, (.lit (.int .i64 0)))]) (boxH c gl) (.exit 6) (frameOf [(1, (.ptr 0 0)), (3, (.lit (.int .i64 ((n + (List.map (fun x => 1 + x.from_.length) c.steps).sum : Nat) : Int))))]) (boxH c gl) := by
  have hL := len_le_sum (fun x => 1 + x.from_.length) (by intro x; omega) c.steps
  have h := loop_list (P := P) (K := 0) (nt := 100) (c := loopAt P 11 3) (xs := c.steps) (fun i => frameOf [(1, (.ptr 0 0)), (3, (.lit (.int .i64 ((n + (List.map (fun x => 1 + x.from_.length) (List.take i c.steps)).sum : Nat) : Int)))), (7, (.lit (.int .i64 ((i : Nat) : Int))))]) (fun _ => boxH c gl) (e := .exit 6) (fr' := frameOf [(1, (.ptr 0 0)), (3, (.lit (.int .i64 ((n + (List.map (fun x => 1 + x.from_.length) c.steps).sum : Nat) : Int))))]) (H' := boxH c gl) (fun i x hx => ?_) ?_ (by simp)
  · simpa using h
  · have hs := at_le_sum hx (fun x => 1 + x.from_.length)
    have hi := at_lt hx
    have r := few3_round c gl (n + (List.map (fun x => 1 + x.from_.length) (List.take i c.steps)).sum) i x hx hi (by omega) (by omega)
    have e : n + (List.map (fun x => 1 + x.from_.length) (List.take (i + 1) c.steps)).sum = n + (List.map (fun x => 1 + x.from_.length) (List.take i c.steps)).sum + 1 + x.from_.length := by rw [take_sum_succ hx]; omega
    rw [e]
    exact r
  · have r := few3_end c gl (n + (List.map (fun x => 1 + x.from_.length) c.steps).sum) c.steps.length (Nat.le_refl _)
    rw [List.take_length]
    exact r
theorem few_run (c : Cert) (gl : Nat → Option (List Value)) (hn : c.deleted.length + c.cells.length + c.sets.length + c.pairs.length + (List.map (fun x => 1 + x.shares.length) c.rproof).sum + (List.map (fun x => 1 + x.shares.length) c.uproof).sum + (List.map (fun x => 1 + x.length) c.cores).sum + (List.map (fun x => 1 + x.from_.length) c.steps).sum ≤ 1000000000000) :
  Does P 11 [(.agg c.cs)] (heapOf 0 [] gl) (.lit (.bool (decide ((((c.deleted.length + c.cells.length + c.sets.length + c.pairs.length + (List.map (fun x => 1 + x.shares.length) c.rproof).sum + (List.map (fun x => 1 + x.shares.length) c.uproof).sum + (List.map (fun x => 1 + x.length) c.cores).sum + (List.map (fun x => 1 + x.from_.length) c.steps).sum : Nat) : Int) : Int) ≤ 600)))) (boxH c gl) := by
  have h0 : c.deleted.length + c.cells.length + c.sets.length + c.pairs.length ≤ 1000000000000 := by omega
  exact does follows (n := 1000) (s := [.auto 5, .giv (.lit (.int .i64 ((c.deleted.length : Nat) : Int))), .auto 3, .giv (.lit (.int .i64 ((c.cells.length : Nat) : Int))), .giv (.lit (.int .i64 ((c.deleted.length + c.cells.length : Nat) : Int))), .auto 2, .giv (.lit (.int .i64 ((c.sets.length : Nat) : Int))), .giv (.lit (.int .i64 ((c.deleted.length + c.cells.length + c.sets.length : Nat) : Int))), .auto 2, .giv (.lit (.int .i64 ((c.pairs.length : Nat) : Int))), .giv (.lit (.int .i64 ((c.deleted.length + c.cells.length + c.sets.length + c.pairs.length : Nat) : Int))), .auto 2, .loop0 [1, 3, 4] (.exit 0) (frameOf [(1, (.ptr 0 0)), (3, (.lit (.int .i64 ((c.deleted.length + c.cells.length + c.sets.length + c.pairs.length + (List.map (fun x => 1 + x.shares.length) c.rproof).sum : Nat) : Int))))]) (boxH c gl), .auto 1, .loop0 [1, 3, 5] (.exit 2) (frameOf [(1, (.ptr 0 0)), (3, (.lit (.int .i64 ((c.deleted.length + c.cells.length + c.sets.length + c.pairs.length + (List.map (fun x => 1 + x.shares.length) c.rproof).sum + (List.map (fun x => 1 + x.shares.length) c.uproof).sum : Nat) : Int))))]) (boxH c gl), .auto 1, .loop0 [1, 3, 6] (.exit 4) (frameOf [(1, (.ptr 0 0)), (3, (.lit (.int .i64 ((c.deleted.length + c.cells.length + c.sets.length + c.pairs.length + (List.map (fun x => 1 + x.shares.length) c.rproof).sum + (List.map (fun x => 1 + x.shares.length) c.uproof).sum + (List.map (fun x => 1 + x.length) c.cores).sum : Nat) : Int))))]) (boxH c gl), .auto 1, .loop0 [1, 3, 7] (.exit 6) (frameOf [(1, (.ptr 0 0)), (3, (.lit (.int .i64 ((c.deleted.length + c.cells.length + c.sets.length + c.pairs.length + (List.map (fun x => 1 + x.shares.length) c.rproof).sum + (List.map (fun x => 1 + x.shares.length) c.uproof).sum + (List.map (fun x => 1 + x.length) c.cores).sum + (List.map (fun x => 1 + x.from_.length) c.steps).sum : Nat) : Int))))]) (boxH c gl), .auto 3]) rfl
    (obs := [builtinA P (boxH c gl) .len #[23] 3 [(.frz 1 (List.map eInt c.deleted))] = some (.val (.lit (.int .i64 ((c.deleted.length : Nat) : Int))) (boxH c gl)),
      builtinA P (boxH c gl) .len #[27] 3 [(.frz 2 (List.map ePt c.cells))] = some (.val (.lit (.int .i64 ((c.cells.length : Nat) : Int))) (boxH c gl)),
      binA P .add 3 (.tmp 11) (.tmp 15) (.lit (.int .i64 ((c.deleted.length : Nat) : Int))) (.lit (.int .i64 ((c.cells.length : Nat) : Int))) = some (.lit (.int .i64 ((c.deleted.length + c.cells.length : Nat) : Int))),
      builtinA P (boxH c gl) .len #[35] 3 [(.frz 1 (List.map eSet c.sets))] = some (.val (.lit (.int .i64 ((c.sets.length : Nat) : Int))) (boxH c gl)),
      binA P .add 3 (.tmp 16) (.tmp 19) (.lit (.int .i64 ((c.deleted.length + c.cells.length : Nat) : Int))) (.lit (.int .i64 ((c.sets.length : Nat) : Int))) = some (.lit (.int .i64 ((c.deleted.length + c.cells.length + c.sets.length : Nat) : Int))),
      builtinA P (boxH c gl) .len #[36] 3 [(.frz 3 (List.map ePair c.pairs))] = some (.val (.lit (.int .i64 ((c.pairs.length : Nat) : Int))) (boxH c gl)),
      binA P .add 3 (.tmp 20) (.tmp 23) (.lit (.int .i64 ((c.deleted.length + c.cells.length + c.sets.length : Nat) : Int))) (.lit (.int .i64 ((c.pairs.length : Nat) : Int))) = some (.lit (.int .i64 ((c.deleted.length + c.cells.length + c.sets.length + c.pairs.length : Nat) : Int))),
      DoesL P 0 100 (loopAt P 11 0) (frameOf [(1, (.ptr 0 0)), (3, (.lit (.int .i64 ((c.deleted.length + c.cells.length + c.sets.length + c.pairs.length : Nat) : Int)))), (4, (.lit (.int .i64 0)))]) (boxH c gl) (.exit 0) (frameOf [(1, (.ptr 0 0)), (3, (.lit (.int .i64 ((c.deleted.length + c.cells.length + c.sets.length + c.pairs.length + (List.map (fun x => 1 + x.shares.length) c.rproof).sum : Nat) : Int))))]) (boxH c gl),
      DoesL P 0 100 (loopAt P 11 1) (frameOf [(1, (.ptr 0 0)), (3, (.lit (.int .i64 ((c.deleted.length + c.cells.length + c.sets.length + c.pairs.length + (List.map (fun x => 1 + x.shares.length) c.rproof).sum : Nat) : Int)))), (5, (.lit (.int .i64 0)))]) (boxH c gl) (.exit 2) (frameOf [(1, (.ptr 0 0)), (3, (.lit (.int .i64 ((c.deleted.length + c.cells.length + c.sets.length + c.pairs.length + (List.map (fun x => 1 + x.shares.length) c.rproof).sum + (List.map (fun x => 1 + x.shares.length) c.uproof).sum : Nat) : Int))))]) (boxH c gl),
      DoesL P 0 100 (loopAt P 11 2) (frameOf [(1, (.ptr 0 0)), (3, (.lit (.int .i64 ((c.deleted.length + c.cells.length + c.sets.length + c.pairs.length + (List.map (fun x => 1 + x.shares.length) c.rproof).sum + (List.map (fun x => 1 + x.shares.length) c.uproof).sum : Nat) : Int)))), (6, (.lit (.int .i64 0)))]) (boxH c gl) (.exit 4) (frameOf [(1, (.ptr 0 0)), (3, (.lit (.int .i64 ((c.deleted.length + c.cells.length + c.sets.length + c.pairs.length + (List.map (fun x => 1 + x.shares.length) c.rproof).sum + (List.map (fun x => 1 + x.shares.length) c.uproof).sum + (List.map (fun x => 1 + x.length) c.cores).sum : Nat) : Int))))]) (boxH c gl),
      DoesL P 0 100 (loopAt P 11 3) (frameOf [(1, (.ptr 0 0)), (3, (.lit (.int .i64 ((c.deleted.length + c.cells.length + c.sets.length + c.pairs.length + (List.map (fun x => 1 + x.shares.length) c.rproof).sum + (List.map (fun x => 1 + x.shares.length) c.uproof).sum + (List.map (fun x => 1 + x.length) c.cores).sum : Nat) : Int)))), (7, (.lit (.int .i64 0)))]) (boxH c gl) (.exit 6) (frameOf [(1, (.ptr 0 0)), (3, (.lit (.int .i64 ((c.deleted.length + c.cells.length + c.sets.length + c.pairs.length + (List.map (fun x => 1 + x.shares.length) c.rproof).sum + (List.map (fun x => 1 + x.shares.length) c.uproof).sum + (List.map (fun x => 1 + x.length) c.cores).sum + (List.map (fun x => 1 + x.from_.length) c.steps).sum : Nat) : Int))))]) (boxH c gl)])
    (by kernel_rfl) ⟨len_frz (by kernel_rfl), len_frz (by kernel_rfl), binA_addN (a := c.deleted.length) (b := c.cells.length) (by omega), len_frz (by kernel_rfl), binA_addN (a := c.deleted.length + c.cells.length) (b := c.sets.length) (by omega), len_frz (by kernel_rfl), binA_addN (a := c.deleted.length + c.cells.length + c.sets.length) (b := c.pairs.length) (by omega), few0_loop c gl _ (by omega), few1_loop c gl _ (by omega), few2_loop c gl _ (by omega), few3_loop c gl _ (by omega), trivial⟩
theorem few_does (c : Cert) (H : Hp) (hn : c.parts ≤ 1000000000000) : Does P 11 [.agg c.cs] H (.lit (.bool (decide (c.parts ≤ 600)))) H := by
  have h := Does.liftP (H := H) (few_run c H.gl hn) (pus_get (.cons c.pu .nil)) (.lit _)
  have e : decide (c.parts ≤ 600) = decide (((c.deleted.length + c.cells.length + c.sets.length + c.pairs.length + (List.map (fun x => 1 + x.shares.length) c.rproof).sum + (List.map (fun x => 1 + x.shares.length) c.uproof).sum + (List.map (fun x => 1 + x.length) c.cores).sum + (List.map (fun x => 1 + x.from_.length) c.steps).sum : Nat) : Int) ≤ 600) := by
    unfold Cert.parts
    rw [decide_eq_decide]
    omega
  rw [e]
  exact h
end Go.Proofs.F
