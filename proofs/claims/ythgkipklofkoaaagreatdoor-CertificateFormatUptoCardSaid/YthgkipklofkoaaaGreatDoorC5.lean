/-
  Of the texts that prove drosslaw46.CertificateFormat: for every certificate of bulk at most 1048576 the law returns true, and the argument reads as before. Condition: the listed package-level variables hold what the program lays.
-/
import Derived.Test.YthgkipklofkoaaaGreatDoorC4
open Go Go.Proofs Go.Cam Go.RowKit
set_option maxRecDepth 1000000
namespace Go.Proofs.F

theorem rnodes1_r0 (gl : Nat → Option (List Value)) (ns : List Nd) (o : List UInt8) (j : Nat) (d : Nd) (hd : ns[j]? = some d)  (x : Int × Int) (hx : d.shares[0]? = some x) (hi : 0 < d.shares.length) (hL : 2 * d.shares.length ≤ 268435450) :
  DoesC P 0 80 (loopAt P 61 1) (frameOf [(0, (.frz 2 (List.map eNd ns))), (4, (.lit (.string (bs o)))), (5, (.lit (.int .i64 ((j : Nat) : Int)))), (6, (.lit (.slice none 0 0))), (7, (.lit (.int .i64 0)))]) (heapOf 0 [] gl) .normal
    (frameOf [(0, (.frz 2 (List.map eNd ns))), (4, (.lit (.string (bs o)))), (5, (.lit (.int .i64 ((j : Nat) : Int)))), (6, (.slice 0 0 2 1 none)), (7, (.lit (.int .i64 1)))]) (heapOf 1 [(0, .cells [some (.lit (.int .i64 x.1)), some (.lit (.int .i64 x.2))] 0)] gl) :=
  pathR follows (n := 1000) (s := [.auto 3, .giv (.frp [(.lit (.int .i64 d.vertex)), (.frz 2 (List.map ePt d.shares))]), .auto 2, .giv (.lit (.int .i64 ((d.shares.length : Nat) : Int))), .giv (.lit (.bool true)), .dec true, .auto 3, .giv (.frp [(.lit (.int .i64 d.vertex)), (.frz 2 (List.map ePt d.shares))]), .auto 3, .giv (.frp [(.lit (.int .i64 x.1)), (.lit (.int .i64 x.2))]), .auto 4, .giv (.frp [(.lit (.int .i64 d.vertex)), (.frz 2 (List.map ePt d.shares))]), .auto 3, .giv (.frp [(.lit (.int .i64 x.1)), (.lit (.int .i64 x.2))]), .auto 8])
    (obs := [indexAddrA P 24 (.frz 2 (List.map eNd ns)) (.lit (.int .i64 ((j : Nat) : Int))) = some (.frp [(.lit (.int .i64 d.vertex)), (.frz 2 (List.map ePt d.shares))]),
      builtinA P (Hp.mk 0 (treeOf []) (treeOf []) gl 1) .len #[106] 3 [(.frz 2 (List.map ePt d.shares))] = some (.val (.lit (.int .i64 ((d.shares.length : Nat) : Int))) (Hp.mk 0 (treeOf []) (treeOf []) gl 1)),
      binA P .lss 3 (.tmp 44) (.tmp 50) (.lit (.int .i64 0)) (.lit (.int .i64 ((d.shares.length : Nat) : Int))) = some (.lit (.bool true)),
      some (AV.lit (.bool true)) = some (.lit (.bool true)),
      indexAddrA P 24 (.frz 2 (List.map eNd ns)) (.lit (.int .i64 ((j : Nat) : Int))) = some (.frp [(.lit (.int .i64 d.vertex)), (.frz 2 (List.map ePt d.shares))]),
      indexAddrA P 106 (.frz 2 (List.map ePt d.shares)) (.lit (.int .i64 0)) = some (.frp [(.lit (.int .i64 x.1)), (.lit (.int .i64 x.2))]),
      indexAddrA P 24 (.frz 2 (List.map eNd ns)) (.lit (.int .i64 ((j : Nat) : Int))) = some (.frp [(.lit (.int .i64 d.vertex)), (.frz 2 (List.map ePt d.shares))]),
      indexAddrA P 106 (.frz 2 (List.map ePt d.shares)) (.lit (.int .i64 0)) = some (.frp [(.lit (.int .i64 x.1)), (.lit (.int .i64 x.2))]),
      Rn (nameF 0 [(0, 22)]) 1 (.frz 2 (List.map eNd ns)) (.frz 2 (List.map eNd ns)),
      Rn (nameF 0 [(0, 22)]) 1 (.lit (.string (bs o))) (.lit (.string (bs o))),
      Rn (nameF 0 [(0, 22)]) 1 (.lit (.int .i64 ((j : Nat) : Int))) (.lit (.int .i64 ((j : Nat) : Int))),
      Rn (nameF 0 [(0, 22)]) 1 (.slice 0 0 2 1 none) (.slice 22 0 2 1 none),
      Rn (nameF 0 [(0, 22)]) 1 (.lit (.int .i64 1)) (.lit (.int .i64 1)),
      RnO (nameF 0 [(0, 22)]) 1 (.cells [some (.lit (.int .i64 x.1)), some (.lit (.int .i64 x.2))] 0) (.cells [some (.lit (.int .i64 x.1)), some (.lit (.int .i64 x.2))] 22)])
    (τ := [(0, 22)]) (nx := 1) (l := [(0, (.frz 2 (List.map eNd ns))), (4, (.lit (.string (bs o)))), (5, (.lit (.int .i64 ((j : Nat) : Int)))), (6, (.slice 0 0 2 1 none)), (7, (.lit (.int .i64 1)))])
    (bs := [(0, .cells [some (.lit (.int .i64 x.1)), some (.lit (.int .i64 x.2))] 0)]) (by kernel_rfl) ⟨index_frz (n := j) (by kernel_rfl) hd, len_frz (by kernel_rfl), bin_b (c := decide ((0 : Int) < ((d.shares.length : Nat) : Int))) (by kernel_rfl) (dt (by omega)), rfl, index_frz (n := j) (by kernel_rfl) hd, index_frz (n := 0) (by kernel_rfl) hx, index_frz (n := j) (by kernel_rfl) hd, index_frz (n := 0) (by kernel_rfl) hx, Pu.rn (Pu.map _ _ eNd_pu), Pu.rn (.lit _), Pu.rn (.lit _), Rn.slice _ _ _ _ _ (by decide), Pu.rn (.lit _), (RnC.cons (Pu.rn (.lit _)) (RnC.cons (Pu.rn (.lit _)) RnC.nil)), trivial⟩
theorem rnodes1_r (gl : Nat → Option (List Value)) (ns : List Nd) (o : List UInt8) (j : Nat) (d : Nd) (hd : ns[j]? = some d)  (i n : Nat) (L : List Int) (hn : n = L.length) (x : Int × Int) (hx : d.shares[i]? = some x) (hi : i < d.shares.length) (hf : n + 2 ≤ 268435456) (hL : 2 * d.shares.length ≤ 268435450) :
  DoesC P 0 80 (loopAt P 61 1) (frameOf [(0, (.frz 2 (List.map eNd ns))), (4, (.lit (.string (bs o)))), (5, (.lit (.int .i64 ((j : Nat) : Int)))), (6, (.slice 0 0 n 1 none)), (7, (.lit (.int .i64 ((i : Nat) : Int))))]) (heapOf 1 [(0, .cells (rowc eInt L) 0)] gl) .normal
    (frameOf [(0, (.frz 2 (List.map eNd ns))), (4, (.lit (.string (bs o)))), (5, (.lit (.int .i64 ((j : Nat) : Int)))), (6, (.slice 0 0 (n + 2) 1 none)), (7, (.lit (.int .i64 ((i + 1 : Nat) : Int))))]) (heapOf 1 [(0, .cells (rowc eInt (L ++ [x.1, x.2])) 0)] gl) :=
  pathR follows (n := 1000) (s := [.auto 3, .giv (.frp [(.lit (.int .i64 d.vertex)), (.frz 2 (List.map ePt d.shares))]), .auto 2, .giv (.lit (.int .i64 ((d.shares.length : Nat) : Int))), .giv (.lit (.bool true)), .dec true, .auto 3, .giv (.frp [(.lit (.int .i64 d.vertex)), (.frz 2 (List.map ePt d.shares))]), .auto 3, .giv (.frp [(.lit (.int .i64 x.1)), (.lit (.int .i64 x.2))]), .auto 4, .giv (.frp [(.lit (.int .i64 d.vertex)), (.frz 2 (List.map ePt d.shares))]), .auto 3, .giv (.frp [(.lit (.int .i64 x.1)), (.lit (.int .i64 x.2))]), .auto 3, .givH (.slice 23 0 (n + 2) 1 none) (Hp.mk 24 (treeOf [(0, .cells (rowc eInt L) 0), (20, .cells [some (.lit (.int .i64 x.1)), some (.lit (.int .i64 x.2))] 20), (23, .cells (rowc eInt (L ++ [x.1, x.2])) 0)]) (treeOf [(0, [23, 0]), (20, [20])]) gl 1), .auto 2, .giv (.lit (.int .i64 ((i + 1 : Nat) : Int))), .auto 1])
    (obs := [indexAddrA P 24 (.frz 2 (List.map eNd ns)) (.lit (.int .i64 ((j : Nat) : Int))) = some (.frp [(.lit (.int .i64 d.vertex)), (.frz 2 (List.map ePt d.shares))]),
      builtinA P (Hp.mk 1 (treeOf [(0, .cells (rowc eInt L) 0)]) (treeOf [(0, [0])]) gl 1) .len #[106] 3 [(.frz 2 (List.map ePt d.shares))] = some (.val (.lit (.int .i64 ((d.shares.length : Nat) : Int))) (Hp.mk 1 (treeOf [(0, .cells (rowc eInt L) 0)]) (treeOf [(0, [0])]) gl 1)),
      binA P .lss 3 (.tmp 44) (.tmp 50) (.lit (.int .i64 ((i : Nat) : Int))) (.lit (.int .i64 ((d.shares.length : Nat) : Int))) = some (.lit (.bool true)),
      some (AV.lit (.bool true)) = some (.lit (.bool true)),
      indexAddrA P 24 (.frz 2 (List.map eNd ns)) (.lit (.int .i64 ((j : Nat) : Int))) = some (.frp [(.lit (.int .i64 d.vertex)), (.frz 2 (List.map ePt d.shares))]),
      indexAddrA P 106 (.frz 2 (List.map ePt d.shares)) (.lit (.int .i64 ((i : Nat) : Int))) = some (.frp [(.lit (.int .i64 x.1)), (.lit (.int .i64 x.2))]),
      indexAddrA P 24 (.frz 2 (List.map eNd ns)) (.lit (.int .i64 ((j : Nat) : Int))) = some (.frp [(.lit (.int .i64 d.vertex)), (.frz 2 (List.map ePt d.shares))]),
      indexAddrA P 106 (.frz 2 (List.map ePt d.shares)) (.lit (.int .i64 ((i : Nat) : Int))) = some (.frp [(.lit (.int .i64 x.1)), (.lit (.int .i64 x.2))]),
      builtinA P (Hp.mk 23 (treeOf [(0, .cells (rowc eInt L) 0), (20, .cells [some (.lit (.int .i64 x.1)), some (.lit (.int .i64 x.2))] 20)]) (treeOf [(0, [0]), (20, [20])]) gl 1) .append #[23, 23] 23 [(.slice 0 0 n 1 none), (.slice 20 0 2 1 (some 2))] = some (.val (.slice 23 0 (n + 2) 1 none) (Hp.mk 24 (treeOf [(0, .cells (rowc eInt L) 0), (20, .cells [some (.lit (.int .i64 x.1)), some (.lit (.int .i64 x.2))] 20), (23, .cells (rowc eInt (L ++ [x.1, x.2])) 0)]) (treeOf [(0, [23, 0]), (20, [20])]) gl 1)),
      binA P .add 3 (.tmp 52) (.const (.int .i64 1)) (.lit (.int .i64 ((i : Nat) : Int))) (.lit (.int .i64 1)) = some (.lit (.int .i64 ((i + 1 : Nat) : Int))),
      Rn (nameF 0 [(0, 23)]) 1 (.frz 2 (List.map eNd ns)) (.frz 2 (List.map eNd ns)),
      Rn (nameF 0 [(0, 23)]) 1 (.lit (.string (bs o))) (.lit (.string (bs o))),
      Rn (nameF 0 [(0, 23)]) 1 (.lit (.int .i64 ((j : Nat) : Int))) (.lit (.int .i64 ((j : Nat) : Int))),
      Rn (nameF 0 [(0, 23)]) 1 (.slice 0 0 (n + 2) 1 none) (.slice 23 0 (n + 2) 1 none),
      Rn (nameF 0 [(0, 23)]) 1 (.lit (.int .i64 ((i + 1 : Nat) : Int))) (.lit (.int .i64 ((i + 1 : Nat) : Int))),
      RnO (nameF 0 [(0, 23)]) 1 (.cells (rowc eInt (L ++ [x.1, x.2])) 0) (.cells (rowc eInt (L ++ [x.1, x.2])) 0)])
    (τ := [(0, 23)]) (nx := 1) (l := [(0, (.frz 2 (List.map eNd ns))), (4, (.lit (.string (bs o)))), (5, (.lit (.int .i64 ((j : Nat) : Int)))), (6, (.slice 0 0 (n + 2) 1 none)), (7, (.lit (.int .i64 ((i + 1 : Nat) : Int))))])
    (bs := [(0, .cells (rowc eInt (L ++ [x.1, x.2])) 0)]) (by kernel_rfl) ⟨index_frz (n := j) (by kernel_rfl) hd, len_frz (by kernel_rfl), bin_b (c := decide ((((i : Nat) : Int) : Int) < ((d.shares.length : Nat) : Int))) (by kernel_rfl) (dt (by omega)), rfl, index_frz (n := j) (by kernel_rfl) hd, index_frz (n := i) (by kernel_rfl) hx, index_frz (n := j) (by kernel_rfl) hd, index_frz (n := i) (by kernel_rfl) hx, append_row (b := 0) (g := 0) (enc := eInt) (L := L) (L2 := (L ++ [x.1, x.2])) (ys := [(.lit (.int .i64 x.1)), (.lit (.int .i64 x.2))]) (by kernel_rfl) (by kernel_rfl) (by kernel_rfl) (by kernel_rfl) (by simp [eInt]) (by rw [rowc_length eInt_len]; omega) (by kernel_rfl) (by omega) (by kernel_rfl) (by kernel_rfl), binA_addN (a := i) (b := 1) (by omega), Pu.rn (Pu.map _ _ eNd_pu), Pu.rn (.lit _), Pu.rn (.lit _), Rn.slice _ _ _ _ _ (by decide), Pu.rn (.lit _), RnC.row eInt_pu, trivial⟩
theorem rnodes1_e0 (gl : Nat → Option (List Value)) (ns : List Nd) (o : List UInt8) (j : Nat) (d : Nd) (hd : ns[j]? = some d)  (hi : d.shares.length ≤ 0) :
  DoesC P 0 80 (loopAt P 61 1) (frameOf [(0, (.frz 2 (List.map eNd ns))), (4, (.lit (.string (bs o)))), (5, (.lit (.int .i64 ((j : Nat) : Int)))), (6, (.lit (.slice none 0 0))), (7, (.lit (.int .i64 0)))]) (heapOf 0 [] gl) (.exit 2)
    (frameOf [(0, (.frz 2 (List.map eNd ns))), (4, (.lit (.string (bs o)))), (5, (.lit (.int .i64 ((j : Nat) : Int)))), (6, (.lit (.slice none 0 0)))]) (Hp.mk 0 (treeOf []) (treeOf []) gl 1) :=
  path follows (n := 1000) (s := [.auto 3, .giv (.frp [(.lit (.int .i64 d.vertex)), (.frz 2 (List.map ePt d.shares))]), .auto 2, .giv (.lit (.int .i64 ((d.shares.length : Nat) : Int))), .giv (.lit (.bool false)), .dec false])
    (obs := [indexAddrA P 24 (.frz 2 (List.map eNd ns)) (.lit (.int .i64 ((j : Nat) : Int))) = some (.frp [(.lit (.int .i64 d.vertex)), (.frz 2 (List.map ePt d.shares))]),
      builtinA P (Hp.mk 0 (treeOf []) (treeOf []) gl 1) .len #[106] 3 [(.frz 2 (List.map ePt d.shares))] = some (.val (.lit (.int .i64 ((d.shares.length : Nat) : Int))) (Hp.mk 0 (treeOf []) (treeOf []) gl 1)),
      binA P .lss 3 (.tmp 44) (.tmp 50) (.lit (.int .i64 0)) (.lit (.int .i64 ((d.shares.length : Nat) : Int))) = some (.lit (.bool false)),
      some (AV.lit (.bool false)) = some (.lit (.bool false))])
    (ts := [0, 4, 5, 6]) (by kernel_rfl) ⟨index_frz (n := j) (by kernel_rfl) hd, len_frz (by kernel_rfl), bin_b (c := decide ((0 : Int) < ((d.shares.length : Nat) : Int))) (by kernel_rfl) (df (by omega)), rfl, trivial⟩
theorem rnodes1_e (gl : Nat → Option (List Value)) (ns : List Nd) (o : List UInt8) (j : Nat) (d : Nd) (hd : ns[j]? = some d)  (i n : Nat) (L : List Int) (hi : d.shares.length ≤ i) :
  DoesC P 0 80 (loopAt P 61 1) (frameOf [(0, (.frz 2 (List.map eNd ns))), (4, (.lit (.string (bs o)))), (5, (.lit (.int .i64 ((j : Nat) : Int)))), (6, (.slice 0 0 n 1 none)), (7, (.lit (.int .i64 ((i : Nat) : Int))))]) (heapOf 1 [(0, .cells (rowc eInt L) 0)] gl) (.exit 2)
    (frameOf [(0, (.frz 2 (List.map eNd ns))), (4, (.lit (.string (bs o)))), (5, (.lit (.int .i64 ((j : Nat) : Int)))), (6, (.slice 0 0 n 1 none))]) (Hp.mk 1 (treeOf [(0, .cells (rowc eInt L) 0)]) (treeOf [(0, [0])]) gl 1) :=
  path follows (n := 1000) (s := [.auto 3, .giv (.frp [(.lit (.int .i64 d.vertex)), (.frz 2 (List.map ePt d.shares))]), .auto 2, .giv (.lit (.int .i64 ((d.shares.length : Nat) : Int))), .giv (.lit (.bool false)), .dec false])
    (obs := [indexAddrA P 24 (.frz 2 (List.map eNd ns)) (.lit (.int .i64 ((j : Nat) : Int))) = some (.frp [(.lit (.int .i64 d.vertex)), (.frz 2 (List.map ePt d.shares))]),
      builtinA P (Hp.mk 1 (treeOf [(0, .cells (rowc eInt L) 0)]) (treeOf [(0, [0])]) gl 1) .len #[106] 3 [(.frz 2 (List.map ePt d.shares))] = some (.val (.lit (.int .i64 ((d.shares.length : Nat) : Int))) (Hp.mk 1 (treeOf [(0, .cells (rowc eInt L) 0)]) (treeOf [(0, [0])]) gl 1)),
      binA P .lss 3 (.tmp 44) (.tmp 50) (.lit (.int .i64 ((i : Nat) : Int))) (.lit (.int .i64 ((d.shares.length : Nat) : Int))) = some (.lit (.bool false)),
      some (AV.lit (.bool false)) = some (.lit (.bool false))])
    (ts := [0, 4, 5, 6]) (by kernel_rfl) ⟨index_frz (n := j) (by kernel_rfl) hd, len_frz (by kernel_rfl), bin_b (c := decide ((((i : Nat) : Int) : Int) < ((d.shares.length : Nat) : Int))) (by kernel_rfl) (df (by omega)), rfl, trivial⟩
theorem rnodes1 (gl : Nat → Option (List Value)) (ns : List Nd) (o : List UInt8) (j : Nat) (d : Nd) (hd : ns[j]? = some d)  (hlen : 2 * d.shares.length ≤ 268435450) :
  DoesL P 0 80 (loopAt P 61 1) (frameOf [(0, (.frz 2 (List.map eNd ns))), (4, (.lit (.string (bs o)))), (5, (.lit (.int .i64 ((j : Nat) : Int)))), (6, (.lit (.slice none 0 0))), (7, (.lit (.int .i64 0)))]) (heapOf 0 [] gl) (.exit 2) (frameOf [(0, (.frz 2 (List.map eNd ns))), (4, (.lit (.string (bs o)))), (5, (.lit (.int .i64 ((j : Nat) : Int)))), (6, (.frz 1 (List.map eInt (List.flatMap (fun (x : Int × Int) => [x.1, x.2]) d.shares))))]) (heapOf 0 [] gl) := by
  rcases Nat.eq_zero_or_pos d.shares.length with h0 | h0
  · have h := DoesL.out (rnodes1_e0 gl ns o j d hd  (by omega)) (by simp)
    have e0 : d.shares = [] := List.length_eq_zero_iff.1 h0
    refine DoesL.clean h (ts := [0, 4, 5, 6]) (l := [(0, (.frz 2 (List.map eNd ns))), (4, (.lit (.string (bs o)))), (5, (.lit (.int .i64 ((j : Nat) : Int)))), (6, (.frz 1 (List.map eInt (List.flatMap (fun (x : Int × Int) => [x.1, x.2]) d.shares))))]) 0 [] (by kernel_rfl) ?_ (.cons (.refl _) (.cons (.refl _) (.cons (.refl _) (.cons (.nilL (by rw [e0]; rfl)) .nil)))) ?_ (by kernel_rfl) (ps := []) trivial (by decide) rfl (by kernel_rfl)
    · intro x hx; simp at hx
    · intro x hx; simp only [List.mem_cons, List.not_mem_nil, or_false] at hx; rcases hx with rfl | rfl | rfl | rfl
      · exact Pu.rn (Pu.map _ _ eNd_pu)
      · exact Pu.rn (.lit _)
      · exact Pu.rn (.lit _)
      · exact Pu.rn (Pu.map _ _ eInt_pu)
  · have h := loop_list (P := P) (K := 0) (nt := 80) (c := loopAt P 61 1) (xs := d.shares) (fun i => match i with | 0 => frameOf [(0, (.frz 2 (List.map eNd ns))), (4, (.lit (.string (bs o)))), (5, (.lit (.int .i64 ((j : Nat) : Int)))), (6, (.lit (.slice none 0 0))), (7, (.lit (.int .i64 0)))] | i + 1 => frameOf [(0, (.frz 2 (List.map eNd ns))), (4, (.lit (.string (bs o)))), (5, (.lit (.int .i64 ((j : Nat) : Int)))), (6, (.slice 0 0 (2 * (i + 1)) 1 none)), (7, (.lit (.int .i64 ((i + 1 : Nat) : Int))))]) (fun i => match i with | 0 => (heapOf 0 [] gl) | i + 1 => (heapOf 1 [(0, .cells (rowc eInt (List.flatMap (fun (x : Int × Int) => [x.1, x.2]) (List.take (i + 1) d.shares))) 0)] gl))
      (e := .exit 2) (fr' := frameOf [(0, (.frz 2 (List.map eNd ns))), (4, (.lit (.string (bs o)))), (5, (.lit (.int .i64 ((j : Nat) : Int)))), (6, (.slice 0 0 (2 * d.shares.length) 1 none))]) (H' := (heapOf 1 [(0, .cells (rowc eInt (List.flatMap (fun (x : Int × Int) => [x.1, x.2]) d.shares)) 0)] gl)) (fun i x hx => ?_) ?_ (by simp)
    · have hn : 2 * d.shares.length = (List.flatMap (fun (x : Int × Int) => [x.1, x.2]) d.shares).length := by simp only [List.length_append, List.length_cons, List.length_nil, flatMap_len (m := 2) (g := (fun (x : Int × Int) => [x.1, x.2])) (fun _ => rfl)]
      refine DoesL.clean h (ts := [0, 4, 5, 6]) (l := [(0, (.frz 2 (List.map eNd ns))), (4, (.lit (.string (bs o)))), (5, (.lit (.int .i64 ((j : Nat) : Int)))), (6, (.frz 1 (List.map eInt (List.flatMap (fun (x : Int × Int) => [x.1, x.2]) d.shares))))]) 0 [] (by kernel_rfl) ?_ (.cons (.refl _) (.cons (.refl _) (.cons (.refl _) (.cons (FzV.rowB (b := 0) (g := 0) (c := none) (by kernel_rfl) hn (by kernel_rfl) (by kernel_rfl) eInt_len eInt_flat) .nil)))) ?_ (by kernel_rfl) (ps := []) trivial (by decide) rfl (by kernel_rfl)
      · intro x hx; simp at hx
      · intro x hx; simp only [List.mem_cons, List.not_mem_nil, or_false] at hx; rcases hx with rfl | rfl | rfl | rfl
        · exact Pu.rn (Pu.map _ _ eNd_pu)
        · exact Pu.rn (.lit _)
        · exact Pu.rn (.lit _)
        · exact Pu.rn (Pu.map _ _ eInt_pu)
    · have hi := at_lt hx
      cases i with
      | zero =>
        have r := rnodes1_r0 gl ns o j d hd  x hx hi hlen
        have e : List.flatMap (fun (x : Int × Int) => [x.1, x.2]) (List.take (0 + 1) d.shares) = [x.1, x.2] := by rw [take_flatMap_succ hx]; simp
        have e2 : rowc eInt [x.1, x.2] = [some (.lit (.int .i64 x.1)), some (.lit (.int .i64 x.2))] := rfl
        rw [← e2, ← e] at r
        exact r
      | succ i =>
        have hn : 2 * (i + 1) = (List.flatMap (fun (x : Int × Int) => [x.1, x.2]) (List.take (i + 1) d.shares)).length := by simp only [List.length_append, List.length_cons, List.length_nil, flatMap_len (m := 2) (g := (fun (x : Int × Int) => [x.1, x.2])) (fun _ => rfl), List.length_take]; omega
        have r := rnodes1_r gl ns o j d hd  (i + 1) (2 * (i + 1)) _ hn x hx hi (by omega) hlen
        have e : List.flatMap (fun (x : Int × Int) => [x.1, x.2]) (List.take (i + 1 + 1) d.shares) = (List.flatMap (fun (x : Int × Int) => [x.1, x.2]) (List.take (i + 1) d.shares)) ++ [x.1, x.2] := by rw [take_flatMap_succ hx]
        rw [← e] at r
        exact r
    · obtain ⟨q, hq⟩ : ∃ q, d.shares.length = q + 1 := ⟨d.shares.length - 1, by omega⟩
      have r := rnodes1_e gl ns o j d hd  (q + 1) (2 * (q + 1)) (List.flatMap (fun (x : Int × Int) => [x.1, x.2]) (List.take (q + 1) d.shares)) (by omega)
      have e : List.take (q + 1) d.shares = d.shares := by rw [← hq, List.take_length]
      rw [e] at r
      rw [hq]
      dsimp only
      rw [e]
      exact r
theorem rnodes_a (gl : Nat → Option (List Value)) (ns : List Nd) (o : List UInt8) (j : Nat) (d : Nd) (hd : ns[j]? = some d) (hj : j < ns.length) (hN : ns.length ≤ 100000000) (hk : okI d.vertex) (hv : 0 ≤ d.vertex) (hs : d.shares.length = 0) (ho : o.length + (lineOf [110, 111, 100, 101] [d.vertex]).length ≤ 9223372036854775807) :
  DoesC P 0 80 (loopAt P 61 0) (frameOf [(0, (.frz 2 (List.map eNd ns))), (4, (.lit (.string (bs o)))), (5, (.lit (.int .i64 ((j : Nat) : Int))))]) (heapOf 0 [] gl) .normal
    (frameOf [(0, (.frz 2 (List.map eNd ns))), (4, (.lit (.string (bs (o ++ (lineOf [110, 111, 100, 101] [d.vertex])))))), (5, (.lit (.int .i64 ((j + 1 : Nat) : Int))))]) (heapOf 0 [] gl) :=
  pathR follows (n := 1000) (s := [.auto 2, .giv (.lit (.int .i64 ((ns.length : Nat) : Int))), .giv (.lit (.bool true)), .dec true, .auto 2, .giv (.frp [(.lit (.int .i64 d.vertex)), (.frz 2 (List.map ePt d.shares))]), .auto 2, .giv (.lit (.bool true)), .auto 1, .dec true, .auto 1, .dec true, .auto 1, .dec true, .giv (.frp [(.lit (.int .i64 d.vertex)), (.frz 2 (List.map ePt d.shares))]), .dec true, .auto 1, .dec true, .auto 1, .dec true, .giv (.lit (.int .i64 ((d.shares.length : Nat) : Int))), .dec true, .giv (.lit (.bool true)), .auto 1, .dec true, .auto 3, .giv (.frp [(.lit (.int .i64 d.vertex)), (.frz 2 (List.map ePt d.shares))]), .auto 3, .call (.lit (.string (bs (lineOf [110, 111, 100, 101] [d.vertex])))), .giv (.lit (.string (bs (o ++ (lineOf [110, 111, 100, 101] [d.vertex]))))), .auto 2, .giv (.lit (.int .i64 ((j + 1 : Nat) : Int))), .auto 1])
    (obs := [builtinA P (Hp.mk 0 (treeOf []) (treeOf []) gl 1) .len #[24] 3 [(.frz 2 (List.map eNd ns))] = some (.val (.lit (.int .i64 ((ns.length : Nat) : Int))) (Hp.mk 0 (treeOf []) (treeOf []) gl 1)),
      binA P .lss 3 (.tmp 8) (.tmp 10) (.lit (.int .i64 ((j : Nat) : Int))) (.lit (.int .i64 ((ns.length : Nat) : Int))) = some (.lit (.bool true)),
      some (AV.lit (.bool true)) = some (.lit (.bool true)),
      indexAddrA P 24 (.frz 2 (List.map eNd ns)) (.lit (.int .i64 ((j : Nat) : Int))) = some (.frp [(.lit (.int .i64 d.vertex)), (.frz 2 (List.map ePt d.shares))]),
      binA P .geq 3 (.tmp 18) (.const (.int .i64 0)) (.lit (.int .i64 d.vertex)) (.lit (.int .i64 0)) = some (.lit (.bool true)),
      some (true == true) = some true,
      some (true == true) = some true,
      some (true == true) = some true,
      indexAddrA P 24 (.frz 2 (List.map eNd ns)) (.lit (.int .i64 ((j : Nat) : Int))) = some (.frp [(.lit (.int .i64 d.vertex)), (.frz 2 (List.map ePt d.shares))]),
      some (true == true) = some true,
      some (true == true) = some true,
      some (true == true) = some true,
      builtinA P (Hp.mk 0 (treeOf []) (treeOf []) gl 1) .len #[106] 3 [(.frz 2 (List.map ePt d.shares))] = some (.val (.lit (.int .i64 ((d.shares.length : Nat) : Int))) (Hp.mk 0 (treeOf []) (treeOf []) gl 1)),
      some (true == true) = some true,
      binA P .eql 3 (.tmp 26) (.const (.int .i64 0)) (.lit (.int .i64 ((d.shares.length : Nat) : Int))) (.lit (.int .i64 0)) = some (.lit (.bool true)),
      some (AV.lit (.bool true)) = some (.lit (.bool true)),
      indexAddrA P 24 (.frz 2 (List.map eNd ns)) (.lit (.int .i64 ((j : Nat) : Int))) = some (.frp [(.lit (.int .i64 d.vertex)), (.frz 2 (List.map ePt d.shares))]),
      Does P 60 [(.lit (.string (bs ([110, 111, 100, 101])))), (.slice 0 0 1 1 (some 1))] (Hp.mk 1 (treeOf [(0, .cells [some (.lit (.int .i64 d.vertex))] 0)]) (treeOf [(0, [0])]) gl 1) (.lit (.string (bs (lineOf [110, 111, 100, 101] [d.vertex])))) (Hp.mk 1 (treeOf [(0, .cells [some (.lit (.int .i64 d.vertex))] 0)]) (treeOf [(0, [0])]) gl 1),
      binA P .add 9 (.tmp 29) (.tmp 36) (.lit (.string (bs o))) (.lit (.string (bs (lineOf [110, 111, 100, 101] [d.vertex])))) = some (.lit (.string (bs (o ++ (lineOf [110, 111, 100, 101] [d.vertex]))))),
      binA P .add 3 (.tmp 12) (.const (.int .i64 1)) (.lit (.int .i64 ((j : Nat) : Int))) (.lit (.int .i64 1)) = some (.lit (.int .i64 ((j + 1 : Nat) : Int))),
      Rn (nameF 0 []) 0 (.frz 2 (List.map eNd ns)) (.frz 2 (List.map eNd ns)),
      Rn (nameF 0 []) 0 (.lit (.string (bs (o ++ (lineOf [110, 111, 100, 101] [d.vertex]))))) (.lit (.string (bs (o ++ (lineOf [110, 111, 100, 101] [d.vertex]))))),
      Rn (nameF 0 []) 0 (.lit (.int .i64 ((j + 1 : Nat) : Int))) (.lit (.int .i64 ((j + 1 : Nat) : Int)))])
    (τ := []) (nx := 0) (l := [(0, (.frz 2 (List.map eNd ns))), (4, (.lit (.string (bs (o ++ (lineOf [110, 111, 100, 101] [d.vertex])))))), (5, (.lit (.int .i64 ((j + 1 : Nat) : Int))))])
    (bs := []) (by kernel_rfl) ⟨len_frz (by kernel_rfl), bin_b (c := decide ((((j : Nat) : Int) : Int) < ((ns.length : Nat) : Int))) (by kernel_rfl) (dt (by omega)), rfl, index_frz (n := j) (by kernel_rfl) hd, bin_b (c := decide ((d.vertex : Int) ≥ 0)) (by kernel_rfl) (dt (by omega)), rfl, rfl, rfl, index_frz (n := j) (by kernel_rfl) hd, rfl, rfl, rfl, len_frz (by kernel_rfl), rfl, bin_b (c := (((d.shares.length : Nat) : Int) : Int) == 0) (by kernel_rfl) (et (by omega)), rfl, index_frz (n := j) (by kernel_rfl) hd, line_blk _ rfl _ 0 0 1 _ [d.vertex] (by kernel_rfl) rfl (ok1 hk) (by decide) (by simp), binA_bs (by omega), binA_addN (a := j) (b := 1) (by omega), Pu.rn (Pu.map _ _ eNd_pu), Pu.rn (.lit _), Pu.rn (.lit _), trivial⟩
theorem rnodes_c (gl : Nat → Option (List Value)) (ns : List Nd) (o : List UInt8) (j : Nat) (d : Nd) (hd : ns[j]? = some d) (hj : j < ns.length) (hN : ns.length ≤ 100000000) (hk : ∀ x ∈ d.shares, okPt x) (hl : 2 * d.shares.length ≤ 268435450) (hv : d.vertex = -1) (ho : o.length + (lineOf [108, 101, 97, 102] (pts d.shares)).length ≤ 9223372036854775807) :
  DoesC P 0 80 (loopAt P 61 0) (frameOf [(0, (.frz 2 (List.map eNd ns))), (4, (.lit (.string (bs o)))), (5, (.lit (.int .i64 ((j : Nat) : Int))))]) (heapOf 0 [] gl) .normal
    (frameOf [(0, (.frz 2 (List.map eNd ns))), (4, (.lit (.string (bs (o ++ (lineOf [108, 101, 97, 102] (pts d.shares))))))), (5, (.lit (.int .i64 ((j + 1 : Nat) : Int))))]) (heapOf 0 [] gl) :=
  pathR follows (n := 1000) (s := [.auto 2, .giv (.lit (.int .i64 ((ns.length : Nat) : Int))), .giv (.lit (.bool true)), .dec true, .auto 2, .giv (.frp [(.lit (.int .i64 d.vertex)), (.frz 2 (List.map ePt d.shares))]), .auto 2, .giv (.lit (.bool false)), .auto 1, .dec false, .dec false, .dec false, .dec false, .dec false, .dec false, .dec false, .auto 1, .dec false, .auto 2, .giv (.frp [(.lit (.int .i64 d.vertex)), (.frz 2 (List.map ePt d.shares))]), .auto 2, .giv (.lit (.bool false)), .dec false, .auto 2, .loopR [] 0 [(0, (.frz 2 (List.map eNd ns))), (4, (.lit (.string (bs o)))), (5, (.lit (.int .i64 ((j : Nat) : Int)))), (6, (.lit (.slice none 0 0))), (7, (.lit (.int .i64 0)))] [] (.exit 2) (frameOf [(0, (.frz 2 (List.map eNd ns))), (4, (.lit (.string (bs o)))), (5, (.lit (.int .i64 ((j : Nat) : Int)))), (6, (.frz 1 (List.map eInt (pts d.shares))))]) (heapOf 0 [] gl), .auto 2, .call (.lit (.string (bs (lineOf [108, 101, 97, 102] (pts d.shares))))), .giv (.lit (.string (bs (o ++ (lineOf [108, 101, 97, 102] (pts d.shares)))))), .auto 2, .giv (.lit (.int .i64 ((j + 1 : Nat) : Int))), .auto 1])
    (obs := [builtinA P (Hp.mk 0 (treeOf []) (treeOf []) gl 1) .len #[24] 3 [(.frz 2 (List.map eNd ns))] = some (.val (.lit (.int .i64 ((ns.length : Nat) : Int))) (Hp.mk 0 (treeOf []) (treeOf []) gl 1)),
      binA P .lss 3 (.tmp 8) (.tmp 10) (.lit (.int .i64 ((j : Nat) : Int))) (.lit (.int .i64 ((ns.length : Nat) : Int))) = some (.lit (.bool true)),
      some (AV.lit (.bool true)) = some (.lit (.bool true)),
      indexAddrA P 24 (.frz 2 (List.map eNd ns)) (.lit (.int .i64 ((j : Nat) : Int))) = some (.frp [(.lit (.int .i64 d.vertex)), (.frz 2 (List.map ePt d.shares))]),
      binA P .geq 3 (.tmp 18) (.const (.int .i64 0)) (.lit (.int .i64 d.vertex)) (.lit (.int .i64 0)) = some (.lit (.bool false)),
      some (false == true) = some false,
      some (false == true) = some false,
      some (false == true) = some false,
      some (false == true) = some false,
      some (false == true) = some false,
      some (false == true) = some false,
      some (false == true) = some false,
      some (AV.lit (.bool false)) = some (.lit (.bool false)),
      indexAddrA P 24 (.frz 2 (List.map eNd ns)) (.lit (.int .i64 ((j : Nat) : Int))) = some (.frp [(.lit (.int .i64 d.vertex)), (.frz 2 (List.map ePt d.shares))]),
      binA P .neq 3 (.tmp 42) (.const (.int .i64 (-1))) (.lit (.int .i64 d.vertex)) (.lit (.int .i64 (-1))) = some (.lit (.bool false)),
      some (AV.lit (.bool false)) = some (.lit (.bool false)),
      Rn (nameF 0 []) 0 (.frz 2 (List.map eNd ns)) (.frz 2 (List.map eNd ns)),
      Rn (nameF 0 []) 0 (.lit (.string (bs o))) (.lit (.string (bs o))),
      Rn (nameF 0 []) 0 (.lit (.int .i64 ((j : Nat) : Int))) (.lit (.int .i64 ((j : Nat) : Int))),
      Rn (nameF 0 []) 0 (.lit (.slice none 0 0)) (.lit (.slice none 0 0)),
      Rn (nameF 0 []) 0 (.lit (.int .i64 0)) (.lit (.int .i64 0)),
      DoesL P 0 80 (loopAt P 61 1) (frameOf [(0, (.frz 2 (List.map eNd ns))), (4, (.lit (.string (bs o)))), (5, (.lit (.int .i64 ((j : Nat) : Int)))), (6, (.lit (.slice none 0 0))), (7, (.lit (.int .i64 0)))]) (heapOf 0 [] gl) (.exit 2) (frameOf [(0, (.frz 2 (List.map eNd ns))), (4, (.lit (.string (bs o)))), (5, (.lit (.int .i64 ((j : Nat) : Int)))), (6, (.frz 1 (List.map eInt (pts d.shares))))]) (heapOf 0 [] gl),
      Does P 60 [(.lit (.string (bs ([108, 101, 97, 102])))), (.frz 1 (List.map eInt (pts d.shares)))] (Hp.mk 0 (treeOf []) (treeOf []) gl 1) (.lit (.string (bs (lineOf [108, 101, 97, 102] (pts d.shares))))) (Hp.mk 0 (treeOf []) (treeOf []) gl 1),
      binA P .add 9 (.tmp 75) (.tmp 77) (.lit (.string (bs o))) (.lit (.string (bs (lineOf [108, 101, 97, 102] (pts d.shares))))) = some (.lit (.string (bs (o ++ (lineOf [108, 101, 97, 102] (pts d.shares)))))),
      binA P .add 3 (.tmp 12) (.const (.int .i64 1)) (.lit (.int .i64 ((j : Nat) : Int))) (.lit (.int .i64 1)) = some (.lit (.int .i64 ((j + 1 : Nat) : Int))),
      Rn (nameF 0 []) 0 (.frz 2 (List.map eNd ns)) (.frz 2 (List.map eNd ns)),
      Rn (nameF 0 []) 0 (.lit (.string (bs (o ++ (lineOf [108, 101, 97, 102] (pts d.shares)))))) (.lit (.string (bs (o ++ (lineOf [108, 101, 97, 102] (pts d.shares)))))),
      Rn (nameF 0 []) 0 (.lit (.int .i64 ((j + 1 : Nat) : Int))) (.lit (.int .i64 ((j + 1 : Nat) : Int)))])
    (τ := []) (nx := 0) (l := [(0, (.frz 2 (List.map eNd ns))), (4, (.lit (.string (bs (o ++ (lineOf [108, 101, 97, 102] (pts d.shares))))))), (5, (.lit (.int .i64 ((j + 1 : Nat) : Int))))])
    (bs := []) (by kernel_rfl) ⟨len_frz (by kernel_rfl), bin_b (c := decide ((((j : Nat) : Int) : Int) < ((ns.length : Nat) : Int))) (by kernel_rfl) (dt (by omega)), rfl, index_frz (n := j) (by kernel_rfl) hd, bin_b (c := decide ((d.vertex : Int) ≥ 0)) (by kernel_rfl) (df (by omega)), rfl, rfl, rfl, rfl, rfl, rfl, rfl, rfl, index_frz (n := j) (by kernel_rfl) hd, bin_b (c := (d.vertex : Int) != -1) (by kernel_rfl) (nf (by omega)), rfl, Pu.rn (Pu.map _ _ eNd_pu), Pu.rn (.lit _), Pu.rn (.lit _), Pu.rn (.lit _), Pu.rn (.lit _), rnodes1 gl ns o j d hd hl, line_frz _ rfl _ (pts d.shares) (pts_ok hk) (by decide) (by rw [pts_len]; omega), binA_bs (by omega), binA_addN (a := j) (b := 1) (by omega), Pu.rn (Pu.map _ _ eNd_pu), Pu.rn (.lit _), Pu.rn (.lit _), trivial⟩
theorem rnodes_b1 (gl : Nat → Option (List Value)) (ns : List Nd) (o : List UInt8) (j : Nat) (d : Nd) (hd : ns[j]? = some d) (hj : j < ns.length) (hN : ns.length ≤ 100000000) (hv : 0 ≤ d.vertex) (hs : d.shares.length ≠ 0) :
  DoesC P 0 80 (loopAt P 61 0) (frameOf [(0, (.frz 2 (List.map eNd ns))), (4, (.lit (.string (bs o)))), (5, (.lit (.int .i64 ((j : Nat) : Int))))]) (heapOf 0 [] gl) .ret
    (frameOf [(2, (.lit (.string (bs ([]))))), (3, (.lit (.bool false)))]) (heapOf 0 [] gl) :=
  pathR follows (n := 1000) (s := [.auto 2, .giv (.lit (.int .i64 ((ns.length : Nat) : Int))), .giv (.lit (.bool true)), .dec true, .auto 2, .giv (.frp [(.lit (.int .i64 d.vertex)), (.frz 2 (List.map ePt d.shares))]), .auto 2, .giv (.lit (.bool true)), .auto 1, .dec true, .auto 1, .dec true, .auto 1, .dec true, .giv (.frp [(.lit (.int .i64 d.vertex)), (.frz 2 (List.map ePt d.shares))]), .dec true, .auto 1, .dec true, .auto 1, .dec true, .giv (.lit (.int .i64 ((d.shares.length : Nat) : Int))), .dec true, .giv (.lit (.bool false)), .auto 1, .dec false, .auto 2, .giv (.frp [(.lit (.int .i64 d.vertex)), (.frz 2 (List.map ePt d.shares))]), .auto 2, .giv (.lit (.bool true)), .dec true, .auto 2])
    (obs := [builtinA P (Hp.mk 0 (treeOf []) (treeOf []) gl 1) .len #[24] 3 [(.frz 2 (List.map eNd ns))] = some (.val (.lit (.int .i64 ((ns.length : Nat) : Int))) (Hp.mk 0 (treeOf []) (treeOf []) gl 1)),
      binA P .lss 3 (.tmp 8) (.tmp 10) (.lit (.int .i64 ((j : Nat) : Int))) (.lit (.int .i64 ((ns.length : Nat) : Int))) = some (.lit (.bool true)),
      some (AV.lit (.bool true)) = some (.lit (.bool true)),
      indexAddrA P 24 (.frz 2 (List.map eNd ns)) (.lit (.int .i64 ((j : Nat) : Int))) = some (.frp [(.lit (.int .i64 d.vertex)), (.frz 2 (List.map ePt d.shares))]),
      binA P .geq 3 (.tmp 18) (.const (.int .i64 0)) (.lit (.int .i64 d.vertex)) (.lit (.int .i64 0)) = some (.lit (.bool true)),
      some (true == true) = some true,
      some (true == true) = some true,
      some (true == true) = some true,
      indexAddrA P 24 (.frz 2 (List.map eNd ns)) (.lit (.int .i64 ((j : Nat) : Int))) = some (.frp [(.lit (.int .i64 d.vertex)), (.frz 2 (List.map ePt d.shares))]),
      some (true == true) = some true,
      some (true == true) = some true,
      some (true == true) = some true,
      builtinA P (Hp.mk 0 (treeOf []) (treeOf []) gl 1) .len #[106] 3 [(.frz 2 (List.map ePt d.shares))] = some (.val (.lit (.int .i64 ((d.shares.length : Nat) : Int))) (Hp.mk 0 (treeOf []) (treeOf []) gl 1)),
      some (true == true) = some true,
      binA P .eql 3 (.tmp 26) (.const (.int .i64 0)) (.lit (.int .i64 ((d.shares.length : Nat) : Int))) (.lit (.int .i64 0)) = some (.lit (.bool false)),
      some (AV.lit (.bool false)) = some (.lit (.bool false)),
      indexAddrA P 24 (.frz 2 (List.map eNd ns)) (.lit (.int .i64 ((j : Nat) : Int))) = some (.frp [(.lit (.int .i64 d.vertex)), (.frz 2 (List.map ePt d.shares))]),
      binA P .neq 3 (.tmp 42) (.const (.int .i64 (-1))) (.lit (.int .i64 d.vertex)) (.lit (.int .i64 (-1))) = some (.lit (.bool true)),
      some (AV.lit (.bool true)) = some (.lit (.bool true)),
      Rn (nameF 0 []) 0 (.lit (.string (bs ([])))) (.lit (.string (bs ([])))),
      Rn (nameF 0 []) 0 (.lit (.bool false)) (.lit (.bool false))])
    (τ := []) (nx := 0) (l := [(2, (.lit (.string (bs ([]))))), (3, (.lit (.bool false)))])
    (bs := []) (by kernel_rfl) ⟨len_frz (by kernel_rfl), bin_b (c := decide ((((j : Nat) : Int) : Int) < ((ns.length : Nat) : Int))) (by kernel_rfl) (dt (by omega)), rfl, index_frz (n := j) (by kernel_rfl) hd, bin_b (c := decide ((d.vertex : Int) ≥ 0)) (by kernel_rfl) (dt (by omega)), rfl, rfl, rfl, index_frz (n := j) (by kernel_rfl) hd, rfl, rfl, rfl, len_frz (by kernel_rfl), rfl, bin_b (c := (((d.shares.length : Nat) : Int) : Int) == 0) (by kernel_rfl) (ef (by omega)), rfl, index_frz (n := j) (by kernel_rfl) hd, bin_b (c := (d.vertex : Int) != -1) (by kernel_rfl) (nt (by omega)), rfl, Pu.rn (.lit _), Pu.rn (.lit _), trivial⟩
theorem rnodes_b2 (gl : Nat → Option (List Value)) (ns : List Nd) (o : List UInt8) (j : Nat) (d : Nd) (hd : ns[j]? = some d) (hj : j < ns.length) (hN : ns.length ≤ 100000000) (hv : d.vertex < -1) :
  DoesC P 0 80 (loopAt P 61 0) (frameOf [(0, (.frz 2 (List.map eNd ns))), (4, (.lit (.string (bs o)))), (5, (.lit (.int .i64 ((j : Nat) : Int))))]) (heapOf 0 [] gl) .ret
    (frameOf [(2, (.lit (.string (bs ([]))))), (3, (.lit (.bool false)))]) (heapOf 0 [] gl) :=
  pathR follows (n := 1000) (s := [.auto 2, .giv (.lit (.int .i64 ((ns.length : Nat) : Int))), .giv (.lit (.bool true)), .dec true, .auto 2, .giv (.frp [(.lit (.int .i64 d.vertex)), (.frz 2 (List.map ePt d.shares))]), .auto 2, .giv (.lit (.bool false)), .auto 1, .dec false, .dec false, .dec false, .dec false, .dec false, .dec false, .dec false, .auto 1, .dec false, .auto 2, .giv (.frp [(.lit (.int .i64 d.vertex)), (.frz 2 (List.map ePt d.shares))]), .auto 2, .giv (.lit (.bool true)), .dec true, .auto 2])
    (obs := [builtinA P (Hp.mk 0 (treeOf []) (treeOf []) gl 1) .len #[24] 3 [(.frz 2 (List.map eNd ns))] = some (.val (.lit (.int .i64 ((ns.length : Nat) : Int))) (Hp.mk 0 (treeOf []) (treeOf []) gl 1)),
      binA P .lss 3 (.tmp 8) (.tmp 10) (.lit (.int .i64 ((j : Nat) : Int))) (.lit (.int .i64 ((ns.length : Nat) : Int))) = some (.lit (.bool true)),
      some (AV.lit (.bool true)) = some (.lit (.bool true)),
      indexAddrA P 24 (.frz 2 (List.map eNd ns)) (.lit (.int .i64 ((j : Nat) : Int))) = some (.frp [(.lit (.int .i64 d.vertex)), (.frz 2 (List.map ePt d.shares))]),
      binA P .geq 3 (.tmp 18) (.const (.int .i64 0)) (.lit (.int .i64 d.vertex)) (.lit (.int .i64 0)) = some (.lit (.bool false)),
      some (false == true) = some false,
      some (false == true) = some false,
      some (false == true) = some false,
      some (false == true) = some false,
      some (false == true) = some false,
      some (false == true) = some false,
      some (false == true) = some false,
      some (AV.lit (.bool false)) = some (.lit (.bool false)),
      indexAddrA P 24 (.frz 2 (List.map eNd ns)) (.lit (.int .i64 ((j : Nat) : Int))) = some (.frp [(.lit (.int .i64 d.vertex)), (.frz 2 (List.map ePt d.shares))]),
      binA P .neq 3 (.tmp 42) (.const (.int .i64 (-1))) (.lit (.int .i64 d.vertex)) (.lit (.int .i64 (-1))) = some (.lit (.bool true)),
      some (AV.lit (.bool true)) = some (.lit (.bool true)),
      Rn (nameF 0 []) 0 (.lit (.string (bs ([])))) (.lit (.string (bs ([])))),
      Rn (nameF 0 []) 0 (.lit (.bool false)) (.lit (.bool false))])
    (τ := []) (nx := 0) (l := [(2, (.lit (.string (bs ([]))))), (3, (.lit (.bool false)))])
    (bs := []) (by kernel_rfl) ⟨len_frz (by kernel_rfl), bin_b (c := decide ((((j : Nat) : Int) : Int) < ((ns.length : Nat) : Int))) (by kernel_rfl) (dt (by omega)), rfl, index_frz (n := j) (by kernel_rfl) hd, bin_b (c := decide ((d.vertex : Int) ≥ 0)) (by kernel_rfl) (df (by omega)), rfl, rfl, rfl, rfl, rfl, rfl, rfl, rfl, index_frz (n := j) (by kernel_rfl) hd, bin_b (c := (d.vertex : Int) != -1) (by kernel_rfl) (nt (by omega)), rfl, Pu.rn (.lit _), Pu.rn (.lit _), trivial⟩
theorem rnodes_e (gl : Nat → Option (List Value)) (ns : List Nd) (o : List UInt8) (j : Nat) (hj : ns.length ≤ j) :
  DoesC P 0 80 (loopAt P 61 0) (frameOf [(0, (.frz 2 (List.map eNd ns))), (4, (.lit (.string (bs o)))), (5, (.lit (.int .i64 ((j : Nat) : Int))))]) (heapOf 0 [] gl) (.exit 0)
    (frameOf [(0, (.frz 2 (List.map eNd ns))), (4, (.lit (.string (bs o))))]) (heapOf 0 [] gl) :=
  pathR follows (n := 1000) (s := [.auto 2, .giv (.lit (.int .i64 ((ns.length : Nat) : Int))), .giv (.lit (.bool false)), .dec false])
    (obs := [builtinA P (Hp.mk 0 (treeOf []) (treeOf []) gl 1) .len #[24] 3 [(.frz 2 (List.map eNd ns))] = some (.val (.lit (.int .i64 ((ns.length : Nat) : Int))) (Hp.mk 0 (treeOf []) (treeOf []) gl 1)),
      binA P .lss 3 (.tmp 8) (.tmp 10) (.lit (.int .i64 ((j : Nat) : Int))) (.lit (.int .i64 ((ns.length : Nat) : Int))) = some (.lit (.bool false)),
      some (AV.lit (.bool false)) = some (.lit (.bool false)),
      Rn (nameF 0 []) 0 (.frz 2 (List.map eNd ns)) (.frz 2 (List.map eNd ns)),
      Rn (nameF 0 []) 0 (.lit (.string (bs o))) (.lit (.string (bs o)))])
    (τ := []) (nx := 0) (l := [(0, (.frz 2 (List.map eNd ns))), (4, (.lit (.string (bs o))))])
    (bs := []) (by kernel_rfl) ⟨len_frz (by kernel_rfl), bin_b (c := decide ((((j : Nat) : Int) : Int) < ((ns.length : Nat) : Int))) (by kernel_rfl) (df (by omega)), rfl, Pu.rn (Pu.map _ _ eNd_pu), Pu.rn (.lit _), trivial⟩
theorem rnodes_round (gl : Nat → Option (List Value)) (ns : List Nd) (hr : ∀ d ∈ ns, okNd d) (hN : ns.length ≤ 100000000) (hs : ∀ d ∈ ns, 2 * d.shares.length ≤ 268435450) (hl : (ns.flatMap nodeLine).length ≤ 9223372036854775807)
    (i : Nat) (d : Nd) (hd : ns[i]? = some d) (hk : nodeOk d = true) :
  DoesC P 0 80 (loopAt P 61 0) (frameOf [(0, .frz 2 (List.map eNd ns)), (4, .lit (.string (bs ((ns.take i).flatMap nodeLine)))), (5, .lit (.int .i64 ((i : Nat) : Int)))]) (heapOf 0 [] gl) .normal
    (frameOf [(0, .frz 2 (List.map eNd ns)), (4, .lit (.string (bs ((ns.take (i + 1)).flatMap nodeLine)))), (5, .lit (.int .i64 ((i + 1 : Nat) : Int)))]) (heapOf 0 [] gl) := by
  have hm := at_mem hd
  have hi := at_lt hd
  have e := take_flatMap_succ hd nodeLine
  have hle := flatMap_take_le ns (i + 1) nodeLine
  rw [e, List.length_append] at hle
  rw [e]
  by_cases hv : 0 ≤ d.vertex
  · have h1 : d.shares.length = 0 := by
      unfold nodeOk at hk
      have h2 : (d.vertex == -1) = false := by rw [beq_eq_false_iff_ne]; omega
      rw [h2] at hk
      simp only [Bool.or_false, Bool.and_eq_true, decide_eq_true_eq, List.isEmpty_iff] at hk
      rw [hk.2]; rfl
    have e2 : nodeLine d = lineOf [110, 111, 100, 101] [d.vertex] := by unfold nodeLine; rw [if_pos hv]
    rw [e2] at hle ⊢
    exact rnodes_a gl ns _ i d hd hi hN (hr d hm).1 hv h1 (by omega)
  · have h1 : d.vertex = -1 := by
      unfold nodeOk at hk
      have h2 : decide (0 ≤ d.vertex) = false := decide_eq_false hv
      rw [h2] at hk
      simpa using hk
    have e2 : nodeLine d = lineOf [108, 101, 97, 102] (pts d.shares) := by unfold nodeLine; rw [if_neg hv]
    rw [e2] at hle ⊢
    exact rnodes_c gl ns _ i d hd hi hN (hr d hm).2 (hs d hm) h1 (by omega)
theorem rnodes_ok (gl : Nat → Option (List Value)) (ns : List Nd) (hr : ∀ d ∈ ns, okNd d) (hN : ns.length ≤ 100000000) (hs : ∀ d ∈ ns, 2 * d.shares.length ≤ 268435450) (hl : (ns.flatMap nodeLine).length ≤ 9223372036854775807) (ha : ns.all nodeOk = true) :
  DoesL P 0 80 (loopAt P 61 0) (frameOf [(0, .frz 2 (List.map eNd ns)), (4, .lit (.string (bs []))), (5, .lit (.int .i64 0))]) (heapOf 0 [] gl) (.exit 0) (frameOf [(0, .frz 2 (List.map eNd ns)), (4, .lit (.string (bs (ns.flatMap nodeLine))))]) (heapOf 0 [] gl) := by
  refine loop_list (xs := ns) (fun i => frameOf [(0, .frz 2 (List.map eNd ns)), (4, .lit (.string (bs ((ns.take i).flatMap nodeLine)))), (5, .lit (.int .i64 ((i : Nat) : Int)))]) (fun _ => heapOf 0 [] gl) (fun i x hx => rnodes_round gl ns hr hN hs hl i x hx (all_at ha hx)) ?_ (by simp)
  have r := rnodes_e gl ns (ns.flatMap nodeLine) ns.length (Nat.le_refl _)
  rw [List.take_length]
  exact r
theorem rnodes_bad (gl : Nat → Option (List Value)) (ns : List Nd) (hr : ∀ d ∈ ns, okNd d) (hN : ns.length ≤ 100000000) (hs : ∀ d ∈ ns, 2 * d.shares.length ≤ 268435450) (hl : (ns.flatMap nodeLine).length ≤ 9223372036854775807) (ha : ns.all nodeOk = false) :
  DoesL P 0 80 (loopAt P 61 0) (frameOf [(0, .frz 2 (List.map eNd ns)), (4, .lit (.string (bs []))), (5, .lit (.int .i64 0))]) (heapOf 0 [] gl) .ret (frameOf [(2, .lit (.string (bs []))), (3, .lit (.bool false))]) (heapOf 0 [] gl) := by
  obtain ⟨m, d, h1, h2, h3⟩ := first_bad nodeOk ns ha
  have hmm := at_lt h1
  refine loop_until (fun i => frameOf [(0, .frz 2 (List.map eNd ns)), (4, .lit (.string (bs ((ns.take i).flatMap nodeLine)))), (5, .lit (.int .i64 ((i : Nat) : Int)))]) (fun _ => heapOf 0 [] gl) m (fun i hi => ?_) ?_ (by simp)
  · have hx : ns[i]? = some ns[i] := List.getElem?_eq_getElem (by omega)
    exact rnodes_round gl ns hr hN hs hl i _ hx (h3 i _ hi hx)
  · unfold nodeOk at h2
    simp only [Bool.or_eq_false_iff, Bool.and_eq_false_iff, decide_eq_false_iff_not, beq_eq_false_iff_ne] at h2
    obtain ⟨k1, k2⟩ := h2
    by_cases hv : 0 ≤ d.vertex
    · have k3 : d.shares.length ≠ 0 := by
        rcases k1 with k1 | k1
        · exact absurd hv k1
        · intro h0; rw [List.length_eq_zero_iff.1 h0] at k1; cases k1
      exact rnodes_b1 gl ns _ m d h1 hmm hN hv k3
    · exact rnodes_b2 gl ns _ m d h1 hmm hN (by omega)
theorem rnodes_run1 (gl : Nat → Option (List Value)) (ns : List Nd) (hr : ∀ d ∈ ns, okNd d) (hN : ns.length ≤ 100000000) (hs : ∀ d ∈ ns, 2 * d.shares.length ≤ 268435450) (hl : (ns.flatMap nodeLine).length ≤ 9223372036854775807) (ha : ns.all nodeOk = true) :
  Does P 61 [(.frz 2 (List.map eNd ns))] (heapOf 0 [] gl) (.tuple [(.lit (.string (bs (ns.flatMap nodeLine)))), (.lit (.bool true))]) (Hp.mk 0 (treeOf []) (treeOf []) gl 1) :=
  does follows (n := 1000) (s := [.auto 4, .loop0 [0, 4, 5] (.exit 0) (frameOf [(0, (.frz 2 (List.map eNd ns))), (4, (.lit (.string (bs (ns.flatMap nodeLine)))))]) (Hp.mk 0 (treeOf []) (treeOf []) gl 1), .auto 3]) rfl
    (obs := [DoesL P 0 80 (loopAt P 61 0) (frameOf [(0, (.frz 2 (List.map eNd ns))), (4, (.lit (.string (bs ([]))))), (5, (.lit (.int .i64 0)))]) (Hp.mk 0 (treeOf []) (treeOf []) gl 1) (.exit 0) (frameOf [(0, (.frz 2 (List.map eNd ns))), (4, (.lit (.string (bs (ns.flatMap nodeLine)))))]) (Hp.mk 0 (treeOf []) (treeOf []) gl 1)])
    (by kernel_rfl) ⟨rnodes_ok gl ns hr hN hs hl ha, trivial⟩
theorem rnodes_run2 (gl : Nat → Option (List Value)) (ns : List Nd) (hr : ∀ d ∈ ns, okNd d) (hN : ns.length ≤ 100000000) (hs : ∀ d ∈ ns, 2 * d.shares.length ≤ 268435450) (hl : (ns.flatMap nodeLine).length ≤ 9223372036854775807) (ha : ns.all nodeOk = false) :
  Does P 61 [(.frz 2 (List.map eNd ns))] (heapOf 0 [] gl) (.tuple [(.lit (.string (bs ([])))), (.lit (.bool false))]) (Hp.mk 0 (treeOf []) (treeOf []) gl 1) :=
  does follows (n := 1000) (s := [.auto 4, .loop0 [0, 4, 5] .ret (frameOf [(2, (.lit (.string (bs ([]))))), (3, (.lit (.bool false)))]) (Hp.mk 0 (treeOf []) (treeOf []) gl 1)]) rfl
    (obs := [DoesL P 0 80 (loopAt P 61 0) (frameOf [(0, (.frz 2 (List.map eNd ns))), (4, (.lit (.string (bs ([]))))), (5, (.lit (.int .i64 0)))]) (Hp.mk 0 (treeOf []) (treeOf []) gl 1) .ret (frameOf [(2, (.lit (.string (bs ([]))))), (3, (.lit (.bool false)))]) (Hp.mk 0 (treeOf []) (treeOf []) gl 1)])
    (by kernel_rfl) ⟨rnodes_bad gl ns hr hN hs hl ha, trivial⟩
/-- drossref46.nodes. -/
theorem rnodes_does (H : Hp) (ns : List Nd) (hr : ∀ d ∈ ns, okNd d) (hN : ns.length ≤ 100000000) (hs : ∀ d ∈ ns, 2 * d.shares.length ≤ 268435450) (hl : (ns.flatMap nodeLine).length ≤ 9223372036854775807) :
    Does P 61 [.frz 2 (List.map eNd ns)] H (.tuple [.lit (.string (bs (nodesOut ns).1)), .lit (.bool (nodesOut ns).2)]) H := by
  refine Does.liftP (H1 := heapOf 0 [] H.gl) ?_ (pus_get (.cons (.map _ _ eNd_pu) .nil)) (.tuple _ (pus_get (.cons (.lit _) (.cons (.lit _) .nil))))
  unfold nodesOut
  cases ha : ns.all nodeOk with
  | true => exact rnodes_run1 H.gl ns hr hN hs hl ha
  | false => exact rnodes_run2 H.gl ns hr hN hs hl ha
end Go.Proofs.F
