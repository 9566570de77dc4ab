/-
  Of the texts that prove drosslaw46.CertificateFormat: for every certificate of bulk at most 1048576 the law returns true, and the argument reads as before. Condition: the listed package-level variables hold what the program lays.
-/
import Derived.Test.YthgkipklofkoaaaGreatDoorC12
open Go Go.Proofs Go.Cam Go.RowKit
set_option maxRecDepth 1000000
namespace Go.Proofs.F

def nodeWord (d : Nd) : List UInt8 := if 0 ≤ d.vertex then wordOf [110, 111, 100, 101] [d.vertex] else wordOf [108, 101, 97, 102] (pts d.shares)
theorem wnode1_r0 (gl : Nat → Option (List Value)) (ns : List Nd) (n9 : Nat) (L0 : List (List UInt8)) (j : Nat) (d : Nd)  (x : Int × Int) (hx : d.shares[0]? = some x) (hi : 0 < d.shares.length) (hL : 2 * d.shares.length ≤ 268435450) :
  DoesC P 4 52 (loopAt P 55 1) (frameOf [(0, (.ptr 1 0)), (10, (.frz 2 (List.map eNd ns))), (11, (.lit (.int .i64 ((ns.length : Nat) : Int)))), (12, (.lit (.int .i64 ((j : Nat) : Int)))), (7, (.lit (.slice none 0 0))), (34, (.frz 2 (List.map ePt d.shares))), (35, (.lit (.int .i64 ((d.shares.length : Nat) : Int)))), (36, (.lit (.int .i64 0)))]) (heapOf 5 [(1, .cells [some (.slice 4 0 n9 1 none)] 1), (4, .cells (rowc eStr L0) 4)] gl) .normal
    (frameOf [(0, (.ptr 1 0)), (10, (.frz 2 (List.map eNd ns))), (11, (.lit (.int .i64 ((ns.length : Nat) : Int)))), (12, (.lit (.int .i64 ((j : Nat) : Int)))), (7, (.slice 5 0 2 1 none)), (34, (.frz 2 (List.map ePt d.shares))), (35, (.lit (.int .i64 ((d.shares.length : Nat) : Int)))), (36, (.lit (.int .i64 1)))]) (heapOf 6 [(1, .cells [some (.slice 4 0 n9 1 none)] 1), (4, .cells (rowc eStr L0) 4), (5, .cells [some (.lit (.int .i64 x.1)), some (.lit (.int .i64 x.2))] 5)] gl) :=
  pathR follows (n := 1000) (s := [.giv (.lit (.bool true)), .dec true, .giv (.frp [(.lit (.int .i64 x.1)), (.lit (.int .i64 x.2))]), .auto 13])
    (obs := [binA P .lss 3 (.tmp 36) (.tmp 35) (.lit (.int .i64 0)) (.lit (.int .i64 ((d.shares.length : Nat) : Int))) = some (.lit (.bool true)),
      some (AV.lit (.bool true)) = some (.lit (.bool true)),
      indexAddrA P 106 (.frz 2 (List.map ePt d.shares)) (.lit (.int .i64 0)) = some (.frp [(.lit (.int .i64 x.1)), (.lit (.int .i64 x.2))]),
      Rn (nameF 4 [(5, 7)]) 6 (.ptr 1 0) (.ptr 1 0),
      Rn (nameF 4 [(5, 7)]) 6 (.frz 2 (List.map eNd ns)) (.frz 2 (List.map eNd ns)),
      Rn (nameF 4 [(5, 7)]) 6 (.lit (.int .i64 ((ns.length : Nat) : Int))) (.lit (.int .i64 ((ns.length : Nat) : Int))),
      Rn (nameF 4 [(5, 7)]) 6 (.lit (.int .i64 ((j : Nat) : Int))) (.lit (.int .i64 ((j : Nat) : Int))),
      Rn (nameF 4 [(5, 7)]) 6 (.slice 5 0 2 1 none) (.slice 7 0 2 1 none),
      Rn (nameF 4 [(5, 7)]) 6 (.frz 2 (List.map ePt d.shares)) (.frz 2 (List.map ePt d.shares)),
      Rn (nameF 4 [(5, 7)]) 6 (.lit (.int .i64 ((d.shares.length : Nat) : Int))) (.lit (.int .i64 ((d.shares.length : Nat) : Int))),
      Rn (nameF 4 [(5, 7)]) 6 (.lit (.int .i64 1)) (.lit (.int .i64 1)),
      RnO (nameF 4 [(5, 7)]) 6 (.cells [some (.slice 4 0 n9 1 none)] 1) (.cells [some (.slice 4 0 n9 1 none)] 1),
      RnO (nameF 4 [(5, 7)]) 6 (.cells (rowc eStr L0) 4) (.cells (rowc eStr L0) 4),
      RnO (nameF 4 [(5, 7)]) 6 (.cells [some (.lit (.int .i64 x.1)), some (.lit (.int .i64 x.2))] 5) (.cells [some (.lit (.int .i64 x.1)), some (.lit (.int .i64 x.2))] 7)])
    (τ := [(5, 7)]) (nx := 6) (l := [(0, (.ptr 1 0)), (10, (.frz 2 (List.map eNd ns))), (11, (.lit (.int .i64 ((ns.length : Nat) : Int)))), (12, (.lit (.int .i64 ((j : Nat) : Int)))), (7, (.slice 5 0 2 1 none)), (34, (.frz 2 (List.map ePt d.shares))), (35, (.lit (.int .i64 ((d.shares.length : Nat) : Int)))), (36, (.lit (.int .i64 1)))])
    (bs := [(1, .cells [some (.slice 4 0 n9 1 none)] 1), (4, .cells (rowc eStr L0) 4), (5, .cells [some (.lit (.int .i64 x.1)), some (.lit (.int .i64 x.2))] 5)]) (by kernel_rfl) ⟨bin_b (c := decide ((0 : Int) < ((d.shares.length : Nat) : Int))) (by kernel_rfl) (dt (by omega)), rfl, index_frz (n := 0) (by kernel_rfl) hx, Rn.ptr _ _ (by decide), Pu.rn (Pu.map _ _ eNd_pu), Pu.rn (.lit _), Pu.rn (.lit _), Rn.slice _ _ _ _ _ (by decide), Pu.rn (Pu.map _ _ ePt_pu), Pu.rn (.lit _), Pu.rn (.lit _), (RnC.cons (Rn.slice _ _ _ _ _ (by decide)) RnC.nil), RnC.row eStr_pu, (RnC.cons (Pu.rn (.lit _)) (RnC.cons (Pu.rn (.lit _)) RnC.nil)), trivial⟩
theorem wnode1_r (gl : Nat → Option (List Value)) (ns : List Nd) (n9 : Nat) (L0 : List (List UInt8)) (j : Nat) (d : Nd)  (i n : Nat) (L : List Int) (hn : n = L.length) (x : Int × Int) (hx : d.shares[i]? = some x) (hi : i < d.shares.length) (hf : n + 2 ≤ 268435456) (hL : 2 * d.shares.length ≤ 268435450) :
  DoesC P 4 52 (loopAt P 55 1) (frameOf [(0, (.ptr 1 0)), (10, (.frz 2 (List.map eNd ns))), (11, (.lit (.int .i64 ((ns.length : Nat) : Int)))), (12, (.lit (.int .i64 ((j : Nat) : Int)))), (7, (.slice 5 0 n 1 none)), (34, (.frz 2 (List.map ePt d.shares))), (35, (.lit (.int .i64 ((d.shares.length : Nat) : Int)))), (36, (.lit (.int .i64 ((i : Nat) : Int))))]) (heapOf 6 [(1, .cells [some (.slice 4 0 n9 1 none)] 1), (4, .cells (rowc eStr L0) 4), (5, .cells (rowc eInt L) 5)] gl) .normal
    (frameOf [(0, (.ptr 1 0)), (10, (.frz 2 (List.map eNd ns))), (11, (.lit (.int .i64 ((ns.length : Nat) : Int)))), (12, (.lit (.int .i64 ((j : Nat) : Int)))), (7, (.slice 5 0 (n + 2) 1 none)), (34, (.frz 2 (List.map ePt d.shares))), (35, (.lit (.int .i64 ((d.shares.length : Nat) : Int)))), (36, (.lit (.int .i64 ((i + 1 : Nat) : Int))))]) (heapOf 6 [(1, .cells [some (.slice 4 0 n9 1 none)] 1), (4, .cells (rowc eStr L0) 4), (5, .cells (rowc eInt (L ++ [x.1, x.2])) 5)] gl) :=
  pathR follows (n := 1000) (s := [.giv (.lit (.bool true)), .dec true, .giv (.frp [(.lit (.int .i64 x.1)), (.lit (.int .i64 x.2))]), .auto 9, .givH (.slice 8 0 (n + 2) 1 none) (Hp.mk 9 (treeOf [(1, .cells [some (.slice 4 0 n9 1 none)] 1), (4, .cells (rowc eStr L0) 4), (5, .cells (rowc eInt L) 5), (6, .cells [some (.lit (.int .i64 x.1)), some (.lit (.int .i64 x.2))] 6), (7, .cells [some (.lit (.int .i64 x.1)), some (.lit (.int .i64 x.2))] 7), (8, .cells (rowc eInt (L ++ [x.1, x.2])) 5)]) (treeOf [(1, [1]), (4, [4]), (5, [8, 5]), (6, [6]), (7, [7])]) gl 1), .auto 1, .giv (.lit (.int .i64 ((i + 1 : Nat) : Int))), .auto 1])
    (obs := [binA P .lss 3 (.tmp 36) (.tmp 35) (.lit (.int .i64 ((i : Nat) : Int))) (.lit (.int .i64 ((d.shares.length : Nat) : Int))) = some (.lit (.bool true)),
      some (AV.lit (.bool true)) = some (.lit (.bool true)),
      indexAddrA P 106 (.frz 2 (List.map ePt d.shares)) (.lit (.int .i64 ((i : Nat) : Int))) = some (.frp [(.lit (.int .i64 x.1)), (.lit (.int .i64 x.2))]),
      builtinA P (Hp.mk 8 (treeOf [(1, .cells [some (.slice 4 0 n9 1 none)] 1), (4, .cells (rowc eStr L0) 4), (5, .cells (rowc eInt L) 5), (6, .cells [some (.lit (.int .i64 x.1)), some (.lit (.int .i64 x.2))] 6), (7, .cells [some (.lit (.int .i64 x.1)), some (.lit (.int .i64 x.2))] 7)]) (treeOf [(1, [1]), (4, [4]), (5, [5]), (6, [6]), (7, [7])]) gl 1) .append #[23, 23] 23 [(.slice 5 0 n 1 none), (.slice 7 0 2 1 (some 2))] = some (.val (.slice 8 0 (n + 2) 1 none) (Hp.mk 9 (treeOf [(1, .cells [some (.slice 4 0 n9 1 none)] 1), (4, .cells (rowc eStr L0) 4), (5, .cells (rowc eInt L) 5), (6, .cells [some (.lit (.int .i64 x.1)), some (.lit (.int .i64 x.2))] 6), (7, .cells [some (.lit (.int .i64 x.1)), some (.lit (.int .i64 x.2))] 7), (8, .cells (rowc eInt (L ++ [x.1, x.2])) 5)]) (treeOf [(1, [1]), (4, [4]), (5, [8, 5]), (6, [6]), (7, [7])]) gl 1)),
      binA P .add 3 (.tmp 36) (.const (.int .i64 1)) (.lit (.int .i64 ((i : Nat) : Int))) (.lit (.int .i64 1)) = some (.lit (.int .i64 ((i + 1 : Nat) : Int))),
      Rn (nameF 4 [(5, 8)]) 6 (.ptr 1 0) (.ptr 1 0),
      Rn (nameF 4 [(5, 8)]) 6 (.frz 2 (List.map eNd ns)) (.frz 2 (List.map eNd ns)),
      Rn (nameF 4 [(5, 8)]) 6 (.lit (.int .i64 ((ns.length : Nat) : Int))) (.lit (.int .i64 ((ns.length : Nat) : Int))),
      Rn (nameF 4 [(5, 8)]) 6 (.lit (.int .i64 ((j : Nat) : Int))) (.lit (.int .i64 ((j : Nat) : Int))),
      Rn (nameF 4 [(5, 8)]) 6 (.slice 5 0 (n + 2) 1 none) (.slice 8 0 (n + 2) 1 none),
      Rn (nameF 4 [(5, 8)]) 6 (.frz 2 (List.map ePt d.shares)) (.frz 2 (List.map ePt d.shares)),
      Rn (nameF 4 [(5, 8)]) 6 (.lit (.int .i64 ((d.shares.length : Nat) : Int))) (.lit (.int .i64 ((d.shares.length : Nat) : Int))),
      Rn (nameF 4 [(5, 8)]) 6 (.lit (.int .i64 ((i + 1 : Nat) : Int))) (.lit (.int .i64 ((i + 1 : Nat) : Int))),
      RnO (nameF 4 [(5, 8)]) 6 (.cells [some (.slice 4 0 n9 1 none)] 1) (.cells [some (.slice 4 0 n9 1 none)] 1),
      RnO (nameF 4 [(5, 8)]) 6 (.cells (rowc eStr L0) 4) (.cells (rowc eStr L0) 4),
      RnO (nameF 4 [(5, 8)]) 6 (.cells (rowc eInt (L ++ [x.1, x.2])) 5) (.cells (rowc eInt (L ++ [x.1, x.2])) 5)])
    (τ := [(5, 8)]) (nx := 6) (l := [(0, (.ptr 1 0)), (10, (.frz 2 (List.map eNd ns))), (11, (.lit (.int .i64 ((ns.length : Nat) : Int)))), (12, (.lit (.int .i64 ((j : Nat) : Int)))), (7, (.slice 5 0 (n + 2) 1 none)), (34, (.frz 2 (List.map ePt d.shares))), (35, (.lit (.int .i64 ((d.shares.length : Nat) : Int)))), (36, (.lit (.int .i64 ((i + 1 : Nat) : Int))))])
    (bs := [(1, .cells [some (.slice 4 0 n9 1 none)] 1), (4, .cells (rowc eStr L0) 4), (5, .cells (rowc eInt (L ++ [x.1, x.2])) 5)]) (by kernel_rfl) ⟨bin_b (c := decide ((((i : Nat) : Int) : Int) < ((d.shares.length : Nat) : Int))) (by kernel_rfl) (dt (by omega)), rfl, index_frz (n := i) (by kernel_rfl) hx, append_row (b := 5) (g := 5) (enc := eInt) (L := L) (L2 := (L ++ [x.1, x.2])) (ys := [(.lit (.int .i64 x.1)), (.lit (.int .i64 x.2))]) (by kernel_rfl) (by kernel_rfl) (by kernel_rfl) (by kernel_rfl) (by simp [eInt]) (by rw [rowc_length eInt_len]; omega) (by kernel_rfl) (by omega) (by kernel_rfl) (by kernel_rfl), binA_addN (a := i) (b := 1) (by omega), Rn.ptr _ _ (by decide), Pu.rn (Pu.map _ _ eNd_pu), Pu.rn (.lit _), Pu.rn (.lit _), Rn.slice _ _ _ _ _ (by decide), Pu.rn (Pu.map _ _ ePt_pu), Pu.rn (.lit _), Pu.rn (.lit _), (RnC.cons (Rn.slice _ _ _ _ _ (by decide)) RnC.nil), RnC.row eStr_pu, RnC.row eInt_pu, trivial⟩
theorem wnode1_e0 (gl : Nat → Option (List Value)) (ns : List Nd) (n9 : Nat) (L0 : List (List UInt8)) (j : Nat) (d : Nd)  (hi : d.shares.length ≤ 0) :
  DoesC P 4 52 (loopAt P 55 1) (frameOf [(0, (.ptr 1 0)), (10, (.frz 2 (List.map eNd ns))), (11, (.lit (.int .i64 ((ns.length : Nat) : Int)))), (12, (.lit (.int .i64 ((j : Nat) : Int)))), (7, (.lit (.slice none 0 0))), (34, (.frz 2 (List.map ePt d.shares))), (35, (.lit (.int .i64 ((d.shares.length : Nat) : Int)))), (36, (.lit (.int .i64 0)))]) (heapOf 5 [(1, .cells [some (.slice 4 0 n9 1 none)] 1), (4, .cells (rowc eStr L0) 4)] gl) (.exit 2)
    (frameOf [(0, (.ptr 1 0)), (10, (.frz 2 (List.map eNd ns))), (11, (.lit (.int .i64 ((ns.length : Nat) : Int)))), (12, (.lit (.int .i64 ((j : Nat) : Int)))), (7, (.lit (.slice none 0 0)))]) (Hp.mk 5 (treeOf [(1, .cells [some (.slice 4 0 n9 1 none)] 1), (4, .cells (rowc eStr L0) 4)]) (treeOf [(1, [1]), (4, [4])]) gl 1) :=
  path follows (n := 1000) (s := [.giv (.lit (.bool false)), .dec false])
    (obs := [binA P .lss 3 (.tmp 36) (.tmp 35) (.lit (.int .i64 0)) (.lit (.int .i64 ((d.shares.length : Nat) : Int))) = some (.lit (.bool false)),
      some (AV.lit (.bool false)) = some (.lit (.bool false))])
    (ts := [0, 10, 11, 12, 7]) (by kernel_rfl) ⟨bin_b (c := decide ((0 : Int) < ((d.shares.length : Nat) : Int))) (by kernel_rfl) (df (by omega)), rfl, trivial⟩
theorem wnode1_e (gl : Nat → Option (List Value)) (ns : List Nd) (n9 : Nat) (L0 : List (List UInt8)) (j : Nat) (d : Nd)  (i n : Nat) (L : List Int) (hi : d.shares.length ≤ i) :
  DoesC P 4 52 (loopAt P 55 1) (frameOf [(0, (.ptr 1 0)), (10, (.frz 2 (List.map eNd ns))), (11, (.lit (.int .i64 ((ns.length : Nat) : Int)))), (12, (.lit (.int .i64 ((j : Nat) : Int)))), (7, (.slice 5 0 n 1 none)), (34, (.frz 2 (List.map ePt d.shares))), (35, (.lit (.int .i64 ((d.shares.length : Nat) : Int)))), (36, (.lit (.int .i64 ((i : Nat) : Int))))]) (heapOf 6 [(1, .cells [some (.slice 4 0 n9 1 none)] 1), (4, .cells (rowc eStr L0) 4), (5, .cells (rowc eInt L) 5)] gl) (.exit 2)
    (frameOf [(0, (.ptr 1 0)), (10, (.frz 2 (List.map eNd ns))), (11, (.lit (.int .i64 ((ns.length : Nat) : Int)))), (12, (.lit (.int .i64 ((j : Nat) : Int)))), (7, (.slice 5 0 n 1 none))]) (Hp.mk 6 (treeOf [(1, .cells [some (.slice 4 0 n9 1 none)] 1), (4, .cells (rowc eStr L0) 4), (5, .cells (rowc eInt L) 5)]) (treeOf [(1, [1]), (4, [4]), (5, [5])]) gl 1) :=
  path follows (n := 1000) (s := [.giv (.lit (.bool false)), .dec false])
    (obs := [binA P .lss 3 (.tmp 36) (.tmp 35) (.lit (.int .i64 ((i : Nat) : Int))) (.lit (.int .i64 ((d.shares.length : Nat) : Int))) = some (.lit (.bool false)),
      some (AV.lit (.bool false)) = some (.lit (.bool false))])
    (ts := [0, 10, 11, 12, 7]) (by kernel_rfl) ⟨bin_b (c := decide ((((i : Nat) : Int) : Int) < ((d.shares.length : Nat) : Int))) (by kernel_rfl) (df (by omega)), rfl, trivial⟩
theorem wnode1 (gl : Nat → Option (List Value)) (ns : List Nd) (n9 : Nat) (L0 : List (List UInt8)) (j : Nat) (d : Nd)  (hlen : 2 * d.shares.length ≤ 268435450) :
  DoesL P 4 52 (loopAt P 55 1) (frameOf [(0, (.ptr 1 0)), (10, (.frz 2 (List.map eNd ns))), (11, (.lit (.int .i64 ((ns.length : Nat) : Int)))), (12, (.lit (.int .i64 ((j : Nat) : Int)))), (7, (.lit (.slice none 0 0))), (34, (.frz 2 (List.map ePt d.shares))), (35, (.lit (.int .i64 ((d.shares.length : Nat) : Int)))), (36, (.lit (.int .i64 0)))]) (heapOf 5 [(1, .cells [some (.slice 4 0 n9 1 none)] 1), (4, .cells (rowc eStr L0) 4)] gl) (.exit 2) (frameOf [(0, (.ptr 1 0)), (10, (.frz 2 (List.map eNd ns))), (11, (.lit (.int .i64 ((ns.length : Nat) : Int)))), (12, (.lit (.int .i64 ((j : Nat) : Int)))), (7, (.frz 1 (List.map eInt (List.flatMap (fun (x : Int × Int) => [x.1, x.2]) d.shares))))]) (heapOf 5 [(1, .cells [some (.slice 4 0 n9 1 none)] 1), (4, .cells (rowc eStr L0) 4)] gl) := by
  rcases Nat.eq_zero_or_pos d.shares.length with h0 | h0
  · have h := DoesL.out (wnode1_e0 gl ns n9 L0 j d  (by omega)) (by simp)
    have e0 : d.shares = [] := List.length_eq_zero_iff.1 h0
    refine DoesL.clean h (ts := [0, 10, 11, 12, 7]) (l := [(0, (.ptr 1 0)), (10, (.frz 2 (List.map eNd ns))), (11, (.lit (.int .i64 ((ns.length : Nat) : Int)))), (12, (.lit (.int .i64 ((j : Nat) : Int)))), (7, (.frz 1 (List.map eInt (List.flatMap (fun (x : Int × Int) => [x.1, x.2]) d.shares))))]) 5 [(1, .cells [some (.slice 4 0 n9 1 none)] 1), (4, .cells (rowc eStr L0) 4)] (by kernel_rfl) ?_ (.cons (.refl _) (.cons (.refl _) (.cons (.refl _) (.cons (.refl _) (.cons (.nilL (by rw [e0]; rfl)) .nil))))) ?_ (by kernel_rfl) (ps := [RnO (nameF 4 []) 5 (.cells [some (.slice 4 0 n9 1 none)] 1) (.cells [some (.slice 4 0 n9 1 none)] 1), RnO (nameF 4 []) 5 (.cells (rowc eStr L0) 4) (.cells (rowc eStr L0) 4)]) ⟨(RnC.cons (Rn.slice _ _ _ _ _ (by decide)) RnC.nil), RnC.row eStr_pu, trivial⟩ (by decide) rfl (by kernel_rfl)
    · intro x hx; simp only [List.mem_cons, List.not_mem_nil, or_false] at hx; rcases hx with rfl | rfl
      all_goals kernel_rfl
    · intro x hx; simp only [List.mem_cons, List.not_mem_nil, or_false] at hx; rcases hx with rfl | rfl | rfl | rfl | rfl
      · exact Rn.ptr _ _ (by decide)
      · exact Pu.rn (Pu.map _ _ eNd_pu)
      · exact Pu.rn (.lit _)
      · exact Pu.rn (.lit _)
      · exact Pu.rn (Pu.map _ _ eInt_pu)
  · have h := loop_list (P := P) (K := 4) (nt := 52) (c := loopAt P 55 1) (xs := d.shares) (fun i => match i with | 0 => frameOf [(0, (.ptr 1 0)), (10, (.frz 2 (List.map eNd ns))), (11, (.lit (.int .i64 ((ns.length : Nat) : Int)))), (12, (.lit (.int .i64 ((j : Nat) : Int)))), (7, (.lit (.slice none 0 0))), (34, (.frz 2 (List.map ePt d.shares))), (35, (.lit (.int .i64 ((d.shares.length : Nat) : Int)))), (36, (.lit (.int .i64 0)))] | i + 1 => frameOf [(0, (.ptr 1 0)), (10, (.frz 2 (List.map eNd ns))), (11, (.lit (.int .i64 ((ns.length : Nat) : Int)))), (12, (.lit (.int .i64 ((j : Nat) : Int)))), (7, (.slice 5 0 (2 * (i + 1)) 1 none)), (34, (.frz 2 (List.map ePt d.shares))), (35, (.lit (.int .i64 ((d.shares.length : Nat) : Int)))), (36, (.lit (.int .i64 ((i + 1 : Nat) : Int))))]) (fun i => match i with | 0 => (heapOf 5 [(1, .cells [some (.slice 4 0 n9 1 none)] 1), (4, .cells (rowc eStr L0) 4)] gl) | i + 1 => (heapOf 6 [(1, .cells [some (.slice 4 0 n9 1 none)] 1), (4, .cells (rowc eStr L0) 4), (5, .cells (rowc eInt (List.flatMap (fun (x : Int × Int) => [x.1, x.2]) (List.take (i + 1) d.shares))) 5)] gl))
      (e := .exit 2) (fr' := frameOf [(0, (.ptr 1 0)), (10, (.frz 2 (List.map eNd ns))), (11, (.lit (.int .i64 ((ns.length : Nat) : Int)))), (12, (.lit (.int .i64 ((j : Nat) : Int)))), (7, (.slice 5 0 (2 * d.shares.length) 1 none))]) (H' := (heapOf 6 [(1, .cells [some (.slice 4 0 n9 1 none)] 1), (4, .cells (rowc eStr L0) 4), (5, .cells (rowc eInt (List.flatMap (fun (x : Int × Int) => [x.1, x.2]) d.shares)) 5)] gl)) (fun i x hx => ?_) ?_ (by simp)
    · have hn : 2 * d.shares.length = (List.flatMap (fun (x : Int × Int) => [x.1, x.2]) d.shares).length := by simp only [List.length_append, List.length_cons, List.length_nil, flatMap_len (m := 2) (g := (fun (x : Int × Int) => [x.1, x.2])) (fun _ => rfl)]
      refine DoesL.clean h (ts := [0, 10, 11, 12, 7]) (l := [(0, (.ptr 1 0)), (10, (.frz 2 (List.map eNd ns))), (11, (.lit (.int .i64 ((ns.length : Nat) : Int)))), (12, (.lit (.int .i64 ((j : Nat) : Int)))), (7, (.frz 1 (List.map eInt (List.flatMap (fun (x : Int × Int) => [x.1, x.2]) d.shares))))]) 5 [(1, .cells [some (.slice 4 0 n9 1 none)] 1), (4, .cells (rowc eStr L0) 4)] (by kernel_rfl) ?_ (.cons (.refl _) (.cons (.refl _) (.cons (.refl _) (.cons (.refl _) (.cons (FzV.rowB (b := 5) (g := 5) (c := none) (by kernel_rfl) hn (by kernel_rfl) (by kernel_rfl) eInt_len eInt_flat) .nil))))) ?_ (by kernel_rfl) (ps := [RnO (nameF 4 []) 5 (.cells [some (.slice 4 0 n9 1 none)] 1) (.cells [some (.slice 4 0 n9 1 none)] 1), RnO (nameF 4 []) 5 (.cells (rowc eStr L0) 4) (.cells (rowc eStr L0) 4)]) ⟨(RnC.cons (Rn.slice _ _ _ _ _ (by decide)) RnC.nil), RnC.row eStr_pu, trivial⟩ (by decide) rfl (by kernel_rfl)
      · intro x hx; simp only [List.mem_cons, List.not_mem_nil, or_false] at hx; rcases hx with rfl | rfl
        all_goals kernel_rfl
      · intro x hx; simp only [List.mem_cons, List.not_mem_nil, or_false] at hx; rcases hx with rfl | rfl | rfl | rfl | rfl
        · exact Rn.ptr _ _ (by decide)
        · exact Pu.rn (Pu.map _ _ eNd_pu)
        · exact Pu.rn (.lit _)
        · exact Pu.rn (.lit _)
        · exact Pu.rn (Pu.map _ _ eInt_pu)
    · have hi := at_lt hx
      cases i with
      | zero =>
        have r := wnode1_r0 gl ns n9 L0 j d  x hx hi hlen
        have e : List.flatMap (fun (x : Int × Int) => [x.1, x.2]) (List.take (0 + 1) d.shares) = [x.1, x.2] := by rw [take_flatMap_succ hx]; simp
        have e2 : rowc eInt [x.1, x.2] = [some (.lit (.int .i64 x.1)), some (.lit (.int .i64 x.2))] := rfl
        rw [← e2, ← e] at r
        exact r
      | succ i =>
        have hn : 2 * (i + 1) = (List.flatMap (fun (x : Int × Int) => [x.1, x.2]) (List.take (i + 1) d.shares)).length := by simp only [List.length_append, List.length_cons, List.length_nil, flatMap_len (m := 2) (g := (fun (x : Int × Int) => [x.1, x.2])) (fun _ => rfl), List.length_take]; omega
        have r := wnode1_r gl ns n9 L0 j d  (i + 1) (2 * (i + 1)) _ hn x hx hi (by omega) hlen
        have e : List.flatMap (fun (x : Int × Int) => [x.1, x.2]) (List.take (i + 1 + 1) d.shares) = (List.flatMap (fun (x : Int × Int) => [x.1, x.2]) (List.take (i + 1) d.shares)) ++ [x.1, x.2] := by rw [take_flatMap_succ hx]
        rw [← e] at r
        exact r
    · obtain ⟨q, hq⟩ : ∃ q, d.shares.length = q + 1 := ⟨d.shares.length - 1, by omega⟩
      have r := wnode1_e gl ns n9 L0 j d  (q + 1) (2 * (q + 1)) (List.flatMap (fun (x : Int × Int) => [x.1, x.2]) (List.take (q + 1) d.shares)) (by omega)
      have e : List.take (q + 1) d.shares = d.shares := by rw [← hq, List.take_length]
      rw [e] at r
      try rw [hq] at r
      rw [hq]
      dsimp only
      rw [e]
      exact r
theorem wnodes_a (gl : Nat → Option (List Value)) (h3 : gl 3 = some pow10) (ns : List Nd) (i n : Nat) (L : List (List UInt8)) (hn : n = L.length) (hf : n + 1 ≤ 268435456) (d : Nd) (hd : ns[i]? = some d) (hi : i < ns.length) (hN : ns.length ≤ 100000000) (hk : okI d.vertex) (hv : 0 ≤ d.vertex) (hs : d.shares.length = 0) :
  DoesC P 4 52 (loopAt P 55 0) (frameOf [(0, (.ptr 1 0)), (10, (.frz 2 (List.map eNd ns))), (11, (.lit (.int .i64 ((ns.length : Nat) : Int)))), (12, (.lit (.int .i64 ((i : Nat) : Int))))]) (heapOf 5 [(1, .cells [some (.slice 4 0 n 1 none)] 1), (4, .cells (rowc eStr L) 4)] gl) .normal
    (frameOf [(0, (.ptr 1 0)), (10, (.frz 2 (List.map eNd ns))), (11, (.lit (.int .i64 ((ns.length : Nat) : Int)))), (12, (.lit (.int .i64 ((i + 1 : Nat) : Int))))]) (heapOf 5 [(1, .cells [some (.slice 4 0 (n + 1) 1 none)] 1), (4, .cells (rowc eStr (L ++ [(wordOf [110, 111, 100, 101] [d.vertex])])) 4)] gl) :=
  pathR follows (n := 1000) (s := [.giv (.lit (.bool true)), .dec true, .giv (.frp [(.lit (.int .i64 d.vertex)), (.frz 2 (List.map ePt d.shares))]), .auto 5, .giv (.lit (.bool true)), .dec true, .auto 2, .giv (.lit (.bool false)), .auto 1, .dec true, .auto 1, .dec true, .auto 1, .dec true, .giv (.lit (.int .i64 ((d.shares.length : Nat) : Int))), .dec true, .giv (.lit (.bool false)), .auto 1, .dec false, .auto 4, .enter, .auto 3, .loop0 [0, 1, 8, 9, 10] (.exit 0) (frameOf [(0, (.ptr 1 0)), (1, (.lit (.string (bs (wordOf [110, 111, 100, 101] [d.vertex])))))]) (Hp.mk 7 (treeOf [(1, .cells [some (.slice 4 0 n 1 none)] 1), (4, .cells (rowc eStr L) 4), (5, .cells [some (.lit (.int .i64 d.vertex)), some (.frz 2 (List.map ePt d.shares))] 5), (6, .cells [some (.lit (.int .i64 d.vertex))] 6)]) (treeOf [(1, [1]), (4, [4]), (5, [5]), (6, [6])]) gl 1), .auto 7, .givH (.slice 8 0 (n + 1) 1 none) (Hp.mk 9 (treeOf [(1, .cells [some (.slice 4 0 n 1 none)] 1), (4, .cells (rowc eStr L) 4), (5, .cells [some (.lit (.int .i64 d.vertex)), some (.frz 2 (List.map ePt d.shares))] 5), (6, .cells [some (.lit (.int .i64 d.vertex))] 6), (7, .cells [some (.lit (.string (bs (wordOf [110, 111, 100, 101] [d.vertex]))))] 7), (8, .cells (rowc eStr (L ++ [(wordOf [110, 111, 100, 101] [d.vertex])])) 4)]) (treeOf [(1, [1]), (4, [8, 4]), (5, [5]), (6, [6]), (7, [7])]) gl 1), .auto 3, .giv (.lit (.int .i64 ((i + 1 : Nat) : Int))), .auto 1])
    (obs := [binA P .lss 3 (.tmp 12) (.tmp 11) (.lit (.int .i64 ((i : Nat) : Int))) (.lit (.int .i64 ((ns.length : Nat) : Int))) = some (.lit (.bool true)),
      some (AV.lit (.bool true)) = some (.lit (.bool true)),
      indexAddrA P 24 (.frz 2 (List.map eNd ns)) (.lit (.int .i64 ((i : Nat) : Int))) = some (.frp [(.lit (.int .i64 d.vertex)), (.frz 2 (List.map ePt d.shares))]),
      binA P .neq 3 (.tmp 17) (.const (.int .i64 (-1))) (.lit (.int .i64 d.vertex)) (.lit (.int .i64 (-1))) = some (.lit (.bool true)),
      some (AV.lit (.bool true)) = some (.lit (.bool true)),
      binA P .lss 3 (.tmp 20) (.const (.int .i64 0)) (.lit (.int .i64 d.vertex)) (.lit (.int .i64 0)) = some (.lit (.bool false)),
      some (false == false) = some true,
      some (false == false) = some true,
      some (false == false) = some true,
      builtinA P (Hp.mk 6 (treeOf [(1, .cells [some (.slice 4 0 n 1 none)] 1), (4, .cells (rowc eStr L) 4), (5, .cells [some (.lit (.int .i64 d.vertex)), some (.frz 2 (List.map ePt d.shares))] 5)]) (treeOf [(1, [1]), (4, [4]), (5, [5])]) gl 1) .len #[106] 3 [(.frz 2 (List.map ePt d.shares))] = some (.val (.lit (.int .i64 ((d.shares.length : Nat) : Int))) (Hp.mk 6 (treeOf [(1, .cells [some (.slice 4 0 n 1 none)] 1), (4, .cells (rowc eStr L) 4), (5, .cells [some (.lit (.int .i64 d.vertex)), some (.frz 2 (List.map ePt d.shares))] 5)]) (treeOf [(1, [1]), (4, [4]), (5, [5])]) gl 1)),
      some (false == false) = some true,
      binA P .gtr 3 (.tmp 25) (.const (.int .i64 0)) (.lit (.int .i64 ((d.shares.length : Nat) : Int))) (.lit (.int .i64 0)) = some (.lit (.bool false)),
      some (AV.lit (.bool false)) = some (.lit (.bool false)),
      DoesL P 7 30 (loopAt P 54 0) (frameOf [(0, (.ptr 1 0)), (1, (.lit (.string (bs ([110, 111, 100, 101]))))), (8, (.slice 6 0 1 1 (some 1))), (9, (.lit (.int .i64 1))), (10, (.lit (.int .i64 0)))]) (Hp.mk 7 (treeOf [(1, .cells [some (.slice 4 0 n 1 none)] 1), (4, .cells (rowc eStr L) 4), (5, .cells [some (.lit (.int .i64 d.vertex)), some (.frz 2 (List.map ePt d.shares))] 5), (6, .cells [some (.lit (.int .i64 d.vertex))] 6)]) (treeOf [(1, [1]), (4, [4]), (5, [5]), (6, [6])]) gl 1) (.exit 0) (frameOf [(0, (.ptr 1 0)), (1, (.lit (.string (bs (wordOf [110, 111, 100, 101] [d.vertex])))))]) (Hp.mk 7 (treeOf [(1, .cells [some (.slice 4 0 n 1 none)] 1), (4, .cells (rowc eStr L) 4), (5, .cells [some (.lit (.int .i64 d.vertex)), some (.frz 2 (List.map ePt d.shares))] 5), (6, .cells [some (.lit (.int .i64 d.vertex))] 6)]) (treeOf [(1, [1]), (4, [4]), (5, [5]), (6, [6])]) gl 1),
      builtinA P (Hp.mk 8 (treeOf [(1, .cells [some (.slice 4 0 n 1 none)] 1), (4, .cells (rowc eStr L) 4), (5, .cells [some (.lit (.int .i64 d.vertex)), some (.frz 2 (List.map ePt d.shares))] 5), (6, .cells [some (.lit (.int .i64 d.vertex))] 6), (7, .cells [some (.lit (.string (bs (wordOf [110, 111, 100, 101] [d.vertex]))))] 7)]) (treeOf [(1, [1]), (4, [4]), (5, [5]), (6, [6]), (7, [7])]) gl 1) .append #[28, 28] 28 [(.slice 4 0 n 1 none), (.slice 7 0 1 1 (some 1))] = some (.val (.slice 8 0 (n + 1) 1 none) (Hp.mk 9 (treeOf [(1, .cells [some (.slice 4 0 n 1 none)] 1), (4, .cells (rowc eStr L) 4), (5, .cells [some (.lit (.int .i64 d.vertex)), some (.frz 2 (List.map ePt d.shares))] 5), (6, .cells [some (.lit (.int .i64 d.vertex))] 6), (7, .cells [some (.lit (.string (bs (wordOf [110, 111, 100, 101] [d.vertex]))))] 7), (8, .cells (rowc eStr (L ++ [(wordOf [110, 111, 100, 101] [d.vertex])])) 4)]) (treeOf [(1, [1]), (4, [8, 4]), (5, [5]), (6, [6]), (7, [7])]) gl 1)),
      binA P .add 3 (.tmp 12) (.const (.int .i64 1)) (.lit (.int .i64 ((i : Nat) : Int))) (.lit (.int .i64 1)) = some (.lit (.int .i64 ((i + 1 : Nat) : Int))),
      Rn (nameF 4 [(4, 8)]) 5 (.ptr 1 0) (.ptr 1 0),
      Rn (nameF 4 [(4, 8)]) 5 (.frz 2 (List.map eNd ns)) (.frz 2 (List.map eNd ns)),
      Rn (nameF 4 [(4, 8)]) 5 (.lit (.int .i64 ((ns.length : Nat) : Int))) (.lit (.int .i64 ((ns.length : Nat) : Int))),
      Rn (nameF 4 [(4, 8)]) 5 (.lit (.int .i64 ((i + 1 : Nat) : Int))) (.lit (.int .i64 ((i + 1 : Nat) : Int))),
      RnO (nameF 4 [(4, 8)]) 5 (.cells [some (.slice 4 0 (n + 1) 1 none)] 1) (.cells [some (.slice 8 0 (n + 1) 1 none)] 1),
      RnO (nameF 4 [(4, 8)]) 5 (.cells (rowc eStr (L ++ [(wordOf [110, 111, 100, 101] [d.vertex])])) 4) (.cells (rowc eStr (L ++ [(wordOf [110, 111, 100, 101] [d.vertex])])) 4)])
    (τ := [(4, 8)]) (nx := 5) (l := [(0, (.ptr 1 0)), (10, (.frz 2 (List.map eNd ns))), (11, (.lit (.int .i64 ((ns.length : Nat) : Int)))), (12, (.lit (.int .i64 ((i + 1 : Nat) : Int))))])
    (bs := [(1, .cells [some (.slice 4 0 (n + 1) 1 none)] 1), (4, .cells (rowc eStr (L ++ [(wordOf [110, 111, 100, 101] [d.vertex])])) 4)]) (by kernel_rfl) ⟨bin_b (c := decide ((((i : Nat) : Int) : Int) < ((ns.length : Nat) : Int))) (by kernel_rfl) (dt (by omega)), rfl, index_frz (n := i) (by kernel_rfl) hd, bin_b (c := (d.vertex : Int) != -1) (by kernel_rfl) (nt (by omega)), rfl, bin_b (c := decide ((d.vertex : Int) < 0)) (by kernel_rfl) (df (by omega)), rfl, rfl, rfl, len_frz (by kernel_rfl), rfl, bin_b (c := decide ((((d.shares.length : Nat) : Int) : Int) > 0)) (by kernel_rfl) (df (by omega)), rfl, put_all _ _ h3 _ [110, 111, 100, 101] _ [d.vertex] (ints_blk _ 6 6 1 _ [d.vertex] (by kernel_rfl) rfl (ok1 hk) (by simp)) (by decide) (by simp), append_row (b := 4) (g := 4) (enc := eStr) (L := L) (L2 := (L ++ [(wordOf [110, 111, 100, 101] [d.vertex])])) (ys := [(.lit (.string (bs (wordOf [110, 111, 100, 101] [d.vertex]))))]) (by kernel_rfl) (by kernel_rfl) (by kernel_rfl) (by kernel_rfl) (by simp [eStr]) (by rw [rowc_length eStr_len]; omega) (by kernel_rfl) (by omega) (by kernel_rfl) (by kernel_rfl), binA_addN (a := i) (b := 1) (by omega), Rn.ptr _ _ (by decide), Pu.rn (Pu.map _ _ eNd_pu), Pu.rn (.lit _), Pu.rn (.lit _), (RnC.cons (Rn.slice _ _ _ _ _ (by decide)) RnC.nil), RnC.row eStr_pu, trivial⟩
theorem wnodes_c (gl : Nat → Option (List Value)) (h3 : gl 3 = some pow10) (ns : List Nd) (i n : Nat) (L : List (List UInt8)) (hn : n = L.length) (hf : n + 1 ≤ 268435456) (d : Nd) (hd : ns[i]? = some d) (hi : i < ns.length) (hN : ns.length ≤ 100000000) (hk : ∀ x ∈ d.shares, okPt x) (hl : 2 * d.shares.length ≤ 268435450) (hv : d.vertex = -1) :
  DoesC P 4 52 (loopAt P 55 0) (frameOf [(0, (.ptr 1 0)), (10, (.frz 2 (List.map eNd ns))), (11, (.lit (.int .i64 ((ns.length : Nat) : Int)))), (12, (.lit (.int .i64 ((i : Nat) : Int))))]) (heapOf 5 [(1, .cells [some (.slice 4 0 n 1 none)] 1), (4, .cells (rowc eStr L) 4)] gl) .normal
    (frameOf [(0, (.ptr 1 0)), (10, (.frz 2 (List.map eNd ns))), (11, (.lit (.int .i64 ((ns.length : Nat) : Int)))), (12, (.lit (.int .i64 ((i + 1 : Nat) : Int))))]) (heapOf 5 [(1, .cells [some (.slice 4 0 (n + 1) 1 none)] 1), (4, .cells (rowc eStr (L ++ [(wordOf [108, 101, 97, 102] (pts d.shares))])) 4)] gl) :=
  pathR follows (n := 1000) (s := [.giv (.lit (.bool true)), .dec true, .giv (.frp [(.lit (.int .i64 d.vertex)), (.frz 2 (List.map ePt d.shares))]), .auto 5, .giv (.lit (.bool false)), .dec false, .auto 3, .giv (.lit (.int .i64 ((d.shares.length : Nat) : Int))), .auto 1, .loopR [] 5 [(0, (.ptr 1 0)), (10, (.frz 2 (List.map eNd ns))), (11, (.lit (.int .i64 ((ns.length : Nat) : Int)))), (12, (.lit (.int .i64 ((i : Nat) : Int)))), (7, (.lit (.slice none 0 0))), (34, (.frz 2 (List.map ePt d.shares))), (35, (.lit (.int .i64 ((d.shares.length : Nat) : Int)))), (36, (.lit (.int .i64 0)))] [(1, .cells [some (.slice 4 0 n 1 none)] 1), (4, .cells (rowc eStr L) 4)] (.exit 2) (frameOf [(0, (.ptr 1 0)), (10, (.frz 2 (List.map eNd ns))), (11, (.lit (.int .i64 ((ns.length : Nat) : Int)))), (12, (.lit (.int .i64 ((i : Nat) : Int)))), (7, (.frz 1 (List.map eInt (pts d.shares))))]) (heapOf 5 [(1, .cells [some (.slice 4 0 n 1 none)] 1), (4, .cells (rowc eStr L) 4)] gl), .auto 2, .enter, .auto 1, .giv (.lit (.int .i64 (((pts d.shares).length : Nat) : Int))), .auto 1, .loop0 [0, 1, 8, 9, 10] (.exit 0) (frameOf [(0, (.ptr 1 0)), (1, (.lit (.string (bs (wordOf [108, 101, 97, 102] (pts d.shares))))))]) (Hp.mk 5 (treeOf [(1, .cells [some (.slice 4 0 n 1 none)] 1), (4, .cells (rowc eStr L) 4)]) (treeOf [(1, [1]), (4, [4])]) gl 1), .auto 7, .givH (.slice 6 0 (n + 1) 1 none) (Hp.mk 7 (treeOf [(1, .cells [some (.slice 4 0 n 1 none)] 1), (4, .cells (rowc eStr L) 4), (5, .cells [some (.lit (.string (bs (wordOf [108, 101, 97, 102] (pts d.shares)))))] 5), (6, .cells (rowc eStr (L ++ [(wordOf [108, 101, 97, 102] (pts d.shares))])) 4)]) (treeOf [(1, [1]), (4, [6, 4]), (5, [5])]) gl 1), .auto 3, .giv (.lit (.int .i64 ((i + 1 : Nat) : Int))), .auto 1])
    (obs := [binA P .lss 3 (.tmp 12) (.tmp 11) (.lit (.int .i64 ((i : Nat) : Int))) (.lit (.int .i64 ((ns.length : Nat) : Int))) = some (.lit (.bool true)),
      some (AV.lit (.bool true)) = some (.lit (.bool true)),
      indexAddrA P 24 (.frz 2 (List.map eNd ns)) (.lit (.int .i64 ((i : Nat) : Int))) = some (.frp [(.lit (.int .i64 d.vertex)), (.frz 2 (List.map ePt d.shares))]),
      binA P .neq 3 (.tmp 17) (.const (.int .i64 (-1))) (.lit (.int .i64 d.vertex)) (.lit (.int .i64 (-1))) = some (.lit (.bool false)),
      some (AV.lit (.bool false)) = some (.lit (.bool false)),
      builtinA P (Hp.mk 6 (treeOf [(1, .cells [some (.slice 4 0 n 1 none)] 1), (4, .cells (rowc eStr L) 4), (5, .cells [some (.lit (.int .i64 d.vertex)), some (.frz 2 (List.map ePt d.shares))] 5)]) (treeOf [(1, [1]), (4, [4]), (5, [5])]) gl 1) .len #[106] 3 [(.frz 2 (List.map ePt d.shares))] = some (.val (.lit (.int .i64 ((d.shares.length : Nat) : Int))) (Hp.mk 6 (treeOf [(1, .cells [some (.slice 4 0 n 1 none)] 1), (4, .cells (rowc eStr L) 4), (5, .cells [some (.lit (.int .i64 d.vertex)), some (.frz 2 (List.map ePt d.shares))] 5)]) (treeOf [(1, [1]), (4, [4]), (5, [5])]) gl 1)),
      Rn (nameF 4 []) 5 (.ptr 1 0) (.ptr 1 0),
      Rn (nameF 4 []) 5 (.frz 2 (List.map eNd ns)) (.frz 2 (List.map eNd ns)),
      Rn (nameF 4 []) 5 (.lit (.int .i64 ((ns.length : Nat) : Int))) (.lit (.int .i64 ((ns.length : Nat) : Int))),
      Rn (nameF 4 []) 5 (.lit (.int .i64 ((i : Nat) : Int))) (.lit (.int .i64 ((i : Nat) : Int))),
      Rn (nameF 4 []) 5 (.lit (.slice none 0 0)) (.lit (.slice none 0 0)),
      Rn (nameF 4 []) 5 (.frz 2 (List.map ePt d.shares)) (.frz 2 (List.map ePt d.shares)),
      Rn (nameF 4 []) 5 (.lit (.int .i64 ((d.shares.length : Nat) : Int))) (.lit (.int .i64 ((d.shares.length : Nat) : Int))),
      Rn (nameF 4 []) 5 (.lit (.int .i64 0)) (.lit (.int .i64 0)),
      RnO (nameF 4 []) 5 (.cells [some (.slice 4 0 n 1 none)] 1) (.cells [some (.slice 4 0 n 1 none)] 1),
      RnO (nameF 4 []) 5 (.cells (rowc eStr L) 4) (.cells (rowc eStr L) 4),
      DoesL P 4 52 (loopAt P 55 1) (frameOf [(0, (.ptr 1 0)), (10, (.frz 2 (List.map eNd ns))), (11, (.lit (.int .i64 ((ns.length : Nat) : Int)))), (12, (.lit (.int .i64 ((i : Nat) : Int)))), (7, (.lit (.slice none 0 0))), (34, (.frz 2 (List.map ePt d.shares))), (35, (.lit (.int .i64 ((d.shares.length : Nat) : Int)))), (36, (.lit (.int .i64 0)))]) (heapOf 5 [(1, .cells [some (.slice 4 0 n 1 none)] 1), (4, .cells (rowc eStr L) 4)] gl) (.exit 2) (frameOf [(0, (.ptr 1 0)), (10, (.frz 2 (List.map eNd ns))), (11, (.lit (.int .i64 ((ns.length : Nat) : Int)))), (12, (.lit (.int .i64 ((i : Nat) : Int)))), (7, (.frz 1 (List.map eInt (pts d.shares))))]) (heapOf 5 [(1, .cells [some (.slice 4 0 n 1 none)] 1), (4, .cells (rowc eStr L) 4)] gl),
      builtinA P (Hp.mk 5 (treeOf [(1, .cells [some (.slice 4 0 n 1 none)] 1), (4, .cells (rowc eStr L) 4)]) (treeOf [(1, [1]), (4, [4])]) gl 1) .len #[23] 3 [(.frz 1 (List.map eInt (pts d.shares)))] = some (.val (.lit (.int .i64 (((pts d.shares).length : Nat) : Int))) (Hp.mk 5 (treeOf [(1, .cells [some (.slice 4 0 n 1 none)] 1), (4, .cells (rowc eStr L) 4)]) (treeOf [(1, [1]), (4, [4])]) gl 1)),
      DoesL P 5 30 (loopAt P 54 0) (frameOf [(0, (.ptr 1 0)), (1, (.lit (.string (bs ([108, 101, 97, 102]))))), (8, (.frz 1 (List.map eInt (pts d.shares)))), (9, (.lit (.int .i64 (((pts d.shares).length : Nat) : Int)))), (10, (.lit (.int .i64 0)))]) (Hp.mk 5 (treeOf [(1, .cells [some (.slice 4 0 n 1 none)] 1), (4, .cells (rowc eStr L) 4)]) (treeOf [(1, [1]), (4, [4])]) gl 1) (.exit 0) (frameOf [(0, (.ptr 1 0)), (1, (.lit (.string (bs (wordOf [108, 101, 97, 102] (pts d.shares))))))]) (Hp.mk 5 (treeOf [(1, .cells [some (.slice 4 0 n 1 none)] 1), (4, .cells (rowc eStr L) 4)]) (treeOf [(1, [1]), (4, [4])]) gl 1),
      builtinA P (Hp.mk 6 (treeOf [(1, .cells [some (.slice 4 0 n 1 none)] 1), (4, .cells (rowc eStr L) 4), (5, .cells [some (.lit (.string (bs (wordOf [108, 101, 97, 102] (pts d.shares)))))] 5)]) (treeOf [(1, [1]), (4, [4]), (5, [5])]) gl 1) .append #[28, 28] 28 [(.slice 4 0 n 1 none), (.slice 5 0 1 1 (some 1))] = some (.val (.slice 6 0 (n + 1) 1 none) (Hp.mk 7 (treeOf [(1, .cells [some (.slice 4 0 n 1 none)] 1), (4, .cells (rowc eStr L) 4), (5, .cells [some (.lit (.string (bs (wordOf [108, 101, 97, 102] (pts d.shares)))))] 5), (6, .cells (rowc eStr (L ++ [(wordOf [108, 101, 97, 102] (pts d.shares))])) 4)]) (treeOf [(1, [1]), (4, [6, 4]), (5, [5])]) gl 1)),
      binA P .add 3 (.tmp 12) (.const (.int .i64 1)) (.lit (.int .i64 ((i : Nat) : Int))) (.lit (.int .i64 1)) = some (.lit (.int .i64 ((i + 1 : Nat) : Int))),
      Rn (nameF 4 [(4, 6)]) 5 (.ptr 1 0) (.ptr 1 0),
      Rn (nameF 4 [(4, 6)]) 5 (.frz 2 (List.map eNd ns)) (.frz 2 (List.map eNd ns)),
      Rn (nameF 4 [(4, 6)]) 5 (.lit (.int .i64 ((ns.length : Nat) : Int))) (.lit (.int .i64 ((ns.length : Nat) : Int))),
      Rn (nameF 4 [(4, 6)]) 5 (.lit (.int .i64 ((i + 1 : Nat) : Int))) (.lit (.int .i64 ((i + 1 : Nat) : Int))),
      RnO (nameF 4 [(4, 6)]) 5 (.cells [some (.slice 4 0 (n + 1) 1 none)] 1) (.cells [some (.slice 6 0 (n + 1) 1 none)] 1),
      RnO (nameF 4 [(4, 6)]) 5 (.cells (rowc eStr (L ++ [(wordOf [108, 101, 97, 102] (pts d.shares))])) 4) (.cells (rowc eStr (L ++ [(wordOf [108, 101, 97, 102] (pts d.shares))])) 4)])
    (τ := [(4, 6)]) (nx := 5) (l := [(0, (.ptr 1 0)), (10, (.frz 2 (List.map eNd ns))), (11, (.lit (.int .i64 ((ns.length : Nat) : Int)))), (12, (.lit (.int .i64 ((i + 1 : Nat) : Int))))])
    (bs := [(1, .cells [some (.slice 4 0 (n + 1) 1 none)] 1), (4, .cells (rowc eStr (L ++ [(wordOf [108, 101, 97, 102] (pts d.shares))])) 4)]) (by kernel_rfl) ⟨bin_b (c := decide ((((i : Nat) : Int) : Int) < ((ns.length : Nat) : Int))) (by kernel_rfl) (dt (by omega)), rfl, index_frz (n := i) (by kernel_rfl) hd, bin_b (c := (d.vertex : Int) != -1) (by kernel_rfl) (nf (by omega)), rfl, len_frz (by kernel_rfl), Rn.ptr _ _ (by decide), Pu.rn (Pu.map _ _ eNd_pu), Pu.rn (.lit _), Pu.rn (.lit _), Pu.rn (.lit _), Pu.rn (Pu.map _ _ ePt_pu), Pu.rn (.lit _), Pu.rn (.lit _), (RnC.cons (Rn.slice _ _ _ _ _ (by decide)) RnC.nil), RnC.row eStr_pu, wnode1 gl ns n L i d hl, len_frz (by kernel_rfl), put_all _ _ h3 _ [108, 101, 97, 102] _ (pts d.shares) (ints_frz _ (pts d.shares) (pts_ok hk) (by have := (by rw [pts_len]; omega : (pts d.shares).length ≤ 268435456); omega)) (by decide) (by rw [pts_len]; omega : (pts d.shares).length ≤ 268435456), append_row (b := 4) (g := 4) (enc := eStr) (L := L) (L2 := (L ++ [(wordOf [108, 101, 97, 102] (pts d.shares))])) (ys := [(.lit (.string (bs (wordOf [108, 101, 97, 102] (pts d.shares)))))]) (by kernel_rfl) (by kernel_rfl) (by kernel_rfl) (by kernel_rfl) (by simp [eStr]) (by rw [rowc_length eStr_len]; omega) (by kernel_rfl) (by omega) (by kernel_rfl) (by kernel_rfl), binA_addN (a := i) (b := 1) (by omega), Rn.ptr _ _ (by decide), Pu.rn (Pu.map _ _ eNd_pu), Pu.rn (.lit _), Pu.rn (.lit _), (RnC.cons (Rn.slice _ _ _ _ _ (by decide)) RnC.nil), RnC.row eStr_pu, trivial⟩
theorem wnodes_b1 (gl : Nat → Option (List Value)) (h3 : gl 3 = some pow10) (ns : List Nd) (i n : Nat) (L : List (List UInt8)) (hn : n = L.length) (hf : n + 1 ≤ 268435456) (d : Nd) (hd : ns[i]? = some d) (hi : i < ns.length) (hN : ns.length ≤ 100000000) (hv : d.vertex < -1) :
  DoesC P 4 52 (loopAt P 55 0) (frameOf [(0, (.ptr 1 0)), (10, (.frz 2 (List.map eNd ns))), (11, (.lit (.int .i64 ((ns.length : Nat) : Int)))), (12, (.lit (.int .i64 ((i : Nat) : Int))))]) (heapOf 5 [(1, .cells [some (.slice 4 0 n 1 none)] 1), (4, .cells (rowc eStr L) 4)] gl) .ret
    (frameOf [(4, (.lit (.bool false)))]) (heapOf 5 [(1, .cells [some (.slice 4 0 n 1 none)] 1), (4, .cells (rowc eStr L) 4)] gl) :=
  pathR follows (n := 1000) (s := [.giv (.lit (.bool true)), .dec true, .giv (.frp [(.lit (.int .i64 d.vertex)), (.frz 2 (List.map ePt d.shares))]), .auto 5, .giv (.lit (.bool true)), .dec true, .auto 2, .giv (.lit (.bool true)), .auto 1, .dec false, .dec false, .dec false, .dec false, .auto 1, .dec true, .auto 1])
    (obs := [binA P .lss 3 (.tmp 12) (.tmp 11) (.lit (.int .i64 ((i : Nat) : Int))) (.lit (.int .i64 ((ns.length : Nat) : Int))) = some (.lit (.bool true)),
      some (AV.lit (.bool true)) = some (.lit (.bool true)),
      indexAddrA P 24 (.frz 2 (List.map eNd ns)) (.lit (.int .i64 ((i : Nat) : Int))) = some (.frp [(.lit (.int .i64 d.vertex)), (.frz 2 (List.map ePt d.shares))]),
      binA P .neq 3 (.tmp 17) (.const (.int .i64 (-1))) (.lit (.int .i64 d.vertex)) (.lit (.int .i64 (-1))) = some (.lit (.bool true)),
      some (AV.lit (.bool true)) = some (.lit (.bool true)),
      binA P .lss 3 (.tmp 20) (.const (.int .i64 0)) (.lit (.int .i64 d.vertex)) (.lit (.int .i64 0)) = some (.lit (.bool true)),
      some (true == false) = some false,
      some (true == false) = some false,
      some (true == false) = some false,
      some (true == false) = some false,
      some (AV.lit (.bool true)) = some (.lit (.bool true)),
      Rn (nameF 4 []) 5 (.lit (.bool false)) (.lit (.bool false)),
      RnO (nameF 4 []) 5 (.cells [some (.slice 4 0 n 1 none)] 1) (.cells [some (.slice 4 0 n 1 none)] 1),
      RnO (nameF 4 []) 5 (.cells (rowc eStr L) 4) (.cells (rowc eStr L) 4)])
    (τ := []) (nx := 5) (l := [(4, (.lit (.bool false)))])
    (bs := [(1, .cells [some (.slice 4 0 n 1 none)] 1), (4, .cells (rowc eStr L) 4)]) (by kernel_rfl) ⟨bin_b (c := decide ((((i : Nat) : Int) : Int) < ((ns.length : Nat) : Int))) (by kernel_rfl) (dt (by omega)), rfl, index_frz (n := i) (by kernel_rfl) hd, bin_b (c := (d.vertex : Int) != -1) (by kernel_rfl) (nt (by omega)), rfl, bin_b (c := decide ((d.vertex : Int) < 0)) (by kernel_rfl) (dt (by omega)), rfl, rfl, rfl, rfl, rfl, Pu.rn (.lit _), (RnC.cons (Rn.slice _ _ _ _ _ (by decide)) RnC.nil), RnC.row eStr_pu, trivial⟩
theorem wnodes_b2 (gl : Nat → Option (List Value)) (h3 : gl 3 = some pow10) (ns : List Nd) (i n : Nat) (L : List (List UInt8)) (hn : n = L.length) (hf : n + 1 ≤ 268435456) (d : Nd) (hd : ns[i]? = some d) (hi : i < ns.length) (hN : ns.length ≤ 100000000) (hv : 0 ≤ d.vertex) (hs : d.shares.length ≠ 0) :
  DoesC P 4 52 (loopAt P 55 0) (frameOf [(0, (.ptr 1 0)), (10, (.frz 2 (List.map eNd ns))), (11, (.lit (.int .i64 ((ns.length : Nat) : Int)))), (12, (.lit (.int .i64 ((i : Nat) : Int))))]) (heapOf 5 [(1, .cells [some (.slice 4 0 n 1 none)] 1), (4, .cells (rowc eStr L) 4)] gl) .ret
    (frameOf [(4, (.lit (.bool false)))]) (heapOf 5 [(1, .cells [some (.slice 4 0 n 1 none)] 1), (4, .cells (rowc eStr L) 4)] gl) :=
  pathR follows (n := 1000) (s := [.giv (.lit (.bool true)), .dec true, .giv (.frp [(.lit (.int .i64 d.vertex)), (.frz 2 (List.map ePt d.shares))]), .auto 5, .giv (.lit (.bool true)), .dec true, .auto 2, .giv (.lit (.bool false)), .auto 1, .dec true, .auto 1, .dec true, .auto 1, .dec true, .giv (.lit (.int .i64 ((d.shares.length : Nat) : Int))), .dec true, .giv (.lit (.bool true)), .auto 1, .dec true, .auto 1])
    (obs := [binA P .lss 3 (.tmp 12) (.tmp 11) (.lit (.int .i64 ((i : Nat) : Int))) (.lit (.int .i64 ((ns.length : Nat) : Int))) = some (.lit (.bool true)),
      some (AV.lit (.bool true)) = some (.lit (.bool true)),
      indexAddrA P 24 (.frz 2 (List.map eNd ns)) (.lit (.int .i64 ((i : Nat) : Int))) = some (.frp [(.lit (.int .i64 d.vertex)), (.frz 2 (List.map ePt d.shares))]),
      binA P .neq 3 (.tmp 17) (.const (.int .i64 (-1))) (.lit (.int .i64 d.vertex)) (.lit (.int .i64 (-1))) = some (.lit (.bool true)),
      some (AV.lit (.bool true)) = some (.lit (.bool true)),
      binA P .lss 3 (.tmp 20) (.const (.int .i64 0)) (.lit (.int .i64 d.vertex)) (.lit (.int .i64 0)) = some (.lit (.bool false)),
      some (false == false) = some true,
      some (false == false) = some true,
      some (false == false) = some true,
      builtinA P (Hp.mk 6 (treeOf [(1, .cells [some (.slice 4 0 n 1 none)] 1), (4, .cells (rowc eStr L) 4), (5, .cells [some (.lit (.int .i64 d.vertex)), some (.frz 2 (List.map ePt d.shares))] 5)]) (treeOf [(1, [1]), (4, [4]), (5, [5])]) gl 1) .len #[106] 3 [(.frz 2 (List.map ePt d.shares))] = some (.val (.lit (.int .i64 ((d.shares.length : Nat) : Int))) (Hp.mk 6 (treeOf [(1, .cells [some (.slice 4 0 n 1 none)] 1), (4, .cells (rowc eStr L) 4), (5, .cells [some (.lit (.int .i64 d.vertex)), some (.frz 2 (List.map ePt d.shares))] 5)]) (treeOf [(1, [1]), (4, [4]), (5, [5])]) gl 1)),
      some (false == false) = some true,
      binA P .gtr 3 (.tmp 25) (.const (.int .i64 0)) (.lit (.int .i64 ((d.shares.length : Nat) : Int))) (.lit (.int .i64 0)) = some (.lit (.bool true)),
      some (AV.lit (.bool true)) = some (.lit (.bool true)),
      Rn (nameF 4 []) 5 (.lit (.bool false)) (.lit (.bool false)),
      RnO (nameF 4 []) 5 (.cells [some (.slice 4 0 n 1 none)] 1) (.cells [some (.slice 4 0 n 1 none)] 1),
      RnO (nameF 4 []) 5 (.cells (rowc eStr L) 4) (.cells (rowc eStr L) 4)])
    (τ := []) (nx := 5) (l := [(4, (.lit (.bool false)))])
    (bs := [(1, .cells [some (.slice 4 0 n 1 none)] 1), (4, .cells (rowc eStr L) 4)]) (by kernel_rfl) ⟨bin_b (c := decide ((((i : Nat) : Int) : Int) < ((ns.length : Nat) : Int))) (by kernel_rfl) (dt (by omega)), rfl, index_frz (n := i) (by kernel_rfl) hd, bin_b (c := (d.vertex : Int) != -1) (by kernel_rfl) (nt (by omega)), rfl, bin_b (c := decide ((d.vertex : Int) < 0)) (by kernel_rfl) (df (by omega)), rfl, rfl, rfl, len_frz (by kernel_rfl), rfl, bin_b (c := decide ((((d.shares.length : Nat) : Int) : Int) > 0)) (by kernel_rfl) (dt (by omega)), rfl, Pu.rn (.lit _), (RnC.cons (Rn.slice _ _ _ _ _ (by decide)) RnC.nil), RnC.row eStr_pu, trivial⟩
theorem wnodes_e (gl : Nat → Option (List Value)) (ns : List Nd) (i n : Nat) (L : List (List UInt8)) (hi : ns.length ≤ i) :
  DoesC P 4 52 (loopAt P 55 0) (frameOf [(0, (.ptr 1 0)), (10, (.frz 2 (List.map eNd ns))), (11, (.lit (.int .i64 ((ns.length : Nat) : Int)))), (12, (.lit (.int .i64 ((i : Nat) : Int))))]) (heapOf 5 [(1, .cells [some (.slice 4 0 n 1 none)] 1), (4, .cells (rowc eStr L) 4)] gl) (.exit 0)
    (frameOf [(0, (.ptr 1 0))]) (heapOf 5 [(1, .cells [some (.slice 4 0 n 1 none)] 1), (4, .cells (rowc eStr L) 4)] gl) :=
  pathR follows (n := 1000) (s := [.giv (.lit (.bool false)), .dec false])
    (obs := [binA P .lss 3 (.tmp 12) (.tmp 11) (.lit (.int .i64 ((i : Nat) : Int))) (.lit (.int .i64 ((ns.length : Nat) : Int))) = some (.lit (.bool false)),
      some (AV.lit (.bool false)) = some (.lit (.bool false)),
      Rn (nameF 4 []) 5 (.ptr 1 0) (.ptr 1 0),
      RnO (nameF 4 []) 5 (.cells [some (.slice 4 0 n 1 none)] 1) (.cells [some (.slice 4 0 n 1 none)] 1),
      RnO (nameF 4 []) 5 (.cells (rowc eStr L) 4) (.cells (rowc eStr L) 4)])
    (τ := []) (nx := 5) (l := [(0, (.ptr 1 0))])
    (bs := [(1, .cells [some (.slice 4 0 n 1 none)] 1), (4, .cells (rowc eStr L) 4)]) (by kernel_rfl) ⟨bin_b (c := decide ((((i : Nat) : Int) : Int) < ((ns.length : Nat) : Int))) (by kernel_rfl) (df (by omega)), rfl, Rn.ptr _ _ (by decide), (RnC.cons (Rn.slice _ _ _ _ _ (by decide)) RnC.nil), RnC.row eStr_pu, trivial⟩
theorem wnodes_round (gl : Nat → Option (List Value)) (h3 : gl 3 = some pow10) (ns : List Nd) (hr : ∀ d ∈ ns, okNd d) (hs : ∀ d ∈ ns, 2 * d.shares.length ≤ 268435450) (n : Nat) (L : List (List UInt8)) (hn : n = L.length) (hf : n + ns.length ≤ 100000000) (i : Nat) (d : Nd) (hd : ns[i]? = some d) (hk : nodeOk d = true) :
  DoesC P 4 52 (loopAt P 55 0) (frameOf [(0, (.ptr 1 0)), (10, (.frz 2 (List.map eNd ns))), (11, (.lit (.int .i64 ((ns.length : Nat) : Int)))), (12, (.lit (.int .i64 ((i : Nat) : Int))))]) (heapOf 5 [(1, .cells [some (.slice 4 0 (n + i) 1 none)] 1), (4, .cells (rowc eStr (L ++ List.map nodeWord (List.take i ns))) 4)] gl) .normal (frameOf [(0, (.ptr 1 0)), (10, (.frz 2 (List.map eNd ns))), (11, (.lit (.int .i64 ((ns.length : Nat) : Int)))), (12, (.lit (.int .i64 ((i + 1 : Nat) : Int))))]) (heapOf 5 [(1, .cells [some (.slice 4 0 (n + i + 1) 1 none)] 1), (4, .cells (rowc eStr (L ++ List.map nodeWord (List.take (i + 1) ns))) 4)] gl) := by
  have hm := at_mem hd
  have hi := at_lt hd
  have e := take_map_succ hd nodeWord
  have hl : n + i = (L ++ List.map nodeWord (List.take i ns)).length := by rw [List.length_append, List.length_map, List.length_take]; omega
  rw [e]
  by_cases hv : 0 ≤ d.vertex
  · have h1 : d.shares.length = 0 := by
      unfold nodeOk at hk
      have h2 : (d.vertex == -1) = false := by rw [beq_eq_false_iff_ne]; omega
      rw [h2] at hk
      simp only [Bool.or_false, Bool.and_eq_true, decide_eq_true_eq, List.isEmpty_iff] at hk
      rw [hk.2]; rfl
    have e2 : nodeWord d = wordOf [110, 111, 100, 101] [d.vertex] := by unfold nodeWord; rw [if_pos hv]
    rw [e2, ← List.append_assoc]
    exact wnodes_a gl h3 ns i (n + i) _ hl (by omega) d hd hi (by omega) (hr d hm).1 hv h1
  · have h1 : d.vertex = -1 := by
      unfold nodeOk at hk
      have h2 : decide (0 ≤ d.vertex) = false := decide_eq_false hv
      rw [h2] at hk
      simpa using hk
    have e2 : nodeWord d = wordOf [108, 101, 97, 102] (pts d.shares) := by unfold nodeWord; rw [if_neg hv]
    rw [e2, ← List.append_assoc]
    exact wnodes_c gl h3 ns i (n + i) _ hl (by omega) d hd hi (by omega) (hr d hm).2 (hs d hm) h1
theorem wnodes_ok (gl : Nat → Option (List Value)) (h3 : gl 3 = some pow10) (ns : List Nd) (hr : ∀ d ∈ ns, okNd d) (hs : ∀ d ∈ ns, 2 * d.shares.length ≤ 268435450) (n : Nat) (L : List (List UInt8)) (hn : n = L.length) (hf : n + ns.length ≤ 100000000) (ha : ns.all nodeOk = true) :
  DoesL P 4 52 (loopAt P 55 0) (frameOf [(0, (.ptr 1 0)), (10, (.frz 2 (List.map eNd ns))), (11, (.lit (.int .i64 ((ns.length : Nat) : Int)))), (12, (.lit (.int .i64 0)))]) (heapOf 5 [(1, .cells [some (.slice 4 0 n 1 none)] 1), (4, .cells (rowc eStr L) 4)] gl) (.exit 0) (frameOf [(0, (.ptr 1 0))]) (heapOf 5 [(1, .cells [some (.slice 4 0 (n + ns.length) 1 none)] 1), (4, .cells (rowc eStr (L ++ List.map nodeWord ns)) 4)] gl) := by
  have h := loop_list (P := P) (K := 4) (nt := 52) (c := loopAt P 55 0) (xs := ns) (fun i => frameOf [(0, (.ptr 1 0)), (10, (.frz 2 (List.map eNd ns))), (11, (.lit (.int .i64 ((ns.length : Nat) : Int)))), (12, (.lit (.int .i64 ((i : Nat) : Int))))]) (fun i => (heapOf 5 [(1, .cells [some (.slice 4 0 (n + i) 1 none)] 1), (4, .cells (rowc eStr (L ++ List.map nodeWord (List.take i ns))) 4)] gl)) (e := .exit 0) (fr' := frameOf [(0, (.ptr 1 0))]) (H' := (heapOf 5 [(1, .cells [some (.slice 4 0 (n + ns.length) 1 none)] 1), (4, .cells (rowc eStr (L ++ List.map nodeWord ns)) 4)] gl)) (fun i x hx => wnodes_round gl h3 ns hr hs n L hn hf i x hx (all_at ha hx)) ?_ (by simp)
  · simp only [List.take_zero, List.map_nil, List.append_nil, Nat.add_zero] at h
    exact h
  · have r := wnodes_e gl ns ns.length (n + ns.length) (L ++ List.map nodeWord ns) (Nat.le_refl _)
    rw [List.take_length]
    exact r
theorem wnodes_bad (gl : Nat → Option (List Value)) (h3 : gl 3 = some pow10) (ns : List Nd) (hr : ∀ d ∈ ns, okNd d) (hs : ∀ d ∈ ns, 2 * d.shares.length ≤ 268435450) (n : Nat) (L : List (List UInt8)) (hn : n = L.length) (hf : n + ns.length ≤ 100000000) (ha : ns.all nodeOk = false) :
  ∃ m, m < ns.length ∧ DoesL P 4 52 (loopAt P 55 0) (frameOf [(0, (.ptr 1 0)), (10, (.frz 2 (List.map eNd ns))), (11, (.lit (.int .i64 ((ns.length : Nat) : Int)))), (12, (.lit (.int .i64 0)))]) (heapOf 5 [(1, .cells [some (.slice 4 0 n 1 none)] 1), (4, .cells (rowc eStr L) 4)] gl) .ret (frameOf [(4, .lit (.bool false))]) (heapOf 5 [(1, .cells [some (.slice 4 0 (n + m) 1 none)] 1), (4, .cells (rowc eStr (L ++ List.map nodeWord (List.take m ns))) 4)] gl) := by
  obtain ⟨m, d, h1, h2, h3'⟩ := first_bad nodeOk ns ha
  have hmm := at_lt h1
  refine ⟨m, hmm, ?_⟩
  have hl : n + m = (L ++ List.map nodeWord (List.take m ns)).length := by rw [List.length_append, List.length_map, List.length_take]; omega
  have h := loop_until (P := P) (K := 4) (nt := 52) (c := loopAt P 55 0) (fun i => frameOf [(0, (.ptr 1 0)), (10, (.frz 2 (List.map eNd ns))), (11, (.lit (.int .i64 ((ns.length : Nat) : Int)))), (12, (.lit (.int .i64 ((i : Nat) : Int))))]) (fun i => (heapOf 5 [(1, .cells [some (.slice 4 0 (n + i) 1 none)] 1), (4, .cells (rowc eStr (L ++ List.map nodeWord (List.take i ns))) 4)] gl)) m (e := .ret) (fr' := frameOf [(4, .lit (.bool false))]) (H' := (heapOf 5 [(1, .cells [some (.slice 4 0 (n + m) 1 none)] 1), (4, .cells (rowc eStr (L ++ List.map nodeWord (List.take m ns))) 4)] gl)) (fun i hi => ?_) ?_ (by simp)
  · simp only [List.take_zero, List.map_nil, List.append_nil, Nat.add_zero] at h
    exact h
  · have hx : ns[i]? = some ns[i] := List.getElem?_eq_getElem (by omega)
    exact wnodes_round gl h3 ns hr hs n L hn hf i _ hx (h3' i _ hi hx)
  · unfold nodeOk at h2
    simp only [Bool.or_eq_false_iff, Bool.and_eq_false_iff, decide_eq_false_iff_not, beq_eq_false_iff_ne] at h2
    obtain ⟨k1, k2⟩ := h2
    by_cases hv : 0 ≤ d.vertex
    · have k3 : d.shares.length ≠ 0 := by
        rcases k1 with k1 | k1
        · exact absurd hv k1
        · intro h0; rw [List.length_eq_zero_iff.1 h0] at k1; cases k1
      exact wnodes_b2 gl h3 ns m (n + m) _ hl (by omega) d h1 hmm (by omega) hv k3
    · exact wnodes_b1 gl h3 ns m (n + m) _ hl (by omega) d h1 hmm (by omega) (by omega)
end Go.Proofs.F
