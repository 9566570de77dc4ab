/-
  Of the texts that prove drosslaw46.CertificateFormat: for every certificate of bulk at most 1048576 the law returns true, and the argument reads as before. Condition: the listed package-level variables hold what the program lays.
-/
import Derived.Test.YthgkipklofkoaaaGreatDoorC8
open Go Go.Proofs Go.Cam Go.RowKit
set_option maxRecDepth 1000000
namespace Go.Proofs.F

theorem lines_a1 (gl : Nat → Option (List Value)) (s : List UInt8) (i : Nat) (b : UInt8) (hb : s[i]? = some b) (hi : i < s.length) (hN : s.length ≤ 1000000000) (x : List UInt8) (hc : b.toNat = 10) :
  DoesC P 0 37 (loopAt P 22 0) (frameOf [(0, (.lit (.string (bs s)))), (3, (.slice 0 0 1 1 (some 1))), (4, (.lit (.int .i64 ((i : Nat) : Int))))]) (heapOf 1 [(0, .cells [some (.lit (.string (bs x)))] 0)] gl) .normal
    (frameOf [(0, (.lit (.string (bs s)))), (3, (.slice 0 0 2 1 none)), (4, (.lit (.int .i64 ((i + 1 : Nat) : Int))))]) (heapOf 1 [(0, .cells [some (.lit (.string (bs x))), some (.lit (.string (bs ([]))))] 0)] gl) :=
  pathR follows (n := 1000) (s := [.auto 2, .giv (.lit (.int .i64 ((s.length : Nat) : Int))), .giv (.lit (.bool true)), .dec true, .auto 2, .giv (.lit (.int .u8 ((b.toNat : Nat) : Int))), .giv (.lit (.bool true)), .dec true, .auto 5, .giv (.lit (.int .i64 ((i + 1 : Nat) : Int))), .auto 1])
    (obs := [builtinA P (Hp.mk 1 (treeOf [(0, .cells [some (.lit (.string (bs x)))] 0)]) (treeOf [(0, [0])]) gl 1) .len #[9] 3 [(.lit (.string (bs s)))] = some (.val (.lit (.int .i64 ((s.length : Nat) : Int))) (Hp.mk 1 (treeOf [(0, .cells [some (.lit (.string (bs x)))] 0)]) (treeOf [(0, [0])]) gl 1)),
      binA P .lss 3 (.tmp 6) (.tmp 8) (.lit (.int .i64 ((i : Nat) : Int))) (.lit (.int .i64 ((s.length : Nat) : Int))) = some (.lit (.bool true)),
      some (AV.lit (.bool true)) = some (.lit (.bool true)),
      indexA P 9 (.lit (.string (bs s))) (.lit (.int .i64 ((i : Nat) : Int))) = some (.lit (.int .u8 ((b.toNat : Nat) : Int))),
      binA P .eql 5 (.tmp 14) (.const (.int .u8 10)) (.lit (.int .u8 ((b.toNat : Nat) : Int))) (.lit (.int .u8 10)) = some (.lit (.bool true)),
      some (AV.lit (.bool true)) = some (.lit (.bool true)),
      binA P .add 3 (.tmp 10) (.const (.int .i64 1)) (.lit (.int .i64 ((i : Nat) : Int))) (.lit (.int .i64 1)) = some (.lit (.int .i64 ((i + 1 : Nat) : Int))),
      Rn (nameF 0 [(0, 2)]) 1 (.lit (.string (bs s))) (.lit (.string (bs s))),
      Rn (nameF 0 [(0, 2)]) 1 (.slice 0 0 2 1 none) (.slice 2 0 2 1 none),
      Rn (nameF 0 [(0, 2)]) 1 (.lit (.int .i64 ((i + 1 : Nat) : Int))) (.lit (.int .i64 ((i + 1 : Nat) : Int))),
      RnO (nameF 0 [(0, 2)]) 1 (.cells [some (.lit (.string (bs x))), some (.lit (.string (bs ([]))))] 0) (.cells [some (.lit (.string (bs x))), some (.lit (.string (bs ([]))))] 2)])
    (τ := [(0, 2)]) (nx := 1) (l := [(0, (.lit (.string (bs s)))), (3, (.slice 0 0 2 1 none)), (4, (.lit (.int .i64 ((i + 1 : Nat) : Int))))])
    (bs := [(0, .cells [some (.lit (.string (bs x))), some (.lit (.string (bs ([]))))] 0)]) (by kernel_rfl) ⟨len_bs (by kernel_rfl), bin_b (c := decide ((((i : Nat) : Int) : Int) < ((s.length : Nat) : Int))) (by kernel_rfl) (dt (by omega)), rfl, index_bs (by kernel_rfl) hb, bin_b (c := (((b.toNat : Nat) : Int) : Int) == 10) (by kernel_rfl) (et (by omega)), rfl, binA_addN (a := i) (b := 1) (by omega), Pu.rn (.lit _), Rn.slice _ _ _ _ _ (by decide), Pu.rn (.lit _), (RnC.cons (Pu.rn (.lit _)) (RnC.cons (Pu.rn (.lit _)) RnC.nil)), trivial⟩
theorem lines_a2 (gl : Nat → Option (List Value)) (s : List UInt8) (i : Nat) (b : UInt8) (hb : s[i]? = some b) (hi : i < s.length) (hN : s.length ≤ 1000000000) (x : List UInt8) (hc : b.toNat ≠ 10) (hx : x.length ≤ 1000000000) :
  DoesC P 0 37 (loopAt P 22 0) (frameOf [(0, (.lit (.string (bs s)))), (3, (.slice 0 0 1 1 (some 1))), (4, (.lit (.int .i64 ((i : Nat) : Int))))]) (heapOf 1 [(0, .cells [some (.lit (.string (bs x)))] 0)] gl) .normal
    (frameOf [(0, (.lit (.string (bs s)))), (3, (.slice 0 0 1 1 (some 1))), (4, (.lit (.int .i64 ((i + 1 : Nat) : Int))))]) (heapOf 1 [(0, .cells [some (.lit (.string (bs (x ++ ([b])))))] 0)] gl) :=
  pathR follows (n := 1000) (s := [.auto 2, .giv (.lit (.int .i64 ((s.length : Nat) : Int))), .giv (.lit (.bool true)), .dec true, .auto 2, .giv (.lit (.int .u8 ((b.toNat : Nat) : Int))), .giv (.lit (.bool false)), .dec false, .auto 13, .giv (.lit (.int .i64 ((i + 1 : Nat) : Int))), .giv (.lit (.string (bs ([b])))), .giv (.lit (.string (bs (x ++ ([b]))))), .auto 3, .giv (.lit (.int .i64 ((i + 1 : Nat) : Int))), .auto 1])
    (obs := [builtinA P (Hp.mk 1 (treeOf [(0, .cells [some (.lit (.string (bs x)))] 0)]) (treeOf [(0, [0])]) gl 1) .len #[9] 3 [(.lit (.string (bs s)))] = some (.val (.lit (.int .i64 ((s.length : Nat) : Int))) (Hp.mk 1 (treeOf [(0, .cells [some (.lit (.string (bs x)))] 0)]) (treeOf [(0, [0])]) gl 1)),
      binA P .lss 3 (.tmp 6) (.tmp 8) (.lit (.int .i64 ((i : Nat) : Int))) (.lit (.int .i64 ((s.length : Nat) : Int))) = some (.lit (.bool true)),
      some (AV.lit (.bool true)) = some (.lit (.bool true)),
      indexA P 9 (.lit (.string (bs s))) (.lit (.int .i64 ((i : Nat) : Int))) = some (.lit (.int .u8 ((b.toNat : Nat) : Int))),
      binA P .eql 5 (.tmp 14) (.const (.int .u8 10)) (.lit (.int .u8 ((b.toNat : Nat) : Int))) (.lit (.int .u8 10)) = some (.lit (.bool false)),
      some (AV.lit (.bool false)) = some (.lit (.bool false)),
      binA P .add 3 (.tmp 31) (.const (.int .i64 1)) (.lit (.int .i64 ((i : Nat) : Int))) (.lit (.int .i64 1)) = some (.lit (.int .i64 ((i + 1 : Nat) : Int))),
      sliceA P 9 (.lit (.string (bs s))) (some (.lit (.int .i64 ((i : Nat) : Int)))) (some (.lit (.int .i64 ((i + 1 : Nat) : Int)))) (Hp.mk 19 (treeOf [(0, .cells [some (.lit (.string (bs x)))] 0)]) (treeOf [(0, [0])]) gl 1) = some (.lit (.string (bs ([b])))),
      binA P .add 9 (.tmp 28) (.tmp 33) (.lit (.string (bs x))) (.lit (.string (bs ([b])))) = some (.lit (.string (bs (x ++ ([b]))))),
      binA P .add 3 (.tmp 10) (.const (.int .i64 1)) (.lit (.int .i64 ((i : Nat) : Int))) (.lit (.int .i64 1)) = some (.lit (.int .i64 ((i + 1 : Nat) : Int))),
      Rn (nameF 0 []) 1 (.lit (.string (bs s))) (.lit (.string (bs s))),
      Rn (nameF 0 []) 1 (.slice 0 0 1 1 (some 1)) (.slice 0 0 1 1 (some 1)),
      Rn (nameF 0 []) 1 (.lit (.int .i64 ((i + 1 : Nat) : Int))) (.lit (.int .i64 ((i + 1 : Nat) : Int))),
      RnO (nameF 0 []) 1 (.cells [some (.lit (.string (bs (x ++ ([b])))))] 0) (.cells [some (.lit (.string (bs (x ++ ([b])))))] 0)])
    (τ := []) (nx := 1) (l := [(0, (.lit (.string (bs s)))), (3, (.slice 0 0 1 1 (some 1))), (4, (.lit (.int .i64 ((i + 1 : Nat) : Int))))])
    (bs := [(0, .cells [some (.lit (.string (bs (x ++ ([b])))))] 0)]) (by kernel_rfl) ⟨len_bs (by kernel_rfl), bin_b (c := decide ((((i : Nat) : Int) : Int) < ((s.length : Nat) : Int))) (by kernel_rfl) (dt (by omega)), rfl, index_bs (by kernel_rfl) hb, bin_b (c := (((b.toNat : Nat) : Int) : Int) == 10) (by kernel_rfl) (ef (by omega)), rfl, binA_addN (a := i) (b := 1) (by omega), slice_bs1 (by kernel_rfl) hb, binA_bs (by simp only [List.length_cons, List.length_nil]; omega), binA_addN (a := i) (b := 1) (by omega), Pu.rn (.lit _), Rn.slice _ _ _ _ _ (by decide), Pu.rn (.lit _), (RnC.cons (Pu.rn (.lit _)) RnC.nil), trivial⟩
theorem lines_b1 (gl : Nat → Option (List Value)) (s : List UInt8) (i : Nat) (b : UInt8) (hb : s[i]? = some b) (hi : i < s.length) (hN : s.length ≤ 1000000000) (n : Nat) (L : List (List UInt8)) (hn : n = L.length) (hf : n + 1 ≤ 268435456) (hc : b.toNat = 10) :
  DoesC P 0 37 (loopAt P 22 0) (frameOf [(0, (.lit (.string (bs s)))), (3, (.slice 0 0 n 1 none)), (4, (.lit (.int .i64 ((i : Nat) : Int))))]) (heapOf 1 [(0, .cells (rowc eStr L) 0)] gl) .normal
    (frameOf [(0, (.lit (.string (bs s)))), (3, (.slice 0 0 (n + 1) 1 none)), (4, (.lit (.int .i64 ((i + 1 : Nat) : Int))))]) (heapOf 1 [(0, .cells (rowc eStr (L ++ [[]])) 0)] gl) :=
  pathR follows (n := 1000) (s := [.auto 2, .giv (.lit (.int .i64 ((s.length : Nat) : Int))), .giv (.lit (.bool true)), .dec true, .auto 2, .giv (.lit (.int .u8 ((b.toNat : Nat) : Int))), .giv (.lit (.bool true)), .dec true, .auto 2, .givH (.slice 2 0 (n + 1) 1 none) (Hp.mk 3 (treeOf [(0, .cells (rowc eStr L) 0), (1, .cells [some (.lit (.string (bs ([]))))] 1), (2, .cells (rowc eStr (L ++ [[]])) 0)]) (treeOf [(0, [2, 0]), (1, [1])]) gl 1), .auto 2, .giv (.lit (.int .i64 ((i + 1 : Nat) : Int))), .auto 1])
    (obs := [builtinA P (Hp.mk 1 (treeOf [(0, .cells (rowc eStr L) 0)]) (treeOf [(0, [0])]) gl 1) .len #[9] 3 [(.lit (.string (bs s)))] = some (.val (.lit (.int .i64 ((s.length : Nat) : Int))) (Hp.mk 1 (treeOf [(0, .cells (rowc eStr L) 0)]) (treeOf [(0, [0])]) gl 1)),
      binA P .lss 3 (.tmp 6) (.tmp 8) (.lit (.int .i64 ((i : Nat) : Int))) (.lit (.int .i64 ((s.length : Nat) : Int))) = some (.lit (.bool true)),
      some (AV.lit (.bool true)) = some (.lit (.bool true)),
      indexA P 9 (.lit (.string (bs s))) (.lit (.int .i64 ((i : Nat) : Int))) = some (.lit (.int .u8 ((b.toNat : Nat) : Int))),
      binA P .eql 5 (.tmp 14) (.const (.int .u8 10)) (.lit (.int .u8 ((b.toNat : Nat) : Int))) (.lit (.int .u8 10)) = some (.lit (.bool true)),
      some (AV.lit (.bool true)) = some (.lit (.bool true)),
      builtinA P (Hp.mk 2 (treeOf [(0, .cells (rowc eStr L) 0), (1, .cells [some (.lit (.string (bs ([]))))] 1)]) (treeOf [(0, [0]), (1, [1])]) gl 1) .append #[28, 28] 28 [(.slice 0 0 n 1 none), (.slice 1 0 1 1 (some 1))] = some (.val (.slice 2 0 (n + 1) 1 none) (Hp.mk 3 (treeOf [(0, .cells (rowc eStr L) 0), (1, .cells [some (.lit (.string (bs ([]))))] 1), (2, .cells (rowc eStr (L ++ [[]])) 0)]) (treeOf [(0, [2, 0]), (1, [1])]) gl 1)),
      binA P .add 3 (.tmp 10) (.const (.int .i64 1)) (.lit (.int .i64 ((i : Nat) : Int))) (.lit (.int .i64 1)) = some (.lit (.int .i64 ((i + 1 : Nat) : Int))),
      Rn (nameF 0 [(0, 2)]) 1 (.lit (.string (bs s))) (.lit (.string (bs s))),
      Rn (nameF 0 [(0, 2)]) 1 (.slice 0 0 (n + 1) 1 none) (.slice 2 0 (n + 1) 1 none),
      Rn (nameF 0 [(0, 2)]) 1 (.lit (.int .i64 ((i + 1 : Nat) : Int))) (.lit (.int .i64 ((i + 1 : Nat) : Int))),
      RnO (nameF 0 [(0, 2)]) 1 (.cells (rowc eStr (L ++ [[]])) 0) (.cells (rowc eStr (L ++ [[]])) 0)])
    (τ := [(0, 2)]) (nx := 1) (l := [(0, (.lit (.string (bs s)))), (3, (.slice 0 0 (n + 1) 1 none)), (4, (.lit (.int .i64 ((i + 1 : Nat) : Int))))])
    (bs := [(0, .cells (rowc eStr (L ++ [[]])) 0)]) (by kernel_rfl) ⟨len_bs (by kernel_rfl), bin_b (c := decide ((((i : Nat) : Int) : Int) < ((s.length : Nat) : Int))) (by kernel_rfl) (dt (by omega)), rfl, index_bs (by kernel_rfl) hb, bin_b (c := (((b.toNat : Nat) : Int) : Int) == 10) (by kernel_rfl) (et (by omega)), rfl, append_row (b := 0) (g := 0) (enc := eStr) (L := L) (L2 := (L ++ [[]])) (ys := [(.lit (.string (bs ([]))))]) (by kernel_rfl) (by kernel_rfl) (by kernel_rfl) (by kernel_rfl) (by simp [eStr]) (by rw [rowc_length eStr_len]; omega) (by kernel_rfl) (by omega) (by kernel_rfl) (by kernel_rfl), binA_addN (a := i) (b := 1) (by omega), Pu.rn (.lit _), Rn.slice _ _ _ _ _ (by decide), Pu.rn (.lit _), RnC.row eStr_pu, trivial⟩
theorem lines_b2 (gl : Nat → Option (List Value)) (s : List UInt8) (i : Nat) (b : UInt8) (hb : s[i]? = some b) (hi : i < s.length) (hN : s.length ≤ 1000000000) (m : Nat) (M : List (List UInt8)) (y : List UInt8) (hm : m = M.length) (hM : m ≤ 1000000000) (hy : y.length ≤ 1000000000) (hc : b.toNat ≠ 10) :
  DoesC P 0 37 (loopAt P 22 0) (frameOf [(0, (.lit (.string (bs s)))), (3, (.slice 0 0 (m + 1) 1 none)), (4, (.lit (.int .i64 ((i : Nat) : Int))))]) (heapOf 1 [(0, .cells (rowc eStr (M ++ [y])) 0)] gl) .normal
    (frameOf [(0, (.lit (.string (bs s)))), (3, (.slice 0 0 (m + 1) 1 none)), (4, (.lit (.int .i64 ((i + 1 : Nat) : Int))))]) (heapOf 1 [(0, .cells (rowc eStr (M ++ [(y ++ [b])])) 0)] gl) :=
  pathR follows (n := 1000) (s := [.auto 2, .giv (.lit (.int .i64 ((s.length : Nat) : Int))), .giv (.lit (.bool true)), .dec true, .auto 2, .giv (.lit (.int .u8 ((b.toNat : Nat) : Int))), .giv (.lit (.bool false)), .dec false, .auto 3, .giv (.lit (.int .i64 ((m : Nat) : Int))), .auto 3, .giv (.lit (.int .i64 ((m : Nat) : Int))), .giv (.ptr 0 m), .giv (.lit (.string (bs y))), .auto 3, .giv (.lit (.int .i64 ((i + 1 : Nat) : Int))), .giv (.lit (.string (bs ([b])))), .giv (.lit (.string (bs (y ++ ([b]))))), .giv (.ptr 0 m), .givH (.lit undef) (Hp.mk 19 (treeOf [(0, .cells (rowc eStr (M ++ [(y ++ [b])])) 0)]) (treeOf [(0, [0])]) gl 1), .auto 1, .giv (.lit (.int .i64 ((i + 1 : Nat) : Int))), .auto 1])
    (obs := [builtinA P (Hp.mk 1 (treeOf [(0, .cells (rowc eStr (M ++ [y])) 0)]) (treeOf [(0, [0])]) gl 1) .len #[9] 3 [(.lit (.string (bs s)))] = some (.val (.lit (.int .i64 ((s.length : Nat) : Int))) (Hp.mk 1 (treeOf [(0, .cells (rowc eStr (M ++ [y])) 0)]) (treeOf [(0, [0])]) gl 1)),
      binA P .lss 3 (.tmp 6) (.tmp 8) (.lit (.int .i64 ((i : Nat) : Int))) (.lit (.int .i64 ((s.length : Nat) : Int))) = some (.lit (.bool true)),
      some (AV.lit (.bool true)) = some (.lit (.bool true)),
      indexA P 9 (.lit (.string (bs s))) (.lit (.int .i64 ((i : Nat) : Int))) = some (.lit (.int .u8 ((b.toNat : Nat) : Int))),
      binA P .eql 5 (.tmp 14) (.const (.int .u8 10)) (.lit (.int .u8 ((b.toNat : Nat) : Int))) (.lit (.int .u8 10)) = some (.lit (.bool false)),
      some (AV.lit (.bool false)) = some (.lit (.bool false)),
      binA P .sub 3 (.tmp 21) (.const (.int .i64 1)) (.lit (.int .i64 (((m + 1) : Nat) : Int))) (.lit (.int .i64 1)) = some (.lit (.int .i64 ((m : Nat) : Int))),
      binA P .sub 3 (.tmp 25) (.const (.int .i64 1)) (.lit (.int .i64 (((m + 1) : Nat) : Int))) (.lit (.int .i64 1)) = some (.lit (.int .i64 ((m : Nat) : Int))),
      indexAddrA P 28 (.slice 0 0 (m + 1) 1 none) (.lit (.int .i64 ((m : Nat) : Int))) = some (.ptr 0 m),
      loadA P 9 (.ptr 0 m) (Hp.mk 19 (treeOf [(0, .cells (rowc eStr (M ++ [y])) 0)]) (treeOf [(0, [0])]) gl 1) = some (.lit (.string (bs y))),
      binA P .add 3 (.tmp 31) (.const (.int .i64 1)) (.lit (.int .i64 ((i : Nat) : Int))) (.lit (.int .i64 1)) = some (.lit (.int .i64 ((i + 1 : Nat) : Int))),
      sliceA P 9 (.lit (.string (bs s))) (some (.lit (.int .i64 ((i : Nat) : Int)))) (some (.lit (.int .i64 ((i + 1 : Nat) : Int)))) (Hp.mk 19 (treeOf [(0, .cells (rowc eStr (M ++ [y])) 0)]) (treeOf [(0, [0])]) gl 1) = some (.lit (.string (bs ([b])))),
      binA P .add 9 (.tmp 28) (.tmp 33) (.lit (.string (bs y))) (.lit (.string (bs ([b])))) = some (.lit (.string (bs (y ++ ([b]))))),
      indexAddrA P 28 (.slice 0 0 (m + 1) 1 none) (.lit (.int .i64 ((m : Nat) : Int))) = some (.ptr 0 m),
      storeA P 9 (.ptr 0 m) (.lit (.string (bs (y ++ ([b]))))) (Hp.mk 19 (treeOf [(0, .cells (rowc eStr (M ++ [y])) 0)]) (treeOf [(0, [0])]) gl 1) = some (Hp.mk 19 (treeOf [(0, .cells (rowc eStr (M ++ [(y ++ [b])])) 0)]) (treeOf [(0, [0])]) gl 1) ∧ (AV.lit undef) = .lit undef,
      binA P .add 3 (.tmp 10) (.const (.int .i64 1)) (.lit (.int .i64 ((i : Nat) : Int))) (.lit (.int .i64 1)) = some (.lit (.int .i64 ((i + 1 : Nat) : Int))),
      Rn (nameF 0 []) 1 (.lit (.string (bs s))) (.lit (.string (bs s))),
      Rn (nameF 0 []) 1 (.slice 0 0 (m + 1) 1 none) (.slice 0 0 (m + 1) 1 none),
      Rn (nameF 0 []) 1 (.lit (.int .i64 ((i + 1 : Nat) : Int))) (.lit (.int .i64 ((i + 1 : Nat) : Int))),
      RnO (nameF 0 []) 1 (.cells (rowc eStr (M ++ [(y ++ [b])])) 0) (.cells (rowc eStr (M ++ [(y ++ [b])])) 0)])
    (τ := []) (nx := 1) (l := [(0, (.lit (.string (bs s)))), (3, (.slice 0 0 (m + 1) 1 none)), (4, (.lit (.int .i64 ((i + 1 : Nat) : Int))))])
    (bs := [(0, .cells (rowc eStr (M ++ [(y ++ [b])])) 0)]) (by kernel_rfl) ⟨len_bs (by kernel_rfl), bin_b (c := decide ((((i : Nat) : Int) : Int) < ((s.length : Nat) : Int))) (by kernel_rfl) (dt (by omega)), rfl, index_bs (by kernel_rfl) hb, bin_b (c := (((b.toNat : Nat) : Int) : Int) == 10) (by kernel_rfl) (ef (by omega)), rfl, binA_subN (by omega), binA_subN (by omega), index_own (by kernel_rfl) (by omega), load_row1 (enc := eStr) (f := fun x => .lit (.string (bs x))) (L := M ++ [y]) (g := 0) (by kernel_rfl) (fun _ => rfl) (by kernel_rfl) (by rw [hm]; simp), binA_addN (a := i) (b := 1) (by omega), slice_bs1 (by kernel_rfl) hb, binA_bs (by simp only [List.length_cons, List.length_nil]; omega), index_own (by kernel_rfl) (by omega), ⟨store_last (enc := eStr) (f := fun x => .lit (.string (bs x))) (y := y) (y2 := y ++ [b]) (M := M) (g := 0) (by kernel_rfl) (fun _ => rfl) (by kernel_rfl) (by kernel_rfl) hm rfl rfl (by kernel_rfl), rfl⟩, binA_addN (a := i) (b := 1) (by omega), Pu.rn (.lit _), Rn.slice _ _ _ _ _ (by decide), Pu.rn (.lit _), RnC.row eStr_pu, trivial⟩
theorem lines_ea (gl : Nat → Option (List Value)) (s x : List UInt8) (i : Nat) (hi : s.length ≤ i) :
  DoesC P 0 37 (loopAt P 22 0) (frameOf [(0, (.lit (.string (bs s)))), (3, (.slice 0 0 1 1 (some 1))), (4, (.lit (.int .i64 ((i : Nat) : Int))))]) (heapOf 1 [(0, .cells [some (.lit (.string (bs x)))] 0)] gl) (.exit 0)
    (frameOf [(3, (.slice 0 0 1 1 (some 1)))]) (Hp.mk 1 (treeOf [(0, .cells [some (.lit (.string (bs x)))] 0)]) (treeOf [(0, [0])]) gl 1) :=
  path follows (n := 1000) (s := [.auto 2, .giv (.lit (.int .i64 ((s.length : Nat) : Int))), .giv (.lit (.bool false)), .dec false])
    (obs := [builtinA P (Hp.mk 1 (treeOf [(0, .cells [some (.lit (.string (bs x)))] 0)]) (treeOf [(0, [0])]) gl 1) .len #[9] 3 [(.lit (.string (bs s)))] = some (.val (.lit (.int .i64 ((s.length : Nat) : Int))) (Hp.mk 1 (treeOf [(0, .cells [some (.lit (.string (bs x)))] 0)]) (treeOf [(0, [0])]) gl 1)),
      binA P .lss 3 (.tmp 6) (.tmp 8) (.lit (.int .i64 ((i : Nat) : Int))) (.lit (.int .i64 ((s.length : Nat) : Int))) = some (.lit (.bool false)),
      some (AV.lit (.bool false)) = some (.lit (.bool false))])
    (ts := [3]) (by kernel_rfl) ⟨len_bs (by kernel_rfl), bin_b (c := decide ((((i : Nat) : Int) : Int) < ((s.length : Nat) : Int))) (by kernel_rfl) (df (by omega)), rfl, trivial⟩
theorem lines_eb (gl : Nat → Option (List Value)) (s : List UInt8) (n : Nat) (L : List (List UInt8)) (i : Nat) (hi : s.length ≤ i) :
  DoesC P 0 37 (loopAt P 22 0) (frameOf [(0, (.lit (.string (bs s)))), (3, (.slice 0 0 n 1 none)), (4, (.lit (.int .i64 ((i : Nat) : Int))))]) (heapOf 1 [(0, .cells (rowc eStr L) 0)] gl) (.exit 0)
    (frameOf [(3, (.slice 0 0 n 1 none))]) (Hp.mk 1 (treeOf [(0, .cells (rowc eStr L) 0)]) (treeOf [(0, [0])]) gl 1) :=
  path follows (n := 1000) (s := [.auto 2, .giv (.lit (.int .i64 ((s.length : Nat) : Int))), .giv (.lit (.bool false)), .dec false])
    (obs := [builtinA P (Hp.mk 1 (treeOf [(0, .cells (rowc eStr L) 0)]) (treeOf [(0, [0])]) gl 1) .len #[9] 3 [(.lit (.string (bs s)))] = some (.val (.lit (.int .i64 ((s.length : Nat) : Int))) (Hp.mk 1 (treeOf [(0, .cells (rowc eStr L) 0)]) (treeOf [(0, [0])]) gl 1)),
      binA P .lss 3 (.tmp 6) (.tmp 8) (.lit (.int .i64 ((i : Nat) : Int))) (.lit (.int .i64 ((s.length : Nat) : Int))) = some (.lit (.bool false)),
      some (AV.lit (.bool false)) = some (.lit (.bool false))])
    (ts := [3]) (by kernel_rfl) ⟨len_bs (by kernel_rfl), bin_b (c := decide ((((i : Nat) : Int) : Int) < ((s.length : Nat) : Int))) (by kernel_rfl) (df (by omega)), rfl, trivial⟩
def capOf : List (List UInt8) → Option Nat
  | [_] => some 1
  | _ => none
theorem capOf_none : ∀ {L : List (List UInt8)}, 2 ≤ L.length → capOf L = none
  | [], h => by simp at h
  | [_], h => by simp at h
  | _ :: _ :: _, _ => rfl
def linesF (s : List UInt8) (L : List (List UInt8)) (i : Nat) : T AV := frameOf [(0, .lit (.string (bs s))), (3, .slice 0 0 L.length 1 (capOf L)), (4, .lit (.int .i64 ((i : Nat) : Int)))]
def linesH (gl : Nat → Option (List Value)) (L : List (List UInt8)) : Hp := heapOf 1 [(0, .cells (rowc eStr L) 0)] gl
theorem lines_count (s : List UInt8) : ∀ L : List (List UInt8), L ≠ [] → (s.foldl stepL L).length ≤ L.length + s.length := by
  induction s with
  | nil => intro L _; simp
  | cons b s ih =>
    intro L hL
    have := ih (stepL L b) (stepL_ne L b)
    have h2 : (stepL L b).length ≤ L.length + 1 := by
      have := List.length_pos_iff.2 hL
      unfold stepL; split
      · simp
      · rw [List.length_append, List.length_dropLast, List.length_cons, List.length_nil]; omega
    simp only [List.foldl_cons, List.length_cons]; omega
theorem lines_each (s : List UInt8) : ∀ (L : List (List UInt8)) (k : Nat), L ≠ [] → (∀ y ∈ L, y.length ≤ k) → ∀ y ∈ s.foldl stepL L, y.length ≤ k + s.length := by
  induction s with
  | nil => intro L k _ h y hy; have := h y hy; simp; omega
  | cons b s ih =>
    intro L k hL h y hy
    have h2 : ∀ y ∈ stepL L b, y.length ≤ k + 1 := by
      intro y hy
      unfold stepL at hy
      split at hy
      · rcases List.mem_append.1 hy with h1 | h1
        · have := h y h1; omega
        · simp at h1; subst h1; simp
      · rcases List.mem_append.1 hy with h1 | h1
        · have := h y (List.dropLast_subset _ h1); omega
        · simp only [List.mem_cons, List.not_mem_nil, or_false] at h1
          subst h1
          have h3 : L.getLastD [] ∈ L := by
            rw [List.getLastD_eq_getLast?, List.getLast?_eq_some_getLast hL]; exact List.getLast_mem hL
          have := h _ h3
          simp only [List.length_append, List.length_cons, List.length_nil]; omega
    have := ih (stepL L b) (k + 1) (stepL_ne L b) h2 y hy
    simp only [List.length_cons]; omega
theorem u8_ten {b : UInt8} : b.toNat = 10 ↔ b = 10 := ⟨fun h => UInt8.toNat_inj.1 h, fun h => by rw [h]; rfl⟩
theorem lines_round (gl : Nat → Option (List Value)) (s : List UInt8) (i : Nat) (b : UInt8) (hb : s[i]? = some b) (hN : s.length ≤ 100000000) (L : List (List UInt8)) (h0 : L ≠ []) (hc : L.length ≤ 1 + i) (he : ∀ y ∈ L, y.length ≤ i) :
    DoesC P 0 37 (loopAt P 22 0) (linesF s L i) (linesH gl L) .normal (linesF s (stepL L b) (i + 1)) (linesH gl (stepL L b)) := by
  have hi := at_lt hb
  match L, h0 with
  | [x], _ =>
    by_cases h10 : b = 10
    · subst h10
      exact lines_a1 gl s i 10 hb hi (by omega) x rfl
    · have e : stepL [x] b = [x ++ [b]] := by simp [stepL, h10]
      rw [e]
      exact lines_a2 gl s i b hb hi (by omega) x (fun h => h10 (u8_ten.1 h)) (by have := he x (by simp); omega)
  | y :: z :: r, _ =>
    by_cases h10 : b = 10
    · subst h10
      have q := lines_b1 gl s i 10 hb hi (by omega) _ (y :: z :: r) rfl (by omega) rfl
      have e : stepL (y :: z :: r) 10 = (y :: z :: r) ++ [[]] := by simp [stepL]
      rw [e]
      unfold linesF
      rw [List.length_append]
      exact q
    · have hne : y :: z :: r ≠ [] := by simp
      have hl := List.dropLast_concat_getLast hne
      have hlast : (y :: z :: r).getLastD [] = (y :: z :: r).getLast hne := by rw [List.getLastD_eq_getLast?, List.getLast?_eq_some_getLast hne]; rfl
      have e : stepL (y :: z :: r) b = (y :: z :: r).dropLast ++ [(y :: z :: r).getLast hne ++ [b]] := by unfold stepL; rw [if_neg h10, hlast]
      have r0 := lines_b2 gl s i b hb hi (by omega) _ (y :: z :: r).dropLast ((y :: z :: r).getLast hne) rfl (by simp at hc ⊢; omega) (by have := he _ (List.getLast_mem hne); omega) (fun h => h10 (u8_ten.1 h))
      rw [hl] at r0
      have e1 : (y :: z :: r).dropLast.length + 1 = (y :: z :: r).length := by simp
      rw [e1] at r0
      have e2 : ((y :: z :: r).dropLast ++ [(y :: z :: r).getLast hne ++ [b]]).length = (y :: z :: r).length := by rw [List.length_append]; exact e1
      have e3 : capOf ((y :: z :: r).dropLast ++ [(y :: z :: r).getLast hne ++ [b]]) = none := capOf_none (by rw [e2]; simp)
      rw [e]
      unfold linesF
      rw [e2, e3]
      exact r0
theorem lines_end (gl : Nat → Option (List Value)) (s : List UInt8) (i : Nat) (hi : s.length ≤ i) (L : List (List UInt8)) (h0 : L ≠ []) :
    DoesC P 0 37 (loopAt P 22 0) (linesF s L i) (linesH gl L) (.exit 0) (frameOf [(3, .slice 0 0 L.length 1 (capOf L))]) (linesH gl L) := by
  match L, h0 with
  | [x], _ => exact lines_ea gl s x i hi
  | y :: z :: r, _ => exact lines_eb gl s _ (y :: z :: r) i hi
theorem lines_loop (gl : Nat → Option (List Value)) (s : List UInt8) (hN : s.length ≤ 100000000) :
    DoesL P 0 37 (loopAt P 22 0) (frameOf [(0, .lit (.string (bs s))), (3, .slice 0 0 1 1 (some 1)), (4, .lit (.int .i64 0))]) (heapOf 1 [(0, .cells [some (.lit (.string (bs [])))] 0)] gl) (.exit 0) (frameOf [(3, .slice 0 0 (linesOf s).length 1 (capOf (linesOf s)))]) (heapOf 1 [(0, .cells (rowc eStr (linesOf s)) 0)] gl) := by
  refine loop_list (xs := s) (fun i => linesF s ((s.take i).foldl stepL [[]]) i) (fun i => linesH gl ((s.take i).foldl stepL [[]])) (fun i b hb => ?_) ?_ (by simp)
  · rw [take_foldl_succ hb]
    have hi := at_lt hb
    have h1 := lines_count (s.take i) [[]] (by simp)
    have h2 := lines_each (s.take i) [[]] 0 (by simp) (by simp)
    have e : (s.take i).length = i := by rw [List.length_take]; omega
    rw [e] at h1 h2
    exact lines_round gl s i b hb hN _ (linesOf_ne _ _ (by simp)) (by simpa using h1) (by simpa using h2)
  · rw [List.take_length]
    exact lines_end gl s s.length (Nat.le_refl _) (linesOf s) (linesOf_ne s [[]] (by simp))
theorem lines_run (gl : Nat → Option (List Value)) (s : List UInt8) (hN : s.length ≤ 100000000) :
  Does P 22 [(.lit (.string (bs s)))] (heapOf 0 [] gl) (.slice 0 0 ((linesOf s).length) 1 (capOf (linesOf s))) (Hp.mk 1 (treeOf [(0, .cells (rowc eStr (linesOf s)) 0)]) (treeOf [(0, [0])]) gl 1) :=
  does follows (n := 1000) (s := [.auto 4, .loopR [] 1 [(0, (.lit (.string (bs s)))), (3, (.slice 0 0 1 1 (some 1))), (4, (.lit (.int .i64 0)))] [(0, .cells [some (.lit (.string (bs ([]))))] 0)] (.exit 0) (frameOf [(3, (.slice 0 0 ((linesOf s).length) 1 (capOf (linesOf s))))]) (heapOf 1 [(0, .cells (rowc eStr (linesOf s)) 0)] gl), .auto 2]) rfl
    (obs := [Rn (nameF 0 []) 1 (.lit (.string (bs s))) (.lit (.string (bs s))),
      Rn (nameF 0 []) 1 (.slice 0 0 1 1 (some 1)) (.slice 0 0 1 1 (some 1)),
      Rn (nameF 0 []) 1 (.lit (.int .i64 0)) (.lit (.int .i64 0)),
      RnO (nameF 0 []) 1 (.cells [some (.lit (.string (bs ([]))))] 0) (.cells [some (.lit (.string (bs ([]))))] 0),
      DoesL P 0 37 (loopAt P 22 0) (frameOf [(0, (.lit (.string (bs s)))), (3, (.slice 0 0 1 1 (some 1))), (4, (.lit (.int .i64 0)))]) (heapOf 1 [(0, .cells [some (.lit (.string (bs ([]))))] 0)] gl) (.exit 0) (frameOf [(3, (.slice 0 0 ((linesOf s).length) 1 (capOf (linesOf s))))]) (heapOf 1 [(0, .cells (rowc eStr (linesOf s)) 0)] gl)])
    (by kernel_rfl) ⟨Pu.rn (.lit _), Rn.slice _ _ _ _ _ (by decide), Pu.rn (.lit _), (RnC.cons (Pu.rn (.lit _)) RnC.nil), lines_loop gl s hN, trivial⟩
/-- drossref46.Lines. -/
theorem lines_does (H : Hp) (s : List UInt8) (hN : s.length ≤ 100000000) : Does P 22 [.lit (.string (bs s))] H (.frz 1 (List.map eStr (linesOf s))) H :=
  Does.pure (lines_run H.gl s hN) (pus_get (.cons (.lit _) .nil)) (FzV.row (b := 0) (g := 0) (by kernel_rfl) rfl leaf_none leaf_cells eStr_len eStr_flat) (.map _ _ eStr_pu)
end Go.Proofs.F
