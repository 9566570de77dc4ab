/-
  Of the texts that prove drosslaw46.CertificateFormat: for every certificate of bulk at most 1048576 the law returns true, and the argument reads as before. Condition: the listed package-level variables hold what the program lays.
-/
import Derived.Test.YthgkipklofkoaaaGreatDoorC10
open Go Go.Proofs Go.Cam Go.RowKit
set_option maxRecDepth 1000000
namespace Go.Proofs.F

theorem put_round (K : Nat) (H : Hp) (h3 : H.gl 3 = some pow10) (w0 : AV) (l : List UInt8) (nu p : AV) (i n : Nat) (x : Int) (hi : i < n) (hn : n ≤ 4611686018427387904) (e2 : indexAddrA P 23 nu (.lit (.int .i64 ((i : Nat) : Int))) = some p) (e3 : loadA P 2 p H = some (.lit (.int .i64 x))) (x0 : -9223372036854775808 ≤ x) (x1 : x ≤ 9223372036854775807) (hl : l.length + 1 + (Lib.itoa x).length ≤ 9223372036854775807) :
  DoesC P K 30 (loopAt P 54 0) (frameOf [(0, w0), (1, (.lit (.string (bs l)))), (8, nu), (9, (.lit (.int .i64 ((n : Nat) : Int)))), (10, (.lit (.int .i64 ((i : Nat) : Int))))]) H .normal
    (frameOf [(0, w0), (1, (.lit (.string (bs (l ++ ([32] ++ (Lib.itoa x))))))), (8, nu), (9, (.lit (.int .i64 ((n : Nat) : Int)))), (10, (.lit (.int .i64 ((i + 1 : Nat) : Int))))]) H :=
  path follows (n := 1000) (s := [.giv (.lit (.bool true)), .dec true, .giv p, .giv (.lit (.int .i64 x)), .auto 3, .call (.lit (.string (bs (Lib.itoa x)))), .giv (.lit (.string (bs ([32] ++ (Lib.itoa x))))), .giv (.lit (.string (bs (l ++ ([32] ++ (Lib.itoa x)))))), .auto 1, .giv (.lit (.int .i64 ((i + 1 : Nat) : Int))), .auto 1])
    (obs := [binA P .lss 3 (.tmp 10) (.tmp 9) (.lit (.int .i64 ((i : Nat) : Int))) (.lit (.int .i64 ((n : Nat) : Int))) = some (.lit (.bool true)),
      some (AV.lit (.bool true)) = some (.lit (.bool true)),
      indexAddrA P 23 nu (.lit (.int .i64 ((i : Nat) : Int))) = some p,
      loadA P 2 p H = some (.lit (.int .i64 x)),
      Does P 42 [(.lit (.int .i64 x)), (.lit (.int .i64 10))] H (.lit (.string (bs (Lib.itoa x)))) H,
      binA P .add 9 (.const (.string (bs ([32])))) (.tmp 16) (.lit (.string (bs ([32])))) (.lit (.string (bs (Lib.itoa x)))) = some (.lit (.string (bs ([32] ++ (Lib.itoa x))))),
      binA P .add 9 (.tmp 14) (.tmp 17) (.lit (.string (bs l))) (.lit (.string (bs ([32] ++ (Lib.itoa x))))) = some (.lit (.string (bs (l ++ ([32] ++ (Lib.itoa x)))))),
      binA P .add 3 (.tmp 10) (.const (.int .i64 1)) (.lit (.int .i64 ((i : Nat) : Int))) (.lit (.int .i64 1)) = some (.lit (.int .i64 ((i + 1 : Nat) : Int)))])
    (ts := [0, 1, 8, 9, 10]) (by kernel_rfl) ⟨bin_b (c := decide ((((i : Nat) : Int) : Int) < ((n : Nat) : Int))) (by kernel_rfl) (dt (by omega)), rfl, e2, e3, format_does H h3 x x0 x1, binA_bs (by simp only [List.length_append, List.length_cons, List.length_nil]; omega), binA_bs (by simp only [List.length_append, List.length_cons, List.length_nil]; omega), binA_addN (a := i) (b := 1) (by omega), trivial⟩
theorem put_end (K : Nat) (H : Hp) (w0 : AV) (l : List UInt8) (nu : AV) (i n : Nat) (hi : n ≤ i) :
  DoesC P K 30 (loopAt P 54 0) (frameOf [(0, w0), (1, (.lit (.string (bs l)))), (8, nu), (9, (.lit (.int .i64 ((n : Nat) : Int)))), (10, (.lit (.int .i64 ((i : Nat) : Int))))]) H (.exit 0)
    (frameOf [(0, w0), (1, (.lit (.string (bs l))))]) H :=
  path follows (n := 1000) (s := [.giv (.lit (.bool false)), .dec false])
    (obs := [binA P .lss 3 (.tmp 10) (.tmp 9) (.lit (.int .i64 ((i : Nat) : Int))) (.lit (.int .i64 ((n : Nat) : Int))) = some (.lit (.bool false)),
      some (AV.lit (.bool false)) = some (.lit (.bool false))])
    (ts := [0, 1]) (by kernel_rfl) ⟨bin_b (c := decide ((((i : Nat) : Int) : Int) < ((n : Nat) : Int))) (by kernel_rfl) (df (by omega)), rfl, trivial⟩
/-- A word, and numbers. -/
def wordOf (w : List UInt8) (xs : List Int) : List UInt8 := w ++ nums xs
theorem wordOf_len (w : List UInt8) (xs : List Int) (h : ∀ x ∈ xs, okI x) : (wordOf w xs).length ≤ w.length + 22 * xs.length := by
  have := nums_len xs h
  simp only [wordOf, List.length_append]; omega
theorem nums_take_succ {xs : List Int} {i : Nat} {x : Int} (h : xs[i]? = some x) : nums (xs.take (i + 1)) = nums (xs.take i) ++ ([32] ++ Lib.itoa x) := by
  unfold nums; rw [take_flatMap_succ h]; rfl
theorem put_all (K : Nat) (H : Hp) (h3 : H.gl 3 = some pow10) (w0 : AV) (w : List UInt8) (nu : AV) (xs : List Int) (hx : Ints H nu xs) (hw : w.length ≤ 1000000) (hl : xs.length ≤ 268435456) :
    DoesL P K 30 (loopAt P 54 0) (frameOf [(0, w0), (1, .lit (.string (bs w))), (8, nu), (9, .lit (.int .i64 ((xs.length : Nat) : Int))), (10, .lit (.int .i64 0))]) H (.exit 0) (frameOf [(0, w0), (1, .lit (.string (bs (wordOf w xs))))]) H := by
  have h := loop_list (P := P) (K := K) (nt := 30) (c := loopAt P 54 0) (xs := xs) (fun i => frameOf [(0, w0), (1, .lit (.string (bs (w ++ nums (xs.take i))))), (8, nu), (9, .lit (.int .i64 ((xs.length : Nat) : Int))), (10, .lit (.int .i64 ((i : Nat) : Int)))]) (fun _ => H) (e := .exit 0) (fr' := frameOf [(0, w0), (1, .lit (.string (bs (wordOf w xs))))]) (H' := H) (fun i x hi => ?_) ?_ (by simp)
  · have e : w ++ nums (List.take 0 xs) = w := by simp [nums]
    simp only [e] at h
    exact h
  · obtain ⟨p, g1, g2⟩ := hx.get i x hi
    have hr := hx.rng x (at_mem hi)
    have b1 := itoa_le x hr
    have b2 := nums_len (xs.take i) fun y hy => hx.rng y (List.mem_of_mem_take hy)
    have b3 : (xs.take i).length ≤ xs.length := by rw [List.length_take]; omega
    have r := put_round K H h3 w0 (w ++ nums (xs.take i)) nu p i xs.length x (at_lt hi) hx.small g1 g2 hr.1 hr.2 (by rw [List.length_append]; omega)
    rw [List.append_assoc] at r
    have e := nums_take_succ hi
    rw [e]
    exact r
  · have r := put_end K H w0 (w ++ nums xs) nu xs.length xs.length (Nat.le_refl _)
    rw [List.take_length]
    exact r
theorem join_row (H : Hp) (b g n : Nat) (c : Option Nat) (L : List (List UInt8)) (sep : List UInt8) (hb : H.blk.get b = some (.cells (rowc eStr L) g)) (hn : n = L.length) (hN : L.length ≤ 140737488355328) (hl : (Lib.join L sep).length ≤ 140737488355328) :
    Does P 35 [.slice b 0 n 1 c, .lit (.string (bs sep))] H (.lit (.string (bs (Lib.join L sep)))) H := by
  rw [rowc_str] at hb
  exact join_does H b g n c L sep hb hn hN hl
theorem cells1_r0 (gl : Nat → Option (List Value)) (l : List (Int × Int))  (x : Int × Int) (hx : l[0]? = some x) (hi : 0 < l.length) (hL : 2 * l.length ≤ 268435450) :
  DoesC P 0 21 (loopAt P 56 0) (frameOf [(3, (.lit (.slice none 0 0))), (6, (.frz 2 (List.map ePt l))), (7, (.lit (.int .i64 ((l.length : Nat) : Int)))), (8, (.lit (.int .i64 0)))]) (heapOf 0 [] gl) .normal
    (frameOf [(3, (.slice 0 0 2 1 none)), (6, (.frz 2 (List.map ePt l))), (7, (.lit (.int .i64 ((l.length : Nat) : Int)))), (8, (.lit (.int .i64 1)))]) (heapOf 1 [(0, .cells [some (.lit (.int .i64 x.1)), some (.lit (.int .i64 x.2))] 0)] gl) :=
  pathR follows (n := 1000) (s := [.giv (.lit (.bool true)), .dec true, .giv (.frp [(.lit (.int .i64 x.1)), (.lit (.int .i64 x.2))]), .auto 13])
    (obs := [binA P .lss 3 (.tmp 8) (.tmp 7) (.lit (.int .i64 0)) (.lit (.int .i64 ((l.length : Nat) : Int))) = some (.lit (.bool true)),
      some (AV.lit (.bool true)) = some (.lit (.bool true)),
      indexAddrA P 27 (.frz 2 (List.map ePt l)) (.lit (.int .i64 0)) = some (.frp [(.lit (.int .i64 x.1)), (.lit (.int .i64 x.2))]),
      Rn (nameF 0 [(0, 2)]) 1 (.slice 0 0 2 1 none) (.slice 2 0 2 1 none),
      Rn (nameF 0 [(0, 2)]) 1 (.frz 2 (List.map ePt l)) (.frz 2 (List.map ePt l)),
      Rn (nameF 0 [(0, 2)]) 1 (.lit (.int .i64 ((l.length : Nat) : Int))) (.lit (.int .i64 ((l.length : Nat) : Int))),
      Rn (nameF 0 [(0, 2)]) 1 (.lit (.int .i64 1)) (.lit (.int .i64 1)),
      RnO (nameF 0 [(0, 2)]) 1 (.cells [some (.lit (.int .i64 x.1)), some (.lit (.int .i64 x.2))] 0) (.cells [some (.lit (.int .i64 x.1)), some (.lit (.int .i64 x.2))] 2)])
    (τ := [(0, 2)]) (nx := 1) (l := [(3, (.slice 0 0 2 1 none)), (6, (.frz 2 (List.map ePt l))), (7, (.lit (.int .i64 ((l.length : Nat) : Int)))), (8, (.lit (.int .i64 1)))])
    (bs := [(0, .cells [some (.lit (.int .i64 x.1)), some (.lit (.int .i64 x.2))] 0)]) (by kernel_rfl) ⟨bin_b (c := decide ((0 : Int) < ((l.length : Nat) : Int))) (by kernel_rfl) (dt (by omega)), rfl, index_frz (n := 0) (by kernel_rfl) hx, Rn.slice _ _ _ _ _ (by decide), Pu.rn (Pu.map _ _ ePt_pu), Pu.rn (.lit _), Pu.rn (.lit _), (RnC.cons (Pu.rn (.lit _)) (RnC.cons (Pu.rn (.lit _)) RnC.nil)), trivial⟩
theorem cells1_r (gl : Nat → Option (List Value)) (l : List (Int × Int))  (i n : Nat) (L : List Int) (hn : n = L.length) (x : Int × Int) (hx : l[i]? = some x) (hi : i < l.length) (hf : n + 2 ≤ 268435456) (hL : 2 * l.length ≤ 268435450) :
  DoesC P 0 21 (loopAt P 56 0) (frameOf [(3, (.slice 0 0 n 1 none)), (6, (.frz 2 (List.map ePt l))), (7, (.lit (.int .i64 ((l.length : Nat) : Int)))), (8, (.lit (.int .i64 ((i : Nat) : Int))))]) (heapOf 1 [(0, .cells (rowc eInt L) 0)] gl) .normal
    (frameOf [(3, (.slice 0 0 (n + 2) 1 none)), (6, (.frz 2 (List.map ePt l))), (7, (.lit (.int .i64 ((l.length : Nat) : Int)))), (8, (.lit (.int .i64 ((i + 1 : Nat) : Int))))]) (heapOf 1 [(0, .cells (rowc eInt (L ++ [x.1, x.2])) 0)] gl) :=
  pathR follows (n := 1000) (s := [.giv (.lit (.bool true)), .dec true, .giv (.frp [(.lit (.int .i64 x.1)), (.lit (.int .i64 x.2))]), .auto 9, .givH (.slice 3 0 (n + 2) 1 none) (Hp.mk 4 (treeOf [(0, .cells (rowc eInt L) 0), (1, .cells [some (.lit (.int .i64 x.1)), some (.lit (.int .i64 x.2))] 1), (2, .cells [some (.lit (.int .i64 x.1)), some (.lit (.int .i64 x.2))] 2), (3, .cells (rowc eInt (L ++ [x.1, x.2])) 0)]) (treeOf [(0, [3, 0]), (1, [1]), (2, [2])]) gl 1), .auto 1, .giv (.lit (.int .i64 ((i + 1 : Nat) : Int))), .auto 1])
    (obs := [binA P .lss 3 (.tmp 8) (.tmp 7) (.lit (.int .i64 ((i : Nat) : Int))) (.lit (.int .i64 ((l.length : Nat) : Int))) = some (.lit (.bool true)),
      some (AV.lit (.bool true)) = some (.lit (.bool true)),
      indexAddrA P 27 (.frz 2 (List.map ePt l)) (.lit (.int .i64 ((i : Nat) : Int))) = some (.frp [(.lit (.int .i64 x.1)), (.lit (.int .i64 x.2))]),
      builtinA P (Hp.mk 3 (treeOf [(0, .cells (rowc eInt L) 0), (1, .cells [some (.lit (.int .i64 x.1)), some (.lit (.int .i64 x.2))] 1), (2, .cells [some (.lit (.int .i64 x.1)), some (.lit (.int .i64 x.2))] 2)]) (treeOf [(0, [0]), (1, [1]), (2, [2])]) gl 1) .append #[23, 23] 23 [(.slice 0 0 n 1 none), (.slice 2 0 2 1 (some 2))] = some (.val (.slice 3 0 (n + 2) 1 none) (Hp.mk 4 (treeOf [(0, .cells (rowc eInt L) 0), (1, .cells [some (.lit (.int .i64 x.1)), some (.lit (.int .i64 x.2))] 1), (2, .cells [some (.lit (.int .i64 x.1)), some (.lit (.int .i64 x.2))] 2), (3, .cells (rowc eInt (L ++ [x.1, x.2])) 0)]) (treeOf [(0, [3, 0]), (1, [1]), (2, [2])]) gl 1)),
      binA P .add 3 (.tmp 8) (.const (.int .i64 1)) (.lit (.int .i64 ((i : Nat) : Int))) (.lit (.int .i64 1)) = some (.lit (.int .i64 ((i + 1 : Nat) : Int))),
      Rn (nameF 0 [(0, 3)]) 1 (.slice 0 0 (n + 2) 1 none) (.slice 3 0 (n + 2) 1 none),
      Rn (nameF 0 [(0, 3)]) 1 (.frz 2 (List.map ePt l)) (.frz 2 (List.map ePt l)),
      Rn (nameF 0 [(0, 3)]) 1 (.lit (.int .i64 ((l.length : Nat) : Int))) (.lit (.int .i64 ((l.length : Nat) : Int))),
      Rn (nameF 0 [(0, 3)]) 1 (.lit (.int .i64 ((i + 1 : Nat) : Int))) (.lit (.int .i64 ((i + 1 : Nat) : Int))),
      RnO (nameF 0 [(0, 3)]) 1 (.cells (rowc eInt (L ++ [x.1, x.2])) 0) (.cells (rowc eInt (L ++ [x.1, x.2])) 0)])
    (τ := [(0, 3)]) (nx := 1) (l := [(3, (.slice 0 0 (n + 2) 1 none)), (6, (.frz 2 (List.map ePt l))), (7, (.lit (.int .i64 ((l.length : Nat) : Int)))), (8, (.lit (.int .i64 ((i + 1 : Nat) : Int))))])
    (bs := [(0, .cells (rowc eInt (L ++ [x.1, x.2])) 0)]) (by kernel_rfl) ⟨bin_b (c := decide ((((i : Nat) : Int) : Int) < ((l.length : Nat) : Int))) (by kernel_rfl) (dt (by omega)), rfl, index_frz (n := i) (by kernel_rfl) hx, append_row (b := 0) (g := 0) (enc := eInt) (L := L) (L2 := (L ++ [x.1, x.2])) (ys := [(.lit (.int .i64 x.1)), (.lit (.int .i64 x.2))]) (by kernel_rfl) (by kernel_rfl) (by kernel_rfl) (by kernel_rfl) (by simp [eInt]) (by rw [rowc_length eInt_len]; omega) (by kernel_rfl) (by omega) (by kernel_rfl) (by kernel_rfl), binA_addN (a := i) (b := 1) (by omega), Rn.slice _ _ _ _ _ (by decide), Pu.rn (Pu.map _ _ ePt_pu), Pu.rn (.lit _), Pu.rn (.lit _), RnC.row eInt_pu, trivial⟩
theorem cells1_e0 (gl : Nat → Option (List Value)) (l : List (Int × Int))  (hi : l.length ≤ 0) :
  DoesC P 0 21 (loopAt P 56 0) (frameOf [(3, (.lit (.slice none 0 0))), (6, (.frz 2 (List.map ePt l))), (7, (.lit (.int .i64 ((l.length : Nat) : Int)))), (8, (.lit (.int .i64 0)))]) (heapOf 0 [] gl) (.exit 0)
    (frameOf [(3, (.lit (.slice none 0 0)))]) (Hp.mk 0 (treeOf []) (treeOf []) gl 1) :=
  path follows (n := 1000) (s := [.giv (.lit (.bool false)), .dec false])
    (obs := [binA P .lss 3 (.tmp 8) (.tmp 7) (.lit (.int .i64 0)) (.lit (.int .i64 ((l.length : Nat) : Int))) = some (.lit (.bool false)),
      some (AV.lit (.bool false)) = some (.lit (.bool false))])
    (ts := [3]) (by kernel_rfl) ⟨bin_b (c := decide ((0 : Int) < ((l.length : Nat) : Int))) (by kernel_rfl) (df (by omega)), rfl, trivial⟩
theorem cells1_e (gl : Nat → Option (List Value)) (l : List (Int × Int))  (i n : Nat) (L : List Int) (hi : l.length ≤ i) :
  DoesC P 0 21 (loopAt P 56 0) (frameOf [(3, (.slice 0 0 n 1 none)), (6, (.frz 2 (List.map ePt l))), (7, (.lit (.int .i64 ((l.length : Nat) : Int)))), (8, (.lit (.int .i64 ((i : Nat) : Int))))]) (heapOf 1 [(0, .cells (rowc eInt L) 0)] gl) (.exit 0)
    (frameOf [(3, (.slice 0 0 n 1 none))]) (Hp.mk 1 (treeOf [(0, .cells (rowc eInt L) 0)]) (treeOf [(0, [0])]) gl 1) :=
  path follows (n := 1000) (s := [.giv (.lit (.bool false)), .dec false])
    (obs := [binA P .lss 3 (.tmp 8) (.tmp 7) (.lit (.int .i64 ((i : Nat) : Int))) (.lit (.int .i64 ((l.length : Nat) : Int))) = some (.lit (.bool false)),
      some (AV.lit (.bool false)) = some (.lit (.bool false))])
    (ts := [3]) (by kernel_rfl) ⟨bin_b (c := decide ((((i : Nat) : Int) : Int) < ((l.length : Nat) : Int))) (by kernel_rfl) (df (by omega)), rfl, trivial⟩
theorem cells1 (gl : Nat → Option (List Value)) (l : List (Int × Int))  (hlen : 2 * l.length ≤ 268435450) :
  DoesL P 0 21 (loopAt P 56 0) (frameOf [(3, (.lit (.slice none 0 0))), (6, (.frz 2 (List.map ePt l))), (7, (.lit (.int .i64 ((l.length : Nat) : Int)))), (8, (.lit (.int .i64 0)))]) (heapOf 0 [] gl) (.exit 0) (frameOf [(3, (.frz 1 (List.map eInt (List.flatMap (fun (x : Int × Int) => [x.1, x.2]) l))))]) (heapOf 0 [] gl) := by
  rcases Nat.eq_zero_or_pos l.length with h0 | h0
  · have h := DoesL.out (cells1_e0 gl l  (by omega)) (by simp)
    have e0 : l = [] := List.length_eq_zero_iff.1 h0
    refine DoesL.clean h (ts := [3]) (l := [(3, (.frz 1 (List.map eInt (List.flatMap (fun (x : Int × Int) => [x.1, x.2]) l))))]) 0 [] (by kernel_rfl) ?_ (.cons (.nilL (by rw [e0]; rfl)) .nil) ?_ (by kernel_rfl) (ps := []) trivial (by decide) rfl (by kernel_rfl)
    · intro x hx; simp at hx
    · intro x hx; simp only [List.mem_cons, List.not_mem_nil, or_false] at hx; rcases hx with rfl
      · exact Pu.rn (Pu.map _ _ eInt_pu)
  · have h := loop_list (P := P) (K := 0) (nt := 21) (c := loopAt P 56 0) (xs := l) (fun i => match i with | 0 => frameOf [(3, (.lit (.slice none 0 0))), (6, (.frz 2 (List.map ePt l))), (7, (.lit (.int .i64 ((l.length : Nat) : Int)))), (8, (.lit (.int .i64 0)))] | i + 1 => frameOf [(3, (.slice 0 0 (2 * (i + 1)) 1 none)), (6, (.frz 2 (List.map ePt l))), (7, (.lit (.int .i64 ((l.length : Nat) : Int)))), (8, (.lit (.int .i64 ((i + 1 : Nat) : Int))))]) (fun i => match i with | 0 => (heapOf 0 [] gl) | i + 1 => (heapOf 1 [(0, .cells (rowc eInt (List.flatMap (fun (x : Int × Int) => [x.1, x.2]) (List.take (i + 1) l))) 0)] gl))
      (e := .exit 0) (fr' := frameOf [(3, (.slice 0 0 (2 * l.length) 1 none))]) (H' := (heapOf 1 [(0, .cells (rowc eInt (List.flatMap (fun (x : Int × Int) => [x.1, x.2]) l)) 0)] gl)) (fun i x hx => ?_) ?_ (by simp)
    · have hn : 2 * l.length = (List.flatMap (fun (x : Int × Int) => [x.1, x.2]) l).length := by simp only [List.length_append, List.length_cons, List.length_nil, flatMap_len (m := 2) (g := (fun (x : Int × Int) => [x.1, x.2])) (fun _ => rfl)]
      refine DoesL.clean h (ts := [3]) (l := [(3, (.frz 1 (List.map eInt (List.flatMap (fun (x : Int × Int) => [x.1, x.2]) l))))]) 0 [] (by kernel_rfl) ?_ (.cons (FzV.rowB (b := 0) (g := 0) (c := none) (by kernel_rfl) hn (by kernel_rfl) (by kernel_rfl) eInt_len eInt_flat) .nil) ?_ (by kernel_rfl) (ps := []) trivial (by decide) rfl (by kernel_rfl)
      · intro x hx; simp at hx
      · intro x hx; simp only [List.mem_cons, List.not_mem_nil, or_false] at hx; rcases hx with rfl
        · exact Pu.rn (Pu.map _ _ eInt_pu)
    · have hi := at_lt hx
      cases i with
      | zero =>
        have r := cells1_r0 gl l  x hx hi hlen
        have e : List.flatMap (fun (x : Int × Int) => [x.1, x.2]) (List.take (0 + 1) l) = [x.1, x.2] := by rw [take_flatMap_succ hx]; simp
        have e2 : rowc eInt [x.1, x.2] = [some (.lit (.int .i64 x.1)), some (.lit (.int .i64 x.2))] := rfl
        rw [← e2, ← e] at r
        exact r
      | succ i =>
        have hn : 2 * (i + 1) = (List.flatMap (fun (x : Int × Int) => [x.1, x.2]) (List.take (i + 1) l)).length := by simp only [List.length_append, List.length_cons, List.length_nil, flatMap_len (m := 2) (g := (fun (x : Int × Int) => [x.1, x.2])) (fun _ => rfl), List.length_take]; omega
        have r := cells1_r gl l  (i + 1) (2 * (i + 1)) _ hn x hx hi (by omega) hlen
        have e : List.flatMap (fun (x : Int × Int) => [x.1, x.2]) (List.take (i + 1 + 1) l) = (List.flatMap (fun (x : Int × Int) => [x.1, x.2]) (List.take (i + 1) l)) ++ [x.1, x.2] := by rw [take_flatMap_succ hx]
        rw [← e] at r
        exact r
    · obtain ⟨q, hq⟩ : ∃ q, l.length = q + 1 := ⟨l.length - 1, by omega⟩
      have r := cells1_e gl l  (q + 1) (2 * (q + 1)) (List.flatMap (fun (x : Int × Int) => [x.1, x.2]) (List.take (q + 1) l)) (by omega)
      have e : List.take (q + 1) l = l := by rw [← hq, List.take_length]
      rw [e] at r
      try rw [hq] at r
      rw [hq]
      dsimp only
      rw [e]
      exact r
theorem cells_run (gl : Nat → Option (List Value)) (l : List (Int × Int)) (hl : 2 * l.length ≤ 268435450) :
  Does P 56 [(.frz 2 (List.map ePt l))] (heapOf 0 [] gl) (.frz 1 (List.map eInt (pts l))) (Hp.mk 0 (treeOf []) (treeOf []) gl 1) :=
  does follows (n := 1000) (s := [.auto 3, .giv (.lit (.int .i64 ((l.length : Nat) : Int))), .auto 1, .loopR [] 0 [(3, (.lit (.slice none 0 0))), (6, (.frz 2 (List.map ePt l))), (7, (.lit (.int .i64 ((l.length : Nat) : Int)))), (8, (.lit (.int .i64 0)))] [] (.exit 0) (frameOf [(3, (.frz 1 (List.map eInt (pts l))))]) (heapOf 0 [] gl), .auto 2]) rfl
    (obs := [builtinA P (Hp.mk 0 (treeOf []) (treeOf []) gl 1) .len #[27] 3 [(.frz 2 (List.map ePt l))] = some (.val (.lit (.int .i64 ((l.length : Nat) : Int))) (Hp.mk 0 (treeOf []) (treeOf []) gl 1)),
      Rn (nameF 0 []) 0 (.lit (.slice none 0 0)) (.lit (.slice none 0 0)),
      Rn (nameF 0 []) 0 (.frz 2 (List.map ePt l)) (.frz 2 (List.map ePt l)),
      Rn (nameF 0 []) 0 (.lit (.int .i64 ((l.length : Nat) : Int))) (.lit (.int .i64 ((l.length : Nat) : Int))),
      Rn (nameF 0 []) 0 (.lit (.int .i64 0)) (.lit (.int .i64 0)),
      DoesL P 0 21 (loopAt P 56 0) (frameOf [(3, (.lit (.slice none 0 0))), (6, (.frz 2 (List.map ePt l))), (7, (.lit (.int .i64 ((l.length : Nat) : Int)))), (8, (.lit (.int .i64 0)))]) (heapOf 0 [] gl) (.exit 0) (frameOf [(3, (.frz 1 (List.map eInt (pts l))))]) (heapOf 0 [] gl)])
    (by kernel_rfl) ⟨len_frz (by kernel_rfl), Pu.rn (.lit _), Pu.rn (Pu.map _ _ ePt_pu), Pu.rn (.lit _), Pu.rn (.lit _), cells1 gl l hl, trivial⟩
/-- certificate.cells. -/
theorem cells_does (H : Hp) (l : List (Int × Int)) (hl : 2 * l.length ≤ 268435450) : Does P 56 [.frz 2 (List.map ePt l)] H (.frz 1 (List.map eInt (pts l))) H :=
  Does.liftP (cells_run H.gl l hl) (pus_get (.cons (.map _ _ ePt_pu) .nil)) (.map _ _ eInt_pu)
end Go.Proofs.F
