/-
  Of the texts that prove drosslaw46.CertificateFormat: for every certificate of bulk at most 1048576 the law returns true, and the argument reads as before. Condition: the listed package-level variables hold what the program lays.
-/
import Derived.Test.YthgkipklofkoaaaGreatDoorC0
open Go Go.Proofs Go.Cam Go.RowKit
set_option maxRecDepth 1000000
namespace Go.Proofs.F
theorem binA_quo10 {t : TypeId} {xo yo : Operand} {n : Nat} (h : n ≤ 9223372036854775807) : binA P .quo t xo yo (.lit (.int .i64 (n : Int))) (.lit (.int .i64 10)) = some (.lit (.int .i64 ((n / 10 : Nat) : Int))) := by
  have e : runPure P (do eqGuard .quo t xo yo (.int .i64 (n : Int)) (.int .i64 10); binOp .quo t (.int .i64 (n : Int)) (.int .i64 10)) = some (.int .i64 (IntKind.i64.wrap ((n : Int).tdiv 10))) := rfl
  unfold binA
  simp only [litOf]
  rw [e, wrap_i64 (by rw [Int.tdiv_eq_ediv_of_nonneg (by omega)]; omega) (by rw [Int.tdiv_eq_ediv_of_nonneg (by omega)]; omega), Int.tdiv_eq_ediv_of_nonneg (by omega)]
  rfl
theorem binA_rem10 {t : TypeId} {xo yo : Operand} {n : Nat} : binA P .rem t xo yo (.lit (.int .i64 (n : Int))) (.lit (.int .i64 10)) = some (.lit (.int .i64 ((n % 10 : Nat) : Int))) := by
  have e : runPure P (do eqGuard .rem t xo yo (.int .i64 (n : Int)) (.int .i64 10); binOp .rem t (.int .i64 (n : Int)) (.int .i64 10)) = some (.int .i64 ((n : Int).tmod 10)) := rfl
  unfold binA
  simp only [litOf]
  rw [e, Int.tmod_eq_emod_of_nonneg (by omega)]
  rfl

theorem digits_small (H : Hp) (hs : H.str = 1) (n : Nat) (h : n < 10) : Does P 82 [(.lit (.int .i64 ((n : Int))))] H (.lit (.string (bs (Lib.decDigits n)))) H := by
  have hsl : sliceA P 9 (.lit (.string (⟨#[48, 49, 50, 51, 52, 53, 54, 55, 56, 57]⟩ : ByteArray))) (some (.lit (.int .i64 (n : Int)))) (some (.lit (.int .i64 ((n + 1 : Nat) : Int)))) H = some (.lit (.string (bs (Lib.decDigits n)))) := by
    rw [Lib.decDigits, dif_pos h]
    rcases n with _ | _ | _ | _ | _ | _ | _ | _ | _ | _ | n <;> first | (exfalso; omega) | kernel_rfl
  exact does follows (n := 1000) (s := [.auto 3, .dec false, .auto 2, .dec false, .auto 2, .dec true, .auto 2, .giv (.lit (.int .i64 (((n + 1 : Nat) : Int)))), .giv (.lit (.string (bs (Lib.decDigits n)))), .auto 1]) hs
    (obs := [some (AV.lit (.bool (((n : Int) : Int) == -9223372036854775808))) = some (.lit (.bool false)),
      some (AV.lit (.bool (decide (((n : Int) : Int) < 0)))) = some (.lit (.bool false)),
      some (AV.lit (.bool (decide (((n : Int) : Int) < 10)))) = some (.lit (.bool true)),
      binA P .add 2 (.tmp 14) (.const (.int .i64 1)) (.lit (.int .i64 ((n : Int)))) (.lit (.int .i64 1)) = some (.lit (.int .i64 (((n + 1 : Nat) : Int)))),
      sliceA P 9 (.lit (.string ((⟨#[48, 49, 50, 51, 52, 53, 54, 55, 56, 57]⟩ : ByteArray)))) (some (.lit (.int .i64 ((n : Int))))) (some (.lit (.int .i64 (((n + 1 : Nat) : Int))))) H = some (.lit (.string (bs (Lib.decDigits n))))])
    (by kernel_rfl) ⟨by first | (simp; done) | (simp; omega), by first | (simp; done) | (simp; omega), by first | (simp; done) | (simp; omega), binA_addI (wrap_i64 (by omega) (by omega)), hsl, trivial⟩
theorem digits_big (H : Hp) (hs : H.str = 1) (n : Nat) (h : ¬ n < 10) (hm : n ≤ 9223372036854775807) (h1 : Does P 82 [.lit (.int .i64 ((n / 10 : Nat) : Int))] H (.lit (.string (bs (Lib.decDigits (n / 10))))) H) (h2 : Does P 82 [.lit (.int .i64 ((n % 10 : Nat) : Int))] H (.lit (.string (bs (Lib.decDigits (n % 10))))) H) (hl : (bs (Lib.decDigits (n / 10))).size + (bs (Lib.decDigits (n % 10))).size ≤ 9223372036854775807) : Does P 82 [(.lit (.int .i64 ((n : Int))))] H (.lit (.string (bs (Lib.decDigits (n / 10)) ++ bs (Lib.decDigits (n % 10))))) H :=
  does follows (n := 1000) (s := [.auto 3, .dec false, .auto 2, .dec false, .auto 2, .dec false, .auto 1, .giv (.lit (.int .i64 (((n / 10 : Nat) : Int)))), .call (.lit (.string (bs (Lib.decDigits (n / 10))))), .auto 1, .giv (.lit (.int .i64 (((n % 10 : Nat) : Int)))), .call (.lit (.string (bs (Lib.decDigits (n % 10))))), .giv (.lit (.string (bs (Lib.decDigits (n / 10)) ++ bs (Lib.decDigits (n % 10))))), .auto 1]) hs
    (obs := [some (AV.lit (.bool (((n : Int) : Int) == -9223372036854775808))) = some (.lit (.bool false)),
      some (AV.lit (.bool (decide (((n : Int) : Int) < 0)))) = some (.lit (.bool false)),
      some (AV.lit (.bool (decide (((n : Int) : Int) < 10)))) = some (.lit (.bool false)),
      binA P .quo 2 (.tmp 17) (.const (.int .i64 10)) (.lit (.int .i64 ((n : Int)))) (.lit (.int .i64 10)) = some (.lit (.int .i64 (((n / 10 : Nat) : Int)))),
      Does P 82 [(.lit (.int .i64 (((n / 10 : Nat) : Int))))] H (.lit (.string (bs (Lib.decDigits (n / 10))))) H,
      binA P .rem 2 (.tmp 20) (.const (.int .i64 10)) (.lit (.int .i64 ((n : Int)))) (.lit (.int .i64 10)) = some (.lit (.int .i64 (((n % 10 : Nat) : Int)))),
      Does P 82 [(.lit (.int .i64 (((n % 10 : Nat) : Int))))] H (.lit (.string (bs (Lib.decDigits (n % 10))))) H,
      binA P .add 9 (.tmp 19) (.tmp 22) (.lit (.string (bs (Lib.decDigits (n / 10))))) (.lit (.string (bs (Lib.decDigits (n % 10))))) = some (.lit (.string (bs (Lib.decDigits (n / 10)) ++ bs (Lib.decDigits (n % 10)))))])
    (by kernel_rfl) ⟨by first | (simp; done) | (simp; omega), by first | (simp; done) | (simp; omega), by first | (simp; done) | (simp; omega), binA_quo10 hm, h1, binA_rem10, h2, binA_cat hl, trivial⟩
theorem digits_neg (H : Hp) (hs : H.str = 1) (n : Int) (h : n < 0) (hm : -9223372036854775808 < n) (h1 : Does P 82 [.lit (.int .i64 (IntKind.i64.wrap (0 - n)))] H (.lit (.string (bs (Lib.decDigits n.natAbs)))) H) (hl : 1 + (bs (Lib.decDigits n.natAbs)).size ≤ 9223372036854775807) : Does P 82 [(.lit (.int .i64 n))] H (.lit (.string ((⟨#[45]⟩ : ByteArray) ++ bs (Lib.decDigits n.natAbs)))) H :=
  does follows (n := 1000) (s := [.auto 3, .dec false, .auto 2, .dec true, .auto 2, .call (.lit (.string (bs (Lib.decDigits n.natAbs)))), .giv (.lit (.string ((⟨#[45]⟩ : ByteArray) ++ bs (Lib.decDigits n.natAbs)))), .auto 1]) hs
    (obs := [some (AV.lit (.bool ((n : Int) == -9223372036854775808))) = some (.lit (.bool false)),
      some (AV.lit (.bool (decide ((n : Int) < 0)))) = some (.lit (.bool true)),
      Does P 82 [(.lit (.int .i64 (IntKind.i64.wrap (0 - n))))] H (.lit (.string (bs (Lib.decDigits n.natAbs)))) H,
      binA P .add 9 (.const (.string ((⟨#[45]⟩ : ByteArray)))) (.tmp 9) (.lit (.string ((⟨#[45]⟩ : ByteArray)))) (.lit (.string (bs (Lib.decDigits n.natAbs)))) = some (.lit (.string ((⟨#[45]⟩ : ByteArray) ++ bs (Lib.decDigits n.natAbs))))])
    (by kernel_rfl) ⟨by first | (simp; done) | (simp; omega), by first | (simp; done) | (simp; omega), h1, binA_cat hl, trivial⟩
theorem digits_min (H : Hp) (hs : H.str = 1) : Does P 82 [(.lit (.int .i64 (-9223372036854775808)))] H (.lit (.string ((⟨#[45, 57, 50, 50, 51, 51, 55, 50, 48, 51, 54, 56, 53, 52, 55, 55, 53, 56, 48, 56]⟩ : ByteArray)))) H :=
  does follows (n := 1000) (s := [.auto 3, .dec true, .auto 1]) hs
    (obs := [some (AV.lit (.bool true)) = some (.lit (.bool true))])
    (by kernel_rfl) ⟨rfl, trivial⟩
theorem decDigits_len (n : Nat) : (Lib.decDigits n).length ≤ n / 2 + 1 := by
  induction n using Nat.strongRecOn with
  | _ n ih =>
    rw [Lib.decDigits]
    split
    · simp
    · have := ih (n / 10) (by omega)
      simp only [List.length_append, List.length_cons, List.length_nil]
      omega
theorem decDigits_split (n : Nat) (h : ¬ n < 10) : Lib.decDigits n = Lib.decDigits (n / 10) ++ Lib.decDigits (n % 10) := by
  have h2 : Lib.decDigits (n % 10) = [UInt8.ofNat (48 + n % 10)] := by rw [Lib.decDigits, dif_pos (by omega)]
  rw [h2]
  conv => lhs; rw [Lib.decDigits, dif_neg h]
theorem digits_nat (H : Hp) (hs : H.str = 1) (n : Nat) (hm : n ≤ 9223372036854775807) : Does P 82 [.lit (.int .i64 (n : Int))] H (.lit (.string (bs (Lib.decDigits n)))) H := by
  induction n using Nat.strongRecOn with
  | _ n ih =>
    by_cases h : n < 10
    · exact digits_small H hs n h
    · have l1 := decDigits_len (n / 10)
      have l2 := decDigits_len (n % 10)
      have := digits_big H hs n h hm (ih (n / 10) (by omega) (by omega)) (ih (n % 10) (by omega) (by omega)) (by rw [bs_size, bs_size]; omega)
      rw [bs_append, ← decDigits_split n h] at this
      exact this
theorem itoa_len (n : Int) (h0 : -9223372036854775808 ≤ n) (h1 : n ≤ 9223372036854775807) : (Lib.itoa n).length ≤ 9223372036854775810 := by
  unfold Lib.itoa
  split
  · have := decDigits_len n.natAbs
    simp only [List.length_cons]; omega
  · have := decDigits_len n.toNat
    omega
theorem digits_does (H : Hp) (hs : H.str = 1) (n : Int) (h0 : -9223372036854775808 ≤ n) (h1 : n ≤ 9223372036854775807) : Does P 82 [.lit (.int .i64 n)] H (.lit (.string (bs (Lib.itoa n)))) H := by
  by_cases h : n < 0
  · by_cases hm : n = -9223372036854775808
    · subst hm
      have := digits_min H hs
      have e : bs (Lib.itoa (-9223372036854775808)) = (⟨#[45, 57, 50, 50, 51, 51, 55, 50, 48, 51, 54, 56, 53, 52, 55, 55, 53, 56, 48, 56]⟩ : ByteArray) := by
        have : Lib.itoa (-9223372036854775808) = [45, 57, 50, 50, 51, 51, 55, 50, 48, 51, 54, 56, 53, 52, 55, 55, 53, 56, 48, 56] := by
          simp [Lib.itoa, Lib.decDigits]
        rw [this]; rfl
      rw [e]; exact this
    · have l1 := decDigits_len n.natAbs
      have hw : IntKind.i64.wrap (0 - n) = (n.natAbs : Int) := by rw [wrap_i64 (by omega) (by omega)]; omega
      have := digits_neg H hs n h (by omega) (by rw [hw]; exact digits_nat H hs n.natAbs (by omega)) (by rw [bs_size]; omega)
      have e : (⟨#[45]⟩ : ByteArray) = bs [45] := rfl
      rw [e, bs_append] at this
      have e2 : Lib.itoa n = [45] ++ Lib.decDigits n.natAbs := by unfold Lib.itoa; rw [if_pos h]; rfl
      rw [e2]; exact this
  · obtain ⟨m, rfl⟩ := Int.eq_ofNat_of_zero_le (Int.not_lt.1 h)
    have e2 : Lib.itoa (m : Int) = Lib.decDigits m := by unfold Lib.itoa; rw [if_neg h]; rfl
    rw [e2]; exact digits_nat H hs m (by omega)

theorem line_round (K : Nat) (H : Hp) (hs : H.str = 1) (word : ByteArray) (nums p : AV) (i n : Nat) (x : Int) (hlt : i < n) (hn : n ≤ 4611686018427387904) (e1 : lenOpA P 23 nums H = some (.lit (.int .i64 n))) (e2 : indexAddrA P 23 nums (.lit (.int .i64 (i : Int))) = some p) (e3 : loadA P 2 p H = some (.lit (.int .i64 x))) (x0 : -9223372036854775808 ≤ x) (x1 : x ≤ 9223372036854775807) (hl : word.size + 1 + (bs (Lib.itoa x)).size ≤ 9223372036854775807) :
  DoesC P K 22 (loopAt P 60 0) (frameOf [(0, (.lit (.string word))), (1, nums), (5, (.lit (.int .i64 ((i : Int)))))]) H .normal
    (frameOf [(0, (.lit (.string (word ++ (⟨#[32]⟩ : ByteArray) ++ bs (Lib.itoa x))))), (1, nums), (5, (.lit (.int .i64 (((i + 1 : Nat) : Int)))))]) H :=
  path follows (n := 1000) (s := [.auto 2, .giv (.lit (.int .i64 ((n : Int)))), .auto 1, .dec true, .auto 1, .giv (.lit (.string (word ++ (⟨#[32]⟩ : ByteArray)))), .auto 2, .giv p, .giv (.lit (.int .i64 x)), .call (.lit (.string (bs (Lib.itoa x)))), .giv (.lit (.string (word ++ (⟨#[32]⟩ : ByteArray) ++ bs (Lib.itoa x)))), .auto 2, .giv (.lit (.int .i64 (((i + 1 : Nat) : Int)))), .auto 1])
    (obs := [builtinA P H .len #[23] 3 [nums] = some (.val (.lit (.int .i64 ((n : Int)))) H),
      some (AV.lit (.bool (decide (((i : Int) : Int) < (n : Int))))) = some (.lit (.bool true)),
      binA P .add 9 (.tmp 12) (.const (.string ((⟨#[32]⟩ : ByteArray)))) (.lit (.string word)) (.lit (.string ((⟨#[32]⟩ : ByteArray)))) = some (.lit (.string (word ++ (⟨#[32]⟩ : ByteArray)))),
      indexAddrA P 23 nums (.lit (.int .i64 ((i : Int)))) = some p,
      loadA P 2 p H = some (.lit (.int .i64 x)),
      Does P 82 [(.lit (.int .i64 x))] H (.lit (.string (bs (Lib.itoa x)))) H,
      binA P .add 9 (.tmp 13) (.tmp 18) (.lit (.string (word ++ (⟨#[32]⟩ : ByteArray)))) (.lit (.string (bs (Lib.itoa x)))) = some (.lit (.string (word ++ (⟨#[32]⟩ : ByteArray) ++ bs (Lib.itoa x)))),
      binA P .add 3 (.tmp 10) (.const (.int .i64 1)) (.lit (.int .i64 ((i : Int)))) (.lit (.int .i64 1)) = some (.lit (.int .i64 (((i + 1 : Nat) : Int))))])
    (ts := [0, 1, 5]) (by kernel_rfl) ⟨by simp [builtinA, e1, outV], by first | (simp; done) | (simp; omega), binA_cat (by show word.size + 1 ≤ _; omega), e2, e3, digits_does H hs x x0 x1, binA_cat (by rw [ByteArray.size_append]; exact hl), binA_addI (wrap_i64 (by omega) (by omega)), trivial⟩
theorem line_end (K : Nat) (H : Hp) (word : ByteArray) (nums : AV) (i n : Nat) (hlt : ¬ i < n) (e1 : lenOpA P 23 nums H = some (.lit (.int .i64 n))) :
  DoesC P K 22 (loopAt P 60 0) (frameOf [(0, (.lit (.string word))), (1, nums), (5, (.lit (.int .i64 ((i : Int)))))]) H (.exit 0)
    (frameOf [(0, (.lit (.string word))), (1, nums), (5, (.lit (.int .i64 ((i : Int)))))]) H :=
  path follows (n := 1000) (s := [.auto 2, .giv (.lit (.int .i64 ((n : Int)))), .auto 1, .dec false])
    (obs := [builtinA P H .len #[23] 3 [nums] = some (.val (.lit (.int .i64 ((n : Int)))) H),
      some (AV.lit (.bool (decide (((i : Int) : Int) < (n : Int))))) = some (.lit (.bool false))])
    (ts := [0, 1, 5]) (by kernel_rfl) ⟨by simp [builtinA, e1, outV], by first | (simp; done) | (simp; omega), trivial⟩

/-- A row of int64s behind a slice. -/
structure Ints (H : Hp) (x : AV) (xs : List Int) : Prop where
  len : lenOpA P 23 x H = some (.lit (.int .i64 (xs.length : Int)))
  get : ∀ (i : Nat) (n : Int), xs[i]? = some n → ∃ p, indexAddrA P 23 x (.lit (.int .i64 (i : Int))) = some p ∧ loadA P 2 p H = some (.lit (.int .i64 n))
  rng : ∀ n ∈ xs, -9223372036854775808 ≤ n ∧ n ≤ 9223372036854775807
  small : xs.length ≤ 4611686018427387904
/-- The numbers of a line, each behind a blank. -/
def nums (xs : List Int) : List UInt8 := xs.flatMap fun x => 32 :: Lib.itoa x
theorem nums_cons (x : Int) (xs : List Int) : nums (x :: xs) = [32] ++ Lib.itoa x ++ nums xs := by simp [nums]
theorem line_loop (K : Nat) (H : Hp) (hs : H.str = 1) (x : AV) (xs : List Int) (hx : Ints H x xs) : ∀ (d i : Nat) (l : List UInt8), xs.length - i = d → i ≤ xs.length → (l ++ nums (xs.drop i)).length ≤ 9223372036854775807 →
    DoesL P K 22 (loopAt P 60 0) (frameOf [(0, (.lit (.string (bs l)))), (1, x), (5, (.lit (.int .i64 (i : Int))))]) H (.exit 0) (frameOf [(0, (.lit (.string (bs (l ++ nums (xs.drop i)))))), (1, x), (5, (.lit (.int .i64 (xs.length : Int))))]) H := by
  intro d
  induction d with
  | zero =>
    intro i l hd hi _
    have e : i = xs.length := by omega
    subst e
    have := line_end K H (bs l) x xs.length xs.length (by omega) hx.len
    simp only [List.drop_length, nums, List.flatMap_nil, List.append_nil]
    exact DoesL.out this (by simp)
  | succ d ih =>
    intro i l hd hi hl
    have hlt : i < xs.length := by omega
    obtain ⟨p, g1, g2⟩ := hx.get i xs[i] (List.getElem?_eq_getElem hlt)
    have hr := hx.rng xs[i] (List.getElem_mem hlt)
    have ed : xs.drop i = xs[i] :: xs.drop (i + 1) := List.drop_eq_getElem_cons hlt
    rw [ed, nums_cons, ← List.append_assoc] at hl ⊢
    have r := line_round K H hs (bs l) x p i xs.length xs[i] hlt hx.small hx.len g1 g2 hr.1 hr.2 (by rw [bs_size, bs_size]; simp only [List.length_append, List.length_cons, List.length_nil] at hl; omega)
    have e : bs l ++ (⟨#[32]⟩ : ByteArray) ++ bs (Lib.itoa xs[i]) = bs (l ++ ([32] ++ Lib.itoa xs[i])) := by
      rw [show (⟨#[32]⟩ : ByteArray) = bs [32] from rfl, bs_append, bs_append, List.append_assoc]
    rw [e] at r
    exact DoesL.round r (ih (i + 1) _ (by omega) (by omega) hl)

theorem line_does (H : Hp) (hs : H.str = 1) (w : List UInt8) (x : AV) (xs : List Int) (hx : Ints H x xs) (hl : (w ++ nums xs).length < 9223372036854775807) : Does P 60 [.lit (.string (bs w)), x] H (.lit (.string (bs (w ++ nums xs ++ [10])))) H := by
  have hloop := line_loop H.next H hs x xs hx xs.length 0 w (by omega) (by omega) (by simpa using Nat.le_of_lt hl)
  rw [List.drop_zero] at hloop
  have : Does P 60 [(.lit (.string (bs w))), x] H (.lit (.string (bs (w ++ nums xs) ++ (⟨#[10]⟩ : ByteArray)))) H := does follows (n := 1000) (s := [.auto 2, .loop0 [0, 1, 5] (.exit 0) (frameOf [(0, (.lit (.string (bs (w ++ nums xs))))), (1, x), (5, (.lit (.int .i64 ((xs.length : Int)))))]) H, .auto 1, .giv (.lit (.string (bs (w ++ nums xs) ++ (⟨#[10]⟩ : ByteArray)))), .auto 1]) hs
    (obs := [DoesL P (H.next) 22 (loopAt P 60 0) (frameOf [(0, (.lit (.string (bs w)))), (1, x), (5, (.lit (.int .i64 0)))]) H (.exit 0) (frameOf [(0, (.lit (.string (bs (w ++ nums xs))))), (1, x), (5, (.lit (.int .i64 ((xs.length : Int)))))]) H,
      binA P .add 9 (.tmp 20) (.const (.string ((⟨#[10]⟩ : ByteArray)))) (.lit (.string (bs (w ++ nums xs)))) (.lit (.string ((⟨#[10]⟩ : ByteArray)))) = some (.lit (.string (bs (w ++ nums xs) ++ (⟨#[10]⟩ : ByteArray))))])
    (by kernel_rfl) ⟨hloop, binA_cat (by rw [bs_size]; show _ + 1 ≤ _; omega), trivial⟩
  rw [show (⟨#[10]⟩ : ByteArray) = bs [10] from rfl, bs_append] at this
  exact this
end Go.Proofs.F
