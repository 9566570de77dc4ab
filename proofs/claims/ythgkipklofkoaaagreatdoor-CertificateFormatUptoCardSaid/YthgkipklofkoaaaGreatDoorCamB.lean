/-
  An abstract machine over the model, proved sound: part B. For whatever program.
-/
import Derived.Test.YthgkipklofkoaaaGreatDoorCamA
import Derived.Laws.IdiomStrings
import Derived.Calls
namespace Go.Cam
open Go Go.RowKit

def minN (a b : Nat) : Nat := match Nat.ble a b with | true => a | false => b
theorem minN_eq (a b : Nat) : minN a b = Nat.min a b := by
  unfold minN
  by_cases h : a ≤ b
  · have : Nat.ble a b = true := by rw [Nat.ble_eq]; exact h
    rw [this]; exact (Nat.min_eq_left h).symm
  · have : Nat.ble a b = false := by rw [Bool.eq_false_iff]; intro e; exact h (Nat.le_of_ble_eq_true e)
    rw [this]; show b = _; exact (Nat.min_eq_right (by omega)).symm

/-! ## copy -/
def lenA (x : AV) : Option Nat :=
  match x with
  | .slice _ _ len _ _ => some len
  | .sliceE => some 0
  | .lit (.slice _ n _) => some n
  | .lit (.string s) => some s.size
  | _ => none
theorem lenA_ok {P : Program} {μ : Mu} {w : World} {x : AV} {u : Value} {n : Nat} (hx : VR μ x u) (h : lenA x = some n) : (Builtin.lenOf u).run P w = .ok n w := by
  unfold lenA at h
  split at h
  · cases hx; cases h; simp [Builtin.lenOf]
  · cases hx; cases h; simp [Builtin.lenOf]
  · have := hx.lit_eq; subst this; cases h; simp [Builtin.lenOf]
  · have := hx.lit_eq; subst this; cases h; simp [Builtin.lenOf]
  · cases h

/-- The first n elements of a source. -/
def firstA (size n : Nat) (x : AV) (H : Hp) : Option (List AV) :=
  match n with
  | 0 => match x with
    | .slice _ _ _ _ _ => some []
    | .sliceE => some []
    | .lit (.slice none _ _) => some []
    | .lit (.string _) => some []
    | _ => none
  | m + 1 => match x with
    | .slice b off _ _ _ => match H.loadN b off ((m + 1) * size) with
      | some l => some l
      | none => none
    | .lit (.string s) => some (bytesA (takeL (m + 1) s.data.toList))
    | _ => none
theorem firstA_ok {P : Program} {μ : Mu} {H : Hp} {w : World} {size n : Nat} {x : AV} {u : Value} {l : List AV} (hr : HR μ H w) (hx : VR μ x u) (h : firstA size n x H = some l) :
    ∃ a : Array Value, (Builtin.firstCells size n u).run P w = .ok a w ∧ VRs μ l a := by
  unfold firstA at h
  split at h
  · split at h
    · cases hx; cases h
      exact ⟨#[], by simp [Builtin.firstCells, loadCells, loadCellsFrom], rfl, fun i h => by simp at h⟩
    · cases hx; cases h
      exact ⟨#[], by simp [Builtin.firstCells, loadCells, loadCellsFrom], rfl, fun i h => by simp at h⟩
    · have := hx.lit_eq; subst this; cases h
      exact ⟨#[], by simp [Builtin.firstCells], rfl, fun i h => by simp at h⟩
    · rename_i s
      have := hx.lit_eq; subst this; cases h
      refine ⟨(s.extract 0 0).data.map fun b => .int .u8 b.toNat, rfl, ?_⟩
      have : (s.extract 0 0).data.map (fun b => Value.int .u8 b.toNat) = #[] := by
        apply Array.eq_empty_of_size_eq_zero
        simp
      rw [this]
      exact ⟨rfl, fun i h => by simp at h⟩
    · cases h
  · rename_i m
    split at h
    · rename_i b off len esz c
      cases hx with
      | slice _ _ _ _ cap _ hb h1 h2 h3 =>
      split at h
      case h_2 => cases h
      rename_i l' hl
      cases h
      obtain ⟨a, ⟨g1, g2, g3, _⟩ | ⟨g1, g2⟩⟩ := loadN_ok (P := P) hr hl
      · exact ⟨a.toArray, by simp only [Builtin.firstCells]; exact g2, g3⟩
      · subst g2
        exact ⟨#[], by simp only [Builtin.firstCells, g1]; rfl, rfl, fun i h => by simp at h⟩
    · rename_i s
      have := hx.lit_eq; subst this; cases h
      refine ⟨(s.extract 0 (m + 1)).data.map fun b => .int .u8 b.toNat, rfl, ?_⟩
      have e : ((s.extract 0 (m + 1)).data.map fun b => Value.int .u8 b.toNat) = ((takeL (m + 1) s.data.toList).map fun b => Value.int .u8 b.toNat).toArray := by
        rw [takeL_eq]
        apply Array.ext'
        simp
      rw [e]; exact bytesA_ok μ _
    · cases h

def copyA (P : Program) (dT : TypeId) (d x : AV) (H : Hp) : Option (AV × Hp) :=
  match tinf P dT with
  | none => none
  | some i => match i.desc with
    | .slice elem => match tinf P elem with
      | none => none
      | some e => match lenA d with
        | none => none
        | some dl => match lenA x with
          | none => none
          | some sl => match firstA e.size (minN sl dl) x H with
            | none => none
            | some l => match d with
              | .slice b off _ _ _ => match l with
                | [] => some (.lit (goInt (minN sl dl)), H)
                | _ => match H.store b off l with
                  | none => none
                  | some H' => some (.lit (goInt (minN sl dl)), H')
              | .lit (.slice none _ _) => some (.lit (goInt (minN sl dl)), H)
              | .sliceE => match l with
                | [] => some (.lit (goInt (minN sl dl)), H)
                | _ => none
              | _ => none
    | _ => none
theorem copy_ok {P : Program} {dT sT ty : TypeId} {d x v : AV} {ud ux : Value} {μ : Mu} {H H' : Hp} {w : World} (hr : HR μ H w) (hd : VR μ d ud) (hx : VR μ x ux) (h : copyA P dT d x H = some (v, H')) :
    OpV P (Builtin.copy_ #[dT, sT] ty #[ud, ux]) μ H w v H' := by
  unfold copyA at h
  split at h
  · cases h
  rename_i i hi
  split at h
  case h_2 => cases h
  rename_i elem hdesc
  split at h
  · cases h
  rename_i e he
  split at h
  · cases h
  rename_i dl hdl
  split at h
  · cases h
  rename_i sl hsl
  split at h
  · cases h
  rename_i l hl
  obtain ⟨a, g1, g2⟩ := firstA_ok (P := P) hr hx hl
  have hls := lenA_ok (P := P) (w := w) hx hsl
  have run : ∀ (base : Option Addr) (cap : Nat) (w' : World), (∀ b, base = some b → (storeCells b a.toList).run P w = .ok () w') → (base = none → w' = w) →
      (Builtin.copy_ #[dT, sT] ty #[.slice base dl cap, ux]).run P w = .ok (goInt (minN sl dl)) w' := by
    intro base cap w' hst hnil
    unfold Builtin.copy_
    simp only [List.getElem?_toArray, List.getElem?_cons_zero, List.getElem?_cons_succ]
    rw [Sem.run_bind, run_und hi, hdesc]
    simp only [Result.andThen_ok, Sem.run_bind, hls, run_size he]
    rw [minN_eq] at g1 ⊢
    simp only [Nat.min_def] at g1 ⊢
    rw [g1]
    cases base with
    | none => simp [hnil rfl]
    | some b => simp [hst b rfl]
  split at h
  · rename_i b off len esz c
    cases hd with
    | slice _ _ _ _ cap _ hb h1 h2 h3 =>
    cases hdl
    split at h
    · cases h
      have ha0 : a = #[] := by have := g2.1; simp at this; exact Array.eq_empty_of_size_eq_zero this.symm
      subst ha0
      exact .of_run hr (run _ _ w (fun b hb => by simp [storeCells]) (by simp)) (.lit _)
    · split at h
      · cases h
      rename_i H1 hst
      cases h
      obtain ⟨w', q1, q2⟩ := store_step (P := P) hr hst g2
      exact ⟨_, w', μ, run _ _ w' (fun b hb => by cases hb; exact q1) (by simp), q2, .lit _⟩
  · rename_i n c
    have := hd.lit_eq; subst this
    cases hdl; cases h
    exact .of_run hr (run _ _ w (by simp) (fun _ => rfl)) (.lit _)
  · cases hd with
    | sliceE a' cap =>
    cases hdl
    split at h
    · cases h
      have ha0 : a = #[] := by have := g2.1; simp at this; exact Array.eq_empty_of_size_eq_zero this.symm
      subst ha0
      exact .of_run hr (run _ _ w (fun b hb => by simp [storeCells]) (by simp)) (.lit _)
    · cases h
  · cases h

/-! ## len -/
def lenOpA (P : Program) (t : TypeId) (x : AV) (H : Hp) : Option AV :=
  match tinf P t with
  | none => none
  | some i => match i.desc with
    | .string => match x with
      | .lit (.string s) => some (.lit (goInt s.size))
      | _ => none
    | .slice _ => match x with
      | .slice _ _ len _ _ => some (.lit (goInt len))
      | .sliceE => some (.lit (goInt 0))
      | .lit (.slice _ n _) => some (.lit (goInt n))
      | .frz _ es => some (.lit (goInt (lenL es)))
      | _ => none
    | .array n _ => some (.lit (goInt n))
    | .map _ _ => match x with
      | .map r => match H.blk.get r with
        | some (.map es) => some (.lit (goInt (lenL es)))
        | _ => none
      | .lit (.map none) => some (.lit (goInt 0))
      | _ => none
    | _ => none
theorem len_ok {P : Program} {t ty : TypeId} {x v : AV} {u : Value} {μ : Mu} {H : Hp} {w : World} (hr : HR μ H w) (hx : VR μ x u) (h : lenOpA P t x H = some v) :
    RunV P (Builtin.len_ #[t] ty #[u]) μ H w v := by
  unfold lenOpA at h
  split at h
  · cases h
  rename_i i hi
  split at h
  · rename_i hd
    split at h
    case h_2 => cases h
    have := hx.lit_eq; subst this; cases h
    exact .of_run hr (by unfold Builtin.len_; simp only [List.getElem?_toArray, List.getElem?_cons_zero]; rw [Sem.run_bind, run_und hi, hd]; rfl) (.lit _)
  · rename_i hd
    split at h
    · cases hx; cases h; exact .of_run hr (by unfold Builtin.len_; simp only [List.getElem?_toArray, List.getElem?_cons_zero]; rw [Sem.run_bind, run_und hi, hd]; rfl) (.lit _)
    · cases hx; cases h; exact .of_run hr (by unfold Builtin.len_; simp only [List.getElem?_toArray, List.getElem?_cons_zero]; rw [Sem.run_bind, run_und hi, hd]; rfl) (.lit _)
    · have := hx.lit_eq; subst this; cases h; exact .of_run hr (by unfold Builtin.len_; simp only [List.getElem?_toArray, List.getElem?_cons_zero]; rw [Sem.run_bind, run_und hi, hd]; rfl) (.lit _)
    · rw [lenL_eq] at h
      cases h
      cases hx <;> exact .of_run hr (by unfold Builtin.len_; simp only [List.getElem?_toArray, List.getElem?_cons_zero]; rw [Sem.run_bind, run_und hi, hd]; rfl) (.lit _)
    · cases h
  · rename_i hd
    cases h
    exact .of_run hr (by unfold Builtin.len_; simp only [List.getElem?_toArray, List.getElem?_cons_zero]; rw [Sem.run_bind, run_und hi, hd]; rfl) (.lit _)
  · rename_i hd
    split at h
    · rename_i r
      split at h
      case h_2 => cases h
      rename_i es hb
      cases h
      obtain ⟨arr, clock, e0, e1⟩ := hr.obj r _ hb
      cases hx
      refine .of_run hr (u := goInt (lenL es)) ?_ (.lit _)
      unfold Builtin.len_
      simp only [List.getElem?_toArray, List.getElem?_cons_zero]
      rw [Sem.run_bind, run_und hi, hd, lenL_eq, e1.1]
      simp [getObj, Sem.run, e0]
    · have := hx.lit_eq; subst this; cases h; exact .of_run hr (by unfold Builtin.len_; simp only [List.getElem?_toArray, List.getElem?_cons_zero]; rw [Sem.run_bind, run_und hi, hd]; rfl) (.lit _)
    · cases h
  · cases h

/-! ## cap -/
def capOpA (P : Program) (t : TypeId) (x : AV) : Option AV :=
  match tinf P t with
  | none => none
  | some i => match i.desc with
    | .slice _ => match x with
      | .slice _ _ _ _ (some k) => some (.lit (goInt k))
      | .lit (.slice _ _ n) => some (.lit (goInt n))
      | _ => none
    | _ => none
theorem cap_ok {P : Program} {t ty : TypeId} {x v : AV} {u : Value} {μ : Mu} {H : Hp} {w : World} (hr : HR μ H w) (hx : VR μ x u) (h : capOpA P t x = some v) :
    RunV P (Builtin.cap_ #[t] ty #[u]) μ H w v := by
  unfold capOpA at h
  split at h
  · cases h
  rename_i i hi
  split at h
  case h_2 => cases h
  rename_i hd
  split at h
  · rename_i b off len esz k
    cases hx with
    | slice _ _ _ _ cap _ hb h1 h2 h3 =>
    cases h
    rw [← h2 k rfl]
    exact .of_run hr (by unfold Builtin.cap_; simp only [List.getElem?_toArray, List.getElem?_cons_zero]; rw [Sem.run_bind, run_und hi, hd]; rfl) (.lit _)
  · have := hx.lit_eq; subst this; cases h
    exact .of_run hr (by unfold Builtin.cap_; simp only [List.getElem?_toArray, List.getElem?_cons_zero]; rw [Sem.run_bind, run_und hi, hd]; rfl) (.lit _)
  · cases h
end Go.Cam
namespace Go.Cam
open Go Go.RowKit

/-! ## make -/
def repCat : Nat → List AV → List AV
  | 0, _ => []
  | n + 1, l => catL l (repCat n l)
theorem repCat_length (l : List AV) : ∀ n, (repCat n l).length = n * l.length
  | 0 => by simp [repCat]
  | n + 1 => by simp [repCat, catL_eq, repCat_length l n, Nat.add_mul]; omega
theorem repCat_get (l : List AV) : ∀ n i v, (repCat n l)[i]? = some v → l[i % l.length]? = some v
  | 0, i, v, h => by simp [repCat] at h
  | n + 1, i, v, h => by
    simp only [repCat, catL_eq] at h
    by_cases hi : i < l.length
    · rw [List.getElem?_append_left hi] at h
      rw [Nat.mod_eq_of_lt hi]; exact h
    · rw [List.getElem?_append_right (by omega)] at h
      have := repCat_get l n _ v h
      rwa [← Nat.mod_eq_sub_mod (by omega)] at this
theorem zeros_ok {μ : Mu} (z : Array Value) (n m : Nat) (h : m = n * z.size) : VRs μ (repCat n (litList z.toList)) ((Array.range m).map fun i => z[i % z.size]!) := by
  refine .of_get (by rw [repCat_length, litList_eq]; simp [h]) fun i v hi => ?_
  have hl := (List.getElem?_eq_some_iff.1 hi).1
  rw [repCat_length, litList_eq] at hl
  have h2 := repCat_get _ _ _ _ hi
  rw [litList_eq, List.getElem?_map, List.length_map, Array.length_toList] at h2
  simp only [List.length_map, Array.length_toList] at hl
  have hz : 0 < z.size := by
    rcases Nat.eq_zero_or_pos z.size with h0 | h0
    · rw [h0] at hl; omega
    · exact h0
  have hm := Nat.mod_lt i hz
  rw [Array.getElem?_toList, Array.getElem?_eq_getElem hm] at h2
  simp at h2
  refine ⟨z[i % z.size], ?_, by rw [← h2]; exact .lit _⟩
  have him : i < m := by omega
  simp [him, hm]

def zcells (P : Program) (elem : TypeId) : Option (List AV) :=
  match tinf P elem with
  | none => none
  | some e => match e.zero with
    | none => none
    | some z => match Nat.beq z.cells.size e.size with
      | true => some (litList z.cells.toList)
      | false => none

def makeSliceA (P : Program) (t : TypeId) (len cap : AV) (H : Hp) : Option (AV × Hp) :=
  match tinf P t with
  | none => none
  | some i => match i.desc with
    | .slice elem => match tinf P elem with
      | none => none
      | some e => match natOf len with
        | none => none
        | some l => match natOf cap with
          | none => none
          | some c => match Nat.ble l c && (Nat.ble c 1048576 && Nat.ble e.bytes 1048576) with
            | false => none
            | true => match zcells P elem with
              | none => none
              | some z => match newA H (repCat c z) with
                | none => none
                | some (b, H') => some (.slice b 0 l e.size (some c), H')
    | _ => none

theorem zcells_ok {P : Program} {elem : TypeId} {e : TInf} {l : List AV} (he : tinf P elem = some e) (h : zcells P elem = some l) : ∃ z, e.zero = some z ∧ z.cells.size = e.size ∧ l = litList z.cells.toList := by
  unfold zcells at h
  rw [he] at h
  simp only at h
  split at h
  · cases h
  rename_i z hz
  split at h
  · rename_i hb; cases h; exact ⟨z, hz, Nat.eq_of_beq_eq_true hb, rfl⟩
  · cases h

theorem makeSlice_ok {P : Program} {t : TypeId} {len cap v : AV} {ul uc : Value} {μ : Mu} {H H' : Hp} {w : World} (hr : HR μ H w) (hl : VR μ len ul) (hc : VR μ cap uc) (h : makeSliceA P t len cap H = some (v, H')) :
    OpV P (Instr.makeSlice t ul uc) μ H w v H' := by
  unfold makeSliceA at h
  split at h
  · cases h
  rename_i i hi
  split at h
  case h_2 => cases h
  rename_i elem hd
  split at h
  · cases h
  rename_i e he
  split at h
  · cases h
  rename_i l hln
  split at h
  · cases h
  rename_i c hcn
  split at h
  · cases h
  rename_i hck
  obtain ⟨hck1, hck2⟩ := Bool.and_eq_true_iff.1 hck
  obtain ⟨hck2, hck3⟩ := Bool.and_eq_true_iff.1 hck2
  have hck1 := Nat.le_of_ble_eq_true hck1
  have hck2 := Nat.le_of_ble_eq_true hck2
  have hck3 := Nat.le_of_ble_eq_true hck3
  split at h
  · cases h
  rename_i z hz
  split at h
  · cases h
  rename_i b H1 hnew
  cases h
  obtain ⟨k1, z1, rfl, p1, q1⟩ := natOf_ok hl hln
  obtain ⟨k2, z2, rfl, p2, q2⟩ := natOf_ok hc hcn
  obtain ⟨zz, g1, g2, rfl⟩ := zcells_ok he hz
  obtain ⟨info, hin, hbytes⟩ := run_info he w
  have w1 : IntKind.i64.wrap z1 = z1 := by unfold IntKind.wrap; simp [IntKind.signed, IntKind.bits]; omega
  have w2 : IntKind.i64.wrap z2 = z2 := by unfold IntKind.wrap; simp [IntKind.signed, IntKind.bits]; omega
  have hrow := new_ok (P := P) hr elem (zeros_ok (μ := μ) zz.cells c (c * e.size) (by rw [g2])) hnew
  obtain ⟨u, w', μ', r1, r2, r3, r4, r5⟩ := hrow
  have hbig : e.bytes * c ≤ 1048576 * 1048576 := Nat.mul_le_mul hck3 hck2
  have hno : ¬ ((((decide (z2 < 0) || decide ((e.bytes : Int) * z2 > 2 ^ 48)) = true ∨ z1 < 0) ∨ z1 > z2)) := by
    rintro ((h1 | h1) | h1)
    · simp only [Bool.or_eq_true, decide_eq_true_eq] at h1
      rcases h1 with h1 | h1
      · omega
      · have e3 : ((e.bytes * c : Nat) : Int) = (e.bytes : Int) * z2 := by rw [← q2]; simp [Int.toNat_of_nonneg p2]
        rw [← e3] at h1
        have : ((2 : Int) ^ 48) = 281474976710656 := by decide
        omega
    · omega
    · omega
  refine ⟨.slice (some u) l c, w', μ', ?_, r2, ?_⟩
  · unfold Instr.makeSlice
    rw [Sem.run_bind, run_und hi, hd]
    simp only [Result.andThen_ok, Sem.run_bind, asInt, asIntOf, Sem.run_pure, hin, hbytes, w1, w2]
    simp only [Bool.or_eq_true, decide_eq_true_eq] at hno ⊢
    rw [if_neg hno]
    simp only [Sem.run_bind, run_askRoom, Result.andThen_ok, run_size he, q2, q1]
    by_cases h0 : c * e.size = 0
    · rw [if_pos h0]
      rw [h0] at r1
      have hr0 : Array.range 0 = #[] := rfl
      have r1' : (newRow elem #[]).run P w = .ok u w' := by rw [hr0, Array.map_empty] at r1; exact r1
      simp [h0, hr0, r1']
    · rw [if_neg h0]
      simp only [Sem.run_bind, run_zero he _ g1, Result.andThen_ok, Sem.run_pure, r1]
  · subst r3
    exact .slice b 0 l e.size c (some c) r4 hck1 (by intro k hk; cases hk; rfl) (by rw [r5]; simp)

/-! ## Literals of structs, arrays and slices -/
def spliceV : List AV → Nat → List AV → List AV
  | cs, _, [] => cs
  | [], _, _ :: _ => []
  | _ :: cs, 0, v :: vs => v :: spliceV cs 0 vs
  | c :: cs, i + 1, v :: vs => c :: spliceV cs i (v :: vs)
theorem spliceV_length : ∀ (cs : List AV) (i : Nat) (vs : List AV), (spliceV cs i vs).length = cs.length
  | cs, _, [] => by cases cs <;> rfl
  | [], _, _ :: _ => rfl
  | _ :: cs, 0, v :: vs => by simp [spliceV, spliceV_length cs 0 vs]
  | c :: cs, i + 1, v :: vs => by simp [spliceV, spliceV_length cs i (v :: vs)]
theorem spliceV_get : ∀ (cs : List AV) (i : Nat) (vs : List AV) (j : Nat) (v : AV), (spliceV cs i vs)[j]? = some v →
    (i ≤ j ∧ j < i + vs.length ∧ vs[j - i]? = some v) ∨ ((j < i ∨ i + vs.length ≤ j) ∧ cs[j]? = some v)
  | cs, i, [], j, v, h => by right; refine ⟨by simp only [List.length_nil]; omega, ?_⟩; cases cs <;> exact h
  | [], i, _ :: _, j, v, h => by simp [spliceV] at h
  | c :: cs, 0, x :: vs, j, v, h => by
    cases j with
    | zero => left; simp [spliceV] at h; simp [h]
    | succ j =>
      simp only [spliceV, List.getElem?_cons_succ] at h
      rcases spliceV_get cs 0 vs j v h with ⟨h1, h2, h3⟩ | ⟨h1, h2⟩
      · left; refine ⟨by omega, by simp only [List.length_cons]; omega, by simpa using h3⟩
      · right; refine ⟨by simp only [List.length_cons]; omega, by simpa using h2⟩
  | c :: cs, i + 1, x :: vs, j, v, h => by
    cases j with
    | zero => right; refine ⟨by omega, by simpa [spliceV] using h⟩
    | succ j =>
      simp only [spliceV, List.getElem?_cons_succ] at h
      rcases spliceV_get cs i (x :: vs) j v h with ⟨h1, h2, h3⟩ | ⟨h1, h2⟩
      · left; refine ⟨by omega, by omega, ?_⟩; rw [show j + 1 - (i + 1) = j - i by omega]; exact h3
      · right; refine ⟨by omega, by simpa using h2⟩

def fillA (place : Nat → Option (Nat × Nat)) (cells : List AV) : List (Nat × AV) → Option (List AV)
  | [] => some cells
  | (i, v) :: r => match place i with
    | none => none
    | some (off, size) => match Nat.beq (lenL (cellsOf v)) size && Nat.ble (off + size) (lenL cells) with
      | true => fillA place (spliceV cells off (cellsOf v)) r
      | false => none

theorem foldl_wr : ∀ (vs : List Value) (k off : Nat) (cs : Array Value), (vs.zipIdx k).foldl (fun cs (c, j) => cs.setIfInBounds (off + j) c) cs = wr cs (off + k) vs
  | [], k, off, cs => rfl
  | v :: r, k, off, cs => by
    rw [List.zipIdx_cons, List.foldl_cons, foldl_wr r (k + 1) off, wr]
    rfl
theorem VRs.wr {μ : Mu} {l vs : List AV} {a us : Array Value} {off : Nat} (h : VRs μ l a) (hv : VRs μ vs us) (hf : off + vs.length ≤ l.length) : VRs μ (spliceV l off vs) (Cam.wr a off us.toList) := by
  have h1 := h.1
  have h2 := hv.1
  refine .of_get (by rw [spliceV_length, wr_size]; exact h1) fun i v hi => ?_
  rw [wr_get _ _ _ _ (by simp; omega)]
  rcases spliceV_get _ _ _ _ _ hi with ⟨h1, h2, h3⟩ | ⟨h1, h2⟩
  · rw [if_pos (by simp; omega)]
    obtain ⟨u, g1, g2⟩ := hv.get h3
    exact ⟨u, by rw [Array.getElem?_toList]; exact g1, g2⟩
  · rw [if_neg (by simp; omega)]
    exact h.get h2

/-- Rows of parts, one by one. -/
def PRs (μ : Mu) : List (Nat × AV) → List (Nat × Value) → Prop
  | [], [] => True
  | (i, v) :: l, (j, u) :: a => i = j ∧ VR μ v u ∧ PRs μ l a
  | _, _ => False
theorem fill_ok {μ : Mu} {place place' : Nat → Option (Nat × Nat)} (hp : ∀ i x, place i = some x → place' i = some x) : ∀ (ps : List (Nat × AV)) (qs : List (Nat × Value)) (l r : List AV) (a : Array Value), PRs μ ps qs → VRs μ l a → fillA place l ps = some r →
    ∃ b, Instr.fill place' a qs = some b ∧ VRs μ r b
  | [], [], l, r, a, _, h, hf => by cases hf; exact ⟨a, rfl, h⟩
  | [], _ :: _, l, r, a, hp, _, _ => hp.elim
  | _ :: _, [], l, r, a, hp, _, _ => hp.elim
  | (i, v) :: ps, (j, u) :: qs, l, r, a, ⟨e, hv, hps⟩, h, hf => by
    subst e
    simp only [fillA] at hf
    split at hf
    · cases hf
    rename_i off size hpl
    split at hf
    case h_2 => cases hf
    rename_i hc
    obtain ⟨c1, c2⟩ := Bool.and_eq_true_iff.1 hc
    have c1 := Nat.eq_of_beq_eq_true c1
    have c2 := Nat.le_of_ble_eq_true c2
    rw [lenL_eq] at c1 c2
    have hcv := cellsOf_ok hv
    have h1 := h.1
    have h2 := hcv.1
    have hw := h.wr hcv (off := off) (by omega)
    obtain ⟨b, g1, g2⟩ := fill_ok hp ps qs _ r _ hps hw hf
    refine ⟨b, ?_, g2⟩
    simp only [Instr.fill, hp _ _ hpl]
    rw [if_neg (by simp; omega)]
    have : (u.cells.zipIdx.foldl (fun cs (c, j) => cs.setIfInBounds (off + j) c) a) = wr a off u.cells.toList := by
      rw [← Array.foldl_toList, Array.toList_zipIdx]
      exact foldl_wr u.cells.toList 0 off a
    rw [this]; exact g1
  termination_by ps => ps.length

def placesA (P : Program) : List Field → Option (List (Nat × Nat))
  | [] => some []
  | f :: r => match tinf P f.type with
    | none => none
    | some i => match placesA P r with
      | none => none
      | some l => some ((f.offset, i.size) :: l)
theorem places_ok {P : Program} {w : World} : ∀ (fs : List Field) (l : List (Nat × Nat)), placesA P fs = some l → (fs.mapM fun f => (do pure (f.offset, ← sizeOf f.type) : Sem (Nat × Nat))).run P w = .ok l w
  | [], l, h => by cases h; rfl
  | f :: r, l, h => by
    simp only [placesA] at h
    split at h
    · cases h
    rename_i i hi
    split at h
    · cases h
    rename_i l' hl
    cases h
    rw [List.mapM_cons]
    have := places_ok (w := w) r l' hl
    simp only [Sem.run_bind, run_size hi, Result.andThen_ok, Sem.run_pure] at this ⊢
    rw [this]; rfl

def buildA (P : Program) (t : TypeId) (parts : List (Nat × AV)) : Option AV :=
  match tinf P t with
  | none => none
  | some i => match i.zero with
    | none => none
    | some z => match i.desc with
      | .struct fields => match placesA P fields.toList with
        | none => none
        | some pl => match fillA (fun k => getL k pl) (litList z.cells.toList) parts with
          | none => none
          | some l => some (.agg l)
      | .array _ elem => match tinf P elem with
        | none => none
        | some e => match fillA (fun k => some (k * e.size, e.size)) (litList z.cells.toList) parts with
          | none => none
          | some l => some (.agg l)
      | _ => none
theorem build_ok {P : Program} {t : TypeId} {parts : List (Nat × AV)} {uparts : Array (Nat × Value)} {v : AV} {μ : Mu} {H : Hp} {w : World} (hr : HR μ H w) (hp : PRs μ parts uparts.toList) (h : buildA P t parts = some v) :
    RunV P (Instr.build t uparts) μ H w v := by
  unfold buildA at h
  split at h
  · cases h
  rename_i i hi
  split at h
  · cases h
  rename_i z hz
  have hzr : VRs μ (litList z.cells.toList) z.cells := by simpa using litList_ok (μ := μ) z.cells.toList
  split at h
  · rename_i fields hd
    split at h
    · cases h
    rename_i pl hpl
    split at h
    · cases h
    rename_i l hl
    cases h
    obtain ⟨b, g1, g2⟩ := fill_ok (place' := fun k => pl.toArray[k]?) (fun k x hk => by rw [getL_eq] at hk; simpa using hk) _ _ _ _ _ hp hzr hl
    refine .of_run hr (u := .agg b) ?_ (.agg _ _ g2.1 g2.2)
    have hpr := places_ok (P := P) (w := w) _ _ hpl
    have hpr2 : (fields.mapM fun f => (do pure (f.offset, ← sizeOf f.type) : Sem (Nat × Nat))).run P w = .ok pl.toArray w := by
      rw [Array.mapM_eq_mapM_toList, Sem.run_map, hpr]; rfl
    unfold Instr.build
    simp only [Sem.run_bind, run_zero hi w hz, Result.andThen_ok, run_und hi, hd] at hpr2 ⊢
    rw [hpr2]
    simp only [Result.andThen_ok]
    rw [g1]; rfl
  · rename_i n elem hd
    split at h
    · cases h
    rename_i e he
    split at h
    · cases h
    rename_i l hl
    cases h
    obtain ⟨b, g1, g2⟩ := fill_ok (place' := fun k => some (k * e.size, e.size)) (fun k x hk => hk) _ _ _ _ _ hp hzr hl
    refine .of_run hr (u := .agg b) ?_ (.agg _ _ g2.1 g2.2)
    unfold Instr.build
    simp only [Sem.run_bind, run_zero hi w hz, Result.andThen_ok, run_und hi, hd, run_size he]
    rw [g1]; rfl
  · cases h

def buildSliceA (P : Program) (t : TypeId) (len : Nat) (parts : List (Nat × AV)) (H : Hp) : Option (AV × Hp) :=
  match tinf P t with
  | none => none
  | some i => match i.desc with
    | .slice elem => match tinf P elem with
      | none => none
      | some e => match Nat.ble (len * e.size) 16777216 with
        | false => none
        | true => match zcells P elem with
          | none => none
          | some z => match fillA (fun k => some (k * e.size, e.size)) (repCat len z) parts with
            | none => none
            | some l => match newA H l with
              | none => none
              | some (b, H') => some (.slice b 0 len e.size (some len), H')
    | _ => none
theorem buildSlice_ok {P : Program} {t : TypeId} {len : Nat} {parts : List (Nat × AV)} {uparts : Array (Nat × Value)} {v : AV} {μ : Mu} {H H' : Hp} {w : World} (hr : HR μ H w) (hp : PRs μ parts uparts.toList)
    (h : buildSliceA P t len parts H = some (v, H')) : OpV P (Instr.buildSlice t len uparts) μ H w v H' := by
  unfold buildSliceA at h
  split at h
  · cases h
  rename_i i hi
  split at h
  case h_2 => cases h
  rename_i elem hd
  split at h
  · cases h
  rename_i e he
  split at h
  · cases h
  rename_i hbig
  have hbig := Nat.le_of_ble_eq_true hbig
  split at h
  · cases h
  rename_i z hz
  split at h
  · cases h
  rename_i l hl
  split at h
  · cases h
  rename_i b H1 hnew
  cases h
  obtain ⟨zz, g1, g2, rfl⟩ := zcells_ok he hz
  obtain ⟨row, k1, k2⟩ := fill_ok (place' := fun k => some (k * e.size, e.size)) (fun k x hk => hk) _ _ _ _ _ hp (zeros_ok (μ := μ) zz.cells len (len * e.size) (by rw [g2])) hl
  obtain ⟨u, w', μ', r1, r2, r3, r4, r5⟩ := new_ok (P := P) hr elem k2 hnew
  refine ⟨.slice (some u) len len, w', μ', ?_, r2, ?_⟩
  · unfold Instr.buildSlice
    rw [Sem.run_bind, run_und hi, hd]
    simp only [Result.andThen_ok, Sem.run_bind, run_size he]
    rw [if_neg (by omega)]
    by_cases h0 : len * e.size = 0
    · simp only [h0, if_true, Sem.run_pure, Result.andThen_ok, Sem.run_bind]
      rw [h0] at k1
      have hr0 : Array.range 0 = #[] := rfl
      rw [hr0, Array.map_empty] at k1 ⊢
      rw [k1]
      simp only [Sem.run_bind, r1, Result.andThen_ok, Sem.run_pure]
    · simp only [h0, if_false, Sem.run_bind, run_zero he _ g1, Result.andThen_ok, Sem.run_pure, k1, r1]
  · subst r3
    have hrsz : row.size = len * e.size := by
      rw [← k2.1]
      have : ∀ (ps : List (Nat × AV)) (c r : List AV), fillA (fun k => some (k * e.size, e.size)) c ps = some r → r.length = c.length := by
        intro ps
        induction ps with
        | nil => intro c r h; cases h; rfl
        | cons p ps ih =>
          intro c r h
          simp only [fillA] at h
          split at h
          · rw [ih _ _ h, spliceV_length]
          · cases h
      rw [this _ _ _ hl, repCat_length, litList_eq]; simp [g2]
    exact .slice b 0 len e.size len (some len) r4 (Nat.le_refl _) (by intro k hk; cases hk; rfl) (by rw [r5, hrsz]; omega)

/-! ## append(nil, make([]E, n)...) -/
def appendZA (P : Program) (sT xT : TypeId) (s x : AV) (H : Hp) : Option (AV × Hp) :=
  match tinf P sT, tinf P xT with
  | some i, some j => match i.desc, j.desc with
    | .slice elem, .int _ => match tinf P elem with
      | none => none
      | some e => match e.zero with
        | none => none
        | some z => match Nat.beq z.cells.size e.size with
          | false => none
          | true => match natOf x with
            | none => none
            | some n => match n with
              | 0 => none
              | _ => match s with
                | .lit (.slice none 0 0) => match fitsA n e.bytes with
                  | false => none
                  | true => match newA H (repCat n (litList z.cells.toList)) with
                    | none => none
                    | some (b, H') => some (.slice b 0 n e.size none, H')
                | _ => none
    | _, _ => none
  | _, _ => none
theorem zeroCells_ok {μ : Mu} (z : Array Value) (n : Nat) : VRs μ (repCat n (litList z.toList)) (Builtin.zeroCells z n) := zeros_ok z n (n * z.size) rfl
theorem appendZ_ok {P : Program} {sT xT ty : TypeId} {s x v : AV} {us ux : Value} {μ : Mu} {H H' : Hp} {w : World} (hr : HR μ H w) (hs : VR μ s us) (hx : VR μ x ux) (h : appendZA P sT xT s x H = some (v, H')) :
    OpV P (Builtin.append_ #[sT, xT] ty #[us, ux]) μ H w v H' := by
  unfold appendZA at h
  split at h
  case h_2 => cases h
  rename_i i j hi hj
  split at h
  case h_2 => cases h
  rename_i elem kk hd hjd
  split at h
  · cases h
  rename_i e he
  split at h
  · cases h
  rename_i z hz
  split at h
  · cases h
  rename_i hzs
  have hzs := Nat.eq_of_beq_eq_true hzs
  split at h
  · cases h
  rename_i n hn
  obtain ⟨k, q, rfl, hq0, hqn⟩ := natOf_ok hx hn
  split at h
  · cases h
  rename_i hn0
  split at h
  case h_2 => cases h
  have := hs.lit_eq; subst this
  split at h
  · cases h
  rename_i hfit
  obtain ⟨hb, hsz⟩ := Bool.and_eq_true_iff.1 hfit
  have hb := Nat.le_of_ble_eq_true hb
  have hsz := Nat.le_of_ble_eq_true hsz
  split at h
  · cases h
  rename_i b H1 hnew
  cases h
  have hnpos : 0 < n := Nat.pos_of_ne_zero (fun e => hn0 e)
  obtain ⟨info, hin, hbytes⟩ := run_info he w
  have hii : ∀ w, (typeInfo elem).run P w = .ok info w := fun w => by
    obtain ⟨_, h2, h3, _⟩ := tinf_parts he
    simp [typeInfo, h3] at hin ⊢
    exact hin
  have hzz : ∀ w, (zeroValue elem).run P w = .ok z w := fun w => run_zero he w hz
  have hwr : IntKind.i64.wrap q = q := by unfold IntKind.wrap; simp [IntKind.signed, IntKind.bits]; omega
  have hgrow : ¬ Builtin.nextslicecap (0 + n) 0 * e.bytes > 2 ^ 48 := by
    have := growslice_fits (need := 0 + n) (old := 0) (bytes := e.bytes) (by omega) (by rw [Nat.zero_add]; omega)
    omega
  have hbig : ¬ (((0 + n : Nat) : Int) > IntKind.i64.max ∧ True) := by
    rintro ⟨h1, _⟩
    have h4 : IntKind.i64.max = 9223372036854775807 := by decide
    omega
  have hneg : ¬ q < 0 := by omega
  have hover : ¬ q * (e.bytes : Int) > 2 ^ 48 := by
    have e3 : ((n * e.bytes : Nat) : Int) = q * (e.bytes : Int) := by rw [← hqn]; simp [Int.toNat_of_nonneg hq0]
    rw [← e3]
    have : ((2 : Int) ^ 48) = 281474976710656 := by decide
    omega
  have hnone : ¬ 0 + n ≤ 0 := by omega
  have hcap : ∃ cap, 0 + n ≤ cap ∧ ∃ row : Array Value, row = (if n * e.size = 0 then #[] else Builtin.zeroCells z.cells n) ∧ (Builtin.append_ #[sT, xT] ty #[.slice none 0 0, .int k q]).run P w =
      .ok (.slice (some ⟨w.heap.size, 0, none⟩) (0 + n) cap) (w.drew.alloc (.cells (#[] ++ row ++ Builtin.zeroCells z.cells (cap - (0 + n))) elem)) := by
    refine ⟨(Question.appendCap (0 + n) 0 elem).cut (w.tape w.drawn (Question.appendCap (0 + n) 0 elem)), by simp [Question.cut], _, rfl, ?_⟩
    unfold Builtin.append_
    simp only [List.getElem?_toArray, List.getElem?_cons_zero, List.getElem?_cons_succ]
    rw [Sem.run_bind, run_und hi, hd]
    simp only [Result.andThen_ok]
    rw [Sem.run_bind, run_size he]
    simp only [Result.andThen_ok]
    rw [Sem.run_bind, run_und hj, hjd]
    by_cases h0 : n * e.size = 0
    · simp only [Result.andThen_ok, Sem.run_bind, Sem.run_pure, if_true, asInt, asIntOf, hwr, hneg, if_false, hii, hbytes, hover, hqn, hnone, hbig, hgrow, Bool.true_eq, true_or, Bool.not_true, Bool.false_eq_true,
        run_choose, Question.forced, run_askRoom, World.drew_eq, Builtin.firstCells, h0, hzz, newRow, run_newObj, World.alloc_eq]
      rfl
    · simp only [Result.andThen_ok, Sem.run_bind, Sem.run_pure, if_true, asInt, asIntOf, hwr, hneg, if_false, hii, hbytes, hover, hqn, hnone, hbig, hgrow, Bool.true_eq, true_or, Bool.not_true, Bool.false_eq_true,
        run_choose, Question.forced, run_askRoom, World.drew_eq, Builtin.firstCells, h0, hzz, newRow, run_newObj, World.alloc_eq]
      rfl
  obtain ⟨cap, hcap, row, hrow, hrun⟩ := hcap
  have hrow2 : VRs μ (repCat n (litList z.cells.toList)) row := by
    have h1 := zeroCells_ok (μ := μ) z.cells n
    rw [hrow]
    split
    · rename_i h0
      have h2 := h1.1
      rw [zeroCells_size, hzs, h0] at h2
      have : repCat n (litList z.cells.toList) = [] := List.length_eq_zero_iff.1 h2
      rw [this]; exact ⟨rfl, fun i h => by simp at h⟩
    · exact h1
  have hrsz : row.size = n * e.size := by
    rw [← hrow2.1, repCat_length, litList_eq]; simp [hzs]
  have hr2 : HR μ H w.drew := hr.of_heap rfl
  unfold newA at hnew
  split at hnew
  case h_2 => cases hnew
  rename_i hf
  simp only [Option.some.injEq, Prod.mk.injEq] at hnew
  obtain ⟨rfl, rfl⟩ := hnew
  have hsz2 : (#[] ++ row ++ Builtin.zeroCells z.cells (cap - (0 + n))).size = cap * e.size := by
    simp only [Array.size_append, zeroCells_size, hzs, hrsz, List.size_toArray, List.length_nil, Nat.zero_add, ← Nat.add_mul]
    congr 1; omega
  have hst := new_step hr2 (.cells (someAll (repCat n (litList z.cells.toList))) H.next) (.cells (#[] ++ row ++ Builtin.zeroCells z.cells (cap - (0 + n))) elem (0, 0)) (cap * e.size) (fun cs g h => by cases h; rfl) (by
    refine ⟨_, (elem, (0, 0)), rfl, ⟨by rw [hsz2, Mu.ext_size], Thaw.zero _ _⟩, ?_, fun i v hi => ?_⟩
    · rw [someAll_eq, List.length_map, hsz2, hrow2.1, hrsz]; exact Nat.mul_le_mul_right _ (by omega)
    · rw [someAll_eq, List.getElem?_map] at hi
      have hv2 : (repCat n (litList z.cells.toList))[i]? = some v := by
        cases hq : (repCat n (litList z.cells.toList))[i]? with
        | none => rw [hq] at hi; cases hi
        | some x => rw [hq] at hi; simp at hi; rw [hi]
      obtain ⟨u, k1, k2⟩ := hrow2.get hv2
      have hlt := (Array.getElem?_eq_some_iff.1 k1).1
      refine ⟨u, ?_, k2.mono (μ.ext_le _ _ _ hr.free), AV.allFlat_mem hf _ (by rw [← (List.getElem?_eq_some_iff.1 hv2).2]; exact List.getElem_mem _)⟩
      rw [Array.getElem?_append_left (by simp; omega), Array.empty_append]; exact k1)
  refine ⟨_, _, _, hrun, hst.predrew, ?_⟩
  have e1 : (⟨w.heap.size, 0, none⟩ : Addr) = ⟨(μ.ext H.next w.drew.heap.size (cap * e.size)).blk H.next, 0, none⟩ := by rw [Mu.ext_blk]; rfl
  rw [e1, Nat.zero_add]
  exact .slice _ _ _ _ _ _ (Mu.ext_dom _ _ _ _) (by omega) (by intro k hk; cases hk) (by rw [Mu.ext_size]; omega)

/-! ## clear -/
def clearA (P : Program) (t : TypeId) (x : AV) (H : Hp) : Option (AV × Hp) :=
  match tinf P t with
  | none => none
  | some i => match i.desc with
    | .slice elem => match tinf P elem with
      | none => none
      | some e => match zcells P elem with
        | none => none
        | some z => match x with
          | .slice b off n _ _ => match n with
            | 0 => some (.lit (.tuple #[]), H)
            | m + 1 => match H.store b off (repCat (m + 1) z) with
              | none => none
              | some H' => some (.lit (.tuple #[]), H')
          | .sliceE => some (.lit (.tuple #[]), H)
          | .lit (.slice none 0 _) => some (.lit (.tuple #[]), H)
          | _ => none
    | _ => none
theorem clear_ok {P : Program} {t ty : TypeId} {x v : AV} {u : Value} {μ : Mu} {H H' : Hp} {w : World} (hr : HR μ H w) (hx : VR μ x u) (h : clearA P t x H = some (v, H')) :
    OpV P (Builtin.clear_ #[t] ty #[u]) μ H w v H' := by
  unfold clearA at h
  split at h
  · cases h
  rename_i i hi
  split at h
  case h_2 => cases h
  rename_i elem hd
  split at h
  · cases h
  rename_i e he
  split at h
  · cases h
  rename_i z hz
  obtain ⟨zv, g1, g2, g3⟩ := zcells_ok he hz
  subst g3
  split at h
  · rename_i b off n esz c
    cases hx with
    | slice _ _ _ _ cap _ hb h1 h2 h3 =>
    split at h
    · cases h
      refine .of_run hr (u := .tuple #[]) ?_ (.lit _)
      unfold Builtin.clear_
      simp only [List.getElem?_toArray, List.getElem?_cons_zero]
      rw [Sem.run_bind, run_und hi, hd]; rfl
    · rename_i m
      split at h
      · cases h
      rename_i H1 hst
      cases h
      obtain ⟨w', q1, q2⟩ := store_step (P := P) hr hst (zeroCells_ok zv.cells (m + 1))
      refine ⟨.tuple #[], w', μ, ?_, q2, .lit _⟩
      unfold Builtin.clear_
      simp only [List.getElem?_toArray, List.getElem?_cons_zero]
      rw [Sem.run_bind, run_und hi, hd]
      simp only [Result.andThen_ok, Sem.run_bind, run_zero he w g1]
      show ((storeCells ⟨μ.blk b, off, none⟩ (Builtin.zeroCells zv.cells (m + 1)).toList).run P w).andThen _ = _
      rw [q1]; rfl
  · cases hx with
    | sliceE a cap =>
    cases h
    refine .of_run hr (u := .tuple #[]) ?_ (.lit _)
    unfold Builtin.clear_
    simp only [List.getElem?_toArray, List.getElem?_cons_zero]
    rw [Sem.run_bind, run_und hi, hd]; rfl
  · have := hx.lit_eq; subst this
    cases h
    refine .of_run hr (u := .tuple #[]) ?_ (.lit _)
    unfold Builtin.clear_
    simp only [List.getElem?_toArray, List.getElem?_cons_zero]
    rw [Sem.run_bind, run_und hi, hd]; rfl
  · cases h
end Go.Cam
namespace Go.Cam
open Go Go.RowKit

/-! ## Maps and iterators -/
def AObj.lone : AObj → Bool
  | .cells _ _ => false
  | _ => true
def Hp.put (H : Hp) (b : Nat) (o : AObj) : Hp := { H with blk := H.blk.set fuelT b o }
theorem put_step {μ : Mu} {H : Hp} {w : World} {b : Nat} {o o2 : AObj} {x : Obj} (hr : HR μ H w) (hb : H.blk.get b = some o) (h1 : o.lone = true) (h2 : o2.lone = true) (hx : OR μ o2 b (some x)) :
    Step μ H w μ (H.put b o2) { w with heap := w.heap.setIfInBounds (μ.blk b) x } := by
  have hlt := hr.lt hb
  have hget : ∀ c o', (H.put b o2).blk.get c = some o' → (c = b ∧ o' = o2) ∨ (c ≠ b ∧ H.blk.get c = some o') := fun c o' h => T.get_set _ _ _ _ _ _ h
  have hne : ∀ c o', H.blk.get c = some o' → c ≠ b → μ.blk c ≠ μ.blk b := by
    intro c o' hc hcb
    refine (hr.apart c b _ _ hc hb hcb).resolve_left (fun m => ?_)
    cases o' <;> cases o <;> first | exact m.elim | cases h1
  refine Step.of hr ⟨rfl, rfl⟩ ⟨0, by show H.next = _; omega, fun b hb => .inl hb⟩ ?_ ?_ ?_ ?_ ?_ (.refl _) ?_ rfl rfl rfl (by simp) ?_
  · intro c cs g hc
    rcases hget c _ hc with ⟨rfl, e⟩ | ⟨hn, h⟩
    · subst e; cases h2
    · exact .inl ⟨c, cs, h⟩
  · intro c o' hc
    rcases hget c o' hc with ⟨rfl, _⟩ | ⟨_, h⟩
    · exact hr.dom _ _ hb
    · exact hr.dom _ _ h
  · intro c o' hc
    rcases hget c o' hc with ⟨rfl, rfl⟩ | ⟨hn, h⟩
    · simp only [Array.getElem?_setIfInBounds, if_true, hlt]; exact hx
    · simp only [Array.getElem?_setIfInBounds]
      rw [if_neg (fun e => hne c o' h hn e.symm)]
      exact hr.obj c o' h
  · intro c d o' o'' hc hd hcd
    rcases hget c o' hc with ⟨rfl, rfl⟩ | ⟨hn, h⟩ <;> rcases hget d o'' hd with ⟨rfl, rfl⟩ | ⟨hn', h'⟩
    · exact absurd rfl hcd
    · exact .inr (fun e => hne d o'' h' hn' e.symm)
    · exact .inr (hne c o' h hn)
    · exact hr.apart c d _ _ h h' hcd
  · intro c cs g hc
    rcases hget c _ hc with ⟨rfl, e⟩ | ⟨hn, h⟩
    · subst e; cases h2
    · exact hr.grp c cs g h
  · intro c o' hc
    rcases hget c o' hc with ⟨rfl, _⟩ | ⟨_, h⟩
    · exact .inl ⟨c, o, hb, rfl⟩
    · exact .inl ⟨c, o', h, rfl⟩
  · intro k hk hkn
    show (w.heap.setIfInBounds _ _)[k]? = _
    rw [Array.getElem?_setIfInBounds, if_neg (hkn b o hb)]

theorem run_getObj {P : Program} {w : World} {r : Nat} {o : Obj} (h : w.heap[r]? = some o) (hc : ∀ c e f, o ≠ .cells c e f) : (getObj r).run P w = .ok o w := by
  simp only [getObj, Sem.run, h]
theorem run_setObj {P : Program} {w : World} {r : Nat} {o o2 : Obj} (h : w.heap[r]? = some o) (hc : ∀ c e f, o ≠ .cells c e f) : (setObj r o2).run P w = .ok () { w with heap := w.heap.setIfInBounds r o2 } := by
  simp only [setObj, Sem.run, h]

def makeMapA (P : Program) (t : TypeId) (r : Option AV) (H : Hp) : Option (AV × Hp) :=
  match (match r with
    | none => true
    | some x => match tinf P t with
      | none => false
      | some i => match i.desc with
        | .map _ _ => match natOf x with
          | some _ => true
          | none => false
        | _ => false) with
  | true => some (.map H.next, H.new (.map []))
  | false => none
theorem makeMap_ok {P : Program} {t : TypeId} {r : Option AV} {ur : Option Value} {v : AV} {μ : Mu} {H H' : Hp} {w : World} (hr : HR μ H w) (hx : VRo μ r ur) (h : makeMapA P t r H = some (v, H')) :
    OpV P (Instr.makeMap t ur) μ H w v H' := by
  unfold makeMapA at h
  split at h
  case h_2 => cases h
  rename_i hok
  cases h
  have hst := new_step hr (.map []) (.map #[] 0) 0 (fun _ _ h => by cases h) ⟨#[], 0, rfl, rfl, fun i h => by simp at h⟩
  refine ⟨.map (some w.heap.size), w.alloc (.map #[] 0), _, ?_, hst, ?_⟩
  · unfold Instr.makeMap
    cases r with
    | none => cases ur with
      | none => simp
      | some u => exact hx.elim
    | some x => cases ur with
      | none => exact hx.elim
      | some u =>
        simp only at hok
        split at hok
        · cases hok
        rename_i i hi
        split at hok
        case h_2 => cases hok
        rename_i k e hd
        split at hok
        case h_2 => cases hok
        rename_i n hn
        obtain ⟨kk, z, rfl, _, _⟩ := natOf_ok hx hn
        simp only [Sem.run_bind, run_und hi, hd, Result.andThen_ok, asInt, asIntOf, Sem.run_pure]
        simp
  · have hv := VR.map (μ := μ.ext H.next w.heap.size 0) H.next (Mu.ext_dom _ _ _ _)
    rw [show (μ.ext H.next w.heap.size 0).blk H.next = w.heap.size by rw [Mu.ext_blk]] at hv
    exact hv

def keysL : List (Value × AV) → List MapEntry
  | [] => []
  | (k, _) :: r => ⟨k, .nilIface, 0⟩ :: keysL r
theorem keysL_eq : ∀ l, keysL l = l.map fun p => ⟨p.1, .nilIface, 0⟩
  | [] => rfl
  | (k, v) :: r => by simp [keysL, keysL_eq r]

/-- Rows of entries with the same keys. -/
def sameKeys (l m : List MapEntry) : Prop := l.map (·.key) = m.map (·.key)
theorem findNow_same (d : TypeDesc) (k : Value) : ∀ (l m : List MapEntry) (i : Nat), sameKeys l m →
    (Instr.findNow d k l i = none ↔ Instr.findNow d k m i = none) ∧ (Instr.findNow d k l i = some none ↔ Instr.findNow d k m i = some none) ∧
    (∀ j v, Instr.findNow d k l i = some (some (j, v)) → ∃ u, Instr.findNow d k m i = some (some (j, u)) ∧ i ≤ j ∧ (m[j - i]?).map (·.val) = some u)
  | [], [], i, _ => by simp [Instr.findNow]
  | [], _ :: _, i, h => by simp [sameKeys] at h
  | _ :: _, [], i, h => by simp [sameKeys] at h
  | e :: l, f :: m, i, h => by
    simp only [sameKeys, List.map_cons, List.cons.injEq] at h
    obtain ⟨hk, ht⟩ := h
    obtain ⟨h1, h2, h3⟩ := findNow_same d k l m (i + 1) ht
    simp only [Instr.findNow, hk]
    split
    · simp
    · refine ⟨h1, h2, fun j v hj => ?_⟩
      obtain ⟨u, g1, g2, g3⟩ := h3 j v hj
      refine ⟨u, g1, by omega, ?_⟩
      rw [show j - i = (j - (i + 1)) + 1 by omega, List.getElem?_cons_succ]; exact g3
    · simp

def findEq (P : Program) (t : TypeId) (k : Value) : List (Value × AV) → Nat → Option (Option Nat)
  | [], _ => some none
  | (e, _) :: r, i => match runPure P (Op.equal t k e) with
    | none => none
    | some true => some (some i)
    | some false => findEq P t k r (i + 1)
/-- Where a key stands. -/
def findA (P : Program) (t : TypeId) (k : Value) (es : List (Value × AV)) : Option (Option Nat) :=
  match tinf P t with
  | none => none
  | some i => match Instr.findNow i.desc k (keysL es) 0 with
    | some none => some none
    | some (some (j, _)) => some (some j)
    | none => findEq P t k es 0
theorem findEq_ok {P : Program} {t : TypeId} {k : Value} {w : World} : ∀ (es : List (Value × AV)) (m : List MapEntry) (i : Nat) (r : Option Nat), m.map (·.key) = es.map (·.1) → findEq P t k es i = some r →
    (Instr.findAsking t k m i).run P w = .ok (r.bind fun j => (m[j - i]?).map fun e => (j, e.val)) w ∧ ∀ j, r = some j → i ≤ j ∧ j - i < es.length
  | [], [], i, r, _, h => by cases h; exact ⟨rfl, by simp⟩
  | [], _ :: _, i, r, h, _ => by simp at h
  | _ :: _, [], i, r, h, _ => by simp at h
  | (e, v) :: es, f :: m, i, r, hk, h => by
    simp only [List.map_cons, List.cons.injEq] at hk
    simp only [findEq] at h
    split at h
    · cases h
    · rename_i heq
      cases h
      have := runPure_ok _ heq w
      refine ⟨?_, fun j hj => by cases hj; exact ⟨Nat.le_refl _, by simp⟩⟩
      rw [Instr.findAsking, hk.1]
      simp [this]
    · rename_i heq
      have := runPure_ok _ heq w
      obtain ⟨g1, g2⟩ := findEq_ok (w := w) es m (i + 1) r hk.2 h
      refine ⟨?_, fun j hj => ?_⟩
      · rw [Instr.findAsking, hk.1, Sem.run_bind, this]
        simp only [Result.andThen_ok, Bool.false_eq_true, if_false, g1]
        cases r with
        | none => rfl
        | some j =>
          have := (g2 j rfl).1
          simp only [Option.bind_some]
          rw [show j - i = (j - (i + 1)) + 1 by omega, List.getElem?_cons_succ]
      · have := g2 j hj
        simp only [List.length_cons]; omega
theorem ER.keys {μ : Mu} {es : List (Value × AV)} {arr : Array MapEntry} (h : ER μ es arr) : arr.toList.map (·.key) = es.map (·.1) := by
  apply List.ext_getElem?
  intro i
  rw [List.getElem?_map, List.getElem?_map]
  by_cases hi : i < es.length
  · have h2 : i < arr.size := by rw [← h.1]; exact hi
    rw [List.getElem?_eq_getElem hi, Array.getElem?_toList, Array.getElem?_eq_getElem h2]
    simp [(h.2 i hi h2).1]
  · have := h.1
    rw [List.getElem?_eq_none (by simp only [Array.length_toList]; omega), List.getElem?_eq_none (by omega)]; rfl
theorem findA_ok {P : Program} {t : TypeId} {k : Value} {w : World} {μ : Mu} {es : List (Value × AV)} {arr : Array MapEntry} {r : Option Nat} (h : ER μ es arr) (hf : findA P t k es = some r) :
    ∃ q : Option (Nat × Value), (Instr.findKey t k arr.toList).run P w = .ok q w ∧
      match r with
      | none => q = none
      | some j => ∃ (hj : j < es.length) (hj' : j < arr.size), q = some (j, arr[j].val) ∧ VR μ es[j].2 arr[j].val ∧ arr[j].key = es[j].1 := by
  unfold findA at hf
  split at hf
  · cases hf
  rename_i i hi
  have hs : sameKeys (keysL es) arr.toList := by
    rw [sameKeys, h.keys, keysL_eq]; simp
  obtain ⟨h1, h2, h3⟩ := findNow_same i.desc k (keysL es) arr.toList 0 hs
  have fin : ∀ j, j < es.length → ∃ (hj : j < es.length) (hj' : j < arr.size), (arr.toList[j]?).map (·.val) = some arr[j].val ∧ VR μ es[j].2 arr[j].val ∧ arr[j].key = es[j].1 := by
    intro j hj
    have hj' : j < arr.size := by rw [← h.1]; exact hj
    exact ⟨hj, hj', by rw [Array.getElem?_toList, Array.getElem?_eq_getElem hj']; rfl, (h.2 j hj hj').2, (h.2 j hj hj').1⟩
  unfold Instr.findKey
  rw [Sem.run_bind, run_und hi]
  simp only [Result.andThen_ok]
  split at hf
  · rename_i hn
    cases hf
    rw [h2.1 hn]
    exact ⟨none, rfl, rfl⟩
  · rename_i j v hn
    cases hf
    obtain ⟨u, g1, g2, g3⟩ := h3 j v hn
    rw [g1]
    have hjl : j < es.length := by
      rw [Nat.sub_zero] at g3
      have := h.1
      cases hq : arr.toList[j]? with
      | none => rw [hq] at g3; cases g3
      | some x => have := (List.getElem?_eq_some_iff.1 hq).1; simp at this; omega
    obtain ⟨hj, hj', k1, k2, k3⟩ := fin j hjl
    rw [Nat.sub_zero] at g3
    rw [k1] at g3
    cases g3
    exact ⟨some (j, arr[j].val), rfl, hj, hj', rfl, k2, k3⟩
  · rename_i hn
    rw [h1.1 hn]
    obtain ⟨g1, g2⟩ := findEq_ok (P := P) (w := w) es arr.toList 0 r h.keys hf
    refine ⟨_, g1, ?_⟩
    cases r with
    | none => rfl
    | some j =>
      have hjl := (g2 j rfl).2
      rw [Nat.sub_zero] at hjl
      obtain ⟨hj, hj', k1, k2, k3⟩ := fin j hjl
      refine ⟨hj, hj', ?_, k2, k3⟩
      simp [hj']

def isNilL {α : Type} : List α → Bool
  | [] => true
  | _ => false
def entriesA (x : AV) (H : Hp) : Option (List (Value × AV)) :=
  match x with
  | .lit (.map none) => some []
  | .map r => match H.blk.get r with
    | some (.map es) => some es
    | _ => none
  | _ => none
def lookupA (P : Program) (t : TypeId) (x ix : AV) (ok : Bool) (H : Hp) : Option AV :=
  match tinf P t with
  | none => none
  | some i => match i.desc with
    | .map key elem => match litOf ix with
      | none => none
      | some k => match entriesA x H with
        | none => none
        | some es => match runPure P (Instr.checkKey (isNilL es) 10000 key k) with
          | none => none
          | some _ => match findA P key k es with
            | none => none
            | some (some j) => match getL j es with
              | none => none
              | some p => match ok with
                | true => some (.tuple [p.2, .lit (.bool true)])
                | false => some p.2
            | some none => match tinf P elem with
              | none => none
              | some e => match e.zero with
                | none => none
                | some z => match ok with
                  | true => some (.tuple [.lit z, .lit (.bool false)])
                  | false => some (.lit z)
    | _ => none
theorem tuple2 {μ : Mu} {a b : AV} {u v : Value} (h1 : VR μ a u) (h2 : VR μ b v) : VR μ (.tuple [a, b]) (.tuple #[u, v]) :=
  .tuple _ _ rfl fun i h h' => by
    match i with
    | 0 => exact h1
    | 1 => exact h2
    | n + 2 => simp at h; omega
theorem tuple3 {μ : Mu} {a b c : AV} {u v x : Value} (h1 : VR μ a u) (h2 : VR μ b v) (h3 : VR μ c x) : VR μ (.tuple [a, b, c]) (.tuple #[u, v, x]) :=
  .tuple _ _ rfl fun i h h' => by
    match i with
    | 0 => exact h1
    | 1 => exact h2
    | 2 => exact h3
    | n + 3 => simp at h; omega
theorem entries_ok {x : AV} {u : Value} {μ : Mu} {H : Hp} {w : World} {es : List (Value × AV)} (hr : HR μ H w) (hx : VR μ x u) (h : entriesA x H = some es) :
    ∃ arr : Array MapEntry, ER μ es arr ∧ ((u = .map none ∧ arr = #[]) ∨ ∃ r clock, x = .map r ∧ u = .map (some (μ.blk r)) ∧ H.blk.get r = some (.map es) ∧ w.heap[μ.blk r]? = some (.map arr clock)) := by
  unfold entriesA at h
  split at h
  · have := hx.lit_eq; subst this; cases h
    exact ⟨#[], ⟨rfl, fun i h => by simp at h⟩, .inl ⟨rfl, rfl⟩⟩
  · rename_i r
    split at h
    case h_2 => cases h
    rename_i es' hb
    cases h
    cases hx
    obtain ⟨arr, clock, e0, e1⟩ := hr.obj r _ hb
    exact ⟨arr, e1, .inr ⟨r, clock, rfl, rfl, hb, e0⟩⟩
  · cases h
theorem isNil_arr {μ : Mu} {es : List (Value × AV)} {arr : Array MapEntry} (h : ER μ es arr) : arr.isEmpty = isNilL es := by
  cases es with
  | nil => have : arr = #[] := Array.eq_empty_of_size_eq_zero h.1.symm
           subst this; rfl
  | cons a l => have := h.1; simp [isNilL, Array.isEmpty]; intro e; simp [e] at this
theorem lookup_ok {P : Program} {t : TypeId} {x ix v : AV} {u ui : Value} {ok : Bool} {μ : Mu} {H : Hp} {w : World} (hr : HR μ H w) (hx : VR μ x u) (hi : VR μ ix ui) (h : lookupA P t x ix ok H = some v) :
    RunV P (Instr.lookup t u ui ok) μ H w v := by
  unfold lookupA at h
  split at h
  · cases h
  rename_i i ht
  split at h
  case h_2 => cases h
  rename_i key elem hd
  split at h
  · cases h
  rename_i k hk
  have hk := litOf_ok hk hi
  subst hk
  split at h
  · cases h
  rename_i es hes
  obtain ⟨arr, her, hu⟩ := entries_ok hr hx hes
  split at h
  · cases h
  rename_i _ hck
  have hck := runPure_ok _ hck w
  have hget : ∀ (r : Value), (do
      Instr.checkKey arr.isEmpty 10000 key ui
      let (v, ok') ← match ← Instr.findKey key ui arr.toList with
        | some (_, v) => pure (v, true)
        | none => pure (← zeroValue elem, false)
      pure (if ok then .tuple #[v, .bool ok'] else v) : Sem Value).run P w = .ok r w → (Instr.lookup t u ui ok).run P w = .ok r w := by
    intro r hh
    unfold Instr.lookup
    rw [Sem.run_bind, run_und ht, hd]
    simp only [Result.andThen_ok]
    rcases hu with ⟨rfl, rfl⟩ | ⟨rr, clock, _, rfl, _, e0⟩
    · simp only [Sem.run_bind, Sem.run_pure, Result.andThen_ok] at hh ⊢
      exact hh
    · have hg : (getObj (μ.blk rr)).run P w = .ok (.map arr clock) w := run_getObj e0 (by intros; simp)
      simp only [Sem.run_bind, hg, Result.andThen_ok, Sem.run_pure] at hh ⊢
      exact hh
  rw [← isNil_arr her] at hck
  split at h
  · cases h
  · rename_i j hf
    obtain ⟨q, g1, hj, hj', g2, g3, _⟩ := findA_ok (w := w) her hf
    split at h
    · cases h
    rename_i p hp
    rw [getL_eq, List.getElem?_eq_getElem hj] at hp
    cases hp
    split at h
    · cases h
      refine .of_run hr (hget _ ?_) (tuple2 g3 (.lit (.bool true)))
      rw [g2] at g1
      simp [hck, g1]
    · cases h
      refine .of_run hr (hget _ ?_) g3
      rw [g2] at g1
      simp [hck, g1]
  · rename_i hf
    obtain ⟨q, g1, g2⟩ := findA_ok (w := w) her hf
    simp only at g2
    split at h
    · cases h
    rename_i e he
    split at h
    · cases h
    rename_i z hz
    split at h
    · cases h
      refine .of_run hr (hget _ ?_) (tuple2 (.lit z) (.lit (.bool false)))
      rw [g2] at g1
      simp [hck, g1, run_zero he _ hz]
    · cases h
      refine .of_run hr (hget _ ?_) (.lit z)
      rw [g2] at g1
      simp [hck, g1, run_zero he _ hz]

def setL {α : Type} : List α → Nat → α → List α
  | [], _, _ => []
  | _ :: r, 0, y => y :: r
  | x :: r, n + 1, y => x :: setL r n y
theorem setL_eq {α : Type} : ∀ (l : List α) (n : Nat) (y : α), setL l n y = l.set n y
  | [], _, _ => rfl
  | _ :: r, 0, y => rfl
  | x :: r, n + 1, y => by simp [setL, setL_eq r n y]

def updateA (P : Program) (t : TypeId) (x kx v : AV) (H : Hp) : Option Hp :=
  match tinf P t with
  | none => none
  | some i => match i.desc with
    | .map key _ => match litOf kx with
      | none => none
      | some k => match x with
        | .map r => match H.blk.get r with
          | some (.map es) => match runPure P (Instr.checkKey false 10000 key k) with
            | none => none
            | some _ => match findA P key k es with
              | none => none
              | some (some j) => match getL j es with
                | none => none
                | some p => match Instr.sameBits 10000 p.1 k with
                  | true => some (H.put r (.map (setL es j (k, v))))
                  | false => none
              | some none => some (H.put r (.map (catL es [(k, v)])))
          | _ => none
        | _ => none
    | _ => none
theorem update_ok {P : Program} {t : TypeId} {x kx v : AV} {u uk uv : Value} {μ : Mu} {H H' : Hp} {w : World} (hr : HR μ H w) (hx : VR μ x u) (hk : VR μ kx uk) (hv : VR μ v uv) (h : updateA P t x kx v H = some H') :
    Comes1 P (Instr.mapUpdate t u uk uv) μ H w (fun _ _ => True) H' := by
  unfold updateA at h
  split at h
  · cases h
  rename_i i ht
  split at h
  case h_2 => cases h
  rename_i key elem hd
  split at h
  · cases h
  rename_i k hkl
  have hkl := litOf_ok hkl hk
  subst hkl
  split at h
  case h_2 => cases h
  rename_i r
  cases hx with
  | map _ hrn =>
  split at h
  case h_2 => cases h
  rename_i es hb
  obtain ⟨arr, clock, e0, her⟩ := hr.obj r _ hb
  have hg : (getObj (μ.blk r)).run P w = .ok (.map arr clock) w := run_getObj e0 (by intros; simp)
  split at h
  · cases h
  rename_i _ hck
  have hck := runPure_ok _ hck w
  split at h
  · cases h
  · rename_i j hf
    obtain ⟨q, g1, hj, hj', g2, g3, g4⟩ := findA_ok (w := w) her hf
    split at h
    · cases h
    rename_i p hp
    rw [getL_eq, List.getElem?_eq_getElem hj] at hp
    cases hp
    split at h
    case h_2 => cases h
    rename_i hsb
    cases h
    have hst := put_step (o2 := .map (setL es j (uk, v))) (x := .map (arr.modify j fun e => { e with key := uk, val := uv }) clock) hr hb rfl rfl (by
      refine ⟨_, clock, rfl, by rw [setL_eq]; simp [her.1], fun n h1 h2 => ?_⟩
      simp only [setL_eq] at h1 ⊢
      simp only [Array.getElem_modify]
      by_cases hn : j = n
      · subst hn; simp [hv]
      · rw [if_neg hn, List.getElem_set_ne hn]
        exact her.2 n (by simpa using h1) (by simpa using h2))
    refine ⟨(), _, μ, ?_, hst, trivial⟩
    have hs := run_setObj (P := P) (o2 := .map (arr.modify j fun e => { e with key := uk, val := uv }) clock) e0 (by intros; simp)
    unfold Instr.mapUpdate
    rw [Sem.run_bind, run_und ht, hd]
    simp only [Result.andThen_ok, Sem.run_bind, hg, hck, g1, g2, Instr.keyThatStays]
    have : ((arr[j]?).map (·.key)).getD uk = es[j].1 := by rw [Array.getElem?_eq_getElem hj']; simp [g4]
    rw [this, if_pos hsb]
    simp only [Sem.run_pure, Result.andThen_ok]
    exact hs
  · rename_i hf
    obtain ⟨q, g1, g2⟩ := findA_ok (w := w) her hf
    simp only at g2
    cases h
    have hst := put_step (o2 := .map (catL es [(uk, v)])) (x := .map (arr.push { key := uk, val := uv, born := clock }) (clock + 1)) hr hb rfl rfl (by
      refine ⟨_, clock + 1, rfl, by rw [catL_eq]; simp [her.1], fun n h1 h2 => ?_⟩
      simp only [catL_eq] at h1 ⊢
      by_cases hn : n < arr.size
      · have hn2 : n < es.length := by rw [her.1]; exact hn
        rw [List.getElem_append_left hn2, Array.getElem_push_lt hn]
        exact her.2 n hn2 hn
      · have : n = arr.size := by simp at h2; omega
        subst this
        have := her.1
        simp [List.getElem_append_right, this, hv])
    refine ⟨(), _, μ, ?_, hst, trivial⟩
    have hs := run_setObj (P := P) (o2 := .map (arr.push { key := uk, val := uv, born := clock }) (clock + 1)) e0 (by intros; simp)
    unfold Instr.mapUpdate
    rw [Sem.run_bind, run_und ht, hd]
    simp only [Result.andThen_ok, Sem.run_bind, hg, hck, g1, g2]
    exact hs

/-! ## A range over a string -/
def rangeA (P : Program) (t : TypeId) (x : AV) (H : Hp) : Option (AV × Hp) :=
  match tinf P t with
  | none => none
  | some i => match i.desc with
    | .string => match x with
      | .lit (.string s) => some (.ptr H.next 0, H.new (.iter s 0))
      | _ => none
    | _ => none
theorem range_ok {P : Program} {t : TypeId} {x v : AV} {u : Value} {μ : Mu} {H H' : Hp} {w : World} (hr : HR μ H w) (hx : VR μ x u) (h : rangeA P t x H = some (v, H')) :
    OpV P (Instr.range t u) μ H w v H' := by
  unfold rangeA at h
  split at h
  · cases h
  rename_i i hi
  split at h
  case h_2 => cases h
  rename_i hd
  split at h
  case h_2 => cases h
  rename_i s
  have := hx.lit_eq; subst this; cases h
  have hst := new_step hr (.iter s 0) (.stringIter s 0) 0 (fun _ _ h => by cases h) rfl
  refine ⟨.pointer (some ⟨w.heap.size, 0, none⟩), w.alloc (.stringIter s 0), _, ?_, hst, ?_⟩
  · unfold Instr.range
    rw [Sem.run_bind, run_und hi, hd]
    simp
  · have hv := VR.ptr (μ := μ.ext H.next w.heap.size 0) H.next 0 (Mu.ext_dom _ _ _ _)
    rw [show (μ.ext H.next w.heap.size 0).blk H.next = w.heap.size by rw [Mu.ext_blk]] at hv
    exact hv
def nextA (x : AV) (isString : Bool) (H : Hp) : Option (AV × Hp) :=
  match isString, x with
  | true, .ptr b 0 => match H.blk.get b with
    | some (.iter s pos) => match Nat.blt pos s.size with
      | true => match Utf8.decode s pos with
        | (c, width) => some (.tuple [.lit (.bool true), .lit (goInt pos), .lit (.int .i32 c)], H.put b (.iter s (pos + width)))
      | false => some (.lit (.tuple #[.bool false]), H)
    | _ => none
  | _, _ => none
theorem next_ok {P : Program} {ty : TypeId} {x v : AV} {u : Value} {isString : Bool} {μ : Mu} {H H' : Hp} {w : World} (hr : HR μ H w) (hx : VR μ x u) (h : nextA x isString H = some (v, H')) :
    OpV P (Instr.next u isString ty) μ H w v H' := by
  unfold nextA at h
  split at h
  case h_2 => cases h
  rename_i b
  cases hx with
  | ptr _ _ hbn =>
  split at h
  case h_2 => cases h
  rename_i s pos hb
  have e0 : w.heap[μ.blk b]? = some (.stringIter s pos) := hr.obj b _ hb
  have hg : (getObj (μ.blk b)).run P w = .ok (.stringIter s pos) w := run_getObj e0 (by intros; simp)
  split at h
  · rename_i hlt
    have hlt : pos < s.size := by simpa using hlt
    cases h
    have hst := put_step (o2 := .iter s (pos + (Utf8.decode s pos).2)) (x := .stringIter s (pos + (Utf8.decode s pos).2)) hr hb rfl rfl rfl
    refine ⟨.tuple #[.bool true, goInt pos, .int .i32 (Utf8.decode s pos).1], _, μ, ?_, hst, tuple3 (.lit _) (.lit _) (.lit _)⟩
    have hs := run_setObj (P := P) (o2 := .stringIter s (pos + (Utf8.decode s pos).2)) e0 (by intros; simp)
    unfold Instr.next
    simp only [Sem.run_bind, hg, Result.andThen_ok, hlt, if_true, hs, Sem.run_pure]
  · rename_i hlt
    have hlt : ¬ pos < s.size := fun hc => by rw [← Nat.blt_eq] at hc; rw [hc] at hlt; cases hlt
    cases h
    refine .of_run hr (u := .tuple #[.bool false]) ?_ (.lit _)
    unfold Instr.next
    simp only [Sem.run_bind, hg, Result.andThen_ok, hlt, if_false, Sem.run_pure]

/-! ## A string's bytes in a row of their own -/
def isU8 : TypeDesc → Bool
  | .int .u8 => true
  | _ => false
def toBytesA (P : Program) (src dst : TypeId) (x : AV) (H : Hp) : Option (AV × Hp) :=
  match tinf P src, tinf P dst with
  | some i, some j => match i.desc, j.desc, x with
    | .string, .slice elem, .lit (.string s) => match tinf P elem with
      | none => none
      | some e => match isU8 e.desc && Nat.beq e.size 1 with
        | false => none
        | true => match newA H (bytesA s.data.toList) with
          | none => none
          | some (b, H') => some (.slice b 0 s.size 1 none, H')
    | _, _, _ => none
  | _, _ => none
theorem toBytes_ok {P : Program} {src dst : TypeId} {x v : AV} {u : Value} {μ : Mu} {H H' : Hp} {w : World} (hr : HR μ H w) (hx : VR μ x u) (h : toBytesA P src dst x H = some (v, H')) :
    OpV P (convert src dst u) μ H w v H' := by
  unfold toBytesA at h
  split at h
  case h_2 => cases h
  rename_i i j hi hj
  split at h
  case h_2 => cases h
  rename_i elem s hd hjd
  have := hx.lit_eq; subst this
  split at h
  · cases h
  rename_i e he
  split at h
  · cases h
  rename_i hck
  obtain ⟨hck1, hck2⟩ := Bool.and_eq_true_iff.1 hck
  have hu8 : e.desc = .int .u8 := by
    unfold isU8 at hck1
    split at hck1
    · assumption
    · cases hck1
  split at h
  · cases h
  rename_i b H1 hnew
  cases h
  unfold newA at hnew
  split at hnew
  case h_2 => cases hnew
  rename_i hf
  simp only [Option.some.injEq, Prod.mk.injEq] at hnew
  obtain ⟨rfl, rfl⟩ := hnew
  have hr2 : HR μ H w.drew := hr.of_heap rfl
  have hby := bytesA_ok μ s.data.toList
  obtain ⟨_, hu1, _⟩ := tinf_parts hi
  obtain ⟨_, hu2, _⟩ := tinf_parts hj
  obtain ⟨_, hu3, _⟩ := tinf_parts he
  have hex : ∃ cap, s.size ≤ cap ∧ ∃ row : Array Value, row = (s.data.map fun b => Value.int .u8 b.toNat) ++ Array.replicate (cap - s.size) (.int .u8 0) ∧
      (convert src dst (.string s)).run P w = .ok (.slice (some ⟨w.heap.size, 0, none⟩) s.size cap) (w.drew.alloc (.cells row elem (row.size, row.size + 1))) :=
    ⟨grownCap w s.size 0 elem, by simp [grownCap, Question.cut], _, rfl, run_bytes_of_string w src dst elem s (by rw [hu1, hd]) (by rw [hu2, hjd]) (by rw [hu3, hu8])⟩
  obtain ⟨cap, hcap, row, hrow, hrun⟩ := hex
  have hrsz : row.size = cap := by
    rw [hrow]; simp
    have : s.data.size = s.size := rfl
    omega
  have hst := new_step hr2 (.cells (someAll (bytesA s.data.toList)) H.next) (.cells row elem (row.size, row.size + 1)) cap (fun cs g h => by cases h; rfl) (by
    refine ⟨row, (elem, (row.size, row.size + 1)), rfl, ⟨by rw [hrsz, Mu.ext_size], fun i hi => by simp; omega⟩, ?_, fun i v hi => ?_⟩
    · rw [someAll_eq, List.length_map, hby.1, hrsz]; simp; exact hcap
    · rw [someAll_eq, List.getElem?_map] at hi
      have hv2 : (bytesA s.data.toList)[i]? = some v := by
        cases hq : (bytesA s.data.toList)[i]? with
        | none => rw [hq] at hi; cases hi
        | some x => rw [hq] at hi; simp at hi; rw [hi]
      obtain ⟨u, k1, k2⟩ := hby.get hv2
      refine ⟨u, ?_, k2.mono (μ.ext_le _ _ _ hr.free), AV.allFlat_mem hf _ (by rw [← (List.getElem?_eq_some_iff.1 hv2).2]; exact List.getElem_mem _)⟩
      have hlt := (Array.getElem?_eq_some_iff.1 k1).1
      simp only [List.size_toArray, List.length_map, Array.length_toList] at hlt
      rw [hrow, Array.getElem?_append_left (by simpa using hlt)]
      simpa using k1)
  refine ⟨_, _, _, hrun, hst.predrew, ?_⟩
  have e1 : (⟨w.heap.size, 0, none⟩ : Addr) = ⟨(μ.ext H.next w.drew.heap.size cap).blk H.next, 0, none⟩ := by rw [Mu.ext_blk]; rfl
  rw [e1]
  exact .slice _ _ _ _ _ _ (Mu.ext_dom _ _ _ _) hcap (by intro k hk; cases hk) (by rw [Mu.ext_size]; omega)

def bytesOf : List AV → Option (List UInt8)
  | [] => some []
  | .lit (.int .u8 n) :: r => match Int.decLe 0 n with
    | .isFalse _ => none
    | .isTrue _ => match Nat.blt n.toNat 256 with
      | false => none
      | true => match bytesOf r with
        | some l => some (UInt8.ofNat n.toNat :: l)
        | none => none
  | _ :: _ => none
theorem bytesOf_ok : ∀ {l : List AV} {bs : List UInt8}, bytesOf l = some bs → l.length = bs.length ∧ ∀ (j : Nat) (b : UInt8), bs[j]? = some b → l[j]? = some (.lit (.int .u8 b.toNat))
  | [], bs, h => by cases h; exact ⟨rfl, fun j b h => by simp at h⟩
  | x :: r, bs, h => by
    unfold bytesOf at h
    split at h
    · rename_i heq; cases heq
    · rename_i n r' heq
      simp only [List.cons.injEq] at heq
      obtain ⟨rfl, rfl⟩ := heq
      split at h
      · cases h
      rename_i h0 _
      split at h
      · cases h
      rename_i hlt
      have hlt : n.toNat < 256 := by simpa using hlt
      split at h
      case h_2 => cases h
      rename_i l' hl
      cases h
      obtain ⟨h1, h2⟩ := bytesOf_ok hl
      refine ⟨by simp [h1], fun j b hj => ?_⟩
      cases j with
      | zero =>
        simp at hj; subst hj
        simp only [List.getElem?_cons_zero]
        congr 3
        simp [UInt8.toNat_ofNat']
        omega
      | succ j => simpa using h2 j b (by simpa using hj)
    · cases h
def toStringA (P : Program) (src dst : TypeId) (x : AV) (H : Hp) : Option AV :=
  match tinf P src, tinf P dst with
  | some i, some j => match i.desc, j.desc, x with
    | .slice elem, .string, .slice b off len _ _ => match tinf P elem with
      | none => none
      | some e => match isU8 e.desc with
        | false => none
        | true => match H.loadN b off len with
          | none => none
          | some l => match bytesOf l with
            | none => none
            | some bs => some (.lit (.string ⟨⟨bs⟩⟩))
    | _, _, _ => none
  | _, _ => none
theorem toString_ok {P : Program} {src dst : TypeId} {x v : AV} {u : Value} {μ : Mu} {H : Hp} {w : World} (hr : HR μ H w) (hx : VR μ x u) (h : toStringA P src dst x H = some v) :
    RunV P (convert src dst u) μ H w v := by
  unfold toStringA at h
  split at h
  case h_2 => cases h
  rename_i i j hi hj
  split at h
  case h_2 => cases h
  rename_i elem b off len esz c hd hjd
  cases hx with
  | slice _ _ _ _ cap _ hb h1 h2 h3 =>
  split at h
  · cases h
  rename_i e he
  split at h
  · cases h
  rename_i hck1
  have hu8 : e.desc = .int .u8 := by
    unfold isU8 at hck1
    split at hck1
    · assumption
    · cases hck1
  split at h
  · cases h
  rename_i l hl
  split at h
  · cases h
  rename_i bs hbs
  cases h
  obtain ⟨_, hu1, _⟩ := tinf_parts hi
  obtain ⟨_, hu2, _⟩ := tinf_parts hj
  obtain ⟨_, hu3, _⟩ := tinf_parts he
  obtain ⟨g1, g2⟩ := bytesOf_ok hbs
  unfold Hp.loadN at hl
  split at hl
  case h_2 => cases hl
  rename_i cs g hbk
  obtain ⟨k1, k2⟩ := known_spec _ _ _ hl
  obtain ⟨arr, ty, e0, _, hc1, hc2⟩ := hr.obj b _ hbk
  have hcell : ∀ (j : Nat) (hj : j < bs.length), w.cell? ((⟨μ.blk b, off, none⟩ : Addr).add j) = some (.int .u8 (bs[j].toNat : Int)) := by
    intro j hj
    rw [add_addr]
    have h4 := g2 j bs[j] (List.getElem?_eq_getElem hj)
    have hjl : j < l.length := by omega
    have h5 := k2 j hjl
    rw [List.getElem?_drop] at h5
    obtain ⟨u, r1, r2, _⟩ := hc2 _ _ h5
    rw [List.getElem?_eq_getElem hjl] at h4
    rw [Option.some.inj h4] at r2
    have := r2.lit_eq
    subst this
    simp only [World.cell?, e0, cellsT, Option.isSome_none, Bool.false_eq_true, if_false]
    exact r1
  have := run_convert_bytes_back (P := P) w src dst elem ⟨μ.blk b, off, none⟩ cap bs (by rw [hu1, hd]) (by rw [hu3, hu8]) (by rw [hu2, hjd]) hcell
  rw [← g1, k1] at this
  exact .of_run hr this (.lit _)
def convertA (P : Program) (src dst : TypeId) (x : AV) (H : Hp) : Option (AV × Hp) :=
  match (match litOf x with
    | none => none
    | some u => runPure P (convert src dst u)) with
  | some r => some (.lit r, H)
  | none => match toBytesA P src dst x H with
    | some r => some r
    | none => match toStringA P src dst x H with
      | some r => some (r, H)
      | none => none
theorem convert_ok {P : Program} {src dst : TypeId} {x v : AV} {u : Value} {μ : Mu} {H H' : Hp} {w : World} (hr : HR μ H w) (hx : VR μ x u) (h : convertA P src dst x H = some (v, H')) :
    OpV P (convert src dst u) μ H w v H' := by
  unfold convertA at h
  split at h
  · rename_i r hq
    cases h
    split at hq
    · cases hq
    · rename_i u' hu
      have := litOf_ok hu hx
      subst this
      exact .of_pure hr hq
  · split at h
    · rename_i r hq
      cases h
      exact toBytes_ok hr hx hq
    · split at h
      · rename_i r hq
        cases h
        exact (toString_ok hr hx hq).op hr
      · cases h
end Go.Cam
namespace Go.Cam
open Go Go.RowKit

/-! ## Operands -/
def evalA (fr : T AV) : Operand → Option AV
  | .tmp t => fr.get t
  | .const v => some (.lit v)
  | .global g => some (.lit (.pointer (some ⟨g, 0, none⟩)))
  | .func f => some (.func (.func f) [] [])
def FR (μ : Mu) (fr : T AV) (a : Act) : Prop := ∀ t v, fr.get t = some v → ∃ u, a.tmps[t]? = some u ∧ VR μ v u
theorem FR.mono {μ μ' : Mu} (h : μ.le μ') {fr : T AV} {a : Act} (hf : FR μ fr a) : FR μ' fr a := fun t v ht => let ⟨u, h1, h2⟩ := hf t v ht; ⟨u, h1, h2.mono h⟩
theorem evalA_ok {μ : Mu} {fr : T AV} {a : Act} {x : Operand} {v : AV} (hf : FR μ fr a) (h : evalA fr x = some v) : VR μ v (a.eval x) := by
  cases x with
  | tmp t =>
    obtain ⟨u, h1, h2⟩ := hf t v h
    simp only [Act.eval, Array.getD_eq_getD_getElem?, h1]; exact h2
  | const c => cases h; exact .lit _
  | global g => cases h; exact .lit _
  | func f => cases h; exact .func _ _ _ _ _ rfl rfl (fun i h => by simp at h) (fun i h => by simp at h)
def evalsA (fr : T AV) : List Operand → Option (List AV)
  | [] => some []
  | x :: r => match evalA fr x with
    | none => none
    | some v => match evalsA fr r with
      | none => none
      | some l => some (v :: l)
theorem evalsA_ok {μ : Mu} {fr : T AV} {a : Act} (hf : FR μ fr a) : ∀ {xs : List Operand} {l : List AV}, evalsA fr xs = some l → VRs μ l (xs.map a.eval).toArray
  | [], l, h => by cases h; exact ⟨rfl, fun i h => by simp at h⟩
  | x :: r, l, h => by
    simp only [evalsA] at h
    split at h
    · cases h
    rename_i v hv
    split at h
    · cases h
    rename_i l' hl
    cases h
    have ih := evalsA_ok hf hl
    refine ⟨by simpa using ih.1, fun i h1 h2 => ?_⟩
    cases i with
    | zero => simpa using evalA_ok hf hv
    | succ i =>
      have := ih.2 i (by simpa using h1) (by simpa using h2)
      simp only [List.getElem_toArray, List.getElem_map] at this
      simpa using this
theorem evalsA_arr {μ : Mu} {fr : T AV} {a : Act} (hf : FR μ fr a) {xs : Array Operand} {l : List AV} (h : evalsA fr xs.toList = some l) : VRs μ l (xs.map a.eval) := by
  have := evalsA_ok hf h
  have e : (xs.toList.map a.eval).toArray = xs.map a.eval := by apply Array.ext'; simp
  rwa [e] at this
def partsA (fr : T AV) : List (Nat × Operand) → Option (List (Nat × AV))
  | [] => some []
  | (i, x) :: r => match evalA fr x with
    | none => none
    | some v => match partsA fr r with
      | none => none
      | some l => some ((i, v) :: l)
theorem partsA_ok {μ : Mu} {fr : T AV} {a : Act} (hf : FR μ fr a) : ∀ {xs : List (Nat × Operand)} {l : List (Nat × AV)}, partsA fr xs = some l → PRs μ l (xs.map fun (i, x) => (i, a.eval x))
  | [], l, h => by cases h; trivial
  | (i, x) :: r, l, h => by
    simp only [partsA] at h
    split at h
    · cases h
    rename_i v hv
    split at h
    · cases h
    rename_i l' hl
    cases h
    exact ⟨rfl, evalA_ok hf hv, partsA_ok hf hl⟩
theorem partsA_arr {μ : Mu} {fr : T AV} {a : Act} (hf : FR μ fr a) {xs : Array (Nat × Operand)} {l : List (Nat × AV)} (h : partsA fr xs.toList = some l) : PRs μ l (xs.map fun (i, x) => (i, a.eval x)).toList := by
  have := partsA_ok hf h
  rwa [Array.toList_map]
def evalOA (fr : T AV) : Option Operand → Option (Option AV)
  | none => some none
  | some x => match evalA fr x with
    | none => none
    | some v => some (some v)
theorem evalOA_ok {μ : Mu} {fr : T AV} {a : Act} (hf : FR μ fr a) {x : Option Operand} {v : Option AV} (h : evalOA fr x = some v) : VRo μ v (x.map a.eval) := by
  cases x with
  | none => cases h; trivial
  | some x =>
    simp only [evalOA] at h
    split at h
    · cases h
    rename_i v' hv
    cases h; exact evalA_ok hf hv

/-! ## Comparisons of what names blocks -/
def refEq (P : Program) (t : TypeId) (x y : AV) : Option Bool :=
  match tinf P t with
  | none => none
  | some i => match i.desc, x, y with
    | .pointer _, .ptr _ _, .lit (.pointer none) => some false
    | .pointer _, .lit (.pointer none), .ptr _ _ => some false
    | .slice _, .slice _ _ _ _ _, .lit (.slice none _ _) => some false
    | .slice _, .sliceE, .lit (.slice none _ _) => some false
    | .slice _, .lit (.slice none _ _), .slice _ _ _ _ _ => some false
    | .slice _, .lit (.slice none _ _), .sliceE => some false
    | .map _ _, .map _, .lit (.map none) => some false
    | .map _ _, .lit (.map none), .map _ => some false
    | .func _ _ _, .func _ _ _, .lit .nilFunc => some false
    | .func _ _ _, .lit .nilFunc, .func _ _ _ => some false
    | .interface _, .iface _ _, .lit .nilIface => some false
    | .interface _, .lit .nilIface, .iface _ _ => some false
    | .pointer e, .ptr b o, .ptr b' o' => match tinf P e with
      | none => none
      | some j => match j.size with
        | 0 => none
        | _ + 1 => match Nat.beq b b' with
          | true => some (Nat.beq o o')
          | false => none
    | _, _, _ => none
def flipB : Bool → Bool → Bool
  | true, r => r
  | false, r => !r
def isEqOp : BinOp → Option Bool
  | .eql => some true
  | .neq => some false
  | _ => none
/-- What the comparisons come to. -/
def Cmps (P : Program) (t : TypeId) (u v : Value) (r : Bool) (w : World) : Prop :=
  (∀ op xo yo, (eqGuard op t xo yo u v).run P w = .ok () w) ∧ ∀ op b, isEqOp op = some b → (binOp op t u v).run P w = .ok (.bool (flipB b r)) w
theorem cmps_of {P : Program} {t : TypeId} {u v : Value} {r : Bool} {w : World} (h : ∀ d, (Op.equalIn (d + 1) t u v).run P w = .ok r w) (g : ∀ op xo yo, (eqGuard op t xo yo u v).run P w = .ok () w)
    (e1 : binOp .eql t u v = (do pure (.bool (← Op.equal t u v)))) (e2 : binOp .neq t u v = (do pure (.bool (!(← Op.equal t u v))))) : Cmps P t u v r w := by
  refine ⟨g, fun op b hb => ?_⟩
  have h1 : (Op.equal t u v).run P w = .ok r w := h 9999
  cases op <;> first | (cases hb; done) | skip
  · cases hb; rw [e1, Sem.run_bind, h1]; rfl
  · cases hb; rw [e2, Sem.run_bind, h1]; rfl
theorem refEq_ok {P : Program} {t : TypeId} {x y : AV} {u v : Value} {μ : Mu} {w : World} {r : Bool} (hx : VR μ x u) (hy : VR μ y v) (h : refEq P t x y = some r) : Cmps P t u v r w := by
  unfold refEq at h
  split at h
  · cases h
  rename_i i hi
  have und := run_und hi w
  split at h
  all_goals first | (cases h; done) | skip
  case h_13 =>
    rename_i e b o b' o' hd
    split at h
    · cases h
    rename_i j hj
    split at h
    · cases h
    rename_i n hn
    split at h
    case h_2 => cases h
    rename_i hb
    have := Nat.eq_of_beq_eq_true hb
    subst this
    cases h
    cases hx; cases hy
    refine cmps_of (fun d => ?_) (fun op xo yo => by cases op <;> rfl) rfl rfl
    rw [Op.equalIn, Sem.run_bind, und, hd]
    simp only [Sem.run_bind, Result.andThen_ok, run_size hj, hn]
    have : ((⟨μ.blk b, o, none⟩ : Addr) == ⟨μ.blk b, o', none⟩) = Nat.beq o o' := by
      by_cases hoo : o = o'
      · subst hoo; simp
      · have h1 : Nat.beq o o' = false := by rw [Bool.eq_false_iff]; intro e; exact hoo (Nat.eq_of_beq_eq_true e)
        rw [h1]; simp [hoo]
    simp [sameAddr, this]
  all_goals
    rename_i hd
    cases h
    cases hx <;> cases hy
    refine cmps_of (fun d => ?_) (fun op xo yo => by cases op <;> rfl) rfl rfl
    rw [Op.equalIn, Sem.run_bind, und, hd]
    rfl

def binA (P : Program) (op : BinOp) (t : TypeId) (xo yo : Operand) (x y : AV) : Option AV :=
  match litOf x, litOf y with
  | some u, some v => match runPure P (do eqGuard op t xo yo u v; binOp op t u v) with
    | some r => some (.lit r)
    | none => none
  | _, _ => match isEqOp op with
    | none => none
    | some b => match refEq P t x y with
      | none => none
      | some r => some (.lit (.bool (flipB b r)))
theorem bin_ok {P : Program} {op : BinOp} {t : TypeId} {xo yo : Operand} {x y v : AV} {ux uy : Value} {μ : Mu} {H : Hp} {w : World} (hr : HR μ H w) (hx : VR μ x ux) (hy : VR μ y uy) (h : binA P op t xo yo x y = some v) :
    RunV P (do eqGuard op t xo yo ux uy; binOp op t ux uy) μ H w v := by
  unfold binA at h
  split at h
  · rename_i u v' h1 h2
    have e1 := litOf_ok h1 hx; have e2 := litOf_ok h2 hy
    subst e1 e2
    split at h
    · rename_i r hp; cases h; exact .of_pure hr hp
    · cases h
  · split at h
    · cases h
    rename_i b hb
    split at h
    · cases h
    rename_i r hq
    cases h
    obtain ⟨g1, g2⟩ := refEq_ok (w := w) hx hy hq
    refine .of_run hr (u := .bool (flipB b r)) ?_ (.lit _)
    rw [Sem.run_bind, g1]
    exact g2 op b hb

/-! ## The operations -/
inductive Out where
  | val (v : AV) (H : Hp)
  | skip (H : Hp)
  | call (f : FuncId) (args : List AV)

def outV (H : Hp) : Option AV → Option Out
  | none => none
  | some v => some (.val v H)
def outVH : Option (AV × Hp) → Option Out
  | none => none
  | some (v, H) => some (.val v H)
def outS : Option Hp → Option Out
  | none => none
  | some H => some (.skip H)
def pureV (P : Program) (s : Sem Value) : Option AV :=
  match runPure P s with
  | none => none
  | some v => some (.lit v)

def getFn (P : Program) (f : FuncId) : Option Func := P.funcs[f]?
def callA (P : Program) (f : FuncId) (args : List AV) (H : Hp) : Option Out :=
  match getFn P f with
  | none => none
  | some fn => match fn.name == "runtime.NumGoroutine" with
    | true => none
    | false => match fn.body with
      | some _ => some (.call f args)
      | none => match Extern.findNext fn with
        | some _ => none
        | none => match Extern.find fn with
          | none => none
          | some e => match litsOf args with
            | none => none
            | some us => outV H (pureV P (e ⟨us⟩))
def builtinA (P : Program) (H : Hp) (b : Builtin) (argTypes : Array TypeId) (type : TypeId) (args : List AV) : Option Out :=
  match b, argTypes.toList, args with
  | .append, [sT, xT], [s, x] => match appendA P sT xT s x H with
    | some r => outVH (some r)
    | none => outVH (appendZA P sT xT s x H)
  | .clear, [t], [x] => outVH (clearA P t x H)
  | .copy, [dT, _], [d, x] => outVH (copyA P dT d x H)
  | .len, [t], [x] => outV H (lenOpA P t x H)
  | .cap, [t], [x] => outV H (capOpA P t x)
  | .min, _, l => match litsOf l with
    | some us => outV H (pureV P (Builtin.min_ argTypes type ⟨us⟩))
    | none => none
  | .max, _, l => match litsOf l with
    | some us => outV H (pureV P (Builtin.max_ argTypes type ⟨us⟩))
    | none => none
  | _, _, _ => none

def opA (P : Program) (fr : T AV) (H : Hp) (o : Oper) : Option Out :=
  match o.op with
  | .move x | .assign x => outV H (evalA fr x)
  | .pick c a b => match evalA fr c, evalA fr a, evalA fr b with
    | some (.lit (.bool true)), some x, some _ => some (.val x H)
    | some (.lit (.bool false)), some _, some y => some (.val y H)
    | _, _, _ => none
  | .alloc t => outVH (allocA P t H)
  | .box _ x => match evalA fr x with
    | some v => outVH (boxA v H)
    | none => none
  | .build t parts => match partsA fr parts.toList with
    | some ps => outV H (buildA P t ps)
    | none => none
  | .buildSlice t len parts => match partsA fr parts.toList with
    | some ps => outVH (buildSliceA P t len ps H)
    | none => none
  | .load t x => match evalA fr x with
    | some v => outV H (loadA P t v H)
    | none => none
  | .store t x y => match evalA fr x, evalA fr y with
    | some v, some u => outS (storeA P t v u H)
    | _, _ => none
  | .nilCheck x => match evalA fr x with
    | some (.ptr b off) => some (.val (.ptr b off) H)
    | some (.frp cs) => some (.val (.frp cs) H)
    | some (.func (.func f) l m) => some (.val (.func (.func f) l m) H)
    | _ => none
  | .binOp op t x y _ => match evalA fr x, evalA fr y with
    | some u, some v => outV H (binA P op t x y u v)
    | _, _ => none
  | .unOp op _ x => match evalA fr x with
    | some v => match litOf v with
      | some u => outV H (pureV P (Op.unary op u))
      | none => none
    | none => none
  | .convert src dst x => match evalA fr x with
    | some v => outVH (convertA P src dst v H)
    | none => none
  | .makeInterface t x => match evalA fr x with
    | some v => match tinf P t with
      | some i => match i.desc with
        | .interface _ => none
        | _ => some (.val (.iface t v) H)
      | none => none
    | none => none
  | .makeFunc fn first captured => match evalsA fr first.toList, evalsA fr captured.toList with
    | some l, some m => some (.val (.func fn l m) H)
    | _, _ => none
  | .makeMap t r => match evalOA fr r with
    | some x => outVH (makeMapA P t x H)
    | none => none
  | .makeSlice t l c => match evalA fr l, evalA fr c with
    | some x, some y => outVH (makeSliceA P t x y H)
    | _, _ => none
  | .slice t x lo hi none => match evalA fr x, evalOA fr lo, evalOA fr hi with
    | some v, some l, some h => outV H (sliceA P t v l h H)
    | _, _, _ => none
  | .fieldAddr t x f => match evalA fr x with
    | some v => outV H (fieldAddrA P t v f)
    | none => none
  | .field t x f => match evalA fr x with
    | some v => outV H (fieldA P t v f)
    | none => none
  | .indexAddr t x i => match evalA fr x, evalA fr i with
    | some v, some u => outV H (indexAddrA P t v u)
    | _, _ => none
  | .index t x i => match evalA fr x, evalA fr i with
    | some v, some u => outV H (indexA P t v u)
    | _, _ => none
  | .lookup t x i ok => match evalA fr x, evalA fr i with
    | some v, some u => outV H (lookupA P t v u ok H)
    | _, _ => none
  | .mapUpdate t m k x | .insert t m k x => match evalA fr m, evalA fr k, evalA fr x with
    | some v, some u, some y => outS (updateA P t v u y H)
    | _, _, _ => none
  | .range t x => match evalA fr x with
    | some v => outVH (rangeA P t v H)
    | none => none
  | .next x b => match evalA fr x with
    | some v => outVH (nextA v b H)
    | none => none
  | .extract x i => match evalA fr x with
    | some (.tuple l) => outV H (getL i l)
    | some (.lit (.tuple vs)) => match getL i vs.toList with
      | some v => some (.val (.lit v) H)
      | none => none
    | _ => none
  | .call c => match c.callee with
    | .builtin b => match evalsA fr c.args.toList with
      | some l => builtinA P H b c.argTypes o.type l
      | none => none
    | .value f => match evalA fr f, evalsA fr c.args.toList with
      | some (.func (.func g) first captured), some l => callA P g (catL (catL first l) captured) H
      | _, _ => none
    | .invoke _ _ => none
  | _ => none

def OutOk (P : Program) (s : Sem Next) (μ : Mu) (H : Hp) (w : World) : Out → Prop
  | .val v H' => ∃ u w' μ', s.run P w = .ok (.value u) w' ∧ Step μ H w μ' H' w' ∧ VR μ' v u
  | .skip H' => ∃ w' μ', s.run P w = .ok .skip w' ∧ Step μ H w μ' H' w'
  | .call f args => ∃ us, s.run P w = .ok (.enter f us) w ∧ VRs μ args us
end Go.Cam
namespace Go.Cam
open Go Go.RowKit

section
variable {P : Program} {μ : Mu} {H : Hp} {w : World} {out : Out}
theorem outV_ok {s : Sem Value} {ov : Option AV} (h : outV H ov = some out) (k : ∀ v, ov = some v → OpV P s μ H w v H) : OutOk P (do pure (.value (← s))) μ H w out := by
  cases ov with
  | none => cases h
  | some v =>
    cases h
    obtain ⟨u, w', μ', h1, h2, h3⟩ := k v rfl
    exact ⟨u, w', μ', by rw [Sem.run_bind, h1]; rfl, h2, h3⟩
theorem outR_ok {s : Sem Value} {ov : Option AV} (hr : HR μ H w) (h : outV H ov = some out) (k : ∀ v, ov = some v → RunV P s μ H w v) : OutOk P (do pure (.value (← s))) μ H w out :=
  outV_ok h fun v hv => (k v hv).op hr
theorem outVH_ok {s : Sem Value} {ov : Option (AV × Hp)} (h : outVH ov = some out) (k : ∀ v H', ov = some (v, H') → OpV P s μ H w v H') : OutOk P (do pure (.value (← s))) μ H w out := by
  match ov, h with
  | some (v, H'), h =>
    cases h
    obtain ⟨u, w', μ', h1, h2, h3⟩ := k v H' rfl
    exact ⟨u, w', μ', by rw [Sem.run_bind, h1]; rfl, h2, h3⟩
theorem outS_ok {s : Sem Unit} {ov : Option Hp} (h : outS ov = some out) (k : ∀ H', ov = some H' → Comes1 P s μ H w (fun _ _ => True) H') : OutOk P (do s; pure .skip) μ H w out := by
  cases ov with
  | none => cases h
  | some H' =>
    cases h
    obtain ⟨u, w', μ', h1, h2, h3⟩ := k H' rfl
    exact ⟨w', μ', by rw [Sem.run_bind, h1]; rfl, h2⟩
theorem pureV_ok {s : Sem Value} (hr : HR μ H w) {v : AV} (h : pureV P s = some v) : RunV P s μ H w v := by
  unfold pureV at h
  split at h
  · cases h
  · rename_i u hu; cases h; exact .of_pure hr hu
theorem outVal {v : AV} {u : Value} (hr : HR μ H w) (hv : VR μ v u) {s : Sem Next} (h : s.run P w = .ok (.value u) w) : OutOk P s μ H w (.val v H) := ⟨u, w, μ, h, .refl hr, hv⟩
end

theorem VRs_append {μ : Mu} {l m : List AV} {a b : Array Value} (h : VRs μ l a) (k : VRs μ m b) : VRs μ (catL l m) (a ++ b) := by
  rw [catL_eq]
  refine .of_get (by simp [h.1, k.1]) fun i v hi => ?_
  by_cases hil : i < l.length
  · rw [List.getElem?_append_left hil] at hi
    obtain ⟨u, g1, g2⟩ := h.get hi
    exact ⟨u, by rw [Array.getElem?_append_left (by rw [← h.1]; exact hil)]; exact g1, g2⟩
  · rw [List.getElem?_append_right (by omega)] at hi
    obtain ⟨u, g1, g2⟩ := k.get hi
    exact ⟨u, by rw [Array.getElem?_append_right (by rw [← h.1]; omega), ← h.1]; exact g1, g2⟩

theorem arr2 {α : Type} {a : Array α} {x y : α} (h : a.toList = [x, y]) : a = #[x, y] := by apply Array.ext'; exact h
theorem arr1 {α : Type} {a : Array α} {x : α} (h : a.toList = [x]) : a = #[x] := by apply Array.ext'; exact h
theorem VRs.two {μ : Mu} {x y : AV} {a : Array Value} (h : VRs μ [x, y] a) : ∃ u v, a = #[u, v] ∧ VR μ x u ∧ VR μ y v := by
  have h0 : a.toList.length = 2 := by rw [Array.length_toList]; exact h.1.symm
  have : ∃ u v, a.toList = [u, v] := by
    match hl : a.toList with
    | [] => rw [hl] at h0; simp at h0
    | [_] => rw [hl] at h0; simp at h0
    | [u, v] => exact ⟨u, v, rfl⟩
    | _ :: _ :: _ :: _ => rw [hl] at h0; simp at h0
  obtain ⟨u, v, hl⟩ := this
  have := arr2 hl
  subst this
  exact ⟨u, v, rfl, h.2 0 (by simp) (by simp), h.2 1 (by simp) (by simp)⟩
theorem VRs.one {μ : Mu} {x : AV} {a : Array Value} (h : VRs μ [x] a) : ∃ u, a = #[u] ∧ VR μ x u := by
  have h0 : a.toList.length = 1 := by rw [Array.length_toList]; exact h.1.symm
  have : ∃ u, a.toList = [u] := by
    match hl : a.toList with
    | [] => rw [hl] at h0; simp at h0
    | [u] => exact ⟨u, rfl⟩
    | _ :: _ :: _ => rw [hl] at h0; simp at h0
  obtain ⟨u, hl⟩ := this
  have := arr1 hl
  subst this
  exact ⟨u, rfl, h.2 0 (by simp) (by simp)⟩
theorem VRs.lits {μ : Mu} {l : List AV} {vs : List Value} {a : Array Value} (h : VRs μ l a) (hl : litsOf l = some vs) : a = ⟨vs⟩ := by
  have := litsOf_ok (a := a.toList) hl (by simpa using h.1) (fun i h1 h2 => by simpa using h.2 i h1 (by simpa using h2))
  rw [← this]

theorem callA_ok {P : Program} {f : FuncId} {args : List AV} {us : Array Value} {μ : Mu} {H : Hp} {w : World} {out : Out} (hr : HR μ H w) (hv : VRs μ args us) (h : callA P f args H = some out) : OutOk P (callFunc f us) μ H w out := by
  unfold callA at h
  split at h
  · cases h
  rename_i fn hf
  unfold getFn at hf
  split at h
  · cases h
  rename_i hn
  have hn2 : fn.name ≠ "runtime.NumGoroutine" := by simpa using hn
  split at h
  · rename_i body hb
    cases h
    refine ⟨us, ?_, hv⟩
    unfold callFunc
    simp [hf, hn2, hb]
  · rename_i hb
    split at h
    · cases h
    rename_i hfn
    split at h
    · cases h
    rename_i e he
    split at h
    · cases h
    rename_i vs hl
    have := hv.lits hl
    subst this
    have hrun : ∀ (r : Result Next), (do pure (.value (← e ⟨vs⟩)) : Sem Next).run P w = r → (callFunc f ⟨vs⟩).run P w = r := by
      intro r hr
      unfold callFunc
      simp only [Sem.run_bind, run_program, Result.andThen_ok, hf]
      rw [if_neg (by simpa using hn2), hb]
      simp only [Option.isNone_none, if_true, Sem.run_bind, run_mark, Result.andThen_ok, hfn, he]
      rw [Sem.run_bind] at hr
      exact hr
    have := outR_ok (P := P) (μ := μ) (w := w) hr h fun v hv => pureV_ok hr hv
    unfold OutOk at this ⊢
    split at this
    · obtain ⟨u, w', μ', q1, q2, q3⟩ := this
      exact ⟨u, w', μ', hrun _ q1, q2, q3⟩
    · obtain ⟨w', μ', q1, q2⟩ := this
      exact ⟨w', μ', hrun _ q1, q2⟩
    · obtain ⟨us, q1, q2⟩ := this
      exact ⟨us, hrun _ q1, q2⟩

theorem builtinA_ok {P : Program} {b : Builtin} {argTypes : Array TypeId} {type : TypeId} {consts : Array Bool} {args : List AV} {us : Array Value} {μ : Mu} {H : Hp} {w : World} {out : Out} (hr : HR μ H w) (hv : VRs μ args us)
    (h : builtinA P H b argTypes type args = some out) : OutOk P (builtin b argTypes type consts us) μ H w out := by
  unfold builtinA at h
  split at h
  · rename_i sT xT s x ht
    have := arr2 ht; subst this
    obtain ⟨u, v, rfl, h1, h2⟩ := hv.two
    split at h
    · rename_i r hap
      exact outVH_ok h fun v H' hv => append_ok hr h1 h2 (hap.trans hv)
    · exact outVH_ok h fun v H' hv => appendZ_ok hr h1 h2 hv
  · rename_i t x ht
    have := arr1 ht; subst this
    obtain ⟨u, rfl, h1⟩ := hv.one
    exact outVH_ok h fun v H' hv => clear_ok hr h1 hv
  · rename_i dT sT s x ht
    have := arr2 ht; subst this
    obtain ⟨u, v, rfl, h1, h2⟩ := hv.two
    exact outVH_ok h fun v H' hv => copy_ok hr h1 h2 hv
  · rename_i t x ht
    have := arr1 ht; subst this
    obtain ⟨u, rfl, h1⟩ := hv.one
    exact outR_ok hr h fun v hv => len_ok hr h1 hv
  · rename_i t x ht
    have := arr1 ht; subst this
    obtain ⟨u, rfl, h1⟩ := hv.one
    exact outR_ok hr h fun v hv => cap_ok hr h1 hv
  · split at h
    · rename_i vs hl
      rw [hv.lits hl]
      exact outR_ok hr h fun v hv => pureV_ok hr hv
    · cases h
  · split at h
    · rename_i vs hl
      rw [hv.lits hl]
      exact outR_ok hr h fun v hv => pureV_ok hr hv
    · cases h
  · cases h

theorem asBool_run {P : Program} {w : World} (b : Bool) : (asBool (.bool b)).run P w = .ok b w := rfl

set_option maxHeartbeats 1000000 in
theorem opA_ok {P : Program} {fr : T AV} {a : Act} {o : Oper} {μ : Mu} {H : Hp} {w : World} {out : Out} (hr : HR μ H w) (hf : FR μ fr a) (h : opA P fr H o = some out) : OutOk P (execOp a.eval o) μ H w out := by
  unfold opA at h
  unfold execOp
  split at h
  · rename_i x hop
    rw [hop]
    cases hx : evalA fr x with
    | none => rw [hx] at h; cases h
    | some v => rw [hx] at h; cases h; exact outVal hr (evalA_ok hf hx) rfl
  · rename_i x hop
    rw [hop]
    cases hx : evalA fr x with
    | none => rw [hx] at h; cases h
    | some v => rw [hx] at h; cases h; exact outVal hr (evalA_ok hf hx) rfl
  · rename_i c x y hop
    rw [hop]
    split at h
    · rename_i x' y' hc hx hy
      cases h
      have := (evalA_ok hf hc).lit_eq
      exact outVal hr (evalA_ok hf hx) (by simp only [this, Sem.run_bind, asBool_run]; rfl)
    · rename_i x' y' hc hx hy
      cases h
      have := (evalA_ok hf hc).lit_eq
      exact outVal hr (evalA_ok hf hy) (by simp only [this, Sem.run_bind, asBool_run]; rfl)
    · cases h
  · rename_i t hop
    rw [hop]
    exact outVH_ok h fun v H' hv => alloc_ok hr hv
  · rename_i t x hop
    rw [hop]
    split at h
    · rename_i v hx; exact outVH_ok h fun v H' hv => box_ok hr (evalA_ok hf hx) hv
    · cases h
  · rename_i t parts hop
    rw [hop]
    split at h
    · rename_i ps hx; exact outR_ok hr h fun v hv => build_ok hr (partsA_arr hf hx) hv
    · cases h
  · rename_i t len parts hop
    rw [hop]
    split at h
    · rename_i ps hx; exact outVH_ok h fun v H' hv => buildSlice_ok hr (partsA_arr hf hx) hv
    · cases h
  · rename_i t x hop
    rw [hop]
    split at h
    · rename_i v hx; exact outR_ok hr h fun v hv => load_ok hr (evalA_ok hf hx) hv
    · cases h
  · rename_i t x y hop
    rw [hop]
    split at h
    · rename_i v u hx hy; exact outS_ok h fun H' hv => store_ok hr (evalA_ok hf hx) (evalA_ok hf hy) hv
    · cases h
  · rename_i x hop
    rw [hop]
    split at h
    · rename_i b off hx
      cases h
      have := evalA_ok hf hx
      generalize hu : a.eval x = u at this
      cases this with
      | ptr _ _ hb => exact outVal hr (.ptr b off hb) (by simp only [hu]; rfl)
    · rename_i cs hx
      cases h
      have := evalA_ok hf hx
      generalize hu : a.eval x = u at this
      cases this with
      | frp _ k off vs us h1 h2 h3 => exact outVal hr (.frp cs k off vs us h1 h2 h3) (by simp only [hu]; rfl)
    · rename_i f l m hx
      cases h
      have := evalA_ok hf hx
      generalize hu : a.eval x = u at this
      cases this with
      | func _ _ _ a1 a2 e1 e2 g1 g2 => exact outVal hr (.func _ _ _ _ _ e1 e2 g1 g2) (by simp only [hu]; rfl)
    · cases h
  · rename_i op t x y yt hop
    rw [hop]
    split at h
    · rename_i u v hx hy; exact outR_ok hr h fun v hv => bin_ok hr (evalA_ok hf hx) (evalA_ok hf hy) hv
    · cases h
  · rename_i op t x hop
    rw [hop]
    split at h
    · rename_i v hx
      split at h
      · rename_i u hu
        have := litOf_ok hu (evalA_ok hf hx)
        simp only [this]
        exact outR_ok hr h fun v hv => pureV_ok hr hv
      · cases h
    · cases h
  · rename_i src dst x hop
    rw [hop]
    split at h
    · rename_i v hx; exact outVH_ok h fun v H' hv => convert_ok hr (evalA_ok hf hx) hv
    · cases h
  · rename_i t x hop
    rw [hop]
    split at h
    · rename_i v hx
      split at h
      · rename_i i hi
        split at h
        · cases h
        · rename_i hd
          cases h
          refine outVal hr (.iface t v _ (evalA_ok hf hx)) ?_
          simp only [Instr.makeInterface, Sem.run_bind, run_und hi, Result.andThen_ok]
          cases hdd : i.desc <;> first | rfl | (exact absurd hdd (hd _))
      · cases h
    · cases h
  · rename_i fn first captured hop
    rw [hop]
    split at h
    · rename_i l m hl hm
      cases h
      have h1 := evalsA_arr hf hl
      have h2 := evalsA_arr hf hm
      exact outVal hr (.func fn l m _ _ h1.1 h2.1 h1.2 h2.2) rfl
    · cases h
  · rename_i t r hop
    rw [hop]
    split at h
    · rename_i x hx; exact outVH_ok h fun v H' hv => makeMap_ok hr (evalOA_ok hf hx) hv
    · cases h
  · rename_i t l c hop
    rw [hop]
    split at h
    · rename_i x y hx hy; exact outVH_ok h fun v H' hv => makeSlice_ok hr (evalA_ok hf hx) (evalA_ok hf hy) hv
    · cases h
  · rename_i t x lo hi hop
    rw [hop]
    split at h
    · rename_i v l hh hx hl hhi; exact outR_ok hr h fun v hv => slice_ok hr (evalA_ok hf hx) (evalOA_ok hf hl) (evalOA_ok hf hhi) hv
    · cases h
  · rename_i t x f hop
    rw [hop]
    split at h
    · rename_i v hx; exact outR_ok hr h fun v hv => fieldAddr_ok hr (evalA_ok hf hx) hv
    · cases h
  · rename_i t x f hop
    rw [hop]
    split at h
    · rename_i v hx; exact outR_ok hr h fun v hv => field_ok hr (evalA_ok hf hx) hv
    · cases h
  · rename_i t x i hop
    rw [hop]
    split at h
    · rename_i v u hx hy; exact outR_ok hr h fun v hv => indexAddr_ok hr (evalA_ok hf hx) (evalA_ok hf hy) hv
    · cases h
  · rename_i t x i hop
    rw [hop]
    split at h
    · rename_i v u hx hy; exact outR_ok hr h fun v hv => index_ok hr (evalA_ok hf hx) (evalA_ok hf hy) hv
    · cases h
  · rename_i t x i ok hop
    rw [hop]
    split at h
    · rename_i v u hx hy; exact outR_ok hr h fun v hv => lookup_ok hr (evalA_ok hf hx) (evalA_ok hf hy) hv
    · cases h
  · rename_i t m k x hop
    rw [hop]
    split at h
    · rename_i v u y hx hy hz; exact outS_ok h fun H' hv => update_ok hr (evalA_ok hf hx) (evalA_ok hf hy) (evalA_ok hf hz) hv
    · cases h
  · rename_i t m k x hop
    rw [hop]
    split at h
    · rename_i v u y hx hy hz; exact outS_ok h fun H' hv => update_ok hr (evalA_ok hf hx) (evalA_ok hf hy) (evalA_ok hf hz) hv
    · cases h
  · rename_i t x hop
    rw [hop]
    split at h
    · rename_i v hx; exact outVH_ok h fun v H' hv => range_ok hr (evalA_ok hf hx) hv
    · cases h
  · rename_i x b hop
    rw [hop]
    split at h
    · rename_i v hx; exact outVH_ok h fun v H' hv => next_ok hr (evalA_ok hf hx) hv
    · cases h
  · rename_i x i hop
    rw [hop]
    split at h
    · rename_i l hx
      refine outR_ok hr h fun v hv => ?_
      have := evalA_ok hf hx
      generalize hu : a.eval x = u at this
      cases this with
      | tuple _ arr e1 e2 =>
        rw [getL_eq] at hv
        obtain ⟨u, g1, g2⟩ := (show VRs μ l arr from ⟨e1, e2⟩).get hv
        exact .of_run hr (by simp [hu, Instr.extract, g1]) g2
    · rename_i vs hx
      split at h
      · rename_i v hv
        cases h
        have := (evalA_ok hf hx).lit_eq
        rw [getL_eq, Array.getElem?_toList] at hv
        exact outVal hr (.lit v) (by simp [this, Instr.extract, hv])
      · cases h
    · cases h
  · rename_i c hop
    rw [hop]
    split at h
    · rename_i b hc
      split at h
      · rename_i l hl
        have := builtinA_ok (consts := c.args.map fun | .const _ => true | _ => false) hr (evalsA_arr hf hl) h
        simp only [resolve, hc]
        simp only [OutOk] at this ⊢
        split at this <;> simp only [Sem.run_bind, Sem.run_pure, Result.andThen_ok, invoke] <;> exact this
      · cases h
    · rename_i f hc
      split at h
      · rename_i g first captured l hx hl
        have h1 := evalA_ok hf hx
        have h2 := evalsA_arr hf hl
        generalize hu : a.eval f = u at h1
        cases h1 with
        | func _ _ _ a1 a2 e1 e2 g1 g2 =>
        have h3 := VRs_append (VRs_append (show VRs μ first a1 from ⟨e1, g1⟩) h2) (show VRs μ captured a2 from ⟨e2, g2⟩)
        have := callA_ok (w := w) hr h3 h
        simp only [resolve, hc, hu]
        simp only [OutOk] at this ⊢
        split at this <;> simp only [Sem.run_bind, Sem.run_pure, Result.andThen_ok, Deferred.ofValue, invoke] <;> exact this
      · cases h
    · cases h
  · cases h
end Go.Cam
