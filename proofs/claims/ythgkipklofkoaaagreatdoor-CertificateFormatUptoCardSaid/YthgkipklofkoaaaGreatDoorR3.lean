/-
  Of the texts that prove drosslaw46.CertificateFormat: for every certificate of bulk at most 1048576 the law returns true, and the argument reads as before. Condition: the listed package-level variables hold what the program lays.
-/
import Derived.Test.YthgkipklofkoaaaGreatDoorR2
import Derived.Test.YthgkipklofkoaaaGreatDoorC16
import Derived.Test.YthgkipklofkoaaaGreatDoorCards
import Derived.Test.YthgkipklofkoaaaGreatDoorTie
import Derived.ProofKit
import Derived.OpenShut
import Derived.ChangeStays
import Derived.ChangeAnyMap
import Derived.Deep.DeepHandedRow
import Derived.Deep.DeepWitnessRowRef
import Derived.Lib.LaidU8
open Go Go.Proofs Go.Cam Go.RowKit Go.Proofs.YthgkipklofkoaaaGreatDoor
open Go.ChangeShapes Go.WideShapes Go.ChangeAt
set_option maxRecDepth 1000000
namespace Go.Proofs.F
section
variable {H : Type} {enc : TypeId × Value → H}
theorem post_of_below {f : Func} {s : ChangeSpec} {apart fresh handsOn again : Bool} {W W' : World} {args : Array Value} {v : Value} {ds gs : List (DataW H)} {before pa pv : List MemPlace}
    (hW : DataW.Whole enc P f.params.toList s.vars apart W args.toList ds gs before)
    (hres : ∀ (b : Nat) (sp : Nat → Bool) (hd : Bool), DataW.TrodAll enc P W' b sp hd f.resultTypes.toList (v.resultList f.resultTypes.size) (s.fn H (ds ++ gs)).results [])
    (hargs : ∀ sp : Nat → Bool, (∀ p ∈ before, sp p.block = true) → DataW.TrodAll enc P W' 0 sp true f.params.toList args.toList (s.fn H (ds ++ gs)).args pa)
    (hvars : ∀ sp : Nat → Bool, (∀ p ∈ before, sp p.block = true) → DataW.TrodVars enc P W' sp s.vars (s.fn H (ds ++ gs)).vars pv)
    (hps : before = pa ++ pv) (hb : Below W.heap.size W W')
    (hok : ∀ (j : Nat) (t : TypeId) (r : Value), f.resultTypes[j]? = some t → (v.resultList f.resultTypes.size)[j]? = some r → Value.okWide P W' .any 0 t r) :
    s.post enc P f apart fresh handsOn again W args v W' := by
  have hlt : ∀ p ∈ before, p.block < W.heap.size := fun p hp => hW.lt p hp
  have hold : ∀ p ∈ before, (fun b => decide (b < W.heap.size)) p.block = true := fun p hp => by simpa using hlt p hp
  refine ⟨ds, gs, before, [], pa, pv, hW, hres _ _ _, hargs _ hold, hvars _ hold, World.keptBut_mono (fun p hp => ⟨hp, ?_⟩) (hb.frame (· ∈ before)), fun _ => ?_⟩
  · rw [hps, List.mem_append] at hp
    exact Or.inr hp
  · obtain ⟨_, _, _, _, _, hz, hn⟩ := hW
    refine ⟨hok, _, _, ([] ++ pa) ++ pv, ⟨[] ++ pa, pv, trodAll_append (hargs _ (fun _ _ => rfl)) (hres _ _ _), hvars _ (fun _ _ => rfl), rfl, ?_, ?_⟩, ?_⟩
    · intro b off hp
      have hin : MemPlace.cell b off ∈ before := by rw [hps]; simpa using hp
      rw [hb.frozen (hlt _ hin)]
      exact hz b off hin
    · intro ha
      have := hn ha
      rw [hps] at this
      simpa using this
    · intro p hp _
      rw [hps]
      simpa using hp
end
/-! ## The package-level variables -/
theorem var_cells {W : World} {n : String} {g : Nat} {cs : Array Value} (hg : P.globalNamed n = some g) (h : W.var? P n = some cs) : ∃ ty fz, W.heap[g]? = some (.cells cs ty fz) := by
  unfold World.var? at h
  rw [hg] at h
  simp only [Option.bind_some] at h
  split at h
  · rename_i arr ty fz e
    simp only [Option.some.injEq] at h
    subst h
    exact ⟨ty, fz, e⟩
  · cases h
/-- The globals of which the content is used. -/
noncomputable def GL (g : Nat) : Option (List Value) := match Nat.beq g 6 with
  | true => some tab32
  | false => match Nat.beq g 3 with
    | true => some pow10
    | false => none
theorem GL3 : GL 3 = some pow10 := rfl
theorem GL_G46 : ∀ g cs, G46 g = some cs → GL g = some cs := by
  intro g cs h
  unfold G46 at h
  unfold GL
  split at h
  · rename_i hq; rw [hq]; exact h
  · cases h
theorem awake_GL (H : Hp) (hH : H.gl = GL) : Does P 6 [] H (.lit (.bool true)) H := awake_does H fun g cs h => by rw [hH]; exact GL_G46 g cs h
noncomputable def z32 : List Int := [0, 1, 28, 2, 29, 14, 24, 3, 30, 22, 20, 15, 25, 17, 4, 8, 31, 27, 13, 23, 21, 19, 16, 7, 26, 12, 18, 6, 11, 5, 10, 9]
theorem tab32_eq : tab32 = z32.map fun z => Value.int .u8 z := rfl
theorem c357 : P.cellsOf 357 = 32 := by kernel_rfl
theorem c285 : P.cellsOf 285 = 20 := by kernel_rfl
theorem tab_reads {W : World} {n : String} {k : IntKind} {zs : List Int} {g : Nat} {t e : TypeId} {m : Nat} (hg : P.globalNamed n = some g) (hty : (P.globals[g]?).map (·.type) = some t) (ht : P.underlying t = some (.array m e)) (he : P.underlying e = some (.int k)) (hce : P.cellsOf e = 1) (hct : P.cellsOf t = m)
    (h : Lib.VarReads P W n (Lib.tabData k zs)) : ∃ arr ty fz, W.heap[g]? = some (.cells arr ty fz) ∧ arr.toList = zs.map fun z => Value.int k z := by
  obtain ⟨g', t', cs, fuel, p, h1, h2, h3, h4⟩ := h
  obtain rfl := Option.some.inj (hg.symm.trans h1)
  obtain rfl := Option.some.inj (hty.symm.trans h2)
  obtain ⟨ty, fz, e1⟩ := var_cells hg h3
  exact ⟨cs, ty, fz, e1, Lib.cells_of_tab ht he hce hct h4⟩
theorem globals_of {W : World} (h32 : Lib.VarReads P W "math/bits.deBruijn32tab" Rows.laid_math_bits_deBruijn32tab) (h10 : Lib.VarReads P W "internal/strconv.uint64pow10" Rows.laid_internal_strconv_uint64pow10) : Globals GL W := by
  intro g cs hg
  unfold GL at hg
  split at hg
  · rename_i hq
    have : g = 6 := Nat.eq_of_beq_eq_true hq
    subst this
    cases hg
    have := tab_reads (W := W) (k := .u8) (zs := z32) (g := 6) (by kernel_rfl) (by kernel_rfl) Tryz.underlying357 Tryz.underlying5 (by kernel_rfl) c357 h32
    rw [tab32_eq]; exact this
  · split at hg
    · rename_i hq
      have : g = 3 := Nat.eq_of_beq_eq_true hq
      subst this
      cases hg
      exact tab_reads (W := W) (k := .u64) (zs := Lib.pow10Tab) (g := 3) (by kernel_rfl) (by kernel_rfl) Tryz.underlying285 Tryz.underlying219 (by kernel_rfl) c285 h10
    · cases hg
/-- What is read stays as it is. -/
theorem Kbook43 : laidOutB P = true := by kernel_rfl
theorem rec43 : P.readableRec 43 = true := by kernel_rfl
theorem row43 : (43 : TypeId) < P.types.size := of_decide_eq_true (by kernel_rfl)
theorem sameAt_below {W W' : World} (hb : Below W.heap.size W W') {p : MemPlace} (hp : p.block < W.heap.size) : W.sameAt W' p := by
  cases p with
  | cell b off => exact hb.cell (p := ⟨b, off, none⟩) hp
  | map b => exact hb.block b hp
end Go.Proofs.F
