/-
  Of the texts that prove drosslaw46.CertificateFormat: for every certificate of bulk at most 1048576 the law returns true, and the argument reads as before. Condition: the listed package-level variables hold what the program lays.
-/
import Derived.Test.YthgkipklofkoaaaGreatDoorR4
open Go Go.Proofs Go.Cam Go.RowKit Go.Proofs.YthgkipklofkoaaaGreatDoor
open Go.ChangeShapes Go.WideShapes Go.ChangeAt
set_option maxRecDepth 1000000
namespace Go.Proofs.YthgkipklofkoaaaGreatDoor.Fmt
open Go.Proofs.F
/-- THE WITNESS: a certificate of zeros. -/
def zeroCert : Value := .agg #[.int .i64 0, .slice none 0 0, .int .i64 0, .slice none 0 0, .slice none 0 0, .string ⟨#[]⟩, .slice none 0 0, .slice none 0 0, .slice none 0 0, .slice none 0 0, .slice none 0 0, .slice none 0 0, .slice none 0 0, .int .u32 0, .int .u32 0]
noncomputable def acceptCells : List Value := [128, 191, 160, 191, 128, 159, 144, 191, 128, 143, 0, 0, 0, 0, 0, 0, 0, 0, 0, 0, 0, 0, 0, 0, 0, 0, 0, 0, 0, 0, 0, 0].map fun z => Value.int .u8 z
noncomputable def z64 : List Int := [0, 1, 56, 2, 57, 49, 28, 3, 61, 58, 42, 50, 38, 29, 17, 4, 62, 47, 59, 36, 45, 43, 51, 22, 53, 39, 33, 30, 24, 18, 12, 5, 63, 55, 48, 27, 60, 41, 37, 16, 46, 35, 44, 21, 52, 32, 23, 11, 54, 26, 40, 15, 34, 20, 31, 10, 25, 14, 19, 9, 13, 8, 7, 6]
/-- The settled world with two blocks more (the texts of strconv.ErrRange and strconv.ErrSyntax), the listed variables holding what their initialisers lay. -/
noncomputable def laidWorld (os : Os) : World :=
  let N := (World.settled Tryz.prog os).heap.size
  let w0 := World.holding Tryz.prog os ⟨#[
    .cells #[.string ⟨#[118, 97, 108, 117, 101, 32, 111, 117, 116, 32, 111, 102, 32, 114, 97, 110, 103, 101]⟩] 326,
    .cells #[.string ⟨#[105, 110, 118, 97, 108, 105, 100, 32, 115, 121, 110, 116, 97, 120]⟩] 326], #[], []⟩
  let put (h : Array Obj) (g : Nat) (cs : Array Value) : Array Obj := h.modify g fun
    | .cells _ t frozen => .cells cs t frozen
    | o => o
  let h1 := put w0.heap 6 tab32.toArray
  let h2 := put h1 7 (z64.map fun z => Value.int .u8 z).toArray
  let h3 := put h2 3 pow10.toArray
  let h4 := put h3 5 acceptCells.toArray
  let h5 := put h4 2 #[.iface 324 (.pointer (some ⟨N, 0, none⟩))]
  let h6 := put h5 1 #[.iface 324 (.pointer (some ⟨N + 1, 0, none⟩))]
  let h7 := put h6 4 (Go.Pinned.utf8FirstZ.map fun (z : Nat) => Value.int .u8 (z : Int)).toArray
  { w0 with heap := h7 }
theorem laid_met (os : Os) : laidMet Tryz.prog Rows.certificateFormatUptoRow.laid ((laidWorld os).forCall (fun _ _ => 0) ⟨#[], #[zeroCert], []⟩).memory :=
  laidMet_of_run' 8 (by kernel_rfl) (by kernel_rfl)
theorem witness_row (os : Os) {H : Type} (enc : TypeId × Value → H) :
    (Rows.OpenSpec.upto Rows.certificateFormatSpec).preRow enc Tryz.prog Tryz.f5 Rows.certificateFormatUptoRow.domain false Rows.certificateFormatUptoRow.laid ((laidWorld os).forCall (fun _ _ => 0) ⟨#[], #[zeroCert], []⟩).memory #[zeroCert] := by
  have hw : (DataW.whole enc Tryz.prog ((laidWorld os).forCall (fun _ _ => 0) ⟨#[], #[zeroCert], []⟩).memory Tryz.f5.params.toList Rows.certificateFormatSpec.vars false #[zeroCert].toList 8).map (fun x => (x.1, x.2.1)) =
      some ([.agg [.lit (.int .i64 0), .agg [.nil, .lit (.int .i64 0), .nil], .agg [.nil, .agg [.lit (.string []), .nil, .nil], .nil, .nil], .nil, .nil, .nil, .agg [.lit (.int .u32 0), .lit (.int .u32 0)]]], []) := by kernel_rfl
  obtain ⟨⟨x1, x2, x3⟩, hx, hx1⟩ := Option.map_eq_some_iff.1 hw
  simp only [Prod.mk.injEq] at hx1
  obtain ⟨rfl, rfl⟩ := hx1
  exact OpenSpec.preRow_of_cond 8 hx (by kernel_rfl) (fun k hk => by cases hk; kernel_rfl) (by kernel_rfl) (laid_met os)
theorem liftedUpto (os : Os) (started : os.Started) (H : Type) (enc : TypeId × Value → H) (F : Stop.Interp) :
    ReturnsInHanded {} Tryz.checked os 5 .any ((Rows.OpenSpec.upto Rows.certificateFormatSpec).preRow enc Tryz.prog Tryz.f5 Rows.certificateFormatUptoRow.domain false Rows.certificateFormatUptoRow.laid) (((Rows.OpenSpec.upto Rows.certificateFormatSpec).at F).post enc Tryz.prog Tryz.f5 false true false false) := by
  refine returnsInHanded_of_row (C := Tryz.checked) (s := Rows.OpenSpec.upto Rows.certificateFormatSpec) own started (by kernel_rfl) Tryz.func5
    (witness_row_atRef (enc := enc) (C := Tryz.checked) false (laidWorld os) #[zeroCert] rfl (by kernel_rfl) (by kernel_rfl) (by kernel_rfl) (witness_row os enc)) ?_
  intro W base args ds gs before hval hW _ hcond _ hL _ _
  exact contract H enc W base args ds gs before hval hW (hcond _ rfl) hL
end Go.Proofs.YthgkipklofkoaaaGreatDoor.Fmt
