/-
  Of the texts that prove drosslaw46.CertificateFormat: for every certificate of bulk at most 1048576 the law returns true, and the argument reads as before. Condition: the listed package-level variables hold what the program lays.
-/
import Derived.Test.YthgkipklofkoaaaGreatDoorR5
import Derived.JoinedCond
open Go Go.Proofs Go.Cam Go.RowKit Go.Proofs.YthgkipklofkoaaaGreatDoor
open Go.ChangeShapes Go.WideShapes Go.ChangeAt
set_option maxRecDepth 1000000
namespace Go.Proofs.YthgkipklofkoaaaGreatDoor.Fmt
open Go.Proofs.F
theorem kInPlace : (Rows.certificateFormatUptoRow.inPlace == Tryz.pinned.checked.prog.inPlace 5) = true := by kernel_rfl
theorem kUnfollowed : (Rows.certificateFormatUptoRow.unfollowed == Tryz.pinned.checked.prog.unfollowed 5) = true := by kernel_rfl
theorem kRecurses : (Rows.certificateFormatUptoRow.recurses == Tryz.pinned.checked.prog.recurses 5) = true := by kernel_rfl
theorem kNamed : (Rows.certificateFormatUptoRow.named == Tryz.pinned.checked.prog.varsNamed 5) = true := by kernel_rfl
theorem closed : joinedFacts Tryz.pinned.checked.prog 5 Tryz.f5 (Rows.OpenSpec.upto Rows.certificateFormatSpec).bare Rows.certificateFormatUptoRow = true := by
  unfold joinedFacts
  rw [kInPlace, kUnfollowed, kRecurses, kNamed]
  kernel_rfl
theorem named : Tryz.pinned.checked.prog.funcNamed Rows.certificateFormatUptoRow.func = some 5 := by kernel_rfl
theorem instOk : Tryz.f5.isInstance Tryz.pinned.checked.prog Rows.certificateFormatUptoRow.origin Rows.certificateFormatUptoRow.targs := of_decide_eq_true (by kernel_rfl)
theorem wrapOk : Tryz.f5.isWrapper Tryz.pinned.checked.prog Rows.certificateFormatUptoRow.wrapper Rows.certificateFormatUptoRow.mainSum := by
  unfold Func.isWrapper; first | (rw [if_pos (by decide +kernel)]; kernel_rfl) | (rw [if_neg (by decide +kernel)]; exact ⟨rfl, rfl⟩)
theorem saidUpto : Rows.CertificateFormatUptoSaid :=
  OpenClaim.holds_of_cond 5 Tryz.f5 rfl rfl rfl rfl rfl rfl rfl ⟨rfl, rfl, rfl, rfl, rfl⟩ rfl rfl rfl rfl rfl named Tryz.func5 closed instOk wrapOk
    (fun os started H enc _ F => by rw [OpenClaim.pre_eq_preRow]; exact liftedUpto os started H enc F)
theorem plain (f : FuncId) (fn : Func) (hf : Tryz.pinned.checked.prog.funcNamed "dross/drosslaw46.CertificateFormat" = some f) (hfn : Tryz.pinned.checked.prog.funcs[f]? = some fn) :
    true = Tryz.pinned.checked.prog.looks [] ∧ ∀ (j : Nat) t, fn.params[j]? = some t → Tryz.pinned.checked.prog.wantsStandIn t = false := by
  obtain rfl : f = 5 := Option.some.inj ((show Tryz.prog.funcNamed "dross/drosslaw46.CertificateFormat" = some 5 by kernel_rfl).symm.trans hf) |>.symm
  obtain rfl : fn = Tryz.f5 := (Option.some.inj (Tryz.func5.symm.trans hfn)).symm
  refine ⟨by kernel_rfl, fun j t ht => ?_⟩
  rw [Tryz.params5] at ht
  obtain rfl : t = 43 := by simpa using Array.mem_of_getElem? ht
  exact (show Tryz.prog.wantsStandIn 43 = false by kernel_rfl)
/-- THE CARD. -/
theorem cardUpto : Rows.CertificateFormatUptoCardSaid :=
  Claim7.holds_tied_plain_at .later [] _ _ _ _ saidUpto (fun _ h => by cases h) (by kernel_rfl) (fun _ h => by cases h) certificateFormatUpto_row_tie rfl ⟨rfl, rfl⟩ (by kernel_rfl) rfl plain (by kernel_rfl)
end Go.Proofs.YthgkipklofkoaaaGreatDoor.Fmt
