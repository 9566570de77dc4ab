/-
  Of the texts that prove drosslaw46.CertificateFormat: for every certificate of bulk at most 1048576 the law returns true, and the argument reads as before. Condition: the listed package-level variables hold what the program lays.
-/
import Derived.Test.YthgkipklofkoaaaGreatDoorC0
open Go Go.Proofs Go.Cam Go.RowKit
set_option maxRecDepth 1000000
namespace Go.Proofs.F
noncomputable def tab32 : List Value := [.int .u8 0, .int .u8 1, .int .u8 28, .int .u8 2, .int .u8 29, .int .u8 14, .int .u8 24, .int .u8 3, .int .u8 30, .int .u8 22, .int .u8 20, .int .u8 15, .int .u8 25, .int .u8 17, .int .u8 4, .int .u8 8, .int .u8 31, .int .u8 27, .int .u8 13, .int .u8 23, .int .u8 21, .int .u8 19, .int .u8 16, .int .u8 7, .int .u8 26, .int .u8 12, .int .u8 18, .int .u8 6, .int .u8 11, .int .u8 5, .int .u8 10, .int .u8 9]
noncomputable def G46 (g : Nat) : Option (List Value) := match Nat.beq g 6 with
  | true => some tab32
  | false => none
def isT : Option (AV × Hp) → Bool
  | some (.lit (.bool b), _) => b
  | _ => false
theorem awake_run : isT (callF P (drawA P) 100000 6 [] (H0 G46)) = true := by kernel_rfl
theorem awake_calls (w : World) (hg : Globals G46 w) : Calls P 6 #[] w (fun e w' => e = .returned (.bool true) ∧ Below w.heap.size w w') := by
  have h := awake_run
  unfold isT at h
  split at h
  · rename_i b H' hc
    subst h
    exact calls_of_run follows hc w hg
  · cases h
/-- The examples of the chapter hold. -/
theorem awake_does (H : Hp) (hG : ∀ g cs, G46 g = some cs → H.gl g = some cs) : Does P 6 [] H (.lit (.bool true)) H :=
  Does.of_calls (us := #[]) fun w hg => awake_calls w fun g cs h => hg g cs (hG g cs h)
end Go.Proofs.F
