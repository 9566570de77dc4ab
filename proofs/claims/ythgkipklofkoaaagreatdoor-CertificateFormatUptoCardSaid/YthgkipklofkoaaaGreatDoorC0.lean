/-
  Of the texts that prove drosslaw46.CertificateFormat: for every certificate of bulk at most 1048576 the law returns true, and the argument reads as before. Condition: the listed package-level variables hold what the program lays.
-/
import Derived.Test.YthgkipklofkoaaaGreatDoorChecked
import Derived.Test.YthgkipklofkoaaaGreatDoorCamE
import Derived.Lib.ItoaNum
open Go Go.Proofs Go.Cam
set_option maxRecDepth 1000000
namespace Go.Proofs.F
noncomputable abbrev P := Tryz.prog
theorem follows : P.follows .mixedOrders = true := by kernel_rfl
/-! ## A certificate as data -/
structure Nd where
  vertex : Int
  shares : List (Int × Int)
structure Stp where
  rule : Int
  from_ : List Int
  lhs : Int
  rhs : Int
structure Cert where
  kind : Int
  deleted : List Int
  weight : Int
  rproof : List Nd
  cells : List (Int × Int)
  tn : List UInt8
  ta : List (List UInt8)
  tr : List (Int × List (Int × Int × List UInt8))
  cores : List (List (Int × Int))
  uproof : List Nd
  sets : List Int
  pairs : List (Int × Int × Int)
  steps : List Stp
  lhs : Int
  rhs : Int
def eInt (x : Int) : List AV := [.lit (.int .i64 x)]
def eSet (x : Int) : List AV := [.lit (.int .u32 x)]
def eStr (x : List UInt8) : List AV := [.lit (.string (bs x))]
def ePt (x : Int × Int) : List AV := [.lit (.int .i64 x.1), .lit (.int .i64 x.2)]
def ePair (x : Int × Int × Int) : List AV := [.lit (.int .u32 x.1), .lit (.int .i64 x.2.1), .lit (.int .i64 x.2.2)]
def eCore (x : List (Int × Int)) : List AV := [.frz 2 (List.map ePt x)]
def eNd (x : Nd) : List AV := [.lit (.int .i64 x.vertex), .frz 2 (List.map ePt x.shares)]
def eStep (x : Stp) : List AV := [.lit (.int .i64 x.rule), .frz 1 (List.map eInt x.from_), .lit (.int .u32 x.lhs), .lit (.int .u32 x.rhs)]
def eVal (x : Int × Int × List UInt8) : List AV := [.lit (.int .i64 x.1), .lit (.int .i64 x.2.1), .lit (.string (bs x.2.2))]
def eRow (x : Int × List (Int × Int × List UInt8)) : List AV := [.lit (.int .i64 x.1), .frz 3 (List.map eVal x.2)]
theorem eInt_pu (x : Int) : PuL (eInt x) := .cons (.lit _) .nil
theorem eSet_pu (x : Int) : PuL (eSet x) := .cons (.lit _) .nil
theorem eStr_pu (x : List UInt8) : PuL (eStr x) := .cons (.lit _) .nil
theorem ePt_pu (x : Int × Int) : PuL (ePt x) := .cons (.lit _) (.cons (.lit _) .nil)
theorem ePair_pu (x : Int × Int × Int) : PuL (ePair x) := .cons (.lit _) (.cons (.lit _) (.cons (.lit _) .nil))
theorem eCore_pu (x : List (Int × Int)) : PuL (eCore x) := .cons (.map _ _ ePt_pu) .nil
theorem eNd_pu (x : Nd) : PuL (eNd x) := .cons (.lit _) (.cons (.map _ _ ePt_pu) .nil)
theorem eStep_pu (x : Stp) : PuL (eStep x) := .cons (.lit _) (.cons (.map _ _ eInt_pu) (.cons (.lit _) (.cons (.lit _) .nil)))
theorem eVal_pu (x : Int × Int × List UInt8) : PuL (eVal x) := .cons (.lit _) (.cons (.lit _) (.cons (.lit _) .nil))
theorem eRow_pu (x : Int × List (Int × Int × List UInt8)) : PuL (eRow x) := .cons (.lit _) (.cons (.map _ _ eVal_pu) .nil)
theorem eInt_len (x : Int) : (eInt x).length = 1 := rfl
theorem eInt_flat (x : Int) : ∀ v ∈ eInt x, v.flat = true := by intro v hv; simp only [eInt, List.mem_cons, List.not_mem_nil, or_false] at hv; rcases hv with rfl <;> rfl
theorem eSet_len (x : Int) : (eSet x).length = 1 := rfl
theorem eSet_flat (x : Int) : ∀ v ∈ eSet x, v.flat = true := by intro v hv; simp only [eSet, List.mem_cons, List.not_mem_nil, or_false] at hv; rcases hv with rfl <;> rfl
theorem eStr_len (x : List UInt8) : (eStr x).length = 1 := rfl
theorem eStr_flat (x : List UInt8) : ∀ v ∈ eStr x, v.flat = true := by intro v hv; simp only [eStr, List.mem_cons, List.not_mem_nil, or_false] at hv; rcases hv with rfl <;> rfl
theorem ePt_len (x : Int × Int) : (ePt x).length = 2 := rfl
theorem ePt_flat (x : Int × Int) : ∀ v ∈ ePt x, v.flat = true := by intro v hv; simp only [ePt, List.mem_cons, List.not_mem_nil, or_false] at hv; rcases hv with rfl | rfl <;> rfl
theorem ePair_len (x : Int × Int × Int) : (ePair x).length = 3 := rfl
theorem ePair_flat (x : Int × Int × Int) : ∀ v ∈ ePair x, v.flat = true := by intro v hv; simp only [ePair, List.mem_cons, List.not_mem_nil, or_false] at hv; rcases hv with rfl | rfl | rfl <;> rfl
theorem eCore_len (x : List (Int × Int)) : (eCore x).length = 1 := rfl
theorem eCore_flat (x : List (Int × Int)) : ∀ v ∈ eCore x, v.flat = true := by intro v hv; simp only [eCore, List.mem_cons, List.not_mem_nil, or_false] at hv; rcases hv with rfl <;> rfl
theorem eNd_len (x : Nd) : (eNd x).length = 2 := rfl
theorem eNd_flat (x : Nd) : ∀ v ∈ eNd x, v.flat = true := by intro v hv; simp only [eNd, List.mem_cons, List.not_mem_nil, or_false] at hv; rcases hv with rfl | rfl <;> rfl
theorem eStep_len (x : Stp) : (eStep x).length = 4 := rfl
theorem eStep_flat (x : Stp) : ∀ v ∈ eStep x, v.flat = true := by intro v hv; simp only [eStep, List.mem_cons, List.not_mem_nil, or_false] at hv; rcases hv with rfl | rfl | rfl | rfl <;> rfl
/-- The cells of a certificate. -/
def Cert.cs (c : Cert) : List AV := [.lit (.int .i64 c.kind), .frz 1 (List.map eInt c.deleted), .lit (.int .i64 c.weight), .frz 2 (List.map eNd c.rproof), .frz 2 (List.map ePt c.cells), .lit (.string (bs c.tn)), .frz 1 (List.map eStr c.ta), .frz 2 (List.map eRow c.tr), .frz 1 (List.map eCore c.cores), .frz 2 (List.map eNd c.uproof), .frz 1 (List.map eSet c.sets), .frz 3 (List.map ePair c.pairs), .frz 4 (List.map eStep c.steps), .lit (.int .u32 c.lhs), .lit (.int .u32 c.rhs)]
theorem Cert.cs_pu (c : Cert) : PuL c.cs := .cons (.lit _) (.cons (.map _ _ eInt_pu) (.cons (.lit _) (.cons (.map _ _ eNd_pu) (.cons (.map _ _ ePt_pu) (.cons (.lit _) (.cons (.map _ _ eStr_pu) (.cons (.map _ _ eRow_pu) (.cons (.map _ _ eCore_pu) (.cons (.map _ _ eNd_pu) (.cons (.map _ _ eSet_pu) (.cons (.map _ _ ePair_pu) (.cons (.map _ _ eStep_pu) (.cons (.lit _) (.cons (.lit _) .nil))))))))))))))
theorem Cert.pu (c : Cert) : Pu (.agg c.cs) := .agg _ (pus_get c.cs_pu)
def okI (x : Int) : Prop := -9223372036854775808 ≤ x ∧ x ≤ 9223372036854775807
def okS (x : Int) : Prop := 0 ≤ x ∧ x ≤ 4294967295
def okPt (x : Int × Int) : Prop := okI x.1 ∧ okI x.2
/-- How many parts. -/
def Cert.parts (c : Cert) : Nat := c.deleted.length + c.cells.length + c.sets.length + c.pairs.length + (c.rproof.map fun n => 1 + n.shares.length).sum + (c.uproof.map fun n => 1 + n.shares.length).sum + (c.cores.map fun l => 1 + l.length).sum + (c.steps.map fun s => 1 + s.from_.length).sum
end Go.Proofs.F
