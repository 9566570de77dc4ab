/-
  Of the texts that prove drosslaw46.CertificateFormat: for every certificate of bulk at most 1048576 the law returns true, and the argument reads as before. Condition: the listed package-level variables hold what the program lays.
-/
import Derived.Test.YthgkipklofkoaaaGreatDoorR1
open Go Go.Proofs Go.Cam Go.RowKit Go.Proofs.YthgkipklofkoaaaGreatDoor
set_option maxRecDepth 1000000
namespace Go.Proofs.F
section
variable {H : Type} {enc : TypeId × Value → H} {w : World} {base : Nat} {spare : Nat → Bool} {held : Bool}
theorem i64_ok {x : Int} (h : IntKind.i64.min ≤ x ∧ x ≤ IntKind.i64.max) : okI x := by
  have e1 : IntKind.i64.min = -9223372036854775808 := by decide
  have e2 : IntKind.i64.max = 9223372036854775807 := by decide
  rw [e1, e2] at h; exact h
theorem u32_ok {x : Int} (h : IntKind.u32.min ≤ x ∧ x ≤ IntKind.u32.max) : okS x := by
  have e1 : IntKind.u32.min = 0 := by decide
  have e2 : IntKind.u32.max = 4294967295 := by decide
  rw [e1, e2] at h; exact h
theorem sum_ones {X : Type} (xs : List X) : (xs.map fun _ => 1).sum = xs.length := by
  induction xs with
  | nil => rfl
  | cons x xs ih => simp [ih]; omega
theorem rdI {t : TypeId} (ht : P.underlying t = some (.int .i64)) : Rd enc w base spare held t eInt okI (fun _ => 1) := (rd_int ht).map id (fun _ => rfl) (fun _ h => i64_ok h) (fun _ => Nat.le_refl _)
theorem rdU {t : TypeId} (ht : P.underlying t = some (.int .u32)) : Rd enc w base spare held t eSet okS (fun _ => 1) := (rd_int ht).map id (fun _ => rfl) (fun _ h => u32_ok h) (fun _ => Nat.le_refl _)
theorem r2 : Rd enc w base spare held 2 eInt okI (fun _ => 1) := rdI Tryz.underlying2
theorem r3 : Rd enc w base spare held 3 eInt okI (fun _ => 1) := rdI Tryz.underlying3
theorem r39 : Rd enc w base spare held 39 eSet okS (fun _ => 1) := rdU Tryz.underlying39
theorem r9 : Rd enc w base spare held 9 eStr (fun _ => True) (fun _ => 1) := rd_string Tryz.underlying9
theorem r23 : Rd enc w base spare held 23 (fun ys => [.frz 1 (List.map eInt ys)]) (fun ys => ∀ y ∈ ys, okI y) (fun ys => 1 + (ys.map (fun _ => 1)).sum) := rd_slice Tryz.underlying23 (by kernel_rfl) (by decide) (fun _ => rfl) r2
theorem r62 : Rd enc w base spare held 62 (fun ys => [.frz 1 (List.map eInt ys)]) (fun ys => ∀ y ∈ ys, okI y) (fun ys => 1 + (ys.map (fun _ => 1)).sum) := rd_slice Tryz.underlying62 (by kernel_rfl) (by decide) (fun _ => rfl) r3
theorem r35 : Rd enc w base spare held 35 (fun ys => [.frz 1 (List.map eSet ys)]) (fun ys => ∀ y ∈ ys, okS y) (fun ys => 1 + (ys.map (fun _ => 1)).sum) := rd_slice Tryz.underlying35 (by kernel_rfl) (by decide) (fun _ => rfl) r39
theorem r28 : Rd enc w base spare held 28 (fun ys => [.frz 1 (List.map eStr ys)]) (fun ys => ∀ y ∈ ys, (fun _ => True) y) (fun ys => 1 + (ys.map (fun _ => 1)).sum) := rd_slice Tryz.underlying28 (by kernel_rfl) (by decide) (fun _ => rfl) r9
theorem r133 : Rd enc w base spare held 133 ePt okPt (fun _ => 1) :=
  (rd_struct (N := 2) Tryz.underlying133 (by kernel_rfl) (rdS_cons (o2 := 1) r2 rfl (by kernel_rfl) (rdS_cons (o2 := 2) r3 rfl (by kernel_rfl) rdS_nil))).map (fun y => (y.1, y.2.1)) (fun _ => rfl) (fun _ h => ⟨h.1, h.2.1⟩) (fun _ => by omega)
theorem r139 : Rd enc w base spare held 139 ePt okPt (fun _ => 1) :=
  (rd_struct (N := 2) Tryz.underlying139 (by kernel_rfl) (rdS_cons (o2 := 1) r3 rfl (by kernel_rfl) (rdS_cons (o2 := 2) r2 rfl (by kernel_rfl) rdS_nil))).map (fun y => (y.1, y.2.1)) (fun _ => rfl) (fun _ h => ⟨h.1, h.2.1⟩) (fun _ => by omega)
theorem r27 : Rd enc w base spare held 27 (fun ys => [.frz 2 (List.map ePt ys)]) (fun ys => ∀ y ∈ ys, okPt y) (fun ys => 1 + (ys.map (fun _ => 1)).sum) := rd_slice Tryz.underlying27 (by kernel_rfl) (by decide) (fun _ => rfl) r133
theorem r106 : Rd enc w base spare held 106 (fun ys => [.frz 2 (List.map ePt ys)]) (fun ys => ∀ y ∈ ys, okPt y) (fun ys => 1 + (ys.map (fun _ => 1)).sum) := rd_slice Tryz.underlying106 (by kernel_rfl) (by decide) (fun _ => rfl) r139
theorem r108 : Rd enc w base spare held 108 eNd okNd (fun n => 1 + n.shares.length) :=
  (rd_struct (N := 2) Tryz.underlying108 (by kernel_rfl) (rdS_cons (o2 := 1) r3 rfl (by kernel_rfl) (rdS_cons (o2 := 2) r106 rfl (by kernel_rfl) rdS_nil))).map (fun y => (⟨y.1, y.2.1⟩ : Nd)) (fun _ => rfl) (fun _ h => ⟨h.1, h.2.1⟩) (fun y => by simp only [sum_ones]; omega)
theorem r24 : Rd enc w base spare held 24 (fun ys => [.frz 2 (List.map eNd ys)]) (fun ys => ∀ y ∈ ys, okNd y) (fun ys => 1 + (ys.map (fun n => 1 + n.shares.length)).sum) := rd_slice Tryz.underlying24 (by kernel_rfl) (by decide) (fun _ => rfl) r108
theorem r119 : Rd enc w base spare held 119 eVal (fun _ => True) (fun _ => 1) :=
  (rd_struct (N := 3) Tryz.underlying119 (by kernel_rfl) (rdS_cons (o2 := 1) r3 rfl (by kernel_rfl) (rdS_cons (o2 := 2) r2 rfl (by kernel_rfl) (rdS_cons (o2 := 3) r9 rfl (by kernel_rfl) rdS_nil)))).map (fun y => (y.1, y.2.1, y.2.2.1)) (fun _ => rfl) (fun _ _ => trivial) (fun _ => by omega)
theorem r103 : Rd enc w base spare held 103 (fun ys => [.frz 3 (List.map eVal ys)]) (fun ys => ∀ y ∈ ys, (fun _ => True) y) (fun ys => 1 + (ys.map (fun _ => 1)).sum) := rd_slice Tryz.underlying103 (by kernel_rfl) (by decide) (fun _ => rfl) r119
theorem r105 : Rd enc w base spare held 105 eRow (fun _ => True) (fun _ => 1) :=
  (rd_struct (N := 2) Tryz.underlying105 (by kernel_rfl) (rdS_cons (o2 := 1) r2 rfl (by kernel_rfl) (rdS_cons (o2 := 2) r103 rfl (by kernel_rfl) rdS_nil))).map (fun y => (y.1, y.2.1)) (fun _ => rfl) (fun _ _ => trivial) (fun _ => by omega)
theorem r29 : Rd enc w base spare held 29 (fun ys => [.frz 2 (List.map eRow ys)]) (fun ys => ∀ y ∈ ys, (fun _ => True) y) (fun ys => 1 + (ys.map (fun _ => 1)).sum) := rd_slice Tryz.underlying29 (by kernel_rfl) (by decide) (fun _ => rfl) r105
theorem r135 : Rd enc w base spare held 135 ePair (fun x => okS x.1 ∧ okI x.2.1 ∧ okI x.2.2) (fun _ => 1) :=
  (rd_struct (N := 3) Tryz.underlying135 (by kernel_rfl) (rdS_cons (o2 := 1) r39 rfl (by kernel_rfl) (rdS_cons (o2 := 2) r2 rfl (by kernel_rfl) (rdS_cons (o2 := 3) r2 rfl (by kernel_rfl) rdS_nil)))).map (fun y => (y.1, y.2.1, y.2.2.1)) (fun _ => rfl) (fun _ h => ⟨h.1, h.2.1, h.2.2.1⟩) (fun _ => by omega)
theorem r36 : Rd enc w base spare held 36 (fun ys => [.frz 3 (List.map ePair ys)]) (fun ys => ∀ y ∈ ys, (fun x => okS x.1 ∧ okI x.2.1 ∧ okI x.2.2) y) (fun ys => 1 + (ys.map (fun _ => 1)).sum) := rd_slice Tryz.underlying36 (by kernel_rfl) (by decide) (fun _ => rfl) r135
def eFd (x : Int × Int) : List AV := [.lit (.int .u32 x.1), .lit (.int .u32 x.2)]
theorem r41 : Rd enc w base spare held 41 eFd (fun x => okS x.1 ∧ okS x.2) (fun _ => 1) :=
  (rd_struct (N := 2) Tryz.underlying41 (by kernel_rfl) (rdS_cons (o2 := 1) r39 rfl (by kernel_rfl) (rdS_cons (o2 := 2) r39 rfl (by kernel_rfl) rdS_nil))).map (fun y => (y.1, y.2.1)) (fun _ => rfl) (fun _ h => ⟨h.1, h.2.1⟩) (fun _ => by omega)
theorem r110 : Rd enc w base spare held 110 eStep okStp (fun s => 1 + s.from_.length) :=
  (rd_struct (N := 4) Tryz.underlying110 (by kernel_rfl) (rdS_cons (o2 := 1) r3 rfl (by kernel_rfl) (rdS_cons (o2 := 2) r62 rfl (by kernel_rfl) (rdS_cons (o2 := 4) r41 rfl (by kernel_rfl) rdS_nil)))).map (fun y => (⟨y.1, y.2.1, y.2.2.1.1, y.2.2.1.2⟩ : Stp)) (fun _ => rfl) (fun _ h => ⟨h.1, h.2.2.1.1, h.2.2.1.2, h.2.1⟩) (fun y => by simp only [sum_ones]; omega)
theorem r37 : Rd enc w base spare held 37 (fun ys => [.frz 4 (List.map eStep ys)]) (fun ys => ∀ y ∈ ys, okStp y) (fun ys => 1 + (ys.map (fun s => 1 + s.from_.length)).sum) := rd_slice Tryz.underlying37 (by kernel_rfl) (by decide) (fun _ => rfl) r110
theorem r27c : Rd enc w base spare held 27 eCore (fun l => ∀ y ∈ l, okPt y) (fun l => 1 + l.length) :=
  r27.map id (fun _ => rfl) (fun _ h => h) (fun y => by simp only [sum_ones, id]; omega)
theorem r32 : Rd enc w base spare held 32 (fun ys => [.frz 1 (List.map eCore ys)]) (fun ys => ∀ y ∈ ys, (fun l => ∀ y ∈ l, okPt y) y) (fun ys => 1 + (ys.map (fun l => 1 + l.length)).sum) := rd_slice Tryz.underlying32 (by kernel_rfl) (by decide) (fun _ => rfl) r27c
theorem r43 : Rd enc w base spare held 43 Cert.cs Cert.Rng Cert.parts :=
  (rd_struct (N := 15) Tryz.underlying43 (by kernel_rfl) (rdS_cons (o2 := 1) r3 rfl (by kernel_rfl) (rdS_cons (o2 := 4) (rd_struct (N := 3) Tryz.underlying26 (by kernel_rfl) (rdS_cons (o2 := 1) r23 rfl (by kernel_rfl) (rdS_cons (o2 := 2) r2 rfl (by kernel_rfl) (rdS_cons (o2 := 3) r24 rfl (by kernel_rfl) rdS_nil)))) rfl (by kernel_rfl) (rdS_cons (o2 := 10) (rd_struct (N := 6) Tryz.underlying34 (by kernel_rfl) (rdS_cons (o2 := 1) r27 rfl (by kernel_rfl) (rdS_cons (o2 := 4) (rd_struct (N := 3) Tryz.underlying31 (by kernel_rfl) (rdS_cons (o2 := 1) r9 rfl (by kernel_rfl) (rdS_cons (o2 := 2) r28 rfl (by kernel_rfl) (rdS_cons (o2 := 3) r29 rfl (by kernel_rfl) rdS_nil)))) rfl (by kernel_rfl) (rdS_cons (o2 := 5) r32 rfl (by kernel_rfl) (rdS_cons (o2 := 6) r24 rfl (by kernel_rfl) rdS_nil))))) rfl (by kernel_rfl) (rdS_cons (o2 := 11) r35 rfl (by kernel_rfl) (rdS_cons (o2 := 12) r36 rfl (by kernel_rfl) (rdS_cons (o2 := 13) r37 rfl (by kernel_rfl) (rdS_cons (o2 := 15) r41 rfl (by kernel_rfl) rdS_nil)))))))).map (fun y => (⟨y.1, y.2.1.1, y.2.1.2.1, y.2.1.2.2.1, y.2.2.1.1, y.2.2.1.2.1.1, y.2.2.1.2.1.2.1, y.2.2.1.2.1.2.2.1, y.2.2.1.2.2.1, y.2.2.1.2.2.2.1, y.2.2.2.1, y.2.2.2.2.1, y.2.2.2.2.2.1, y.2.2.2.2.2.2.1.1, y.2.2.2.2.2.2.1.2⟩ : Cert)) (fun _ => rfl) (fun _ h => ⟨h.2.1.2.1, h.2.1.1, h.2.1.2.2.1, h.2.2.1.1, h.2.2.1.2.2.1, h.2.2.1.2.2.2.1, h.2.2.2.1, h.2.2.2.2.1, h.2.2.2.2.2.1, h.2.2.2.2.2.2.1.1, h.2.2.2.2.2.2.1.2⟩) (fun y => by simp only [Cert.parts, sum_ones]; omega)
end
/-- An argument that is read as a certificate is one of ours. -/
theorem cert_of {H : Type} {enc : TypeId × Value → H} {w : World} {base : Nat} {spare : Nat → Bool} {held : Bool} {cs : Array Value} {d : DataW H} {p : List MemPlace} (h : DataW.Trod enc P w base spare held 43 (.agg cs) d p) : ∃ c : Cert, VR (μF w) (.agg c.cs) (.agg cs) ∧ c.Rng ∧ c.parts ≤ Rows.uptoBulk d := by
  obtain ⟨fuel, h⟩ := h
  obtain ⟨c, h1, h2, h3⟩ := r43 fuel _ _ h
  refine ⟨c, .agg _ cs (by simpa [Value.cells] using h1.1) fun i k1 k2 => ?_, h2, h3⟩
  exact (h1.2 i _ _ (List.getElem?_eq_getElem k1) (by simp [Value.cells])).1
end Go.Proofs.F
