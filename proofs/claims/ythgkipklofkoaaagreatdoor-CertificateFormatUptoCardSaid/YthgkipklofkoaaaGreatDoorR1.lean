/-
  Of the texts that prove drosslaw46.CertificateFormat: for every certificate of bulk at most 1048576 the law returns true, and the argument reads as before. Condition: the listed package-level variables hold what the program lays.
-/
import Derived.Test.YthgkipklofkoaaaGreatDoorC15
import Derived.Test.YthgkipklofkoaaaGreatDoorRows
import Derived.Deep.Slices
import Derived.ChangeArms
import Derived.DataReads
open Go Go.Proofs Go.Cam Go.RowKit Go.Proofs.YthgkipklofkoaaaGreatDoor
set_option maxRecDepth 1000000
namespace Go.Proofs.F
/-! ## From the row's readings to values of ours -/
def PW (w : World) (l : List AV) (cs : List Value) : Prop := l.length = cs.length ∧ ∀ (i : Nat) (v : AV) (u : Value), l[i]? = some v → cs[i]? = some u → VR (μF w) v u ∧ v.flat = true
theorem PW.nil {w : World} : PW w [] [] := ⟨rfl, fun i v u h => by simp at h⟩
theorem PW.append {w : World} {l m : List AV} {cs ds : List Value} (h : PW w l cs) (k : PW w m ds) : PW w (l ++ m) (cs ++ ds) := by
  refine ⟨by simp [h.1, k.1], fun i v u hv hu => ?_⟩
  by_cases hi : i < l.length
  · rw [List.getElem?_append_left hi] at hv
    rw [List.getElem?_append_left (by rw [← h.1]; exact hi)] at hu
    exact h.2 i v u hv hu
  · rw [List.getElem?_append_right (by omega)] at hv
    rw [List.getElem?_append_right (by rw [← h.1]; omega), ← h.1] at hu
    exact k.2 _ v u hv hu
theorem PW.one {w : World} {v : AV} {u : Value} (h : VR (μF w) v u) (hf : v.flat = true) : PW w [v] [u] := by
  refine ⟨rfl, fun i x y hx hy => ?_⟩
  cases i with
  | zero => simp at hx hy; subst hx; subst hy; exact ⟨h, hf⟩
  | succ i => simp at hx
theorem cell_at {w : World} {a : Addr} {v : Value} (h : w.cell? a = some v) : a.spot = none ∧ ∃ arr t fz, w.heap[a.block]? = some (.cells arr t fz) ∧ arr[a.off]? = some v := by
  unfold World.cell? at h
  split at h
  · rename_i arr t fz e
    split at h
    · cases h
    · rename_i hs
      exact ⟨by simpa using hs, arr, t, fz, e, h⟩
  · cases h
section
variable {H : Type} (enc : TypeId × Value → H) (w : World) (base : Nat) (spare : Nat → Bool) (held : Bool)
/-- What is read at this type is one of ours. -/
def Rd (t : TypeId) {X : Type} (e : X → List AV) (ok : X → Prop) (sz : X → Nat) : Prop :=
  ∀ fuel cs x, DataW.trod enc P w base spare held fuel t cs = some x → ∃ y, PW w (e y) cs ∧ ok y ∧ sz y ≤ Rows.uptoBulk x.1
variable {enc w base spare held}
theorem Rd.map {t : TypeId} {X Y : Type} {e : X → List AV} {e' : Y → List AV} {ok : X → Prop} {ok' : Y → Prop} {sz : X → Nat} {sz' : Y → Nat} (h : Rd enc w base spare held t e ok sz) (φ : X → Y) (he : ∀ x, e' (φ x) = e x) (ho : ∀ x, ok x → ok' (φ x)) (hs : ∀ x, sz' (φ x) ≤ sz x) : Rd enc w base spare held t e' ok' sz' := by
  intro fuel cs x hx
  obtain ⟨y, h1, h2, h3⟩ := h fuel cs x hx
  exact ⟨φ y, by rw [he]; exact h1, ho y h2, Nat.le_trans (hs y) h3⟩
theorem rd_int {t : TypeId} {k : IntKind} (ht : P.underlying t = some (.int k)) : Rd enc w base spare held t (fun x : Int => [.lit (.int k x)]) (fun x => k.min ≤ x ∧ x ≤ k.max) (fun _ => 1) := by
  intro fuel cs x hx
  obtain ⟨n, rfl, rfl, hw⟩ := DataW.trod_int ht hx
  refine ⟨n, .one (.lit _) rfl, by simpa [Lit.wf] using hw, by simp [Rows.uptoBulk]⟩
theorem rd_string {t : TypeId} (ht : P.underlying t = some .string) : Rd enc w base spare held t eStr (fun _ => True) (fun _ => 1) := by
  intro fuel cs x hx
  obtain ⟨s, rfl, rfl, hw⟩ := DataW.trod_string ht hx
  have e : bs s.data.toList = s := by simp [bs]
  refine ⟨s.data.toList, ?_, trivial, by simp [Rows.uptoBulk]⟩
  unfold eStr
  rw [e]
  exact .one (.lit _) rfl
theorem bulkAll_sum (l : List (DataW H)) : Rows.uptoBulkAll l = (l.map Rows.uptoBulk).sum := by
  induction l with
  | nil => simp [Rows.uptoBulkAll]
  | cons x r ih => simp [Rows.uptoBulkAll, ih]
theorem rd_slice {t el : TypeId} {n : Nat} (ht : P.underlying t = some (.slice el)) (hC : P.cellsOf el = n) (hn : 0 < n) {X : Type} {e : X → List AV} {ok : X → Prop} {sz : X → Nat} (hlen : ∀ y, (e y).length = n) (h : Rd enc w base spare held el e ok sz) :
    Rd enc w base spare held t (fun ys : List X => [.frz n (List.map e ys)]) (fun ys => ∀ y ∈ ys, ok y) (fun ys => 1 + (ys.map sz).sum) := by
  intro fuel cs x hx
  rcases Go.Deep.open_slice ht hx with ⟨rfl, rfl⟩ | ⟨a, len, cap, m, n2, D, Pl, rfl, hb, hl, hm, hmm, rfl, hi⟩
  · exact ⟨[], .one (.frzN n) rfl, by simp, by simp [Rows.uptoBulk]⟩
  · rw [hC] at hi
    have hlm : len ≤ m := by rw [hmm]; split <;> omega
    have hch : ∀ i : Fin len, ∃ y : X, ∃ cs', w.cells? base (a.add (i.1 * n)) n = some cs' ∧ PW w (e y) cs' ∧ ok y ∧ sz y ≤ Rows.uptoBulk (D i.1) := by
      intro i
      obtain ⟨cs', h1, h2⟩ := hi i.1 (by have := i.2; omega)
      obtain ⟨y, k1, k2, k3⟩ := h n2 cs' _ h2
      exact ⟨y, cs', h1, k1, k2, k3⟩
    let ys : List X := List.ofFn fun i => (hch i).choose
    have hyl : ys.length = len := by simp [ys]
    have hy : ∀ i (h : i < ys.length), ys[i] = (hch ⟨i, by omega⟩).choose := fun i h => by simp [ys]
    refine ⟨ys, ?_, ?_, ?_⟩
    · refine .one ?_ rfl
      by_cases h0 : len = 0
      · subst h0
        have : ys = [] := List.length_eq_zero_iff.1 hyl
        rw [this]; exact .frzE n a cap
      · have key : ∀ i (_ : i < len) (j : Nat) (v : AV) (hv : (e (hch ⟨i, by omega⟩).choose)[j]? = some v), ∃ u, w.cell? ((a.add (i * n)).add j) = some u ∧ VR (μF w) v u ∧ v.flat = true := by
          intro i hi' j v hv
          obtain ⟨cs', h1, h2, _⟩ := (hch ⟨i, hi'⟩).choose_spec
          obtain ⟨_, q1, q2⟩ := World.cells?_some h1
          have hj : j < n := by have := at_lt hv; rw [hlen] at this; exact this
          have hu : cs'[j]? = some (cs'[j]'(by omega)) := List.getElem?_eq_getElem (by omega)
          refine ⟨cs'[j]'(by omega), by rw [q2 j hj, hu], ?_⟩
          exact h2.2 j v _ hv hu
        have h00 : 0 < len := by omega
        obtain ⟨v0, hv0⟩ : ∃ v, (e (hch ⟨0, h00⟩).choose)[0]? = some v := ⟨_, List.getElem?_eq_getElem (by rw [hlen]; exact hn)⟩
        obtain ⟨u0, hu0, _⟩ := key 0 h00 0 v0 hv0
        have ha0 : (a.add (0 * n)).add 0 = a := by simp [Addr.add]
        rw [ha0] at hu0
        obtain ⟨hsp, arr, ty, fz, harr, _⟩ := cell_at hu0
        have hadd : ∀ i j, (a.add (i * n)).add j = ⟨a.block, a.off + i * n + j, none⟩ := by
          intro i j
          obtain ⟨b, o, s⟩ := a
          simp only at hsp
          subst hsp
          rw [add_addr, add_addr]
        have hfz : (μF w).fz a.block = some arr.toList := by simp only [μF, harr]
        have hat : ∀ i (_ : i < len) (j : Nat) (v : AV) (hv : (e (hch ⟨i, by omega⟩).choose)[j]? = some v), ∃ u, arr.toList[a.off + i * n + j]? = some u ∧ VR (μF w) v u ∧ v.flat = true := by
          intro i hi' j v hv
          obtain ⟨u, k1, k2, k3⟩ := key i hi' j v hv
          rw [hadd] at k1
          obtain ⟨_, arr2, _, _, e2, e3⟩ := cell_at k1
          simp only at e2 e3
          rw [harr] at e2
          cases e2
          exact ⟨u, by rw [Array.getElem?_toList]; exact e3, k2, k3⟩
        have hel : ∀ i (h : i < (List.map e ys).length), (List.map e ys)[i] = e (hch ⟨i, by simpa [hyl] using h⟩).choose := fun i h => by
          rw [List.getElem_map, hy i (by simpa using h)]
        have huse : ∀ i j, ∃ u : Value, ∀ (h : i < (List.map e ys).length) (h' : j < (List.map e ys)[i].length), arr.toList[a.off + i * n + j]? = some u ∧ VR (μF w) (List.map e ys)[i][j] u ∧ (List.map e ys)[i][j].flat = true := by
          intro i j
          by_cases hij : ∃ (h : i < (List.map e ys).length), j < (List.map e ys)[i].length
          · obtain ⟨h1, h2⟩ := hij
            have hil : i < len := by simpa [hyl] using h1
            have hv : (e (hch ⟨i, hil⟩).choose)[j]? = some (List.map e ys)[i][j] := by
              rw [← hel i h1]; exact List.getElem?_eq_getElem h2
            obtain ⟨u, k1, k2, k3⟩ := hat i hil j _ hv
            exact ⟨u, fun _ _ => ⟨k1, k2, k3⟩⟩
          · exact ⟨default, fun h1 h2 => absurd ⟨h1, h2⟩ hij⟩
        have hla : (List.map e ys).length = len := by simp [hyl]
        have hval := VR.frz (μ := μF w) n (List.map e ys) a.block a.off cap arr.toList (fun i j => (huse i j).choose) hfz (by omega) (fun i h => by rw [hel i h]; exact hlen _)
          (fun i h j h' => ⟨((huse i j).choose_spec h h').1, ((huse i j).choose_spec h h').2.2⟩) (fun i h j h' => ((huse i j).choose_spec h h').2.1)
        rw [hla] at hval
        have : (⟨a.block, a.off, none⟩ : Addr) = a := by obtain ⟨b, o, s⟩ := a; simp only at hsp; rw [hsp]
        rw [this] at hval
        exact hval
    · intro y hy'
      obtain ⟨i, hi', rfl⟩ := List.getElem_of_mem hy'
      rw [hy i hi']
      obtain ⟨_, _, _, h3, _⟩ := (hch ⟨i, by omega⟩).choose_spec
      exact h3
    · simp only [Rows.uptoBulk]
      rw [bulkAll_sum]
      have : (ys.map sz).sum ≤ (((List.range len).map D).map Rows.uptoBulk).sum := by
        have e1 : ys = (List.ofFn fun i : Fin len => (hch i).choose) := rfl
        have e2 : (List.range len).map D = List.ofFn fun i : Fin len => D i.1 := by
          apply List.ext_getElem
          · simp
          · intro i h1 h2; simp
        rw [e1, e2]
        have : ∀ (N : Nat) (f g : Fin N → Nat), (∀ i, f i ≤ g i) → (List.ofFn f).sum ≤ (List.ofFn g).sum := by
          intro N
          induction N with
          | zero => intro f g _; simp
          | succ N ih =>
            intro f g h
            rw [List.ofFn_succ, List.ofFn_succ, List.sum_cons, List.sum_cons]
            have := ih (fun i => f i.succ) (fun i => g i.succ) fun i => h i.succ
            have := h 0
            omega
        rw [List.map_ofFn, List.map_ofFn]
        refine this len _ _ fun i => ?_
        obtain ⟨_, _, _, _, h4⟩ := (hch i).choose_spec
        exact h4
      omega
/-! ## Structs, field by field -/
def RdS (fs : List Field) (o N : Nat) {X : Type} (e : X → List AV) (ok : X → Prop) (sz : X → Nat) : Prop :=
  ∀ (n : Nat) (cs : List Value) (xs : List (DataW H × List MemPlace)), cs.length = N → xs.length = fs.length → (∀ (j : Nat) (f : Field), fs[j]? = some f → DataW.trod enc P w base spare held n f.type ((cs.drop f.offset).take (P.cellsOf f.type)) = xs[j]?) →
    ∃ y, PW w (e y) (cs.drop o) ∧ ok y ∧ sz y ≤ Rows.uptoBulkAll (xs.map (·.1))
theorem rdS_nil {N : Nat} : RdS (enc := enc) (w := w) (base := base) (spare := spare) (held := held) [] N N (fun _ : Unit => []) (fun _ => True) (fun _ => 0) := by
  intro n cs xs h1 h2 _
  refine ⟨(), ?_, trivial, Nat.zero_le _⟩
  rw [List.drop_of_length_le (by omega)]
  exact .nil
theorem rdS_cons {f : Field} {r : List Field} {o o2 N : Nat} {X Y : Type} {e1 : X → List AV} {ok1 : X → Prop} {sz1 : X → Nat} {e2 : Y → List AV} {ok2 : Y → Prop} {sz2 : Y → Nat} (hf : Rd enc w base spare held f.type e1 ok1 sz1) (ho : f.offset = o) (h2 : o + P.cellsOf f.type = o2)
    (hr : RdS (enc := enc) (w := w) (base := base) (spare := spare) (held := held) r o2 N e2 ok2 sz2) : RdS (enc := enc) (w := w) (base := base) (spare := spare) (held := held) (f :: r) o N (fun y : X × Y => e1 y.1 ++ e2 y.2) (fun y => ok1 y.1 ∧ ok2 y.2) (fun y => sz1 y.1 + sz2 y.2) := by
  intro n cs xs hN hl hx
  match xs, hl with
  | x :: xs, hl =>
    have h0 := hx 0 f rfl
    simp only [List.getElem?_cons_zero] at h0
    obtain ⟨y1, a1, a2, a3⟩ := hf n _ x h0
    obtain ⟨y2, b1, b2, b3⟩ := hr n cs xs hN (by simpa using hl) fun j g hg => by have := hx (j + 1) g (by simpa using hg); simpa using this
    refine ⟨(y1, y2), ?_, ⟨a2, b2⟩, ?_⟩
    · rw [ho] at a1
      have : cs.drop o = (cs.drop o).take (P.cellsOf f.type) ++ cs.drop o2 := by
        rw [← h2, ← List.drop_drop, List.take_append_drop]
      rw [this]
      exact a1.append b1
    · simp only [List.map_cons, Rows.uptoBulkAll]
      omega
theorem rd_struct {t : TypeId} {fs : Array Field} {N : Nat} (ht : P.underlying t = some (.struct fs)) (hN : P.cellsOf t = N) {X : Type} {e : X → List AV} {ok : X → Prop} {sz : X → Nat} (h : RdS (enc := enc) (w := w) (base := base) (spare := spare) (held := held) fs.toList 0 N e ok sz) : Rd enc w base spare held t e ok (fun y => 1 + sz y) := by
  intro fuel cs x hx
  obtain ⟨xs, n, _, rfl, hl, hlen, hf⟩ := DataW.trod_struct ht hx
  obtain ⟨y, h1, h2, h3⟩ := h n cs xs (by rw [hl, hN]) (by simpa using hlen) fun j f hj => hf j f (by simpa using hj)
  refine ⟨y, by simpa using h1, h2, ?_⟩
  simp only [Rows.uptoBulk]
  omega
end
end Go.Proofs.F
