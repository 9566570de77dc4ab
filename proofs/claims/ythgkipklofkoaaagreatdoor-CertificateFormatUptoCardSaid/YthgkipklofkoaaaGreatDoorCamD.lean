/-
  An abstract machine over the model, proved sound: part D. For whatever program.
-/
import Derived.Test.YthgkipklofkoaaaGreatDoorCamC
namespace Go.Cam
open Go Go.RowKit

theorem tied_dst {P : Program} {all : List Oper} {a b : Oper} {t : Tmp} (hd : a.dst = some t) (h : t ∈ looksT all b) : tied P all a b = true := by
  unfold tied dstIn
  rw [hd]
  simp [memN_iff.2 h]
theorem tied_dst' {P : Program} {all : List Oper} {a b : Oper} {t : Tmp} (hd : b.dst = some t) (h : t ∈ looksT all a) : tied P all a b = true := by
  unfold tied
  have : dstIn b (looksT all a) = true := by unfold dstIn; rw [hd]; exact memN_iff.2 h
  simp [this]
theorem tied_hard {P : Program} {all : List Oper} {a b : Oper} (h1 : isHard P a = true) (h2 : isHard P b = true) : tied P all a b = true := by
  unfold tied; simp [h1, h2]
theorem clash_of {a b : Oper} {t : Tmp} (h1 : a.dst = some t) (h2 : b.dst = some t) : dstClash a b = true := by
  unfold dstClash; rw [h1, h2]; exact Nat.beq_refl t

/-- What is fixed while a region is run in whatever order. -/
structure Reg (P : Program) (nt : Nat) (ops : Array Oper) (fr0 : T AV) (H0 : Hp) (ms : List Nat) (l : List Rc) (fr' : T AV) (M' : Hp) (pend : List (Nat × AObj)) : Prop where
  masks : Masks ops.toList ms
  pairs : ∀ (i j : Nat) (a b : Oper), i < j → ops[i]? = some a → ops[j]? = some b → dstClash a b = false ∧ (tied P ops.toList a b = true → (maskAt ms j).testBit i = true)
  map : l.map (·.o) = ops.toList
  rcs : ∀ (i : Nat) (rc : Rc), l[i]? = some rc → RcOk P nt ops.toList H0.gl H0.next i rc ∧ ∀ t v, rc.fr.get t = some v → t ∈ looksT ops.toList rc.o ∧ Src fr0 (l.take i) t v
  fin : ∀ t v, fr'.get t = some v → Src fr0 l t v
  heaps : ∀ (i : Nat) (rc : Rc), l[i]? = some rc → ({ H0 with next := H0.next + ops.size } :: hardHs P l)[cnt (hardAt P ops.toList) i]? = some rc.M ∧ (isHard P rc.o = true → ({ H0 with next := H0.next + ops.size } :: hardHs P l)[cnt (hardAt P ops.toList) i + 1]? = some rc.M')
  last : ({ H0 with next := H0.next + ops.size } :: hardHs P l)[cnt (hardAt P ops.toList) ops.size]? = some M'
  small : ∀ M ∈ ({ H0 with next := H0.next + ops.size } :: hardHs P l), M.next ≤ bigId
  pend : PendOk P l pend
  xs : ∀ (i : Nat) (rc : Rc), l[i]? = some rc → (rc.X.map (·.1)).Nodup ∧ ∀ x ∈ rc.X, IsP P l x ∧ x.1 ∉ mergedK P l (cnt (hardAt P ops.toList) i) ∧ (maskAt ms i).testBit x.1 = true
  str : H0.str = 1
  soft : ∀ (i : Nat) (rc : Rc), l[i]? = some rc → softOp P rc.o.op = true → rc.want = true →
    kMin P ops.toList ms i = kMax P ops.toList ms i ∨ ∀ (k : Nat) (M : Hp), kMin P ops.toList ms i ≤ k → k ≤ kMax P ops.toList ms i → ({ H0 with next := H0.next + ops.size } :: hardHs P l)[k]? = some M → SoftS P rc.fr M rc.o rc.v

theorem drawA_reg {P : Program} {call : CallF} (hcall : CallOk P call) {nt : Nat} {ops : Array Oper} {fr fr' : T AV} {H H' : Hp} (h : drawA P call nt ops fr H = some (fr', H')) : ∃ ms l M' pend, Reg P nt ops fr H ms l fr' M' pend ∧ H' = addF H.next M' pend := by
  unfold drawA at h
  split at h
  · cases h
  rename_i hstr
  split at h
  · cases h
  rename_i ms hms
  split at h
  · cases h
  rename_i hpo
  rw [lenL_eq, Array.length_toList] at h
  split at h
  · cases h
  rename_i l fr1 M1 pend hp1
  split at h
  case h_2 => cases h
  rename_i hc
  cases h
  simp only [Bool.and_eq_true] at hc
  have hM : Masks ops.toList ms := by
    have := masksL_ok ops.toList [] [] ms ⟨rfl, fun i m j h => by simp at h, fun i m o j h => by simp at h, fun i m o e h => by simp at h⟩ hms
    simpa using this
  obtain ⟨p1, p2, p3, p4, p5⟩ := pass1_ok hcall hp1
  obtain ⟨p6, p7⟩ := p5 [] rfl ⟨fun x hx => by simp at hx, fun j hj => by simp [merged, hardXs] at hj, by simp⟩
  have hall : ∀ rc ∈ l, isHard P rc.o = false → rc.M' = rc.M := by
    intro rc hrc
    obtain ⟨i, hi, rfl⟩ := List.getElem_of_mem hrc
    exact fun h => ((p3 i _ (List.getElem?_eq_getElem hi)).1.keep (.inl h)).1
  obtain ⟨q1, q2⟩ := heaps_ok p2 hall
  rw [p1] at q1 q2
  have hlen : l.length = ops.size := by rw [← Array.length_toList, ← p1]; simp
  rw [hlen] at q2
  have hpairs : ∀ (i j : Nat) (a b : Oper), i < j → ops[i]? = some a → ops[j]? = some b → dstClash a b = false ∧ (tied P ops.toList a b = true → (maskAt ms j).testBit i = true) := by
    intro i j a b hij ha hb
    rw [← Array.getElem?_toList] at ha hb
    have hj := (List.getElem?_eq_some_iff.1 hb).1
    have hmj : j < ms.length := by rw [hM.len]; exact hj
    have := pairsOk_ok (pre := []) rfl hpo i j a b ms[j] hij (Nat.zero_le _) (by simpa using ha) (by simpa using hb) (by simp [hmj])
    refine ⟨this.1, fun ht => ?_⟩
    unfold maskAt
    rw [getL_eq, List.getElem?_eq_getElem hmj]
    exact this.2 ht
  refine ⟨ms, l, M1, pend, ⟨hM, hpairs, p1, fun i rc hi => ?_, p4, q1, q2, small_ok hc.1, by simpa using p6, fun i rc hi => ?_, Nat.eq_of_beq_eq_true hstr, fun i rc hi h1 h2 => ?_⟩, rfl⟩
  · have := p3 i rc hi; rwa [Nat.zero_add] at this
  · have hil := (List.getElem?_eq_some_iff.1 hi).1
    obtain ⟨n1, n2⟩ := p7 i rc hi
    refine ⟨n1, fun x hx => ?_⟩
    obtain ⟨n3, n4, n5⟩ := n2 x hx
    simp only [List.nil_append] at n3 n4
    rw [merged_take (by omega), p1] at n4
    rw [Nat.zero_add] at n5
    refine ⟨?_, n4, n5⟩
    have := n3.append (m := l.drop i)
    rwa [List.take_append_drop] at this
  · have := checkSoft_ok hc.2 i rc hi h1 h2
    rwa [Nat.zero_add] at this

/-! ## New blocks beside a heap -/
/-- What is known of a new block that our heap does not hold. -/
structure Pen (μ : Mu) (M : Hp) (w0 w : World) (r : Nat) (obj : AObj) : Prop where
  dom : μ.dom r
  here : OR μ obj r (w.heap[μ.blk r]?)
  grp : ∀ cs g, obj = .cells cs g → g = r
  new : w0.heap.size ≤ μ.blk r
  far : ∀ b o, M.blk.get b = some o → μ.blk b ≠ μ.blk r
  none : ∀ b cs, M.blk.get b ≠ some (.cells cs r)
  nofz : ∀ k vs, μ.fz k = some vs → k ≠ μ.blk r
theorem OR.lt {μ : Mu} {o : AObj} {b k : Nat} {w : World} (h : OR μ o b (w.heap[k]?)) : k < w.heap.size := by
  rcases Nat.lt_or_ge k w.heap.size with h1 | h1
  · exact h1
  · exfalso
    rw [Array.getElem?_eq_none h1] at h
    cases o with
    | cells cs g => obtain ⟨_, _, e, _⟩ := h; cases e
    | map es => obtain ⟨_, _, e, _⟩ := h; cases e
    | iter s pos => cases h
theorem grpOk_ok {r : Nat} {obj : AObj} (h : grpOk r obj = true) : ∀ cs g, obj = .cells cs g → g = r := by
  rintro cs g rfl
  exact Nat.eq_of_beq_eq_true h
theorem addB_get {r : Nat} {obj : AObj} {M : Hp} {b : Nat} {o : AObj} (h : (addB r obj M).blk.get b = some o) : (b = r ∧ o = obj) ∨ (b ≠ r ∧ M.blk.get b = some o) := T.get_set _ _ _ _ _ _ h
theorem addB_hr {μ : Mu} {M : Hp} {w0 w : World} {r : Nat} {obj : AObj} (hr : HR μ M w) (p : Pen μ M w0 w r obj) (hg : ∀ g cs, M.gl g = some cs → g < w0.heap.size) : HR μ (addB r obj M) w := by
  refine ⟨hr.str, hr.next, ?_, ?_, ?_, ?_, ?_, ?_⟩
  · intro b o h
    rcases addB_get h with ⟨rfl, _⟩ | ⟨_, h⟩
    · exact p.dom
    · exact hr.dom b o h
  · intro b o h
    rcases addB_get h with ⟨rfl, rfl⟩ | ⟨_, h⟩
    · exact p.here
    · exact hr.obj b o h
  · intro b c o o' h1 h2 hne
    rcases addB_get h1 with ⟨e1, _⟩ | ⟨g1, k1⟩ <;> rcases addB_get h2 with ⟨e2, _⟩ | ⟨g2, k2⟩
    · exact absurd (e1.trans e2.symm) hne
    · exact .inr (by rw [e1]; exact (p.far c o' k2).symm)
    · exact .inr (by rw [e2]; exact p.far b o k1)
    · exact hr.apart b c o o' k1 k2 hne
  · intro b cs g h
    rcases addB_get h with ⟨rfl, e⟩ | ⟨_, hb⟩
    · have := p.grp cs g e.symm
      subst this
      refine ⟨p.dom, fun l hl => ?_⟩
      rcases T.get_set _ _ _ _ _ _ hl with ⟨_, h2⟩ | ⟨h1, _⟩
      · rw [h2]; simp
      · exact absurd rfl h1
    · obtain ⟨k1, k2⟩ := hr.grp b cs g hb
      refine ⟨k1, fun l hl => ?_⟩
      rcases T.get_set _ _ _ _ _ _ hl with ⟨h1, _⟩ | ⟨_, h2⟩
      · subst h1; exact absurd hb (p.none b cs)
      · exact k2 l h2
  · intro g cs h
    obtain ⟨k1, k2⟩ := hr.glob g cs h
    refine ⟨k1, fun b o hb => ?_⟩
    rcases addB_get hb with ⟨rfl, _⟩ | ⟨_, hb⟩
    · have := hg g cs h; have := p.new; omega
    · exact k2 b o hb
  · intro k vs h
    obtain ⟨k1, k2⟩ := hr.frozen k vs h
    refine ⟨k1, fun b o hb => ?_⟩
    rcases addB_get hb with ⟨rfl, _⟩ | ⟨_, hb⟩
    · exact (p.nofz k vs h).symm
    · exact k2 b o hb
theorem addF_get {base : Nat} : ∀ {X : List (Nat × AObj)} {M : Hp} {b : Nat} {o : AObj}, (addF base M X).blk.get b = some o → (∃ x ∈ X, b = base + x.1 ∧ o = x.2) ∨ M.blk.get b = some o
  | [], M, b, o, h => .inr h
  | (i, x) :: r, M, b, o, h => by
    rcases addF_get (X := r) h with ⟨y, hy, e⟩ | h
    · exact .inl ⟨y, List.mem_cons_of_mem _ hy, e⟩
    · rcases addB_get h with ⟨h1, h2⟩ | ⟨_, h⟩
      · exact .inl ⟨(i, x), by simp, h1, h2⟩
      · exact .inr h
theorem addF_same {base : Nat} : ∀ {X : List (Nat × AObj)} {M : Hp}, (addF base M X).next = M.next ∧ (addF base M X).str = M.str ∧ (addF base M X).gl = M.gl
  | [], _ => ⟨rfl, rfl, rfl⟩
  | (i, x) :: r, M => addF_same (X := r) (M := addB (base + i) x M)
theorem addF_hr {μ : Mu} {w0 w : World} {base : Nat} : ∀ {X : List (Nat × AObj)} {M : Hp}, HR μ M w → (X.map (·.1)).Nodup → (∀ x ∈ X, Pen μ M w0 w (base + x.1) x.2) → (∀ x ∈ X, ∀ y ∈ X, x.1 ≠ y.1 → μ.blk (base + x.1) ≠ μ.blk (base + y.1)) → (∀ g cs, M.gl g = some cs → g < w0.heap.size) → HR μ (addF base M X) w
  | [], M, hr, _, _, _, _ => hr
  | (i, o) :: r, M, hr, hn, hp, ha, hg => by
    simp only [List.map_cons, List.nodup_cons] at hn
    refine addF_hr (X := r) (addB_hr hr (hp (i, o) (by simp)) hg) hn.2 (fun x hx => ?_) (fun x hx y hy => ha x (List.mem_cons_of_mem _ hx) y (List.mem_cons_of_mem _ hy)) hg
    have p := hp x (List.mem_cons_of_mem _ hx)
    have hne : i ≠ x.1 := fun e => hn.1 (List.mem_map.2 ⟨x, hx, e.symm⟩)
    refine ⟨p.dom, p.here, p.grp, p.new, fun b o' h => ?_, fun b cs h => ?_, p.nofz⟩
    · rcases addB_get h with ⟨rfl, _⟩ | ⟨_, h⟩
      · exact ha (i, o) (by simp) x (List.mem_cons_of_mem _ hx) hne
      · exact p.far b o' h
    · rcases addB_get h with ⟨_, e⟩ | ⟨_, h⟩
      · have := (hp (i, o) (by simp)).grp cs _ e.symm; simp only at this; omega
      · exact p.none b cs h

/-- What has become of the world since the region's begin. -/
structure Since (μ0 : Mu) (H0 : Hp) (w0 : World) (μ : Mu) (M : Hp) (w : World) : Prop where
  le : μ0.le μ
  img : ∀ b o, M.blk.get b = some o → (∃ c o', H0.blk.get c = some o' ∧ μ0.blk c = μ.blk b) ∨ w0.heap.size ≤ μ.blk b
  os : w.os = w0.os
  tape : w.tape = w0.tape
  output : w.output = w0.output
  size : w0.heap.size ≤ w.heap.size
  keep : ∀ k, k < w0.heap.size → (∀ b o, H0.blk.get b = some o → μ0.blk b ≠ k) → w.heap[k]? = w0.heap[k]?
  dom : ∀ b, μ.dom b → μ0.dom b ∨ H0.next ≤ b
  str : M.str = 1
  gl : M.gl = H0.gl
  gr : ∀ b cs g, M.blk.get b = some (.cells cs g) → (∃ c ds, H0.blk.get c = some (.cells ds g)) ∨ H0.next ≤ g
  nf : ∀ k vs, μ.fz k = some vs → μ0.fz k = some vs ∨ (∃ c o, H0.blk.get c = some o ∧ μ0.blk c = k) ∨ w0.heap.size ≤ k
end Go.Cam
namespace Go.Cam
open Go Go.RowKit

/-- Where we stand inside a drawn region. Q: new blocks beside our heap; U: which names are still free. -/
structure St (n : Nat) (μ0 : Mu) (H0 : Hp) (w0 : World) (Q : Nat × AObj → Prop) (U : Nat → Prop) (μ : Mu) (M : Hp) (w : World) : Prop where
  hr : HR μ M w
  since : Since μ0 H0 w0 μ M w
  nx : H0.next + n ≤ M.next
  lt : ∀ x, Q x → x.1 < n
  pen : ∀ x, Q x → Pen μ M w0 w (H0.next + x.1) x.2
  apart : ∀ x y, Q x → Q y → x.1 ≠ y.1 → μ.blk (H0.next + x.1) ≠ μ.blk (H0.next + y.1)
  out : ∀ i, i < n → U i → ¬ μ.dom (H0.next + i)
  glt : ∀ g cs, H0.gl g = some cs → g < w0.heap.size

variable {n : Nat} {μ0 μ : Mu} {H0 M : Hp} {w0 w : World} {Q : Nat × AObj → Prop} {U : Nat → Prop}

theorem HR.glt {μ : Mu} {H : Hp} {w : World} (hr : HR μ H w) : ∀ g cs, H.gl g = some cs → g < w.heap.size := by
  intro g cs hg
  obtain ⟨⟨arr, ty, fz, e1, _⟩, _⟩ := hr.glob g cs hg
  rcases Nat.lt_or_ge g w.heap.size with h1 | h1
  · exact h1
  · rw [Array.getElem?_eq_none h1] at e1; cases e1

theorem start_st (hr : HR μ0 H0 w0) (hs : H0.str = 1) (n : Nat) : St n μ0 H0 w0 (fun _ => False) (fun _ => True) μ0 { H0 with next := H0.next + n } w0 := by
  have hfree : ∀ k, ¬ μ0.dom (H0.next + k) := fun k => by have := hr.next k; rwa [hs, Nat.mul_one] at this
  refine ⟨⟨hr.str, fun k => ?_, hr.dom, hr.obj, hr.apart, hr.grp, hr.glob, hr.frozen⟩, ⟨.refl _, fun b o hb => .inl ⟨b, o, hb, rfl⟩, rfl, rfl, rfl, Nat.le_refl _, fun _ _ _ => rfl, fun b hb => .inl hb, hs, rfl, fun b cs g hb => .inl ⟨b, cs, hb⟩, fun _ _ h => .inl h⟩, Nat.le_refl _,
    fun x h => h.elim, fun x h => h.elim, fun x y h => h.elim, fun i _ _ => hfree i, hr.glt⟩
  show ¬ μ0.dom (H0.next + n + k * H0.str)
  rw [hs, Nat.mul_one, Nat.add_assoc]; exact hfree _

theorem St.below (h : St n μ0 H0 w0 Q U μ M w) {b : Nat} (hb : μ.dom b) : b < M.next := by
  rcases Nat.lt_or_ge b M.next with h1 | h1
  · exact h1
  · have := h.hr.next (b - M.next)
    rw [h.since.str, Nat.mul_one, show M.next + (b - M.next) = b by omega] at this
    exact absurd hb this

theorem St.full (h : St n μ0 H0 w0 Q U μ M w) {X : List (Nat × AObj)} (hn : (X.map (·.1)).Nodup) (hX : ∀ x ∈ X, Q x) : HR μ (addF H0.next M X) w :=
  addF_hr h.hr hn (fun x hx => h.pen x (hX x hx)) (fun x hx y hy => h.apart x y (hX x hx) (hX y hy)) (fun g cs hg => h.glt g cs (by rw [← h.since.gl]; exact hg))

/-- An operation that leaves world and heap. -/
theorem St.drew (h : St n μ0 H0 w0 Q U μ M w) : St n μ0 H0 w0 Q U μ M w.drew :=
  ⟨h.hr.of_heap rfl, ⟨h.since.le, h.since.img, h.since.os, h.since.tape, h.since.output, h.since.size, h.since.keep, h.since.dom, h.since.str, h.since.gl, h.since.gr, h.since.nf⟩, h.nx, h.lt,
   fun x hx => let p := h.pen x hx; ⟨p.dom, p.here, p.grp, p.new, p.far, p.none, p.nofz⟩, h.apart, h.out, h.glt⟩

theorem hard_st (h : St n μ0 H0 w0 Q U μ M w) {X : List (Nat × AObj)} (hX : ∀ x ∈ X, Q x) {μ' : Mu} {M' : Hp} {w' : World} (s : Step μ (addF H0.next M X) w μ' M' w') {Q' : Nat × AObj → Prop} (hQ : ∀ x, Q' x → Q x ∧ x.1 ∉ X.map (·.1)) :
    St n μ0 H0 w0 Q' U μ' M' w' := by
  obtain ⟨a1, a2, a3⟩ := addF_same (base := H0.next) (X := X) (M := M)
  have hstr := h.since.str
  have hxne : ∀ x, Q' x → ∀ y ∈ X, y.1 ≠ x.1 := fun x hx y hy e => (hQ x hx).2 (List.mem_map.2 ⟨y, hy, e⟩)
  have hnx : ∃ j, M'.next = M.next + j ∧ ∀ b, μ'.dom b → μ.dom b ∨ ∃ i, i < j ∧ b = M.next + i := by
    obtain ⟨j, e, hd⟩ := s.nx
    rw [a1, a2, hstr, Nat.mul_one] at e
    refine ⟨j, e, fun b hb => (hd b hb).imp id fun ⟨i, hi, e⟩ => ⟨i, hi, ?_⟩⟩
    rw [a1, a2, hstr, Nat.mul_one] at e; exact e
  obtain ⟨j, e1, hd⟩ := hnx
  have blkX : ∀ c o, (addF H0.next M X).blk.get c = some o → ∀ x, Q' x → μ.blk c ≠ μ.blk (H0.next + x.1) := by
    intro c o hc x hx
    rcases addF_get hc with ⟨y, hy, rfl, _⟩ | hc
    · exact h.apart y x (hX y hy) (hQ x hx).1 (hxne x hx y hy)
    · exact (h.pen x (hQ x hx).1).far c o hc
  have nx := h.nx
  refine ⟨s.hr, ⟨h.since.le.trans s.le, ?_, s.os.trans h.since.os, s.tape.trans h.since.tape, s.output.trans h.since.output, Nat.le_trans h.since.size s.size, ?_, ?_, ?_, ?_, ?_, ?_⟩, by omega, fun x hx => h.lt x (hQ x hx).1, ?_, ?_, ?_, h.glt⟩
  · intro b o hb
    rcases s.img b o hb with ⟨c, o', hc, e⟩ | h1
    · rcases addF_get hc with ⟨y, hy, rfl, _⟩ | hc
      · right; rw [← e]; exact (h.pen y (hX y hy)).new
      · rcases h.since.img c o' hc with ⟨d, o2, h2, e2⟩ | h2
        · exact .inl ⟨d, o2, h2, e2.trans e⟩
        · right; rw [← e]; exact h2
    · right; exact Nat.le_trans h.since.size h1
  · intro k hk hne
    rw [s.keep k (Nat.lt_of_lt_of_le hk h.since.size) ?_, h.since.keep k hk hne]
    intro b o hb e
    rcases addF_get hb with ⟨y, hy, rfl, _⟩ | hb
    · have := (h.pen y (hX y hy)).new; omega
    · rcases h.since.img b o hb with ⟨d, o2, h2, e2⟩ | h2
      · exact hne d o2 h2 (e2.trans e)
      · omega
  · intro b hb
    rcases hd b hb with h1 | ⟨i, _, h1⟩
    · exact h.since.dom b h1
    · right; omega
  · rw [s.st.1, a2]; exact hstr
  · rw [s.st.2, a3]; exact h.since.gl
  · intro b cs g hb
    rcases s.gr b cs g hb with ⟨c, ds, hc⟩ | ⟨i, e⟩
    · rcases addF_get hc with ⟨y, hy, _, e⟩ | hc
      · right; rw [(h.pen y (hX y hy)).grp ds g e.symm]; omega
      · exact h.since.gr c ds g hc
    · right; rw [e, a1]; omega
  · intro k vs hk
    rcases s.nf k vs hk with h1 | ⟨c, o, hc, e⟩ | h1
    · exact h.since.nf k vs h1
    · rcases addF_get hc with ⟨y, hy, rfl, _⟩ | hc
      · right; right; rw [← e]; exact (h.pen y (hX y hy)).new
      · rcases h.since.img c o hc with ⟨d, o2, h2, e2⟩ | h2
        · exact .inr (.inl ⟨d, o2, h2, e2.trans e⟩)
        · right; right; rw [← e]; exact h2
    · exact .inr (.inr (Nat.le_trans h.since.size h1))
  · intro x hx
    have p := h.pen x (hQ x hx).1
    have hlt := p.here.lt
    have hxn := h.lt x (hQ x hx).1
    have eb := (s.le.2 _ p.dom).1
    refine ⟨s.le.1 _ p.dom, ?_, p.grp, by rw [eb]; exact p.new, ?_, ?_, ?_⟩
    · rw [eb, s.keep _ hlt (fun b o hb => blkX b o hb x hx)]
      exact p.here.mono s.le p.dom
    · intro b o hb
      rw [eb]
      rcases s.img b o hb with ⟨c, o', hc, e⟩ | h1
      · rw [← e]; exact blkX c o' hc x hx
      · omega
    · intro b cs hb
      rcases s.gr b cs _ hb with ⟨c, ds, hc⟩ | ⟨i, e⟩
      · rcases addF_get hc with ⟨y, hy, _, e⟩ | hc
        · have := (h.pen y (hX y hy)).grp ds _ e.symm
          exact hxne x hx y hy (by omega)
        · exact p.none c ds hc
      · rw [a1] at e; omega
    · intro k vs hk
      rw [eb]
      rcases s.nf k vs hk with h1 | ⟨c, o, hc, e⟩ | h1
      · exact p.nofz k vs h1
      · rw [← e]; exact blkX c o hc x hx
      · omega
  · intro x y hx hy hne
    rw [(s.le.2 _ (h.pen x (hQ x hx).1).dom).1, (s.le.2 _ (h.pen y (hQ y hy).1).dom).1]
    exact h.apart x y (hQ x hx).1 (hQ y hy).1 hne
  · intro i hi hu hb
    rcases hd _ hb with h1 | ⟨k, _, h1⟩
    · exact h.out i hi hu h1
    · omega

theorem end_st (h : St n μ0 H0 w0 Q U μ M w) (hs : H0.str = 1) {X : List (Nat × AObj)} (hn : (X.map (·.1)).Nodup) (hX : ∀ x ∈ X, Q x) : Step μ0 H0 w0 μ (addF H0.next M X) w := by
  obtain ⟨a1, a2, a3⟩ := addF_same (base := H0.next) (X := X) (M := M)
  have nx := h.nx
  refine ⟨h.full hn hX, h.since.le, ?_, h.since.os, h.since.tape, h.since.output, h.since.size, h.since.keep, ⟨M.next - H0.next, ?_, ?_⟩, ⟨by rw [a2, h.since.str, hs], by rw [a3]; exact h.since.gl⟩, ?_, h.since.nf⟩
  · intro b o hb
    rcases addF_get hb with ⟨y, hy, rfl, _⟩ | hb
    · right; exact (h.pen y (hX y hy)).new
    · exact h.since.img b o hb
  · rw [a1, hs, Nat.mul_one]; omega
  · intro b hb
    rcases h.since.dom b hb with h1 | h1
    · exact .inl h1
    · right
      have := h.below hb
      refine ⟨b - H0.next, by omega, by rw [hs, Nat.mul_one]; omega⟩
  · intro b cs g hb
    rw [hs]
    rcases addF_get hb with ⟨y, hy, _, e⟩ | hb
    · right
      exact ⟨y.1, by rw [(h.pen y (hX y hy)).grp cs g e.symm, Nat.mul_one]⟩
    · rcases h.since.gr b cs g hb with h1 | h1
      · exact .inl h1
      · right; exact ⟨g - H0.next, by rw [Nat.mul_one]; omega⟩

theorem fresh_st {P : Program} (h : St n μ0 H0 w0 Q U μ M w) {fr : T AV} {a : Act} {o : Oper} {i : Nat} {v : AV} {obj : AObj} (hf : FR μ fr a) (hfr : freshA P fr o (H0.next + i) H0.gl = some (v, obj)) (hi : i < n) (hu : U i) (hb : M.next ≤ bigId)
    {Q' : Nat × AObj → Prop} {U' : Nat → Prop} (hQ : ∀ x, Q' x → (Q x ∧ x.1 ≠ i) ∨ x = (i, obj)) (hU : ∀ j, U' j → U j ∧ j ≠ i) :
    ∃ u w' μ', (execOp a.eval o).run P w = .ok (.value u) w' ∧ VR μ' v u ∧ μ.le μ' ∧ St n μ0 H0 w0 Q' U' μ' M w' := by
  unfold freshA at hfr
  split at hfr
  case h_2 => cases hfr
  rename_i v1 Hr hop
  split at hfr
  · cases hfr
  rename_i hnext
  split at hfr
  · cases hfr
  rename_i obj1 hobj
  split at hfr
  case h_2 => cases hfr
  rename_i hgrp
  cases hfr
  have hnext := Nat.eq_of_beq_eq_true hnext
  have bpos : 0 < bigId := by decide
  have nx := h.nx
  have hE : HR μ ⟨H0.next + i, .leaf, .leaf, H0.gl, bigId⟩ w := by
    refine ⟨bpos, fun k hk => ?_, fun b o h => by simp [T.get_leaf] at h, fun b o h => by simp [T.get_leaf] at h, fun b c o o' h => by simp [T.get_leaf] at h, fun b cs g h => by simp [T.get_leaf] at h, fun g cs hg => ⟨(h.hr.glob g cs (by rw [h.since.gl]; exact hg)).1, fun b o h => by simp [T.get_leaf] at h⟩, fun g cs hg => ⟨(h.hr.frozen g cs hg).1, fun b o h => by simp [T.get_leaf] at h⟩⟩
    simp only at hk
    cases k with
    | zero => rw [Nat.zero_mul, Nat.add_zero] at hk; exact h.out i hi hu hk
    | succ k =>
      have := h.below hk
      rw [Nat.succ_mul] at this
      omega
  obtain ⟨u, w', μ', h1, s, h3⟩ := opA_ok hE hf hop
  have hj : ∀ b, μ'.dom b → μ.dom b ∨ b = H0.next + i := by
    obtain ⟨j, e, hd⟩ := s.nx
    simp only at e hd
    rw [hnext] at e
    have : j * bigId = bigId := by omega
    have hj1 : j = 1 := by
      have := Nat.eq_of_mul_eq_mul_right bpos (this.trans (Nat.one_mul bigId).symm)
      exact this
    subst hj1
    intro b hb
    rcases hd b hb with h1 | ⟨k, hk, h1⟩
    · exact .inl h1
    · have : k = 0 := by omega
      subst this; right; omega
  have hkeep : ∀ k, k < w.heap.size → w'.heap[k]? = w.heap[k]? := fun k hk => s.keep k hk (fun b o h => by simp [T.get_leaf] at h)
  have hnew : w.heap.size ≤ μ'.blk (H0.next + i) := by
    rcases s.img _ _ hobj with ⟨c, o', hc, _⟩ | h1
    · simp [T.get_leaf] at hc
    · exact h1
  have hnd := h.out i hi hu
  refine ⟨u, w', μ', h1, h3, s.le, ⟨?_, ⟨h.since.le.trans s.le, ?_, s.os.trans h.since.os, s.tape.trans h.since.tape, s.output.trans h.since.output, Nat.le_trans h.since.size s.size, ?_, ?_, h.since.str, h.since.gl, h.since.gr, ?_⟩, nx, ?_, ?_, ?_, ?_, h.glt⟩⟩
  · have eb : ∀ b o, M.blk.get b = some o → μ'.blk b = μ.blk b := fun b o hb => (s.le.2 b (h.hr.dom b o hb)).1
    refine ⟨h.hr.str, fun k hk => ?_, fun b o hb => s.le.1 _ (h.hr.dom b o hb), fun b o hb => ?_, fun b c o o' h1 h2 hne => ?_, fun b cs g hb => ?_, fun g cs hg => ?_, fun k vs hk => ?_⟩
    · rcases hj _ hk with h1 | h1
      · exact h.hr.next k h1
      · omega
    · rw [eb b o hb, hkeep _ (h.hr.lt hb)]
      exact (h.hr.obj b o hb).mono s.le (h.hr.dom b o hb)
    · rw [eb b o h1, eb c o' h2]; exact h.hr.apart b c o o' h1 h2 hne
    · exact ⟨s.le.1 _ (h.hr.grp b cs g hb).1, (h.hr.grp b cs g hb).2⟩
    · obtain ⟨⟨arr, ty, fz, e1, e2⟩, k2⟩ := h.hr.glob g cs hg
      refine ⟨⟨arr, ty, fz, ?_, e2⟩, fun b o hb => by rw [eb b o hb]; exact k2 b o hb⟩
      rw [hkeep g (h.hr.glt g cs hg)]; exact e1
    · refine ⟨(s.hr.frozen k vs hk).1, fun b o hb => ?_⟩
      rw [eb b o hb]
      rcases s.nf k vs hk with h1 | ⟨c, o, hc, _⟩ | h1
      · exact (h.hr.frozen k vs h1).2 b o hb
      · simp [T.get_leaf] at hc
      · have := h.hr.lt hb; omega
  · intro b o hb
    rw [(s.le.2 b (h.hr.dom b o hb)).1]; exact h.since.img b o hb
  · intro k hk hne
    rw [hkeep k (Nat.lt_of_lt_of_le hk h.since.size)]; exact h.since.keep k hk hne
  · intro b hb
    rcases hj b hb with h1 | h1
    · exact h.since.dom b h1
    · right; omega
  · intro k vs hk
    rcases s.nf k vs hk with h1 | ⟨c, o, hc, _⟩ | h1
    · exact h.since.nf k vs h1
    · simp [T.get_leaf] at hc
    · exact .inr (.inr (Nat.le_trans h.since.size h1))
  · intro x hx
    rcases hQ x hx with ⟨h1, _⟩ | rfl
    · exact h.lt x h1
    · exact hi
  · intro x hx
    rcases hQ x hx with ⟨h1, hne⟩ | rfl
    · have p := h.pen x h1
      have eb := (s.le.2 _ p.dom).1
      refine ⟨s.le.1 _ p.dom, ?_, p.grp, by rw [eb]; exact p.new, fun b o hb => ?_, p.none, fun k vs hk => ?_⟩
      · rw [eb, hkeep _ p.here.lt]; exact p.here.mono s.le p.dom
      · rw [eb, (s.le.2 b (h.hr.dom b o hb)).1]; exact p.far b o hb
      · rw [eb]
        rcases s.nf k vs hk with h1 | ⟨c, o, hc, _⟩ | h1
        · exact p.nofz k vs h1
        · simp [T.get_leaf] at hc
        · have := p.here.lt; omega
    · refine ⟨s.hr.dom _ _ hobj, s.hr.obj _ _ hobj, grpOk_ok hgrp, Nat.le_trans h.since.size hnew, fun b o hb => ?_, fun b cs hb => ?_, fun k vs hk => ((s.hr.frozen k vs hk).2 _ _ hobj).symm⟩
      · rw [(s.le.2 b (h.hr.dom b o hb)).1]
        have := h.hr.lt hb
        show μ.blk b ≠ μ'.blk (H0.next + i)
        omega
      · exact hnd (h.hr.grp b cs _ hb).1
  · intro x y hx hy hne
    rcases hQ x hx with ⟨g1, _⟩ | rfl <;> rcases hQ y hy with ⟨g2, _⟩ | rfl
    · rw [(s.le.2 _ (h.pen x g1).dom).1, (s.le.2 _ (h.pen y g2).dom).1]
      exact h.apart x y g1 g2 hne
    · rw [(s.le.2 _ (h.pen x g1).dom).1]
      have := (h.pen x g1).here.lt
      simp only
      omega
    · rw [(s.le.2 _ (h.pen y g2).dom).1]
      have := (h.pen y g2).here.lt
      simp only
      omega
    · exact absurd rfl hne
  · intro j hjn hu' hb
    obtain ⟨g1, g2⟩ := hU j hu'
    rcases hj _ hb with h1 | h1
    · exact h.out j hjn g1 h1
    · omega
end Go.Cam
namespace Go.Cam
open Go Go.RowKit

section
variable {P : Program} {nt : Nat} {ops : Array Oper} {fr0 fr' : T AV} {H0 M' : Hp} {ms : List Nat} {l : List Rc} {pend : List (Nat × AObj)}

/-- A slot's value when the operations of L have been carried out. -/
def Cur (fr0 : T AV) (l : List Rc) (L : Array Bool) (t : Nat) (v : AV) : Prop :=
  (∃ (j : Nat) (rc : Rc), l[j]? = some rc ∧ rc.o.dst = some t ∧ v = rc.v ∧ L.getD j false = true) ∨ (fr0.get t = some v ∧ ∀ (j : Nat) (rc : Rc), l[j]? = some rc → rc.o.dst = some t → L.getD j false = false)
def doneHard (P : Program) (ops : Array Oper) (L : Array Bool) : Nat := cnt (fun j => hardAt P ops.toList j && L.getD j false) ops.size
/-- The new blocks that are there and that no hard operation has seen. -/
def Beside (P : Program) (ops : Array Oper) (l : List Rc) (L : Array Bool) (x : Nat × AObj) : Prop := IsP P l x ∧ L.getD x.1 false = true ∧ x.1 ∉ mergedK P l (doneHard P ops L)
def Free (L : Array Bool) (i : Nat) : Prop := L.getD i false = false

structure Inv (P : Program) (ops : Array Oper) (fr0 : T AV) (H0 : Hp) (ms : List Nat) (l : List Rc) (nt : Nat) (μ0 : Mu) (w0 : World) (ds : List Deferred) (L : Array Bool) (a : Act) (w : World) : Prop where
  size : L.size = ops.size
  closed : ∀ i j, L.getD i false = true → (maskAt ms i).testBit j = true → L.getD j false = true
  state : ∃ μ M, ({ H0 with next := H0.next + ops.size } :: hardHs P l)[doneHard P ops L]? = some M ∧ St ops.size μ0 H0 w0 (Beside P ops l L) (Free L) μ M w ∧ ∀ t v, Cur fr0 l L t v → ∃ u, a.tmps[t]? = some u ∧ VR μ v u
  tmps : a.tmps.size = nt
  defers : a.defers = ds

theorem St.weaken {n : Nat} {μ0 μ : Mu} {H0 M : Hp} {w0 w : World} {Q Q' : Nat × AObj → Prop} {U U' : Nat → Prop} (h : St n μ0 H0 w0 Q U μ M w) (hQ : ∀ x, Q' x → Q x) (hU : ∀ i, U' i → U i) : St n μ0 H0 w0 Q' U' μ M w :=
  ⟨h.hr, h.since, h.nx, fun x hx => h.lt x (hQ x hx), fun x hx => h.pen x (hQ x hx), fun x y hx hy => h.apart x y (hQ x hx) (hQ y hy), fun i hi hu => h.out i hi (hU i hu), h.glt⟩

theorem getD_set (L : Array Bool) (i j : Nat) (h : i < L.size) : (L.setIfInBounds i true).getD j false = (if i = j then true else L.getD j false) := by
  by_cases hij : i = j
  · subst hij; simp [h]
  · rw [if_neg hij]; exact getD_set_ne false hij

theorem rc_at (R : Reg P nt ops fr0 H0 ms l fr' M' pend) {i : Nat} {o : Oper} (h : ops[i]? = some o) : ∃ rc, l[i]? = some rc ∧ rc.o = o := by
  rw [← Array.getElem?_toList, ← R.map, List.getElem?_map] at h
  cases hl : l[i]? with
  | none => rw [hl] at h; cases h
  | some rc => rw [hl] at h; simp at h; exact ⟨rc, rfl, h⟩
theorem o_at (R : Reg P nt ops fr0 H0 ms l fr' M' pend) {i : Nat} {rc : Rc} (h : l[i]? = some rc) : ops[i]? = some rc.o := by
  rw [← Array.getElem?_toList, ← R.map, List.getElem?_map, h]; rfl
theorem hardAt_of {i : Nat} {o : Oper} (h : ops[i]? = some o) : hardAt P ops.toList i = isHard P o := by
  unfold hardAt; rw [getL_eq, Array.getElem?_toList, h]

theorem ready_step (R : Reg P nt ops fr0 H0 ms l fr' M' pend) {μ0 : Mu} {w0 : World} {ds : List Deferred} {L : Array Bool} {a : Act} {w : World} {i : Nat} {K : Act → World → Prop} {Q : Exit → Act → World → Prop}
    (I : Inv P ops fr0 H0 ms l nt μ0 w0 ds L a w) (hi : i ∈ Region.ready .any ops L) (hK : ∀ a' w', Inv P ops fr0 H0 ms l nt μ0 w0 ds (L.setIfInBounds i true) a' w' → K a' w') : wpOp P ops Q i K a w := by
  obtain ⟨hnl, o, ho, hall⟩ := mem_ready.1 hi
  have hio : i < ops.size := (Array.getElem?_eq_some_iff.1 ho).1
  have hiL : i < L.size := by rw [I.size]; exact hio
  have hnl' : L.getD i false = false := by
    simp only [Array.getD_eq_getD_getElem?, Array.getElem?_eq_getElem hiL, Option.getD_some] at hnl ⊢; exact hnl
  obtain ⟨rc, hrc, rfl⟩ := rc_at R ho
  obtain ⟨hok, hfr⟩ := R.rcs i rc hrc
  obtain ⟨μ, Hk, hHk, hst, hcur⟩ := I.state
  -- all that must come before has come
  have hpre : ∀ j, (maskAt ms i).testBit j = true → L.getD j false = true := by
    intro j hj
    unfold maskAt at hj
    rw [getL_eq] at hj
    cases hm : ms[i]? with
    | none => rw [hm] at hj; simp at hj
    | some m =>
      rw [hm] at hj
      simp only at hj
      obtain ⟨e, he, hb, h⟩ := R.masks.gen i m rc.o j hm (by rw [Array.getElem?_toList]; exact ho) hj
      have hon := hall e (by simpa using he) hb
      rcases h with rfl | ⟨me, hme, hmj⟩
      · exact hon
      · refine I.closed e.on j hon ?_
        unfold maskAt; rw [getL_eq, hme]; exact hmj
  -- nothing that must come behind has come
  have hpost : ∀ j, (maskAt ms j).testBit i = true → L.getD j false = false := by
    intro j hj
    cases hL : L.getD j false with
    | false => rfl
    | true => have := I.closed j i hL hj; rw [hnl'] at this; cases this
  -- the operands
  have hopnd : FR μ rc.fr a := by
    intro t v ht
    obtain ⟨h1, h2⟩ := hfr t v ht
    refine hcur t v ?_
    rcases h2 with ⟨j, rc', q1, q2, q3⟩ | ⟨q1, q2⟩
    · obtain ⟨hji, q1⟩ := take_get _ _ _ _ q1
      have := (R.pairs j i rc'.o rc.o hji (o_at R q1) ho).2 (tied_dst q2 h1)
      exact .inl ⟨j, rc', q1, q2, q3, hpre j this⟩
    · refine .inr ⟨q1, fun j rc' hj hd => ?_⟩
      rcases Nat.lt_trichotomy j i with hji | hji | hji
      · exact absurd hd (q2 j rc' (by rw [List.getElem?_take, if_pos hji]; exact hj))
      · subst hji; exact hnl'
      · exact hpost j ((R.pairs i j rc.o rc'.o hji ho (o_at R hj)).2 (tied_dst' hd h1))
  -- how many hard operations have been carried out
  have hcount : isHard P rc.o = true → doneHard P ops L = cnt (hardAt P ops.toList) i := by
    intro hh
    unfold doneHard
    have e1 : cnt (fun j => hardAt P ops.toList j && L.getD j false) ops.size = cnt (fun j => hardAt P ops.toList j && decide (j < i)) ops.size := by
      refine cnt_congr fun j hj => ?_
      cases hhj : hardAt P ops.toList j with
      | false => rfl
      | true =>
        simp only [Bool.true_and]
        have hoj : ops[j]? = some ops[j] := Array.getElem?_eq_getElem hj
        have hhj' : isHard P ops[j] = true := by rw [← hardAt_of hoj]; exact hhj
        rcases Nat.lt_trichotomy j i with hji | hji | hji
        · rw [hpre j ((R.pairs j i _ rc.o hji hoj ho).2 (tied_hard hhj' hh))]; simp [hji]
        · subst hji; rw [hnl']; simp
        · rw [hpost j ((R.pairs i j rc.o _ hji ho hoj).2 (tied_hard hh hhj'))]; simp; omega
    rw [e1, cnt_upto (n := i) (by omega) (fun j h1 h2 => by simp; omega)]
    exact cnt_congr fun j hj => by simp [hj]
  have hcountSoft : kMin P ops.toList ms i ≤ doneHard P ops L ∧ doneHard P ops L ≤ kMax P ops.toList ms i := by
    unfold kMin kMax doneHard
    rw [lenL_eq, Array.length_toList]
    refine ⟨cnt_le fun j _ hj => ?_, cnt_le fun j _ hj => ?_⟩
    · simp only [Bool.and_eq_true] at hj ⊢
      exact ⟨hj.1, hpre j hj.2⟩
    · simp only [Bool.and_eq_true, Bool.not_eq_true'] at hj ⊢
      refine ⟨hj.1, ?_⟩
      cases hm : (maskAt ms j).testBit i with
      | false => rfl
      | true => rw [hpost j hm] at hj; cases hj.2
  have hown : kMin P ops.toList ms i ≤ cnt (hardAt P ops.toList) i ∧ cnt (hardAt P ops.toList) i ≤ kMax P ops.toList ms i := by
    have e1 : cnt (hardAt P ops.toList) i = cnt (fun j => hardAt P ops.toList j && decide (j < i)) ops.size := by
      rw [cnt_upto (n := i) (p := fun j => hardAt P ops.toList j && decide (j < i)) (by omega) (fun j h1 h2 => by simp; omega)]
      exact cnt_congr fun j hj => by simp [hj]
    unfold kMin kMax
    rw [lenL_eq, Array.length_toList, e1]
    refine ⟨cnt_le fun j _ hj => ?_, cnt_le fun j hjn hj => ?_⟩
    · simp only [Bool.and_eq_true, decide_eq_true_eq] at hj ⊢
      refine ⟨hj.1, ?_⟩
      have h2 := hj.2
      unfold maskAt at h2
      rw [getL_eq] at h2
      cases hm : ms[i]? with
      | none => rw [hm] at h2; simp at h2
      | some m => rw [hm] at h2; exact R.masks.lt i m j hm h2
    · simp only [Bool.and_eq_true, decide_eq_true_eq, Bool.not_eq_true'] at hj ⊢
      refine ⟨hj.1, ?_⟩
      cases hm : (maskAt ms j).testBit i with
      | false => rfl
      | true =>
        unfold maskAt at hm
        rw [getL_eq] at hm
        cases hmj : ms[j]? with
        | none => rw [hmj] at hm; simp at hm
        | some m => rw [hmj] at hm; have := R.masks.lt j m i hmj hm; omega
  have hsetSoft : isHard P rc.o = false → doneHard P ops (L.setIfInBounds i true) = doneHard P ops L := by
    intro hs
    refine cnt_congr fun j hj => ?_
    rw [getD_set L i j hiL]
    by_cases hij : i = j
    · subst hij; rw [hardAt_of ho, hs]; rfl
    · rw [if_neg hij]
  have hsetHard : isHard P rc.o = true → doneHard P ops (L.setIfInBounds i true) = doneHard P ops L + 1 := by
    intro hs
    refine cnt_set (k := i) ?_ ?_ hio fun j hj hne => ?_
    · simp only [hnl', Bool.and_false]
    · simp only [hardAt_of ho, hs, getD_set L i i hiL, if_true, Bool.and_self]
    · simp only [getD_set L i j hiL, if_neg (fun e : i = j => hne e.symm)]
  -- the state behind
  have next : ∀ (μ' : Mu) (H1 : Hp) (w' : World) (u : Value), ({ H0 with next := H0.next + ops.size } :: hardHs P l)[doneHard P ops (L.setIfInBounds i true)]? = some H1 → St ops.size μ0 H0 w0 (Beside P ops l (L.setIfInBounds i true)) (Free (L.setIfInBounds i true)) μ' H1 w' → μ.le μ' → VR μ' rc.v u →
      Inv P ops fr0 H0 ms l nt μ0 w0 ds (L.setIfInBounds i true) (a.put rc.o.dst u) w' := by
    intro μ' H1 w' u hH1 hs1 hle hu
    refine ⟨by simp [I.size], ?_, ⟨μ', H1, hH1, hs1, ?_⟩, ?_, ?_⟩
    · intro p q hp hq
      rw [getD_set L i p hiL] at hp
      rw [getD_set L i q hiL]
      by_cases hiq : i = q
      · rw [if_pos hiq]
      · rw [if_neg hiq]
        by_cases hip : i = p
        · subst hip; exact hpre q hq
        · rw [if_neg hip] at hp; exact I.closed p q hp hq
    · intro t v hc
      rcases hc with ⟨j, rc', q1, q2, q3, q4⟩ | ⟨q1, q2⟩
      · by_cases hij : i = j
        · subst hij
          rw [hrc] at q1; cases q1
          refine ⟨u, ?_, by rw [q3]; exact hu⟩
          rw [q2]
          have hlt := hok.dst t q2
          simp only [Act.put, Array.getElem?_setIfInBounds]
          rw [if_pos trivial, if_pos (by rw [I.tmps]; exact hlt)]
        · rw [getD_set L i j hiL, if_neg hij] at q4
          have hne : rc.o.dst ≠ some t := by
            intro hd
            rcases Nat.lt_trichotomy i j with h | h | h
            · have := (R.pairs i j rc.o rc'.o h ho (o_at R q1)).1
              rw [clash_of hd q2] at this; cases this
            · exact hij h
            · have := (R.pairs j i rc'.o rc.o h (o_at R q1) ho).1
              rw [clash_of q2 hd] at this; cases this
          obtain ⟨u', r1, r2⟩ := hcur t v (.inl ⟨j, rc', q1, q2, q3, q4⟩)
          refine ⟨u', ?_, r2.mono hle⟩
          cases hd : rc.o.dst with
          | none => exact r1
          | some d =>
            simp only [Act.put, Array.getElem?_setIfInBounds]
            rw [if_neg (fun e => hne (by rw [hd, e]))]
            exact r1
      · have hne : rc.o.dst ≠ some t := by
          intro hd
          have := q2 i rc hrc hd
          rw [getD_set L i i hiL, if_pos rfl] at this
          cases this
        obtain ⟨u', r1, r2⟩ := hcur t v (.inr ⟨q1, fun j rc' hj hd => by
          have := q2 j rc' hj hd
          rw [getD_set L i j hiL] at this
          split at this
          · cases this
          · exact this⟩)
        refine ⟨u', ?_, r2.mono hle⟩
        cases hd : rc.o.dst with
        | none => exact r1
        | some d =>
          simp only [Act.put, Array.getElem?_setIfInBounds]
          rw [if_neg (fun e => hne (by rw [hd, e]))]
          exact r1
    · cases rc.o.dst <;> simp [Act.put, I.tmps]
    · cases rc.o.dst <;> exact I.defers
  have hHkEq : isHard P rc.o = true → rc.M = Hk := by
    intro hh
    have := (R.heaps i rc hrc).1
    rw [← hcount hh, hHk] at this
    exact (Option.some.inj this).symm
  have hnotP : (rc.want = false ∨ isFr P rc.o = false) → ∀ x, IsP P l x → x.1 ≠ i := by
    rintro h x ⟨rc', q1, q2, q3, q4⟩ e
    rw [e, hrc] at q1; cases q1
    rcases h with h | h
    · rw [h] at q3; cases q3
    · rw [h] at q2; cases q2
  have hfreeW : ∀ j, Free (L.setIfInBounds i true) j → Free L j ∧ j ≠ i := by
    intro j hj
    unfold Free at hj
    rw [getD_set L i j hiL] at hj
    by_cases hij : i = j
    · rw [if_pos hij] at hj; cases hj
    · rw [if_neg hij] at hj; exact ⟨hj, fun e => hij e.symm⟩
  have hlen : ∀ j, cnt (hardAt P (l.map (·.o))) j = cnt (hardAt P ops.toList) j := fun j => by rw [R.map]
  have hmk : isHard P rc.o = true → mergedK P l (doneHard P ops L + 1) = mergedK P l (doneHard P ops L) ++ rc.X.map (·.1) := by
    intro hh
    have := mergedK_succ hrc hh
    rwa [hlen, ← hcount hh] at this
  have besideW : (rc.want = false ∨ isFr P rc.o = false) → ∀ x, Beside P ops l (L.setIfInBounds i true) x → Beside P ops l L x ∧ (isHard P rc.o = true → x.1 ∉ rc.X.map (·.1)) := by
    rintro hn x ⟨q1, q2, q3⟩
    have hne := hnotP hn x q1
    rw [getD_set L i x.1 hiL, if_neg (fun e => hne e.symm)] at q2
    cases hh : isHard P rc.o with
    | false => rw [hsetSoft hh] at q3; exact ⟨⟨q1, q2, q3⟩, fun h => by cases h⟩
    | true =>
      rw [hsetHard hh, hmk hh, List.mem_append, not_or] at q3
      exact ⟨⟨q1, q2, q3.1⟩, fun _ => q3.2⟩
  unfold wpOp
  rw [ho]
  simp only
  rw [wantedA_ok hopnd hok.wanted]
  cases hw : rc.want with
  | false =>
    simp only [Bool.false_eq_true, if_false]
    refine hK _ _ (next μ Hk w undef ?_ (hst.weaken (fun x hx => (besideW (.inl hw) x hx).1) (fun j hj => (hfreeW j hj).1)) (.refl _) (by rw [hok.no hw]; exact .lit _))
    cases hh : isHard P rc.o with
    | false => rw [hsetSoft hh]; exact hHk
    | true =>
      rw [hsetHard hh, hcount hh, (R.heaps i rc hrc).2 hh, (hok.keep (.inr hw)).1, hHkEq hh]
  | true =>
    simp only [if_true]
    left
    cases hs : softOp P rc.o.op with
    | true =>
      obtain ⟨hh, hfr0⟩ := isHard_soft (P := P) (o := rc.o) hs
      have hop : SoftS P rc.fr Hk rc.o rc.v := by
        rcases R.soft i rc hrc hs hw with h | h
        · have e : doneHard P ops L = cnt (hardAt P ops.toList) i := by have := hcountSoft; have := hown; omega
          have e2 : rc.M = Hk := by
            have := (R.heaps i rc hrc).1
            rw [← e, hHk] at this
            exact (Option.some.inj this).symm
          have := hok.soft hw hs
          rwa [e2] at this
        · exact h _ Hk hcountSoft.1 hcountSoft.2 hHk
      obtain ⟨u, hrun, hvr⟩ := hop μ a w hst.hr hopnd
      unfold Oper.wp
      rw [hrun]
      exact hK _ _ (next μ Hk w u (by rw [hsetSoft hh]; exact hHk) (hst.weaken (fun x hx => (besideW (.inr hfr0) x hx).1) (fun j hj => (hfreeW j hj).1)) (.refl _) hvr)
    | false =>
      cases hfo : freshOp rc.o.op with
      | true =>
        obtain ⟨hh, hfr1⟩ := isHard_fresh (P := P) (o := rc.o) hs hfo
        obtain ⟨obj, ho1, hfa⟩ := hok.fresh hw hfr1
        have hsm : Hk.next ≤ bigId := R.small Hk (List.mem_of_getElem? hHk)
        obtain ⟨u, w', μ', hrun, hvr, hle, hst'⟩ := fresh_st hst hopnd hfa hio hnl' hsm (Q' := Beside P ops l (L.setIfInBounds i true)) (U' := Free (L.setIfInBounds i true)) (by
          rintro ⟨x1, x2⟩ ⟨q1, q2, q3⟩
          by_cases hxi : x1 = i
          · right
            obtain ⟨rc', p1, _, _, p4⟩ := q1
            subst hxi
            simp only at p1 p4
            rw [hrc] at p1; cases p1
            rw [ho1] at p4; cases p4
            rfl
          · left
            simp only at q2 q3
            rw [getD_set L i x1 hiL, if_neg (fun e => hxi e.symm)] at q2
            rw [hsetSoft hh] at q3
            exact ⟨⟨q1, q2, q3⟩, hxi⟩) hfreeW
        unfold Oper.wp
        rw [hrun]
        exact hK _ _ (next μ' Hk w' u (by rw [hsetSoft hh]; exact hHk) hst' hle hvr)
      | false =>
        obtain ⟨hh, hfr1⟩ := isHard_hard (P := P) (o := rc.o) hs hfo
        have hstep := hok.hard hw hh
        rw [hHkEq hh] at hstep
        obtain ⟨x1, x2⟩ := R.xs i rc hrc
        have hX : ∀ x ∈ rc.X, Beside P ops l L x := fun x hx => by
          obtain ⟨g1, g2, g3⟩ := x2 x hx
          exact ⟨g1, hpre _ g3, by rw [hcount hh]; exact g2⟩
        exact hstep μ a w _ _ (hst.full x1 hX) hopnd fun u μ' w' h1 h2 => hK _ _ (next μ' rc.M' w' u (by rw [hsetHard hh, hcount hh]; exact (R.heaps i rc hrc).2 hh)
          ((hard_st hst hX h1 (Q' := Beside P ops l (L.setIfInBounds i true)) fun x hx => ⟨(besideW (.inr hfr1) x hx).1, (besideW (.inr hfr1) x hx).2 hh⟩).weaken (fun x hx => hx) (fun j hj => (hfreeW j hj).1)) h1.le h2)

theorem all_of_ready (R : Reg P nt ops fr0 H0 ms l fr' M' pend) {L : Array Bool} (hs : L.size = ops.size) (hr : Region.ready .any ops L = []) : ∀ i, i < ops.size → L.getD i false = true := by
  intro i
  induction i using Nat.strongRecOn with
  | _ i ih =>
    intro hi
    cases hL : L.getD i false with
    | true => rfl
    | false =>
      exfalso
      have hiL : i < L.size := by omega
      have : i ∈ Region.ready .any ops L := by
        refine mem_ready.2 ⟨?_, ops[i], Array.getElem?_eq_getElem hi, fun e he hb => ?_⟩
        · simp only [Array.getD_eq_getD_getElem?, Array.getElem?_eq_getElem hiL, Option.getD_some] at hL ⊢; exact hL
        · have hmi : i < ms.length := by rw [R.masks.len]; simpa using hi
          have := R.masks.edge i ms[i] ops[i] e (List.getElem?_eq_getElem hmi) (by simp [hi]) (by simpa using he) hb
          exact ih e.on this (by omega)
      rw [hr] at this
      cases this

theorem draw_any (R : Reg P nt ops fr0 H0 ms l fr' M' pend) {μ0 : Mu} {w0 : World} {ds : List Deferred} {Q : Exit → Act → World → Prop}
    (hQ : ∀ μ' a' w', Step μ0 H0 w0 μ' (addF H0.next M' pend) w' → FR μ' fr' a' → a'.tmps.size = nt → a'.defers = ds → Q .normal a' w') :
    ∀ (fuel : Nat) (L : Array Bool) (a : Act) (w : World), cnt (fun j => !L.getD j false) ops.size = fuel → Inv P ops fr0 H0 ms l nt μ0 w0 ds L a w → wpAny P .any ops Q fuel L a w := by
  have done : ∀ (L : Array Bool) (a : Act) (w : World), (∀ i, i < ops.size → L.getD i false = true) → Inv P ops fr0 H0 ms l nt μ0 w0 ds L a w → Q .normal a w := by
    intro L a w hall I
    obtain ⟨μ, Hk, hHk, hst, hcur⟩ := I.state
    have e : doneHard P ops L = cnt (hardAt P ops.toList) ops.size := cnt_congr fun j hj => by rw [hall j hj]; simp
    rw [e, R.last] at hHk
    cases hHk
    refine hQ μ a w (end_st hst R.str R.pend.nodup fun x hx => ?_) (fun t v ht => hcur t v ?_) I.tmps I.defers
    · obtain ⟨g1, g2⟩ := R.pend.is x hx
      have hlen : l.length = ops.size := by rw [← Array.length_toList, ← R.map]; simp
      refine ⟨g1, hall _ (by rw [← hlen]; exact g1.lt), ?_⟩
      have := merged_take (P := P) (l := l) (Nat.le_refl _)
      rw [List.take_length, R.map, hlen] at this
      rw [e, ← this]; exact g2
    rcases R.fin t v ht with ⟨j, rc, q1, q2, q3⟩ | ⟨q1, q2⟩
    · have hj : j < ops.size := (Array.getElem?_eq_some_iff.1 (o_at R q1)).1
      exact .inl ⟨j, rc, q1, q2, q3, hall j hj⟩
    · exact .inr ⟨q1, fun j rc hj hd => absurd hd (q2 j rc hj)⟩
  intro fuel
  induction fuel with
  | zero =>
    intro L a w hc I
    have hall : ∀ i, i < ops.size → L.getD i false = true := fun i hi => by
      have := cnt_zero hc i hi
      simpa using this
    refine ⟨?_, done L a w hall I⟩
    cases hr : Region.ready .any ops L with
    | nil => rfl
    | cons x xs =>
      exfalso
      have hx : x ∈ Region.ready .any ops L := by rw [hr]; simp
      obtain ⟨h1, o, ho, _⟩ := mem_ready.1 hx
      have hxo : x < ops.size := (Array.getElem?_eq_some_iff.1 ho).1
      have hxL : x < L.size := by rw [I.size]; exact hxo
      have h2 := hall x hxo
      simp only [Array.getD_eq_getD_getElem?, Array.getElem?_eq_getElem hxL, Option.getD_some] at h1 h2
      rw [h1] at h2; cases h2
  | succ fuel ih =>
    intro L a w hc I
    refine ⟨fun hr => done L a w (all_of_ready R I.size hr) I, fun i hi => ?_⟩
    refine ready_step R I hi fun a' w' I' => ih _ a' w' ?_ I'
    obtain ⟨h1, o, ho, _⟩ := mem_ready.1 hi
    have hio : i < ops.size := (Array.getElem?_eq_some_iff.1 ho).1
    have hiL : i < L.size := by rw [I.size]; exact hio
    have hnl : L.getD i false = false := by
      simp only [Array.getD_eq_getD_getElem?, Array.getElem?_eq_getElem hiL, Option.getD_some] at h1 ⊢; exact h1
    have := cnt_set (p := fun j => !(L.setIfInBounds i true).getD j false) (q := fun j => !L.getD j false) (k := i)
      (by simp only [getD_set L i i hiL, if_true, Bool.not_true]) (by simp only [hnl, Bool.not_false]) hio
      (fun j hj hne => by simp only [getD_set L i j hiL, if_neg (fun e : i = j => hne e.symm)])
    omega
end

/-- A region, in whatever order. -/
theorem reg_ok {P : Program} (hm : P.follows .mixedOrders = true) {nt : Nat} {ops : Array Oper} {fr fr' : T AV} {H M' : Hp} {ms : List Nat} {l : List Rc} {pend : List (Nat × AObj)} (R : Reg P nt ops fr H ms l fr' M' pend) :
    ∀ id μ a w (Q : Exit → Act → World → Prop), HR μ H w → FR μ fr a → a.tmps.size = nt →
    (∀ μ' a' w', Step μ H w μ' (addF H.next M' pend) w' → FR μ' fr' a' → a'.tmps.size = nt → a'.defers = a.defers → Q .normal a' w') → (Code.region id ops true).wp P Q a w := by
  intro id μ a w Q hr hf hn hQ
  refine wp_region_any hm ?_
  have hrep : ∀ j, (Array.replicate ops.size false).getD j false = false := by
    intro j
    simp only [Array.getD_eq_getD_getElem?, Array.getElem?_replicate]
    split <;> rfl
  refine draw_any (ds := a.defers) (μ0 := μ) (w0 := w) R hQ ops.size _ a _ ?_ ⟨by simp, (fun i j hi => by rw [hrep] at hi; cases hi), ⟨μ, { H with next := H.next + ops.size }, ?_, ((start_st hr R.str ops.size).drew).weaken (fun x hx => ?_) (fun _ _ => trivial), ?_⟩, hn, rfl⟩
  · have : ∀ n, cnt (fun j => !(Array.replicate ops.size false).getD j false) n = n := by
      intro n
      induction n with
      | zero => rfl
      | succ n ih => simp only [cnt, hrep, Bool.not_false]; simp only [hrep, Bool.not_false] at ih; rw [ih]
    exact this _
  · have : doneHard P ops (Array.replicate ops.size false) = 0 := by
      unfold doneHard
      have : ∀ n, cnt (fun j => hardAt P ops.toList j && (Array.replicate ops.size false).getD j false) n = 0 := by
        intro n
        induction n with
        | zero => rfl
        | succ n ih => simp only [cnt, hrep, Bool.and_false]; simp only [hrep, Bool.and_false] at ih; exact ih
      exact this _
    rw [this]; rfl
  · have := hx.2.1
    rw [hrep] at this; cases this
  · intro t v hc
    rcases hc with ⟨j, rc, _, _, _, h4⟩ | ⟨h1, _⟩
    · rw [hrep] at h4; cases h4
    · exact hf t v h1
theorem drawA_ok {P : Program} (hm : P.follows .mixedOrders = true) : DrawOk P (drawA P) := by
  intro call hcall nt ops fr H fr' H' h id μ a w Q hr hf hn hQ
  obtain ⟨ms, l, M', pend, R, rfl⟩ := drawA_reg hcall h
  exact reg_ok hm R id μ a w Q hr hf hn hQ
end Go.Cam
namespace Go.Cam
open Go Go.RowKit

/-- The heap of which nothing is known but some package-level variables. -/
def H0 (G : Nat → Option (List Value)) : Hp := ⟨0, .leaf, .leaf, G, 1⟩
def μ0 : Mu := ⟨fun _ => False, id, id, fun _ => none⟩
/-- All that is there is taken as what nothing writes. -/
noncomputable def μF (w : World) : Mu := ⟨fun _ => False, id, id, fun k => match w.heap[k]? with | some (.cells arr _ _) => some arr.toList | _ => none⟩
/-- The package-level variables hold what G says. -/
def Globals (G : Nat → Option (List Value)) (w : World) : Prop := ∀ g cs, G g = some cs → ∃ arr ty fz, w.heap[g]? = some (.cells arr ty fz) ∧ arr.toList = cs
theorem Globals.none (w : World) : Globals (fun _ => Option.none) w := fun g cs h => by cases h
theorem Globals.below {G : Nat → Option (List Value)} {w w' : World} (h : Globals G w) (hb : Below w.heap.size w w') : Globals G w' := fun g cs hg => by
  obtain ⟨arr, ty, fz, e1, e2⟩ := h g cs hg
  refine ⟨arr, ty, fz, ?_, e2⟩
  have hlt : g < w.heap.size := by
    rcases Nat.lt_or_ge g w.heap.size with h1 | h1
    · exact h1
    · rw [Array.getElem?_eq_none h1] at e1; cases e1
  rw [hb.block g hlt]; exact e1
theorem HR.start {G : Nat → Option (List Value)} {w : World} (h : Globals G w) : HR μ0 (H0 G) w :=
  ⟨Nat.one_pos, fun k h => h, fun b o h => by simp [H0, T.get_leaf] at h, fun b o h => by simp [H0, T.get_leaf] at h, fun b c o o' h => by simp [H0, T.get_leaf] at h, fun b cs g h => by simp [H0, T.get_leaf] at h,
    fun g cs hg => ⟨h g cs hg, fun b o h => by simp [H0, T.get_leaf] at h⟩, fun k vs h => by cases h⟩
theorem HR.startF {G : Nat → Option (List Value)} {w : World} (h : Globals G w) : HR (μF w) (H0 G) w :=
  ⟨Nat.one_pos, fun k h => h, fun b o h => by simp [H0, T.get_leaf] at h, fun b o h => by simp [H0, T.get_leaf] at h, fun b c o o' h => by simp [H0, T.get_leaf] at h, fun b cs g h => by simp [H0, T.get_leaf] at h,
    fun g cs hg => ⟨h g cs hg, fun b o h => by simp [H0, T.get_leaf] at h⟩, fun k vs hk => by
      refine ⟨?_, fun b o h => by simp [H0, T.get_leaf] at h⟩
      simp only [μF] at hk
      split at hk
      · rename_i arr ty fz e
        cases hk
        exact ⟨arr, ty, fz, e, fun i v hv => by rwa [Array.getElem?_toList] at hv⟩
      · cases hk⟩

/-- A call without arguments that the abstract machine has carried out to a literal value. -/
theorem calls_of_run {P : Program} (hm : P.follows .mixedOrders = true) {n : Nat} {f : FuncId} {v : Value} {G : Nat → Option (List Value)} {H' : Hp} (h : callF P (drawA P) n f [] (H0 G) = some (.lit v, H')) (w : World) (hG : Globals G w) :
    Calls P f #[] w (fun e w' => e = .returned v ∧ Below w.heap.size w w') := by
  refine ((runs_ok (drawA_ok hm) n).2.2 f [] (H0 G) _ H' h μ0 w #[] (.start hG) ⟨rfl, fun i h => by simp at h⟩).mono ?_
  rintro e w' ⟨u, μ', rfl, h1, h2⟩
  have := h2.lit_eq
  subst this
  exact ⟨rfl, h1.below fun b => T.get_leaf b⟩
end Go.Cam
namespace Go.Cam
open Go Go.RowKit

/-! ## Steps that keep the names below K alone -/
structure SK (K : Nat) (μ : Mu) (H : Hp) (w : World) (μ' : Mu) (H' : Hp) (w' : World) : Prop where
  hr : HR μ' H' w'
  le : ∀ b, b < K → μ.dom b → μ'.dom b ∧ μ'.blk b = μ.blk b ∧ μ'.size b = μ.size b
  img : ∀ b o, H'.blk.get b = some o → (∃ c o', H.blk.get c = some o' ∧ μ.blk c = μ'.blk b) ∨ w.heap.size ≤ μ'.blk b
  os : w'.os = w.os
  tape : w'.tape = w.tape
  output : w'.output = w.output
  size : w.heap.size ≤ w'.heap.size
  keep : ∀ k, k < w.heap.size → (∀ b o, H.blk.get b = some o → μ.blk b ≠ k) → w'.heap[k]? = w.heap[k]?
  dom : ∀ b, b < K → μ'.dom b → μ.dom b
  st : H'.str = 1 ∧ H'.gl = H.gl
  kn : K ≤ H'.next
  gr : ∀ b cs g, H'.blk.get b = some (.cells cs g) → g < K → ∃ c ds, H.blk.get c = some (.cells ds g)
  fm : ∀ k vs, μ.fz k = some vs → μ'.fz k = some vs
  nf : ∀ k vs, μ'.fz k = some vs → μ.fz k = some vs ∨ (∃ c o, H.blk.get c = some o ∧ μ.blk c = k) ∨ w.heap.size ≤ k

theorem SK.refl {K : Nat} {μ : Mu} {H : Hp} {w : World} (h : HR μ H w) (hs : H.str = 1) (hk : K ≤ H.next) : SK K μ H w μ H w :=
  ⟨h, fun b _ hb => ⟨hb, rfl, rfl⟩, fun b o hb => .inl ⟨b, o, hb, rfl⟩, rfl, rfl, rfl, Nat.le_refl _, fun _ _ _ => rfl, fun b _ hb => hb, ⟨hs, rfl⟩, hk, fun b cs _ hb _ => ⟨b, cs, hb⟩, fun _ _ h => h, fun _ _ h => .inl h⟩
theorem SK.trans {K : Nat} {μ1 μ2 μ3 : Mu} {H1 H2 H3 : Hp} {w1 w2 w3 : World} (a : SK K μ1 H1 w1 μ2 H2 w2) (b : SK K μ2 H2 w2 μ3 H3 w3) : SK K μ1 H1 w1 μ3 H3 w3 := by
  refine ⟨b.hr, ?_, ?_, b.os.trans a.os, b.tape.trans a.tape, b.output.trans a.output, Nat.le_trans a.size b.size, ?_, fun x hx h => a.dom x hx (b.dom x hx h), ⟨b.st.1, b.st.2.trans a.st.2⟩, b.kn, ?_, fun k vs h => b.fm k vs (a.fm k vs h), ?_⟩
  · intro x hx h
    obtain ⟨h1, h2, h3⟩ := a.le x hx h
    obtain ⟨k1, k2, k3⟩ := b.le x hx h1
    exact ⟨k1, k2.trans h2, k3.trans h3⟩
  · intro c o hc
    rcases b.img c o hc with ⟨d, o', hd, e⟩ | h
    · rcases a.img d o' hd with ⟨f, o2, hf, e2⟩ | h
      · exact .inl ⟨f, o2, hf, e2.trans e⟩
      · exact .inr (by omega)
    · exact .inr (Nat.le_trans a.size h)
  · intro k hk hne
    rw [b.keep k (Nat.lt_of_lt_of_le hk a.size) ?_, a.keep k hk hne]
    intro c o hc e
    rcases a.img c o hc with ⟨d, o', hd, e2⟩ | h
    · exact hne d o' hd (e2.trans e)
    · omega
  · intro x cs g hx hg
    obtain ⟨c, ds, h⟩ := b.gr x cs g hx hg
    exact a.gr c ds g h hg
  · intro k vs hk
    rcases b.nf k vs hk with h | ⟨c, o, hc, e⟩ | h
    · exact a.nf k vs h
    · rcases a.img c o hc with ⟨d, o', hd, e2⟩ | h
      · exact .inr (.inl ⟨d, o', hd, e2.trans e⟩)
      · exact .inr (.inr (by omega))
    · exact .inr (.inr (Nat.le_trans a.size h))
theorem SK.lower {K K' : Nat} (hk : K ≤ K') {μ μ' : Mu} {H H' : Hp} {w w' : World} (a : SK K' μ H w μ' H' w') : SK K μ H w μ' H' w' :=
  ⟨a.hr, fun b hb => a.le b (by omega), a.img, a.os, a.tape, a.output, a.size, a.keep, fun b hb => a.dom b (by omega), a.st, Nat.le_trans hk a.kn, fun b cs g h hg => a.gr b cs g h (by omega), a.fm, a.nf⟩
/-- A step keeps all names below the next one. -/
theorem Step.sk {μ μ' : Mu} {H H' : Hp} {w w' : World} (hs : H.str = 1) (a : Step μ H w μ' H' w') : SK H.next μ H w μ' H' w' := by
  obtain ⟨j, e, hd⟩ := a.nx
  rw [hs, Nat.mul_one] at e
  refine ⟨a.hr, fun b _ h => ⟨a.le.1 b h, (a.le.2 b h).1, (a.le.2 b h).2⟩, a.img, a.os, a.tape, a.output, a.size, a.keep, fun b hb h => ?_, ⟨a.st.1.trans hs, a.st.2⟩, by omega, fun b cs g h hg => ?_, a.le.3, a.nf⟩
  · rcases hd b h with h | ⟨i, _, h⟩
    · exact h
    · omega
  · rcases a.gr b cs g h with h | ⟨i, h⟩
    · exact h
    · omega
theorem HR.below {μ : Mu} {H : Hp} {w : World} (h : HR μ H w) (hs : H.str = 1) {b : Nat} (hb : μ.dom b) : b < H.next := by
  rcases Nat.lt_or_ge b H.next with h1 | h1
  · exact h1
  · have := h.next (b - H.next)
    rw [hs, Nat.mul_one, show H.next + (b - H.next) = b by omega] at this
    exact absurd hb this
theorem SK.step {μ μ' : Mu} {H H' : Hp} {w w' : World} (hs : H.str = 1) (hr : HR μ H w) (a : SK H.next μ H w μ' H' w') : Step μ H w μ' H' w' := by
  have kn := a.kn
  refine ⟨a.hr, ⟨fun b hb => (a.le b (hr.below hs hb) hb).1, fun b hb => (a.le b (hr.below hs hb) hb).2, a.fm⟩, a.img, a.os, a.tape, a.output, a.size, a.keep, ⟨H'.next - H.next, by rw [hs, Nat.mul_one]; omega, fun b hb => ?_⟩, ⟨a.st.1.trans hs.symm, a.st.2⟩, fun b cs g h => ?_, a.nf⟩
  · have h1 := a.hr.below a.st.1 hb
    rcases Nat.lt_or_ge b H.next with h2 | h2
    · exact .inl (a.dom b h2 hb)
    · exact .inr ⟨b - H.next, by omega, by rw [hs, Nat.mul_one]; omega⟩
  · rcases Nat.lt_or_ge g H.next with h2 | h2
    · exact .inl (a.gr b cs g h h2)
    · exact .inr ⟨g - H.next, by rw [hs, Nat.mul_one]; omega⟩

/-! ## Other names -/
/-- v says with new names (below N) what v1 says with old ones. -/
inductive Rn (σ : Nat → Nat) (N : Nat) : AV → AV → Prop where
  | lit (v : Value) : Rn σ N (.lit v) (.lit v)
  | ptr (b off : Nat) : b < N → Rn σ N (.ptr b off) (.ptr (σ b) off)
  | slice (b off len esz : Nat) (c : Option Nat) : b < N → Rn σ N (.slice b off len esz c) (.slice (σ b) off len esz c)
  | sliceE : Rn σ N .sliceE .sliceE
  | map (b : Nat) : b < N → Rn σ N (.map b) (.map (σ b))
  | func (fn : Fn) (l1 l2 m1 m2 : List AV) : l1.length = m1.length → l2.length = m2.length →
      (∀ i (h : i < l1.length) (h' : i < m1.length), Rn σ N l1[i] m1[i]) → (∀ i (h : i < l2.length) (h' : i < m2.length), Rn σ N l2[i] m2[i]) → Rn σ N (.func fn l1 l2) (.func fn m1 m2)
  | iface (t : TypeId) (v u : AV) : Rn σ N v u → Rn σ N (.iface t v) (.iface t u)
  | agg (l m : List AV) : l.length = m.length → (∀ i (h : i < l.length) (h' : i < m.length), Rn σ N l[i] m[i]) → Rn σ N (.agg l) (.agg m)
  | tuple (l m : List AV) : l.length = m.length → (∀ i (h : i < l.length) (h' : i < m.length), Rn σ N l[i] m[i]) → Rn σ N (.tuple l) (.tuple m)
  /-- in what nothing writes no names stand -/
  | frz (esz : Nat) (es : List (List AV)) : (∀ i (h : i < es.length) j (h' : j < es[i].length), Rn σ N es[i][j] es[i][j]) → Rn σ N (.frz esz es) (.frz esz es)
  | frp (cs : List AV) : (∀ i (h : i < cs.length), Rn σ N cs[i] cs[i]) → Rn σ N (.frp cs) (.frp cs)

def Mu.ren (μ : Mu) (σ : Nat → Nat) (N : Nat) : Mu := ⟨fun b => b < N ∧ μ.dom (σ b), fun b => μ.blk (σ b), fun b => μ.size (σ b), μ.fz⟩
theorem Rn.vr {σ : Nat → Nat} {N : Nat} {μ : Mu} {v v1 : AV} (h : Rn σ N v v1) : ∀ {u : Value}, VR μ v1 u → VR (μ.ren σ N) v u := by
  induction h with
  | lit v => intro u hu; rw [hu.lit_eq]; exact .lit _
  | ptr b off hb =>
    intro u hu
    cases hu with
    | ptr _ _ h => exact .ptr (μ := μ.ren σ N) b off ⟨hb, h⟩
  | slice b off len esz c hb =>
    intro u hu
    cases hu with
    | slice _ _ _ _ cap _ h h1 h2 h3 => exact .slice (μ := μ.ren σ N) b off len esz cap c ⟨hb, h⟩ h1 h2 h3
  | sliceE =>
    intro u hu
    cases hu with
    | sliceE a cap => exact .sliceE a cap
  | map b hb =>
    intro u hu
    cases hu with
    | map _ h => exact .map (μ := μ.ren σ N) b ⟨hb, h⟩
  | func fn l1 l2 m1 m2 e1 e2 _ _ i1 i2 =>
    intro u hu
    cases hu with
    | func _ _ _ a1 a2 k1 k2 g1 g2 => exact .func fn l1 l2 a1 a2 (e1.trans k1) (e2.trans k2) (fun i h h' => i1 i h (by omega) (g1 i (by omega) h')) (fun i h h' => i2 i h (by omega) (g2 i (by omega) h'))
  | iface t v u' _ ih =>
    intro u hu
    cases hu with
    | iface _ _ x g => exact .iface t v x (ih g)
  | agg l m e _ ih =>
    intro u hu
    cases hu with
    | agg _ a k g => exact .agg l a (e.trans k) fun i h h' => ih i h (by omega) (g i (by omega) h')
  | tuple l m e _ ih =>
    intro u hu
    cases hu with
    | tuple _ a k g => exact .tuple l a (e.trans k) fun i h h' => ih i h (by omega) (g i (by omega) h')
  | frz esz es _ ih =>
    intro u hu
    cases hu with
    | frz _ _ k off cap vs us h1 h2 h3 h4 h5 => exact .frz (μ := μ.ren σ N) esz es k off cap vs us h1 h2 h3 h4 fun i h j h' => ih i h j h' (h5 i h j h')
    | frzE _ a cap => exact .frzE esz a cap
    | frzN _ => exact .frzN esz
  | frp cs _ ih =>
    intro u hu
    cases hu with
    | frp _ k off vs us h1 h2 h3 => exact .frp (μ := μ.ren σ N) cs k off vs us h1 h2 fun i h => ih i h (h3 i h)

theorem Rn.flat {σ : Nat → Nat} {N : Nat} {v v1 : AV} (h : Rn σ N v v1) (hf : v1.flat = true) : v.flat = true := by
  cases h <;> first | rfl | exact hf

def RnC (σ : Nat → Nat) (N : Nat) (cs ds : List (Option AV)) : Prop := cs.length ≤ ds.length ∧ ∀ (i : Nat) (v : AV), cs[i]? = some (some v) → ∃ v1, ds[i]? = some (some v1) ∧ Rn σ N v v1
def RnE (σ : Nat → Nat) (N : Nat) (es fs : List (Value × AV)) : Prop := es.length = fs.length ∧ ∀ i (h : i < es.length) (h' : i < fs.length), fs[i].1 = es[i].1 ∧ Rn σ N es[i].2 fs[i].2
def RnO (σ : Nat → Nat) (N : Nat) : AObj → AObj → Prop
  | .cells cs _, .cells ds _ => RnC σ N cs ds
  | .map es, .map fs => RnE σ N es fs
  | .iter s p, .iter t q => s = t ∧ p = q
  | _, _ => False
theorem RnO.or {σ : Nat → Nat} {N : Nat} {μ : Mu} {o o1 : AObj} (h : RnO σ N o o1) {b : Nat} {x : Option Obj} (hx : OR μ o1 (σ b) x) : OR (μ.ren σ N) o b x := by
  cases o <;> cases o1 <;> first | (exact h.elim) | skip
  · obtain ⟨arr, tf, e, hs, hl, hc⟩ := hx
    refine ⟨arr, tf, e, hs, Nat.le_trans h.1 hl, fun i v hi => ?_⟩
    obtain ⟨v1, g1, g2⟩ := h.2 i v hi
    obtain ⟨u, k1, k2, k3⟩ := hc i v1 g1
    exact ⟨u, k1, g2.vr k2, g2.flat k3⟩
  · obtain ⟨arr, clock, e, hs, hc⟩ := hx
    refine ⟨arr, clock, e, h.1.trans hs, fun i h1 h2 => ?_⟩
    have hl := h.1
    obtain ⟨g1, g2⟩ := h.2 i h1 (by omega)
    obtain ⟨k1, k2⟩ := hc i (by omega) h2
    exact ⟨k1.trans g1, g2.vr k2⟩
  · obtain ⟨rfl, rfl⟩ := h
    exact hx

/-- H' and the frame fr' say with new names what H1 and fr1 say with old ones; names below K stay. -/
structure Ren (K : Nat) (σ : Nat → Nat) (fr1 : T AV) (H1 : Hp) (fr' : T AV) (H' : Hp) : Prop where
  low : ∀ b, b < K → σ b = b
  st : H'.str = 1 ∧ H'.gl = H1.gl
  kn : K ≤ H'.next
  fr : ∀ t v, fr'.get t = some v → ∃ v1, fr1.get t = some v1 ∧ Rn σ H'.next v v1
  blk : ∀ b o, H'.blk.get b = some o → b < H'.next ∧ ∃ o1, H1.blk.get (σ b) = some o1 ∧ RnO σ H'.next o o1
  inj : ∀ b c o o', H'.blk.get b = some o → H'.blk.get c = some o' → b ≠ c → σ b ≠ σ c
  grp : ∀ b cs g, H'.blk.get b = some (.cells cs g) → g < H'.next ∧ (∀ l, H'.grps.get g = some l → b ∈ l) ∧ ∃ c ds, H1.blk.get (σ g) = some c ∧ H1.blk.get (σ b) = some ds ∧ (g < K → ∃ d x, H1.blk.get d = some (.cells x g))
  mates : ∀ b c cs g ds g' x y k, H'.blk.get b = some (.cells cs g) → H'.blk.get c = some (.cells ds g') → H1.blk.get (σ b) = some (.cells x k) → H1.blk.get (σ c) = some (.cells y k) → g = g'

theorem Ren.sk {K : Nat} {σ : Nat → Nat} {fr1 fr' : T AV} {H H1 H' : Hp} {μ μ1 : Mu} {w w1 : World} (R : Ren K σ fr1 H1 fr' H') (s : SK K μ H w μ1 H1 w1) : SK K μ H w (μ1.ren σ H'.next) H' w1 := by
  refine ⟨⟨by rw [R.st.1]; exact Nat.one_pos, fun k hk => ?_, fun b o hb => ?_, fun b o hb => ?_, fun b c o o' hb hc hne => ?_, fun b cs g hb => ?_, fun g cs hg => ?_, fun k vs hk => ?_⟩, fun b hb h => ?_, fun b o hb => ?_, s.os, s.tape, s.output, s.size, s.keep, fun b hb h => ?_, ⟨R.st.1, R.st.2.trans s.st.2⟩, R.kn, fun b cs g hb hg => ?_, s.fm, s.nf⟩
  · have : H'.next + k * H'.str < H'.next := hk.1
    omega
  · obtain ⟨h1, o1, h2, _⟩ := R.blk b o hb
    exact ⟨h1, s.hr.dom _ _ h2⟩
  · obtain ⟨h1, o1, h2, h3⟩ := R.blk b o hb
    exact h3.or (s.hr.obj _ _ h2)
  · obtain ⟨_, o1, h2, h3⟩ := R.blk b o hb
    obtain ⟨_, o2, k2, k3⟩ := R.blk c o' hc
    rcases s.hr.apart _ _ _ _ h2 k2 (R.inj b c o o' hb hc hne) with h | h
    · left
      cases o1 <;> cases o2 <;> first | (exact h.elim) | skip
      cases o <;> first | (exact h3.elim) | skip
      cases o' <;> first | (exact k3.elim) | skip
      have h : _ = _ := h
      subst h
      exact R.mates b c _ _ _ _ _ _ _ hb hc h2 k2
    · exact .inr h
  · obtain ⟨h1, h2, c, ds, h3, _⟩ := R.grp b cs g hb
    exact ⟨⟨h1, s.hr.dom _ _ h3⟩, h2⟩
  · rw [R.st.2] at hg
    obtain ⟨h1, h2⟩ := s.hr.glob g cs hg
    refine ⟨h1, fun b o hb => ?_⟩
    obtain ⟨_, o1, k2, _⟩ := R.blk b o hb
    exact h2 _ _ k2
  · obtain ⟨h1, h2⟩ := s.hr.frozen k vs hk
    refine ⟨h1, fun b o hb => ?_⟩
    obtain ⟨_, o1, k2, _⟩ := R.blk b o hb
    exact h2 _ _ k2
  · obtain ⟨h1, h2, h3⟩ := s.le b hb h
    have e := R.low b hb
    have kn := R.kn
    refine ⟨⟨by omega, by rw [e]; exact h1⟩, ?_, ?_⟩
    · show μ1.blk (σ b) = _; rw [e]; exact h2
    · show μ1.size (σ b) = _; rw [e]; exact h3
  · obtain ⟨_, o1, k2, _⟩ := R.blk b o hb
    exact s.img _ _ k2
  · have : μ1.dom (σ b) := h.2
    rw [R.low b hb] at this
    exact s.dom b hb this
  · obtain ⟨_, _, c, ds, _, _, h3⟩ := R.grp b cs g hb
    obtain ⟨d, x, h4⟩ := h3 hg
    exact s.gr d x g h4 hg
theorem Ren.fr_ok {K : Nat} {σ : Nat → Nat} {fr1 fr' : T AV} {H1 H' : Hp} {μ1 : Mu} {a : Act} (R : Ren K σ fr1 H1 fr' H') (hf : FR μ1 fr1 a) : FR (μ1.ren σ H'.next) fr' a := fun t v ht => by
  obtain ⟨v1, h1, h2⟩ := R.fr t v ht
  obtain ⟨u, k1, k2⟩ := hf t v1 h1
  exact ⟨u, k1, h2.vr k2⟩
end Go.Cam
namespace Go.Cam
open Go Go.RowKit

def AllP : List Prop → Prop
  | [] => True
  | p :: l => p ∧ AllP l
theorem AllP.cat {l m : List Prop} : AllP (catL l m) ↔ AllP l ∧ AllP m := by
  induction l with
  | nil => simp [catL, AllP]
  | cons p l ih => simp only [catL, AllP, ih]; exact ⟨fun ⟨a, b, c⟩ => ⟨⟨a, b⟩, c⟩, fun ⟨⟨a, b⟩, c⟩ => ⟨a, b, c⟩⟩

def frameOf : List (Tmp × AV) → T AV
  | [] => .leaf
  | (t, v) :: r => (frameOf r).set fuelT t v
theorem frameOf_get {t : Nat} {v : AV} : ∀ {l : List (Tmp × AV)}, (frameOf l).get t = some v → (t, v) ∈ l
  | [], h => by rw [frameOf, T.get_leaf] at h; cases h
  | (x, y) :: r, h => by
    rcases T.get_set _ _ _ _ _ _ h with ⟨rfl, rfl⟩ | ⟨_, h2⟩
    · simp
    · exact List.mem_cons_of_mem _ (frameOf_get h2)
def nameF (K : Nat) (l : List (Nat × Nat)) (b : Nat) : Nat :=
  match Nat.blt b K with
  | true => b
  | false => go b l
  where go (b : Nat) : List (Nat × Nat) → Nat
  | [] => b
  | (x, y) :: r => match Nat.beq x b with
    | true => y
    | false => go b r

theorem nameF_low {K : Nat} {τ : List (Nat × Nat)} : ∀ b, b < K → nameF K τ b = b := by
  intro b hb
  unfold nameF
  have : Nat.blt b K = true := by simpa using hb
  rw [this]
/-! ## A path that ends in a heap with names of our choice -/
def treeOf {α : Type} : List (Nat × α) → T α
  | [] => .leaf
  | (t, v) :: r => (treeOf r).set fuelT t v
theorem treeOf_get {α : Type} {t : Nat} {v : α} : ∀ {l : List (Nat × α)}, (treeOf l).get t = some v → (t, v) ∈ l
  | [], h => by rw [treeOf, T.get_leaf] at h; cases h
  | (x, y) :: r, h => by
    rcases T.get_set _ _ _ _ _ _ h with ⟨rfl, rfl⟩ | ⟨_, h2⟩
    · simp
    · exact List.mem_cons_of_mem _ (treeOf_get h2)
def ownGs : List (Nat × AObj) → List (Nat × List Nat)
  | [] => []
  | (b, _) :: r => (b, [b]) :: ownGs r
theorem ownGs_mem {b : Nat} {l : List Nat} : ∀ {bs : List (Nat × AObj)}, (b, l) ∈ ownGs bs → l = [b]
  | (c, _) :: r, h => by
    simp only [ownGs] at h
    rcases List.mem_cons.1 h with h | h
    · cases h; rfl
    · exact ownGs_mem h
/-- A heap with these blocks, each in a group of its own. -/
def heapOf (nx : Nat) (bs : List (Nat × AObj)) (gl : Nat → Option (List Value)) : Hp := ⟨nx, treeOf bs, treeOf (ownGs bs), gl, 1⟩

def renFr (σ : Nat → Nat) (nx : Nat) (fr1 : T AV) : List (Tmp × AV) → Option (List Prop)
  | [] => some []
  | (t, v) :: r => match fr1.get t with
    | none => none
    | some v1 => match renFr σ nx fr1 r with
      | none => none
      | some l => some (Rn σ nx v v1 :: l)
theorem renFr_ok {σ : Nat → Nat} {nx : Nat} {fr1 : T AV} : ∀ {l : List (Tmp × AV)} {ps : List Prop}, renFr σ nx fr1 l = some ps → AllP ps → ∀ x ∈ l, ∃ v1, fr1.get x.1 = some v1 ∧ Rn σ nx x.2 v1
  | [], ps, h, ha, x, hx => by simp at hx
  | (t, v) :: r, ps, h, ha, x, hx => by
    simp only [renFr] at h
    split at h
    · cases h
    rename_i v1 hv
    split at h
    · cases h
    rename_i l hl
    cases h
    rcases List.mem_cons.1 hx with rfl | hx
    · exact ⟨v1, hv, ha.1⟩
    · exact renFr_ok hl ha.2 x hx
def grpN : AObj → Option Nat
  | .cells _ g => some g
  | _ => none
def grpIn (g : Option Nat) : List (Option Nat) → Bool
  | [] => false
  | x :: r => match natsEq x g with
    | true => true
    | false => grpIn g r
/-- The blocks that stay: their old names, their old groups, what is to be shown. -/
def renBs (K : Nat) (σ : Nat → Nat) (nx : Nat) (H1 : Hp) : List (Nat × AObj) → Option (List Nat × List (Option Nat) × List Prop)
  | [] => some ([], [], [])
  | (b, o) :: r => match H1.blk.get (σ b) with
    | none => none
    | some o1 => match renBs K σ nx H1 r with
      | none => none
      | some (ns, gs, ps) => match Nat.blt b nx && (grpOk b o && (!memN (σ b) ns && ((match grpN o1 with | none => true | some g => !grpIn (some g) gs && (match Nat.blt b K with | true => Nat.beq g b | false => true))))) with
        | true => some (σ b :: ns, grpN o1 :: gs, RnO σ nx o o1 :: ps)
        | false => none

theorem natsEq_refl (g : Option Nat) : natsEq g g = true := by cases g <;> simp [natsEq]
theorem grpIn_iff {g : Option Nat} : ∀ {l : List (Option Nat)}, g ∈ l → grpIn g l = true
  | x :: r, h => by
    simp only [grpIn]
    rcases List.mem_cons.1 h with rfl | h
    · rw [natsEq_refl]
    · split
      · rfl
      · exact grpIn_iff h

structure BsOk (K : Nat) (σ : Nat → Nat) (nx : Nat) (H1 : Hp) (bs : List (Nat × AObj)) : Prop where
  blk : ∀ x ∈ bs, x.1 < nx ∧ grpOk x.1 x.2 = true ∧ ∃ o1, H1.blk.get (σ x.1) = some o1 ∧ RnO σ nx x.2 o1 ∧ ∀ cs g, o1 = .cells cs g → x.1 < K → g = x.1
  inj : ∀ x ∈ bs, ∀ y ∈ bs, x.1 ≠ y.1 → σ x.1 ≠ σ y.1 ∧ ∀ cs ds g, H1.blk.get (σ x.1) = some (.cells cs g) → H1.blk.get (σ y.1) ≠ some (.cells ds g)

theorem renBs_ok {K : Nat} {σ : Nat → Nat} {nx : Nat} {H1 : Hp} : ∀ {bs : List (Nat × AObj)} {ns : List Nat} {gs : List (Option Nat)} {ps : List Prop}, renBs K σ nx H1 bs = some (ns, gs, ps) → AllP ps →
    BsOk K σ nx H1 bs ∧ (∀ x ∈ bs, σ x.1 ∈ ns) ∧ ∀ x ∈ bs, ∀ cs g, H1.blk.get (σ x.1) = some (.cells cs g) → some g ∈ gs
  | [], ns, gs, ps, h, ha => ⟨⟨fun x hx => by simp at hx, fun x hx => by simp at hx⟩, fun x hx => by simp at hx, fun x hx => by simp at hx⟩
  | (b, o) :: r, ns, gs, ps, h, ha => by
    simp only [renBs] at h
    split at h
    · cases h
    rename_i o1 ho1
    split at h
    · cases h
    rename_i ns' gs' ps' hr
    split at h
    case h_2 => cases h
    rename_i hc
    cases h
    simp only [Bool.and_eq_true, Bool.not_eq_true'] at hc
    obtain ⟨c1, c2, c3, c4⟩ := hc
    have c1 : b < nx := by simpa using c1
    obtain ⟨k1, k2, k3⟩ := renBs_ok hr ha.2
    have hnb : ∀ y ∈ r, σ b ≠ σ y.1 := by
      intro y hy e
      have := memN_iff.2 (k2 y hy)
      rw [← e, c3] at this; cases this
    have hng : ∀ y ∈ r, ∀ cs ds g, o1 = .cells cs g → H1.blk.get (σ y.1) ≠ some (.cells ds g) := by
      intro y hy cs ds g e hg
      have := grpIn_iff (k3 y hy ds g hg)
      subst e
      simp only [grpN, Bool.and_eq_true, Bool.not_eq_true'] at c4
      rw [this] at c4; exact absurd c4.1 (by simp)
    refine ⟨⟨fun x hx => ?_, fun x hx y hy hne => ?_⟩, fun x hx => ?_, fun x hx cs g hg => ?_⟩
    · rcases List.mem_cons.1 hx with rfl | hx
      · refine ⟨c1, c2, o1, ho1, ha.1, fun cs g e hK => ?_⟩
        subst e
        simp only [grpN, Bool.and_eq_true] at c4
        have hb : Nat.blt b K = true := by simpa using hK
        rw [hb] at c4
        exact Nat.eq_of_beq_eq_true c4.2
      · exact k1.blk x hx
    · rcases List.mem_cons.1 hx with rfl | hx <;> rcases List.mem_cons.1 hy with rfl | hy
      · exact absurd rfl hne
      · refine ⟨hnb y hy, fun cs ds g h1 h2 => ?_⟩
        simp only at h1
        rw [ho1] at h1; cases h1
        exact hng y hy cs ds g rfl h2
      · refine ⟨(hnb x hx).symm, fun cs ds g h1 h2 => ?_⟩
        simp only at h2
        rw [ho1] at h2; cases h2
        exact hng x hx ds cs g rfl h1
      · exact k1.inj x hx y hy hne
    · rcases List.mem_cons.1 hx with rfl | hx
      · simp
      · exact List.mem_cons_of_mem _ (k2 x hx)
    · rcases List.mem_cons.1 hx with rfl | hx
      · simp only at hg; rw [ho1] at hg; cases hg; simp [grpN]
      · exact List.mem_cons_of_mem _ (k3 x hx cs g hg)

theorem ren_of {K : Nat} {σ : Nat → Nat} {nx : Nat} {fr1 : T AV} {H1 : Hp} {l : List (Tmp × AV)} {bs : List (Nat × AObj)} {gl : Nat → Option (List Value)} (hlow : ∀ b, b < K → σ b = b) (hk : K ≤ nx) (hg : gl = H1.gl)
    (hf : ∀ x ∈ l, ∃ v1, fr1.get x.1 = some v1 ∧ Rn σ nx x.2 v1) (hb : BsOk K σ nx H1 bs) : Ren K σ fr1 H1 (frameOf l) (heapOf nx bs gl) := by
  have mem : ∀ {b : Nat} {o : AObj}, (heapOf nx bs gl).blk.get b = some o → (b, o) ∈ bs := fun h => treeOf_get h
  have own : ∀ {b : Nat} {cs : List (Option AV)} {g : Nat}, (b, AObj.cells cs g) ∈ bs → g = b := fun h => Nat.eq_of_beq_eq_true (hb.blk _ h).2.1
  refine ⟨hlow, ⟨rfl, hg⟩, hk, fun t v h => hf (t, v) (frameOf_get h), fun b o h => ?_, fun b c o o' h1 h2 hne => (hb.inj _ (mem h1) _ (mem h2) hne).1, fun b cs g h => ?_, fun b c cs g ds g' x y k h1 h2 h3 h4 => ?_⟩
  · obtain ⟨a1, _, o1, a2, a3, _⟩ := hb.blk _ (mem h)
    exact ⟨a1, o1, a2, a3⟩
  · have hm := mem h
    have e := own hm
    subst e
    obtain ⟨a1, _, o1, a2, a3, a4⟩ := hb.blk _ hm
    refine ⟨a1, fun l hl => ?_, o1, o1, a2, a2, fun hK => ?_⟩
    · rw [ownGs_mem (treeOf_get hl)]; simp
    · cases o1 with
      | cells ds g' =>
        have e2 := a4 ds g' rfl hK
        simp only at e2
        subst e2
        exact ⟨_, ds, a2⟩
      | _ => exact a3.elim
  · by_cases hbc : b = c
    · subst hbc
      have e1 := own (mem h1)
      have e2 := own (mem h2)
      rw [e1, e2]
    · exact absurd h4 ((hb.inj _ (mem h1) _ (mem h2) hbc).2 x y k h3)

end Go.Cam
namespace Go.Cam
open Go Go.RowKit

/-! ## What code does, exactly -/
def DoesC (P : Program) (K nt : Nat) (c : Code) (fr : T AV) (H : Hp) (e : AEx) (fr' : T AV) (H' : Hp) : Prop :=
  ∀ (μ : Mu) (a : Act) (w : World) (Q : Exit → Act → World → Prop), HR μ H w → H.str = 1 → K ≤ H.next → FR μ fr a → a.tmps.size = nt →
    (∀ μ' a' w', SK K μ H w μ' H' w' → FR μ' fr' a' → a'.tmps.size = nt → a'.defers = a.defers → Q e.to a' w') → c.wp P Q a w
def Does (P : Program) (f : FuncId) (args : List AV) (H : Hp) (v : AV) (H' : Hp) : Prop :=
  ∀ μ w us, HR μ H w → VRs μ args us → Calls P f us w (fun e w' => ∃ u μ', e = .returned u ∧ Step μ H w μ' H' w' ∧ VR μ' v u)
theorem does_of_call {P : Program} {call : CallF} (h : CallOk P call) {f : FuncId} {args : List AV} {H H' : Hp} {v : AV} (hc : call f args H = some (v, H')) : Does P f args H v H' := h f args H v H' hc

variable {P : Program} {K nt : Nat} {fr fr1 fr' : T AV} {H H1 H' : Hp} {e : AEx}

theorem DoesC.seq {x y : Code} (hx : DoesC P K nt x fr H .normal fr1 H1) (hy : DoesC P K nt y fr1 H1 e fr' H') : DoesC P K nt (.seq x y) fr H e fr' H' := by
  intro μ a w Q hr hs hk hf hn hQ
  refine wp_seq (hx μ a w _ hr hs hk hf hn fun μ1 a1 w1 q1 q2 q3 q4 => ?_)
  exact hy μ1 a1 w1 Q q1.hr q1.st.1 q1.kn q2 q3 fun μ2 a2 w2 k1 k2 k3 k4 => hQ μ2 a2 w2 (q1.trans k1) k2 k3 (k4.trans q4)
theorem DoesC.seq_out {x y : Code} (hx : DoesC P K nt x fr H e fr' H') (he : e ≠ .normal) : DoesC P K nt (.seq x y) fr H e fr' H' := by
  intro μ a w Q hr hs hk hf hn hQ
  refine wp_seq (hx μ a w _ hr hs hk hf hn fun μ1 a1 w1 q1 q2 q3 q4 => ?_)
  have := hQ μ1 a1 w1 q1 q2 q3 q4
  cases e with
  | normal => exact absurd rfl he
  | exit id => exact this
  | ret => exact this
theorem DoesC.cond {c : Operand} {b : Bool} {x y : Code} (hc : evalA fr c = some (.lit (.bool b))) (h : DoesC P K nt (match b with | true => x | false => y) fr H e fr' H') : DoesC P K nt (.cond c x y) fr H e fr' H' := by
  intro μ a w Q hr hs hk hf hn hQ
  cases b with
  | true => exact wp_cond_true (evalA_ok hf hc).lit_eq (h μ a w Q hr hs hk hf hn hQ)
  | false => exact wp_cond_false (evalA_ok hf hc).lit_eq (h μ a w Q hr hs hk hf hn hQ)
theorem DoesC.block {id : Nat} {x : Code} (h : DoesC P K nt x fr H e fr' H') : DoesC P K nt (.block id x) fr H (e.block id) fr' H' := by
  intro μ a w Q hr hs hk hf hn hQ
  refine wp_block (h μ a w _ hr hs hk hf hn fun μ1 a1 w1 q1 q2 q3 q4 => ?_)
  have := hQ μ1 a1 w1 q1 q2 q3 q4
  cases e with
  | normal => exact this
  | ret => exact this
  | exit id' =>
    simp only [AEx.to, Exit.inBlock]
    simp only [AEx.block] at this
    by_cases hid : id' = id
    · rw [if_pos hid]
      subst hid
      rw [show Nat.beq id' id' = true from Nat.beq_refl id'] at this
      exact this
    · rw [if_neg hid]
      have hb : Nat.beq id' id = false := by rw [Bool.eq_false_iff]; intro e; exact hid (Nat.eq_of_beq_eq_true e)
      rw [hb] at this
      exact this
theorem DoesC.skip : DoesC P K nt .skip fr H .normal fr H := fun μ a w _ hr hs hk hf hn hQ => wp_skip (hQ μ a w (.refl hr hs hk) hf hn rfl)
theorem DoesC.label {l : Nat} : DoesC P K nt (.label l) fr H .normal fr H := fun μ a w _ hr hs hk hf hn hQ => wp_label (hQ μ a w (.refl hr hs hk) hf hn rfl)
theorem DoesC.exit {id : Nat} : DoesC P K nt (.exit id) fr H (.exit id) fr H := fun μ a w _ hr hs hk hf hn hQ => wp_exit (hQ μ a w (.refl hr hs hk) hf hn rfl)
theorem DoesC.ret : DoesC P K nt .ret fr H .ret fr H := fun μ a w _ hr hs hk hf hn hQ => wp_ret (hQ μ a w (.refl hr hs hk) hf hn rfl)
/-- What a loop with this body does. -/
def DoesL (P : Program) (K nt : Nat) (c : Code) (fr : T AV) (H : Hp) (e : AEx) (fr' : T AV) (H' : Hp) : Prop :=
  ∃ n, ∀ (μ : Mu) (a : Act) (w : World) (Q : Exit → Act → World → Prop), HR μ H w → H.str = 1 → K ≤ H.next → FR μ fr a → a.tmps.size = nt →
    (∀ μ' a' w', SK K μ H w μ' H' w' → FR μ' fr' a' → a'.tmps.size = nt → a'.defers = a.defers → Q e.to a' w') → Code.rounds P c Q n a w
/-- A loop's round that goes on. -/
theorem DoesL.round {x : Code} (hx : DoesC P K nt x fr H .normal fr1 H1) (hl : DoesL P K nt x fr1 H1 e fr' H') : DoesL P K nt x fr H e fr' H' := by
  obtain ⟨n, hl⟩ := hl
  refine ⟨n + 1, fun μ a w Q hr hs hk hf hn hQ => ?_⟩
  rw [rounds_succ]
  refine hx μ a w _ hr hs hk hf hn fun μ1 a1 w1 q1 q2 q3 q4 => ?_
  exact hl μ1 a1 w1 Q q1.hr q1.st.1 q1.kn q2 q3 fun μ2 a2 w2 k1 k2 k3 k4 => hQ μ2 a2 w2 (q1.trans k1) k2 k3 (k4.trans q4)
theorem DoesL.out {x : Code} (hx : DoesC P K nt x fr H e fr' H') (he : e ≠ .normal) : DoesL P K nt x fr H e fr' H' := by
  refine ⟨1, fun μ a w Q hr hs hk hf hn hQ => ?_⟩
  rw [rounds_succ]
  refine hx μ a w _ hr hs hk hf hn fun μ1 a1 w1 q1 q2 q3 q4 => ?_
  have := hQ μ1 a1 w1 q1 q2 q3 q4
  cases e with
  | normal => exact absurd rfl he
  | exit id => exact this
  | ret => exact this
theorem DoesL.ren {c : Code} {σ : Nat → Nat} (h : DoesL P K nt c fr H e fr1 H1) (R : Ren K σ fr1 H1 fr' H') : DoesL P K nt c fr H e fr' H' := by
  obtain ⟨n, h⟩ := h
  exact ⟨n, fun μ a w Q hr hs hk hf hn hQ => h μ a w Q hr hs hk hf hn fun μ1 a1 w1 q1 q2 q3 q4 => hQ _ a1 w1 (R.sk q1) (R.fr_ok q2) q3 q4⟩
theorem DoesL.pre {c : Code} {σ : Nat → Nat} (R : Ren K σ fr H fr1 H1) (h : DoesL P K nt c fr1 H1 e fr' H') : DoesL P K nt c fr H e fr' H' := by
  obtain ⟨n, h⟩ := h
  refine ⟨n, fun μ a w Q hr hs hk hf hn hQ => ?_⟩
  have s := R.sk (SK.refl (w := w) hr hs hk)
  exact h _ a w Q s.hr s.st.1 s.kn (R.fr_ok hf) hn fun μ1 a1 w1 q1 q2 q3 q4 => hQ μ1 a1 w1 (s.trans q1) q2 q3 q4
theorem DoesL.loop {c : Code} (h : DoesL P K nt c fr H e fr' H') : DoesC P K nt (.loop c) fr H e fr' H' := by
  obtain ⟨n, h⟩ := h
  intro μ a w Q hr hs hk hf hn hQ
  exact wp_loop_rounds n (h μ a w Q hr hs hk hf hn hQ)
/-- New names at the end. -/
theorem DoesC.ren {c : Code} {σ : Nat → Nat} (h : DoesC P K nt c fr H e fr1 H1) (R : Ren K σ fr1 H1 fr' H') : DoesC P K nt c fr H e fr' H' := by
  intro μ a w Q hr hs hk hf hn hQ
  exact h μ a w Q hr hs hk hf hn fun μ1 a1 w1 q1 q2 q3 q4 => hQ _ a1 w1 (R.sk q1) (R.fr_ok q2) q3 q4
/-- New names at the begin. -/
theorem DoesC.pre {c : Code} {σ : Nat → Nat} (R : Ren K σ fr H fr1 H1) (h : DoesC P K nt c fr1 H1 e fr' H') : DoesC P K nt c fr H e fr' H' := by
  intro μ a w Q hr hs hk hf hn hQ
  have s := R.sk (SK.refl (w := w) hr hs hk)
  exact h _ a w Q s.hr s.st.1 s.kn (R.fr_ok hf) hn fun μ1 a1 w1 q1 q2 q3 q4 => hQ μ1 a1 w1 (s.trans q1) q2 q3 q4
theorem DoesC.lower {K' : Nat} (hkk : K ≤ K') (hk' : K' ≤ H.next) {c : Code} (h : DoesC P K' nt c fr H e fr' H') : DoesC P K nt c fr H e fr' H' := by
  intro μ a w Q hr hs hk hf hn hQ
  exact h μ a w Q hr hs hk' hf hn fun μ1 a1 w1 q1 q2 q3 q4 => hQ μ1 a1 w1 (q1.lower hkk) q2 q3 q4
theorem DoesC.of_exec (hm : P.follows .mixedOrders = true) {n : Nat} {c : Code} (h : exec P (drawA P) n nt c fr H = some (e, fr', H')) : DoesC P K nt c fr H e fr' H' := by
  intro μ a w Q hr hs hk hf hn hQ
  exact (runs_ok (drawA_ok hm) n).1 nt c fr H e fr' H' h μ a w Q hr hf hn fun μ1 a1 w1 q1 q2 q3 q4 => hQ μ1 a1 w1 ((q1.sk hs).lower hk) q2 q3 q4

/-- A function by its body. -/
theorem does_of_body {f : FuncId} {fn : Func} {c : Code} {args : List AV} {l : List AV} {σ : Nat → Nat} {v : AV} (hs : H.str = 1) (hfn : getFn P f = some fn) (hb : fn.body = some c) (h : DoesC P H.next (lenL args + (fn.ntmps - lenL args)) c (frameA 0 args .leaf) H e fr1 H1)
    (he : e = .normal ∨ e = .ret) (hl : resultsA P fr1 H1 fn.results.toList = some l) (R : Ren H.next σ .leaf H1 .leaf H') (hv : Rn σ H'.next v (oneA l)) : Does P f args H v H' := by
  intro μ w us hr hvs
  have hnt : lenL args + (fn.ntmps - lenL args) = ((us ++ Array.replicate (fn.ntmps - us.size) undef).size) := by
    rw [lenL_eq, hvs.1]; simp
  have hfn' : P.funcs[f]? = some fn := hfn
  refine calls_of_wp hfn' hb (h μ _ w _ hr hs (Nat.le_refl _) (frameA_ok _ hvs) hnt.symm fun μ1 a1 w1 q1 q2 q3 q4 => ?_)
  obtain ⟨u, k1, k2⟩ := results_ok (P := P) (w := w1) q1.hr q2 hl
  have fin : a1.defers = [] ∧ ∃ u', (results fn a1.tmps).run P w1 = .ok u' w1 ∧ ∃ u μ', Ending.returned u' = .returned u ∧ Step μ H w μ' H' w1 ∧ VR μ' v u := ⟨q4, u, k1, u, _, rfl, (R.sk q1).step hs hr, hv.vr k2⟩
  rcases he with rfl | rfl
  · exact fin
  · exact fin
end Go.Cam
