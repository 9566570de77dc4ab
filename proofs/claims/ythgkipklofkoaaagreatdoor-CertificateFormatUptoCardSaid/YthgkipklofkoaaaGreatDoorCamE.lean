/-
  An abstract machine over the model, proved sound: part E. For whatever program.
-/
import Derived.Test.YthgkipklofkoaaaGreatDoorCamD
namespace Go.Cam
open Go Go.RowKit

/-! ## The machine with a supply: decisions and results that are shown elsewhere -/
inductive It where
  | auto (n : Nat)
  | dec (b : Bool)
  | giv (v : AV)
  | givL (v : AV)
  | givH (v : AV) (H : Hp)
  | call (v : AV)
  | callH (v : AV) (H : Hp)
  | enter
  | round
  | loop0 (keep : List Tmp) (e : AEx) (fr' : T AV) (H' : Hp)
  | loopR (τ : List (Nat × Nat)) (nx : Nat) (l : List (Tmp × AV)) (bs : List (Nat × AObj)) (e : AEx) (fr' : T AV) (H' : Hp)
  | loop (σ : List (Nat × Nat)) (fr : T AV) (H : Hp) (e : AEx) (fr' : T AV) (H' : Hp)

def strip : List It → List It
  | .auto 0 :: r => strip r
  | s => s

theorem loadGs_gl {g : Nat} {H H' : Hp} (hg : H.gl = H'.gl) : ∀ {n off : Nat}, loadGs g H off n = loadGs g H' off n
  | 0, off => rfl
  | n + 1, off => by
    have e : loadG g off H = loadG g off H' := by unfold loadG; rw [hg]
    simp only [loadGs, e, loadGs_gl hg (n := n) (off := off + 1)]
theorem loadA_lit {P : Program} {t : TypeId} {u : Value} {H H' : Hp} (hg : H.gl = H'.gl) : loadA P t (.lit u) H = loadA P t (.lit u) H' := by
  have e : ∀ g off, loadG g off H = loadG g off H' := fun g off => by unfold loadG; rw [hg]
  unfold loadA
  cases tinf P t with
  | none => rfl
  | some i =>
    simp only
    cases u with
    | pointer p =>
      cases p with
      | none => rfl
      | some a =>
        obtain ⟨g, off, x⟩ := a
        cases x with
        | none => simp only [e, loadGs_gl hg]
        | some _ => rfl
    | _ => rfl
/-- What is to be shown of a result that is given: the heap stays. -/
def givenV (P : Program) (fr : T AV) (H : Hp) (o : Oper) (v : AV) : Prop :=
  match o.op with
  | .load t x => match evalA fr x with
    | some a => loadA P t a H = some v
    | none => False
  | .binOp op t x y _ => match evalA fr x, evalA fr y with
    | some a, some b => binA P op t x y a b = some v
    | _, _ => False
  | .slice t x lo hi none => match evalA fr x, evalOA fr lo, evalOA fr hi with
    | some a, some l, some h => sliceA P t a l h H = some v
    | _, _, _ => False
  | .fieldAddr t x f => match evalA fr x with
    | some a => fieldAddrA P t a f = some v
    | none => False
  | .field t x f => match evalA fr x with
    | some a => fieldA P t a f = some v
    | none => False
  | .indexAddr t x i => match evalA fr x, evalA fr i with
    | some a, some b => indexAddrA P t a b = some v
    | _, _ => False
  | .index t x i => match evalA fr x, evalA fr i with
    | some a, some b => indexA P t a b = some v
    | _, _ => False
  | .lookup t x i ok => match evalA fr x, evalA fr i with
    | some a, some b => lookupA P t a b ok H = some v
    | _, _ => False
  | .convert src dst x => match evalA fr x with
    | some a => convertA P src dst a H = some (v, H)
    | none => False
  | .call c => match c.callee with
    | .builtin b => match evalsA fr c.args.toList with
      | some l => builtinA P H b c.argTypes o.type l = some (.val v H)
      | none => False
    | _ => False
  | _ => False
theorem givenV_op {fr : T AV} {H : Hp} {o : Oper} {v : AV} {P : Program} (h : givenV P fr H o v) : opA P fr H o = some (.val v H) := by
  unfold givenV at h
  unfold opA
  cases hop : o.op <;> rw [hop] at h <;> try (exact h.elim)
  case load t x =>
    simp only at h ⊢
    cases hx : evalA fr x with
    | none => rw [hx] at h; exact h.elim
    | some a => rw [hx] at h; simp only at h ⊢; rw [h]; rfl
  case binOp op t x y _ =>
    simp only at h ⊢
    cases hx : evalA fr x with
    | none => rw [hx] at h; exact h.elim
    | some a =>
      cases hy : evalA fr y with
      | none => rw [hx, hy] at h; exact h.elim
      | some b => rw [hx, hy] at h; simp only at h ⊢; rw [h]; rfl
  case slice t x lo hi mx =>
    cases mx with
    | some m => exact h.elim
    | none =>
      simp only at h ⊢
      cases hx : evalA fr x with
      | none => rw [hx] at h; exact h.elim
      | some a =>
        cases hl : evalOA fr lo with
        | none => rw [hx, hl] at h; exact h.elim
        | some l =>
          cases hh : evalOA fr hi with
          | none => rw [hx, hl, hh] at h; exact h.elim
          | some l2 => rw [hx, hl, hh] at h; simp only at h ⊢; rw [h]; rfl
  case fieldAddr t x f =>
    simp only at h ⊢
    cases hx : evalA fr x with
    | none => rw [hx] at h; exact h.elim
    | some a => rw [hx] at h; simp only at h ⊢; rw [h]; rfl
  case field t x f =>
    simp only at h ⊢
    cases hx : evalA fr x with
    | none => rw [hx] at h; exact h.elim
    | some a => rw [hx] at h; simp only at h ⊢; rw [h]; rfl
  case indexAddr t x i =>
    simp only at h ⊢
    cases hx : evalA fr x with
    | none => rw [hx] at h; exact h.elim
    | some a =>
      cases hy : evalA fr i with
      | none => rw [hx, hy] at h; exact h.elim
      | some b => rw [hx, hy] at h; simp only at h ⊢; rw [h]; rfl
  case index t x i =>
    simp only at h ⊢
    cases hx : evalA fr x with
    | none => rw [hx] at h; exact h.elim
    | some a =>
      cases hy : evalA fr i with
      | none => rw [hx, hy] at h; exact h.elim
      | some b => rw [hx, hy] at h; simp only at h ⊢; rw [h]; rfl
  case lookup t x i ok =>
    simp only at h ⊢
    cases hx : evalA fr x with
    | none => rw [hx] at h; exact h.elim
    | some a =>
      cases hy : evalA fr i with
      | none => rw [hx, hy] at h; exact h.elim
      | some b => rw [hx, hy] at h; simp only at h ⊢; rw [h]; rfl
  case convert src dst x =>
    simp only at h ⊢
    cases hx : evalA fr x with
    | none => rw [hx] at h; exact h.elim
    | some a => rw [hx] at h; simp only at h ⊢; rw [h]; rfl
  case call c =>
    simp only at h ⊢
    cases hc : c.callee with
    | builtin b =>
      rw [hc] at h
      simp only at h ⊢
      cases hl : evalsA fr c.args.toList with
      | none => rw [hl] at h; exact h.elim
      | some l => rw [hl] at h; exact h
    | value f => rw [hc] at h; exact h.elim
    | invoke r m => rw [hc] at h; exact h.elim
/-- What is to be shown of what is read through a pointer that is a literal. -/
def givenL (P : Program) (fr : T AV) (H : Hp) (o : Oper) (v : AV) : Prop :=
  match o.op with
  | .load t x => match evalA fr x with
    | some (.lit a) => loadA P t (.lit a) ⟨0, .leaf, .leaf, H.gl, 1⟩ = some v
    | _ => False
  | _ => False
theorem givenL_V {fr : T AV} {H : Hp} {o : Oper} {v : AV} {P : Program} (h : givenL P fr H o v) : givenV P fr H o v := by
  unfold givenL at h
  unfold givenV
  cases hop : o.op <;> rw [hop] at h <;> try (exact h.elim)
  case load t x =>
    simp only at h ⊢
    cases hx : evalA fr x with
    | none => rw [hx] at h; exact h.elim
    | some a =>
      rw [hx] at h
      cases a with
      | lit u =>
        simp only at h ⊢
        rw [← loadA_lit (H := ⟨0, .leaf, .leaf, H.gl, 1⟩) (H' := H) rfl]; exact h
      | _ => exact h.elim
/-- What is to be shown of a result that is given: the heap becomes H'. -/
def givenH (P : Program) (fr : T AV) (H : Hp) (o : Oper) (v : AV) (H' : Hp) : Prop :=
  match o.op with
  | .store t x y => match evalA fr x, evalA fr y with
    | some a, some b => storeA P t a b H = some H' ∧ v = .lit undef
    | _, _ => False
  | .convert src dst x => match evalA fr x with
    | some a => convertA P src dst a H = some (v, H')
    | none => False
  | .makeSlice t l c => match evalA fr l, evalA fr c with
    | some a, some b => makeSliceA P t a b H = some (v, H')
    | _, _ => False
  | .call c => match c.callee with
    | .builtin b => match evalsA fr c.args.toList with
      | some l => builtinA P H b c.argTypes o.type l = some (.val v H')
      | none => False
    | _ => False
  | _ => False
theorem givenH_op {fr : T AV} {H H' : Hp} {o : Oper} {v : AV} {P : Program} (call : CallF) (h : givenH P fr H o v H') : stepA P call fr H o = some (v, H') := by
  unfold givenH at h
  unfold stepA opA
  cases hop : o.op <;> rw [hop] at h <;> try (exact h.elim)
  case store t x y =>
    simp only at h ⊢
    cases hx : evalA fr x with
    | none => rw [hx] at h; exact h.elim
    | some a =>
      cases hy : evalA fr y with
      | none => rw [hx, hy] at h; exact h.elim
      | some b => rw [hx, hy] at h; simp only at h ⊢; rw [h.1, h.2]; rfl
  case convert src dst x =>
    simp only at h ⊢
    cases hx : evalA fr x with
    | none => rw [hx] at h; exact h.elim
    | some a => rw [hx] at h; simp only at h ⊢; rw [h]; rfl
  case makeSlice t l c =>
    simp only at h ⊢
    cases hx : evalA fr l with
    | none => rw [hx] at h; exact h.elim
    | some a =>
      cases hy : evalA fr c with
      | none => rw [hx, hy] at h; exact h.elim
      | some b => rw [hx, hy] at h; simp only at h ⊢; rw [h]; rfl
  case call c =>
    simp only at h ⊢
    cases hc : c.callee with
    | builtin b =>
      rw [hc] at h
      simp only at h ⊢
      cases hl : evalsA fr c.args.toList with
      | none => rw [hl] at h; exact h.elim
      | some l => rw [hl] at h; simp only at h ⊢; rw [h]
    | value f => rw [hc] at h; exact h.elim
    | invoke r m => rw [hc] at h; exact h.elim

/-- A call of what is shown elsewhere. -/
theorem opDoes_call {P : Program} {fr : T AV} {H H' : Hp} {o : Oper} {g : FuncId} {l : List AV} {v : AV} (hop : opA P fr H o = some (.call g l)) (h : Does P g l H v H') : OpDoes P o fr H v H' := by
  intro μ a w K Q hr hf hK
  obtain ⟨us, h1, h2⟩ := opA_ok hr hf hop
  unfold Oper.wp
  rw [h1, Oper.upon_enter]
  refine (h μ w us hr h2).mono ?_
  rintro e w' ⟨u, μ', rfl, h3, h4⟩
  exact hK u μ' w' h3 h4

def heapless : Op → Bool
  | .load .. | .lookup .. | .slice .. | .call _ => false
  | _ => true
theorem heapless_op {P : Program} {fr : T AV} {H H1 M : Hp} {o : Oper} {v : AV} (hl : heapless o.op = true) (hs : softOp P o.op = true) (h : opA P fr H o = some (.val v H1)) : ∃ M1, opA P fr M o = some (.val v M1) := by
  unfold opA at h ⊢
  cases hop : o.op <;> rw [hop] at h hl hs <;> first | (simp [softOp] at hs; done) | (simp [heapless] at hl; done) | skip
  all_goals simp only at h ⊢
  case move x =>
    cases hx : evalA fr x with
    | none => rw [hx] at h; cases h
    | some a => rw [hx] at h; cases h; exact ⟨M, rfl⟩
  case assign x =>
    cases hx : evalA fr x with
    | none => rw [hx] at h; cases h
    | some a => rw [hx] at h; cases h; exact ⟨M, rfl⟩
  case pick c x y =>
    split at h
    · cases h; exact ⟨M, rfl⟩
    · cases h; exact ⟨M, rfl⟩
    · cases h
  case build t parts =>
    split at h
    · rename_i ps hx
      cases hq : buildA P t ps with
      | none => rw [hq] at h; cases h
      | some r => rw [hq] at h; cases h; exact ⟨M, rfl⟩
    · cases h
  case nilCheck x =>
    split at h
    · cases h; exact ⟨M, rfl⟩
    · cases h; exact ⟨M, rfl⟩
    · cases h; exact ⟨M, rfl⟩
    · cases h
  case binOp op t x y yt =>
    split at h
    · rename_i a b hx hy
      cases hq : binA P op t x y a b with
      | none => rw [hq] at h; cases h
      | some r => rw [hq] at h; cases h; exact ⟨M, rfl⟩
    · cases h
  case unOp op t x =>
    split at h
    · split at h
      · rename_i a ha u hu
        cases hq : pureV P (Op.unary op u) with
        | none => rw [hq] at h; cases h
        | some r => rw [hq] at h; cases h; exact ⟨M, rfl⟩
      · cases h
    · cases h
  case convert src dst x =>
    split at h
    · rename_i a ha
      have hint : ∃ j k, tinf P dst = some j ∧ j.desc = .int k := by
        simp only [softOp, softConv] at hs
        split at hs
        · rename_i j hj
          split at hs
          · rename_i k hk; exact ⟨j, k, hj, hk⟩
          · cases hs
        · cases hs
      obtain ⟨j, k, hj, hk⟩ := hint
      have hB : ∀ H, toBytesA P src dst a H = none := by
        intro H
        unfold toBytesA
        rw [hj]
        cases tinf P src with
        | none => rfl
        | some i => simp only [hk]; cases i.desc <;> rfl
      have hS : ∀ H, toStringA P src dst a H = none := by
        intro H
        unfold toStringA
        rw [hj]
        cases tinf P src with
        | none => rfl
        | some i => simp only [hk]; cases i.desc <;> rfl
      unfold convertA at h ⊢
      split at h
      · rename_i r hq
        cases h
        exact ⟨M, rfl⟩
      · rename_i hq
        rw [hB, hS] at h
        cases h
    · cases h
  case makeInterface t x =>
    split at h
    · split at h
      · split at h
        · cases h
        · cases h; exact ⟨M, rfl⟩
      · cases h
    · cases h
  case makeFunc fn first captured =>
    split at h
    · cases h; exact ⟨M, rfl⟩
    · cases h
  case fieldAddr t x f =>
    split at h
    · rename_i a ha
      cases hq : fieldAddrA P t a f with
      | none => rw [hq] at h; cases h
      | some r => rw [hq] at h; cases h; exact ⟨M, rfl⟩
    · cases h
  case field t x f =>
    split at h
    · rename_i a ha
      cases hq : fieldA P t a f with
      | none => rw [hq] at h; cases h
      | some r => rw [hq] at h; cases h; exact ⟨M, rfl⟩
    · cases h
  case indexAddr t x i =>
    split at h
    · rename_i a b hx hy
      cases hq : indexAddrA P t a b with
      | none => rw [hq] at h; cases h
      | some r => rw [hq] at h; cases h; exact ⟨M, rfl⟩
    · cases h
  case index t x i =>
    split at h
    · rename_i a b hx hy
      cases hq : indexA P t a b with
      | none => rw [hq] at h; cases h
      | some r => rw [hq] at h; cases h; exact ⟨M, rfl⟩
    · cases h
  case extract x i =>
    split at h
    · rename_i l hx
      cases hq : getL i l with
      | none => rw [hq] at h; cases h
      | some r => rw [hq] at h; cases h; exact ⟨M, rfl⟩
    · split at h
      · cases h; exact ⟨M, rfl⟩
      · cases h
    · cases h
end Go.Cam
namespace Go.Cam
open Go Go.RowKit

abbrev BodyF := FuncId → List AV → Hp → List It → Option (AV × Hp × List It × List Prop)
def BodyOk (P : Program) (body : BodyF) : Prop := ∀ f args H s v H' s' obs, body f args H s = some (v, H', s', obs) → H.str = 1 → AllP obs → Does P f args H v H'

def stepB (P : Program) (call : CallF) (body : BodyF) (fr : T AV) (H : Hp) (o : Oper) (s : List It) : Option (AV × Hp × List It × List Prop) :=
  match strip s with
  | .auto (k + 1) :: r => match stepA P call fr H o with
    | some (v, H') => some (v, H', .auto k :: r, [])
    | none => none
  | .giv v :: r => some (v, H, r, [givenV P fr H o v])
  | .givL v :: r => some (v, H, r, [givenL P fr H o v])
  | .givH v H' :: r => some (v, H', r, [givenH P fr H o v H'])
  | .call v :: r => match opA P fr H o with
    | some (.call g l) => some (v, H, r, [Does P g l H v H])
    | _ => none
  | .callH v H' :: r => match opA P fr H o with
    | some (.call g l) => some (v, H', r, [Does P g l H v H'])
    | _ => none
  | .enter :: r => match Nat.beq H.str 1 with
    | true => match opA P fr H o with
      | some (.call g l) => body g l H r
      | _ => none
    | false => none
  | _ => none
theorem stepB_ok {P : Program} {call : CallF} {body : BodyF} (hcall : CallOk P call) (hbody : BodyOk P body) {fr : T AV} {H H' : Hp} {o : Oper} {s s' : List It} {v : AV} {obs : List Prop}
    (h : stepB P call body fr H o s = some (v, H', s', obs)) (ha : AllP obs) : OpDoes P o fr H v H' := by
  unfold stepB at h
  split at h
  · split at h
    · rename_i v1 H1 hst
      cases h
      exact opDoes_of hcall hst
    · cases h
  · cases h
    have := givenV_op ha.1
    exact opDoes_of (call := call) hcall (by unfold stepA; rw [this])
  · cases h
    have := givenV_op (givenL_V ha.1)
    exact opDoes_of (call := call) hcall (by unfold stepA; rw [this])
  · cases h
    exact opDoes_of hcall (givenH_op call ha.1)
  · split at h
    · rename_i g l hop
      cases h
      exact opDoes_call hop ha.1
    · cases h
  · split at h
    · rename_i g l hop
      cases h
      exact opDoes_call hop ha.1
    · cases h
  · split at h
    · rename_i hs
      split at h
      · rename_i g l hop
        exact opDoes_call hop (hbody _ _ _ _ _ _ _ _ h (Nat.eq_of_beq_eq_true hs) ha)
      · cases h
    · cases h
  · cases h

/-- Is the operation carried out? -/
def wantB (all : List Oper) (fr : T AV) (o : Oper) (s : List It) : Option (Bool × List It × List Prop) :=
  match o.guard with
  | none => some (true, s, [])
  | some _ => match strip s with
    | .dec b :: r => some (b, r, [wantedA all fr o = some b])
    | _ => none
theorem wantB_ok {all : List Oper} {fr : T AV} {o : Oper} {s s' : List It} {b : Bool} {obs : List Prop} (h : wantB all fr o s = some (b, s', obs)) (ha : AllP obs) : wantedA all fr o = some b := by
  unfold wantB at h
  split at h
  · rename_i hg
    cases h
    unfold wantedA; rw [hg]
  · split at h
    · cases h; exact ha.1
    · cases h

def runOpsB (P : Program) (call : CallF) (body : BodyF) (nt : Nat) (all : List Oper) : List Oper → T AV → Hp → List It → Option (T AV × Hp × List It × List Prop)
  | [], fr, H, s => some (fr, H, s, [])
  | o :: rest, fr, H, s => match wantB all fr o s with
    | none => none
    | some (b, s1, ob1) => match b with
      | false => match putA nt fr o.dst (.lit undef) with
        | none => none
        | some fr' => match runOpsB P call body nt all rest fr' H s1 with
          | none => none
          | some (fr2, H2, s2, ob2) => some (fr2, H2, s2, catL ob1 ob2)
      | true => match stepB P call body fr H o s1 with
        | none => none
        | some (v, H', s2, ob2) => match putA nt fr o.dst v with
          | none => none
          | some fr' => match runOpsB P call body nt all rest fr' H' s2 with
            | none => none
            | some (fr2, H2, s3, ob3) => some (fr2, H2, s3, catL ob1 (catL ob2 ob3))
theorem runOpsB_ok {P : Program} {call : CallF} {body : BodyF} (hcall : CallOk P call) (hbody : BodyOk P body) {nt : Nat} {ops : Array Oper} : ∀ (rest : List Oper) (k : Nat) (fr fr' : T AV) (H H' : Hp) (s s' : List It) (obs : List Prop), ops.toList.drop k = rest →
    runOpsB P call body nt ops.toList rest fr H s = some (fr', H', s', obs) → AllP obs →
    ∀ (μ : Mu) (a : Act) (w : World) (Q : Exit → Act → World → Prop), HR μ H w → FR μ fr a → a.tmps.size = nt →
      (∀ μ' a' w', Step μ H w μ' H' w' → FR μ' fr' a' → a'.tmps.size = nt → a'.defers = a.defers → Q .normal a' w') → wpOps P ops Q (List.range' k rest.length) a w
  | [], k, fr, fr', H, H', s, s', obs, hk, h, ha, μ, a, w, Q, hr, hf, hn, hQ => by
    cases h
    exact hQ μ a w (.refl hr) hf hn rfl
  | o :: rest, k, fr, fr', H, H', s, s', obs, hk, h, ha, μ, a, w, Q, hr, hf, hn, hQ => by
    have hko : ops[k]? = some o := by
      rw [← Array.getElem?_toList]
      have : (ops.toList.drop k)[0]? = some o := by rw [hk]; rfl
      rw [List.getElem?_drop] at this
      simpa using this
    have hkr : ops.toList.drop (k + 1) = rest := by
      rw [← List.drop_drop, hk]; rfl
    simp only [runOpsB] at h
    rw [List.length_cons, List.range'_succ]
    simp only [wpOps, hko]
    split at h
    · cases h
    rename_i b s1 ob1 hw
    split at h
    · split at h
      · cases h
      rename_i fr1 hp
      split at h
      · cases h
      rename_i fr2 H2 s2 ob2 hrest
      cases h
      obtain ⟨a1, a2⟩ := AllP.cat.1 ha
      rw [wantedA_ok hf (wantB_ok hw a1)]
      obtain ⟨g1, g2, g3⟩ := putA_ok hf hn (.lit undef) hp
      simp only [Bool.false_eq_true, if_false]
      exact runOpsB_ok hcall hbody rest (k + 1) fr1 fr' H H' s1 s' ob2 hkr hrest a2 μ _ w Q hr g1 g2 (fun μ' a' w' q1 q2 q3 q4 => hQ μ' a' w' q1 q2 q3 (q4.trans g3))
    · split at h
      · cases h
      rename_i v H1 s2 ob2 hst
      split at h
      · cases h
      rename_i fr1 hp
      split at h
      · cases h
      rename_i fr2 H2 s3 ob3 hrest
      cases h
      obtain ⟨a1, a2⟩ := AllP.cat.1 ha
      obtain ⟨a2, a3⟩ := AllP.cat.1 a2
      rw [wantedA_ok hf (wantB_ok hw a1)]
      simp only [if_true]
      refine .inl (stepB_ok hcall hbody hst a2 μ a w _ _ hr hf fun u μ1 w1 hst1 hv => ?_)
      obtain ⟨g1, g2, g3⟩ := putA_ok (hf.mono hst1.le) hn hv hp
      exact runOpsB_ok hcall hbody rest (k + 1) fr1 fr' H1 H' s2 s' ob3 hkr hrest a3 μ1 _ w1 Q hst1.hr g1 g2 (fun μ' a' w' q1 q2 q3 q4 => hQ μ' a' w' (hst1.trans q1) q2 q3 (q4.trans g3))

/-! ## Drawn orders -/
def rcB (P : Program) (call : CallF) (body : BodyF) (all : List Oper) (G : Nat → Option (List Value)) (base i m : Nat) (o : Oper) (rf : T AV) (M : Hp) (pend : List (Nat × AObj)) (s : List It) : Option (Rc × List (Nat × AObj) × List It × List Prop) :=
  match wantB all rf o s with
  | none => none
  | some (b, s1, ob1) => match b with
    | false => some (⟨o, false, rf, M, .lit undef, M, none, []⟩, pend, s1, ob1)
    | true => match softOp P o.op with
      | true => match strip s1 with
        | .auto (k + 1) :: r => match opA P rf M o with
          | some (.val v _) => some (⟨o, true, rf, M, v, M, none, []⟩, pend, .auto k :: r, ob1)
          | _ => none
        | .giv v :: r => some (⟨o, true, rf, M, v, M, none, []⟩, pend, r, catL ob1 [givenV P rf M o v])
        | .givL v :: r => some (⟨o, true, rf, M, v, M, none, []⟩, pend, r, catL ob1 [givenL P rf M o v])
        | _ => none
      | false => match freshOp o.op with
        | true => match strip s1 with
          | .auto (k + 1) :: r => match freshA P rf o (base + i) G with
            | some (v, obj) => some (⟨o, true, rf, M, v, M, some obj, []⟩, (i, obj) :: pend, .auto k :: r, ob1)
            | none => none
          | _ => none
        | false => match stepB P call body rf (addF base M (selY m pend)) o s1 with
          | some (v, M', s2, ob2) => some (⟨o, true, rf, M, v, M', none, selY m pend⟩, selN m pend, s2, catL ob1 ob2)
          | none => none
def passB (P : Program) (call : CallF) (body : BodyF) (nt : Nat) (all : List Oper) (ms : List Nat) (G : Nat → Option (List Value)) (base : Nat) : Nat → List Oper → T AV → Hp → List (Nat × AObj) → List It → Option (List Rc × T AV × Hp × List (Nat × AObj) × List It × List Prop)
  | _, [], fr, M, pend, s => some ([], fr, M, pend, s, [])
  | i, o :: r, fr, M, pend, s => match rcB P call body all G base i (maskAt ms i) o (restr fr (looksT all o)) M pend s with
    | none => none
    | some (rc, pend', s1, ob1) => match putA nt fr o.dst rc.v with
      | none => none
      | some fr' => match passB P call body nt all ms G base (i + 1) r fr' rc.M' pend' s1 with
        | none => none
        | some (l, fr2, M2, pend2, s2, ob2) => some (rc :: l, fr2, M2, pend2, s2, catL ob1 ob2)

theorem rcB_ok {P : Program} {call : CallF} {body : BodyF} (hcall : CallOk P call) (hbody : BodyOk P body) {all : List Oper} {G : Nat → Option (List Value)} {base i m : Nat} {o : Oper} {rf : T AV} {M : Hp} {pend pend' : List (Nat × AObj)} {rc : Rc} {s s' : List It} {obs : List Prop}
    (h : rcB P call body all G base i m o rf M pend s = some (rc, pend', s', obs)) (ha : AllP obs) {nt : Nat} (hd : ∀ d, o.dst = some d → d < nt) :
    RcOk P nt all G base i rc ∧ rc.o = o ∧ rc.fr = rf ∧ rc.M = M ∧ (rc.want = true → softOp P rc.o.op = true → heapless rc.o.op = true → ∀ H, SoftS P rc.fr H rc.o rc.v) ∧
    ∀ pre : List Rc, pre.length = i → PendOk P pre pend → PendOk P (pre ++ [rc]) pend' ∧ (rc.X.map (·.1)).Nodup ∧ ∀ x ∈ rc.X, IsP P pre x ∧ x.1 ∉ merged P pre ∧ m.testBit x.1 = true := by
  have same : ∀ (rc : Rc), rc.X = [] → ∀ pre : List Rc, pre.length = i → PendOk P pre pend → PendOk P (pre ++ [rc]) pend ∧ (rc.X.map (·.1)).Nodup ∧ ∀ x ∈ rc.X, IsP P pre x ∧ x.1 ∉ merged P pre ∧ m.testBit x.1 = true := by
    intro rc hX pre _ hp
    have hm : merged P (pre ++ [rc]) = merged P pre := by
      rw [merged_append, merged_one, hX]
      cases isHard P rc.o <;> simp
    refine ⟨⟨fun x hx => ⟨(hp.is x hx).1.append, ?_⟩, fun j hj => ?_, hp.nodup⟩, by rw [hX]; simp, fun x hx => by rw [hX] at hx; simp at hx⟩
    · rw [hm]; exact (hp.is x hx).2
    · rw [hm] at hj; have := hp.mlt j hj; simp; omega
  have hless : ∀ {v : AV} {M1 : Hp}, softOp P o.op = true → opA P rf M o = some (.val v M1) → heapless o.op = true → ∀ H, SoftS P rf H o v := by
    intro v M1 hs hop hl H
    obtain ⟨M2, h2⟩ := heapless_op (M := H) hl hs hop
    exact softS_of hs h2
  unfold rcB at h
  split at h
  · cases h
  rename_i b s1 ob1 hwb
  split at h
  · cases h
    have hw := wantB_ok hwb ha
    exact ⟨⟨hw, fun _ => rfl, fun _ => ⟨rfl, rfl⟩, (fun h => by simp at h), (fun h => by simp at h), (fun h => by simp at h), hd⟩, rfl, rfl, rfl, (fun h => by simp at h), same _ rfl⟩
  · split at h
    · rename_i hs
      obtain ⟨hh, hf⟩ := isHard_soft (P := P) (o := o) hs
      split at h
      · split at h
        · rename_i v H1 hop
          cases h
          have hw := wantB_ok hwb ha
          exact ⟨⟨hw, (fun h => by simp at h), fun _ => ⟨rfl, rfl⟩, fun _ _ => softS_of hs hop, (fun _ h => by rw [hf] at h; cases h), (fun _ h => by rw [hh] at h; cases h), hd⟩, rfl, rfl, rfl, fun _ _ hl => hless hs hop hl, same _ rfl⟩
        · cases h
      · cases h
        obtain ⟨a1, a2⟩ := AllP.cat.1 ha
        have hw := wantB_ok hwb a1
        have hop := givenV_op a2.1
        exact ⟨⟨hw, (fun h => by simp at h), fun _ => ⟨rfl, rfl⟩, fun _ _ => softS_of hs hop, (fun _ h => by rw [hf] at h; cases h), (fun _ h => by rw [hh] at h; cases h), hd⟩, rfl, rfl, rfl, fun _ _ hl => hless hs hop hl, same _ rfl⟩
      · cases h
        obtain ⟨a1, a2⟩ := AllP.cat.1 ha
        have hw := wantB_ok hwb a1
        have hop := givenV_op (givenL_V a2.1)
        exact ⟨⟨hw, (fun h => by simp at h), fun _ => ⟨rfl, rfl⟩, fun _ _ => softS_of hs hop, (fun _ h => by rw [hf] at h; cases h), (fun _ h => by rw [hh] at h; cases h), hd⟩, rfl, rfl, rfl, fun _ _ hl => hless hs hop hl, same _ rfl⟩
      · cases h
    · rename_i hs
      split at h
      · rename_i hfo
        obtain ⟨hh, hf⟩ := isHard_fresh (P := P) (o := o) hs hfo
        split at h
        case h_2 => cases h
        split at h
        · rename_i v obj hfa
          cases h
          have hw := wantB_ok hwb ha
          refine ⟨⟨hw, (fun h => by simp at h), fun _ => ⟨rfl, rfl⟩, (fun _ h => by rw [hs] at h; cases h), fun _ _ => ⟨obj, rfl, hfa⟩, (fun _ h => by rw [hh] at h; cases h), hd⟩, rfl, rfl, rfl, (fun _ h => by rw [hs] at h; cases h), ?_⟩
          intro pre hpre hp
          have hm : merged P (pre ++ [⟨o, true, rf, M, v, M, some obj, []⟩]) = merged P pre := by
            rw [merged_append, merged_one]; simp only [hh, List.append_nil]
          refine ⟨⟨fun x hx => ?_, fun j hj => ?_, ?_⟩, by simp, fun x hx => by simp at hx⟩
          · rw [hm]
            rcases List.mem_cons.1 hx with rfl | hx
            · refine ⟨⟨⟨o, true, rf, M, v, M, some obj, []⟩, by rw [List.getElem?_append_right (by omega), hpre]; simp, hf, rfl, rfl⟩, fun hm => ?_⟩
              have := hp.mlt _ hm; simp only at this; omega
            · exact ⟨(hp.is x hx).1.append, (hp.is x hx).2⟩
          · rw [hm] at hj; have := hp.mlt j hj; simp; omega
          · simp only [List.map_cons, List.nodup_cons]
            refine ⟨fun hm => ?_, hp.nodup⟩
            obtain ⟨x, hx, e⟩ := List.mem_map.1 hm
            have := (hp.is x hx).1.lt
            omega
        · cases h
      · rename_i hfo
        obtain ⟨hh, hf⟩ := isHard_hard (P := P) (o := o) (by simpa using hs) (by simpa using hfo)
        split at h
        · rename_i v M1 s2 ob2 hst
          cases h
          obtain ⟨a1, a2⟩ := AllP.cat.1 ha
          have hw := wantB_ok hwb a1
          refine ⟨⟨hw, (fun h => by simp at h), (fun h => by rw [hh] at h; simp at h), (fun _ h => by rw [hs] at h; cases h), (fun _ h => by rw [hf] at h; cases h), fun _ _ => stepB_ok hcall hbody hst a2, hd⟩, rfl, rfl, rfl, (fun _ h => by rw [hs] at h; cases h), ?_⟩
          intro pre hpre hp
          refine ⟨⟨fun x hx => ?_, fun j hj => ?_, selN_nodup hp.nodup⟩, selY_nodup hp.nodup, fun x hx => ?_⟩
          · obtain ⟨h1, h2⟩ := selN_mem hx
            refine ⟨(hp.is x h1).1.append, ?_⟩
            rw [merged_append, merged_one, hh]
            simp only [List.mem_append, not_or]
            refine ⟨(hp.is x h1).2, fun hm => ?_⟩
            obtain ⟨y, hy, e⟩ := List.mem_map.1 hm
            have := (selY_mem hy).2
            rw [e, h2] at this; cases this
          · rw [merged_append, merged_one, hh] at hj
            rcases List.mem_append.1 hj with hj | hj
            · have := hp.mlt j hj; simp; omega
            · obtain ⟨y, hy, e⟩ := List.mem_map.1 hj
              have := (hp.is y (selY_mem hy).1).1.lt
              simp; omega
          · obtain ⟨h1, h2⟩ := selY_mem hx
            exact ⟨(hp.is x h1).1, (hp.is x h1).2, h2⟩
        · cases h
end Go.Cam
namespace Go.Cam
open Go Go.RowKit

theorem passB_ok {P : Program} {call : CallF} {body : BodyF} (hcall : CallOk P call) (hbody : BodyOk P body) {nt : Nat} {all : List Oper} {ms : List Nat} {G : Nat → Option (List Value)} {base : Nat} : ∀ {rest : List Oper} {i : Nat} {fr fr' : T AV} {M M' : Hp} {pend pend' : List (Nat × AObj)} {l : List Rc} {s s' : List It} {obs : List Prop}, passB P call body nt all ms G base i rest fr M pend s = some (l, fr', M', pend', s', obs) → AllP obs →
    l.map (·.o) = rest ∧ Chain M l M' ∧ (∀ (j : Nat) (rc : Rc), l[j]? = some rc → (RcOk P nt all G base (i + j) rc ∧ (rc.want = true → softOp P rc.o.op = true → heapless rc.o.op = true → ∀ H, SoftS P rc.fr H rc.o rc.v)) ∧ ∀ t v, rc.fr.get t = some v → t ∈ looksT all rc.o ∧ Src fr (l.take j) t v) ∧
    (∀ t v, fr'.get t = some v → Src fr l t v) ∧
    ∀ pre : List Rc, pre.length = i → PendOk P pre pend → PendOk P (pre ++ l) pend' ∧ ∀ (j : Nat) (rc : Rc), l[j]? = some rc → (rc.X.map (·.1)).Nodup ∧ ∀ x ∈ rc.X, IsP P (pre ++ l.take j) x ∧ x.1 ∉ merged P (pre ++ l.take j) ∧ (maskAt ms (i + j)).testBit x.1 = true
  | [], i, fr, fr', M, M', pend, pend', l, s, s', obs, h, ha => by
    cases h
    exact ⟨rfl, rfl, fun j rc h => by simp at h, fun t v h => .inr ⟨h, fun j rc h => by simp at h⟩, fun pre _ hp => ⟨by simpa using hp, fun j rc h => by simp at h⟩⟩
  | o :: r, i, fr, fr', M, M', pend, pend', l, s, s', obs, h, ha => by
    simp only [passB] at h
    split at h
    · cases h
    rename_i rc pend1 s1 ob1 hrc
    split at h
    · cases h
    rename_i fr1 hp
    split at h
    · cases h
    rename_i l' fr2 M2 pend2 s2 ob2 hl
    cases h
    obtain ⟨a1, a2⟩ := AllP.cat.1 ha
    obtain ⟨g1, g2⟩ := putA_get hp
    obtain ⟨k1, k2, k3, k4, k6, k5⟩ := rcB_ok hcall hbody hrc a1 g1
    obtain ⟨m1, m2, m3, m4, m5⟩ := passB_ok hcall hbody hl a2
    have lift : ∀ (l1 : List Rc) t v, Src fr1 l1 t v → Src fr (rc :: l1) t v := by
      rintro l1 t v (⟨j, rc', q1, q2, q3⟩ | ⟨q1, q2⟩)
      · exact .inl ⟨j + 1, rc', by simpa using q1, q2, q3⟩
      · rcases g2 t v q1 with ⟨r1, r2⟩ | ⟨r1, r2⟩
        · exact .inl ⟨0, rc, rfl, by rw [k2]; exact r1, r2⟩
        · refine .inr ⟨r2, fun j rc' hj => ?_⟩
          cases j with
          | zero => simp at hj; subst hj; rw [k2]; exact r1
          | succ j => exact q2 j rc' (by simpa using hj)
    refine ⟨by simp [k2, m1], ⟨k4, m2⟩, fun j rc' hi => ?_, fun t v ht => lift _ _ _ (m4 t v ht), fun pre hpre hpo => ?_⟩
    · cases j with
      | zero =>
        simp at hi; subst hi
        refine ⟨⟨k1, k6⟩, fun t v ht => ?_⟩
        rw [k3] at ht
        obtain ⟨q1, q2⟩ := restr_get ht
        exact ⟨by rw [k2]; exact q1, .inr ⟨q2, fun j rc' h => by simp at h⟩⟩
      | succ j =>
        obtain ⟨q1, q2⟩ := m3 j rc' (by simpa using hi)
        exact ⟨by rw [show i + (j + 1) = i + 1 + j by omega]; exact q1, fun t v ht => ⟨(q2 t v ht).1, by simpa using lift _ _ _ (q2 t v ht).2⟩⟩
    · obtain ⟨n1, n2, n3⟩ := k5 pre hpre hpo
      obtain ⟨n4, n5⟩ := m5 (pre ++ [rc]) (by simp [hpre]) n1
      refine ⟨by simpa using n4, fun j rc' hj => ?_⟩
      cases j with
      | zero => simp at hj; subst hj; exact ⟨n2, by simpa using n3⟩
      | succ j =>
        have := n5 j rc' (by simpa using hj)
        rw [show i + 1 + j = i + (j + 1) by omega] at this
        simpa using this

def softAt (P : Program) (rc : Rc) : Nat → List Hp → List Prop
  | 0, _ => []
  | _ + 1, [] => []
  | k + 1, H :: hs => givenV P rc.fr H rc.o rc.v :: softAt P rc k hs
theorem softAt_ok {P : Program} {rc : Rc} (hs : softOp P rc.o.op = true) : ∀ {n : Nat} {l : List Hp}, AllP (softAt P rc n l) → ∀ (k : Nat) (H : Hp), k < n → l[k]? = some H → SoftS P rc.fr H rc.o rc.v
  | 0, l, _, k, H, hk, _ => by omega
  | n + 1, [], _, k, H, _, h => by simp at h
  | n + 1, H0 :: l, h, k, H, hk, hl => by
    cases k with
    | zero =>
      simp at hl; subst hl
      exact softS_of hs (givenV_op h.1)
    | succ k => exact softAt_ok hs h.2 k H (by omega) (by simpa using hl)
def softObs (P : Program) (ops : List Oper) (ms : List Nat) (hs : List Hp) : Nat → List Rc → List Prop
  | _, [] => []
  | i, rc :: r => match softOp P rc.o.op && (rc.want && !heapless rc.o.op) with
    | false => softObs P ops ms hs (i + 1) r
    | true => match Nat.beq (kMin P ops ms i) (kMax P ops ms i) with
      | true => softObs P ops ms hs (i + 1) r
      | false => catL (softAt P rc (kMax P ops ms i + 1 - kMin P ops ms i) (dropL (kMin P ops ms i) hs)) (softObs P ops ms hs (i + 1) r)
theorem softObs_ok {P : Program} {ops : List Oper} {ms : List Nat} {hs : List Hp} : ∀ {l : List Rc} {i0 : Nat}, AllP (softObs P ops ms hs i0 l) → ∀ (i : Nat) (rc : Rc), l[i]? = some rc → softOp P rc.o.op = true → rc.want = true → heapless rc.o.op = false →
    kMin P ops ms (i0 + i) = kMax P ops ms (i0 + i) ∨ ∀ (k : Nat) (H : Hp), kMin P ops ms (i0 + i) ≤ k → k ≤ kMax P ops ms (i0 + i) → hs[k]? = some H → SoftS P rc.fr H rc.o rc.v
  | [], i0, _, i, rc, h, _, _, _ => by simp at h
  | rc0 :: l, i0, h, i, rc, hi, hs', hw, hl => by
    simp only [softObs] at h
    have hr : AllP (softObs P ops ms hs (i0 + 1) l) := by
      split at h
      · exact h
      · split at h
        · exact h
        · exact (AllP.cat.1 h).2
    cases i with
    | succ i =>
      have := softObs_ok hr i rc (by simpa using hi) hs' hw hl
      rwa [show i0 + 1 + i = i0 + (i + 1) by omega] at this
    | zero =>
      simp at hi; subst hi
      have hno : (softOp P rc0.o.op && (rc0.want && !heapless rc0.o.op)) = true := by simp [hs', hw, hl]
      rw [hno] at h
      simp only at h
      rw [Nat.add_zero]
      split at h
      · rename_i hb; exact .inl (Nat.eq_of_beq_eq_true hb)
      · right
        intro k H h1 h2 h3
        refine softAt_ok hs' (AllP.cat.1 h).1 (k - kMin P ops ms i0) H (by omega) ?_
        rw [dropL_eq, List.getElem?_drop, show kMin P ops ms i0 + (k - kMin P ops ms i0) = k by omega]; exact h3

def drawB (P : Program) (call : CallF) (body : BodyF) (nt : Nat) (ops : Array Oper) (fr : T AV) (H : Hp) (s : List It) : Option (T AV × Hp × List It × List Prop) :=
  match Nat.beq H.str 1 with
  | false => none
  | true => match masksL ops.toList [] with
    | none => none
    | some ms => match pairsOk P ops.toList [] ops.toList ms with
      | false => none
      | true => match passB P call body nt ops.toList ms H.gl H.next 0 ops.toList fr { H with next := H.next + lenL ops.toList } [] s with
        | none => none
        | some (l, fr', M', pend, s', obs) => match small ({ H with next := H.next + lenL ops.toList } :: hardHs P l) with
          | true => some (fr', addF H.next M' pend, s', catL obs (softObs P ops.toList ms ({ H with next := H.next + lenL ops.toList } :: hardHs P l) 0 l))
          | false => none
theorem drawB_reg {P : Program} {call : CallF} {body : BodyF} (hcall : CallOk P call) (hbody : BodyOk P body) {nt : Nat} {ops : Array Oper} {fr fr' : T AV} {H H' : Hp} {s s' : List It} {obs : List Prop} (h : drawB P call body nt ops fr H s = some (fr', H', s', obs)) (ha : AllP obs) : ∃ ms l M' pend, Reg P nt ops fr H ms l fr' M' pend ∧ H' = addF H.next M' pend := by
  unfold drawB at h
  split at h
  · cases h
  rename_i hstr
  split at h
  · cases h
  rename_i ms hms
  split at h
  · cases h
  rename_i hpo
  rw [lenL_eq, Array.length_toList] at h
  split at h
  · cases h
  rename_i l fr1 M1 pend s1 ob1 hp1
  split at h
  case h_2 => cases h
  rename_i hc
  cases h
  obtain ⟨a1, a2⟩ := AllP.cat.1 ha
  have hM : Masks ops.toList ms := by
    have := masksL_ok ops.toList [] [] ms ⟨rfl, fun i m j h => by simp at h, fun i m o j h => by simp at h, fun i m o e h => by simp at h⟩ hms
    simpa using this
  obtain ⟨p1, p2, p3, p4, p5⟩ := passB_ok hcall hbody hp1 a1
  obtain ⟨p6, p7⟩ := p5 [] rfl ⟨fun x hx => by simp at hx, fun j hj => by simp [merged, hardXs] at hj, by simp⟩
  have hall : ∀ rc ∈ l, isHard P rc.o = false → rc.M' = rc.M := by
    intro rc hrc
    obtain ⟨i, hi, rfl⟩ := List.getElem_of_mem hrc
    exact fun h => ((p3 i _ (List.getElem?_eq_getElem hi)).1.1.keep (.inl h)).1
  obtain ⟨q1, q2⟩ := heaps_ok p2 hall
  rw [p1] at q1 q2
  have hlen : l.length = ops.size := by rw [← Array.length_toList, ← p1]; simp
  rw [hlen] at q2
  have hpairs : ∀ (i j : Nat) (a b : Oper), i < j → ops[i]? = some a → ops[j]? = some b → dstClash a b = false ∧ (tied P ops.toList a b = true → (maskAt ms j).testBit i = true) := by
    intro i j a b hij ha hb
    rw [← Array.getElem?_toList] at ha hb
    have hj := (List.getElem?_eq_some_iff.1 hb).1
    have hmj : j < ms.length := by rw [hM.len]; exact hj
    have := pairsOk_ok (pre := []) rfl hpo i j a b ms[j] hij (Nat.zero_le _) (by simpa using ha) (by simpa using hb) (by simp [hmj])
    refine ⟨this.1, fun ht => ?_⟩
    unfold maskAt
    rw [getL_eq, List.getElem?_eq_getElem hmj]
    exact this.2 ht
  refine ⟨ms, l, M1, pend, ⟨hM, hpairs, p1, fun i rc hi => ?_, p4, q1, q2, small_ok hc, by simpa using p6, fun i rc hi => ?_, Nat.eq_of_beq_eq_true hstr, fun i rc hi h1 h2 => ?_⟩, rfl⟩
  · have := p3 i rc hi
    rw [Nat.zero_add] at this
    exact ⟨this.1.1, this.2⟩
  · have hil := (List.getElem?_eq_some_iff.1 hi).1
    obtain ⟨n1, n2⟩ := p7 i rc hi
    refine ⟨n1, fun x hx => ?_⟩
    obtain ⟨n3, n4, n5⟩ := n2 x hx
    simp only [List.nil_append] at n3 n4
    rw [merged_take (by omega), p1] at n4
    rw [Nat.zero_add] at n5
    refine ⟨?_, n4, n5⟩
    have := n3.append (m := l.drop i)
    rwa [List.take_append_drop] at this
  · cases hl : heapless rc.o.op with
    | true => exact .inr fun k M _ _ _ => (p3 i rc hi).1.2 h2 h1 hl M
    | false =>
      have := softObs_ok a2 i rc hi h1 h2 hl
      rwa [Nat.zero_add] at this
theorem drawB_ok {P : Program} (hm : P.follows .mixedOrders = true) {call : CallF} {body : BodyF} (hcall : CallOk P call) (hbody : BodyOk P body) {nt : Nat} {ops : Array Oper} {fr fr' : T AV} {H H' : Hp} {s s' : List It} {obs : List Prop} (h : drawB P call body nt ops fr H s = some (fr', H', s', obs)) (ha : AllP obs) :
    ∀ id μ a w (Q : Exit → Act → World → Prop), HR μ H w → FR μ fr a → a.tmps.size = nt →
    (∀ μ' a' w', Step μ H w μ' H' w' → FR μ' fr' a' → a'.tmps.size = nt → a'.defers = a.defers → Q .normal a' w') → (Code.region id ops true).wp P Q a w := by
  intro id μ a w Q hr hf hn hQ
  obtain ⟨ms, l, M', pend, R, rfl⟩ := drawB_reg hcall hbody h ha
  exact reg_ok hm R id μ a w Q hr hf hn hQ

/-! ## Code with a supply -/
mutual
def execB (P : Program) : Nat → Nat → Nat → Code → T AV → Hp → List It → Option (AEx × T AV × Hp × List It × List Prop)
  | 0, _, _, _, _, _, _ => none
  | n + 1, K, nt, c, fr, H, s => match c with
    | .skip => some (.normal, fr, H, s, [])
    | .label _ => some (.normal, fr, H, s, [])
    | .region _ ops d => match d with
      | false => match runOpsB P (callF P (drawA P) n) (bodyB P n) nt ops.toList ops.toList fr H s with
        | some (fr', H', s', obs) => some (.normal, fr', H', s', obs)
        | none => none
      | true => match drawB P (callF P (drawA P) n) (bodyB P n) nt ops fr H s with
        | some (fr', H', s', obs) => some (.normal, fr', H', s', obs)
        | none => none
    | .seq x y => match execB P n K nt x fr H s with
      | none => none
      | some (e, fr', H', s', obs) => match e with
        | .normal => match execB P n K nt y fr' H' s' with
          | none => none
          | some (e2, fr2, H2, s2, ob2) => some (e2, fr2, H2, s2, catL obs ob2)
        | _ => some (e, fr', H', s', obs)
    | .cond c x y => match strip s with
      | .dec b :: r => match execB P n K nt (match b with | true => x | false => y) fr H r with
        | none => none
        | some (e, fr', H', s', obs) => some (e, fr', H', s', (evalA fr c = some (.lit (.bool b))) :: obs)
      | _ => none
    | .block id x => match execB P n K nt x fr H s with
      | none => none
      | some (e, fr', H', s', obs) => some (e.block id, fr', H', s', obs)
    | .loop x => match strip s with
      | .round :: r => match execB P n K nt x fr H r with
        | none => none
        | some (e, fr', H', s', obs) => match e with
          | .normal => match execB P n K nt (.loop x) fr' H' s' with
            | none => none
            | some (e2, fr2, H2, s2, ob2) => some (e2, fr2, H2, s2, catL obs ob2)
          | _ => some (e, fr', H', s', obs)
      | .loop0 keep e fr' H' :: r => some (e, fr', H', r, [DoesL P K nt x (restr fr keep) H e fr' H'])
      | .loopR τ nx l bs e fr' H' :: r => match renFr (nameF K τ) nx fr l, renBs K (nameF K τ) nx H bs, Nat.ble K nx with
        | some p1, some (_, _, p2), true => some (e, fr', H', r, catL p1 (catL p2 [DoesL P K nt x (frameOf l) (heapOf nx bs H.gl) e fr' H']))
        | _, _, _ => none
      | .loop σ fr0 H0 e fr' H' :: r => some (e, fr', H', r, [Ren K (nameF K σ) fr H fr0 H0, DoesL P K nt x fr0 H0 e fr' H'])
      | _ => none
    | .exit id => some (.exit id, fr, H, s, [])
    | .ret => some (.ret, fr, H, s, [])
    | _ => none
def bodyB (P : Program) : Nat → FuncId → List AV → Hp → List It → Option (AV × Hp × List It × List Prop)
  | 0, _, _, _, _ => none
  | n + 1, f, args, H, s => match getFn P f with
    | none => none
    | some fn => match fn.body with
      | none => none
      | some c => match execB P n H.next (lenL args + (fn.ntmps - lenL args)) c (frameA 0 args .leaf) H s with
        | none => none
        | some (e, fr, H', s', obs) => match (match e with | .normal => true | .ret => true | .exit _ => false) with
          | false => none
          | true => match resultsA P fr H' fn.results.toList with
            | none => none
            | some l => some (oneA l, H', s', obs)
end

theorem execB_ok {P : Program} (hm : P.follows .mixedOrders = true) : ∀ n : Nat,
    (∀ K nt c fr H s e fr' H' s' obs, execB P n K nt c fr H s = some (e, fr', H', s', obs) → AllP obs → DoesC P K nt c fr H e fr' H') ∧
    (∀ K nt c fr H s e fr' H' s' obs, execB P n K nt (.loop c) fr H s = some (e, fr', H', s', obs) → AllP obs → DoesL P K nt c fr H e fr' H') ∧ BodyOk P (bodyB P n) := by
  intro n
  induction n with
  | zero => exact ⟨fun K nt c fr H s e fr' H' s' obs h => by simp [execB] at h, fun K nt c fr H s e fr' H' s' obs h => by simp [execB] at h, fun f args H s v H' s' obs h => by simp [bodyB] at h⟩
  | succ n ih =>
    obtain ⟨ih1, ih3, ih2⟩ := ih
    have hcall := (runs_ok (drawA_ok hm) n).2.2
    have loops : ∀ K nt c fr H s e fr' H' s' obs, execB P (n + 1) K nt (.loop c) fr H s = some (e, fr', H', s', obs) → AllP obs → DoesL P K nt c fr H e fr' H' := by
      intro K nt c fr H s e fr' H' s' obs h ha
      simp only [execB] at h
      split at h
      · split at h
        · cases h
        rename_i e1 fr1 H1 s1 ob1 h1
        split at h
        · split at h
          · cases h
          rename_i e2 fr2 H2 s2 ob2 h2
          cases h
          obtain ⟨a1, a2⟩ := AllP.cat.1 ha
          exact DoesL.round (ih1 _ _ _ _ _ _ _ _ _ _ _ h1 a1) (ih3 _ _ _ _ _ _ _ _ _ _ _ h2 a2)
        · rename_i hne
          cases h
          exact DoesL.out (ih1 _ _ _ _ _ _ _ _ _ _ _ h1 ha) (fun he => hne he)
      · cases h
        obtain ⟨m, hl⟩ := ha.1
        exact ⟨m, fun μ a w Q hr hs hk hf hn hQ => hl μ a w Q hr hs hk (fun t v ht => hf t v (restr_get ht).2) hn hQ⟩
      · split at h
        · rename_i p1 ns gs p2 hp1 hp2 hk1
          cases h
          obtain ⟨a1, a2⟩ := AllP.cat.1 ha
          obtain ⟨a2, a3⟩ := AllP.cat.1 a2
          exact DoesL.pre (ren_of (gl := H.gl) nameF_low (Nat.le_of_ble_eq_true hk1) rfl (renFr_ok hp1 a1) (renBs_ok hp2 a2).1) a3.1
        · cases h
      · cases h
        exact DoesL.pre ha.1 ha.2.1
      · cases h
    refine ⟨?_, loops, ?_⟩
    · intro K nt c fr H s e fr' H' s' obs h ha
      cases c with
      | skip => simp only [execB] at h; cases h; exact .skip
      | label l => simp only [execB] at h; cases h; exact .label
      | exit id => simp only [execB] at h; cases h; exact .exit
      | ret => simp only [execB] at h; cases h; exact .ret
      | region id ops d =>
        cases d with
        | false =>
          simp only [execB] at h
          split at h
          · rename_i fr1 H1 s1 ob1 h1
            cases h
            intro μ a w Q hr hs hk hf hn hQ
            refine wp_region ?_
            rw [List.range_eq_range', ← Array.length_toList]
            exact runOpsB_ok hcall ih2 ops.toList 0 fr fr' H H' s s' obs rfl h1 ha μ a w Q hr hf hn fun μ1 a1 w1 q1 q2 q3 q4 => hQ μ1 a1 w1 ((q1.sk hs).lower hk) q2 q3 q4
          · cases h
        | true =>
          simp only [execB] at h
          split at h
          · rename_i fr1 H1 s1 ob1 h1
            cases h
            intro μ a w Q hr hs hk hf hn hQ
            exact drawB_ok hm hcall ih2 h1 ha id μ a w Q hr hf hn fun μ1 a1 w1 q1 q2 q3 q4 => hQ μ1 a1 w1 ((q1.sk hs).lower hk) q2 q3 q4
          · cases h
      | seq x y =>
        simp only [execB] at h
        split at h
        · cases h
        rename_i e1 fr1 H1 s1 ob1 h1
        split at h
        · split at h
          · cases h
          rename_i e2 fr2 H2 s2 ob2 h2
          cases h
          obtain ⟨a1, a2⟩ := AllP.cat.1 ha
          exact (ih1 _ _ _ _ _ _ _ _ _ _ _ h1 a1).seq (ih1 _ _ _ _ _ _ _ _ _ _ _ h2 a2)
        · rename_i hne
          cases h
          exact (ih1 _ _ _ _ _ _ _ _ _ _ _ h1 ha).seq_out (fun he => hne he)
      | cond c x y =>
        simp only [execB] at h
        split at h
        · rename_i b r hs
          split at h
          · cases h
          rename_i e1 fr1 H1 s1 ob1 h1
          cases h
          have hx := ha.1
          have hd := ih1 _ _ _ _ _ _ _ _ _ _ _ h1 ha.2
          cases b with
          | true => exact DoesC.cond (b := true) hx hd
          | false => exact DoesC.cond (b := false) hx hd
        · cases h
      | block id x =>
        simp only [execB] at h
        split at h
        · cases h
        rename_i e1 fr1 H1 s1 ob1 h1
        cases h
        exact (ih1 _ _ _ _ _ _ _ _ _ _ _ h1 ha).block
      | loop x => exact (loops _ _ _ _ _ _ _ _ _ _ _ h ha).loop
      | _ => simp [execB] at h
    · intro f args H s v H' s' obs h hs ha
      simp only [bodyB] at h
      split at h
      · cases h
      rename_i fn hfn
      split at h
      · cases h
      rename_i c hb
      split at h
      · cases h
      rename_i e fr1 H1 s1 ob1 h1
      split at h
      · cases h
      rename_i he
      split at h
      · cases h
      rename_i l hl
      cases h
      have hd := ih1 _ _ _ _ _ _ _ _ _ _ _ h1 ha
      intro μ w us hr hvs
      have hnt : lenL args + (fn.ntmps - lenL args) = ((us ++ Array.replicate (fn.ntmps - us.size) undef).size) := by
        rw [lenL_eq, hvs.1]; simp
      have hfn' : P.funcs[f]? = some fn := hfn
      refine calls_of_wp hfn' hb (hd μ _ w _ hr hs (Nat.le_refl _) (frameA_ok _ hvs) hnt.symm fun μ1 a1 w1 q1 q2 q3 q4 => ?_)
      obtain ⟨u, k1, k2⟩ := results_ok (P := P) (w := w1) q1.hr q2 hl
      cases e with
      | normal => exact ⟨q4, u, k1, u, _, rfl, q1.step hs hr, k2⟩
      | ret => exact ⟨q4, u, k1, u, _, rfl, q1.step hs hr, k2⟩
      | exit id => cases he
end Go.Cam
namespace Go.Cam
open Go Go.RowKit

/-! ## Paths -/
/-- The frame's values at some slots. -/
def gets (fr : T AV) : List Tmp → Option (List (Tmp × AV))
  | [] => some []
  | t :: r => match fr.get t with
    | none => none
    | some v => match gets fr r with
      | none => none
      | some l => some ((t, v) :: l)
theorem gets_mem {fr : T AV} : ∀ {ts : List Tmp} {l : List (Tmp × AV)}, gets fr ts = some l → ∀ x ∈ l, fr.get x.1 = some x.2
  | [], l, h, x, hx => by cases h; simp at hx
  | t :: r, l, h, x, hx => by
    simp only [gets] at h
    split at h
    · cases h
    rename_i v hv
    split at h
    · cases h
    rename_i l' hl
    cases h
    rcases List.mem_cons.1 hx with rfl | hx
    · exact hv
    · exact gets_mem hl x hx

def execQ (P : Program) (n K nt : Nat) (c : Code) (fr : T AV) (H : Hp) (s : List It) (ts : List Tmp) : Option (AEx × List (Tmp × AV) × Hp × List Prop) :=
  match execB P n K nt c fr H s with
  | none => none
  | some (e, fr', H', _, obs) => match gets fr' ts with
    | none => none
    | some l => some (e, l, H', obs)
theorem path {P : Program} (hm : P.follows .mixedOrders = true) {n K nt : Nat} {c : Code} {fr : T AV} {H H' : Hp} {s : List It} {ts : List Tmp} {e : AEx} {l : List (Tmp × AV)} {obs : List Prop}
    (h : execQ P n K nt c fr H s ts = some (e, l, H', obs)) (ha : AllP obs) : DoesC P K nt c fr H e (frameOf l) H' := by
  unfold execQ at h
  split at h
  · cases h
  rename_i e1 fr1 H1 s1 ob1 h1
  split at h
  · cases h
  rename_i l1 hl
  cases h
  have hd := (execB_ok hm n).1 _ _ _ _ _ _ _ _ _ _ _ h1 ha
  intro μ a w Q hr hs hk hf hn hQ
  refine hd μ a w Q hr hs hk hf hn fun μ1 a1 w1 q1 q2 q3 q4 => hQ μ1 a1 w1 q1 (fun t v ht => ?_) q3 q4
  exact q2 t v (gets_mem hl (t, v) (frameOf_get ht))
def bodyQ (P : Program) (n : Nat) (f : FuncId) (args : List AV) (H : Hp) (s : List It) : Option (AV × Hp × List Prop) :=
  match bodyB P n f args H s with
  | none => none
  | some (v, H', _, obs) => some (v, H', obs)
theorem does {P : Program} (hm : P.follows .mixedOrders = true) {n : Nat} {f : FuncId} {args : List AV} {H H' : Hp} {s : List It} {v : AV} {obs : List Prop} (hs : H.str = 1)
    (h : bodyQ P n f args H s = some (v, H', obs)) (ha : AllP obs) : Does P f args H v H' := by
  unfold bodyQ at h
  split at h
  · cases h
  rename_i v1 H1 s1 ob1 h1
  cases h
  exact (execB_ok hm n).2.2 f args H s v H' s1 obs h1 hs ha

/-! ## A function's loops -/
def loops : Code → List Code
  | .seq x y => catL (loops x) (loops y)
  | .cond _ x y => catL (loops x) (loops y)
  | .block _ x => loops x
  | .loop x => x :: loops x
  | _ => []
def loopAt (P : Program) (f k : Nat) : Code :=
  match getFn P f with
  | none => .skip
  | some fn => match fn.body with
    | none => .skip
    | some c => match getL k (loops c) with
      | none => .skip
      | some x => x

/-- The end of a function's run: new blocks that nobody asks for are forgotten. -/
theorem Does.ren {P : Program} {f : FuncId} {args : List AV} {H H1 H' : Hp} {v1 v : AV} {σ : Nat → Nat} (hs : H.str = 1) (h : Does P f args H v1 H1) (R : Ren H.next σ .leaf H1 .leaf H') (hv : Rn σ H'.next v v1) : Does P f args H v H' := by
  intro μ w us hr hvs
  refine (h μ w us hr hvs).mono ?_
  rintro e w' ⟨u, μ', rfl, h1, h2⟩
  exact ⟨u, _, rfl, (R.sk (h1.sk hs)).step hs hr, hv.vr h2⟩
/-- All new blocks are forgotten. -/
theorem Ren.same {K : Nat} {H H1 : Hp} (hs : H.str = 1) (hk : K = H.next) (hg : H1.gl = H.gl) (hb : ∀ b o, H.blk.get b = some o → b < H.next ∧ H1.blk.get b = some o) (hv : ∀ b o, H.blk.get b = some o → RnO id H.next o o)
    (hgr : ∀ b cs g, H.blk.get b = some (.cells cs g) → g < H.next ∧ (∀ l, H.grps.get g = some l → b ∈ l) ∧ ∃ c, H.blk.get g = some c) : Ren K id .leaf H1 .leaf H := by
  subst hk
  refine ⟨fun b _ => rfl, ⟨hs, hg.symm⟩, Nat.le_refl _, (fun t v h => by rw [T.get_leaf] at h; cases h), fun b o h => ⟨(hb b o h).1, o, (hb b o h).2, hv b o h⟩, fun b c o o' _ _ h => h, fun b cs g h => ?_, fun b c cs g ds g' x y k h1 h2 h3 h4 => ?_⟩
  · obtain ⟨k1, k2, c, k3⟩ := hgr b cs g h
    exact ⟨k1, k2, c, .cells cs g, (hb g c k3).2, (hb b _ h).2, fun _ => ⟨b, cs, (hb b _ h).2⟩⟩
  · have e1 := (hb b _ h1).2
    have e2 := (hb c _ h2).2
    simp only [id] at h3 h4
    rw [e1] at h3; rw [e2] at h4
    cases h3; cases h4; rfl
end Go.Cam
namespace Go.Cam
open Go Go.RowKit

/-! ## Operations over what is not known -/
variable {P : Program} {t : TypeId} {xo yo : Operand}
theorem binA_cat {a b : ByteArray} (h : a.size + b.size ≤ 9223372036854775807) : binA P .add t xo yo (.lit (.string a)) (.lit (.string b)) = some (.lit (.string (a ++ b))) := by
  have e : runPure P (do eqGuard .add t xo yo (.string a) (.string b); binOp .add t (.string a) (.string b)) = some (.string (a ++ b)) := by
    show runPure P (if ((a.size + b.size : Nat) : Int) > IntKind.i64.max then unsupported (.resourceLimit "string concatenation: a sum of the lengths that is no int") else pure (Value.string (a ++ b))) = _
    rw [if_neg (by have : IntKind.i64.max = 9223372036854775807 := by decide
                   rw [this]; omega)]
    rfl
  unfold binA
  simp only [litOf]
  rw [e]
theorem binA_addI {i j : Int} (h : IntKind.i64.wrap (i + j) = i + j) : binA P .add t xo yo (.lit (.int .i64 i)) (.lit (.int .i64 j)) = some (.lit (.int .i64 (i + j))) := by
  have e : runPure P (do eqGuard .add t xo yo (.int .i64 i) (.int .i64 j); binOp .add t (.int .i64 i) (.int .i64 j)) = some (.int .i64 (IntKind.i64.wrap (i + j))) := rfl
  unfold binA
  simp only [litOf]
  rw [e, h]
theorem binA_subI {i j : Int} (h : IntKind.i64.wrap (i - j) = i - j) : binA P .sub t xo yo (.lit (.int .i64 i)) (.lit (.int .i64 j)) = some (.lit (.int .i64 (i - j))) := by
  have e : runPure P (do eqGuard .sub t xo yo (.int .i64 i) (.int .i64 j); binOp .sub t (.int .i64 i) (.int .i64 j)) = some (.int .i64 (IntKind.i64.wrap (i - j))) := rfl
  unfold binA
  simp only [litOf]
  rw [e, h]
theorem wrap_i64 {i : Int} (h0 : -9223372036854775808 ≤ i) (h1 : i ≤ 9223372036854775807) : IntKind.i64.wrap i = i := by
  unfold IntKind.wrap
  have : IntKind.i64.bits = 64 := rfl
  simp [this, IntKind.signed]
  omega
end Go.Cam
namespace Go.Cam
open Go Go.RowKit

def execR (P : Program) (n K nt : Nat) (c : Code) (fr : T AV) (H : Hp) (s : List It) (τ : List (Nat × Nat)) (nx : Nat) (l : List (Tmp × AV)) (bs : List (Nat × AObj)) : Option (AEx × List Prop) :=
  match execB P n K nt c fr H s with
  | none => none
  | some (e, fr1, H1, _, obs) => match renFr (nameF K τ) nx fr1 l, renBs K (nameF K τ) nx H1 bs, Nat.ble K nx with
    | some p1, some (_, _, p2), true => some (e, catL obs (catL p1 p2))
    | _, _, _ => none
theorem pathR {P : Program} (hm : P.follows .mixedOrders = true) {n K nt : Nat} {c : Code} {fr : T AV} {H : Hp} {s : List It} {τ : List (Nat × Nat)} {nx : Nat} {l : List (Tmp × AV)} {bs : List (Nat × AObj)} {e : AEx} {obs : List Prop}
    (h : execR P n K nt c fr H s τ nx l bs = some (e, obs)) (ha : AllP obs) : DoesC P K nt c fr H e (frameOf l) (heapOf nx bs H.gl) := by
  unfold execR at h
  split at h
  · cases h
  rename_i e1 fr1 H1 s1 ob1 h1
  split at h
  case h_2 => cases h
  rename_i p1 ns gs p2 hp1 hp2 hk1
  cases h
  obtain ⟨a1, a2⟩ := AllP.cat.1 ha
  obtain ⟨a2, a3⟩ := AllP.cat.1 a2
  have hd := (execB_ok hm n).1 _ _ _ _ _ _ _ _ _ _ _ h1 a1
  intro μ a w Q hr hs hk hf hn hQ
  refine hd μ a w Q hr hs hk hf hn fun μ1 a1 w1 q1 q2 q3 q4 => ?_
  have R := ren_of (gl := H.gl) nameF_low (Nat.le_of_ble_eq_true hk1) q1.st.2.symm (renFr_ok hp1 a2) (renBs_ok hp2 a3).1
  exact hQ _ a1 w1 (R.sk q1) (R.fr_ok q2) q3 q4
end Go.Cam
namespace Go.Cam
open Go Go.RowKit

/-- What was there is as it was. -/
theorem Step.of_below {μ : Mu} {H : Hp} {w w' : World} (hr : HR μ H w) (b : Below w.heap.size w w') : Step μ H w μ H w' := by
  have hk : ∀ k, k < w.heap.size → w'.heap[k]? = w.heap[k]? := fun k hk => b.block k hk
  refine ⟨⟨hr.str, hr.next, hr.dom, fun c o hc => ?_, hr.apart, hr.grp, fun g cs hg => ?_, fun g cs hg => ?_⟩, .refl _, fun c o hc => .inl ⟨c, o, hc, rfl⟩, b.os, b.tape, b.output, b.size, fun k hk' _ => hk k hk', ⟨0, by simp, fun c hc => .inl hc⟩, ⟨rfl, rfl⟩, fun c cs g hc => .inl ⟨c, cs, hc⟩, fun _ _ h => .inl h⟩
  · rw [hk _ (hr.lt hc)]; exact hr.obj c o hc
  · obtain ⟨⟨arr, ty, fz, e1, e2⟩, h2⟩ := hr.glob g cs hg
    exact ⟨⟨arr, ty, fz, by rw [hk g (hr.glt g cs hg)]; exact e1, e2⟩, h2⟩
  · obtain ⟨⟨arr, ty, fz, e1, e2⟩, h2⟩ := hr.frozen g cs hg
    refine ⟨⟨arr, ty, fz, ?_, e2⟩, h2⟩
    rw [hk g]
    · exact e1
    · rcases Nat.lt_or_ge g w.heap.size with h1 | h1
      · exact h1
      · rw [Array.getElem?_eq_none h1] at e1; cases e1
/-- A contract that says: this value, and what was there is as it was. -/
theorem Does.of_real {P : Program} {f : FuncId} {args : List AV} {H : Hp} {v : Value} (h : ∀ μ w us, HR μ H w → VRs μ args us → Calls P f us w (fun e w' => e = .returned v ∧ Below w.heap.size w w')) : Does P f args H (.lit v) H := by
  intro μ w us hr hv
  refine (h μ w us hr hv).mono ?_
  rintro e w' ⟨rfl, hb⟩
  exact ⟨v, μ, rfl, .of_below hr hb, .lit _⟩
theorem HR.globals {μ : Mu} {H : Hp} {w : World} (hr : HR μ H w) : Globals H.gl w := fun g cs hg => (hr.glob g cs hg).1
theorem VRs.ofLits {μ : Mu} {us a : Array Value} (h : VRs μ (litList us.toList) a) : a = us := by
  have e : litsOf (litList us.toList) = some us.toList := by
    have : ∀ l : List Value, litsOf (Cam.litList l) = some l := by
      intro l
      induction l with
      | nil => rfl
      | cons x l ih => simp [Cam.litList, litsOf, ih]
    exact this _
  have := h.lits e
  rw [this]
theorem Does.of_calls {P : Program} {f : FuncId} {us : Array Value} {H : Hp} {v : Value} (h : ∀ w, Globals H.gl w → Calls P f us w (fun e w' => e = .returned v ∧ Below w.heap.size w w')) : Does P f (litList us.toList) H (.lit v) H :=
  Does.of_real fun μ w a hr hv => by rw [hv.ofLits]; exact h w hr.globals
/-- From the heap of which nothing is known to every heap. -/
theorem Does.lift {P : Program} {f : FuncId} {us : Array Value} {H H1 : Hp} {v : Value} (h : Does P f (litList us.toList) (heapOf 0 [] H.gl) (.lit v) H1) : Does P f (litList us.toList) H (.lit v) H := by
  refine Does.of_calls fun w hg => ?_
  have hr : HR μ0 (heapOf 0 [] H.gl) w := HR.start hg
  refine (h μ0 w us hr ?_).mono ?_
  · have := litList_ok (μ := μ0) us.toList
    simpa using this
  · rintro e w' ⟨u, μ', rfl, h1, h2⟩
    have := h2.lit_eq
    subst this
    exact ⟨rfl, h1.below fun b => T.get_leaf b⟩
/-- From a run of the machine. -/
theorem Does.calls {P : Program} {f : FuncId} {us : Array Value} {gl : Nat → Option (List Value)} {H1 : Hp} {v : Value} (h : Does P f (litList us.toList) (heapOf 0 [] gl) (.lit v) H1) (w : World) (hg : Globals gl w) : Calls P f us w (fun e w' => e = .returned v ∧ Below w.heap.size w w') := by
  have hr : HR μ0 (heapOf 0 [] gl) w := HR.start hg
  refine (h μ0 w us hr ?_).mono ?_
  · have := litList_ok (μ := μ0) us.toList
    simpa using this
  · rintro e w' ⟨u, μ', rfl, h1, h2⟩
    have := h2.lit_eq
    subst this
    exact ⟨rfl, h1.below fun b => T.get_leaf b⟩
end Go.Cam
namespace Go.Cam
open Go Go.RowKit

/-! ## Blocks that nothing writes any more -/
open Classical in
noncomputable def Mu.freeze (μ : Mu) (H1 H2 : Hp) (w : World) : Mu := ⟨μ.dom, μ.blk, μ.size, fun k =>
  match μ.fz k with
  | some vs => some vs
  | none => if (∃ b o, H1.blk.get b = some o ∧ μ.blk b = k) ∧ (∀ c o, H2.blk.get c = some o → μ.blk c ≠ k) then
      (match w.heap[k]? with | some (.cells arr _ _) => some arr.toList | _ => none) else none⟩
theorem Mu.freeze_old {μ : Mu} {H1 H2 : Hp} {w : World} {k : Nat} {vs : List Value} (h : μ.fz k = some vs) : (μ.freeze H1 H2 w).fz k = some vs := by
  simp only [Mu.freeze, h]
theorem Mu.freeze_new {μ : Mu} {H1 H2 : Hp} {w : World} {k : Nat} {vs : List Value} (h : (μ.freeze H1 H2 w).fz k = some vs) :
    μ.fz k = some vs ∨ ((∃ b o, H1.blk.get b = some o ∧ μ.blk b = k) ∧ (∀ c o, H2.blk.get c = some o → μ.blk c ≠ k) ∧ ∃ arr ty fz, w.heap[k]? = some (.cells arr ty fz) ∧ arr.toList = vs) := by
  simp only [Mu.freeze] at h
  split at h
  · rename_i vs' h1
    cases h
    exact .inl h1
  · split at h
    · rename_i hc
      split at h
      · rename_i arr ty fz e
        cases h
        exact .inr ⟨hc.1, hc.2, arr, ty, fz, e, rfl⟩
      · cases h
    · cases h
theorem Mu.freeze_le {μ : Mu} {H1 H2 : Hp} {w : World} : μ.le (μ.freeze H1 H2 w) := ⟨fun _ h => h, fun _ _ => ⟨rfl, rfl⟩, fun _ _ h => Mu.freeze_old h⟩
def Hp.only (H : Hp) (t : T AObj) : Hp := { H with blk := t }
theorem HR.freeze {μ : Mu} {H1 : Hp} {w : World} (hr : HR μ H1 w) {t : T AObj} (ht : ∀ b o, t.get b = some o → H1.blk.get b = some o) : HR (μ.freeze H1 (H1.only t) w) (H1.only t) w := by
  refine ⟨hr.str, hr.next, fun b o h => hr.dom b o (ht b o h), fun b o h => (hr.obj b o (ht b o h)).mono Mu.freeze_le (hr.dom b o (ht b o h)), fun b c o o' h1 h2 => hr.apart b c o o' (ht b o h1) (ht c o' h2), fun b cs g h => hr.grp b cs g (ht b _ h), fun g cs hg => ?_, fun k vs hk => ?_⟩
  · obtain ⟨h1, h2⟩ := hr.glob g cs hg
    exact ⟨h1, fun b o h => h2 b o (ht b o h)⟩
  · rcases Mu.freeze_new hk with h | ⟨_, h2, arr, ty, fz, e1, e2⟩
    · obtain ⟨h1, h2⟩ := hr.frozen k vs h
      exact ⟨h1, fun b o h => h2 b o (ht b o h)⟩
    · exact ⟨⟨arr, ty, fz, e1, fun i v hv => by rw [← e2, Array.getElem?_toList] at hv; exact hv⟩, h2⟩
theorem Step.freeze {μ μ1 : Mu} {H H1 : Hp} {w w1 : World} (s : Step μ H w μ1 H1 w1) {t : T AObj} (ht : ∀ b o, t.get b = some o → H1.blk.get b = some o) : Step μ H w (μ1.freeze H1 (H1.only t) w1) (H1.only t) w1 := by
  refine ⟨s.hr.freeze ht, s.le.trans Mu.freeze_le, fun b o h => s.img b o (ht b o h), s.os, s.tape, s.output, s.size, s.keep, s.nx, s.st, fun b cs g h => s.gr b cs g (ht b _ h), fun k vs hk => ?_⟩
  rcases Mu.freeze_new hk with h | ⟨⟨b, o, hb, e⟩, _⟩
  · exact s.nf k vs h
  · rcases s.img b o hb with ⟨c, o', hc, e2⟩ | h
    · exact .inr (.inl ⟨c, o', hc, e2.trans e⟩)
    · exact .inr (.inr (by omega))
theorem SK.freeze {K : Nat} {μ μ1 : Mu} {H H1 : Hp} {w w1 : World} (s : SK K μ H w μ1 H1 w1) {t : T AObj} (ht : ∀ b o, t.get b = some o → H1.blk.get b = some o) : SK K μ H w (μ1.freeze H1 (H1.only t) w1) (H1.only t) w1 := by
  refine ⟨s.hr.freeze ht, fun b hb h => s.le b hb h, fun b o h => s.img b o (ht b o h), s.os, s.tape, s.output, s.size, s.keep, s.dom, s.st, s.kn, fun b cs g h => s.gr b cs g (ht b _ h), fun k vs h => Mu.freeze_old (s.fm k vs h), fun k vs hk => ?_⟩
  rcases Mu.freeze_new hk with h | ⟨⟨b, o, hb, e⟩, _⟩
  · exact s.nf k vs h
  · rcases s.img b o hb with ⟨c, o', hc, e2⟩ | h
    · exact .inr (.inl ⟨c, o', hc, e2.trans e⟩)
    · exact .inr (.inr (by omega))

/-- v says what v1 says, where the blocks of H1 that H2 has no more are no longer written. -/
inductive FzV (H1 H2 : Hp) : AV → AV → Prop where
  | refl (v : AV) : FzV H1 H2 v v
  | agg (l m : List AV) : l.length = m.length → (∀ i (h : i < l.length) (h' : i < m.length), FzV H1 H2 l[i] m[i]) → FzV H1 H2 (.agg l) (.agg m)
  | tuple (l m : List AV) : l.length = m.length → (∀ i (h : i < l.length) (h' : i < m.length), FzV H1 H2 l[i] m[i]) → FzV H1 H2 (.tuple l) (.tuple m)
  | sliceE (esz : Nat) : FzV H1 H2 (.frz esz []) .sliceE
  | nil (esz : Nat) : FzV H1 H2 (.frz esz []) (.lit (.slice none 0 0))
  | slice (b off esz : Nat) (c : Option Nat) (cs : List (Option AV)) (g : Nat) (es : List (List AV)) (x1 : Nat → Nat → AV) : H1.blk.get b = some (.cells cs g) → H2.blk.get b = none → (∀ c ds, H2.blk.get c ≠ some (.cells ds g)) →
      (∀ i (h : i < es.length), es[i].length = esz) → (∀ i (h : i < es.length) j (h' : j < es[i].length), cs[off + i * esz + j]? = some (some (x1 i j)) ∧ es[i][j].flat = true) →
      (∀ i (h : i < es.length) j (h' : j < es[i].length), FzV H1 H2 es[i][j] (x1 i j)) → FzV H1 H2 (.frz esz es) (.slice b off es.length esz c)
/-- Pointers too. -/
theorem FzV.vr {μ : Mu} {H1 : Hp} {w : World} (hr : HR μ H1 w) {t : T AObj} (ht : ∀ b o, t.get b = some o → H1.blk.get b = some o) {v v1 : AV} (h : FzV H1 (H1.only t) v v1) : ∀ {u : Value}, VR μ v1 u → VR (μ.freeze H1 (H1.only t) w) v u := by
  induction h with
  | refl v => intro u hu; exact hu.mono Mu.freeze_le
  | agg l m e _ ih =>
    intro u hu
    cases hu with
    | agg _ a k g => exact .agg l a (e.trans k) fun i h h' => ih i h (by omega) (g i (by omega) h')
  | tuple l m e _ ih =>
    intro u hu
    cases hu with
    | tuple _ a k g => exact .tuple l a (e.trans k) fun i h h' => ih i h (by omega) (g i (by omega) h')
  | sliceE esz =>
    intro u hu
    cases hu with
    | sliceE a cap => exact .frzE esz a cap
  | nil esz =>
    intro u hu
    rw [hu.lit_eq]
    exact .frzN esz
  | slice b off esz c cs g es x1 hb hn hg hl hc _ ih =>
    intro u hu
    cases hu with
    | slice _ _ _ _ cap _ hd h1 h2 h3 =>
    obtain ⟨arr, tf, e, ⟨hs, _⟩, hl1, hcs⟩ := hr.obj b _ hb
    have hfz : ∃ vs, (μ.freeze H1 (H1.only t) w).fz (μ.blk b) = some vs ∧ ∀ (i : Nat) (v : AV), cs[i]? = some (some v) → ∃ u, vs[i]? = some u ∧ VR μ v u := by
      have hnone : μ.fz (μ.blk b) = none := by
        cases hq : μ.fz (μ.blk b) with
        | none => rfl
        | some vs => exact absurd rfl ((hr.frozen _ vs hq).2 b _ hb)
      refine ⟨arr.toList, ?_, fun i v hi => ?_⟩
      · simp only [Mu.freeze, hnone]
        rw [if_pos, e]
        refine ⟨⟨b, _, hb, rfl⟩, fun c o hc he => ?_⟩
        have hcb : c ≠ b := by
          intro e
          rw [e, hn] at hc
          cases hc
        rcases hr.apart c b o _ (ht c o hc) hb hcb with hm | hm
        · cases o with
          | cells ds g' =>
            have hm : g' = g := hm
            subst hm
            exact hg c ds hc
          | map es => exact hm.elim
          | iter s p => exact hm.elim
        · exact hm he
      · obtain ⟨u, g1, g2, _⟩ := hcs i v hi
        exact ⟨u, by rw [Array.getElem?_toList]; exact g1, g2⟩
    obtain ⟨vs, hv1, hv2⟩ := hfz
    have hch : ∀ i j, ∃ u : Value, ∀ (h : i < es.length) (h' : j < es[i].length), vs[off + i * esz + j]? = some u ∧ VR μ (x1 i j) u := by
      intro i j
      by_cases hij : ∃ (h : i < es.length), j < es[i].length
      · obtain ⟨h, h'⟩ := hij
        obtain ⟨u, k1, k2⟩ := hv2 _ _ (hc i h j h').1
        exact ⟨u, fun _ _ => ⟨k1, k2⟩⟩
      · exact ⟨default, fun h h' => absurd ⟨h, h'⟩ hij⟩
    refine .frz esz es (μ.blk b) off cap vs (fun i j => (hch i j).choose) hv1 h1 hl (fun i h j h' => ⟨((hch i j).choose_spec h h').1, (hc i h j h').2⟩) (fun i h j h' => ih i h j h' ((hch i j).choose_spec h h').2)
theorem Does.freeze {P : Program} {f : FuncId} {args : List AV} {H H1 : Hp} {v1 v : AV} (h : Does P f args H v1 H1) {t : T AObj} (ht : ∀ b o, t.get b = some o → H1.blk.get b = some o) (hv : FzV H1 (H1.only t) v v1) : Does P f args H v (H1.only t) := by
  intro μ w us hr hvs
  refine (h μ w us hr hvs).mono ?_
  rintro e w' ⟨u, μ', rfl, h1, h2⟩
  exact ⟨u, _, rfl, h1.freeze ht, hv.vr h1.hr ht h2⟩

/-! ## Values without names -/
inductive Pu : AV → Prop where
  | lit (v : Value) : Pu (.lit v)
  | sliceE : Pu .sliceE
  | agg (l : List AV) : (∀ i (h : i < l.length), Pu l[i]) → Pu (.agg l)
  | tuple (l : List AV) : (∀ i (h : i < l.length), Pu l[i]) → Pu (.tuple l)
  | iface (t : TypeId) (v : AV) : Pu v → Pu (.iface t v)
  | func (fn : Fn) (l m : List AV) : (∀ i (h : i < l.length), Pu l[i]) → (∀ i (h : i < m.length), Pu m[i]) → Pu (.func fn l m)
  | frz (esz : Nat) (es : List (List AV)) : (∀ i (h : i < es.length) j (h' : j < es[i].length), Pu es[i][j]) → Pu (.frz esz es)
  | frp (cs : List AV) : (∀ i (h : i < cs.length), Pu cs[i]) → Pu (.frp cs)
theorem Pu.vr {v : AV} (hp : Pu v) {μ μ' : Mu} (hf : ∀ k vs, μ.fz k = some vs → μ'.fz k = some vs) : ∀ {u : Value}, VR μ v u → VR μ' v u := by
  induction hp with
  | lit v => intro u hu; rw [hu.lit_eq]; exact .lit v
  | sliceE => intro u hu; cases hu with | sliceE a cap => exact .sliceE a cap
  | agg l _ ih => intro u hu; cases hu with | agg _ a k g => exact .agg l a k fun i h h' => ih i h (g i h h')
  | tuple l _ ih => intro u hu; cases hu with | tuple _ a k g => exact .tuple l a k fun i h h' => ih i h (g i h h')
  | iface t v _ ih => intro u hu; cases hu with | iface _ _ x g => exact .iface t v x (ih g)
  | func fn l m _ _ i1 i2 => intro u hu; cases hu with | func _ _ _ a1 a2 k1 k2 g1 g2 => exact .func fn l m a1 a2 k1 k2 (fun i h h' => i1 i h (g1 i h h')) (fun i h h' => i2 i h (g2 i h h'))
  | frz esz es _ ih =>
    intro u hu
    cases hu with
    | frz _ _ k off cap vs us h1 h2 h3 h4 h5 => exact .frz esz es k off cap vs us (hf _ _ h1) h2 h3 h4 fun i h j h' => ih i h j h' (h5 i h j h')
    | frzE _ a cap => exact .frzE esz a cap
    | frzN _ => exact .frzN esz
  | frp cs _ ih =>
    intro u hu
    cases hu with
    | frp _ k off vs us h1 h2 h3 => exact .frp cs k off vs us (hf _ _ h1) h2 fun i h => ih i h (h3 i h)
theorem Pu.rn {v : AV} (hp : Pu v) {σ : Nat → Nat} {N : Nat} : Rn σ N v v := by
  induction hp with
  | lit v => exact .lit v
  | sliceE => exact .sliceE
  | agg l _ ih => exact .agg l l rfl fun i h _ => ih i h
  | tuple l _ ih => exact .tuple l l rfl fun i h _ => ih i h
  | iface t v _ ih => exact .iface t v v ih
  | func fn l m _ _ i1 i2 => exact .func fn l m l m rfl rfl (fun i h _ => i1 i h) (fun i h _ => i2 i h)
  | frz esz es _ ih => exact .frz esz es ih
  | frp cs _ ih => exact .frp cs ih
/-- From the heap of which nothing is known to every heap: what bears no names. -/
theorem Does.liftP {P : Program} {f : FuncId} {args : List AV} {H H1 : Hp} {v : AV} (h : Does P f args (heapOf 0 [] H.gl) v H1) (ha : ∀ i (h : i < args.length), Pu args[i]) (hv : Pu v) : Does P f args H v H := by
  intro μ w us hr hvs
  have h0 : HR ⟨fun _ => False, id, id, μ.fz⟩ (heapOf 0 [] H.gl) w :=
    ⟨Nat.one_pos, fun k h => h, fun b o h => by simp [heapOf, treeOf, T.get_leaf] at h, fun b o h => by simp [heapOf, treeOf, T.get_leaf] at h, fun b c o o' h => by simp [heapOf, treeOf, T.get_leaf] at h, fun b cs g h => by simp [heapOf, treeOf, T.get_leaf] at h,
      fun g cs hg => ⟨(hr.glob g cs hg).1, fun b o h => by simp [heapOf, treeOf, T.get_leaf] at h⟩, fun k vs hk => ⟨(hr.frozen k vs hk).1, fun b o h => by simp [heapOf, treeOf, T.get_leaf] at h⟩⟩
  have hvs0 : VRs ⟨fun _ => False, id, id, μ.fz⟩ args us := ⟨hvs.1, fun i h1 h2 => (ha i h1).vr (μ := μ) (μ' := ⟨fun _ => False, id, id, μ.fz⟩) (fun _ _ h => h) (hvs.2 i h1 h2)⟩
  refine (h _ w us h0 hvs0).mono ?_
  rintro e w' ⟨u, μ', rfl, s, h2⟩
  have hkeep : ∀ k, k < w.heap.size → w'.heap[k]? = w.heap[k]? := fun k hk => s.keep k hk (fun b o h => by simp [heapOf, treeOf, T.get_leaf] at h)
  have hnf : ∀ k vs, μ'.fz k = some vs → μ.fz k = some vs ∨ w.heap.size ≤ k := by
    intro k vs hk
    rcases s.nf k vs hk with h1 | ⟨c, o, hc, _⟩ | h1
    · exact .inl h1
    · simp [heapOf, treeOf, T.get_leaf] at hc
    · exact .inr h1
  have hfm : ∀ k vs, μ.fz k = some vs → μ'.fz k = some vs := fun k vs hk => s.le.3 k vs hk
  have hle : μ.le ⟨μ.dom, μ.blk, μ.size, μ'.fz⟩ := ⟨fun _ h => h, fun _ _ => ⟨rfl, rfl⟩, hfm⟩
  refine ⟨u, ⟨μ.dom, μ.blk, μ.size, μ'.fz⟩, rfl, ⟨⟨hr.str, hr.next, hr.dom, fun b o hb => ?_, hr.apart, hr.grp, fun g cs hg => ?_, fun k vs hk => ⟨(s.hr.frozen k vs hk).1, fun b o hb => ?_⟩⟩, hle, fun b o hb => .inl ⟨b, o, hb, rfl⟩, s.os, s.tape, s.output, s.size, fun k hk _ => hkeep k hk, ⟨0, by simp, fun b hb => .inl hb⟩, ⟨rfl, rfl⟩, fun b cs g hb => .inl ⟨b, cs, hb⟩, fun k vs hk => (hnf k vs hk).imp id .inr⟩, hv.vr (μ := μ') (μ' := ⟨μ.dom, μ.blk, μ.size, μ'.fz⟩) (fun _ _ h => h) h2⟩
  · show OR _ o b (w'.heap[μ.blk b]?)
    rw [hkeep _ (hr.lt hb)]
    exact (hr.obj b o hb).mono hle (hr.dom b o hb)
  · obtain ⟨⟨arr, ty, fz, e1, e2⟩, k2⟩ := hr.glob g cs hg
    exact ⟨⟨arr, ty, fz, by rw [hkeep g (hr.glt g cs hg)]; exact e1, e2⟩, k2⟩
  · show μ.blk b ≠ k
    rcases hnf k vs hk with h1 | h1
    · exact (hr.frozen k vs h1).2 b o hb
    · have := hr.lt hb; omega
/-- A function that makes blocks of its own, of which nothing writes any more when it returns. -/
theorem Does.pure {P : Program} {f : FuncId} {args : List AV} {H H1 : Hp} {v1 v : AV} (h : Does P f args (heapOf 0 [] H.gl) v1 H1) (ha : ∀ i (h : i < args.length), Pu args[i]) (hf : FzV H1 (H1.only .leaf) v v1) (hv : Pu v) : Does P f args H v H :=
  Does.liftP (h.freeze (t := .leaf) (fun b o h => by simp [T.get_leaf] at h) hf) ha hv
/-- From a run of the machine, whatever was there at the begin. -/
theorem Does.callsF {P : Program} {f : FuncId} {args : List AV} {gl : Nat → Option (List Value)} {H1 : Hp} {v : Value} (h : Does P f args (heapOf 0 [] gl) (.lit v) H1) (w : World) (hg : Globals gl w) (us : Array Value) (hv : VRs (μF w) args us) : Calls P f us w (fun e w' => e = .returned v ∧ Below w.heap.size w w') := by
  have hr : HR (μF w) (heapOf 0 [] gl) w := HR.startF hg
  refine (h (μF w) w us hr hv).mono ?_
  rintro e w' ⟨u, μ', rfl, h1, h2⟩
  have := h2.lit_eq
  subst this
  exact ⟨rfl, h1.below fun b => T.get_leaf b⟩
end Go.Cam
namespace Go.Cam
open Go Go.RowKit

/-! ## Rows of what is known -/
theorem getL_map {α β : Type} (f : α → β) (l : List α) (n : Nat) : getL n (l.map f) = (l[n]?).map f := by rw [getL_eq, List.getElem?_map]
/-- t is a slice of elements of this size. -/
def sliceOk (P : Program) (t : TypeId) (esz : Nat) : Bool :=
  match tinf P t with
  | none => false
  | some i => match i.desc with
    | .slice elem => match tinf P elem with
      | none => false
      | some e => Nat.beq esz e.size
    | _ => false
theorem sliceOk_parts {P : Program} {t : TypeId} {esz : Nat} (h : sliceOk P t esz = true) : ∃ i elem e, tinf P t = some i ∧ i.desc = .slice elem ∧ tinf P elem = some e ∧ esz = e.size := by
  unfold sliceOk at h
  split at h
  · cases h
  rename_i i hi
  split at h
  case h_2 => cases h
  rename_i elem hd
  split at h
  · cases h
  rename_i e he
  exact ⟨i, elem, e, hi, hd, he, Nat.eq_of_beq_eq_true h⟩
theorem natOf_int (k : IntKind) (n : Nat) : natOf (.lit (.int k (n : Int))) = some n := by
  show (match Int.decLe 0 (n : Int) with | .isTrue _ => some (n : Int).toNat | .isFalse _ => none) = some n
  split
  · simp
  · rename_i h _; exact absurd (Int.natCast_nonneg n) h
theorem index_frz {P : Program} {t : TypeId} {esz : Nat} (h : sliceOk P t esz = true) {X : Type} {xs : List X} {enc : X → List AV} {n : Nat} {k : IntKind} {x : X} (hx : xs[n]? = some x) :
    indexAddrA P t (.frz esz (List.map enc xs)) (.lit (.int k (n : Int))) = some (.frp (enc x)) := by
  obtain ⟨i, elem, e, h1, h2, h3, h4⟩ := sliceOk_parts h
  unfold indexAddrA
  rw [h1]
  simp only [natOf_int, h2, h3, h4, Nat.beq_refl, getL_map, hx, Option.map_some]
def sliceT (P : Program) (t : TypeId) : Bool :=
  match tinf P t with
  | none => false
  | some i => match i.desc with
    | .slice _ => true
    | _ => false
def stringT (P : Program) (t : TypeId) : Bool :=
  match tinf P t with
  | none => false
  | some i => match i.desc with
    | .string => true
    | _ => false
theorem len_frz {P : Program} {t ty : TypeId} {esz : Nat} {H : Hp} (h : sliceT P t = true) {X : Type} {xs : List X} {enc : X → List AV} :
    builtinA P H .len #[t] ty [.frz esz (List.map enc xs)] = some (.val (.lit (.int .i64 (xs.length : Int))) H) := by
  unfold sliceT at h
  split at h
  · cases h
  rename_i i hi
  split at h
  case h_2 => cases h
  rename_i elem hd
  unfold builtinA
  simp only [lenOpA, hi, hd, lenL_eq, List.length_map, outV]
  rfl
def bs (l : List UInt8) : ByteArray := ⟨l.toArray⟩
theorem bs_append (l m : List UInt8) : bs l ++ bs m = bs (l ++ m) := by
  apply ByteArray.ext
  simp [bs]
theorem bs_size (l : List UInt8) : (bs l).size = l.length := by simp [bs, ByteArray.size]
theorem bs_list (l : List UInt8) : (bs l).data.toList = l := by simp [bs]
theorem bs_inj {l m : List UInt8} : bs l = bs m ↔ l = m := ⟨fun h => by rw [← bs_list l, h, bs_list], fun h => by rw [h]⟩
theorem len_bs {P : Program} {t ty : TypeId} {H : Hp} (h : stringT P t = true) {l : List UInt8} : builtinA P H .len #[t] ty [.lit (.string (bs l))] = some (.val (.lit (.int .i64 (l.length : Int))) H) := by
  unfold stringT at h
  split at h
  · cases h
  rename_i i hi
  split at h
  case h_2 => cases h
  rename_i hd
  unfold builtinA
  simp only [lenOpA, hi, hd, bs_size, outV]
  rfl
theorem binA_bs {P : Program} {t : TypeId} {xo yo : Operand} {a b : List UInt8} (h : a.length + b.length ≤ 9223372036854775807) : binA P .add t xo yo (.lit (.string (bs a))) (.lit (.string (bs b))) = some (.lit (.string (bs (a ++ b)))) := by
  rw [← bs_append]; exact binA_cat (by rw [bs_size, bs_size]; exact h)
theorem binA_addN {P : Program} {t : TypeId} {xo yo : Operand} {a b : Nat} (h : a + b ≤ 9223372036854775807) : binA P .add t xo yo (.lit (.int .i64 (a : Int))) (.lit (.int .i64 (b : Int))) = some (.lit (.int .i64 ((a + b : Nat) : Int))) :=
  binA_addI (wrap_i64 (by omega) (by omega))
/-- The cells of a row. -/
def rowc {X : Type} (enc : X → List AV) (L : List X) : List (Option AV) := (L.flatMap enc).map some
theorem rowc_length {X : Type} {enc : X → List AV} {e : Nat} (he : ∀ x, (enc x).length = e) : ∀ L : List X, (rowc enc L).length = L.length * e
  | [] => by simp [rowc]
  | x :: L => by
    have := rowc_length he L
    simp only [rowc, List.length_map] at this
    simp only [rowc, List.flatMap_cons, List.length_map, List.length_append, he, this, List.length_cons, Nat.add_mul]
    omega
theorem wipe_end (cs : List (Option AV)) (n k : Nat) (h : cs.length ≤ n) : Cam.wipe cs n k = cs := by
  induction cs generalizing n with
  | nil => cases k <;> cases n <;> rfl
  | cons c cs ih =>
    cases n with
    | zero => simp at h
    | succ n =>
      cases k with
      | zero => rfl
      | succ k =>
        show c :: Cam.wipe cs n (k + 1) = c :: cs
        rw [ih n (by simpa using h)]
theorem forget_end {H : Hp} {b n k g : Nat} {cs : List (Option AV)} (hb : H.blk.get b = some (.cells cs g)) (hn : cs.length ≤ n) : H.forget n k [b] = { H with blk := H.blk.set fuelT b (.cells cs g) } := by
  unfold Hp.forget Hp.forget Hp.forget1
  rw [hb]
  simp only [AObj.wipe, wipe_end cs n k hn]
theorem allFlat_of : ∀ {l : List AV}, (∀ v ∈ l, v.flat = true) → AV.allFlat l = true
  | [], _ => rfl
  | v :: r, h => by
    simp only [AV.allFlat, h v (by simp)]
    exact allFlat_of fun x hx => h x (List.mem_cons_of_mem _ hx)
/-- May rows of this type be appended to, with elements of this size and these bytes? -/
def appOk (P : Program) (sT xT : TypeId) (esz : Nat) : Bool :=
  match tinf P sT, tinf P xT with
  | some i, some j => match i.desc with
    | .slice elem => match (match j.desc with | .slice _ => true | .string => true | _ => false) with
      | false => false
      | true => match tinf P elem with
        | none => false
        | some e => match e.zero with
          | none => false
          | some z => Nat.beq z.cells.size e.size && Nat.beq e.size esz && Nat.ble e.bytes 4096
    | _ => false
  | _, _ => false
/-- append onto a row whose capacity is not known. -/
theorem append_row {P : Program} {H H' : Hp} {sT xT ty : TypeId} {b g n m esz nx : Nat} {X : Type} {enc : X → List AV} {L L2 : List X} {src : AV} {ys : List AV} (ht : appOk P sT xT esz = true) (hb : H.blk.get b = some (.cells (rowc enc L) g)) (hg : H.grps.get g = some [b])
    (hsrc : srcA esz src H = some (m + 1, ys)) (hl : L2.flatMap enc = L.flatMap enc ++ ys) (hn : (rowc enc L).length = n * esz) (hfl : AV.allFlat ys = true) (hf : n + (m + 1) ≤ 268435456)
    (hH : H' = ⟨H.next + H.str, (H.blk.set fuelT b (.cells (rowc enc L) g)).set fuelT H.next (.cells (rowc enc L2) g), H.grps.set fuelT g [H.next, b], H.gl, H.str⟩) (hnx : nx = H.next) :
    builtinA P H .append #[sT, xT] ty [.slice b 0 n esz none, src] = some (.val (.slice nx 0 (n + (m + 1)) esz none) H') := by
  subst hnx
  unfold appOk at ht
  split at ht
  case h_2 => cases ht
  rename_i i j hi hj
  split at ht
  case h_2 => cases ht
  rename_i elem hd
  split at ht
  · cases ht
  rename_i hjd
  split at ht
  · cases ht
  rename_i e he
  split at ht
  · cases ht
  rename_i z hz
  simp only [Bool.and_eq_true] at ht
  obtain ⟨⟨t1, t2⟩, t3⟩ := ht
  have t2 := Nat.eq_of_beq_eq_true t2
  have t3 := Nat.le_of_ble_eq_true t3
  subst t2
  have hfit : fitsA (n + (m + 1)) e.bytes = true := by
    unfold fitsA
    simp only [Bool.and_eq_true, Nat.ble_eq]
    have := Nat.mul_le_mul hf t3
    omega
  have hap : H.appendU b (n * e.size) ys = some (H.next, H') := by
    unfold Hp.appendU
    rw [hb]
    simp only [hg]
    have hc : (Nat.ble (n * e.size) (rowc enc L).length && AV.allFlat ys) = true := by
      rw [hn, hfl]; simp
    rw [hc]
    simp only
    rw [takeL_eq, ← hn, List.take_length, catL_eq, someAll_eq, forget_end hb (Nat.le_refl _), hH]
    have : rowc enc L ++ ys.map some = rowc enc L2 := by simp only [rowc, hl, List.map_append]
    rw [this]
  have hjd' : (∃ q, j.desc = .slice q) ∨ j.desc = .string := by revert hjd; cases j.desc <;> simp
  unfold builtinA appendA
  rcases hjd' with ⟨q, hq⟩ | hq <;> simp only [hi, hj, hd, hq, he, hz, t1, hsrc, Nat.beq_refl, Bool.true_and, hfit, hap, outVH]

theorem conv_ob {P : Program} {src dst : TypeId} {H : Hp} {k k' : IntKind} {v : Int} (h : runPure P (convert src dst (.int k v)) = some (.int k' (k'.wrap v))) (hw : k'.wrap v = v) : convertA P src dst (.lit (.int k v)) H = some (.lit (.int k' v), H) := by
  unfold convertA
  simp only [litOf, h, hw]

/-! ## Lists of values without names -/
inductive PuL : List AV → Prop where
  | nil : PuL []
  | cons {v : AV} {l : List AV} : Pu v → PuL l → PuL (v :: l)
theorem pus_get {l : List AV} (h : PuL l) : ∀ i (h : i < l.length), Pu l[i] := by
  induction h with
  | nil => intro i h; simp at h
  | cons h1 _ ih =>
    intro i hi
    cases i with
    | zero => exact h1
    | succ i => exact ih i (by simpa using hi)
theorem PuL.mem {l : List AV} (h : PuL l) : ∀ v ∈ l, Pu v := fun v hv => by
  obtain ⟨i, hi, rfl⟩ := List.getElem_of_mem hv
  exact pus_get h i hi
theorem Pu.map {X : Type} (esz : Nat) (xs : List X) {enc : X → List AV} (h : ∀ x, PuL (enc x)) : Pu (.frz esz (List.map enc xs)) :=
  .frz _ _ fun i hi j hj => by
    have : (List.map enc xs)[i] = enc (xs[i]'(by simpa using hi)) := by simp
    have hm : (List.map enc xs)[i][j] ∈ enc (xs[i]'(by simpa using hi)) := by rw [← this]; exact List.getElem_mem _
    exact (h _).mem _ hm
inductive RnL (σ : Nat → Nat) (N : Nat) : List AV → List AV → Prop where
  | nil : RnL σ N [] []
  | cons {v w : AV} {l m : List AV} : Rn σ N v w → RnL σ N l m → RnL σ N (v :: l) (w :: m)
theorem rns_get {σ : Nat → Nat} {N : Nat} {l m : List AV} (h : RnL σ N l m) : ∀ i (h : i < l.length) (h' : i < m.length), Rn σ N l[i] m[i] := by
  induction h with
  | nil => intro i h; simp at h
  | cons h1 _ ih =>
    intro i hi hj
    cases i with
    | zero => exact h1
    | succ i => exact ih i (by simpa using hi) (by simpa using hj)
theorem RnC.nil {σ : Nat → Nat} {N : Nat} {ds : List (Option AV)} : RnC σ N [] ds := ⟨by simp, fun i v h => by simp at h⟩
theorem RnC.cons {σ : Nat → Nat} {N : Nat} {cs ds : List (Option AV)} {v w : AV} (h : Rn σ N v w) (k : RnC σ N cs ds) : RnC σ N (some v :: cs) (some w :: ds) := by
  refine ⟨by simpa using k.1, fun i x hx => ?_⟩
  cases i with
  | zero => simp at hx; subst hx; exact ⟨w, by simp, h⟩
  | succ i => exact k.2 i x (by simpa using hx)
theorem RnC.same {σ : Nat → Nat} {N : Nat} {cs : List (Option AV)} (h : ∀ v, some v ∈ cs → Pu v) : RnC σ N cs cs := by
  refine ⟨Nat.le_refl _, fun i v hv => ⟨v, hv, Pu.rn (h v ?_)⟩⟩
  obtain ⟨h1, h2⟩ := List.getElem?_eq_some_iff.1 hv
  rw [← h2]; exact List.getElem_mem h1
theorem RnC.row {σ : Nat → Nat} {N : Nat} {X : Type} {L : List X} {enc : X → List AV} (h : ∀ x, PuL (enc x)) : RnC σ N (rowc enc L) (rowc enc L) := RnC.same fun v hv => by
  simp only [rowc, List.mem_map, List.mem_flatMap, Option.some.injEq] at hv
  obtain ⟨w, ⟨x, _, hx⟩, rfl⟩ := hv
  exact (h x).mem w hx

/-! ## Loops over lists -/
theorem loop_list {P : Program} {K nt : Nat} {c : Code} {X : Type} {xs : List X} (F : Nat → T AV) (Hf : Nat → Hp) {e : AEx} {fr' : T AV} {H' : Hp} (hr : ∀ i x, xs[i]? = some x → DoesC P K nt c (F i) (Hf i) .normal (F (i + 1)) (Hf (i + 1)))
    (he : DoesC P K nt c (F xs.length) (Hf xs.length) e fr' H') (hne : e ≠ .normal) : DoesL P K nt c (F 0) (Hf 0) e fr' H' := by
  have : ∀ d i, xs.length - i = d → i ≤ xs.length → DoesL P K nt c (F i) (Hf i) e fr' H' := by
    intro d
    induction d with
    | zero =>
      intro i h1 h2
      have : i = xs.length := by omega
      subst this
      exact DoesL.out he hne
    | succ d ih =>
      intro i h1 h2
      exact DoesL.round (hr i xs[i] (List.getElem?_eq_getElem (by omega))) (ih (i + 1) (by omega) (by omega))
  exact this xs.length 0 (by omega) (by omega)
/-- A loop that ends within its round m. -/
theorem loop_until {P : Program} {K nt : Nat} {c : Code} (F : Nat → T AV) (Hf : Nat → Hp) (m : Nat) {e : AEx} {fr' : T AV} {H' : Hp} (hr : ∀ i, i < m → DoesC P K nt c (F i) (Hf i) .normal (F (i + 1)) (Hf (i + 1)))
    (he : DoesC P K nt c (F m) (Hf m) e fr' H') (hne : e ≠ .normal) : DoesL P K nt c (F 0) (Hf 0) e fr' H' := by
  have : ∀ d i, m - i = d → i ≤ m → DoesL P K nt c (F i) (Hf i) e fr' H' := by
    intro d
    induction d with
    | zero =>
      intro i h1 h2
      have : i = m := by omega
      subst this
      exact DoesL.out he hne
    | succ d ih =>
      intro i h1 h2
      exact DoesL.round (hr i (by omega)) (ih (i + 1) (by omega) (by omega))
  exact this m 0 (by omega) (by omega)
theorem take_flatMap_succ {X Y : Type} {xs : List X} {i : Nat} {x : X} (h : xs[i]? = some x) (g : X → List Y) : (xs.take (i + 1)).flatMap g = (xs.take i).flatMap g ++ g x := by
  rw [List.take_add_one, h]; simp
theorem take_map_succ {X Y : Type} {xs : List X} {i : Nat} {x : X} (h : xs[i]? = some x) (g : X → Y) : (xs.take (i + 1)).map g = (xs.take i).map g ++ [g x] := by
  rw [List.take_add_one, h]; simp
theorem take_succ_at {X : Type} {xs : List X} {i : Nat} {x : X} (h : xs[i]? = some x) : xs.take (i + 1) = xs.take i ++ [x] := by
  rw [List.take_add_one, h]; simp
theorem flatMap_take_le {X Y : Type} (xs : List X) (i : Nat) (g : X → List Y) : ((xs.take i).flatMap g).length ≤ (xs.flatMap g).length := by
  conv => rhs; rw [← List.take_append_drop i xs, List.flatMap_append, List.length_append]
  omega

theorem take_sum_succ {X : Type} {xs : List X} {i : Nat} {x : X} (h : xs[i]? = some x) (g : X → Nat) : ((xs.take (i + 1)).map g).sum = ((xs.take i).map g).sum + g x := by
  rw [List.take_add_one, h]; simp
theorem take_sum_le {X : Type} (xs : List X) (i : Nat) (g : X → Nat) : ((xs.take i).map g).sum ≤ (xs.map g).sum := by
  conv => rhs; rw [← List.take_append_drop i xs, List.map_append, List.sum_append]
  omega
theorem len_le_sum {X : Type} (g : X → Nat) (hg : ∀ x, 1 ≤ g x) : ∀ xs : List X, xs.length ≤ (xs.map g).sum
  | [] => by simp
  | x :: xs => by
    have := len_le_sum g hg xs
    have := hg x
    simp only [List.length_cons, List.map_cons, List.sum_cons]; omega
theorem at_le_sum {X : Type} {xs : List X} {i : Nat} {x : X} (h : xs[i]? = some x) (g : X → Nat) : ((xs.take i).map g).sum + g x ≤ (xs.map g).sum := by
  rw [← take_sum_succ h g]; exact take_sum_le xs (i + 1) g
theorem at_lt {X : Type} {xs : List X} {i : Nat} {x : X} (h : xs[i]? = some x) : i < xs.length := (List.getElem?_eq_some_iff.1 h).1
theorem at_mem {X : Type} {xs : List X} {i : Nat} {x : X} (h : xs[i]? = some x) : x ∈ xs := List.mem_of_getElem? h

theorem flatMap_len {X Y : Type} {g : X → List Y} {m : Nat} (h : ∀ x, (g x).length = m) : ∀ xs : List X, (xs.flatMap g).length = m * xs.length
  | [] => by simp
  | x :: xs => by
    rw [List.flatMap_cons, List.length_append, h, flatMap_len h xs, List.length_cons, Nat.mul_add]; omega
theorem dec_ob {p : Prop} [Decidable p] (h : p) : some (AV.lit (.bool (decide p))) = some (.lit (.bool true)) := by rw [decide_eq_true h]
theorem dec_no {p : Prop} [Decidable p] (h : ¬ p) : some (AV.lit (.bool (decide p))) = some (.lit (.bool false)) := by rw [decide_eq_false h]
theorem beq_ob {a b : Int} (h : a = b) : some (AV.lit (.bool (a == b))) = some (.lit (.bool true)) := by simp [h]
theorem beq_no {a b : Int} (h : a ≠ b) : some (AV.lit (.bool (a == b))) = some (.lit (.bool false)) := by simp [h]
theorem bne_ob {a b : Int} (h : a ≠ b) : some (AV.lit (.bool (a != b))) = some (.lit (.bool true)) := by simp [h]
theorem bne_no {a b : Int} (h : a = b) : some (AV.lit (.bool (a != b))) = some (.lit (.bool false)) := by simp [h]
theorem FzV.nilL {H1 H2 : Hp} {esz : Nat} {X : Type} {enc : X → List AV} {xs : List X} (h : xs = []) : FzV H1 H2 (.frz esz (List.map enc xs)) (.lit (.slice none 0 0)) := by rw [h]; exact .nil _

theorem bin_b {P : Program} {op : BinOp} {t : TypeId} {xo yo : Operand} {x y : AV} {c d : Bool} (h : binA P op t xo yo x y = some (.lit (.bool c))) (hc : c = d) : binA P op t xo yo x y = some (.lit (.bool d)) := by rw [h, hc]
theorem dt {p : Prop} [Decidable p] (h : p) : decide p = true := decide_eq_true h
theorem df {p : Prop} [Decidable p] (h : ¬ p) : decide p = false := decide_eq_false h
theorem et {a b : Int} (h : a = b) : (a == b) = true := by simp [h]
theorem ef {a b : Int} (h : a ≠ b) : (a == b) = false := by simp [h]
theorem nt {a b : Int} (h : a ≠ b) : (a != b) = true := by simp [h]
theorem nf {a b : Int} (h : a = b) : (a != b) = false := by simp [h]

theorem first_bad {X : Type} (p : X → Bool) : ∀ xs : List X, xs.all p = false → ∃ (m : Nat) (x : X), xs[m]? = some x ∧ p x = false ∧ ∀ (i : Nat) (y : X), i < m → xs[i]? = some y → p y = true
  | [], h => by simp at h
  | x :: xs, h => by
    cases hx : p x with
    | false => exact ⟨0, x, rfl, hx, fun i y hi => absurd hi (by omega)⟩
    | true =>
      have h2 : xs.all p = false := by rw [List.all_cons, hx, Bool.true_and] at h; exact h
      obtain ⟨m, y, h3, h4, h5⟩ := first_bad p xs h2
      refine ⟨m + 1, y, by simpa using h3, h4, fun i z hi hz => ?_⟩
      cases i with
      | zero => simp at hz; subst hz; exact hx
      | succ i => exact h5 i z (by omega) (by simpa using hz)
theorem all_at {X : Type} {p : X → Bool} {xs : List X} (h : xs.all p = true) {i : Nat} {x : X} (hx : xs[i]? = some x) : p x = true := List.all_eq_true.1 h x (at_mem hx)

/-! ## Freezing in code -/
inductive FzF (H1 H2 : Hp) : List (Tmp × AV) → List (Tmp × AV) → Prop where
  | nil : FzF H1 H2 [] []
  | cons {t : Tmp} {v w : AV} {l m : List (Tmp × AV)} : FzV H1 H2 v w → FzF H1 H2 l m → FzF H1 H2 ((t, v) :: l) ((t, w) :: m)
theorem FzF.mem {H1 H2 : Hp} {l m : List (Tmp × AV)} (h : FzF H1 H2 l m) : ∀ t v, (t, v) ∈ l → ∃ w, (t, w) ∈ m ∧ FzV H1 H2 v w := by
  induction h with
  | nil => intro t v h; simp at h
  | cons h1 _ ih =>
    intro t v h
    rcases List.mem_cons.1 h with h | h
    · cases h; exact ⟨_, by simp, h1⟩
    · obtain ⟨w, h2, h3⟩ := ih t v h
      exact ⟨w, List.mem_cons_of_mem _ h2, h3⟩
theorem DoesL.freeze {P : Program} {K nt : Nat} {c : Code} {fr fr1 : T AV} {H H1 : Hp} {e : AEx} (h : DoesL P K nt c fr H e fr1 H1) {t : T AObj} (ht : ∀ b o, t.get b = some o → H1.blk.get b = some o) {ts : List Tmp} {l m : List (Tmp × AV)} (hg : gets fr1 ts = some m) (hz : FzF H1 (H1.only t) l m) :
    DoesL P K nt c fr H e (frameOf l) (H1.only t) := by
  obtain ⟨n, h⟩ := h
  refine ⟨n, fun μ a w Q hr hs hk hf hn hQ => h μ a w Q hr hs hk hf hn fun μ1 a1 w1 q1 q2 q3 q4 => hQ _ a1 w1 (q1.freeze ht) (fun x v hx => ?_) q3 q4⟩
  obtain ⟨w2, k1, k2⟩ := hz.mem x v (frameOf_get hx)
  obtain ⟨u, g1, g2⟩ := q2 x w2 (gets_mem hg _ k1)
  exact ⟨u, g1, k2.vr q1.hr ht g2⟩
theorem only_leaf {H1 : Hp} : ∀ b o, (T.leaf : T AObj).get b = some o → H1.blk.get b = some o := fun b o h => by simp [T.get_leaf] at h
/-- A row of the own heap. -/
theorem FzV.row {H1 H2 : Hp} {X : Type} {enc : X → List AV} {xs : List X} {b g n esz : Nat} {c : Option Nat} (hb : H1.blk.get b = some (.cells (rowc enc xs) g)) (hn : n = xs.length) (h2 : H2.blk.get b = none) (hg : ∀ c ds, H2.blk.get c ≠ some (.cells ds g)) (he : ∀ x, (enc x).length = esz) (hf : ∀ x, ∀ v ∈ enc x, v.flat = true) :
    FzV H1 H2 (.frz esz (List.map enc xs)) (.slice b 0 n esz c) := by
  have hm : n = (List.map enc xs).length := by simp [hn]
  have hi : ∀ i (h : i < (List.map enc xs).length), (List.map enc xs)[i] = enc (xs[i]'(by simpa using h)) := fun i h => by simp
  have key : ∀ (L : List X) i (h : i < L.length) j (h' : j < (enc L[i]).length), (rowc enc L)[i * esz + j]? = some (some (enc L[i])[j]) := by
    intro L
    induction L with
    | nil => intro i h; simp at h
    | cons x L ih =>
      intro i h j h'
      have hx : (rowc enc (x :: L)) = (enc x).map some ++ rowc enc L := by simp [rowc]
      rw [hx]
      cases i with
      | zero =>
        simp only [List.getElem_cons_zero] at h' ⊢
        rw [Nat.zero_mul, Nat.zero_add, List.getElem?_append_left (by simpa using h')]
        simp [List.getElem?_eq_getElem h']
      | succ i =>
        simp only [List.getElem_cons_succ] at h' ⊢
        rw [List.getElem?_append_right (by simp [he, Nat.add_mul]; omega)]
        have := ih i (by simpa using h) j h'
        rw [← this]
        congr 1
        simp [he, Nat.add_mul]; omega
  rw [hm]
  refine .slice b 0 esz c (rowc enc xs) g _ (fun i j => ((enc <$> xs[i]?).bind (·[j]?)).getD default) hb h2 hg (fun i h => by rw [hi i h]; exact he _) (fun i h j h' => ?_) (fun i h j h' => ?_)
  · have hlt : i < xs.length := by simpa using h
    have h3 : j < (enc (xs[i]'hlt)).length := by have := h'; rw [hi i h] at this; exact this
    have e1 : ((enc <$> xs[i]?).bind (·[j]?)).getD default = (enc (xs[i]'hlt))[j] := by
      rw [List.getElem?_eq_getElem hlt]; simp [List.getElem?_eq_getElem h3]
    refine ⟨?_, ?_⟩
    · rw [e1, Nat.zero_add]; exact key xs i hlt j h3
    · have : (List.map enc xs)[i][j] = (enc (xs[i]'hlt))[j] := by simp
      rw [this]; exact hf _ _ (List.getElem_mem _)
  · have hlt : i < xs.length := by simpa using h
    have h3 : j < (enc (xs[i]'hlt)).length := by have := h'; rw [hi i h] at this; exact this
    have e1 : ((enc <$> xs[i]?).bind (·[j]?)).getD default = (enc (xs[i]'hlt))[j] := by
      rw [List.getElem?_eq_getElem hlt]; simp [List.getElem?_eq_getElem h3]
    rw [e1]
    have : (List.map enc xs)[i][j] = (enc (xs[i]'hlt))[j] := by simp
    rw [this]; exact .refl _
theorem leaf_none {H : Hp} {b : Nat} : (H.only .leaf).blk.get b = none := by simp [Hp.only, T.get_leaf]
theorem leaf_cells {H : Hp} {g : Nat} : ∀ c ds, (H.only .leaf).blk.get c ≠ some (.cells ds g) := by simp [Hp.only, T.get_leaf]
theorem FzV.aggL {H1 H2 : Hp} : ∀ {l m : List AV}, l.length = m.length → (∀ i (h : i < l.length) (h' : i < m.length), FzV H1 H2 l[i] m[i]) → FzV H1 H2 (.agg l) (.agg m) := fun h k => .agg _ _ h k
inductive FzL (H1 H2 : Hp) : List AV → List AV → Prop where
  | nil : FzL H1 H2 [] []
  | cons {v w : AV} {l m : List AV} : FzV H1 H2 v w → FzL H1 H2 l m → FzL H1 H2 (v :: l) (w :: m)
theorem FzL.length {H1 H2 : Hp} {l m : List AV} (h : FzL H1 H2 l m) : l.length = m.length := by induction h with | nil => rfl | cons _ _ ih => simp [ih]
theorem FzL.get {H1 H2 : Hp} {l m : List AV} (h : FzL H1 H2 l m) : ∀ i (h : i < l.length) (h' : i < m.length), FzV H1 H2 l[i] m[i] := by
  induction h with
  | nil => intro i h; simp at h
  | cons h1 _ ih =>
    intro i hi hj
    cases i with
    | zero => exact h1
    | succ i => exact ih i (by simpa using hi) (by simpa using hj)
end Go.Cam
namespace Go.Cam
open Go Go.RowKit

def renPs (K : Nat) (σ : Nat → Nat) (nx : Nat) (H1 : Hp) (bs : List (Nat × AObj)) : Option (List Prop) :=
  match renBs K σ nx H1 bs with
  | some (_, _, ps) => some ps
  | none => none
theorem renPs_ok {K : Nat} {σ : Nat → Nat} {nx : Nat} {H1 : Hp} {bs : List (Nat × AObj)} {ps : List Prop} (h : renPs K σ nx H1 bs = some ps) (ha : AllP ps) : BsOk K σ nx H1 bs := by
  unfold renPs at h
  split at h
  · rename_i h1; cases h; exact (renBs_ok h1 ha).1
  · cases h
/-- The end of a loop: rows of its own are no longer written; what stays is in a heap with names of our choice. -/
theorem DoesL.clean {P : Program} {K nt : Nat} {c : Code} {fr fr1 : T AV} {H H1 : Hp} {e : AEx} (h : DoesL P K nt c fr H e fr1 H1) {ts : List Tmp} {l m : List (Tmp × AV)} (nx : Nat) (bs : List (Nat × AObj)) (hg : gets fr1 ts = some m)
    (hb : ∀ x ∈ bs, H1.blk.get x.1 = some x.2) (hz : FzF H1 (H1.only (treeOf bs)) l m) (hp : ∀ x ∈ l, Rn (nameF K []) nx x.2 x.2) {ps : List Prop} (hbs : renPs K (nameF K []) nx (H1.only (treeOf bs)) bs = some ps) (ha : AllP ps) (hk : K ≤ nx)
    (hgl : H1.gl = H.gl) (hl : gets (frameOf l) ts = some l) :
    DoesL P K nt c fr H e (frameOf l) (heapOf nx bs H.gl) := by
  have h1 := DoesL.freeze h (t := treeOf bs) (fun b o hbo => hb (b, o) (treeOf_get hbo)) hg hz
  have R := ren_of (K := K) (σ := nameF K []) (nx := nx) (fr1 := frameOf l) (H1 := H1.only (treeOf bs)) (l := l) (bs := bs) (gl := H.gl) nameF_low hk hgl.symm (fun x hx => ⟨x.2, gets_mem hl x hx, hp x hx⟩) (renPs_ok hbs ha)
  exact h1.ren R
def noGrp (g : Nat) : List (Nat × AObj) → Bool
  | [] => true
  | (_, o) :: r => match natsEq (grpN o) (some g) with
    | true => false
    | false => noGrp g r
theorem noGrp_ok {g : Nat} {H1 : Hp} {bs : List (Nat × AObj)} (h : noGrp g bs = true) : ∀ c ds, (H1.only (treeOf bs)).blk.get c ≠ some (.cells ds g) := by
  intro c ds hc
  have hm := treeOf_get (show (treeOf bs).get c = some (.cells ds g) from hc)
  clear hc
  induction bs with
  | nil => simp at hm
  | cons x r ih =>
    obtain ⟨b, o⟩ := x
    simp only [noGrp] at h
    split at h
    · cases h
    rename_i hq
    rcases List.mem_cons.1 hm with hm | hm
    · cases hm
      simp [grpN, natsEq] at hq
    · exact ih h hm
theorem FzV.rowB {H1 : Hp} {bs : List (Nat × AObj)} {X : Type} {enc : X → List AV} {xs : List X} {b g n esz : Nat} {c : Option Nat} (hb : H1.blk.get b = some (.cells (rowc enc xs) g)) (hn : n = xs.length) (h2 : (treeOf bs).get b = none) (hg : noGrp g bs = true) (he : ∀ x, (enc x).length = esz) (hf : ∀ x, ∀ v ∈ enc x, v.flat = true) :
    FzV H1 (H1.only (treeOf bs)) (.frz esz (List.map enc xs)) (.slice b 0 n esz c) := FzV.row hb hn h2 (noGrp_ok hg) he hf
end Go.Cam
