/-
  An abstract machine over the model, proved sound: part C. For whatever program.
-/
import Derived.Test.YthgkipklofkoaaaGreatDoorCamB
import Derived.LoopN
import Derived.Orders
namespace Go.Cam
open Go Go.RowKit

inductive AEx where
  | normal
  | exit (id : Nat)
  | ret
def AEx.to : AEx → Exit
  | .normal => .normal
  | .exit id => .exit id
  | .ret => .ret

def putA (nt : Nat) (fr : T AV) (dst : Option Tmp) (v : AV) : Option (T AV) :=
  match dst with
  | none => some fr
  | some d => match Nat.blt d nt with
    | true => some (fr.set fuelT d v)
    | false => none
theorem putA_ok {μ : Mu} {nt : Nat} {fr fr' : T AV} {a : Act} {dst : Option Tmp} {v : AV} {u : Value} (hf : FR μ fr a) (hn : a.tmps.size = nt) (hv : VR μ v u) (h : putA nt fr dst v = some fr') :
    FR μ fr' (a.put dst u) ∧ (a.put dst u).tmps.size = nt ∧ (a.put dst u).defers = a.defers := by
  cases dst with
  | none => cases h; exact ⟨hf, hn, rfl⟩
  | some d =>
    simp only [putA] at h
    split at h
    case h_2 => cases h
    rename_i hd
    have hd1 : d < nt := by rw [← Nat.blt_eq]; exact hd
    cases h
    refine ⟨fun t x ht => ?_, by simp [Act.put, hn], rfl⟩
    simp only [Act.put, Array.getElem?_setIfInBounds]
    rcases T.get_set _ _ _ _ _ _ ht with ⟨rfl, rfl⟩ | ⟨h1, h2⟩
    · exact ⟨u, by rw [if_pos rfl, if_pos (by rw [hn]; exact hd1)], hv⟩
    · rw [if_neg (fun e => h1 e.symm)]; exact hf t x h2

def wantedA (all : List Oper) (fr : T AV) (o : Oper) : Option Bool :=
  match o.guard with
  | none => some true
  | some (j, want) => match getL j all with
    | none => none
    | some oj => match oj.dst with
      | none => none
      | some d => match fr.get d with
        | some (.lit (.bool b)) => some (b == want)
        | some (.lit (.tuple _)) => some false
        | _ => none
theorem wantedA_ok {μ : Mu} {ops : Array Oper} {fr : T AV} {a : Act} {o : Oper} {b : Bool} (hf : FR μ fr a) (h : wantedA ops.toList fr o = some b) : Region.wanted o (yielded ops a.tmps) = b := by
  unfold wantedA at h
  unfold Region.wanted
  split at h
  · rename_i hg; cases h; rw [hg]
  · rename_i j want hg
    rw [hg]
    split at h
    · cases h
    rename_i oj hj
    rw [getL_eq, Array.getElem?_toList] at hj
    split at h
    · cases h
    rename_i d hd
    split at h
    · rename_i b' hb
      cases h
      obtain ⟨u, h1, h2⟩ := hf d _ hb
      have := h2.lit_eq
      subst this
      simp only [yielded, hj, Option.bind_some, hd, h1]
      cases b' <;> cases want <;> rfl
    · rename_i vs hb
      cases h
      obtain ⟨u, h1, h2⟩ := hf d _ hb
      have := h2.lit_eq
      subst this
      simp only [yielded, hj, Option.bind_some, hd, h1]
      cases want <;> rfl
    · cases h

abbrev CallF := FuncId → List AV → Hp → Option (AV × Hp)
/-- One operation, guard and all. -/
def stepA (P : Program) (call : CallF) (fr : T AV) (H : Hp) (o : Oper) : Option (AV × Hp) :=
  match opA P fr H o with
  | none => none
  | some (.val v H') => some (v, H')
  | some (.skip H') => some (.lit undef, H')
  | some (.call f args) => call f args H
def runOps (P : Program) (call : CallF) (nt : Nat) (all : List Oper) : List Oper → T AV → Hp → Option (T AV × Hp)
  | [], fr, H => some (fr, H)
  | o :: rest, fr, H => match wantedA all fr o with
    | none => none
    | some false => match putA nt fr o.dst (.lit undef) with
      | none => none
      | some fr' => runOps P call nt all rest fr' H
    | some true => match stepA P call fr H o with
      | none => none
      | some (v, H') => match putA nt fr o.dst v with
        | none => none
        | some fr' => runOps P call nt all rest fr' H'

def CallOk (P : Program) (call : CallF) : Prop :=
  ∀ f args H v H', call f args H = some (v, H') → ∀ μ w us, HR μ H w → VRs μ args us → Calls P f us w (fun e w' => ∃ u μ', e = .returned u ∧ Step μ H w μ' H' w' ∧ VR μ' v u)

theorem stepA_ok {P : Program} {call : CallF} (hcall : CallOk P call) {fr : T AV} {H H' : Hp} {o : Oper} {v : AV} {μ : Mu} {a : Act} {w : World} (hr : HR μ H w) (hf : FR μ fr a) (h : stepA P call fr H o = some (v, H'))
    {K : Act → World → Prop} {Q : Exit → Act → World → Prop} (hK : ∀ u μ' w', Step μ H w μ' H' w' → VR μ' v u → K (a.put o.dst u) w') : o.wp P a w K Q := by
  unfold stepA at h
  split at h
  · cases h
  · rename_i v' H1 hop
    cases h
    obtain ⟨u, w', μ', h1, h2, h3⟩ := opA_ok hr hf hop
    unfold Oper.wp
    rw [h1]
    exact hK u μ' w' h2 h3
  · rename_i H1 hop
    cases h
    obtain ⟨w', μ', h1, h2⟩ := opA_ok hr hf hop
    unfold Oper.wp
    rw [h1]
    exact hK undef μ' w' h2 (.lit _)
  · rename_i f args hop
    obtain ⟨us, h1, h2⟩ := opA_ok hr hf hop
    unfold Oper.wp
    rw [h1, Oper.upon_enter]
    refine (hcall f args H v H' h μ w us hr h2).mono ?_
    rintro e w' ⟨u, μ', rfl, h3, h4⟩
    exact hK u μ' w' h3 h4

theorem runOps_ok {P : Program} {call : CallF} (hcall : CallOk P call) {nt : Nat} {ops : Array Oper} : ∀ (rest : List Oper) (k : Nat) (fr fr' : T AV) (H H' : Hp), ops.toList.drop k = rest → runOps P call nt ops.toList rest fr H = some (fr', H') →
    ∀ (μ : Mu) (a : Act) (w : World) (Q : Exit → Act → World → Prop), HR μ H w → FR μ fr a → a.tmps.size = nt →
      (∀ μ' a' w', Step μ H w μ' H' w' → FR μ' fr' a' → a'.tmps.size = nt → a'.defers = a.defers → Q .normal a' w') → wpOps P ops Q (List.range' k rest.length) a w
  | [], k, fr, fr', H, H', hk, h, μ, a, w, Q, hr, hf, hn, hQ => by
    cases h
    exact hQ μ a w (.refl hr) hf hn rfl
  | o :: rest, k, fr, fr', H, H', hk, h, μ, a, w, Q, hr, hf, hn, hQ => by
    have hko : ops[k]? = some o := by
      rw [← Array.getElem?_toList]
      have : (ops.toList.drop k)[0]? = some o := by rw [hk]; rfl
      rw [List.getElem?_drop] at this
      simpa using this
    have hkr : ops.toList.drop (k + 1) = rest := by
      rw [← List.drop_drop, hk]; rfl
    simp only [runOps] at h
    rw [List.length_cons, List.range'_succ]
    simp only [wpOps, hko]
    split at h
    · cases h
    · rename_i hw
      rw [wantedA_ok hf hw]
      split at h
      · cases h
      rename_i fr1 hp
      obtain ⟨g1, g2, g3⟩ := putA_ok hf hn (.lit undef) hp
      simp only [Bool.false_eq_true, if_false]
      exact runOps_ok hcall rest (k + 1) fr1 fr' H H' hkr h μ _ w Q hr g1 g2 (fun μ' a' w' q1 q2 q3 q4 => hQ μ' a' w' q1 q2 q3 (q4.trans g3))
    · rename_i hw
      rw [wantedA_ok hf hw]
      split at h
      · cases h
      rename_i v H1 hs
      split at h
      · cases h
      rename_i fr1 hp
      simp only [if_true]
      refine .inl (stepA_ok hcall hr hf hs fun u μ1 w1 hst hv => ?_)
      obtain ⟨g1, g2, g3⟩ := putA_ok (hf.mono hst.le) hn hv hp
      exact runOps_ok hcall rest (k + 1) fr1 fr' H1 H' hkr h μ1 _ w1 Q hst.hr g1 g2 (fun μ' a' w' q1 q2 q3 q4 => hQ μ' a' w' (hst.trans q1) q2 q3 (q4.trans g3))

/-! ## Results -/
def resultsA (P : Program) (fr : T AV) (H : Hp) : List ResultVar → Option (List AV)
  | [] => some []
  | .tmp t :: r => match fr.get t with
    | none => none
    | some v => match resultsA P fr H r with
      | none => none
      | some l => some (v :: l)
  | .cell t ty :: r => match fr.get t with
    | none => none
    | some x => match loadA P ty x H with
      | none => none
      | some v => match resultsA P fr H r with
        | none => none
        | some l => some (v :: l)
theorem loadA_run {P : Program} {t : TypeId} {x v : AV} {u : Value} {μ : Mu} {H : Hp} {w : World} (hr : HR μ H w) (hx : VR μ x u) (h : loadA P t x H = some v) :
    ∃ uv, (do loadVar t (← asAddr u) : Sem Value).run P w = .ok uv w ∧ VR μ v uv := by
  obtain ⟨uv, h1, h2⟩ := load_run (P := P) hr hx h
  refine ⟨uv, ?_, h2⟩
  unfold loadA at h
  split at h
  · cases h
  split at h
  · cases hx; exact h1
  · have := hx.lit_eq; subst this; exact h1
  · cases hx; exact h1
  · cases h
def resF (tmps : Array Value) (r : ResultVar) : Sem Value :=
  match r with
  | ResultVar.tmp t => (pure (tmps.getD t undef) : Sem Value)
  | ResultVar.cell x t => do loadVar t (← asAddr (tmps.getD x undef))
theorem results_eq (fn : Func) (tmps : Array Value) : results fn tmps = (do
    let vs ← fn.results.mapM (resF tmps)
    pure (if h : vs.size = 1 then vs[0] else .tuple vs)) := rfl
theorem resultsA_ok {P : Program} {fr : T AV} {H : Hp} {μ : Mu} {a : Act} {w : World} (hr : HR μ H w) (hf : FR μ fr a) : ∀ (rs : List ResultVar) (l : List AV), resultsA P fr H rs = some l →
    ∃ us : List Value, (rs.mapM (resF a.tmps)).run P w = Result.ok us w ∧ VRs μ l us.toArray
  | [], l, h => by cases h; exact ⟨[], rfl, rfl, fun i h => by simp at h⟩
  | .tmp t :: r, l, h => by
    simp only [resultsA] at h
    split at h
    · cases h
    rename_i v hv
    split at h
    · cases h
    rename_i l' hl
    cases h
    obtain ⟨us, g1, g2⟩ := resultsA_ok hr hf r l' hl
    obtain ⟨u, k1, k2⟩ := hf t v hv
    refine ⟨u :: us, ?_, .of_get (by simpa using g2.1) fun i x hi => ?_⟩
    · have kt : a.tmps.getD t undef = u := by simp only [Array.getD_eq_getD_getElem?, k1, Option.getD_some]
      have kr : (resF a.tmps (.tmp t)).run P w = .ok u w := by simp only [resF, kt]; rfl
      rw [List.mapM_cons]
      simp only [Sem.run_bind, kr, Result.andThen_ok, g1, Sem.run_pure]
    · cases i with
      | zero => simp at hi; subst hi; exact ⟨u, by simp, k2⟩
      | succ i =>
        obtain ⟨y, t1, t2⟩ := g2.get (i := i) (v := x) (by simpa using hi)
        exact ⟨y, by simpa using t1, t2⟩
  | .cell t ty :: r, l, h => by
    simp only [resultsA] at h
    split at h
    · cases h
    rename_i x hx
    split at h
    · cases h
    rename_i v hv
    split at h
    · cases h
    rename_i l' hl
    cases h
    obtain ⟨us, g1, g2⟩ := resultsA_ok hr hf r l' hl
    obtain ⟨ux, k1, k2⟩ := hf t x hx
    obtain ⟨u, k3, k4⟩ := loadA_run (P := P) hr k2 hv
    refine ⟨u :: us, ?_, .of_get (by simpa using g2.1) fun i x hi => ?_⟩
    · have kt : a.tmps.getD t undef = ux := by simp only [Array.getD_eq_getD_getElem?, k1, Option.getD_some]
      have kr : (resF a.tmps (.cell t ty)).run P w = .ok u w := by
        simp only [resF, kt]; exact k3
      rw [List.mapM_cons]
      simp only [Sem.run_bind, kr, Result.andThen_ok, g1, Sem.run_pure]
    · cases i with
      | zero => simp at hi; subst hi; exact ⟨u, by simp, k4⟩
      | succ i =>
        obtain ⟨y, t1, t2⟩ := g2.get (i := i) (v := x) (by simpa using hi)
        exact ⟨y, by simpa using t1, t2⟩
def oneA : List AV → AV
  | [v] => v
  | l => .tuple l
theorem oneA_ok {μ : Mu} {l : List AV} {a : Array Value} (h : VRs μ l a) : VR μ (oneA l) (if h : a.size = 1 then a[0] else .tuple a) := by
  have h0 := h.1
  match l, h with
  | [], h => simp at h0; rw [dif_neg (by omega)]; exact .tuple _ _ h.1 h.2
  | [v], h => simp at h0; rw [dif_pos (by omega)]; exact h.2 0 (by simp) (by omega)
  | _ :: _ :: _, h => simp at h0; rw [dif_neg (by omega)]; exact .tuple _ _ h.1 h.2
theorem results_ok {P : Program} {fn : Func} {fr : T AV} {H : Hp} {μ : Mu} {a : Act} {w : World} (hr : HR μ H w) (hf : FR μ fr a) {l : List AV} (h : resultsA P fr H fn.results.toList = some l) :
    ∃ u, (results fn a.tmps).run P w = .ok u w ∧ VR μ (oneA l) u := by
  obtain ⟨us, g1, g2⟩ := resultsA_ok hr hf _ _ h
  refine ⟨_, ?_, oneA_ok g2⟩
  rw [results_eq, Sem.run_bind, Array.mapM_eq_mapM_toList, Sem.run_map, g1]
  rfl

/-! ## The frame at a call's begin -/
def frameA : Nat → List AV → T AV → T AV
  | _, [], fr => fr
  | i, v :: r, fr => frameA (i + 1) r (fr.set fuelT i v)
theorem frameA_get : ∀ (l : List AV) (i : Nat) (fr : T AV) (t : Nat) (v : AV), (frameA i l fr).get t = some v → (i ≤ t ∧ l[t - i]? = some v) ∨ fr.get t = some v
  | [], i, fr, t, v, h => .inr h
  | x :: r, i, fr, t, v, h => by
    rcases frameA_get r (i + 1) _ t v h with ⟨h1, h2⟩ | h1
    · left
      refine ⟨by omega, ?_⟩
      rw [show t - i = (t - (i + 1)) + 1 by omega]; simpa using h2
    · rcases T.get_set _ _ _ _ _ _ h1 with ⟨rfl, rfl⟩ | ⟨_, h3⟩
      · left; exact ⟨Nat.le_refl _, by simp⟩
      · exact .inr h3
theorem frameA_ok {μ : Mu} {args : List AV} {us : Array Value} (n : Nat) (h : VRs μ args us) : FR μ (frameA 0 args .leaf) { tmps := us ++ Array.replicate n undef, defers := [] } := by
  intro t v ht
  rcases frameA_get _ _ _ _ _ ht with ⟨_, h2⟩ | h2
  · rw [Nat.sub_zero] at h2
    obtain ⟨u, g1, g2⟩ := h.get h2
    have := (Array.getElem?_eq_some_iff.1 g1).1
    exact ⟨u, by rw [Array.getElem?_append_left this]; exact g1, g2⟩
  · rw [T.get_leaf] at h2; cases h2
end Go.Cam
namespace Go.Cam
open Go Go.RowKit

abbrev DrawF := CallF → Nat → Array Oper → T AV → Hp → Option (T AV × Hp)
def DrawOk (P : Program) (draw : DrawF) : Prop :=
  ∀ call, CallOk P call → ∀ nt ops fr H fr' H', draw call nt ops fr H = some (fr', H') → ∀ id μ a w (Q : Exit → Act → World → Prop), HR μ H w → FR μ fr a → a.tmps.size = nt →
    (∀ μ' a' w', Step μ H w μ' H' w' → FR μ' fr' a' → a'.tmps.size = nt → a'.defers = a.defers → Q .normal a' w') → (Code.region id ops true).wp P Q a w

/-- How a block ends. -/
def AEx.block (id : Nat) : AEx → AEx
  | .exit id' => match Nat.beq id' id with
    | true => .normal
    | false => .exit id'
  | e => e

mutual
def exec (P : Program) (draw : DrawF) : Nat → Nat → Code → T AV → Hp → Option (AEx × T AV × Hp)
  | 0, _, _, _, _ => none
  | n + 1, nt, c, fr, H => match c with
    | .skip => some (.normal, fr, H)
    | .label _ => some (.normal, fr, H)
    | .region _ ops d => match d with
      | false => match runOps P (callF P draw n) nt ops.toList ops.toList fr H with
        | some (fr', H') => some (.normal, fr', H')
        | none => none
      | true => match draw (callF P draw n) nt ops fr H with
        | some (fr', H') => some (.normal, fr', H')
        | none => none
    | .seq x y => match exec P draw n nt x fr H with
      | none => none
      | some (e, fr', H') => match e with
        | .normal => exec P draw n nt y fr' H'
        | _ => some (e, fr', H')
    | .cond c x y => match evalA fr c with
      | some (.lit (.bool true)) => exec P draw n nt x fr H
      | some (.lit (.bool false)) => exec P draw n nt y fr H
      | _ => none
    | .block id x => match exec P draw n nt x fr H with
      | none => none
      | some (e, fr', H') => some (e.block id, fr', H')
    | .loop x => match exec P draw n nt x fr H with
      | none => none
      | some (e, fr', H') => match e with
        | .normal => exec P draw n nt (.loop x) fr' H'
        | _ => some (e, fr', H')
    | .exit id => some (.exit id, fr, H)
    | .ret => some (.ret, fr, H)
    | _ => none
def callF (P : Program) (draw : DrawF) : Nat → FuncId → List AV → Hp → Option (AV × Hp)
  | 0, _, _, _ => none
  | n + 1, f, args, H => match getFn P f with
    | none => none
    | some fn => match fn.body with
      | none => none
      | some c => match exec P draw n (lenL args + (fn.ntmps - lenL args)) c (frameA 0 args .leaf) H with
        | none => none
        | some (e, fr, H') => match (match e with | .normal => true | .ret => true | .exit _ => false) with
          | false => none
          | true => match resultsA P fr H' fn.results.toList with
            | none => none
            | some l => some (oneA l, H')
end

/-- What the abstract run of a piece of code says. -/
def CodeOk (P : Program) (nt : Nat) (c : Code) (fr : T AV) (H : Hp) (e : AEx) (fr' : T AV) (H' : Hp) : Prop :=
  ∀ μ a w (Q : Exit → Act → World → Prop), HR μ H w → FR μ fr a → a.tmps.size = nt →
    (∀ μ' a' w', Step μ H w μ' H' w' → FR μ' fr' a' → a'.tmps.size = nt → a'.defers = a.defers → Q e.to a' w') → c.wp P Q a w

def RoundsOk (P : Program) (nt n : Nat) (c : Code) (fr : T AV) (H : Hp) (e : AEx) (fr' : T AV) (H' : Hp) : Prop :=
  ∀ μ a w (Q : Exit → Act → World → Prop), HR μ H w → FR μ fr a → a.tmps.size = nt →
    (∀ μ' a' w', Step μ H w μ' H' w' → FR μ' fr' a' → a'.tmps.size = nt → a'.defers = a.defers → Q e.to a' w') → Code.rounds P c Q n a w

theorem exec_zero {P : Program} {draw : DrawF} {nt : Nat} {c : Code} {fr : T AV} {H : Hp} : exec P draw 0 nt c fr H = none := by simp [exec]

theorem runs_ok {P : Program} {draw : DrawF} (hd : DrawOk P draw) : ∀ n : Nat,
    (∀ nt c fr H e fr' H', exec P draw n nt c fr H = some (e, fr', H') → CodeOk P nt c fr H e fr' H') ∧
    (∀ nt c fr H e fr' H', exec P draw n nt (.loop c) fr H = some (e, fr', H') → RoundsOk P nt n c fr H e fr' H') ∧
    CallOk P (callF P draw n) := by
  intro n
  induction n with
  | zero => exact ⟨fun nt c fr H e fr' H' h => by simp [exec] at h, fun nt c fr H e fr' H' h => by simp [exec] at h, fun f args H v H' h => by simp [callF] at h⟩
  | succ n ih =>
    obtain ⟨ih1, ih2, ih3⟩ := ih
    have loops : ∀ nt c fr H e fr' H', exec P draw (n + 1) nt (.loop c) fr H = some (e, fr', H') → RoundsOk P nt (n + 1) c fr H e fr' H' := by
      intro nt c fr H e fr' H' h μ a w Q hr hf hn hQ
      simp only [exec] at h
      split at h
      · cases h
      rename_i e1 fr1 H1 h1
      rw [rounds_succ]
      refine ih1 nt c fr H e1 fr1 H1 h1 μ a w _ hr hf hn fun μ1 a1 w1 q1 q2 q3 q4 => ?_
      split at h
      · exact ih2 nt c fr1 H1 e fr' H' h μ1 a1 w1 Q q1.hr q2 q3 fun μ2 a2 w2 k1 k2 k3 k4 => hQ μ2 a2 w2 (q1.trans k1) k2 k3 (k4.trans q4)
      · rename_i hne
        cases h
        have := hQ μ1 a1 w1 q1 q2 q3 q4
        cases e with
        | normal => exact absurd rfl hne
        | exit id => exact this
        | ret => exact this
    refine ⟨?_, loops, ?_⟩
    · intro nt c fr H e fr' H' h μ a w Q hr hf hn hQ
      cases c with
      | loop c => exact wp_loop_rounds (n + 1) (loops nt c fr H e fr' H' h μ a w Q hr hf hn hQ)
      | skip =>
        simp only [exec] at h; cases h
        exact wp_skip (hQ μ a w (.refl hr) hf hn rfl)
      | label l =>
        simp only [exec] at h; cases h
        exact wp_label (hQ μ a w (.refl hr) hf hn rfl)
      | exit id =>
        simp only [exec] at h; cases h
        exact wp_exit (hQ μ a w (.refl hr) hf hn rfl)
      | ret =>
        simp only [exec] at h; cases h
        exact wp_ret (hQ μ a w (.refl hr) hf hn rfl)
      | region id ops d =>
        cases d with
        | false =>
          simp only [exec] at h
          split at h
          · rename_i fr1 H1 h1
            cases h
            have := runOps_ok ih3 ops.toList 0 fr fr' H H' rfl h1 μ a w Q hr hf hn hQ
            refine wp_region ?_
            rw [List.range_eq_range', ← Array.length_toList]; exact this
          · cases h
        | true =>
          simp only [exec] at h
          split at h
          · rename_i fr1 H1 h1
            cases h
            exact hd _ ih3 nt ops fr H fr' H' h1 id μ a w Q hr hf hn hQ
          · cases h
      | seq x y =>
        simp only [exec] at h
        split at h
        · cases h
        rename_i e1 fr1 H1 h1
        refine wp_seq (ih1 nt x fr H e1 fr1 H1 h1 μ a w _ hr hf hn fun μ1 a1 w1 q1 q2 q3 q4 => ?_)
        split at h
        · exact ih1 nt y fr1 H1 e fr' H' h μ1 a1 w1 Q q1.hr q2 q3 fun μ2 a2 w2 k1 k2 k3 k4 => hQ μ2 a2 w2 (q1.trans k1) k2 k3 (k4.trans q4)
        · rename_i hne
          cases h
          have := hQ μ1 a1 w1 q1 q2 q3 q4
          cases e with
          | normal => exact absurd rfl hne
          | exit id => exact this
          | ret => exact this
      | cond c x y =>
        simp only [exec] at h
        split at h
        · rename_i hc
          exact wp_cond_true (evalA_ok hf hc).lit_eq (ih1 nt x fr H e fr' H' h μ a w Q hr hf hn hQ)
        · rename_i hc
          exact wp_cond_false (evalA_ok hf hc).lit_eq (ih1 nt y fr H e fr' H' h μ a w Q hr hf hn hQ)
        · cases h
      | block id x =>
        simp only [exec] at h
        split at h
        · cases h
        rename_i e1 fr1 H1 h1
        cases h
        refine wp_block (ih1 nt x fr H e1 fr' H' h1 μ a w _ hr hf hn fun μ1 a1 w1 q1 q2 q3 q4 => ?_)
        have := hQ μ1 a1 w1 q1 q2 q3 q4
        cases e1 with
        | normal => exact this
        | ret => exact this
        | exit id' =>
          simp only [AEx.to, Exit.inBlock]
          simp only [AEx.block] at this
          by_cases hid : id' = id
          · rw [if_pos hid]
            subst hid
            rw [show Nat.beq id' id' = true from Nat.beq_refl id'] at this
            exact this
          · rw [if_neg hid]
            have hb : Nat.beq id' id = false := by rw [Bool.eq_false_iff]; intro e; exact hid (Nat.eq_of_beq_eq_true e)
            rw [hb] at this
            exact this
      | _ => simp [exec] at h
    · intro f args H v H' h μ w us hr hv
      simp only [callF] at h
      split at h
      · cases h
      rename_i fn hfn
      split at h
      · cases h
      rename_i c hb
      split at h
      · cases h
      rename_i e fr1 H1 h1
      split at h
      · cases h
      rename_i he
      split at h
      · cases h
      rename_i l hl
      cases h
      have hnt : lenL args + (fn.ntmps - lenL args) = ((us ++ Array.replicate (fn.ntmps - us.size) undef).size) := by
        rw [lenL_eq, hv.1]; simp
      refine calls_of_wp hfn hb (ih1 _ c _ H e fr1 H' h1 μ _ w _ hr (frameA_ok _ hv) hnt.symm fun μ1 a1 w1 q1 q2 q3 q4 => ?_)
      obtain ⟨u, k1, k2⟩ := results_ok (P := P) (w := w1) q1.hr q2 hl
      cases e with
      | normal => exact ⟨q4, u, k1, u, μ1, rfl, q1, k2⟩
      | ret => exact ⟨q4, u, k1, u, μ1, rfl, q1, k2⟩
      | exit id => cases he
end Go.Cam
namespace Go.Cam
open Go Go.RowKit

/-! ## Equality of our values -/
def bytesEq : List UInt8 → List UInt8 → Bool
  | [], [] => true
  | a :: l, b :: m => match Nat.beq a.toNat b.toNat with
    | true => bytesEq l m
    | false => false
  | _, _ => false
theorem bytesEq_ok : ∀ {l m : List UInt8}, bytesEq l m = true → l = m
  | [], [], _ => rfl
  | [], _ :: _, h => by simp [bytesEq] at h
  | _ :: _, [], h => by simp [bytesEq] at h
  | a :: l, b :: m, h => by
    simp only [bytesEq] at h
    split at h
    · rename_i hb
      rw [bytesEq_ok h, UInt8.toNat_inj.1 (Nat.eq_of_beq_eq_true hb)]
    · cases h
def valEq : Value → Value → Bool
  | .bool a, .bool b => a == b
  | .int j a, .int k b => decide (j = k) && decide (a = b)
  | .string a, .string b => bytesEq a.data.toList b.data.toList
  | .pointer none, .pointer none => true
  | .slice none 0 0, .slice none 0 0 => true
  | .map none, .map none => true
  | .nilFunc, .nilFunc => true
  | .nilIface, .nilIface => true
  | .tuple a, .tuple b => match a.toList, b.toList with
    | [], [] => true
    | _, _ => false
  | _, _ => false
theorem valEq_ok {a b : Value} (h : valEq a b = true) : a = b := by
  unfold valEq at h
  split at h
  · simpa using h
  · simp at h; rw [h.1, h.2]
  · rename_i a b
    have := bytesEq_ok h
    have h2 : a.data = b.data := Array.ext' this
    cases a; cases b; simp at h2; rw [h2]
  · rfl
  · rfl
  · rfl
  · rfl
  · rfl
  · rename_i a b
    split at h
    · rename_i h1 h2
      have e1 : a = #[] := Array.ext' h1
      have e2 : b = #[] := Array.ext' h2
      rw [e1, e2]
    · cases h
  · cases h
def natsEq (a b : Option Nat) : Bool :=
  match a, b with
  | none, none => true
  | some x, some y => Nat.beq x y
  | _, _ => false
mutual
def AV.same : AV → AV → Bool
  | .lit a, .lit b => valEq a b
  | .ptr a b, .ptr c d => Nat.beq a c && Nat.beq b d
  | .slice a b c d e, .slice a' b' c' d' e' => Nat.beq a a' && (Nat.beq b b' && (Nat.beq c c' && (Nat.beq d d' && natsEq e e')))
  | .map a, .map b => Nat.beq a b
  | .agg l, .agg m => AV.sames l m
  | .sliceE, .sliceE => true
  | .func (.func f) l m, .func (.func g) l' m' => Nat.beq f g && (AV.sames l l' && AV.sames m m')
  | .iface t v, .iface t' v' => Nat.beq t t' && AV.same v v'
  | .tuple l, .tuple m => AV.sames l m
  | _, _ => false
def AV.sames : List AV → List AV → Bool
  | [], [] => true
  | a :: l, b :: m => match AV.same a b with
    | true => AV.sames l m
    | false => false
  | _, _ => false
end
theorem natsEq_ok {a b : Option Nat} (h : natsEq a b = true) : a = b := by
  cases a <;> cases b <;> simp [natsEq] at h
  · rfl
  · rw [h]
mutual
theorem AV.same_ok : ∀ {a b : AV}, AV.same a b = true → a = b
  | .lit a, b, h => by
    cases b <;> simp [AV.same] at h
    rw [valEq_ok h]
  | .ptr a b, c, h => by
    cases c <;> simp [AV.same] at h
    rw [h.1, h.2]
  | .slice a b c d e, x, h => by
    cases x <;> simp [AV.same] at h
    obtain ⟨h1, h2, h3, h4, h5⟩ := h
    rw [h1, h2, h3, h4, natsEq_ok h5]
  | .map a, b, h => by
    cases b <;> simp [AV.same] at h
    rw [h]
  | .agg l, b, h => by
    cases b <;> simp [AV.same] at h
    rw [AV.sames_ok h]
  | .tuple l, b, h => by
    cases b <;> simp [AV.same] at h
    rw [AV.sames_ok h]
  | .sliceE, b, h => by cases b <;> simp [AV.same] at h; rfl
  | .func fn l m, b, h => by
    cases b <;> try (simp [AV.same] at h; done)
    rename_i gn l' m'
    cases fn <;> cases gn <;> simp [AV.same] at h
    rw [h.1, AV.sames_ok h.2.1, AV.sames_ok h.2.2]
  | .iface t v, b, h => by
    cases b <;> simp [AV.same] at h
    have e : t = _ := h.1
    rw [e, AV.same_ok h.2]
theorem AV.sames_ok : ∀ {l m : List AV}, AV.sames l m = true → l = m
  | [], [], _ => rfl
  | [], _ :: _, h => by simp [AV.sames] at h
  | _ :: _, [], h => by simp [AV.sames] at h
  | a :: l, b :: m, h => by
    simp only [AV.sames] at h
    split at h
    · rename_i h1
      rw [AV.same_ok h1, AV.sames_ok h]
    · cases h
end

/-! ## Operations that turn nothing -/
def softConv (P : Program) (dst : TypeId) : Bool :=
  match tinf P dst with
  | some j => match j.desc with
    | .int _ => true
    | _ => false
  | none => false
def softOp (P : Program) : Op → Bool
  | .move _ | .assign _ | .pick .. | .build .. | .load .. | .nilCheck _ | .binOp .. | .unOp .. | .makeInterface .. | .makeFunc .. | .slice .. | .fieldAddr .. | .field .. | .indexAddr .. | .index .. | .lookup .. | .extract .. => true
  | .convert _ dst _ => softConv P dst
  | .call c => match c.callee with
    | .builtin .len | .builtin .min | .builtin .max => true
    | _ => false
  | _ => false

section
variable {P : Program} {μ : Mu} {H : Hp} {w : World} {out : Out}
/-- It yields a value, and neither the world nor our heap turns. -/
def Soft (P : Program) (s : Sem Next) (μ : Mu) (H : Hp) (w : World) (out : Out) : Prop := ∃ v u, out = .val v H ∧ s.run P w = .ok (.value u) w ∧ VR μ v u
theorem outR_soft {s : Sem Value} {ov : Option AV} (h : outV H ov = some out) (k : ∀ v, ov = some v → RunV P s μ H w v) : Soft P (do pure (.value (← s))) μ H w out := by
  cases ov with
  | none => cases h
  | some v =>
    cases h
    obtain ⟨u, h1, h2⟩ := k v rfl
    exact ⟨v, u, rfl, by rw [Sem.run_bind, h1]; rfl, h2⟩
theorem softVal {v : AV} {u : Value} (hv : VR μ v u) {s : Sem Next} (h : s.run P w = .ok (.value u) w) : Soft P s μ H w (.val v H) := ⟨v, u, rfl, h, hv⟩
end

set_option maxHeartbeats 1000000 in
theorem soft_run {P : Program} {fr : T AV} {a : Act} {o : Oper} {μ : Mu} {H : Hp} {w : World} {out : Out} (hs : softOp P o.op = true) (hr : HR μ H w) (hf : FR μ fr a) (h : opA P fr H o = some out) : Soft P (execOp a.eval o) μ H w out := by
  unfold opA at h
  unfold execOp
  cases hop : o.op <;> rw [hop] at hs h <;> first | (simp [softOp] at hs; done) | skip
  case move x =>
    cases hx : evalA fr x with
    | none => simp only [hx] at h; cases h
    | some v => simp only [hx] at h; cases h; exact softVal (evalA_ok hf hx) rfl
  case assign x =>
    cases hx : evalA fr x with
    | none => simp only [hx] at h; cases h
    | some v => simp only [hx] at h; cases h; exact softVal (evalA_ok hf hx) rfl
  case pick c x y =>
    simp only at h
    split at h
    · rename_i x' y' hc hx hy
      cases h
      have := (evalA_ok hf hc).lit_eq
      exact softVal (evalA_ok hf hx) (by simp only [this, Sem.run_bind, asBool_run]; rfl)
    · rename_i x' y' hc hx hy
      cases h
      have := (evalA_ok hf hc).lit_eq
      exact softVal (evalA_ok hf hy) (by simp only [this, Sem.run_bind, asBool_run]; rfl)
    · cases h
  case build t parts =>
    simp only at h
    split at h
    · rename_i ps hx; exact outR_soft h fun v hv => build_ok hr (partsA_arr hf hx) hv
    · cases h
  case load t x =>
    simp only at h
    split at h
    · rename_i v hx; exact outR_soft h fun v hv => load_ok hr (evalA_ok hf hx) hv
    · cases h
  case nilCheck x =>
    simp only at h
    split at h
    · rename_i b off hx
      cases h
      have := evalA_ok hf hx
      generalize hu : a.eval x = u at this
      cases this with
      | ptr _ _ hb => exact softVal (.ptr b off hb) (by simp only [hu]; rfl)
    · rename_i cs hx
      cases h
      have := evalA_ok hf hx
      generalize hu : a.eval x = u at this
      cases this with
      | frp _ k off vs us h1 h2 h3 => exact softVal (.frp cs k off vs us h1 h2 h3) (by simp only [hu]; rfl)
    · rename_i f l m hx
      cases h
      have := evalA_ok hf hx
      generalize hu : a.eval x = u at this
      cases this with
      | func _ _ _ a1 a2 e1 e2 g1 g2 => exact softVal (.func _ _ _ _ _ e1 e2 g1 g2) (by simp only [hu]; rfl)
    · cases h
  case binOp op t x y yt =>
    simp only at h
    split at h
    · rename_i u v hx hy; exact outR_soft h fun v hv => bin_ok hr (evalA_ok hf hx) (evalA_ok hf hy) hv
    · cases h
  case unOp op t x =>
    simp only at h
    split at h
    · rename_i v hx
      split at h
      · rename_i u hu
        have := litOf_ok hu (evalA_ok hf hx)
        simp only [this]
        exact outR_soft h fun v hv => pureV_ok hr hv
      · cases h
    · cases h
  case convert src dst x =>
    simp only at h
    split at h
    · rename_i v hx
      have hv := evalA_ok hf hx
      have hint : ∃ j k, tinf P dst = some j ∧ j.desc = .int k := by
        simp only [softOp, softConv] at hs
        split at hs
        · rename_i j hj
          split at hs
          · rename_i k hk; exact ⟨j, k, hj, hk⟩
          · cases hs
        · cases hs
      obtain ⟨j, k, hj, hk⟩ := hint
      have hB : toBytesA P src dst v H = none := by
        unfold toBytesA
        rw [hj]
        cases tinf P src with
        | none => rfl
        | some i => simp only [hk]; cases i.desc <;> rfl
      have hS : toStringA P src dst v H = none := by
        unfold toStringA
        rw [hj]
        cases tinf P src with
        | none => rfl
        | some i => simp only [hk]; cases i.desc <;> rfl
      cases hc : convertA P src dst v H with
      | none => rw [hc] at h; cases h
      | some r =>
        rw [hc] at h
        unfold convertA at hc
        split at hc
        · rename_i r' hq
          cases hc
          cases h
          split at hq
          · cases hq
          · rename_i u' hu
            have := litOf_ok hu hv
            simp only [this]
            exact ⟨_, r', rfl, by rw [Sem.run_bind, runPure_ok _ hq w]; rfl, .lit _⟩
        · rw [hB, hS] at hc; cases hc
    · cases h
  case makeInterface t x =>
    simp only at h
    split at h
    · rename_i v hx
      split at h
      · rename_i i hi
        split at h
        · cases h
        · rename_i hd
          cases h
          refine softVal (.iface t v _ (evalA_ok hf hx)) ?_
          simp only [Instr.makeInterface, Sem.run_bind, run_und hi, Result.andThen_ok]
          cases hdd : i.desc <;> first | rfl | (exact absurd hdd (hd _))
      · cases h
    · cases h
  case makeFunc fn first captured =>
    simp only at h
    split at h
    · rename_i l m hl hm
      cases h
      have h1 := evalsA_arr hf hl
      have h2 := evalsA_arr hf hm
      exact softVal (.func fn l m _ _ h1.1 h2.1 h1.2 h2.2) rfl
    · cases h
  case slice t x lo hi mx =>
    cases mx with
    | some m => simp at h
    | none =>
      simp only at h
      split at h
      · rename_i v l hh hx hl hhi; exact outR_soft h fun v hv => slice_ok hr (evalA_ok hf hx) (evalOA_ok hf hl) (evalOA_ok hf hhi) hv
      · cases h
  case fieldAddr t x f =>
    simp only at h
    split at h
    · rename_i v hx; exact outR_soft h fun v hv => fieldAddr_ok hr (evalA_ok hf hx) hv
    · cases h
  case field t x f =>
    simp only at h
    split at h
    · rename_i v hx; exact outR_soft h fun v hv => field_ok hr (evalA_ok hf hx) hv
    · cases h
  case indexAddr t x i =>
    simp only at h
    split at h
    · rename_i v u hx hy; exact outR_soft h fun v hv => indexAddr_ok hr (evalA_ok hf hx) (evalA_ok hf hy) hv
    · cases h
  case index t x i =>
    simp only at h
    split at h
    · rename_i v u hx hy; exact outR_soft h fun v hv => index_ok hr (evalA_ok hf hx) (evalA_ok hf hy) hv
    · cases h
  case lookup t x i ok =>
    simp only at h
    split at h
    · rename_i v u hx hy; exact outR_soft h fun v hv => lookup_ok hr (evalA_ok hf hx) (evalA_ok hf hy) hv
    · cases h
  case extract x i =>
    simp only at h
    split at h
    · rename_i l hx
      refine outR_soft h fun v hv => ?_
      have := evalA_ok hf hx
      generalize a.eval x = u at this
      cases this with
      | tuple _ arr e1 e2 =>
        rw [getL_eq] at hv
        obtain ⟨u, g1, g2⟩ := (show VRs μ l arr from ⟨e1, e2⟩).get hv
        exact .of_run hr (by simp [Instr.extract, g1]) g2
    · rename_i vs hx
      split at h
      · rename_i v hv
        cases h
        have := (evalA_ok hf hx).lit_eq
        rw [getL_eq, Array.getElem?_toList] at hv
        exact softVal (.lit v) (by simp [this, Instr.extract, hv])
      · cases h
    · cases h
  case call c =>
    simp only at h
    cases hc : c.callee with
    | value f => simp [softOp, hc] at hs
    | invoke r m => simp [softOp, hc] at hs
    | builtin b =>
      rw [hc] at h
      simp only [softOp, hc] at hs
      simp only at h
      split at h
      case h_2 => cases h
      rename_i l hl
      have hv := evalsA_arr hf hl
      have fin : ∀ (s : Sem Value), (∀ consts, builtin b c.argTypes o.type consts (c.args.map a.eval) = (do pure (.value (← s)))) → (∀ v, (∃ ov, outV H ov = some out ∧ ov = some v) → RunV P s μ H w v) → (∃ ov, outV H ov = some out) →
          Soft P (do let d ← resolve a.eval c o.type; invoke d.target d.args) μ H w out := by
        rintro s hb hk ⟨ov, ho⟩
        obtain ⟨v, u, e, hrun, hvr⟩ := outR_soft (P := P) (μ := μ) (w := w) ho (fun v hv => hk v ⟨ov, ho, hv⟩)
        refine ⟨v, u, e, ?_, hvr⟩
        simp only [resolve, hc, Sem.run_bind, Sem.run_pure, Result.andThen_ok, invoke]
        rw [hb]; exact hrun
      unfold builtinA at h
      split at h
      · cases hs
      · cases hs
      · cases hs
      · rename_i t x ht
        have hta := arr1 ht
        obtain ⟨u, hua, h1⟩ := hv.one
        refine fin (Builtin.len_ #[t] o.type #[u]) (fun _ => by rw [hta, hua]; rfl) (fun v hv' => ?_) ⟨_, h⟩
        obtain ⟨ov, e1, e2⟩ := hv'
        have : ov = lenOpA P t x H := by
          cases hq : lenOpA P t x H with
          | none => rw [hq] at h; cases h
          | some y => rw [hq] at h; cases h; subst e2; cases e1; rfl
        exact len_ok hr h1 (by rw [← this]; exact e2)
      · cases hs
      · split at h
        · rename_i vs hl
          refine fin (Builtin.min_ c.argTypes o.type ⟨vs⟩) (fun _ => by rw [hv.lits hl]; rfl) (fun v hv' => ?_) ⟨_, h⟩
          obtain ⟨ov, e1, e2⟩ := hv'
          have : ov = pureV P (Builtin.min_ c.argTypes o.type ⟨vs⟩) := by
            cases hq : pureV P (Builtin.min_ c.argTypes o.type ⟨vs⟩) with
            | none => rw [hq] at h; cases h
            | some y => rw [hq] at h; cases h; subst e2; cases e1; rfl
          exact pureV_ok hr (by rw [← this]; exact e2)
        · cases h
      · split at h
        · rename_i vs hl
          refine fin (Builtin.max_ c.argTypes o.type ⟨vs⟩) (fun _ => by rw [hv.lits hl]; rfl) (fun v hv' => ?_) ⟨_, h⟩
          obtain ⟨ov, e1, e2⟩ := hv'
          have : ov = pureV P (Builtin.max_ c.argTypes o.type ⟨vs⟩) := by
            cases hq : pureV P (Builtin.max_ c.argTypes o.type ⟨vs⟩) with
            | none => rw [hq] at h; cases h
            | some y => rw [hq] at h; cases h; subst e2; cases e1; rfl
          exact pureV_ok hr (by rw [← this]; exact e2)
        · cases h
      · cases h
end Go.Cam
namespace Go.Cam
open Go Go.RowKit

/-! ## Counting -/
def cnt (p : Nat → Bool) : Nat → Nat
  | 0 => 0
  | n + 1 => match p n with
    | true => cnt p n + 1
    | false => cnt p n
theorem cnt_congr {p q : Nat → Bool} : ∀ {n : Nat}, (∀ i, i < n → p i = q i) → cnt p n = cnt q n
  | 0, _ => rfl
  | n + 1, h => by
    have := cnt_congr (p := p) (q := q) (n := n) (fun i hi => h i (by omega))
    simp only [cnt, h n (by omega), this]
theorem cnt_le {p q : Nat → Bool} : ∀ {n : Nat}, (∀ i, i < n → p i = true → q i = true) → cnt p n ≤ cnt q n
  | 0, _ => Nat.le_refl _
  | n + 1, h => by
    have ih := cnt_le (p := p) (q := q) (n := n) (fun i hi => h i (by omega))
    simp only [cnt]
    cases hp : p n with
    | true => rw [h n (by omega) hp]; simp only; omega
    | false => cases q n <;> simp only <;> omega
theorem cnt_set {p q : Nat → Bool} {k : Nat} (hk : p k = false) (hq : q k = true) : ∀ {n : Nat}, k < n → (∀ i, i < n → i ≠ k → q i = p i) → cnt q n = cnt p n + 1
  | 0, h, _ => by omega
  | n + 1, h, he => by
    simp only [cnt]
    by_cases hn : k = n
    · subst hn
      rw [hk, hq, cnt_congr (p := q) (q := p) (fun i hi => he i (by omega) (by omega))]
    · rw [he n (by omega) (fun e => hn e.symm), cnt_set hk hq (n := n) (by omega) (fun i hi hne => he i (by omega) hne)]
      cases p n <;> rfl
theorem cnt_upto {p : Nat → Bool} : ∀ {n m : Nat}, n ≤ m → (∀ i, n ≤ i → i < m → p i = false) → cnt p m = cnt p n
  | n, 0, h, _ => by have : n = 0 := by omega
                     subst this; rfl
  | n, m + 1, h, hp => by
    by_cases hn : n = m + 1
    · subst hn; rfl
    · simp only [cnt, hp m (by omega) (by omega)]
      exact cnt_upto (by omega) (fun i h1 h2 => hp i h1 (by omega))
theorem cnt_zero {p : Nat → Bool} : ∀ {n : Nat}, cnt p n = 0 → ∀ i, i < n → p i = false
  | 0, _, i, hi => by omega
  | n + 1, h, i, hi => by
    simp only [cnt] at h
    cases hp : p n with
    | true => rw [hp] at h; simp at h
    | false =>
      rw [hp] at h
      by_cases hin : i = n
      · subst hin; exact hp
      · exact cnt_zero h i (by omega)

/-! ## Which operation comes before which -/
def maskOf : List Edge → List Nat → Nat → Option Nat
  | [], _, m => some m
  | e :: r, acc, m => match Region.binds .any e with
    | false => maskOf r acc m
    | true => match getL e.on acc with
      | none => none
      | some me => maskOf r acc (m ||| (2 ^ e.on ||| me))
def masksL : List Oper → List Nat → Option (List Nat)
  | [], acc => some acc
  | o :: r, acc => match maskOf o.after.toList acc 0 with
    | none => none
    | some m => masksL r (catL acc [m])
theorem tb_two (a b : Nat) : (2 ^ a).testBit b = decide (a = b) := by rw [Nat.testBit_two_pow]
theorem maskOf_ok : ∀ (es : List Edge) (acc : List Nat) (m r : Nat), maskOf es acc m = some r →
    (∀ j, m.testBit j = true → r.testBit j = true) ∧
    (∀ e ∈ es, Region.binds .any e = true → r.testBit e.on = true ∧ e.on < acc.length ∧ ∀ me, acc[e.on]? = some me → ∀ j, me.testBit j = true → r.testBit j = true) ∧
    (∀ j, r.testBit j = true → m.testBit j = true ∨ ∃ e ∈ es, Region.binds .any e = true ∧ (j = e.on ∨ ∃ me, acc[e.on]? = some me ∧ me.testBit j = true))
  | [], acc, m, r, h => by cases h; exact ⟨fun _ h => h, fun e he => by simp at he, fun j h => .inl h⟩
  | e :: es, acc, m, r, h => by
    simp only [maskOf] at h
    split at h
    · rename_i hb
      obtain ⟨h1, h2, h3⟩ := maskOf_ok es acc m r h
      refine ⟨h1, fun e' he' hb' => ?_, fun j hj => ?_⟩
      · rcases List.mem_cons.1 he' with rfl | he'
        · rw [hb] at hb'; cases hb'
        · exact h2 e' he' hb'
      · rcases h3 j hj with h | ⟨e', he', h⟩
        · exact .inl h
        · exact .inr ⟨e', List.mem_cons_of_mem _ he', h⟩
    · rename_i hb
      split at h
      · cases h
      rename_i me hme
      rw [getL_eq] at hme
      obtain ⟨h1, h2, h3⟩ := maskOf_ok es acc _ r h
      have up : ∀ j, (m.testBit j = true ∨ e.on = j ∨ me.testBit j = true) → r.testBit j = true := by
        intro j hj
        apply h1
        rw [Nat.testBit_or, Nat.testBit_or, tb_two]
        rcases hj with h | h | h <;> simp [h]
      refine ⟨fun j hj => up j (.inl hj), fun e' he' hb' => ?_, fun j hj => ?_⟩
      · rcases List.mem_cons.1 he' with rfl | he'
        · refine ⟨up _ (.inr (.inl rfl)), (List.getElem?_eq_some_iff.1 hme).1, fun me' hme' j hj => up j (.inr (.inr ?_))⟩
          rw [hme] at hme'; cases hme'; exact hj
        · exact h2 e' he' hb'
      · rcases h3 j hj with h | ⟨e', he', h⟩
        · rw [Nat.testBit_or, Nat.testBit_or, tb_two] at h
          simp only [Bool.or_eq_true, decide_eq_true_eq] at h
          rcases h with h | h | h
          · exact .inl h
          · exact .inr ⟨e, by simp, hb, .inl h.symm⟩
          · exact .inr ⟨e, by simp, hb, .inr ⟨me, hme, h⟩⟩
        · exact .inr ⟨e', List.mem_cons_of_mem _ he', h⟩

/-- The masks of a region: pm i says which operations come before i. -/
structure Masks (ops : List Oper) (ms : List Nat) : Prop where
  len : ms.length = ops.length
  lt : ∀ (i m j : Nat), ms[i]? = some m → m.testBit j = true → j < i
  gen : ∀ (i m : Nat) (o : Oper) (j : Nat), ms[i]? = some m → ops[i]? = some o → m.testBit j = true → ∃ e ∈ o.after.toList, Region.binds .any e = true ∧ (j = e.on ∨ ∃ me, ms[e.on]? = some me ∧ me.testBit j = true)
  edge : ∀ (i m : Nat) (o : Oper) (e : Edge), ms[i]? = some m → ops[i]? = some o → e ∈ o.after.toList → Region.binds .any e = true → e.on < i

theorem masksL_ok : ∀ (rest done : List Oper) (acc ms : List Nat), Masks done acc → masksL rest acc = some ms → Masks (done ++ rest) ms
  | [], done, acc, ms, h, hm => by cases hm; simpa using h
  | o :: r, done, acc, ms, h, hm => by
    simp only [masksL] at hm
    split at hm
    · cases hm
    rename_i m hmo
    obtain ⟨h1, h2, h3⟩ := maskOf_ok _ _ _ _ hmo
    have hl := h.len
    have get : ∀ (i x : Nat), (catL acc [m])[i]? = some x → (i < acc.length ∧ acc[i]? = some x) ∨ (i = acc.length ∧ x = m) := by
      intro i x hx
      rw [catL_eq] at hx
      by_cases hi : i < acc.length
      · rw [List.getElem?_append_left hi] at hx; exact .inl ⟨hi, hx⟩
      · rw [List.getElem?_append_right (by omega)] at hx
        have hil := (List.getElem?_eq_some_iff.1 hx).1
        simp at hil
        have : i = acc.length := by omega
        subst this
        simp at hx
        exact .inr ⟨rfl, hx.symm⟩
    have geto : ∀ (i : Nat) (x : Oper), (done ++ [o])[i]? = some x → (i < acc.length ∧ done[i]? = some x) ∨ (i = acc.length ∧ x = o) := by
      intro i x hx
      by_cases hi : i < done.length
      · rw [List.getElem?_append_left hi] at hx; exact .inl ⟨by omega, hx⟩
      · rw [List.getElem?_append_right (by omega)] at hx
        have hil := (List.getElem?_eq_some_iff.1 hx).1
        simp at hil
        have : i = done.length := by omega
        subst this
        simp at hx
        exact .inr ⟨hl.symm, hx.symm⟩
    have keep : ∀ (i x : Nat), acc[i]? = some x → (catL acc [m])[i]? = some x := by
      intro i x hx
      rw [catL_eq, List.getElem?_append_left (List.getElem?_eq_some_iff.1 hx).1]; exact hx
    have h' : Masks (done ++ [o]) (catL acc [m]) := by
      refine ⟨by rw [catL_eq]; simp [hl], ?_, ?_, ?_⟩
      · intro i x j hx hj
        rcases get i x hx with ⟨_, hx⟩ | ⟨rfl, rfl⟩
        · exact h.lt i x j hx hj
        · rcases h3 j hj with h0 | ⟨e, he, hb, rfl | ⟨me, hme, hmj⟩⟩
          · simp at h0
          · exact (h2 e he hb).2.1
          · have := h.lt e.on me j hme hmj
            have := (h2 e he hb).2.1
            omega
      · intro i x o' j hx ho hj
        rcases get i x hx with ⟨_, hx⟩ | ⟨rfl, rfl⟩
        · rcases geto _ _ ho with ⟨_, ho⟩ | ⟨e, _⟩
          · obtain ⟨e, he, hb, h⟩ := h.gen i x o' j hx ho hj
            refine ⟨e, he, hb, h.imp id fun ⟨me, q1, q2⟩ => ⟨me, keep _ _ q1, q2⟩⟩
          · omega
        · rcases geto _ _ ho with ⟨h0, _⟩ | ⟨_, rfl⟩
          · omega
          · rcases h3 j hj with h0 | ⟨e, he, hb, h⟩
            · simp at h0
            · exact ⟨e, he, hb, h.imp id fun ⟨me, q1, q2⟩ => ⟨me, keep _ _ q1, q2⟩⟩
      · intro i x o' e hx ho he hb
        rcases geto _ _ ho with ⟨_, ho⟩ | ⟨rfl, rfl⟩
        · rcases get i x hx with ⟨_, hx⟩ | ⟨e, _⟩
          · exact h.edge i x o' e hx ho he hb
          · omega
        · exact (h2 e he hb).2.1
    have := masksL_ok r (done ++ [o]) _ ms h' hm
    simpa using this

/-! ## The look over a region -/
def freshOp : Op → Bool
  | .alloc _ | .box .. | .buildSlice .. | .makeMap .. | .makeSlice .. => true
  | _ => false
def isHard (P : Program) (o : Oper) : Bool := !softOp P o.op && !freshOp o.op
def looksT (all : List Oper) (o : Oper) : List Tmp :=
  let g : List Tmp := match o.guard with
    | some (j, _) => match getL j all with
      | some oj => match oj.dst with
        | some d => [d]
        | none => []
      | none => []
    | none => []
  tmpsOf o.op.operands.toList g
  where tmpsOf : List Operand → List Tmp → List Tmp
  | [], g => g
  | .tmp t :: r, g => t :: tmpsOf r g
  | _ :: r, g => tmpsOf r g
def memN (t : Nat) : List Nat → Bool
  | [] => false
  | x :: r => match Nat.beq x t with
    | true => true
    | false => memN t r
theorem memN_iff {t : Nat} : ∀ {l : List Nat}, memN t l = true ↔ t ∈ l
  | [] => by simp [memN]
  | x :: r => by
    simp only [memN]
    by_cases h : x = t
    · subst h; simp
    · have : Nat.beq x t = false := by rw [Bool.eq_false_iff]; intro e; exact h (Nat.eq_of_beq_eq_true e)
      rw [this]
      simp only [memN_iff, List.mem_cons]
      exact ⟨fun h1 => .inr h1, fun h1 => h1.resolve_left (fun e => h e.symm)⟩
def dstIn (o : Oper) (l : List Tmp) : Bool :=
  match o.dst with
  | some d => memN d l
  | none => false
def dstClash (a b : Oper) : Bool :=
  match a.dst, b.dst with
  | some d, some e => Nat.beq d e
  | _, _ => false
/-- May the two (a before b in the text) change places? If not, an edge must hold them. -/
def tied (P : Program) (all : List Oper) (a b : Oper) : Bool := dstIn a (looksT all b) || (dstIn b (looksT all a) || (isHard P a && isHard P b))
def pairOk (P : Program) (all : List Oper) (b : Oper) (mb : Nat) : Nat → List Oper → Bool
  | _, [] => true
  | i, a :: r => match dstClash a b with
    | true => false
    | false => match tied P all a b with
      | true => match mb.testBit i with
        | true => pairOk P all b mb (i + 1) r
        | false => false
      | false => pairOk P all b mb (i + 1) r
def pairsOk (P : Program) (all : List Oper) : List Oper → List Oper → List Nat → Bool
  | _, [], _ => true
  | done, o :: r, m :: ms => match pairOk P all o m 0 done with
    | true => pairsOk P all (catL done [o]) r ms
    | false => false
  | _, _ :: _, [] => false
theorem pairOk_ok {P : Program} {all : List Oper} {b : Oper} {mb : Nat} : ∀ {l : List Oper} {k : Nat}, pairOk P all b mb k l = true → ∀ (i : Nat) (a : Oper), l[i]? = some a → dstClash a b = false ∧ (tied P all a b = true → mb.testBit (k + i) = true)
  | [], k, _, i, a, h => by simp at h
  | x :: r, k, h, i, a, hi => by
    simp only [pairOk] at h
    split at h
    · cases h
    rename_i hd
    have hr : pairOk P all b mb (k + 1) r = true := by
      split at h
      · split at h
        · exact h
        · cases h
      · exact h
    cases i with
    | zero =>
      simp at hi; subst hi
      refine ⟨hd, fun ht => ?_⟩
      rw [ht] at h
      simp only at h
      split at h
      · assumption
      · cases h
    | succ i =>
      have := pairOk_ok hr i a (by simpa using hi)
      rwa [show k + 1 + i = k + (i + 1) by omega] at this
theorem pairsOk_ok {P : Program} {all : List Oper} : ∀ {rest done : List Oper} {ms pre : List Nat}, pre.length = done.length → pairsOk P all done rest ms = true →
    ∀ (i j : Nat) (a b : Oper) (mb : Nat), i < j → done.length ≤ j → (done ++ rest)[i]? = some a → (done ++ rest)[j]? = some b → (pre ++ ms)[j]? = some mb → dstClash a b = false ∧ (tied P all a b = true → mb.testBit i = true)
  | [], done, ms, pre, hp, _, i, j, a, b, mb, hij, hj, ha, hb, hm => by
    have := (List.getElem?_eq_some_iff.1 hb).1
    simp at this; omega
  | o :: r, done, [], pre, hp, h, i, j, a, b, mb, hij, hj, ha, hb, hm => by simp [pairsOk] at h
  | o :: r, done, m :: ms, pre, hp, h, i, j, a, b, mb, hij, hj, ha, hb, hm => by
    simp only [pairsOk] at h
    split at h
    case h_2 => cases h
    rename_i h1
    by_cases hjd : j = done.length
    · subst hjd
      rw [List.getElem?_append_right (Nat.le_refl _)] at hb
      simp at hb
      subst hb
      rw [List.getElem?_append_left hij] at ha
      rw [← hp, List.getElem?_append_right (Nat.le_refl _)] at hm
      simp at hm
      subst hm
      have := pairOk_ok h1 i a ha
      rwa [Nat.zero_add] at this
    · rw [catL_eq] at h
      exact pairsOk_ok (pre := pre ++ [m]) (by simp [hp]) h i j a b mb hij (by simp; omega) (by simpa using ha) (by simpa using hb) (by simpa using hm)
end Go.Cam
namespace Go.Cam
open Go Go.RowKit

def restr (fr : T AV) : List Tmp → T AV
  | [] => .leaf
  | t :: r => match fr.get t with
    | some v => (restr fr r).set fuelT t v
    | none => restr fr r
theorem restr_get {fr : T AV} : ∀ {l : List Tmp} {t : Nat} {v : AV}, (restr fr l).get t = some v → t ∈ l ∧ fr.get t = some v
  | [], t, v, h => by rw [restr, T.get_leaf] at h; cases h
  | x :: r, t, v, h => by
    simp only [restr] at h
    split at h
    · rename_i y hy
      rcases T.get_set _ _ _ _ _ _ h with ⟨rfl, rfl⟩ | ⟨_, h2⟩
      · exact ⟨by simp, hy⟩
      · have := restr_get h2; exact ⟨List.mem_cons_of_mem _ this.1, this.2⟩
    · have := restr_get h; exact ⟨List.mem_cons_of_mem _ this.1, this.2⟩

/-- The operation yields v, whatever the world, and leaves the heap. -/
def SoftS (P : Program) (rf : T AV) (M : Hp) (o : Oper) (v : AV) : Prop := ∀ μ a w, HR μ M w → FR μ rf a → ∃ u, (execOp a.eval o).run P w = .ok (.value u) w ∧ VR μ v u
/-- The operation, a call too, yields v and turns the heap into H'. -/
def OpDoes (P : Program) (o : Oper) (rf : T AV) (H : Hp) (v : AV) (H' : Hp) : Prop :=
  ∀ (μ : Mu) (a : Act) (w : World) (K : Act → World → Prop) (Q : Exit → Act → World → Prop), HR μ H w → FR μ rf a → (∀ u μ' w', Step μ H w μ' H' w' → VR μ' v u → K (a.put o.dst u) w') → o.wp P a w K Q
theorem softS_of {P : Program} {rf : T AV} {M M1 : Hp} {o : Oper} {v : AV} (hs : softOp P o.op = true) (h : opA P rf M o = some (.val v M1)) : SoftS P rf M o v := by
  intro μ a w hr hf
  obtain ⟨v', u, e, h1, h2⟩ := soft_run (w := w) hs hr hf h
  cases e
  exact ⟨u, h1, h2⟩
theorem opDoes_of {P : Program} {call : CallF} (hcall : CallOk P call) {rf : T AV} {H H' : Hp} {o : Oper} {v : AV} (h : stepA P call rf H o = some (v, H')) : OpDoes P o rf H v H' := fun _ _ _ _ _ hr hf hK => stepA_ok hcall hr hf h hK

/-- What was seen of one operation: its operands, the heap ahead of it and behind it, its value; of one that makes a block: the block; of a hard one: the new blocks that it may see. -/
structure Rc where
  o : Oper
  want : Bool
  fr : T AV
  M : Hp
  v : AV
  M' : Hp
  obj : Option AObj
  X : List (Nat × AObj)

def bigId : Nat := 549755813888
def grpOk (r : Nat) : AObj → Bool
  | .cells _ g => Nat.beq g r
  | _ => true
/-- An operation that makes one block, whatever the heap: the block is named r. -/
def freshA (P : Program) (rf : T AV) (o : Oper) (r : Nat) (G : Nat → Option (List Value)) : Option (AV × AObj) :=
  match opA P rf ⟨r, .leaf, .leaf, G, bigId⟩ o with
  | some (.val v Hr) => match Nat.beq Hr.next (r + bigId) with
    | false => none
    | true => match Hr.blk.get r with
      | none => none
      | some obj => match grpOk r obj with
        | true => some (v, obj)
        | false => none
  | _ => none
def addB (r : Nat) (o : AObj) (M : Hp) : Hp := { M with blk := M.blk.set fuelT r o, grps := M.grps.set fuelT r [r] }
def addF (base : Nat) : Hp → List (Nat × AObj) → Hp
  | M, [] => M
  | M, (i, o) :: r => addF base (addB (base + i) o M) r
def selY (m : Nat) : List (Nat × AObj) → List (Nat × AObj)
  | [] => []
  | (i, o) :: r => match m.testBit i with
    | true => (i, o) :: selY m r
    | false => selY m r
def selN (m : Nat) : List (Nat × AObj) → List (Nat × AObj)
  | [] => []
  | (i, o) :: r => match m.testBit i with
    | true => selN m r
    | false => (i, o) :: selN m r
theorem selY_mem {m : Nat} {x : Nat × AObj} : ∀ {l : List (Nat × AObj)}, x ∈ selY m l → x ∈ l ∧ m.testBit x.1 = true
  | (i, o) :: r, h => by
    simp only [selY] at h
    split at h
    · rename_i hb
      rcases List.mem_cons.1 h with rfl | h
      · exact ⟨by simp, hb⟩
      · have := selY_mem h; exact ⟨List.mem_cons_of_mem _ this.1, this.2⟩
    · have := selY_mem h; exact ⟨List.mem_cons_of_mem _ this.1, this.2⟩
theorem selN_mem {m : Nat} {x : Nat × AObj} : ∀ {l : List (Nat × AObj)}, x ∈ selN m l → x ∈ l ∧ m.testBit x.1 = false
  | (i, o) :: r, h => by
    simp only [selN] at h
    split at h
    · have := selN_mem h; exact ⟨List.mem_cons_of_mem _ this.1, this.2⟩
    · rename_i hb
      rcases List.mem_cons.1 h with rfl | h
      · exact ⟨by simp, hb⟩
      · have := selN_mem h; exact ⟨List.mem_cons_of_mem _ this.1, this.2⟩
theorem selY_nodup {m : Nat} : ∀ {l : List (Nat × AObj)}, (l.map (·.1)).Nodup → ((selY m l).map (·.1)).Nodup
  | [], h => h
  | (i, o) :: r, h => by
    simp only [List.map_cons, List.nodup_cons] at h
    simp only [selY]
    split
    · simp only [List.map_cons, List.nodup_cons]
      refine ⟨fun hm => h.1 ?_, selY_nodup h.2⟩
      obtain ⟨x, hx, e⟩ := List.mem_map.1 hm
      exact List.mem_map.2 ⟨x, (selY_mem hx).1, e⟩
    · exact selY_nodup h.2
theorem selN_nodup {m : Nat} : ∀ {l : List (Nat × AObj)}, (l.map (·.1)).Nodup → ((selN m l).map (·.1)).Nodup
  | [], h => h
  | (i, o) :: r, h => by
    simp only [List.map_cons, List.nodup_cons] at h
    simp only [selN]
    split
    · exact selN_nodup h.2
    · simp only [List.map_cons, List.nodup_cons]
      refine ⟨fun hm => h.1 ?_, selN_nodup h.2⟩
      obtain ⟨x, hx, e⟩ := List.mem_map.1 hm
      exact List.mem_map.2 ⟨x, (selN_mem hx).1, e⟩

def rcOf (P : Program) (call : CallF) (all : List Oper) (G : Nat → Option (List Value)) (base i m : Nat) (o : Oper) (rf : T AV) (M : Hp) (pend : List (Nat × AObj)) : Option (Rc × List (Nat × AObj)) :=
  match wantedA all rf o with
  | none => none
  | some false => some (⟨o, false, rf, M, .lit undef, M, none, []⟩, pend)
  | some true => match softOp P o.op with
    | true => match opA P rf M o with
      | some (.val v _) => some (⟨o, true, rf, M, v, M, none, []⟩, pend)
      | _ => none
    | false => match freshOp o.op with
      | true => match freshA P rf o (base + i) G with
        | some (v, obj) => some (⟨o, true, rf, M, v, M, some obj, []⟩, (i, obj) :: pend)
        | none => none
      | false => match stepA P call rf (addF base M (selY m pend)) o with
        | some (v, M') => some (⟨o, true, rf, M, v, M', none, selY m pend⟩, selN m pend)
        | none => none
def maskAt (ms : List Nat) (j : Nat) : Nat :=
  match getL j ms with
  | some m => m
  | none => 0
def pass1 (P : Program) (call : CallF) (nt : Nat) (all : List Oper) (ms : List Nat) (G : Nat → Option (List Value)) (base : Nat) : Nat → List Oper → T AV → Hp → List (Nat × AObj) → Option (List Rc × T AV × Hp × List (Nat × AObj))
  | _, [], fr, M, pend => some ([], fr, M, pend)
  | i, o :: r, fr, M, pend => match rcOf P call all G base i (maskAt ms i) o (restr fr (looksT all o)) M pend with
    | none => none
    | some (rc, pend') => match putA nt fr o.dst rc.v with
      | none => none
      | some fr' => match pass1 P call nt all ms G base (i + 1) r fr' rc.M' pend' with
        | none => none
        | some (l, fr2, M2, pend2) => some (rc :: l, fr2, M2, pend2)

def isFr (P : Program) (o : Oper) : Bool := !softOp P o.op && freshOp o.op
/-- Each record is what the operation does. -/
structure RcOk (P : Program) (nt : Nat) (all : List Oper) (G : Nat → Option (List Value)) (base i : Nat) (rc : Rc) : Prop where
  wanted : wantedA all rc.fr rc.o = some rc.want
  no : rc.want = false → rc.v = .lit undef
  keep : isHard P rc.o = false ∨ rc.want = false → rc.M' = rc.M ∧ rc.X = []
  soft : rc.want = true → softOp P rc.o.op = true → SoftS P rc.fr rc.M rc.o rc.v
  fresh : rc.want = true → isFr P rc.o = true → ∃ obj, rc.obj = some obj ∧ freshA P rc.fr rc.o (base + i) G = some (rc.v, obj)
  hard : rc.want = true → isHard P rc.o = true → OpDoes P rc.o rc.fr (addF base rc.M rc.X) rc.v rc.M'
  dst : ∀ d, rc.o.dst = some d → d < nt

def hardXs (P : Program) : List Rc → List (List (Nat × AObj))
  | [] => []
  | rc :: l => match isHard P rc.o with
    | true => rc.X :: hardXs P l
    | false => hardXs P l
/-- The new blocks that the first k hard operations have seen. -/
def merged (P : Program) (l : List Rc) : List Nat := ((hardXs P l).flatten).map (·.1)
/-- Operation i makes this block. -/
def IsP (P : Program) (l : List Rc) (x : Nat × AObj) : Prop := ∃ rc, l[x.1]? = some rc ∧ isFr P rc.o = true ∧ rc.want = true ∧ rc.obj = some x.2
structure PendOk (P : Program) (l : List Rc) (pend : List (Nat × AObj)) : Prop where
  is : ∀ x ∈ pend, IsP P l x ∧ x.1 ∉ merged P l
  mlt : ∀ j ∈ merged P l, j < l.length
  nodup : (pend.map (·.1)).Nodup
theorem IsP.lt {P : Program} {l : List Rc} {x : Nat × AObj} (h : IsP P l x) : x.1 < l.length := by
  obtain ⟨rc, h1, _⟩ := h
  exact (List.getElem?_eq_some_iff.1 h1).1
theorem IsP.append {P : Program} {l m : List Rc} {x : Nat × AObj} (h : IsP P l x) : IsP P (l ++ m) x := by
  have hl := h.lt
  obtain ⟨rc, h1, h2⟩ := h
  exact ⟨rc, by rw [List.getElem?_append_left hl]; exact h1, h2⟩
theorem hardXs_append (P : Program) : ∀ (l m : List Rc), hardXs P (l ++ m) = hardXs P l ++ hardXs P m
  | [], _ => rfl
  | rc :: l, m => by
    simp only [List.cons_append, hardXs]
    split <;> simp [hardXs_append P l m]
theorem merged_append (P : Program) (l m : List Rc) : merged P (l ++ m) = merged P l ++ merged P m := by simp [merged, hardXs_append]
theorem merged_one {P : Program} {rc : Rc} : merged P [rc] = (match isHard P rc.o with | true => rc.X.map (·.1) | false => []) := by
  simp only [merged, hardXs]
  cases isHard P rc.o <;> simp

def Chain : Hp → List Rc → Hp → Prop
  | H, [], H' => H' = H
  | H, rc :: l, H' => rc.M = H ∧ Chain rc.M' l H'
/-- Where a slot's value comes from. -/
def Src (fr : T AV) (l : List Rc) (t : Nat) (v : AV) : Prop :=
  (∃ (j : Nat) (rc : Rc), l[j]? = some rc ∧ rc.o.dst = some t ∧ v = rc.v) ∨ (fr.get t = some v ∧ ∀ (j : Nat) (rc : Rc), l[j]? = some rc → rc.o.dst ≠ some t)

theorem putA_get {nt : Nat} {fr fr' : T AV} {dst : Option Tmp} {x : AV} (h : putA nt fr dst x = some fr') : (∀ d, dst = some d → d < nt) ∧
    ∀ t v, fr'.get t = some v → (dst = some t ∧ v = x) ∨ (dst ≠ some t ∧ fr.get t = some v) := by
  cases dst with
  | none => cases h; exact ⟨(fun d h => by cases h), fun t v h => .inr ⟨by simp, h⟩⟩
  | some d =>
    simp only [putA] at h
    split at h
    case h_2 => cases h
    rename_i hd
    cases h
    refine ⟨fun d' e => by cases e; rw [← Nat.blt_eq]; exact hd, fun t v ht => ?_⟩
    rcases T.get_set _ _ _ _ _ _ ht with ⟨rfl, rfl⟩ | ⟨h1, h2⟩
    · exact .inl ⟨rfl, rfl⟩
    · exact .inr ⟨fun e => h1 (by cases e; rfl), h2⟩

theorem isHard_soft {P : Program} {o : Oper} (h : softOp P o.op = true) : isHard P o = false ∧ isFr P o = false := by simp [isHard, isFr, h]
theorem isHard_fresh {P : Program} {o : Oper} (h1 : softOp P o.op = false) (h2 : freshOp o.op = true) : isHard P o = false ∧ isFr P o = true := by simp [isHard, isFr, h1, h2]
theorem isHard_hard {P : Program} {o : Oper} (h1 : softOp P o.op = false) (h2 : freshOp o.op = false) : isHard P o = true ∧ isFr P o = false := by simp [isHard, isFr, h1, h2]

theorem rcOf_ok {P : Program} {call : CallF} (hcall : CallOk P call) {all : List Oper} {G : Nat → Option (List Value)} {base i m : Nat} {o : Oper} {rf : T AV} {M : Hp} {pend pend' : List (Nat × AObj)} {rc : Rc} (h : rcOf P call all G base i m o rf M pend = some (rc, pend')) {nt : Nat} (hd : ∀ d, o.dst = some d → d < nt) :
    RcOk P nt all G base i rc ∧ rc.o = o ∧ rc.fr = rf ∧ rc.M = M ∧
    ∀ pre : List Rc, pre.length = i → PendOk P pre pend → PendOk P (pre ++ [rc]) pend' ∧ (rc.X.map (·.1)).Nodup ∧ ∀ x ∈ rc.X, IsP P pre x ∧ x.1 ∉ merged P pre ∧ m.testBit x.1 = true := by
  have same : ∀ (rc : Rc), rc.X = [] → ∀ pre : List Rc, pre.length = i → PendOk P pre pend → PendOk P (pre ++ [rc]) pend ∧ (rc.X.map (·.1)).Nodup ∧ ∀ x ∈ rc.X, IsP P pre x ∧ x.1 ∉ merged P pre ∧ m.testBit x.1 = true := by
    intro rc hX pre _ hp
    have hm : merged P (pre ++ [rc]) = merged P pre := by
      rw [merged_append, merged_one, hX]
      cases isHard P rc.o <;> simp
    refine ⟨⟨fun x hx => ⟨(hp.is x hx).1.append, ?_⟩, fun j hj => ?_, hp.nodup⟩, by rw [hX]; simp, fun x hx => by rw [hX] at hx; simp at hx⟩
    · rw [hm]; exact (hp.is x hx).2
    · rw [hm] at hj; have := hp.mlt j hj; simp; omega
  unfold rcOf at h
  split at h
  · cases h
  · rename_i hw
    cases h
    exact ⟨⟨hw, fun _ => rfl, fun _ => ⟨rfl, rfl⟩, (fun h => by simp at h), (fun h => by simp at h), (fun h => by simp at h), hd⟩, rfl, rfl, rfl, same _ rfl⟩
  · rename_i hw
    split at h
    · rename_i hs
      split at h
      · rename_i v H1 hop
        cases h
        obtain ⟨hh, hf⟩ := isHard_soft (P := P) (o := o) hs
        exact ⟨⟨hw, (fun h => by simp at h), fun _ => ⟨rfl, rfl⟩, fun _ _ => softS_of hs hop, (fun _ h => by rw [hf] at h; cases h), (fun _ h => by rw [hh] at h; cases h), hd⟩, rfl, rfl, rfl, same _ rfl⟩
      · cases h
    · rename_i hs
      split at h
      · rename_i hfo
        obtain ⟨hh, hf⟩ := isHard_fresh (P := P) (o := o) hs hfo
        split at h
        · rename_i v obj hfa
          cases h
          refine ⟨⟨hw, (fun h => by simp at h), fun _ => ⟨rfl, rfl⟩, (fun _ h => by rw [hs] at h; cases h), fun _ _ => ⟨obj, rfl, hfa⟩, (fun _ h => by rw [hh] at h; cases h), hd⟩, rfl, rfl, rfl, ?_⟩
          intro pre hpre hp
          have hm : merged P (pre ++ [⟨o, true, rf, M, v, M, some obj, []⟩]) = merged P pre := by
            rw [merged_append, merged_one]; simp only [hh, List.append_nil]
          refine ⟨⟨fun x hx => ?_, fun j hj => ?_, ?_⟩, by simp, fun x hx => by simp at hx⟩
          · rw [hm]
            rcases List.mem_cons.1 hx with rfl | hx
            · refine ⟨⟨⟨o, true, rf, M, v, M, some obj, []⟩, by rw [List.getElem?_append_right (by omega), hpre]; simp, hf, rfl, rfl⟩, fun hm => ?_⟩
              have := hp.mlt _ hm; simp only at this; omega
            · exact ⟨(hp.is x hx).1.append, (hp.is x hx).2⟩
          · rw [hm] at hj; have := hp.mlt j hj; simp; omega
          · simp only [List.map_cons, List.nodup_cons]
            refine ⟨fun hm => ?_, hp.nodup⟩
            obtain ⟨x, hx, e⟩ := List.mem_map.1 hm
            have := (hp.is x hx).1.lt
            omega
        · cases h
      · rename_i hfo
        obtain ⟨hh, hf⟩ := isHard_hard (P := P) (o := o) (by simpa using hs) (by simpa using hfo)
        split at h
        · rename_i v M1 hst
          cases h
          refine ⟨⟨hw, (fun h => by simp at h), (fun h => by rw [hh] at h; simp at h), (fun _ h => by rw [hs] at h; cases h), (fun _ h => by rw [hf] at h; cases h), fun _ _ => opDoes_of hcall hst, hd⟩, rfl, rfl, rfl, ?_⟩
          intro pre hpre hp
          refine ⟨⟨fun x hx => ?_, fun j hj => ?_, selN_nodup hp.nodup⟩, selY_nodup hp.nodup, fun x hx => ?_⟩
          · obtain ⟨h1, h2⟩ := selN_mem hx
            refine ⟨(hp.is x h1).1.append, ?_⟩
            rw [merged_append, merged_one, hh]
            simp only [List.mem_append, not_or]
            refine ⟨(hp.is x h1).2, fun hm => ?_⟩
            obtain ⟨y, hy, e⟩ := List.mem_map.1 hm
            have := (selY_mem hy).2
            rw [e, h2] at this; cases this
          · rw [merged_append, merged_one, hh] at hj
            rcases List.mem_append.1 hj with hj | hj
            · have := hp.mlt j hj; simp; omega
            · obtain ⟨y, hy, e⟩ := List.mem_map.1 hj
              have := (hp.is y (selY_mem hy).1).1.lt
              simp; omega
          · obtain ⟨h1, h2⟩ := selY_mem hx
            exact ⟨(hp.is x h1).1, (hp.is x h1).2, h2⟩
        · cases h

theorem pass1_ok {P : Program} {call : CallF} (hcall : CallOk P call) {nt : Nat} {all : List Oper} {ms : List Nat} {G : Nat → Option (List Value)} {base : Nat} : ∀ {rest : List Oper} {i : Nat} {fr fr' : T AV} {M M' : Hp} {pend pend' : List (Nat × AObj)} {l : List Rc}, pass1 P call nt all ms G base i rest fr M pend = some (l, fr', M', pend') →
    l.map (·.o) = rest ∧ Chain M l M' ∧ (∀ (j : Nat) (rc : Rc), l[j]? = some rc → RcOk P nt all G base (i + j) rc ∧ ∀ t v, rc.fr.get t = some v → t ∈ looksT all rc.o ∧ Src fr (l.take j) t v) ∧
    (∀ t v, fr'.get t = some v → Src fr l t v) ∧
    ∀ pre : List Rc, pre.length = i → PendOk P pre pend → PendOk P (pre ++ l) pend' ∧ ∀ (j : Nat) (rc : Rc), l[j]? = some rc → (rc.X.map (·.1)).Nodup ∧ ∀ x ∈ rc.X, IsP P (pre ++ l.take j) x ∧ x.1 ∉ merged P (pre ++ l.take j) ∧ (maskAt ms (i + j)).testBit x.1 = true
  | [], i, fr, fr', M, M', pend, pend', l, h => by
    cases h
    exact ⟨rfl, rfl, fun j rc h => by simp at h, fun t v h => .inr ⟨h, fun j rc h => by simp at h⟩, fun pre _ hp => ⟨by simpa using hp, fun j rc h => by simp at h⟩⟩
  | o :: r, i, fr, fr', M, M', pend, pend', l, h => by
    simp only [pass1] at h
    split at h
    · cases h
    rename_i rc pend1 hrc
    split at h
    · cases h
    rename_i fr1 hp
    split at h
    · cases h
    rename_i l' fr2 M2 pend2 hl
    cases h
    obtain ⟨g1, g2⟩ := putA_get hp
    obtain ⟨k1, k2, k3, k4, k5⟩ := rcOf_ok hcall hrc g1
    obtain ⟨m1, m2, m3, m4, m5⟩ := pass1_ok hcall hl
    have lift : ∀ (l1 : List Rc) t v, Src fr1 l1 t v → Src fr (rc :: l1) t v := by
      rintro l1 t v (⟨j, rc', q1, q2, q3⟩ | ⟨q1, q2⟩)
      · exact .inl ⟨j + 1, rc', by simpa using q1, q2, q3⟩
      · rcases g2 t v q1 with ⟨r1, r2⟩ | ⟨r1, r2⟩
        · exact .inl ⟨0, rc, rfl, by rw [k2]; exact r1, r2⟩
        · refine .inr ⟨r2, fun j rc' hj => ?_⟩
          cases j with
          | zero => simp at hj; subst hj; rw [k2]; exact r1
          | succ j => exact q2 j rc' (by simpa using hj)
    refine ⟨by simp [k2, m1], ⟨k4, m2⟩, fun j rc' hi => ?_, fun t v ht => lift _ _ _ (m4 t v ht), fun pre hpre hpo => ?_⟩
    · cases j with
      | zero =>
        simp at hi; subst hi
        refine ⟨k1, fun t v ht => ?_⟩
        rw [k3] at ht
        obtain ⟨q1, q2⟩ := restr_get ht
        exact ⟨by rw [k2]; exact q1, .inr ⟨q2, fun j rc' h => by simp at h⟩⟩
      | succ j =>
        obtain ⟨q1, q2⟩ := m3 j rc' (by simpa using hi)
        exact ⟨by rw [show i + (j + 1) = i + 1 + j by omega]; exact q1, fun t v ht => ⟨(q2 t v ht).1, by simpa using lift _ _ _ (q2 t v ht).2⟩⟩
    · obtain ⟨n1, n2, n3⟩ := k5 pre hpre hpo
      obtain ⟨n4, n5⟩ := m5 (pre ++ [rc]) (by simp [hpre]) n1
      refine ⟨by simpa using n4, fun j rc' hj => ?_⟩
      cases j with
      | zero => simp at hj; subst hj; exact ⟨n2, by simpa using n3⟩
      | succ j =>
        have := n5 j rc' (by simpa using hj)
        rw [show i + 1 + j = i + (j + 1) by omega] at this
        simpa using this

/-! ## The heaps between the hard operations -/
def hardHs (P : Program) : List Rc → List Hp
  | [] => []
  | rc :: l => match isHard P rc.o with
    | true => rc.M' :: hardHs P l
    | false => hardHs P l
def hardAt (P : Program) (ops : List Oper) (j : Nat) : Bool :=
  match getL j ops with
  | some o => isHard P o
  | none => false
theorem cnt_shift (p : Nat → Bool) : ∀ n, cnt p (n + 1) = cnt (fun i => p (i + 1)) n + (match p 0 with | true => 1 | false => 0)
  | 0 => by simp only [cnt]; cases p 0 <;> rfl
  | n + 1 => by
    have ih := cnt_shift p n
    have e1 : cnt p (n + 2) = (match p (n + 1) with | true => cnt p (n + 1) + 1 | false => cnt p (n + 1)) := rfl
    have e2 : cnt (fun i => p (i + 1)) (n + 1) = (match p (n + 1) with | true => cnt (fun i => p (i + 1)) n + 1 | false => cnt (fun i => p (i + 1)) n) := rfl
    rw [e1, e2, ih]
    cases p (n + 1) <;> simp only <;> omega
theorem hardAt_succ (P : Program) (o : Oper) (ops : List Oper) (i : Nat) : hardAt P (o :: ops) (i + 1) = hardAt P ops i := rfl
theorem heaps_ok {P : Program} : ∀ {l : List Rc} {M M' : Hp}, Chain M l M' → (∀ rc ∈ l, isHard P rc.o = false → rc.M' = rc.M) →
    (∀ (i : Nat) (rc : Rc), l[i]? = some rc → (M :: hardHs P l)[cnt (hardAt P (l.map (·.o))) i]? = some rc.M ∧ (isHard P rc.o = true → (M :: hardHs P l)[cnt (hardAt P (l.map (·.o))) i + 1]? = some rc.M')) ∧
    (M :: hardHs P l)[cnt (hardAt P (l.map (·.o))) l.length]? = some M'
  | [], M, M', h, _ => by
    refine ⟨fun i rc h => by simp at h, ?_⟩
    have : M' = M := h
    subst this; rfl
  | rc :: l, M, M', ⟨h1, h2⟩, hok => by
    obtain ⟨g1, g2⟩ := heaps_ok h2 (fun rc' h => hok rc' (List.mem_cons_of_mem _ h))
    have hsoft := hok rc (by simp)
    have sh : ∀ i, cnt (hardAt P ((rc :: l).map (·.o))) (i + 1) = cnt (hardAt P (l.map (·.o))) i + (match isHard P rc.o with | true => 1 | false => 0) := fun i => cnt_shift _ i
    have up : ∀ k x, (rc.M' :: hardHs P l)[k]? = some x → (M :: hardHs P (rc :: l))[k + (match isHard P rc.o with | true => 1 | false => 0)]? = some x := by
      intro k x hx
      cases hh : isHard P rc.o with
      | true => simp only [hardHs, hh]; exact hx
      | false =>
        simp only [hardHs, hh]
        rw [hsoft hh, h1] at hx
        exact hx
    refine ⟨fun i rc' hi => ?_, ?_⟩
    · cases i with
      | zero =>
        simp at hi; subst hi
        refine ⟨by simp [cnt, h1], fun hh => ?_⟩
        simp [cnt, hardHs, hh]
      | succ i =>
        obtain ⟨q1, q2⟩ := g1 i rc' (by simpa using hi)
        rw [sh]
        refine ⟨up _ _ q1, fun hh => ?_⟩
        have := up _ _ (q2 hh)
        rwa [Nat.add_right_comm] at this
    · rw [List.length_cons, sh]
      exact up _ _ g2
/-- The new blocks that the first k hard operations saw. -/
def mergedK (P : Program) (l : List Rc) (k : Nat) : List Nat := (((hardXs P l).take k).flatten).map (·.1)
theorem hardXs_take {P : Program} : ∀ (l : List Rc) (i : Nat), i ≤ l.length → hardXs P (l.take i) = (hardXs P l).take (cnt (hardAt P (l.map (·.o))) i)
  | [], i, h => by simp [hardXs]
  | rc :: l, 0, h => by simp [hardXs, cnt]
  | rc :: l, i + 1, h => by
    have sh : cnt (hardAt P ((rc :: l).map (·.o))) (i + 1) = cnt (hardAt P (l.map (·.o))) i + (match isHard P rc.o with | true => 1 | false => 0) := cnt_shift _ i
    rw [sh, List.take_succ_cons]
    simp only [hardXs]
    have ih := hardXs_take (P := P) l i (by simpa using h)
    cases isHard P rc.o <;> simp [ih]
theorem merged_take {P : Program} {l : List Rc} {i : Nat} (h : i ≤ l.length) : merged P (l.take i) = mergedK P l (cnt (hardAt P (l.map (·.o))) i) := by
  unfold merged mergedK; rw [hardXs_take l i h]
theorem mergedK_succ {P : Program} {l : List Rc} {i : Nat} {rc : Rc} (h : l[i]? = some rc) (hh : isHard P rc.o = true) :
    mergedK P l (cnt (hardAt P (l.map (·.o))) i + 1) = mergedK P l (cnt (hardAt P (l.map (·.o))) i) ++ rc.X.map (·.1) := by
  have hi := (List.getElem?_eq_some_iff.1 h).1
  have e : cnt (hardAt P (l.map (·.o))) (i + 1) = cnt (hardAt P (l.map (·.o))) i + 1 := by
    have : hardAt P (l.map (·.o)) i = true := by unfold hardAt; rw [getL_eq, List.getElem?_map, h]; exact hh
    simp only [cnt, this]
  rw [← e, ← merged_take (by omega), ← merged_take (by omega), List.take_add_one, h, merged_append]
  simp [merged_one, hh]

/-! ## The soft operations at every heap at which they may come up -/
def kMin (P : Program) (ops : List Oper) (ms : List Nat) (i : Nat) : Nat := cnt (fun j => hardAt P ops j && (maskAt ms i).testBit j) (lenL ops)
def kMax (P : Program) (ops : List Oper) (ms : List Nat) (i : Nat) : Nat := cnt (fun j => hardAt P ops j && !(maskAt ms j).testBit i) (lenL ops)
def checkAt (P : Program) (rc : Rc) : Nat → List Hp → Bool
  | 0, _ => true
  | _ + 1, [] => true
  | k + 1, H :: hs => match opA P rc.fr H rc.o with
    | some (.val v _) => match AV.same v rc.v with
      | true => checkAt P rc k hs
      | false => false
    | _ => false
def checkSoft (P : Program) (ops : List Oper) (ms : List Nat) (hs : List Hp) : Nat → List Rc → Bool
  | _, [] => true
  | i, rc :: r => match softOp P rc.o.op && rc.want with
    | false => checkSoft P ops ms hs (i + 1) r
    | true => match Nat.beq (kMin P ops ms i) (kMax P ops ms i) with
      | true => checkSoft P ops ms hs (i + 1) r
      | false => match checkAt P rc (kMax P ops ms i + 1 - kMin P ops ms i) (dropL (kMin P ops ms i) hs) with
        | true => checkSoft P ops ms hs (i + 1) r
        | false => false
theorem checkAt_ok {P : Program} {rc : Rc} (hs : softOp P rc.o.op = true) : ∀ {n : Nat} {l : List Hp}, checkAt P rc n l = true → ∀ (k : Nat) (H : Hp), k < n → l[k]? = some H → SoftS P rc.fr H rc.o rc.v
  | 0, l, _, k, H, hk, _ => by omega
  | n + 1, [], _, k, H, _, h => by simp at h
  | n + 1, H0 :: l, h, k, H, hk, hl => by
    simp only [checkAt] at h
    split at h
    case h_2 => cases h
    rename_i v H1 hop
    split at h
    case h_2 => cases h
    rename_i hsame
    have := AV.same_ok hsame
    subst this
    cases k with
    | zero =>
      simp at hl; subst hl
      exact softS_of hs hop
    | succ k => exact checkAt_ok hs h k H (by omega) (by simpa using hl)
theorem checkSoft_ok {P : Program} {ops : List Oper} {ms : List Nat} {hs : List Hp} : ∀ {l : List Rc} {i0 : Nat}, checkSoft P ops ms hs i0 l = true → ∀ (i : Nat) (rc : Rc), l[i]? = some rc → softOp P rc.o.op = true → rc.want = true →
    kMin P ops ms (i0 + i) = kMax P ops ms (i0 + i) ∨ ∀ (k : Nat) (H : Hp), kMin P ops ms (i0 + i) ≤ k → k ≤ kMax P ops ms (i0 + i) → hs[k]? = some H → SoftS P rc.fr H rc.o rc.v
  | [], i0, _, i, rc, h, _, _ => by simp at h
  | rc0 :: l, i0, h, i, rc, hi, hs', hw => by
    simp only [checkSoft] at h
    have hr : checkSoft P ops ms hs (i0 + 1) l = true := by
      split at h
      · exact h
      · split at h
        · exact h
        · split at h
          · exact h
          · cases h
    cases i with
    | succ i =>
      have := checkSoft_ok hr i rc (by simpa using hi) hs' hw
      rwa [show i0 + 1 + i = i0 + (i + 1) by omega] at this
    | zero =>
      simp at hi; subst hi
      have hno : (softOp P rc0.o.op && rc0.want) = true := by simp [hs', hw]
      rw [hno] at h
      simp only at h
      rw [Nat.add_zero]
      split at h
      · rename_i hb; exact .inl (Nat.eq_of_beq_eq_true hb)
      · split at h
        · rename_i hc
          right
          intro k H h1 h2 h3
          refine checkAt_ok hs' hc (k - kMin P ops ms i0) H (by omega) ?_
          rw [dropL_eq, List.getElem?_drop, show kMin P ops ms i0 + (k - kMin P ops ms i0) = k by omega]; exact h3
        · cases h
/-- The names stay below bigId. -/
def small : List Hp → Bool
  | [] => true
  | M :: r => match Nat.ble M.next bigId with
    | true => small r
    | false => false
theorem small_ok : ∀ {l : List Hp}, small l = true → ∀ M ∈ l, M.next ≤ bigId
  | M0 :: l, h, M, hM => by
    simp only [small] at h
    split at h
    · rename_i hb
      rcases List.mem_cons.1 hM with rfl | hM
      · exact Nat.le_of_ble_eq_true hb
      · exact small_ok h M hM
    · cases h

def drawA (P : Program) : DrawF := fun call nt ops fr H =>
  match Nat.beq H.str 1 with
  | false => none
  | true => match masksL ops.toList [] with
    | none => none
    | some ms => match pairsOk P ops.toList [] ops.toList ms with
      | false => none
      | true => match pass1 P call nt ops.toList ms H.gl H.next 0 ops.toList fr { H with next := H.next + lenL ops.toList } [] with
        | none => none
        | some (l, fr', M', pend) => match small ({ H with next := H.next + lenL ops.toList } :: hardHs P l) && checkSoft P ops.toList ms ({ H with next := H.next + lenL ops.toList } :: hardHs P l) 0 l with
          | true => some (fr', addF H.next M' pend)
          | false => none
end Go.Cam
