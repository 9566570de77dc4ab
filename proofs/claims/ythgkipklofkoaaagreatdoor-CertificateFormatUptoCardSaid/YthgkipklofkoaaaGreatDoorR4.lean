/-
  Of the texts that prove drosslaw46.CertificateFormat: for every certificate of bulk at most 1048576 the law returns true, and the argument reads as before. Condition: the listed package-level variables hold what the program lays.
-/
import Derived.Test.YthgkipklofkoaaaGreatDoorR3
open Go Go.Proofs Go.Cam Go.RowKit Go.Proofs.YthgkipklofkoaaaGreatDoor
open Go.ChangeShapes Go.WideShapes Go.ChangeAt
set_option maxRecDepth 1000000
namespace Go.Proofs.YthgkipklofkoaaaGreatDoor.Fmt
open Go.Proofs.F
theorem own : ownKnob Tryz.prog.godebug = none := by kernel_rfl
theorem resultTypes5 : Tryz.f5.resultTypes = #[4] := by kernel_rfl
/-- WHAT THE WALK GIVES, for every argument that is read. -/
theorem contract (H : Type) (enc : TypeId × Value → H) (W : World) (base : Nat) (args : Array Value) (ds gs : List (DataW H)) (before : List MemPlace)
    (hval : ∀ (j : Nat) t v, Tryz.f5.params[j]? = some t → args[j]? = some v → Value.okWide Tryz.prog W .any base t v)
    (hW : DataW.Whole enc Tryz.prog Tryz.f5.params.toList Rows.certificateFormatSpec.vars false W args.toList ds gs before) (hk : Rows.uptoSmall H (ds ++ gs) = true) (hL : laidMetH Tryz.prog Rows.certificateFormatUptoRow.laid W) :
    Calls Tryz.prog 5 args W fun e W' => ∃ v, e = .returned v ∧ Rows.certificateFormatSpec.post enc Tryz.prog Tryz.f5 false true false false W args v W' := by
  have hW' := hW
  obtain ⟨p, q, hA0, hV, rfl, hfz, hnd⟩ := hW
  have hA : DataW.TrodAll enc Tryz.prog W 0 (fun _ => true) true Tryz.f5.params.toList args.toList ds p := hA0
  rw [Tryz.params5] at hA hval
  obtain ⟨v0, d0, rfl, rfl, h0⟩ := trodAll_one hA
  obtain ⟨rfl, rfl⟩ := trodVars_none hV
  obtain ⟨cs, rfl, _⟩ := okWide_struct Tryz.underlying43 (hval 0 43 v0 rfl rfl)
  clear hA0
  simp only [List.append_nil] at hW'
  obtain ⟨c, hv, hr, hp⟩ := cert_of h0
  have hpp : c.parts ≤ 1000000000000 := by
    have := of_decide_eq_true hk
    simp only [List.append_nil, Rows.uptoBulkAll] at this
    omega
  have hL' : laidMet Tryz.prog Rows.certificateFormatUptoRow.laid W := hL
  have hg : Globals GL W := globals_of (Lib.laidMet.reads hL' (.head _)) (Lib.laidMet.reads hL' (.tail _ (.tail _ (.head _))))
  obtain ⟨H1, hd⟩ := lawF_does c GL awake_GL GL3 hr hpp
  have hvs : VRs (μF W) [.agg c.cs] #[.agg cs] := ⟨rfl, fun i h1 h2 => by
    have : i = 0 := by simpa using h1
    subst this
    exact hv⟩
  refine (Does.callsF hd W hg #[.agg cs] hvs).mono fun e W' ⟨he, hb⟩ => ?_
  subst he
  obtain ⟨fuel, hn⟩ := h0
  have hlt : ∀ x ∈ p, x.block < W.heap.size := fun x hx => hW'.lt x hx
  refine ⟨_, rfl, post_of_below (pa := p) (pv := []) hW' (fun _ _ _ => trodAll_cons_mk (shut_bool Tryz.underlying4 _) trodAll_mk0) (fun sp hsp => ?_) (fun _ _ => rfl) (by simp) hb (ok_one (by kernel_rfl) rfl (okWide_bool_mk Tryz.underlying4 _))⟩
  refine trodAll_mk1 ⟨fuel, ?_⟩
  exact DataW.trod_stays (kids_book Kbook43 rec43) (book_sized rec43) (fun h => by cases h) ⟨row43, book_self 43⟩ hn (fun x hx => sameAt_below hb (hlt x hx)) hsp
end Go.Proofs.YthgkipklofkoaaaGreatDoor.Fmt
