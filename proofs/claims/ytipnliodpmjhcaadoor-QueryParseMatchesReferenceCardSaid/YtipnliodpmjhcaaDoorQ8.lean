/- attestorlaw13.QueryParseMatchesReference returns true for every input, and leaves its arguments as they were: the law's card over the row that lists the tables and errors of strconv. -/
import Derived.Test.YtipnliodpmjhcaaDoorQ5
import Derived.Test.YtipnliodpmjhcaaDoorQ7
namespace Go.Proofs.YtipnliodpmjhcaaDoor.pref
open Go.RowKit Go.Proofs.K Go.ChangeShapes Go.WideShapes Go.ChangeAt Go.Proofs.YtipnliodpmjhcaaDoor

abbrev row := Rows.queryParseMatchesReferenceRow
abbrev spec := Rows.queryParseMatchesReferenceSpec
theorem laids_here : laids = row.laid := by kernel_rfl
set_option maxRecDepth 100000 in
theorem contract (H : Type) (enc : TypeId × Value → H) (W : World) (b0 : Nat) (args : Array Value) (ds gs : List (DataW H)) (before : List MemPlace)
    (hval : ∀ (j : Nat) t v, (Tryd.f4).params[j]? = some t → args[j]? = some v → Value.okWide Tryd.prog W .any b0 t v)
    (hW : DataW.Whole enc Tryd.prog Tryd.f4.params.toList spec.vars false W args.toList ds gs before) (hL : laidMetH Tryd.prog row.laid W) :
    Calls Tryd.prog 4 args W fun e W' => ∃ v, e = .returned v ∧ spec.post enc Tryd.prog Tryd.f4 false true false false W args v W' := by
  have hT : Tabs W := tabs (by rw [laids_here]; exact hL)
  obtain ⟨p, q, hA, hV, hpq, hfz, hnd⟩ := id hW
  obtain ⟨rfl, rfl⟩ := trodVars_none hV
  rw [List.append_nil] at hpq
  have hA' := hA
  rw [Tryd.params4] at hA'
  obtain ⟨v0, vs0, d0, ds0, p0, q0, hargs, rfl, rfl, h0, r0⟩ := trodAll_cons hA'
  obtain ⟨rfl, rfl, rfl⟩ := trodAll_nil r0
  obtain rfl : args = #[v0] := by cases args; simp_all
  rw [Tryd.params4] at hval
  have ok0 : Value.okWide Tryd.prog W .any b0 9 v0 := hval 0 _ _ rfl rfl
  obtain ⟨s0, rfl⟩ := open_str ok0
  refine (lpref s0 W hT).mono fun e W' ⟨he, hE⟩ => ⟨.bool true, he, ?_⟩
  exact post_law laidOut (by kernel_rfl) hW hA rfl hpq (by kernel_rfl) Tryd.underlying4 rfl rfl rfl hE

theorem laid_met (os : Os) : laidMet Tryd.prog row.laid ((laidWorld os).forCall (fun _ _ => 0) ⟨#[], #[.string ByteArray.empty], []⟩).memory :=
  laidMet_of_run' 8 (by kernel_rfl) (by kernel_rfl)
theorem reads (os : Os) {H : Type} (enc : TypeId × Value → H) : ∃ places, DataW.whole enc Tryd.prog ((laidWorld os).forCall (fun _ _ => 0) ⟨#[], #[.string ByteArray.empty], []⟩).memory Tryd.f4.params.toList spec.vars false (#[.string ByteArray.empty] : Array Value).toList 8 = some ([.lit (.string [])], [], places) :=
  ⟨[], by kernel_rfl⟩
set_option maxRecDepth 100000 in
theorem lifted (os : Os) (started : os.Started) (H : Type) (enc : TypeId × Value → H) (F : Stop.Interp) :
    ReturnsInHanded {} Tryd.checked os 4 .any ((OpenSpec.ofChange spec).preRow enc Tryd.prog Tryd.f4 row.domain false row.laid) (((OpenSpec.ofChange spec).at F).post enc Tryd.prog Tryd.f4 false true false false) := by
  obtain ⟨places, hx⟩ := reads os enc
  refine returnsInHanded_of_row (C := Tryd.checked) (s := OpenSpec.ofChange spec) own started (by kernel_rfl) Tryd.func4
    (witness_row_at (enc := enc) (C := Tryd.checked) false (laidWorld os) #[.string ByteArray.empty] rfl (by kernel_rfl) (by kernel_rfl) (by kernel_rfl)
      (OpenSpec.preRow_of_cond 8 hx (by kernel_rfl) (fun k hk => by cases hk) (by kernel_rfl) (laid_met os))) ?_
  intro W base args ds gs before hval hW _ _ _ hL _ _
  exact contract H enc W base args ds gs before hval hW hL
theorem said : Rows.QueryParseMatchesReferenceSaid :=
  OpenClaim.holds_of_cond 4 Tryd.f4 rfl rfl rfl rfl rfl rfl rfl ⟨rfl, rfl, rfl, rfl, rfl⟩ rfl rfl rfl rfl rfl (by kernel_rfl) Tryd.func4 (by kernel_rfl)
    (of_decide_eq_true (by kernel_rfl)) (by unfold Func.isWrapper; first | (rw [if_pos (by decide +kernel)]; kernel_rfl) | (rw [if_neg (by decide +kernel)]; exact ⟨rfl, rfl⟩))
    (fun os started H enc _ F => by rw [OpenClaim.pre_eq_preRow]; exact lifted os started H enc F)
theorem plain (f : FuncId) (fn : Func) (hf : Tryd.pinned.checked.prog.funcNamed "attestor/attestorlaw13.QueryParseMatchesReference" = some f) (hfn : Tryd.pinned.checked.prog.funcs[f]? = some fn) :
    true = Tryd.pinned.checked.prog.looks [] ∧ ∀ (j : Nat) t, fn.params[j]? = some t → Tryd.pinned.checked.prog.wantsStandIn t = false := by
  obtain rfl : f = 4 := Option.some.inj ((show Tryd.prog.funcNamed "attestor/attestorlaw13.QueryParseMatchesReference" = some 4 by kernel_rfl).symm.trans hf) |>.symm
  obtain rfl : fn = Tryd.f4 := (Option.some.inj (Tryd.func4.symm.trans hfn)).symm
  refine ⟨by kernel_rfl, fun j t ht => ?_⟩
  rw [Tryd.params4] at ht
  have hm := Array.mem_of_getElem? ht
  have hall : (Tryd.f4.params.all fun t => !Tryd.prog.wantsStandIn t) = true := by kernel_rfl
  rw [Tryd.params4] at hall
  have := Array.all_eq_true_iff_forall_mem.1 hall t hm
  exact (show Tryd.prog.wantsStandIn t = false by simpa using this)
theorem card : Rows.QueryParseMatchesReferenceCardSaid :=
  Claim7.holds_tied_plain_at .later [] _ _ _ _ said (fun _ h => by cases h) (by kernel_rfl) (fun _ h => by cases h) queryParseMatchesReference_row_tie rfl ⟨rfl, rfl⟩ (by kernel_rfl) rfl plain (by kernel_rfl)
end Go.Proofs.YtipnliodpmjhcaaDoor.pref
