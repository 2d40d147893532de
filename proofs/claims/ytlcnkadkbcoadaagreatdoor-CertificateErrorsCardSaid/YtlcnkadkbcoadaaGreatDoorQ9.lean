/- attestorlaw22.CertificateErrors returns true for every input, and leaves its arguments as they were: the law's card over the row that lists ten tables; the call starts no goroutine. -/
import Derived.Test.YtlcnkadkbcoadaaGreatDoorQ5
import Derived.Test.YtlcnkadkbcoadaaGreatDoorQ8
namespace Go.Proofs.YtlcnkadkbcoadaaGreatDoor.err22
open Go.RowKit Go.Proofs.K Go.ChangeShapes Go.WideShapes Go.ChangeAt Go.Proofs.YtlcnkadkbcoadaaGreatDoor

abbrev row := Rows.certificateErrorsRow
abbrev spec := Rows.certificateErrorsSpec
theorem laids_here : laids = row.laid := by kernel_rfl
set_option maxRecDepth 100000 in
theorem contract (H : Type) (enc : TypeId × Value → H) (W : World) (b0 : Nat) (args : Array Value) (ds gs : List (DataW H)) (before : List MemPlace)
    (hval : ∀ (j : Nat) t v, (Tryz.f3).params[j]? = some t → args[j]? = some v → Value.okWide Tryz.prog W .any b0 t v)
    (hW : DataW.Whole enc Tryz.prog Tryz.f3.params.toList spec.vars false W args.toList ds gs before) (hL : laidMetH Tryz.prog row.laid W) :
    Calls Tryz.prog 3 args W fun e W' => ∃ v, e = .returned v ∧ spec.post enc Tryz.prog Tryz.f3 false true false false W args v W' := by
  have hX : Wx W := tabs (by rw [laids_here]; exact hL)
  obtain ⟨p, q, hA, hV, hpq, hfz, hnd⟩ := id hW
  obtain ⟨rfl, rfl⟩ := trodVars_none hV
  rw [List.append_nil] at hpq
  have hA' := hA
  rw [Tryz.params3] at hA'
  obtain ⟨v0, vs0, d0, ds0, p0, q0, hargs, rfl, rfl, h0, r0⟩ := trodAll_cons hA'
  obtain ⟨v1, vs1, d1, ds1, p1, q1, rfl, rfl, rfl, h1, r1⟩ := trodAll_cons r0
  obtain ⟨v2, vs2, d2, ds2, p2, q2, rfl, rfl, rfl, h2, r2⟩ := trodAll_cons r1
  obtain ⟨rfl, rfl, rfl⟩ := trodAll_nil r2
  obtain rfl : args = #[v0, v1, v2] := by cases args; simp_all
  rw [Tryz.params3] at hval
  have ok0 : Value.okWide Tryz.prog W .any b0 22 v0 := hval 0 _ _ rfl rfl
  have ok1 : Value.okWide Tryz.prog W .any b0 5 v1 := hval 1 _ _ rfl rfl
  have ok2 : Value.okWide Tryz.prog W .any b0 3 v2 := hval 2 _ _ rfl rfl
  obtain ⟨a0, n0, c0, rfl, hn0, hO0⟩ := open_ops ok0 h0
  obtain ⟨n1, rfl, hn1⟩ := open_u8 ok1 h1
  obtain ⟨n2, rfl, hn2⟩ := open_int64 ok2 h2
  refine (lerrors a0 n0 c0 hn0 n1 hn1 n2 hn2 W hO0 hX (tbsU (by rw [laids_here]; exact hL))).mono fun e W' ⟨he, hE⟩ => ⟨.bool true, he, ?_⟩
  exact post_law laidOut (by kernel_rfl) hW hA rfl hpq (by kernel_rfl) Tryz.underlying4 rfl rfl rfl hE

def wit : Array Value := #[.slice none 0 0, .int .u8 0, .int .i64 0]
theorem laid_met (os : Os) : laidMetH Tryz.prog row.laid ((z2j os).forCall (fun _ _ => 0) ⟨#[], wit, []⟩).memory :=
  laidMetH_of_parts3 (fuel := 8) (laidMet_of_run' 8 (by kernel_rfl) (by kernel_rfl)) (by kernel_rfl) (by kernel_rfl)
theorem reads (os : Os) {H : Type} (enc : TypeId × Value → H) : ∃ places, DataW.whole enc Tryz.prog ((z2j os).forCall (fun _ _ => 0) ⟨#[], wit, []⟩).memory Tryz.f3.params.toList spec.vars false wit.toList 8 = some ([.nil, .lit (.int .u8 0), .lit (.int .i64 0)], [], places) :=
  ⟨[], by kernel_rfl⟩
set_option maxRecDepth 100000 in
theorem lifted (os : Os) (started : os.Started) (H : Type) (enc : TypeId × Value → H) (F : Stop.Interp) :
    ReturnsInHanded {} Tryz.checked os 3 .any ((OpenSpec.ofChange spec).preRow enc Tryz.prog Tryz.f3 row.domain false row.laid) (((OpenSpec.ofChange spec).at F).post enc Tryz.prog Tryz.f3 false true false false) := by
  obtain ⟨places, hx⟩ := reads os enc
  refine returnsInHanded_of_row (C := Tryz.checked) (s := OpenSpec.ofChange spec) own started (by kernel_rfl) Tryz.func3
    (witness_row_at (enc := enc) (C := Tryz.checked) false (z2j os) wit rfl (by kernel_rfl) (by kernel_rfl) (by kernel_rfl)
      (OpenSpec.preRow_of_cond 8 hx (by kernel_rfl) (fun k hk => by cases hk) (by kernel_rfl) (laid_met os))) ?_
  intro W base args ds gs before hval hW _ _ _ hL _ _
  exact contract H enc W base args ds gs before hval hW hL
theorem said : Rows.CertificateErrorsSaid :=
  z4x 3 Tryz.f3 rfl rfl rfl rfl rfl rfl rfl ⟨rfl, rfl, rfl, rfl, rfl⟩ rfl rfl rfl rfl rfl (by kernel_rfl) Tryz.func3 closed
    (of_decide_eq_true (by kernel_rfl)) (by unfold Func.isWrapper; first | (rw [if_pos (by decide +kernel)]; kernel_rfl) | (rw [if_neg (by decide +kernel)]; exact ⟨rfl, rfl⟩))
    (fun os started H enc _ F => by rw [OpenClaim.pre_eq_preRow]; exact lifted os started H enc F)
theorem plain (f : FuncId) (fn : Func) (hf : Tryz.pinned.checked.prog.funcNamed "attestor/attestorlaw22.CertificateErrors" = some f) (hfn : Tryz.pinned.checked.prog.funcs[f]? = some fn) :
    true = Tryz.pinned.checked.prog.looks [] ∧ ∀ (j : Nat) t, fn.params[j]? = some t → Tryz.pinned.checked.prog.wantsStandIn t = false := by
  obtain rfl : f = 3 := Option.some.inj ((show Tryz.prog.funcNamed "attestor/attestorlaw22.CertificateErrors" = some 3 by kernel_rfl).symm.trans hf) |>.symm
  obtain rfl : fn = Tryz.f3 := (Option.some.inj (Tryz.func3.symm.trans hfn)).symm
  refine ⟨by kernel_rfl, fun j t ht => ?_⟩
  rw [Tryz.params3] at ht
  have hm := Array.mem_of_getElem? ht
  have hall : (Tryz.f3.params.all fun t => !Tryz.prog.wantsStandIn t) = true := by kernel_rfl
  rw [Tryz.params3] at hall
  have := Array.all_eq_true_iff_forall_mem.1 hall t hm
  exact (show Tryz.prog.wantsStandIn t = false by simpa using this)
theorem card : Rows.CertificateErrorsCardSaid :=
  tied_goes _ _ _ _ said (by kernel_rfl) certificateErrors_row_tie rfl ⟨rfl, rfl⟩ (by kernel_rfl) rfl plain goes
end Go.Proofs.YtlcnkadkbcoadaaGreatDoor.err22
