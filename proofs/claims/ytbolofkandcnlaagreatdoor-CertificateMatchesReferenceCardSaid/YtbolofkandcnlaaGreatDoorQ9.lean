/- attestorlaw22.CertificateMatchesReference returns true for every input, and leaves its arguments as they were: the law's card over the row that lists ten tables; the call starts no goroutine. -/
import Derived.Test.YtbolofkandcnlaaGreatDoorQ5
import Derived.Test.YtbolofkandcnlaaGreatDoorQ6
import Derived.Test.YtbolofkandcnlaaGreatDoorQ8
namespace Go.Proofs.YtbolofkandcnlaaGreatDoor.match22
open Go.RowKit Go.Proofs.K Go.ChangeShapes Go.WideShapes Go.ChangeAt Go.Proofs.YtbolofkandcnlaaGreatDoor

abbrev row := Rows.certificateMatchesReferenceRow
abbrev spec := Rows.certificateMatchesReferenceSpec
theorem laids_here : laids = row.laid := by kernel_rfl
set_option maxRecDepth 100000 in
theorem contract (H : Type) (enc : TypeId × Value → H) (W : World) (b0 : Nat) (args : Array Value) (ds gs : List (DataW H)) (before : List MemPlace)
    (hval : ∀ (j : Nat) t v, (Tryz.f3).params[j]? = some t → args[j]? = some v → Value.okWide Tryz.prog W .any b0 t v)
    (hW : DataW.Whole enc Tryz.prog Tryz.f3.params.toList spec.vars false W args.toList ds gs before) (hL : laidMetH Tryz.prog row.laid W) :
    Calls Tryz.prog 3 args W fun e W' => ∃ v, e = .returned v ∧ spec.post enc Tryz.prog Tryz.f3 false true false false W args v W' := by
  have hX : Wx W := tabs (by rw [laids_here]; exact hL)
  obtain ⟨p, q, hA, hV, hpq, hfz, hnd⟩ := id hW
  obtain ⟨rfl, rfl⟩ := trodVars_none hV
  rw [List.append_nil] at hpq
  have hA' := hA
  rw [Tryz.params3] at hA'
  obtain ⟨v0, vs0, d0, ds0, p0, q0, hargs, rfl, rfl, h0, r0⟩ := trodAll_cons hA'
  obtain ⟨v1, vs1, d1, ds1, p1, q1, rfl, rfl, rfl, h1, r1⟩ := trodAll_cons r0
  obtain ⟨rfl, rfl, rfl⟩ := trodAll_nil r1
  obtain rfl : args = #[v0, v1] := by cases args; simp_all
  rw [Tryz.params3] at hval
  have ok0 : Value.okWide Tryz.prog W .any b0 43 v0 := hval 0 _ _ rfl rfl
  have ok1 : Value.okWide Tryz.prog W .any b0 44 v1 := hval 1 _ _ rfl rfl
  obtain ⟨c0, lg0, a0, b0, d0, e0, qb0, s10, p10, p20, p30, b10, o10, o20, o30, o40, rfl, hw0, hc0, h80⟩ := open_cert h0
  obtain ⟨l1, hr1, hl1⟩ := open_bs ok1 h1
  refine (lmatch _ _ c0 lg0 a0 b0 d0 e0 qb0 s10 p10 p20 p30 b10 o10 o20 o30 o40 v1 l1 W hX (shs (by rw [laids_here]; exact hL)) hw0 hc0 h80 hr1 hl1).mono fun e W' ⟨he, hE⟩ => ⟨.bool true, he, ?_⟩
  exact post_law laidOut (by kernel_rfl) hW hA rfl hpq (by kernel_rfl) Tryz.underlying4 rfl rfl rfl hE

def wit : Array Value := #[.agg #[.string ⟨#[]⟩, .int .i64 0, .int .u8 0, .int .u8 0, .int .u8 0, .int .u8 0, .int .u8 0, .int .u8 0, .int .u8 0, .int .u8 0, .int .u8 0, .int .u8 0, .int .u8 0, .int .u8 0, .int .u8 0, .int .u8 0, .int .u8 0, .int .u8 0, .int .u8 0, .int .u8 0, .int .u8 0, .int .u8 0, .int .u8 0, .int .u8 0, .int .u8 0, .int .u8 0, .int .u8 0, .int .u8 0, .int .u8 0, .int .u8 0, .int .u8 0, .int .u8 0, .int .u8 0, .int .u8 0, .int .i64 0, .int .i64 0, .int .i64 0, .int .i64 0, .slice none 0 0, .slice none 0 0, .slice none 0 0, .slice none 0 0, .slice none 0 0, .int .u64 0, .int .u64 0, .slice none 0 0, .slice none 0 0, .slice none 0 0, .slice none 0 0], .slice none 0 0]
theorem laid_met (os : Os) : laidMetH Tryz.prog row.laid ((z1x os).forCall (fun _ _ => 0) ⟨#[], wit, []⟩).memory :=
  laidMetH_of_parts3 (fuel := 8) (laidMet_of_run' 8 (by kernel_rfl) (by kernel_rfl)) (by kernel_rfl) (by kernel_rfl)
theorem reads (os : Os) {H : Type} (enc : TypeId × Value → H) : ∃ places, DataW.whole enc Tryz.prog ((z1x os).forCall (fun _ _ => 0) ⟨#[], wit, []⟩).memory Tryz.f3.params.toList spec.vars false wit.toList 8 = some ([.agg [.lit (.string []), .lit (.int .i64 0), .agg [.lit (.int .u8 0), .lit (.int .u8 0), .lit (.int .u8 0), .lit (.int .u8 0), .lit (.int .u8 0), .lit (.int .u8 0), .lit (.int .u8 0), .lit (.int .u8 0), .lit (.int .u8 0), .lit (.int .u8 0), .lit (.int .u8 0), .lit (.int .u8 0), .lit (.int .u8 0), .lit (.int .u8 0), .lit (.int .u8 0), .lit (.int .u8 0), .lit (.int .u8 0), .lit (.int .u8 0), .lit (.int .u8 0), .lit (.int .u8 0), .lit (.int .u8 0), .lit (.int .u8 0), .lit (.int .u8 0), .lit (.int .u8 0), .lit (.int .u8 0), .lit (.int .u8 0), .lit (.int .u8 0), .lit (.int .u8 0), .lit (.int .u8 0), .lit (.int .u8 0), .lit (.int .u8 0), .lit (.int .u8 0)], .agg [.lit (.int .i64 0), .lit (.int .i64 0), .lit (.int .i64 0), .lit (.int .i64 0)], .nil, .agg [.nil, .nil, .nil], .nil, .agg [.lit (.int .u64 0), .lit (.int .u64 0)], .agg [.nil, .nil, .nil, .agg [.nil]]], .nil], [], places) :=
  ⟨[], by kernel_rfl⟩
set_option maxRecDepth 100000 in
theorem lifted (os : Os) (started : os.Started) (H : Type) (enc : TypeId × Value → H) (F : Stop.Interp) :
    ReturnsInHanded {} Tryz.checked os 3 .any ((OpenSpec.ofChange spec).preRow enc Tryz.prog Tryz.f3 row.domain false row.laid) (((OpenSpec.ofChange spec).at F).post enc Tryz.prog Tryz.f3 false true false false) := by
  obtain ⟨places, hx⟩ := reads os enc
  refine returnsInHanded_of_row (C := Tryz.checked) (s := OpenSpec.ofChange spec) own started (by kernel_rfl) Tryz.func3
    (witness_row_at (enc := enc) (C := Tryz.checked) false (z1x os) wit rfl (by kernel_rfl) (by kernel_rfl) (by kernel_rfl)
      (OpenSpec.preRow_of_cond 8 hx (by kernel_rfl) (fun k hk => by cases hk) (by kernel_rfl) (laid_met os))) ?_
  intro W base args ds gs before hval hW _ _ _ hL _ _
  exact contract H enc W base args ds gs before hval hW hL
theorem said : Rows.CertificateMatchesReferenceSaid :=
  z3u 3 Tryz.f3 rfl rfl rfl rfl rfl rfl rfl ⟨rfl, rfl, rfl, rfl, rfl⟩ rfl rfl rfl rfl rfl (by kernel_rfl) Tryz.func3 closed
    (of_decide_eq_true (by kernel_rfl)) (by unfold Func.isWrapper; first | (rw [if_pos (by decide +kernel)]; kernel_rfl) | (rw [if_neg (by decide +kernel)]; exact ⟨rfl, rfl⟩))
    (fun os started H enc _ F => by rw [OpenClaim.pre_eq_preRow]; exact lifted os started H enc F)
theorem plain (f : FuncId) (fn : Func) (hf : Tryz.pinned.checked.prog.funcNamed "attestor/attestorlaw22.CertificateMatchesReference" = some f) (hfn : Tryz.pinned.checked.prog.funcs[f]? = some fn) :
    true = Tryz.pinned.checked.prog.looks [] ∧ ∀ (j : Nat) t, fn.params[j]? = some t → Tryz.pinned.checked.prog.wantsStandIn t = false := by
  obtain rfl : f = 3 := Option.some.inj ((show Tryz.prog.funcNamed "attestor/attestorlaw22.CertificateMatchesReference" = some 3 by kernel_rfl).symm.trans hf) |>.symm
  obtain rfl : fn = Tryz.f3 := (Option.some.inj (Tryz.func3.symm.trans hfn)).symm
  refine ⟨by kernel_rfl, fun j t ht => ?_⟩
  rw [Tryz.params3] at ht
  have hm := Array.mem_of_getElem? ht
  have hall : (Tryz.f3.params.all fun t => !Tryz.prog.wantsStandIn t) = true := by kernel_rfl
  rw [Tryz.params3] at hall
  have := Array.all_eq_true_iff_forall_mem.1 hall t hm
  exact (show Tryz.prog.wantsStandIn t = false by simpa using this)
theorem card : Rows.CertificateMatchesReferenceCardSaid :=
  tied_goes _ _ _ _ said (by kernel_rfl) certificateMatchesReference_row_tie rfl ⟨rfl, rfl⟩ (by kernel_rfl) rfl plain goes
end Go.Proofs.YtbolofkandcnlaaGreatDoor.match22
