/- IG, IH, II, IJ, IK, IL, IM, IN, JA, JB, JC, JD, JE, JF, JG, JH, JI, JJ. -/
import Derived.Test.YtpohjepbmgeplaaGreatDoorQ5
/- Commitments: opening positions, weighted sums. -/
namespace Go.Proofs.YtpohjepbmgeplaaGreatDoor
open Go.RowKit Go.Proofs.K
open _root_.Fd (K E pw root trow enc ccol comb)
open _root_.Cm (Sh pws pwE)

/-- an opening position, in the machine -/
def waC (pv : Value) (rho : Nat × Nat) (iv : Value) : List Value := [pv, .int .u64 (rho.1 : Nat), .int .u64 (rho.2 : Nat), iv]
theorem waC_cell {pv iv : Value} {rho : Nat × Nat} (hp : pv.oneCell' = true) (hi : iv.oneCell' = true) : ∀ v ∈ waC pv rho iv, v.oneCell' = true := by
  intro v hv
  rcases List.mem_cons.1 hv with rfl | hv
  · exact hp
  · rcases List.mem_cons.1 hv with rfl | hv
    · rfl
    · rcases List.mem_cons.1 hv with rfl | hv
      · rfl
      · rcases List.mem_cons.1 hv with rfl | hv
        · exact hi
        · cases hv
def isE (p : Nat × Nat) : Prop := p.1 < Fd.pr ∧ p.2 < Fd.pr
/-- a valid opening position -/
structure PosOk (s : Sh) (P : List (Nat × Nat)) (rho : Nat × Nat) (I : List Int) : Prop where
  p : P.length = s.a + s.c
  i : I.length = s.t
  pv : ∀ x ∈ P, isE x
  rv : isE rho
  ix : ∀ i ∈ I, 0 ≤ i ∧ i < ((s.n : Nat) : Int)
  srt : I.Pairwise (· < ·)
/-- the condition of an element of the extension -/
theorem cond_validE (l : List (Nat × Nat)) (w : World) : CondAt Tryz.prog 77 #[] (l.map fun p => Value.agg (exC p.1 p.2).toArray) (fun i => decide ((l.getD i (0, 0)).1 < Fd.pr) && decide ((l.getD i (0, 0)).2 < Fd.pr)) w := by
  intro i x w' E hx
  rw [List.getElem?_map] at hx
  cases hp : l[i]? with
  | none => rw [hp] at hx; cases hx
  | some p =>
    rw [hp] at hx
    cases hx
    have : l.getD i (0, 0) = p := by rw [List.getD_eq_getElem?_getD, hp]; rfl
    show Calls _ _ _ _ fun e w'' => e = .returned (.bool (decide ((l.getD i (0, 0)).1 < Fd.pr) && decide ((l.getD i (0, 0)).2 < Fd.pr))) ∧ _
    rw [this]
    exact gexvalid p.1 p.2 w'
theorem allE_iff (l : List (Nat × Nat)) : decide (∀ i, i < (l.map fun p => Value.agg (exC p.1 p.2).toArray).length → (decide ((l.getD i (0, 0)).1 < Fd.pr) && decide ((l.getD i (0, 0)).2 < Fd.pr)) = true) = true ↔ ∀ x ∈ l, isE x := by
  rw [decide_eq_true_eq, List.length_map]
  constructor
  · intro h x hx
    obtain ⟨i, hi⟩ := List.mem_iff_getElem?.1 hx
    have := h i (List.getElem?_eq_some_iff.1 hi).1
    rw [List.getD_eq_getElem?_getD, hi] at this
    simpa [isE] using this
  · intro h i hi
    have := h l[i] (List.getElem_mem _)
    rw [List.getD_eq_getElem?_getD, List.getElem?_eq_getElem hi]
    simpa [isE] using this
set_option maxRecDepth 100000 in
set_option maxHeartbeats 4000000 in
theorem gpositioned (s : Sh) (hs : s.Ok) (pl ph il ih : Nat) (pv iv : Value) (P : List (Nat × Nat)) (rho : Nat × Nat) (I : List Int) (hPl : P.length ≤ 1000000) (hIl : I.length ≤ 1000000) (w : World) (hp : Row w pl ph 2 pv P.length (exs P)) (hi : Row w il ih 1 iv I.length (I.map (Value.int .i64))) :
    Calls Tryz.prog 58 #[.agg (shC (s.R : Nat) (s.C : Nat) (s.B : Nat) (s.t : Nat)).toArray, .int .i64 ((s.a + s.c : Nat) : Int), .agg (waC pv rho iv).toArray] w fun e w' => ∃ b : Bool, e = .returned (.bool b) ∧ (b = true ↔ PosOk s P rho I) ∧ Ext w w' := by
  obtain ⟨Ap, cp, rfl⟩ : ∃ A c, pv = .slice A P.length c := by
    obtain ⟨_, A, c, rfl, _⟩ := hp
    exact ⟨A, c, rfl⟩
  obtain ⟨Ai, ci, rfl⟩ : ∃ A c, iv = .slice A I.length c := by
    obtain ⟨_, A, c, rfl, _⟩ := hi
    exact ⟨A, c, rfl⟩
  have hBC : ((s.B : Nat) : Int) * ((s.C : Nat) : Int) = ((s.n : Nat) : Int) := by rw [← Int.natCast_mul, Cm.Sh.BC]
  have hn : s.n ≤ 65536 := (pow_le16 hs.cb).2
  have hac := hs.ac
  refine calls_W Tryz.func58 rfl Tryz.ntmps58 rfl ?_
  (refine W_seq ?_; refine W_region ?_)
  refine L_box rfl ?_
  intro g3 w1 B3 hg3 E1 hs1
  refine L_box rfl ?_
  intro g5 w2 B5 hg5 E2 hs2
  have C3 := B3.ext E2
  have E12 := E1.trans E2
  (refine Ls (X_assign (v := .bool _) rfl) ?_; refine L_nil ?_; refine tn ?_; refine W_seq ?_; refine W_region ?_; refine Ls (X_assign (v := .int _ _) rfl) ?_; refine L_nil ?_; refine tn ?_; refine W_seq ?_; refine W_seq ?_; refine W_region ?_; refine Ls (X_fld rfl) ?_; refine Ls (X_ld (cs := waC (.slice Ap P.length cp) rho (.slice Ai I.length ci)) rfl B5 rfl) ?_; refine Ls (X_lenSlice rfl) ?_; refine Ls (X_move (v := .int _ _) rfl) ?_; refine L_nil ?_; refine tn ?_; refine W_block ?_)
  refine W_loop (fun q f w' => ∃ (i : Nat) (z : Int), q = I.length - i ∧ i ≤ I.length ∧ f 1 = .int .i64 ((s.a + s.c : Nat) : Int) ∧ f 3 = .pointer (some ⟨g3, 0, none⟩) ∧ f 5 = .pointer (some ⟨g5, 0, none⟩) ∧ f 7 = .int .i64 z ∧ f 11 = .slice Ai I.length ci ∧ f 12 = .int .i64 (I.length : Nat) ∧ f 13 = .int .i64 (i : Nat) ∧ w' = w2 ∧
    ((i = 0 ∧ z = -1) ∨ ∃ j, i = j + 1 ∧ I[j]? = some z) ∧ (I.take i).Pairwise (· < ·) ∧ (∀ x ∈ I.take i, 0 ≤ x ∧ x < ((s.n : Nat) : Int)) ∧ (∀ x ∈ I.take i, x ≤ z) ∧ -1 ≤ z) I.length ?_ ?_
  · exact ⟨0, -1, rfl, by omega, rfl, rfl, rfl, rfl, rfl, rfl, rfl, rfl, .inl ⟨rfl, rfl⟩, by simp, by simp, by simp, by omega⟩
  · rintro q f wr ⟨i, z, hq, hil, f1, f3, f5, f7, f11, f12, f13, rfl, hz, hpw, hrg, hle, hz1⟩
    rw [fold f1, fold f3, fold f5, fold f7, fold f11, fold f12, fold f13]
    (refine W_seq ?_; refine W_region ?_; refine Ls (X_lss rfl rfl) ?_; refine L_nil ?_; refine tn ?_; refine W_seq ?_)
    refine W_condp rfl (fun h => ?_) (fun h => ?_)
    · have hlt : i < I.length := by omega
      obtain ⟨x, hx⟩ : ∃ x, I[i]? = some x := ⟨_, List.getElem?_eq_getElem hlt⟩
      have hxm := List.mem_of_getElem? hx
      obtain ⟨b, o, c', e, _, _, _, hR⟩ := (hi.ext E12).at hlt
      cases e
      have hxv : (I.map (Value.int .i64))[i]? = some (.int .i64 x) := by rw [List.getElem?_map, hx]; rfl
      by_cases h1 : x ≤ z
      · (refine W_skip ?_; refine tn ?_; refine W_seq ?_; refine W_block ?_; refine W_seq ?_; refine W_region ?_; refine Ls (X_indexSn rfl rfl (by omega)) ?_; refine Ls (X_ldR rfl hR (j := i) (by omega) hxv) ?_; refine Ls (X_assign (v := .int _ _) rfl) ?_; refine L_nil ?_; refine tn ?_; refine W_seq ?_; refine W_seq ?_; refine W_region ?_; refine Ls (X_move (v := .int _ _) rfl) ?_; refine Ls (X_move (v := .int _ _) rfl) ?_; refine Ls (X_leqT rfl rfl (by omega)) ?_; refine Ls (X_move (v := .bool _) rfl) ?_; refine Lo2 rfl rfl rfl rfl ?_; refine Lo2 rfl rfl rfl rfl ?_; refine Lo2 rfl rfl rfl rfl ?_; refine Lo2 rfl rfl rfl rfl ?_; refine Lo2 rfl rfl rfl rfl ?_; refine Lo2 rfl rfl rfl rfl ?_; refine Lo2 rfl rfl rfl rfl ?_; refine Ls (X_pickT (v := .bool _) rfl rfl) ?_; refine L_nil ?_; refine tn ?_; refine W_condT rfl ?_; refine W_seq ?_; refine W_region ?_; refine Ls (X_assign (v := .bool _) rfl) ?_; refine L_nil ?_; refine tn ?_; refine W_ret ?_; refine tr ?_; refine br ?_; refine tr ?_; refine tr ?_; refine br ?_; refine tr ?_)
        refine endQ_ret1 rfl rfl (v := .bool _) rfl ⟨false, rfl, ⟨(fun h => by cases h), fun hP => ?_⟩, E12⟩
        rcases hz with ⟨_, rfl⟩ | ⟨j, rfl, hj⟩
        · have := (hP.ix x hxm).1; omega
        · have := List.pairwise_iff_getElem.1 hP.srt j (j + 1) (List.getElem?_eq_some_iff.1 hj).1 hlt (by omega)
          rw [List.getElem?_eq_getElem hlt] at hx
          obtain ⟨h2, h3⟩ := List.getElem?_eq_some_iff.1 hj
          rw [h3, Option.some.inj hx] at this
          omega
      · by_cases h2 : ((s.n : Nat) : Int) ≤ x
        · (refine W_skip ?_; refine tn ?_; refine W_seq ?_; refine W_block ?_; refine W_seq ?_; refine W_region ?_; refine Ls (X_indexSn rfl rfl (by omega)) ?_; refine Ls (X_ldR rfl hR (j := i) (by omega) hxv) ?_; refine Ls (X_assign (v := .int _ _) rfl) ?_; refine L_nil ?_; refine tn ?_; refine W_seq ?_; refine W_seq ?_; refine W_region ?_; refine Ls (X_move (v := .int _ _) rfl) ?_; refine Ls (X_move (v := .int _ _) rfl) ?_; refine Ls (X_leqF rfl rfl (by omega)) ?_; refine Ls (X_move (v := .bool _) rfl) ?_; refine Lg2 rfl rfl rfl (X_move (v := .int _ _) rfl) ?_; refine Lg2 rfl rfl rfl (X_fld rfl) ?_; refine Lg2 rfl rfl rfl (X_ld (cs := shC (s.R : Nat) (s.C : Nat) (s.B : Nat) (s.t : Nat)) rfl C3 rfl) ?_; refine Lg2 rfl rfl rfl (X_fld rfl) ?_; refine Lg2 rfl rfl rfl (X_ld (cs := shC (s.R : Nat) (s.C : Nat) (s.B : Nat) (s.t : Nat)) rfl C3 rfl) ?_; refine Lg2 rfl rfl rfl ((X_muli rfl rfl ⟨by omega, by omega⟩).trans (by rw [hBC])) ?_; refine Lg2 rfl rfl rfl (X_geqT rfl rfl (by omega)) ?_; refine Ls (X_pickF (v := .bool _) rfl rfl) ?_; refine L_nil ?_; refine tn ?_; refine W_condT rfl ?_; refine W_seq ?_; refine W_region ?_; refine Ls (X_assign (v := .bool _) rfl) ?_; refine L_nil ?_; refine tn ?_; refine W_ret ?_; refine tr ?_; refine br ?_; refine tr ?_; refine tr ?_; refine br ?_; refine tr ?_)
          exact endQ_ret1 rfl rfl (v := .bool _) rfl ⟨false, rfl, ⟨(fun h => by cases h), fun h => by have := (h.ix x hxm).2; omega⟩, E12⟩
        · (refine W_skip ?_; refine tn ?_; refine W_seq ?_; refine W_block ?_; refine W_seq ?_; refine W_region ?_; refine Ls (X_indexSn rfl rfl (by omega)) ?_; refine Ls (X_ldR rfl hR (j := i) (by omega) hxv) ?_; refine Ls (X_assign (v := .int _ _) rfl) ?_; refine L_nil ?_; refine tn ?_; refine W_seq ?_; refine W_seq ?_; refine W_region ?_; refine Ls (X_move (v := .int _ _) rfl) ?_; refine Ls (X_move (v := .int _ _) rfl) ?_; refine Ls (X_leqF rfl rfl (by omega)) ?_; refine Ls (X_move (v := .bool _) rfl) ?_; refine Lg2 rfl rfl rfl (X_move (v := .int _ _) rfl) ?_; refine Lg2 rfl rfl rfl (X_fld rfl) ?_; refine Lg2 rfl rfl rfl (X_ld (cs := shC (s.R : Nat) (s.C : Nat) (s.B : Nat) (s.t : Nat)) rfl C3 rfl) ?_; refine Lg2 rfl rfl rfl (X_fld rfl) ?_; refine Lg2 rfl rfl rfl (X_ld (cs := shC (s.R : Nat) (s.C : Nat) (s.B : Nat) (s.t : Nat)) rfl C3 rfl) ?_; refine Lg2 rfl rfl rfl ((X_muli rfl rfl ⟨by omega, by omega⟩).trans (by rw [hBC])) ?_; refine Lg2 rfl rfl rfl (X_geqF rfl rfl (by omega)) ?_; refine Ls (X_pickF (v := .bool _) rfl rfl) ?_; refine L_nil ?_; refine tn ?_; refine W_condF rfl ?_; refine W_skip ?_; refine tn ?_; refine W_region ?_; refine Ls (X_move (v := .int _ _) rfl) ?_; refine Ls (X_assign (v := .int _ _) rfl) ?_; refine L_nil ?_; refine bn ?_; refine tn ?_; refine W_region ?_; refine Ls (X_addi rfl rfl (by omega)) ?_; refine Ls (X_move (v := .int _ _) rfl) ?_; refine L_nil ?_; refine tn ?_)
          have ht : I.take (i + 1) = I.take i ++ [x] := by rw [List.take_add_one, hx]; rfl
          refine ⟨I.length - (i + 1), by omega, i + 1, x, rfl, by omega, rfl, rfl, rfl, rfl, rfl, rfl, rfl, rfl, .inr ⟨i, rfl, hx⟩, ?_, fun y hy => ?_, fun y hy => ?_, by omega⟩
          · rw [ht, List.pairwise_append]
            refine ⟨hpw, by simp, fun a ha b hb => ?_⟩
            rw [List.mem_singleton.1 hb]
            have := hle a ha
            omega
          · rw [ht] at hy
            rcases List.mem_append.1 hy with hy | hy
            · exact hrg y hy
            · rw [List.mem_singleton.1 hy]
              omega
          · rw [ht] at hy
            rcases List.mem_append.1 hy with hy | hy
            · have := hle y hy; omega
            · rw [List.mem_singleton.1 hy]; omega
    · have hil' : i = I.length := by omega
      rw [hil', List.take_length] at hpw hrg
      by_cases h3 : I.length = s.t
      · by_cases h4 : P.length = s.a + s.c
        · (refine W_exit ?_; refine te ?_; refine te ?_; refine bx ?_; refine tn ?_; refine W_seq ?_; refine W_region ?_; refine Ls (X_fld rfl) ?_; refine Ls (X_ld (cs := waC (.slice Ap P.length cp) rho (.slice Ai I.length ci)) rfl B5 rfl) ?_; refine Ls (X_lenSlice rfl) ?_; refine Ls (X_fld rfl) ?_; refine Ls (X_ld (cs := shC (s.R : Nat) (s.C : Nat) (s.B : Nat) (s.t : Nat)) rfl C3 rfl) ?_; refine Ls (X_eqlT rfl rfl (by omega)) ?_; refine Ls (X_move (v := .bool _) rfl) ?_; refine Lg2 rfl rfl rfl (X_fld rfl) ?_; refine Lg2 rfl rfl rfl (X_ld (cs := waC (.slice Ap P.length cp) rho (.slice Ai I.length ci)) rfl B5 rfl) ?_; refine Lg2 rfl rfl rfl (X_lenSlice rfl) ?_; refine Lg2 rfl rfl rfl (X_move (v := .int _ _) rfl) ?_; refine Lg2 rfl rfl rfl (X_eqlT rfl rfl (by omega)) ?_; refine Ls (X_pickT (v := .bool _) rfl rfl) ?_; refine Ls (X_move (v := .bool _) rfl) ?_; refine Lg2 rfl rfl rfl (X_fld rfl) ?_; refine Lg2 rfl rfl rfl (X_ld (cs := waC (.slice Ap P.length cp) rho (.slice Ai I.length ci)) rfl B5 rfl) ?_)
          refine L_strip rfl rfl rfl ?_
          refine L_fv rfl (gval_e pl ph _ P (P.map fun p => Value.agg (exC p.1 p.2).toArray) rfl (by rw [List.length_map]; omega) wr ((hp.ext E12).re (by rw [List.length_map]) rfl) (fun i => decide ((P.getD i (0, 0)).1 < Fd.pr) && decide ((P.getD i (0, 0)).2 < Fd.pr)) 77 #[] (cond_validE P wr)) ?_
          intro w3 E3
          have hall := allE_iff P
          have C5 := B5.ext E3
          by_cases h5 : ∀ x ∈ P, isE x
          · rw [hall.2 h5]
            (refine Ls (X_pickT (v := .bool _) rfl rfl) ?_; refine Ls (X_move (v := .bool _) rfl) ?_; refine Lg2 rfl rfl rfl (X_fld rfl) ?_; refine Lg2 rfl rfl rfl (X_ldA (size := 2) (l := exC rho.1 rho.2) rfl C5 rfl rfl) ?_)
            refine L_strip rfl rfl rfl ?_
            refine L_fv rfl (gexvalid rho.1 rho.2 w3) ?_
            intro w4 E4
            (refine Ls (X_pickT (v := .bool _) rfl rfl) ?_; refine Ls (X_assign (v := .bool _) rfl) ?_; refine L_nil ?_; refine tn ?_; refine W_ret ?_)
            refine endQ_ret1 rfl rfl (v := .bool _) rfl ⟨_, rfl, ⟨fun h => ?_, fun h => ?_⟩, E12.trans (E3.trans E4)⟩
            · exact ⟨h4, h3, h5, by simpa [isE] using h, hrg, hpw⟩
            · have := h.rv
              simpa [isE] using this
          · have hf : decide (∀ i, i < (P.map fun p => Value.agg (exC p.1 p.2).toArray).length → (decide ((P.getD i (0, 0)).1 < Fd.pr) && decide ((P.getD i (0, 0)).2 < Fd.pr)) = true) = false := by
              cases hb : decide (∀ i, i < (P.map fun p => Value.agg (exC p.1 p.2).toArray).length → (decide ((P.getD i (0, 0)).1 < Fd.pr) && decide ((P.getD i (0, 0)).2 < Fd.pr)) = true) with
              | false => rfl
              | true => exact (h5 (hall.1 hb)).elim
            rw [hf]
            (refine Ls (X_pickT (v := .bool _) rfl rfl) ?_; refine Ls (X_move (v := .bool _) rfl) ?_; refine Lo2 rfl rfl rfl rfl ?_; refine Lo2 rfl rfl rfl rfl ?_; refine Lo2 rfl rfl rfl rfl ?_; refine Ls (X_pickF (v := .bool _) rfl rfl) ?_; refine Ls (X_assign (v := .bool _) rfl) ?_; refine L_nil ?_; refine tn ?_; refine W_ret ?_)
            exact endQ_ret1 rfl rfl (v := .bool _) rfl ⟨false, rfl, ⟨(fun h => by cases h), fun h => (h5 h.pv).elim⟩, E12.trans E3⟩
        · (refine W_exit ?_; refine te ?_; refine te ?_; refine bx ?_; refine tn ?_; refine W_seq ?_; refine W_region ?_; refine Ls (X_fld rfl) ?_; refine Ls (X_ld (cs := waC (.slice Ap P.length cp) rho (.slice Ai I.length ci)) rfl B5 rfl) ?_; refine Ls (X_lenSlice rfl) ?_; refine Ls (X_fld rfl) ?_; refine Ls (X_ld (cs := shC (s.R : Nat) (s.C : Nat) (s.B : Nat) (s.t : Nat)) rfl C3 rfl) ?_; refine Ls (X_eqlT rfl rfl (by omega)) ?_; refine Ls (X_move (v := .bool _) rfl) ?_; refine Lg2 rfl rfl rfl (X_fld rfl) ?_; refine Lg2 rfl rfl rfl (X_ld (cs := waC (.slice Ap P.length cp) rho (.slice Ai I.length ci)) rfl B5 rfl) ?_; refine Lg2 rfl rfl rfl (X_lenSlice rfl) ?_; refine Lg2 rfl rfl rfl (X_move (v := .int _ _) rfl) ?_; refine Lg2 rfl rfl rfl (X_eqlF rfl rfl (by omega)) ?_; refine Ls (X_pickT (v := .bool _) rfl rfl) ?_; refine Ls (X_move (v := .bool _) rfl) ?_; refine Lo2 rfl rfl rfl rfl ?_; refine Lo2 rfl rfl rfl rfl ?_; refine Lo2 rfl rfl rfl rfl ?_; refine Ls (X_pickF (v := .bool _) rfl rfl) ?_; refine Ls (X_move (v := .bool _) rfl) ?_; refine Lo2 rfl rfl rfl rfl ?_; refine Lo2 rfl rfl rfl rfl ?_; refine Lo2 rfl rfl rfl rfl ?_; refine Ls (X_pickF (v := .bool _) rfl rfl) ?_; refine Ls (X_assign (v := .bool _) rfl) ?_; refine L_nil ?_; refine tn ?_; refine W_ret ?_)
          exact endQ_ret1 rfl rfl (v := .bool _) rfl ⟨false, rfl, ⟨(fun h => by cases h), fun h => (h4 h.p).elim⟩, E12⟩
      · (refine W_exit ?_; refine te ?_; refine te ?_; refine bx ?_; refine tn ?_; refine W_seq ?_; refine W_region ?_; refine Ls (X_fld rfl) ?_; refine Ls (X_ld (cs := waC (.slice Ap P.length cp) rho (.slice Ai I.length ci)) rfl B5 rfl) ?_; refine Ls (X_lenSlice rfl) ?_; refine Ls (X_fld rfl) ?_; refine Ls (X_ld (cs := shC (s.R : Nat) (s.C : Nat) (s.B : Nat) (s.t : Nat)) rfl C3 rfl) ?_; refine Ls (X_eqlF rfl rfl (by omega)) ?_; refine Ls (X_move (v := .bool _) rfl) ?_; refine Lo2 rfl rfl rfl rfl ?_; refine Lo2 rfl rfl rfl rfl ?_; refine Lo2 rfl rfl rfl rfl ?_; refine Lo2 rfl rfl rfl rfl ?_; refine Lo2 rfl rfl rfl rfl ?_; refine Ls (X_pickF (v := .bool _) rfl rfl) ?_; refine Ls (X_move (v := .bool _) rfl) ?_; refine Lo2 rfl rfl rfl rfl ?_; refine Lo2 rfl rfl rfl rfl ?_; refine Lo2 rfl rfl rfl rfl ?_; refine Ls (X_pickF (v := .bool _) rfl rfl) ?_; refine Ls (X_move (v := .bool _) rfl) ?_; refine Lo2 rfl rfl rfl rfl ?_; refine Lo2 rfl rfl rfl rfl ?_; refine Lo2 rfl rfl rfl rfl ?_; refine Ls (X_pickF (v := .bool _) rfl rfl) ?_; refine Ls (X_assign (v := .bool _) rfl) ?_; refine L_nil ?_; refine tn ?_; refine W_ret ?_)
        exact endQ_ret1 rfl rfl (v := .bool _) rfl ⟨false, rfl, ⟨(fun h => by cases h), fun h => (h3 h.i).elim⟩, E12⟩
end Go.Proofs.YtpohjepbmgeplaaGreatDoor

/- Commitments: weighted sums, weights. -/
namespace Go.Proofs.YtpohjepbmgeplaaGreatDoor
open Go.RowKit Go.Proofs.K
open _root_.Fd (K E pw root trow enc ccol comb)
open _root_.Cm (Sh pws pwE)

theorem vals_getD {l : List K} {i : Nat} {x : K} (h : l[i]? = some x) : l.getD i 0 = x := by rw [List.getD_eq_getElem?_getD, h]; rfl
set_option maxRecDepth 100000 in
set_option maxHeartbeats 4000000 in
theorem gsumw (al ah bl bh : Nat) (u v : Value) (ws : List E) (l : List K) (hwl : l.length ≤ ws.length) (hl6 : ws.length ≤ 1000000) (w : World) (hu : Row w al ah 2 u ws.length (exs (raw ws))) (hv : Row w bl bh 1 v l.length (ints .u64 (vals l))) :
    Calls Tryz.prog 62 #[.agg mixC.toArray, u, v] w fun e w' => e = .returned (.agg (xc (comb ws l)).toArray) ∧ Ext w w' := by
  obtain ⟨Au, cu, rfl⟩ : ∃ A c, u = .slice A ws.length c := by
    obtain ⟨_, A, c, rfl, _⟩ := hu
    exact ⟨A, c, rfl⟩
  obtain ⟨Av, cv, rfl⟩ : ∃ A c, v = .slice A l.length c := by
    obtain ⟨_, A, c, rfl, _⟩ := hv
    exact ⟨A, c, rfl⟩
  refine calls_W Tryz.func62 rfl Tryz.ntmps62 rfl ?_
  (refine W_seq ?_; refine W_region ?_)
  refine L_box rfl ?_
  intro g3 w1 B3 hg3 E1 hs1
  refine L_alloc ?_
  intro g6 w2 B6 hg6 E2 hs2
  (refine L_nil ?_; refine tn ?_; refine W_seq ?_; refine W_region ?_)
  refine L_alloc ?_
  intro g7 w3 B7 hg7 E3 hs3
  have C3 := B3.ext (E2.trans E3)
  have C6 := B6.ext E3
  have E13 := E1.trans (E2.trans E3)
  have hn36 : g3 ≠ g7 := by have := (E2.trans E3).size; have := E2.size; omega
  have hn67 : g6 ≠ g7 := by have := E3.size; omega
  (refine L_nil ?_; refine tn ?_; refine W_seq ?_; refine W_seq ?_; refine W_region ?_; refine Ls (X_move (v := .slice _ _ _) rfl) ?_; refine Ls (X_lenSlice rfl) ?_; refine Ls (X_move (v := .int _ _) rfl) ?_; refine L_nil ?_; refine tn ?_; refine W_block ?_)
  refine W_loop (fun q f w' => ∃ i, q = l.length - i ∧ i ≤ l.length ∧ f 1 = .slice Au ws.length cu ∧ f 3 = .pointer (some ⟨g3, 0, none⟩) ∧ f 6 = .pointer (some ⟨g6, 0, none⟩) ∧ f 7 = .pointer (some ⟨g7, 0, none⟩) ∧ f 10 = .slice Av l.length cv ∧ f 11 = .int .i64 (l.length : Nat) ∧ f 12 = .int .i64 (i : Nat) ∧ Blk w' g3 112 mixC ∧ Blk w' g6 31 (exC 0 0) ∧ Blk w' g7 31 (xc (Fd.es i fun j => ws.getD j 0 * E.of (l.getD j 0))) ∧ Ext w w') l.length ?_ ?_
  · exact ⟨0, rfl, by omega, rfl, rfl, rfl, rfl, rfl, rfl, rfl, C3, C6, B7, E13⟩
  · rintro q f wr ⟨i, hq, hi, f1, f3, f6, f7, f10, f11, f12, D3, D6, D7, hE⟩
    rw [fold f1, fold f3, fold f6, fold f7, fold f10, fold f11, fold f12]
    (refine W_seq ?_; refine W_region ?_; refine Ls (X_lss rfl rfl) ?_; refine L_nil ?_; refine tn ?_; refine W_seq ?_)
    refine W_condp rfl (fun h => ?_) (fun h => ?_)
    · have hlt : i < l.length := by omega
      obtain ⟨x, hx⟩ : ∃ x, l[i]? = some x := ⟨_, List.getElem?_eq_getElem hlt⟩
      obtain ⟨y, hy⟩ : ∃ y, ws[i]? = some y := ⟨_, List.getElem?_eq_getElem (by omega)⟩
      obtain ⟨b1, o1, c1, e1, _, _, _, hRv⟩ := hv.at hlt
      cases e1
      have hu' := hu
      rw [← raw_len ws] at hu'
      obtain ⟨b2, o2, e2, _, _, _, _, _, hRu⟩ := ex_at hu' (raw_get hy)
      cases e2
      obtain ⟨acc, hacc⟩ : ∃ acc, acc = Fd.es i fun j => ws.getD j 0 * E.of (l.getD j 0) := ⟨_, rfl⟩
      rw [← hacc] at D7
      have hstep : acc + y * E.of x = Fd.es (i + 1) fun j => ws.getD j 0 * E.of (l.getD j 0) := by
        show _ = Fd.es i _ + ws.getD i 0 * E.of (l.getD i 0)
        rw [← hacc, vals_getD hx, List.getD_eq_getElem?_getD, hy]; rfl
      (refine W_skip ?_; refine tn ?_; refine W_seq ?_; refine W_block ?_; refine W_seq ?_; refine W_region ?_; refine Ls (X_move (v := .int _ _) rfl) ?_; refine Ls (X_indexSn rfl rfl (by omega)) ?_; refine Ls (X_ldR rfl (hE.range hRv) (j := i) (by omega) (ints_at (vals_at hx))) ?_; refine Ls (X_assign (v := .int _ _) rfl) ?_; refine Ls (X_assign (v := .int _ _) rfl) ?_; refine L_nil ?_; refine tn ?_)
      apply W_dagE 11 (by kernel_rfl)
      (apply DW_x (fun r w hA hH => (X_fld rfl).trans rfl); apply DW_x (fun r w hA hH => (X_ld (cs := mixC) rfl (D3.ext hA) rfl).trans rfl); apply DW_x (fun r w hA hH => (X_ldW rfl (D7.ext hA) rfl).trans rfl); apply DW_x (fun r w hA hH => (X_fld rfl).trans rfl); apply DW_x (fun r w hA hH => (X_ld (cs := mixC) rfl (D3.ext hA) rfl).trans rfl); apply DW_x (fun r w hA hH => (X_move (v := .int _ _) rfl).trans rfl); apply DW_x (fun r w hA hH => (X_move (v := .slice _ _ _) rfl).trans rfl); apply DW_x (fun r w hA hH => (X_move (v := .int _ _) rfl).trans rfl); apply DW_x (fun r w hA hH => (X_indexSn rfl rfl (by omega)).trans rfl); apply DW_x (fun r w hA hH => (X_loadA (size := 2) (cs := xc y) rfl ((hE.trans hA).range hRu) rfl).trans rfl))
      apply DW_fc (first := #[]) (cap := #[]) (vl := fun _ => [kv x, .agg (xc y).toArray]) (fun _ => rfl) (fun _ => rfl) (fun r w hA hH => gmixed y x w)
      ((with_reducible exact D_end); (exact rfl); (repeat (first | exact .inr (.inr (fun _ _ => by with_reducible rfl)) | (refine And.intro ?_ ?_) | exact .inr (.inl rfl) | exact .inl (by decide +kernel) | exact trivial | exact .inr (.inr (fun _ _ => rfl)))); (try dsimp only [Nat.reduceAdd]))
      intro r w4 E4 _
      refine L_clo (vl := [.agg (xc acc).toArray, .agg (xc (y * E.of x)).toArray]) rfl (gexadd acc (y * E.of x) w4) rfl (fun e w5 hq => ⟨_, hq.1, ?_⟩)
      have E5 := hq.2
      have E45 := E4.trans E5
      refine L_storeW (l := xc (acc + y * E.of x)) rfl rfl rfl exC_cell (D7.ext E45) rfl ?_
      intro w6 D7' hg6' hs6
      (refine L_nil ?_; refine bn ?_; refine tn ?_; refine W_region ?_; refine Ls (X_addi rfl rfl (by omega)) ?_; refine Ls (X_move (v := .int _ _) rfl) ?_; refine L_nil ?_; refine tn ?_)
      refine ⟨l.length - (i + 1), by omega, i + 1, rfl, by omega, rfl, rfl, rfl, rfl, rfl, rfl, rfl, (D3.ext E45).grown hg6' (by simp; omega), (D6.ext E45).grown hg6' (by simp; omega), by rw [← hstep]; exact D7', (hE.trans E45).then hg6' (fun g h => by cases h; have := (E1.trans E2).size; omega)⟩
    · have hil : i = l.length := by omega
      rw [hil] at D7
      (refine W_exit ?_; refine te ?_; refine te ?_; refine bx ?_; refine tn ?_; refine W_seq ?_; refine W_region ?_; refine Ls (X_ldW rfl D7 rfl) ?_)
      refine L_storeW (l := xc (comb ws l)) rfl rfl rfl exC_cell D6 rfl ?_
      intro w6 D6' hg6' hs6
      (refine L_nil ?_; refine tn ?_; refine W_ret ?_)
      refine endQ_res rfl rfl (Res.cellA inferInstance rfl (D6'.range (fun j u h => by simpa using h)) rfl .nil) ?_
      exact ⟨rfl, hE.then hg6' (fun g h => by cases h; have := E1.size; omega)⟩
theorem pws_len (x : E) (n : Nat) : (pws x n).length = n := by unfold pws; simp
theorem raw_drop {w : World} {lo hi m c : Nat} {A : Option Addr} {P : List E} (h : Row w lo hi 2 (.slice A m c) m (exs (raw P))) (hl : P.length = m) {i : Nat} (hi' : i ≤ m) :
    Row w lo hi 2 (.slice (if c = i then A else A.map (·.add (i * 2))) (m - i) (c - i)) (P.drop i).length (exs (raw (P.drop i))) := by
  have := h.slice (i := i) (j := m) rfl hi' (Nat.le_refl _)
  have e : ((exs (raw P)).drop (i * 2)).take ((m - i) * 2) = exs (raw (P.drop i)) := by
    have h1 : raw P = raw (P.take i) ++ raw (P.drop i) := by unfold raw; rw [← List.map_append, List.take_append_drop]
    have h2 : (exs (raw (P.take i))).length = i * 2 := by rw [exs_len, raw_len, List.length_take]; omega
    rw [h1, exs_app, ← h2, List.drop_left, List.take_of_length_le (by rw [exs_len, raw_len, List.length_drop]; omega)]
  rw [e] at this
  rw [List.length_drop, hl]
  exact this
theorem Run_ex {P : Program} {n : NN} {o : Oper} {f : Fr} {w : World} {K Φ : Value → World → Prop} (h : ∃ v w', X P n o f w = .ok (.value v) w' ∧ Φ v w') (hk : ∀ v w', Φ v w' → K v w') : Run P n o f w K := by
  obtain ⟨v, w', h1, h2⟩ := h
  exact Run_val h1 (hk v w' h2)
/-- the state of a region that makes a row and a variable of the same type, in whatever order -/
structure WJ (w2 : World) (g2 g3 R : Nat) (L : Nat → Bool) (f : Fr) (w : World) : Prop where
  e : Ext w2 w
  f2 : f 2 = .pointer (some ⟨g2, 0, none⟩)
  f3 : f 3 = .pointer (some ⟨g3, 0, none⟩)
  o0 : L 0 = true → f 9 = .pointer (some ⟨g2, 0 + 0, none⟩)
  o1 : L 1 = true → f 10 = .int .i64 (R : Nat)
  o2 : L 2 = true → ∃ k, f 11 = .slice (some ⟨k, 0, none⟩) R R ∧ w2.heap.size ≤ k ∧ k < w.heap.size ∧ Blk w k 31 (List.replicate R [Value.int .u64 0, .int .u64 0]).flatten ∧ (L 4 = true → ∀ q, f 7 = .pointer (some ⟨q, 0, none⟩) → q ≠ k)
  o3 : L 3 = true → f 12 = .agg (xc 1).toArray
  o4 : L 4 = true → ∃ q, f 7 = .pointer (some ⟨q, 0, none⟩) ∧ w2.heap.size ≤ q ∧ q < w.heap.size ∧ Blk w q 31 (if L 6 = true then xc 1 else exC 0 0)
  o5 : L 5 = true → f 6 = f 11
  d5 : L 5 = true → L 2 = true
  d6 : L 6 = true → L 4 = true
theorem WJ.step {w2 : World} {g2 g3 R : Nat} {L L' : Nat → Bool} {f f' : Fr} {w w' : World} (h : WJ w2 g2 g3 R L f w) (E : Ext w w')
    (h2 : f' 2 = f 2) (h3 : f' 3 = f 3) (o0 : L' 0 = true → L 0 = true ∧ f' 9 = f 9 ∨ f' 9 = .pointer (some ⟨g2, 0 + 0, none⟩)) (o1 : L' 1 = true → L 1 = true ∧ f' 10 = f 10 ∨ f' 10 = .int .i64 (R : Nat))
    (o3 : L' 3 = true → L 3 = true ∧ f' 12 = f 12 ∨ f' 12 = .agg (xc 1).toArray) (o2 : L' 2 = true → L 2 = true ∧ f' 11 = f 11) (o4 : L' 4 = L 4 ∧ f' 7 = f 7) (o6 : L' 6 = L 6) (o5 : L' 5 = true → L 5 = true ∧ f' 6 = f 6 ∧ f' 11 = f 11 ∨ f' 6 = f' 11) (d5 : L' 5 = true → L' 2 = true) : WJ w2 g2 g3 R L' f' w' := by
  refine ⟨h.e.trans E, h2.trans h.f2, h3.trans h.f3, fun q => ?_, fun q => ?_, fun q => ?_, fun q => ?_, fun q => ?_, fun q => ?_, d5, fun q => o4.1.symm ▸ h.d6 (o6 ▸ q)⟩
  · rcases o0 q with ⟨a, b⟩ | b
    · exact b.trans (h.o0 a)
    · exact b
  · rcases o1 q with ⟨a, b⟩ | b
    · exact b.trans (h.o1 a)
    · exact b
  · obtain ⟨a, b⟩ := o2 q
    obtain ⟨k, h1, h2, h3, h4, h5⟩ := h.o2 a
    have := E.size
    exact ⟨k, b.trans h1, h2, by omega, h4.ext E, fun r x hx => h5 (o4.1 ▸ r) x (o4.2 ▸ hx)⟩
  · rcases o3 q with ⟨a, b⟩ | b
    · exact b.trans (h.o3 a)
    · exact b
  · obtain ⟨k, h1, h2, h3, h4⟩ := h.o4 (o4.1 ▸ q)
    have := E.size
    exact ⟨k, o4.2.trans h1, h2, by omega, by rw [o6]; exact h4.ext E⟩
  · rcases o5 q with ⟨a, b, c⟩ | b
    · rw [b, c]; exact h.o5 a
    · exact b
set_option maxRecDepth 100000 in
set_option maxHeartbeats 4000000 in
theorem gcweights (s : Sh) (hs : s.Ok) (pl ph : Nat) (pv iv : Value) (hiv : iv.oneCell' = true) (P : List E) (rho : E) (hP : P.length = s.a + s.c) (w : World) (hw : Tb w) (hp : Row w pl ph 2 pv P.length (exs (raw P))) :
    Calls Tryz.prog 60 #[.agg (shC (s.R : Nat) (s.C : Nat) (s.B : Nat) (s.t : Nat)).toArray, .agg (waC pv (rho.a.val, rho.b.val) iv).toArray] w fun e w' => ∃ q1 q2, e = .returned (.tuple #[q1, q2]) ∧ Ext w w' ∧ w'.ownsRow w.heap.size 31 2 q1 s.R (exs (raw (Fd.eqT (P.drop s.c)))) ∧ w'.ownsRow w.heap.size 31 2 q2 s.R (exs (raw (pws rho s.R))) := by
  obtain ⟨Ap, cp, rfl, hcp⟩ : ∃ A c, pv = .slice A P.length c ∧ P.length ≤ c := by
    obtain ⟨_, A, c, rfl, h, _⟩ := hp
    exact ⟨A, c, rfl, h⟩
  have hac := hs.ac
  have hR16 : s.R ≤ 65536 := (pow_le16 (a := s.a) (by omega)).2
  have hR1 : 1 ≤ s.R := Nat.pow_pos (by decide)
  have hC16 : s.C ≤ 65536 := (pow_le16 (a := s.c) (by omega)).2
  have hlc : lgI ((s.C : Nat) : Int) = s.c := lgI_pow s.c
  refine calls_W Tryz.func60 rfl Tryz.ntmps60 rfl ?_
  (refine W_seq ?_; refine W_region ?_)
  refine L_box rfl ?_
  intro g2 w1 B2 hg2 E1 hs1
  refine L_box rfl ?_
  intro g3 w2 B3 hg3 E2 hs2
  have C2 := B2.ext E2
  have E12 := E1.trans E2
  (refine Ls (X_assign (v := .slice _ _ _) rfl) ?_; refine Ls (X_assign (v := .slice _ _ _) rfl) ?_; refine L_nil ?_; refine tn ?_; refine W_seq ?_)
  refine W_draw (WJ w2 g2 g3 s.R) (by kernel_rfl) ⟨Ext.drew w2, rfl, rfl, (fun h => by simp at h), (fun h => by simp at h), (fun h => by simp at h), (fun h => by simp at h), (fun h => by simp at h), (fun h => by simp at h), (fun h => by simp at h), (fun h => by simp at h)⟩ ?_ ?_
  · intro i o ho L f w hL hdep hJ
    have hsz := hJ.e.size
    have hg2l := C2.lt
    have hwn : ∀ {o : Oper} {ops : Array Oper} {K : Prop}, o.guard = none → wants ⟨35, [], none⟩ ops f o = false → K := fun hg h => by rw [wants_none hg] at h; cases h
    match i, ho with
    | 0, ho =>
      obtain rfl := Option.some.inj ho
      refine ⟨fun _ => Run_val ((X_fld (show ev ⟨35, [], none⟩ f (.tmp 2) = _ from hJ.f2)).trans rfl) ?_, hwn rfl⟩
      exact hJ.step (Ext.refl _) rfl rfl (fun _ => .inr rfl) (fun h => .inl ⟨h, rfl⟩) (fun h => .inl ⟨h, rfl⟩) (fun h => ⟨h, rfl⟩) ⟨rfl, rfl⟩ rfl (fun h => .inl ⟨h, rfl, rfl⟩) hJ.d5
    | 1, ho =>
      obtain rfl := Option.some.inj ho
      have h0 := hJ.o0 (hdep ⟨0, .data⟩ (by simp) rfl)
      refine ⟨fun _ => Run_val (X_ld (cs := shC (s.R : Nat) (s.C : Nat) (s.B : Nat) (s.t : Nat)) (show ev ⟨35, [], none⟩ f (.tmp 9) = _ from h0) (C2.ext hJ.e) rfl) ?_, hwn rfl⟩
      exact hJ.step (Ext.refl _) rfl rfl (fun h => .inl ⟨h, rfl⟩) (fun _ => .inr rfl) (fun h => .inl ⟨h, rfl⟩) (fun h => ⟨h, rfl⟩) ⟨rfl, rfl⟩ rfl (fun h => .inl ⟨h, rfl, rfl⟩) hJ.d5
    | 2, ho =>
      obtain rfl := Option.some.inj ho
      have h1 := hJ.o1 (hdep ⟨1, .data⟩ (by simp) rfl)
      refine ⟨fun _ => Run_ex (X_makeD (w0 := w) s.R s.R (show ev ⟨35, [], none⟩ f (.tmp 10) = _ from h1) (show ev ⟨35, [], none⟩ f (.tmp 10) = _ from h1) rfl rfl (Nat.le_refl _) (by omega) (by omega) (Nat.le_refl _)) ?_, hwn rfl⟩
      rintro v w' ⟨E, k, rfl, hk, hBk⟩
      refine ⟨hJ.e.trans E, hJ.f2, hJ.f3, hJ.o0, hJ.o1, fun _ => ⟨k, rfl, by omega, hBk.lt, hBk, fun h4 q hq => ?_⟩, hJ.o3, fun h4 => ?_, fun h5 => ?_, fun _ => rfl, hJ.d6⟩
      · obtain ⟨q', h1, _, h3, _⟩ := hJ.o4 h4
        have : f 7 = .pointer (some ⟨q, 0, none⟩) := hq
        rw [h1] at this
        cases this
        omega
      · obtain ⟨q', h1, h2, h3, h4⟩ := hJ.o4 h4
        exact ⟨q', h1, h2, by have := E.size; omega, h4.ext E⟩
      · exact absurd (hJ.d5 h5) (by rw [hL]; simp)
    | 3, ho =>
      obtain rfl := Option.some.inj ho
      refine ⟨fun _ => Run_call (X_fn (vl := [kv 1]) rfl) (gbase 1 w) fun e w' ⟨he, E⟩ => ⟨_, he, ?_⟩, hwn rfl⟩
      exact hJ.step E rfl rfl (fun h => .inl ⟨h, rfl⟩) (fun h => .inl ⟨h, rfl⟩) (fun _ => .inr rfl) (fun h => ⟨h, rfl⟩) ⟨rfl, rfl⟩ rfl (fun h => .inl ⟨h, rfl, rfl⟩) hJ.d5
    | 4, ho =>
      obtain rfl := Option.some.inj ho
      have hL6 : ¬ L 6 = true := fun h => by have := hJ.d6 h; rw [hL] at this; cases this
      refine ⟨fun _ => Run_ex (alloc_new (w0 := w) (z' := exC 0 0) (Nat.le_refl _)) ?_, hwn rfl⟩
      rintro v w' ⟨E, q, rfl, hq, hBq⟩
      refine ⟨hJ.e.trans E, hJ.f2, hJ.f3, hJ.o0, hJ.o1, fun h2 => ?_, hJ.o3, fun h4 => ⟨q, rfl, by omega, hBq.lt, ?_⟩, hJ.o5, hJ.d5, fun _ => rfl⟩
      · obtain ⟨k, h1, h2', h3, h4, _⟩ := hJ.o2 h2
        refine ⟨k, h1, h2', by have := E.size; omega, h4.ext E, fun _ x hx => ?_⟩
        have : (Value.pointer (some ⟨q, 0, none⟩)) = .pointer (some ⟨x, 0, none⟩) := hx
        cases this
        omega
      · show Blk w' q _ (if L 6 = true then xc 1 else exC 0 0)
        rw [if_neg hL6]; exact hBq
    | 5, ho =>
      obtain rfl := Option.some.inj ho
      refine ⟨fun _ => Run_val (X_assign (v := f 11) rfl) ?_, hwn rfl⟩
      exact hJ.step (Ext.refl _) rfl rfl (fun h => .inl ⟨h, rfl⟩) (fun h => .inl ⟨h, rfl⟩) (fun h => .inl ⟨h, rfl⟩) (fun h => ⟨h, rfl⟩) ⟨rfl, rfl⟩ rfl (fun _ => .inr rfl) (fun _ => hdep ⟨2, .data⟩ (by simp) rfl)
    | 6, ho =>
      obtain rfl := Option.some.inj ho
      have hd : ∀ j, j ≤ 5 → L j = true := fun j hj => by
        match j, hj with
        | 0, _ => exact hdep ⟨0, .phase⟩ (by simp) rfl
        | 1, _ => exact hdep ⟨1, .phase⟩ (by simp) rfl
        | 2, _ => exact hdep ⟨2, .phase⟩ (by simp) rfl
        | 3, _ => exact hdep ⟨3, .phase⟩ (by simp) rfl
        | 4, _ => exact hdep ⟨4, .phase⟩ (by simp) rfl
        | 5, _ => exact hdep ⟨5, .phase⟩ (by simp) rfl
      obtain ⟨q, h1, h2, h3, h4⟩ := hJ.o4 (hd 4 (by omega))
      rw [hL, if_neg (by simp)] at h4
      obtain ⟨k, k1, k2, k3, k4, k5⟩ := hJ.o2 (hd 2 (by omega))
      have hqk := k5 (hd 4 (by omega)) q h1
      have hX := fun t pos af => X_storeA (P := Tryz.prog) (n := ⟨35, [], none⟩) (f := f) (w := w) (d := none) (t := t) (ty := 31) (pos := pos) (af := af) (g := none) (size := 2) (x := .tmp 7) (y := .tmp 12) (show ev ⟨35, [], none⟩ f (.tmp 7) = _ from h1) (show ev ⟨35, [], none⟩ f (.tmp 12) = _ from hJ.o3 (hd 3 (by omega))) rfl exC_cell h4 (by decide)
      have hE := grown_setRow w q ((exC 0 0).take 0 ++ xc 1 ++ (exC 0 0).drop (0 + 2)).toArray
      refine ⟨fun _ => Run_skip (hX _ _ _) ⟨hJ.e.then hE (fun g h => by cases h; omega), hJ.f2, hJ.f3, hJ.o0, hJ.o1, fun _ => ⟨k, k1, k2, by have := hE.size; omega, k4.grown hE (by simp; omega), fun _ x hx => k5 (hd 4 (by omega)) x hx⟩, hJ.o3, fun _ => ⟨q, h1, h2, by have := hE.size; omega, ?_⟩, hJ.o5, hJ.d5, fun _ => hd 4 (by omega)⟩, hwn rfl⟩
      show Blk _ q _ (if (true : Bool) = true then xc 1 else exC 0 0)
      rw [if_pos rfl]
      exact h4.setRow _
    | i + 7, ho => simp at ho
  · intro L f w3 hall hJ
    have hall : ∀ i, i < 7 → L i = true := fun i hi => hall i hi
    obtain ⟨k, k1, k2, k3, k4, k5⟩ := hJ.o2 (hall 2 (by omega))
    obtain ⟨q, q1, q2, q3, q4⟩ := hJ.o4 (hall 4 (by omega))
    rw [if_pos (hall 6 (by omega))] at q4
    have hqk := k5 (hall 4 (by omega)) q q1
    have f6 : f 6 = .slice (some ⟨k, 0, none⟩) s.R s.R := (hJ.o5 (hall 5 (by omega))).trans k1
    have E3 := hJ.e
    have f2 := hJ.f2
    have f3 := hJ.f3
    clear k5 hJ
    have hz2 := E12.size
    have hz3 := E3.size
    have ok3 : w3.ownsRow w.heap.size 31 2 (.slice (some ⟨k, 0, none⟩) s.R s.R) s.R (exs (raw (tabE s.R fun j => if j < 0 then pwE rho j else 0))) := by
      rw [tabE_zero] at k4
      have e : tabE s.R (fun j => if j < 0 then pwE rho j else 0) = tabE s.R fun _ => 0 := tabE_congr fun j _ => by rw [if_neg (by omega)]
      rw [e]
      exact own_of_blk k4 (by omega) (Nat.le_refl _) (by unfold maxLen; omega) (by rw [exs_len, raw_len, tabE_len]) (by rw [List.take_of_length_le (by rw [exs_len, raw_len, tabE_len]; exact Nat.le_refl _)])
    rw [fold f2, fold f3, fold f6, fold q1]
    (refine tn ?_; refine W_seq ?_; refine W_seq ?_; refine W_region ?_; refine Ls (X_move (v := .slice _ _ _) rfl) ?_; refine Ls (X_lenSlice rfl) ?_; refine Ls (X_move (v := .int _ _) rfl) ?_; refine L_nil ?_; refine tn ?_; refine W_block ?_)
    refine W_loop (fun z f w' => ∃ i, z = s.R - i ∧ i ≤ s.R ∧ f 2 = .pointer (some ⟨g2, 0, none⟩) ∧ f 3 = .pointer (some ⟨g3, 0, none⟩) ∧ f 6 = .slice (some ⟨k, 0, none⟩) s.R s.R ∧ f 7 = .pointer (some ⟨q, 0, none⟩) ∧ f 14 = .int .i64 (s.R : Nat) ∧ f 15 = .int .i64 (i : Nat) ∧ Ext w2 w' ∧ Blk w' q 31 (xc (pwE rho i)) ∧ w'.ownsRow w.heap.size 31 2 (.slice (some ⟨k, 0, none⟩) s.R s.R) s.R (exs (raw (tabE s.R fun j => if j < i then pwE rho j else 0)))) s.R ?_ ?_
    · exact ⟨0, rfl, by omega, rfl, rfl, rfl, rfl, rfl, rfl, E3, q4, ok3⟩
    · rintro z f wr ⟨i, hz, hi, f2, f3, f6, f7, f14, f15, hE, D7, o6⟩
      rw [fold f2, fold f3, fold f6, fold f7, fold f14, fold f15]
      have hEs := hE.size
      (refine W_seq ?_; refine W_region ?_; refine Ls (X_lss rfl rfl) ?_; refine L_nil ?_; refine tn ?_; refine W_seq ?_)
      refine W_condp rfl (fun h => ?_) (fun h => ?_)
      · have hlt : i < s.R := by omega
        have D3 := B3.ext hE
        (refine W_skip ?_; refine tn ?_; refine W_seq ?_; refine W_block ?_; refine W_seq ?_; refine W_region ?_; refine Ls (X_move (v := .int _ _) rfl) ?_; refine Ls (X_assign (v := .int _ _) rfl) ?_; refine L_nil ?_; refine tn ?_)
        apply W_dagE 7 (by kernel_rfl)
        (apply DW_x (fun r w hA hH => (X_move (v := .slice _ _ _) rfl).trans rfl); apply DW_x (fun r w hA hH => (X_move (v := .int _ _) rfl).trans rfl); apply DW_x (fun r w hA hH => (X_ldW rfl (D7.ext hA) rfl).trans rfl); apply DW_x (fun r w hA hH => (X_ldW rfl (D7.ext hA) rfl).trans rfl); apply DW_x (fun r w hA hH => (X_fld rfl).trans rfl); apply DW_x (fun r w hA hH => (X_ldA (size := 2) (l := xc rho) rfl (D3.ext hA) rfl rfl).trans rfl))
        ((with_reducible apply DW_fn); (exact fun _ => rfl); (exact fun _ => rfl); (exact fun r w hA hH => gexmul (pwE rho i) rho w))
        ((with_reducible exact D_end); (exact rfl); (repeat (first | exact .inr (.inr (fun _ _ => by with_reducible rfl)) | (refine And.intro ?_ ?_) | exact .inr (.inl rfl) | exact .inl (by decide +kernel) | exact trivial | exact .inr (.inr (fun _ _ => rfl)))); (try dsimp only [Nat.reduceAdd]))
        intro r w4 E4 _
        (refine Ls (X_indexSn rfl rfl (by omega)) ?_)
        refine L_storeRow (i := i) (l := xc (pwE rho i)) (own_ext o6 E4) rfl rfl (by omega) rfl exC_cell hlt ?_
        intro w5 o5 hg5 hs5
        refine L_storeW (l := xc (pwE rho i * rho)) rfl rfl rfl exC_cell ((D7.ext E4).grown hg5 (by simp; omega)) rfl ?_
        intro w6 D7' hg6 hs6
        (refine L_nil ?_; refine bn ?_; refine tn ?_; refine W_region ?_; refine Ls (X_addi rfl rfl (by omega)) ?_; refine Ls (X_move (v := .int _ _) rfl) ?_; refine L_nil ?_; refine tn ?_)
        have o6' := own_other o5 hg6 (fun g hg e => by
          obtain rfl : k = g := Option.some.inj hg
          exact hqk (Option.some.inj e))
        refine ⟨s.R - (i + 1), by omega, i + 1, rfl, by omega, rfl, rfl, rfl, rfl, rfl, rfl, ((hE.trans E4).then hg5 (fun g h => by cases h; omega)).then hg6 (fun g h => by cases h; omega), D7', ?_⟩
        rw [tabE_cells _ _ _ hlt] at o6'
        rw [show tabE s.R (fun j => if j < i + 1 then pwE rho j else 0) = tabE s.R fun j => if j = i then pwE rho i else if j < i then pwE rho j else 0 from tabE_congr fun j _ => by
          by_cases e1 : j = i
          · rw [if_pos (by omega), if_pos e1, e1]
          · rw [if_neg e1]
            by_cases e2 : j < i
            · rw [if_pos e2, if_pos (by omega)]
            · rw [if_neg e2, if_neg (by omega)]]
        exact o6'
      · have hiR : i = s.R := by omega
        rw [hiR] at o6
        have E0 := E12.trans hE
        have D3 := B3.ext hE
        have D2 := C2.ext hE
        obtain ⟨x, hx⟩ : ∃ x : Value, x = .slice (if cp = s.c then Ap else Ap.map (·.add (s.c * 2))) (P.length - s.c) (cp - s.c) := ⟨_, rfl⟩
        have hrx := fun y (E : Ext w y) => raw_drop (hp.ext E) rfl (i := s.c) (by omega)
        rw [← hx] at hrx
        have hx1 : x.oneCell' = true := by rw [hx]; rfl
        (refine W_exit ?_; refine te ?_; refine te ?_; refine bx ?_; refine tn ?_; refine W_seq ?_)
        apply W_dagE 9 (by kernel_rfl)
        (apply DW_x (fun r w hA hH => (X_fld rfl).trans rfl); apply DW_x (fun r w hA hH => (X_ld (cs := waC (.slice Ap P.length cp) (rho.a.val, rho.b.val) iv) rfl (D3.ext hA) rfl).trans rfl); apply DW_x (fun r w hA hH => (X_fld rfl).trans rfl); apply DW_x (fun r w hA hH => (X_ld (cs := shC (s.R : Nat) (s.C : Nat) (s.B : Nat) (s.t : Nat)) rfl (D2.ext hA) rfl).trans rfl))
        ((with_reducible apply DW_fn); (exact fun _ => rfl); (exact fun _ => rfl); (exact fun r w hA hH => gcpow ((s.C : Nat) : Int) (by omega) (by omega) w))
        rw [hlc]
        ((with_reducible apply DW_x); (exact fun r w hA hH => ((X_slice (size := 2) (i := s.c) (j := P.length) rfl (by exact ⟨_, rfl⟩) (by exact rfl) (by omega) hcp).trans (by rw [← hx])).trans rfl))
        ((with_reducible apply DW_fo); (exact fun _ => rfl); (exact fun _ => rfl); (exact fun r w hA hH => calls_own hA (geqt pl ph x (P.drop s.c) (by rw [List.length_drop]; omega) w ((hw.ext E0).ext hA) (hrx w (E0.trans hA)))); (exact fun _ _ _ _ _ _ E h => OwnF.ext E h))
        (apply DW_x (fun r w hA hH => (X_move (v := .slice _ _ _) rfl).trans rfl))
        ((with_reducible apply DW_x); (exact fun r w hA hH => (X_assign (v := r 6) rfl).trans rfl))
        ((with_reducible exact D_end); (exact rfl); (repeat (first | exact .inr (.inr (fun _ _ => by with_reducible rfl)) | (refine And.intro ?_ ?_) | exact .inr (.inl rfl) | exact .inl (by decide +kernel) | exact trivial | exact .inr (.inr (fun _ _ => rfl)))); (try dsimp only [Nat.reduceAdd]))
        intro r w4 E4 H4
        obtain ⟨bq, hbq, oq⟩ : OwnF wr 31 2 (r 6) (2 ^ (P.drop s.c).length) (exs (raw (Fd.eqT (P.drop s.c)))) w4 := H4 6
        (refine Ls (X_assign (v := .slice _ _ _) rfl) ?_; refine L_nil ?_; refine tn ?_; refine W_ret ?_)
        refine endQ_ret2 rfl rfl (v := r 6) (x := .slice _ _ _) rfl rfl ⟨r 6, _, rfl, E0.trans E4, ?_, ?_⟩
        · rw [List.length_drop, hP, show s.a + s.c - s.c = s.a by omega] at oq
          exact own_base oq (by have := E0.size; omega)
        · have e : pws rho s.R = tabE s.R fun j => if j < s.R then pwE rho j else 0 := by
            show tabE s.R (pwE rho) = _
            exact tabE_congr fun j hj => by rw [if_pos hj]
          rw [e]
          exact own_ext o6 E4
end Go.Proofs.YtpohjepbmgeplaaGreatDoor

/- Commitments: openings. -/
namespace Go.Proofs.YtpohjepbmgeplaaGreatDoor
open Go.RowKit Go.Proofs.K
open _root_.Fd (K E pw root trow tcol enc ccol comb combR)
open _root_.Cm (Sh pws pwE rowH rndH colsH pathH lv)

/-- an opening, in the machine -/
def pxC (rv nv cv pv : Value) : List Value := [rv, nv, cv, pv]
theorem pxC_cell {rv nv cv pv : Value} (h1 : rv.oneCell' = true) (h2 : nv.oneCell' = true) (h3 : cv.oneCell' = true) (h4 : pv.oneCell' = true) : ∀ v ∈ pxC rv nv cv pv, v.oneCell' = true := by
  intro v hv
  rcases List.mem_cons.1 hv with rfl | hv
  · exact h1
  · rcases List.mem_cons.1 hv with rfl | hv
    · exact h2
    · rcases List.mem_cons.1 hv with rfl | hv
      · exact h3
      · rcases List.mem_cons.1 hv with rfl | hv
        · exact h4
        · cases hv
def toE (p : Nat × Nat) : E := ⟨Fd.k p.1, Fd.k p.2⟩
theorem raw_toE {P : List (Nat × Nat)} (h : ∀ x ∈ P, isE x) : raw (P.map toE) = P := by
  unfold raw
  rw [List.map_map]
  conv => rhs; rw [← List.map_id P]
  refine List.map_congr_left fun x hx => ?_
  obtain ⟨h1, h2⟩ := h x hx
  exact Prod.ext (Fd.k_of h1) (Fd.k_of h2)
theorem toE_val {p : Nat × Nat} (h : isE p) : ((toE p).a.val, (toE p).b.val) = p := Prod.ext (Fd.k_of h.1) (Fd.k_of h.2)
def toI (I : List Int) : List Nat := I.map Int.toNat
theorem toI_len (I : List Int) : (toI I).length = I.length := by unfold toI; simp
theorem toI_ints {I : List Int} (h : ∀ i ∈ I, 0 ≤ i) : I.map (Value.int .i64) = ints .i64 (toI I) := by
  unfold ints toI
  rw [List.map_map]
  refine List.map_congr_left fun i hi => ?_
  have := h i hi
  show Value.int .i64 i = .int .i64 ((i.toNat : Nat) : Int)
  rw [Int.toNat_of_nonneg this]
theorem toI_srt {I : List Int} (h : ∀ i ∈ I, 0 ≤ i) (hp : I.Pairwise (· < ·)) : (toI I).Pairwise (· < ·) := by
  unfold toI
  rw [List.pairwise_map]
  refine hp.imp_of_mem fun {a b} ha hb hab => ?_
  have := h a ha
  have := h b hb
  omega
theorem toI_lt {I : List Int} {n : Nat} (h : ∀ i ∈ I, 0 ≤ i ∧ i < (n : Int)) : ∀ i ∈ toI I, i < n := by
  intro i hi
  obtain ⟨x, hx, rfl⟩ := List.mem_map.1 hi
  have := h x hx
  omega
/-- the bytes of a column of the field -/
def by8 (l : List K) : List Nat := encB (vals l)
/-- the rows of a table, as numbers -/
def rowsM (t : List K) (s : Sh) : List (List Nat) := (List.range s.R).map fun r => vals (trow t s.C r)
theorem rowsM_len (t : List K) (s : Sh) : (rowsM t s).length = s.R := by unfold rowsM; simp
theorem colM_rows (t : List K) (s : Sh) {j : Nat} (h : j < s.C) : colM (rowsM t s) j = vals (tcol t s.R s.C j) := by
  unfold colM rowsM tcol vals
  rw [List.map_map, List.map_map]
  refine List.map_congr_left fun r hr => ?_
  show (((trow t s.C r).map fun x => x.val).getD j 0) = _
  unfold Fd.trow
  rw [List.map_map, Fd.rng_getD _ _ h]; rfl
theorem colM_cws (t : List K) (s : Sh) {j : Nat} (h : j < s.n) : colM (cws t s) j = vals (ccol t s.R s.C s.m j) := by
  unfold colM cws ccol vals
  rw [List.map_map, List.map_map]
  refine List.map_congr_left fun r hr => ?_
  show (((enc (trow t s.C r) (s.c + s.b)).map fun x => x.val).getD j 0) = _
  unfold Fd.enc
  have h' : j < 2 ^ (s.c + s.b) := h
  rw [List.map_map, Fd.rng_getD _ _ h']; rfl
theorem leaves_lv (t : List K) (s : Sh) : ((List.range s.n).map fun j => encB (colM (cws t s) j)) = lv by8 t s := by
  unfold Cm.lv
  refine List.map_congr_left fun j hj => ?_
  rw [colM_cws t s (List.mem_range.1 hj)]; rfl
theorem cws_row (t : List K) (s : Sh) : ∀ r ∈ cws t s, r.length = s.n := by
  intro r hr
  obtain ⟨x, _, rfl⟩ := List.mem_map.1 hr
  rw [vals_len, Fd.enc_len]; rfl
theorem rowsM_row (t : List K) (s : Sh) : ∀ r ∈ rowsM t s, r.length = s.C := by
  intro r hr
  obtain ⟨x, _, rfl⟩ := List.mem_map.1 hr
  rw [vals_len, Fd.trow_len]
theorem lv_ok (t : List K) (s : Sh) (hR : s.R ≤ 65536) : ∀ b ∈ lv by8 t s, Sha.bytesOk b ∧ b.length ≤ 100000000 := by
  intro b hb
  obtain ⟨j, _, rfl⟩ := List.mem_map.1 hb
  refine ⟨encB_ok _, ?_⟩
  show (encB (vals _)).length ≤ _
  rw [encB_len, vals_len, Fd.ccol_len]; omega
set_option maxRecDepth 100000 in
set_option maxHeartbeats 4000000 in
theorem gcroot (lo hi : Nat) (v : Value) (t : List K) (ht : t.length ≤ 1000000) (R C B T : Int) (hR : I64 R) (hC : I64 C) (hB : I64 B) (hT : I64 T) (w : World) (hw : Tb w) (hr : Row w lo hi 1 v t.length (ints .u64 (vals t))) :
    Calls Tryz.prog 14 #[v, .agg (shC R C B T).toArray] w fun e w' => Ext w w' ∧ ((∃ s : Sh, s.Ok ∧ R = ((s.R : Nat) : Int) ∧ C = ((s.C : Nat) : Int) ∧ B = ((s.B : Nat) : Int) ∧ T = ((s.t : Nat) : Int) ∧ lgI (t.length : Nat) = ((s.a + s.c : Nat) : Int) ∧ e = .returned (.tuple #[.agg (ints .u8 (Cm.rt lf nd by8 t s)).toArray, .int .i64 0])) ∨ (¬ SOk R C B T (lgI (t.length : Nat)) ∧ e = .returned (.tuple #[.agg (ints .u8 (List.replicate 32 0)).toArray, .int .i64 1]))) := by
  have hv1 := row_cell1 hr
  refine calls_W Tryz.func14 rfl Tryz.ntmps14 rfl ?_
  (refine W_seq ?_; refine W_region ?_)
  refine L_box rfl ?_
  intro g3 w1 B3 hg3 E1 hs1
  refine L_alloc ?_
  intro g4 w2 B4 hg4 E2 hs2
  have C3 := B3.ext E2
  have E12 := E1.trans E2
  (refine Ls (X_assign (v := .int _ _) rfl) ?_; refine L_nil ?_; refine tn ?_; refine W_seq ?_; refine W_region ?_; refine Ls (X_move (v := v) rfl) ?_; refine Ls (X_ldW (cs := shC R C B T) rfl C3 rfl) ?_)
  refine L_fo (F := fun u w' => Ext w2 w' ∧ ((∃ s : Sh, s.Ok ∧ R = ((s.R : Nat) : Int) ∧ C = ((s.C : Nat) : Int) ∧ B = ((s.B : Nat) : Int) ∧ T = ((s.t : Nat) : Int) ∧ lgI (t.length : Nat) = ((s.a + s.c : Nat) : Int) ∧ t.length = s.R * s.C ∧ ∃ q, u = .tuple #[q, .int .i64 0] ∧ PartN (fun k => w2.heap.size ≤ k ∧ k < w'.heap.size) w' .u64 q (cws t s)) ∨ (¬ SOk R C B T (lgI (t.length : Nat)) ∧ u = .tuple #[.slice none 0 0, .int .i64 1]))) rfl ((gcodewords lo hi v t ht R C B T hR hC hB hT w2 (hw.ext E12) (hr.ext E12)).mono fun e w' ⟨h1, h2⟩ => by
    rcases h2 with ⟨s, q1, q2, q3, q4, q5, q6, q7, q, h3, h4⟩ | ⟨h2, h3⟩
    · exact ⟨_, h3, h1, .inl ⟨s, q1, q2, q3, q4, q5, q6, q7, q, rfl, h4⟩⟩
    · exact ⟨_, h3, h1, .inr ⟨h2, rfl⟩⟩) ?_
  rintro _ w3 ⟨E3, ⟨s, hs, hsR, hsC, hsB, hsT, hlog, hn, q, rfl, hq⟩ | ⟨hno, rfl⟩⟩
  · have hR16 : s.R ≤ 65536 := (pow_le16 (a := s.a) (by have := hs.ac; omega)).2
    have hR1 : 1 ≤ s.R := Nat.pow_pos (by decide)
    have hn16 : s.n ≤ 65536 := (pow_le16 hs.cb).2
    have hn1 : 1 ≤ s.n := Nat.pow_pos (by decide)
    obtain ⟨Aq, cq, rfl, _⟩ := hq.form
    have D4 := B4.ext E3
    (refine Ls (X_move (v := .tuple _) rfl) ?_; refine Ls (X_extract rfl rfl) ?_; refine Ls (X_extract rfl rfl) ?_; refine Ls (X_assign (v := .slice _ _ _) rfl) ?_; refine Ls (X_assign (v := .int _ _) rfl) ?_; refine L_nil ?_; refine tn ?_; refine W_seq ?_; refine W_seq ?_; refine W_region ?_; refine Ls (X_move (v := .int _ _) rfl) ?_; refine Ls (X_neq rfl rfl) ?_; refine L_nil ?_; refine tn ?_)
    refine W_condF rfl ?_
    (refine W_skip ?_; refine tn ?_; refine W_seq ?_; refine W_region ?_; refine Ls (X_move (v := .slice _ _ _) rfl) ?_)
    refine L_fo rfl (gleaves _ _ (cws t s) s.n (cws_row t s) (by rw [cws_len]; exact hR1) (by rw [cws_len]; exact hR16) hn16 w3 hq) ?_
    rintro q4 w4 ⟨E4, P4⟩
    rw [leaves_lv] at P4
    obtain ⟨A4, c4, rfl, _⟩ := P4.form
    skip
    refine L_fv rfl (gmroot _ _ (lv by8 t s) (by rw [Cm.lv_len]; exact hn1) (by rw [Cm.lv_len]; exact hn16) (lv_ok t s hR16) w4 (hw.ext (E12.trans (E3.trans E4))) P4) ?_
    intro w5 E5
    have hroot : (Mk.root lf nd (lv by8 t s)).length = 32 := (tree_len _ (hash_ok _) (by rw [List.length_map, Cm.lv_len]; exact hn1)).1
    (refine Ls (X_extract rfl rfl) ?_; refine Ls (X_extract rfl rfl) ?_)
    refine L_storeW (size := 32) (l := ints .u8 (Mk.root lf nd (lv by8 t s))) rfl rfl (by rw [ints_len]; exact hroot) ints_cell (D4.ext (E4.trans E5)) rfl ?_
    intro w8 B8 hg8 _
    (refine Ls (X_assign (v := .int _ _) rfl) ?_; refine L_nil ?_; refine tn ?_; refine W_ret ?_)
    refine endQ_res rfl rfl (Res.cellA inferInstance rfl (B8.range (fun j u h => by simpa using h)) (by rw [ints_len]; exact hroot) (Res.tmp rfl .nil)) ?_
    exact ⟨(E12.trans (E3.trans (E4.trans E5))).then hg8 (fun g h => by cases h; have := E1.size; omega), .inl ⟨s, hs, hsR, hsC, hsB, hsT, hlog, rfl⟩⟩
  · (refine Ls (X_move (v := .tuple _) rfl) ?_; refine Ls (X_extract rfl rfl) ?_; refine Ls (X_extract rfl rfl) ?_; refine Ls (X_assign (v := .slice _ _ _) rfl) ?_; refine Ls (X_assign (v := .int _ _) rfl) ?_; refine L_nil ?_; refine tn ?_; refine W_seq ?_; refine W_seq ?_; refine W_region ?_; refine Ls (X_move (v := .int _ _) rfl) ?_; refine Ls (X_neq rfl rfl) ?_; refine L_nil ?_; refine tn ?_)
    refine W_condT rfl ?_
    (refine W_seq ?_; refine W_region ?_)
    refine Ls (X_arrZero (len := 32) (z := [.int .u8 0])) ?_
    (refine Ls (X_move (v := .int _ _) rfl) ?_)
    refine L_storeW (size := 32) (l := ints .u8 (List.replicate 32 0)) rfl rfl rfl ints_cell (B4.ext E3) rfl ?_
    intro w8 B8 hg8 _
    (refine Ls (X_assign (v := .int _ _) rfl) ?_; refine L_nil ?_; refine tn ?_; refine W_ret ?_; refine tr ?_)
    refine endQ_res rfl rfl (Res.cellA inferInstance rfl (B8.range (fun j u h => by simpa using h)) rfl (Res.tmp rfl .nil)) ?_
    exact ⟨(E12.trans E3).then hg8 (fun g h => by cases h; have := E1.size; omega), .inr ⟨hno, rfl⟩⟩
end Go.Proofs.YtpohjepbmgeplaaGreatDoor

/- Commitments: openings, the program's. -/
namespace Go.Proofs.YtpohjepbmgeplaaGreatDoor
open Go.RowKit Go.Proofs.K
open _root_.Fd (K E pw root trow tcol enc ccol comb combR)
open _root_.Cm (Sh pws pwE rowH rndH colsH pathH lv)

theorem sh_inj {s s' : Sh} (h1 : ((s.R : Nat) : Int) = ((s'.R : Nat) : Int)) (h2 : ((s.C : Nat) : Int) = ((s'.C : Nat) : Int)) (h3 : ((s.B : Nat) : Int) = ((s'.B : Nat) : Int)) (h4 : ((s.t : Nat) : Int) = ((s'.t : Nat) : Int)) : s = s' := by
  have i1 : s.a = s'.a := (Nat.pow_right_inj (by decide)).1 (Int.ofNat.inj h1)
  have i2 : s.c = s'.c := (Nat.pow_right_inj (by decide)).1 (Int.ofNat.inj h2)
  have i3 : s.b = s'.b := (Nat.pow_right_inj (by decide)).1 (Int.ofNat.inj h3)
  have i4 : s.t = s'.t := Int.ofNat.inj h4
  cases s; cases s'
  simp_all
/-- a shape and a position that are valid for a table of n numbers -/
def GOk (R C B T : Int) (n : Nat) (P : List (Nat × Nat)) (rho : Nat × Nat) (I : List Int) : Prop :=
  ∃ s : Sh, s.Ok ∧ R = ((s.R : Nat) : Int) ∧ C = ((s.C : Nat) : Int) ∧ B = ((s.B : Nat) : Int) ∧ T = ((s.t : Nat) : Int) ∧ lgI (n : Nat) = ((s.a + s.c : Nat) : Int) ∧ PosOk s P rho I
/-- an honest opening, in memory -/
def HonAt (w0 w : World) (t : List K) (s : Sh) (P : List (Nat × Nat)) (rho : Nat × Nat) (I : List Int) (rv nv cv qv : Value) : Prop :=
  w.ownsRow w0.heap.size 31 2 rv s.C (exs (raw (rowH t s (P.map toE)))) ∧ w.ownsRow w0.heap.size 31 2 nv s.C (exs (raw (rndH t s (toE rho)))) ∧
  PartN (fun k => w0.heap.size ≤ k) w .u64 cv ((colsH t s (toI I)).map vals) ∧ w.ownsRow w0.heap.size 43 32 qv (pathH lf nd by8 t s (toI I)).length (dgs (pathH lf nd by8 t s (toI I)))
/-- the loop that combines the rows -/
structure OpL (gx g11 g12 B0 : Nat) (q1 q2 : Value) (W1 W2 : List E) (C : Nat) (c1 c2 : Nat → E) (i j : Nat) (y : World) : Prop where
  st : ∃ v1 v2, Blk y gx 50 (pxC v1 v2 (.slice none 0 0) (.slice none 0 0)) ∧ y.ownsRow B0 31 2 v1 i (exs (raw ((List.range i).map c1))) ∧ y.ownsRow B0 31 2 v2 j (exs (raw ((List.range j).map c2))) ∧ (∀ q, v1.ownBlock = some q → v2.ownBlock ≠ some q)
  b1 : Blk y g11 23 [q1]
  b2 : Blk y g12 23 [q2]
  r1 : y.ownsRow 0 31 2 q1 W1.length (exs (raw W1)) ∧ ∀ g, q1.ownBlock = some g → g < B0
  r2 : y.ownsRow 0 31 2 q2 W2.length (exs (raw W2)) ∧ ∀ g, q2.ownBlock = some g → g < B0
  l : i ≤ C
theorem range_snoc {α : Type} (c : Nat → α) (i : Nat) : (List.range (i + 1)).map c = (List.range i).map c ++ [c i] := by rw [List.range_succ, List.map_append]; rfl
theorem OpL.calm {gx g11 g12 B0 : Nat} {q1 q2 : Value} {W1 W2 : List E} {C : Nat} {c1 c2 : Nat → E} {i j B : Nat} {x y : World} (h : OpL gx g11 g12 B0 q1 q2 W1 W2 C c1 c2 i j x) (K : K.Calm B x y) : OpL gx g11 g12 B0 q1 q2 W1 W2 C c1 c2 i j y := by
  obtain ⟨⟨v1, v2, h1, h2, h3, h4⟩, b1, b2, r1, r2, l⟩ := h
  exact ⟨⟨v1, v2, K.blk h1, K.own h2, K.own h3, h4⟩, K.blk b1, K.blk b2, ⟨K.own r1.1, r1.2⟩, ⟨K.own r2.1, r2.2⟩, l⟩
theorem keepS_grown {a b : World} {g : Nat} (h : a.grownBy b (some g)) : KeepS (fun k => k = g) a b := ⟨h.size, fun k o hk _ hne => (h.block k (lt_of_heap hk) (fun e => hne (Option.some.inj e))).trans hk⟩
def tupAt (v : Value) (i : Nat) : Value := match v with | .tuple a => a.getD i undef | _ => undef
def aggAt (v : Value) (i : Nat) : Value := match v with | .agg a => a.getD i undef | _ => undef
/-- the loop that takes the opened columns -/
structure OpC (gx Bl : Nat) (v1 v2 : Value) (L1 L2 : List E) (B1 : Nat) (I : List Nat) (R n : Nat) (cc : Nat → List K) (j : Nat) (y : World) : Prop where
  st : ∃ (v3 : Value) (xs : List Value), Blk y gx 50 (pxC v1 v2 v3 (.slice none 0 0)) ∧ y.ownsRow Bl 22 1 v3 (I.filter fun i => Nat.blt i j).length xs ∧ (∀ (k : Nat) (x : Value) (i : Nat), xs[k]? = some x → (I.filter fun i => Nat.blt i j)[k]? = some i → y.ownsRow Bl 29 1 x R (ints .u64 (vals (cc i))))
  o1 : y.ownsRow B1 31 2 v1 L1.length (exs (raw L1))
  o2 : y.ownsRow B1 31 2 v2 L2.length (exs (raw L2))
  l : j ≤ n
theorem OpC.calm {gx Bl : Nat} {v1 v2 : Value} {L1 L2 : List E} {B1 : Nat} {I : List Nat} {R n : Nat} {cc : Nat → List K} {j B : Nat} {x y : World} (h : OpC gx Bl v1 v2 L1 L2 B1 I R n cc j x) (K : K.Calm B x y) : OpC gx Bl v1 v2 L1 L2 B1 I R n cc j y := by
  obtain ⟨⟨v3, xs, h1, h2, h3⟩, o1, o2, l⟩ := h
  exact ⟨⟨v3, xs, K.blk h1, K.own h2, fun k x i a b => K.own (h3 k x i a b)⟩, K.own o1, K.own o2, l⟩
theorem filt_eq : ∀ {I : List Nat}, I.Pairwise (· ≠ ·) → ∀ (j : Nat), (I.filter fun i => i == j) = if j ∈ I then [j] else []
  | [], _, j => rfl
  | a :: I, h, j => by
    obtain ⟨h1, h2⟩ := List.pairwise_cons.1 h
    rw [List.filter_cons, filt_eq h2 j]
    by_cases e : a = j
    · subst e
      have hn : a ∉ I := fun hm => h1 a hm rfl
      simp [hn]
    · have e' : ¬ j = a := fun h => e h.symm
      simp [e, e']
theorem filt_succ {I : List Nat} (hp : I.Pairwise (· < ·)) (j : Nat) : (I.filter fun i => Nat.blt i (j + 1)) = (I.filter fun i => Nat.blt i j) ++ (if j ∈ I then [j] else []) := by
  have h1 := split_sorted j (I.filter fun i => Nat.blt i (j + 1)) (hp.filter _)
  rw [List.filter_filter, List.filter_filter] at h1
  rw [h1]
  congr 1
  · refine List.filter_congr fun i _ => ?_
    rw [Bool.eq_iff_iff]
    simp only [Bool.and_eq_true, Nat.blt_eq]
    omega
  · have h2 : (I.filter fun i => Nat.ble j i && Nat.blt i (j + 1)) = I.filter fun i => i == j := List.filter_congr fun i _ => by
      rw [Bool.eq_iff_iff]
      simp only [Bool.and_eq_true, Nat.blt_eq, Nat.ble_eq, beq_iff_eq]
      omega
    rw [h2]
    exact filt_eq (hp.imp fun h => Nat.ne_of_lt h) j
set_option maxRecDepth 100000 in
set_option maxHeartbeats 8000000 in
theorem gcopen (lo hi : Nat) (v : Value) (t : List K) (ht : t.length ≤ 1000000) (R C B T : Int) (hR : I64 R) (hC : I64 C) (hB : I64 B) (hT : I64 T) (pl ph il ih : Nat) (pv iv : Value) (P : List (Nat × Nat)) (rho : Nat × Nat) (I : List Int) (hPl : P.length ≤ 1000000) (hIl : I.length ≤ 1000000)
    (w : World) (hw : Tb w) (hr : Row w lo hi 1 v t.length (ints .u64 (vals t))) (hp : Row w pl ph 2 pv P.length (exs P)) (hi' : Row w il ih 1 iv I.length (I.map (Value.int .i64))) :
    Calls Tryz.prog 16 #[v, .agg (shC R C B T).toArray, .agg (waC pv rho iv).toArray] w fun e w' => Ext w w' ∧ ((∃ s : Sh, s.Ok ∧ R = ((s.R : Nat) : Int) ∧ C = ((s.C : Nat) : Int) ∧ B = ((s.B : Nat) : Int) ∧ T = ((s.t : Nat) : Int) ∧ lgI (t.length : Nat) = ((s.a + s.c : Nat) : Int) ∧ PosOk s P rho I ∧
      ∃ rv nv cv qv, e = .returned (.tuple #[.agg (pxC rv nv cv qv).toArray, .int .i64 0]) ∧ HonAt w w' t s P rho I rv nv cv qv) ∨ (¬ GOk R C B T t.length P rho I ∧ e = .returned (.tuple #[.agg (pxC (.slice none 0 0) (.slice none 0 0) (.slice none 0 0) (.slice none 0 0)).toArray, .int .i64 1]))) := by
  have hv1 := row_cell1 hr
  have hp1 := row_cell1 hp
  have hi1 := row_cell1 hi'
  have hr := hr.tightN (by decide)
  have hlb := lgI_bd (n := ((t.length : Nat) : Int)) (by omega)
  refine calls_T Tryz.func16 rfl Tryz.ntmps16 rfl ?_
  refine T_seq ?_
  (refine W_region ?_)
  refine L_box rfl ?_
  intro g4 w1 B4 hg4 E1 hs1
  refine L_box rfl ?_
  intro g5 w2 B5 hg5 E2 hs2
  refine L_alloc ?_
  intro g6 w3 B6 hg6 E3 hs3
  have C4 := B4.ext (E2.trans E3)
  have C5 := B5.ext E3
  have E13 := E1.trans (E2.trans E3)
  (refine Ls (X_assign (v := .int _ _) rfl) ?_; refine L_nil ?_; refine tn ?_)
  refine T_seq ?_
  (refine W_region ?_; refine Ls (X_move (v := v) rfl) ?_; refine Ls (X_ldW (cs := shC R C B T) rfl C4 rfl) ?_)
  refine L_fo (F := fun u w' => Ext w3 w' ∧ ((SOk R C B T (lgI (t.length : Nat)) ∧ ∃ q, u = .tuple #[q, .bool true] ∧ RowsAt w3 w' lo w.heap.size q t R.toNat C.toNat) ∨ (¬ SOk R C B T (lgI (t.length : Nat)) ∧ u = .tuple #[.slice none 0 0, .bool false]))) rfl ((grows lo w.heap.size v t ht R C B T hR hC hB hT w3 (hr.ext E13)).mono fun e w' ⟨h1, h2⟩ => by
    rcases h2 with ⟨h2, q, h3, h4⟩ | ⟨h2, h3⟩
    · exact ⟨_, h3, h1, .inl ⟨h2, q, rfl, h4⟩⟩
    · exact ⟨_, h3, h1, .inr ⟨h2, rfl⟩⟩) ?_
  rintro _ w4 ⟨E4, ⟨hok, q, rfl, xs, o4, hx4⟩ | ⟨hno, rfl⟩⟩
  · obtain ⟨s, hs, rfl, rfl, rfl, rfl, hlog⟩ := hok.sh
    rw [Int.toNat_natCast] at o4 hx4
    have hq1 := row_cell1 (Row.of_own o4)
    have C4 := C4.ext E4
    have C5 := C5.ext E4
    have C6 := B6.ext E4
    have E14 := E13.trans E4
    (refine Ls (X_move (v := .tuple _) rfl) ?_; refine Ls (X_extract rfl rfl) ?_; refine Ls (X_extract rfl rfl) ?_; refine Ls (X_assign (v := q) rfl) ?_; refine Ls (X_assign (v := .bool _) rfl) ?_; refine L_nil ?_; refine tn ?_)
    refine T_seq ?_
    (refine W_seq ?_)
    apply W_dagE 8 (by kernel_rfl)
    (apply DW_x (fun r w hA hH => (X_move (v := .bool _) rfl).trans rfl); apply DW_x (fun r w hA hH => (X_not rfl).trans rfl); apply DW_x (fun r w hA hH => (X_move (v := .bool _) rfl).trans rfl); apply DW_on2 rfl rfl (fun _ => rfl) (fun r w hA hH => (X_ldW (cs := shC (s.R : Nat) (s.C : Nat) (s.B : Nat) (s.t : Nat)) rfl (C4.ext hA) rfl).trans rfl); apply DW_on2 rfl rfl (fun _ => rfl) (fun r w hA hH => (X_move (v := v) rfl).trans rfl))
    (apply DW_on2 rfl rfl (fun _ => rfl) (fun r w hA hH => (X_lenRow (v := v) rfl hr).trans rfl))
    ((with_reducible apply DW_fn2); (exact rfl); (exact rfl); (exact fun _ => rfl); (exact fun _ => rfl); (exact fun r w hA hH => gcpow ((t.length : Nat) : Int) (by omega) (by omega) w))
    rw [hlog]
    (apply DW_on2 rfl rfl (fun _ => rfl) (fun r w hA hH => (X_ldW (cs := waC pv rho iv) rfl (C5.ext hA) rfl).trans rfl))
    ((with_reducible exact D_end); (exact rfl); (repeat (first | exact .inr (.inr (fun _ _ => by with_reducible rfl)) | (refine And.intro ?_ ?_) | exact .inr (.inl rfl) | exact .inl (by decide +kernel) | exact trivial | exact .inr (.inr (fun _ _ => rfl)))); (try dsimp only [Nat.reduceAdd]))
    intro r5 w5 E5 _
    have C4 := C4.ext E5
    have C5 := C5.ext E5
    have C6 := C6.ext E5
    have E15 := E14.trans E5
    refine L_strip rfl rfl rfl ?_
    by_cases hpos : PosOk s P rho I
    · refine L_fv rfl ((gpositioned s hs pl ph il ih pv iv P rho I hPl hIl w5 (hp.ext E15) (hi'.ext E15)).mono fun e w' ⟨b, h1, h2, h3⟩ => by have hb : b = true := h2.2 hpos; rw [hb] at h1; exact ⟨h1, h3⟩) ?_
      intro w6 E6
      have C4 := C4.ext E6
      have C5 := C5.ext E6
      have C6 := C6.ext E6
      have E16 := E15.trans E6
      have hPe := raw_toE hpos.pv
      have hPel : (P.map toE).length = s.a + s.c := by rw [List.length_map]; exact hpos.p
      have hrhoe := toE_val hpos.rv
      obtain ⟨W1, hW1⟩ : ∃ W1, W1 = Fd.eqT ((P.map toE).drop s.c) := ⟨_, rfl⟩
      obtain ⟨W2, hW2⟩ : ∃ W2, W2 = pws (toE rho) s.R := ⟨_, rfl⟩
      have hW1l : W1.length = s.R := by rw [hW1, Fd.eqT_len, List.length_drop, hPel, show s.a + s.c - s.c = s.a by omega]; rfl
      have hW2l : W2.length = s.R := by rw [hW2, pws_len]
      have hR16 : s.R ≤ 65536 := (pow_le16 (a := s.a) (by have := hs.ac; omega)).2
      have hC16 : s.C ≤ 65536 := (pow_le16 (a := s.c) (by have := hs.ac; omega)).2
      have hR1 : 1 ≤ s.R := Nat.pow_pos (by decide)
      have hcw := gcweights s hs pl ph pv iv hi1 (P.map toE) (toE rho) hPel
      rw [hrhoe, hPe, ← hW1, ← hW2] at hcw
      (refine Lg2 rfl rfl rfl (X_not rfl) ?_; refine Ls (X_pickF (v := .bool _) rfl rfl) ?_; refine L_nil ?_; refine tn ?_; refine W_condF rfl ?_; refine W_skip ?_; refine tn ?_)
      refine T_seq ?_
      (refine W_region ?_)
      refine L_alloc ?_
      intro gx w7 Bx hgx E7 hs7
      have E17 := E16.trans E7
      (refine L_nil ?_; refine tn ?_)
      refine T_seq ?_
      (refine W_region ?_; refine Ls (X_ldW (cs := shC (s.R : Nat) (s.C : Nat) (s.B : Nat) (s.t : Nat)) rfl (C4.ext E7) rfl) ?_; refine Ls (X_ldW (cs := waC pv rho iv) rfl (C5.ext E7) rfl) ?_)
      refine L_fo (F := fun u w' => ∃ q1 q2, u = .tuple #[q1, q2] ∧ Ext w7 w' ∧ w'.ownsRow w7.heap.size 31 2 q1 s.R (exs (raw W1)) ∧ w'.ownsRow w7.heap.size 31 2 q2 s.R (exs (raw W2))) rfl ((hcw w7 (hw.ext E17) ((hp.ext E17).re (by rw [List.length_map]) rfl)).mono fun e w' ⟨q1, q2, h1, h2⟩ => ⟨_, h1, q1, q2, rfl, h2⟩) ?_
      rintro _ w8 ⟨q1, q2, rfl, E8, oq1, oq2⟩
      have hq11 := row_cell1 (Row.of_own oq1)
      have hq21 := row_cell1 (Row.of_own oq2)
      (refine Ls (X_move (v := .tuple _) rfl) ?_; refine Ls (X_extract rfl rfl) ?_; refine Ls (X_extract rfl rfl) ?_)
      refine L_alloc ?_
      intro g11 w9 B11 hg11 E9 hs9
      refine L_alloc ?_
      intro g12 w10 B12 hg12 E10 hs10
      refine L_store1 (v := q1) rfl rfl hq11 (B11.ext E10) (by simp) ?_
      intro w11 D11 hg11' hs11
      refine L_store1 (v := q2) rfl rfl hq21 (B12.grown hg11' (by simp; omega)) (by simp) ?_
      intro w12 D12 hg12' hs12
      have D11 := D11.grown hg12' (by simp; omega)
      have hz8 := E8.size
      have E812 : Ext w8 w12 := ((E9.trans E10).then hg11' (fun g h => by cases h; omega)).then hg12' (fun g h => by cases h; omega)
      have E112 := E17.trans (E8.trans E812)
      (refine L_nil ?_; refine tn ?_)
      refine T_seq2 ?_
      (refine W_region ?_; refine Ls (X_move (v := q) rfl) ?_)
      refine L_fo rfl (gcolsMk q hq1 w12) ?_
      rintro qc wl ⟨b, rfl, El, Bb, hb⟩
      (refine L_nil ?_; refine tn ?_)
      have E1l := E112.trans El
      have hz7 := E7.size
      have hz17 := E17.size
      have hz46 : w4.heap.size ≤ w6.heap.size := (E5.trans E6).size
      have hzl := El.size
      have hz14 := E14.size
      have hz3' := E13.size
      have hz4' := E4.size
      have hz1' := (E1.trans E2).size
      have hz1'' := E3.size
      have hbl := Bb.lt
      have hxs : xs.length = s.R := by rw [o4.1, Nat.mul_one]
      have hPart : PartN (fun k => k < w4.heap.size) wl .u64 q (rowsM t s) := by
        have E4l : Ext w4 wl := E5.trans (E6.trans (E7.trans (E8.trans (E812.trans El))))
        refine (show PartN (fun k => k < w4.heap.size) w4 .u64 q (rowsM t s) from ⟨xs, by rw [rowsM_len]; exact hxs, ?_, fun r x y hx hy => ?_⟩).ext E4l
        · rw [rowsM_len]
          exact (RowN.of_own o4).mono fun k hk => hk.2
        · have hrl : r < s.R := by have := (List.getElem?_eq_some_iff.1 hx).1; omega
          unfold rowsM at hy
          rw [List.getElem?_map, List.getElem?_range hrl] at hy
          cases hy
          exact ((RowN.of (hx4 r x hx)).mono fun k hk => by show k < w4.heap.size; omega).re (by rw [vals_len, Fd.trow_len]) rfl
      obtain ⟨c1, hc1⟩ : ∃ c1 : Nat → E, c1 = fun c => comb W1 (tcol t s.R s.C c) := ⟨_, rfl⟩
      obtain ⟨c2, hc2⟩ : ∃ c2 : Nat → E, c2 = fun c => comb W2 (tcol t s.R s.C c) := ⟨_, rfl⟩
      refine T_rangeM (ps := [47, 48]) (fun k => wl.heap.size ≤ k ∨ k = gx) rfl (enters_of Tryz.func118 (by kernel_rfl) rfl) (fun i vs a h => by obtain ⟨_, _, rfl, _⟩ := h; rfl) (gcols (fun k => wl.heap.size ≤ k ∨ k = gx) (fun k => k < w4.heap.size) b q (rowsM t s) s.C (rowsM_row t s) (by rw [rowsM_len]; exact hR1) (by rw [rowsM_len]; exact hR16) (by omega) wl Bb hPart (by omega) (fun k hk => by omega))
        (fun i y => OpL gx g11 g12 wl.heap.size q1 q2 W1 W2 s.C c1 c2 i i y) (fun _ => False) (fun i x y h K => h.calm K) (fun _ _ h _ => h) ?_
        (fun i vs a f' y => y = a ∧ i < s.C ∧ ∃ cv, a.ownsRow wl.heap.size 29 1 cv s.R (ints .u64 (vals (tcol t s.R s.C i))) ∧ f' 10 = .pointer (some ⟨gx, 0, none⟩) ∧ f' 11 = .pointer (some ⟨g11, 0, none⟩) ∧ f' 12 = .pointer (some ⟨g12, 0, none⟩) ∧ f' 14 = cv) (fun i vs a f' b h => by rw [h.1]; exact Ext.refl _) (fun lp vs i y hi hM hp => ?_) (fun lp i vs a f' z y hi hMu hp hga hac hbc => ?_) (fun D1 y1 hD1 hdn1 hMu1 hyD1 => ?_)
      · refine ⟨⟨.slice none 0 0, .slice none 0 0, Bx.ext (E8.trans (E812.trans El)), ⟨rfl, .inl ⟨rfl, rfl⟩⟩, ⟨rfl, .inl ⟨rfl, rfl⟩⟩, (fun _ h => by cases h)⟩, D11.ext El, D12.ext El, ?_, ?_, by omega⟩
        · rw [hW1l]
          exact ⟨own_base (own_ext oq1 (E812.trans El)) (Nat.zero_le _), fun g hg => ((own_ext oq1 (E812.trans El)).lt g hg).2⟩
        · rw [hW2l]
          exact ⟨own_base (own_ext oq2 (E812.trans El)) (Nat.zero_le _), fun g hg => ((own_ext oq2 (E812.trans El)).lt g hg).2⟩
      · obtain ⟨hiC, cv, rfl, oc⟩ := hp
        rw [rowsM_len, colM_rows t s hiC] at oc
        have hcv1 := row_cell1 (Row.of_own oc)
        (refine W_region ?_; refine Ls (X_assign (v := cv) rfl) ?_; refine L_nil ?_)
        exact ⟨rfl, rfl, hiC, cv, oc, rfl, rfl, rfl, rfl⟩
      · obtain ⟨rfl, hiC, cv, oc, f10, f11, f12, f14⟩ := hga
        have oc := hac.own oc
        have hcv1 := row_cell1 (Row.of_own oc)
        obtain ⟨⟨v1, v2, I1, I2, I3, I4⟩, J1, J2, R1, R2, _⟩ := hi
        have hv11 := row_cell1 (Row.of_own I2)
        have hv21 := row_cell1 (Row.of_own I3)
        have hyl := hMu.size
        have hwy : Tb y := hw.ext (hMu.toExt E1l (by intro k hk; omega))
        have hEx1 : c1 i = comb W1 (tcol t s.R s.C i) := by rw [hc1]
        have hEx2 : c2 i = comb W2 (tcol t s.R s.C i) := by rw [hc2]
        have htl := Fd.tcol_len t s.R s.C i
        rw [fold f10, fold f11, fold f12, fold f14]
        (refine W_block ?_; refine W_seq ?_)
        apply W_dagE 7 (by kernel_rfl)
        (apply DW_x (fun r w hA hH => (X_fld rfl).trans rfl); apply DW_x (fun r w hA hH => (X_ld (cs := pxC v1 v2 (.slice none 0 0) (.slice none 0 0)) rfl (I1.ext hA) rfl).trans rfl); apply DW_x (fun r w hA hH => (X_ldWg (cs := mixC) rfl (hwy.ext hA).mix rfl).trans rfl); apply DW_x (fun r w hA hH => (X_ld rfl (J1.ext hA) rfl).trans rfl); apply DW_x (fun r w hA hH => (X_move (v := cv) rfl).trans rfl))
        ((with_reducible apply DW_fn); (exact fun _ => rfl); (exact fun _ => rfl); (exact fun r w hA hH => (by
          have h := gsumw _ _ _ _ q1 cv W1 (tcol t s.R s.C i) (by omega) (by omega) w (Row.of_own (own_ext R1.1 hA)) ((Row.of_own (own_ext oc hA)).re htl.symm rfl)
          rw [← hEx1] at h
          exact h)))
        ((with_reducible apply DW_d (F := fun r v w => RowF y 2 v 1 (xc (c1 i)) w)); (exact fun r w hA hH => X_litA (z := [.int .u64 0, .int .u64 0]) rfl rfl rfl hA.size); (exact fun _ _ u w w' _ _ hR h => RowF.ext hR h); (exact fun _ _ => rfl))
        ((with_reducible exact D_end); (exact rfl); (repeat (first | exact .inr (.inr (fun _ _ => by with_reducible rfl)) | (refine And.intro ?_ ?_) | exact .inr (.inl rfl) | exact .inl (by decide +kernel) | exact trivial | exact .inr (.inr (fun _ _ => rfl)))); (try dsimp only [Nat.reduceAdd]))
        intro r y2 F2 H2
        obtain ⟨l6, h6, hl6, r6⟩ : RowF y 2 (r 6) 1 (xc (c1 i)) y2 := H2 6
        have I2' := own_ext I2 F2
        refine L_append (v := v1) (u := r 6) rfl rfl I2' r6 exC_cell (by omega) (by omega) (by have := F2.size; omega) ?_
        intro v1' y3 o3 hg3 hb3
        have hv1' := row_cell1 (Row.of_own o3)
        have hI1 := (I1.ext F2).grown hg3 (fun h => by
          obtain ⟨_, cs, fz, e⟩ := own_obj I2' gx h
          exact blk_ty (I1.ext F2) e (by decide))
        have hJ1 := (J1.ext F2).grown hg3 (fun h => by
          obtain ⟨_, cs, fz, e⟩ := own_obj I2' g11 h
          exact blk_ty (J1.ext F2) e (by decide))
        have hJ2 := (J2.ext F2).grown hg3 (fun h => by
          obtain ⟨_, cs, fz, e⟩ := own_obj I2' g12 h
          exact blk_ty (J2.ext F2) e (by decide))
        have hR1 := own_other (own_ext R1.1 F2) hg3 (fun g hg h => by have := R1.2 g hg; have := (own_obj I2' g h).1; omega)
        have hR2 := own_other (own_ext R2.1 F2) hg3 (fun g hg h => by have := R2.2 g hg; have := (own_obj I2' g h).1; omega)
        have hR1b := R1.2
        have hR2b := R2.2
        have hI3 := own_other (own_ext I3 F2) hg3 (fun q hq h => I4 q h hq)
        have hoc := own_other (own_ext oc F2) hg3 (fun q hq h => by
          obtain ⟨_, cs, fz, e⟩ := own_obj I2' q h
          obtain ⟨_, cs', fz', e'⟩ := own_obj (own_ext oc F2) q hq
          rw [e] at e'; cases e')
        have hI4 : ∀ q, v1'.ownBlock = some q → v2.ownBlock ≠ some q := fun q hq h => by
          rcases hb3 with h3 | h3
          · rw [h3] at hq; exact I4 q hq h
          · rw [h3] at hq
            have := Option.some.inj hq
            have := (own_ext I3 F2).lt q h
            omega
        have M3 : Mut (fun k => wl.heap.size ≤ k ∨ k = gx) y y3 := (Mut.of_ext F2).trans (Mut.app I2' hg3 (fun q hq => .inl (own_obj I2' q hq).1))
        clear I1 I2 I3 I4 J1 J2 R1 R2 oc H2 r6 I2'
        (refine Ls (X_fld rfl) ?_)
        refine L_store1 (v := v1') rfl rfl hv1' hI1 (by simp [pxC]) ?_
        intro y4 I1 hg4 hs4
        have M4 := M3.trans (Mut.store hI1 hg4 (.inr rfl))
        have I1 : Blk y4 gx 50 (pxC v1' v2 (.slice none 0 0) (.slice none 0 0)) := I1
        have hne : ∀ (z : Value) (m : Nat) (l : List Value) (T : TypeId) (sz : Nat), T ≠ 50 → ∀ bs, y3.ownsRow bs T sz z m l → y4.ownsRow bs T sz z m l := fun z m l T sz hT bs h => own_other h hg4 (fun g hg e => by
          obtain rfl : gx = g := Option.some.inj e
          obtain ⟨_, cs, fz, e1⟩ := own_obj h gx hg
          exact blk_ty hI1 e1 (Ne.symm hT))
        have I2 := hne _ _ _ _ _ (by decide) _ o3
        have I3 := hne _ _ _ _ _ (by decide) _ hI3
        have oc := hne _ _ _ _ _ (by decide) _ hoc
        have J1 := hJ1.grown hg4 (by simp; omega)
        have J2 := hJ2.grown hg4 (by simp; omega)
        have R1 := hne _ _ _ _ _ (by decide) _ hR1
        have R2 := hne _ _ _ _ _ (by decide) _ hR2
        have hyl4 := M4.size
        have hwy4 : Tb y4 := hwy.mut M4 hw.below (fun k hk => by omega)
        (refine L_nil ?_; refine tn ?_)
        apply W_dagE 7 (by kernel_rfl)
        (apply DW_x (fun r w hA hH => (X_fld rfl).trans rfl); apply DW_x (fun r w hA hH => (X_ld (cs := pxC v1' v2 (.slice none 0 0) (.slice none 0 0)) rfl (I1.ext hA) rfl).trans rfl); apply DW_x (fun r w hA hH => (X_ldWg (cs := mixC) rfl (hwy4.ext hA).mix rfl).trans rfl); apply DW_x (fun r w hA hH => (X_ld rfl (J2.ext hA) rfl).trans rfl); apply DW_x (fun r w hA hH => (X_move (v := cv) rfl).trans rfl))
        ((with_reducible apply DW_fn); (exact fun _ => rfl); (exact fun _ => rfl); (exact fun r w hA hH => (by
          have h := gsumw _ _ _ _ q2 cv W2 (tcol t s.R s.C i) (by omega) (by omega) w (Row.of_own (own_ext R2 hA)) ((Row.of_own (own_ext oc hA)).re htl.symm rfl)
          rw [← hEx2] at h
          exact h)))
        ((with_reducible apply DW_d (F := fun r v w => RowF y4 2 v 1 (xc (c2 i)) w)); (exact fun r w hA hH => X_litA (z := [.int .u64 0, .int .u64 0]) rfl rfl rfl hA.size); (exact fun _ _ u w w' _ _ hR h => RowF.ext hR h); (exact fun _ _ => rfl))
        ((with_reducible exact D_end); (exact rfl); (repeat (first | exact .inr (.inr (fun _ _ => by with_reducible rfl)) | (refine And.intro ?_ ?_) | exact .inr (.inl rfl) | exact .inl (by decide +kernel) | exact trivial | exact .inr (.inr (fun _ _ => rfl)))); (try dsimp only [Nat.reduceAdd]))
        intro r y5 F5 H5
        obtain ⟨l7, h7, hl7, r7⟩ : RowF y4 2 (r 6) 1 (xc (c2 i)) y5 := H5 6
        have I3' := own_ext I3 F5
        refine L_append (v := v2) (u := r 6) rfl rfl I3' r7 exC_cell (by omega) (by omega) (by have := F5.size; omega) ?_
        intro v2' y6 o6 hg6 hb6
        have hv2' := row_cell1 (Row.of_own o6)
        have K1 := (I1.ext F5).grown hg6 (fun h => by
          obtain ⟨_, cs, fz, e⟩ := own_obj I3' gx h
          exact blk_ty (I1.ext F5) e (by decide))
        have L1 := (J1.ext F5).grown hg6 (fun h => by
          obtain ⟨_, cs, fz, e⟩ := own_obj I3' g11 h
          exact blk_ty (J1.ext F5) e (by decide))
        have L2 := (J2.ext F5).grown hg6 (fun h => by
          obtain ⟨_, cs, fz, e⟩ := own_obj I3' g12 h
          exact blk_ty (J2.ext F5) e (by decide))
        have S1 := own_other (own_ext R1 F5) hg6 (fun g hg h => by have := hR1b g hg; have := (own_obj I3' g h).1; omega)
        have S2 := own_other (own_ext R2 F5) hg6 (fun g hg h => by have := hR2b g hg; have := (own_obj I3' g h).1; omega)
        have T2 := own_other (own_ext I2 F5) hg6 (fun q hq h => hI4 q hq h)
        have hI5 : ∀ q, v1'.ownBlock = some q → v2'.ownBlock ≠ some q := fun q hq h => by
          rcases hb6 with h3 | h3
          · rw [h3] at h; exact hI4 q hq h
          · rw [h3] at h
            have := Option.some.inj h
            have := (own_ext I2 F5).lt q hq
            omega
        have M6 : Mut (fun k => wl.heap.size ≤ k ∨ k = gx) y y6 := (M4.ext_ F5).trans (Mut.app I3' hg6 (fun q hq => .inl (own_obj I3' q hq).1))
        (refine Ls (X_fld rfl) ?_)
        refine L_store1 (v := v2') rfl rfl hv2' K1 (by simp [pxC]) ?_
        intro y7 K1' hg7 hs7'
        have K1' : Blk y7 gx 50 (pxC v1' v2' (.slice none 0 0) (.slice none 0 0)) := K1'
        have hne7 : ∀ (z : Value) (m : Nat) (l : List Value) (T : TypeId) (sz : Nat), T ≠ 50 → ∀ bs, y6.ownsRow bs T sz z m l → y7.ownsRow bs T sz z m l := fun z m l T sz hT bs h => own_other h hg7 (fun g hg e => by
          obtain rfl : gx = g := Option.some.inj e
          obtain ⟨_, cs, fz, e1⟩ := own_obj h gx hg
          exact blk_ty K1 e1 (Ne.symm hT))
        (refine L_nil ?_; refine bn ?_)
        refine ⟨M6.trans (Mut.store K1 hg7 (.inr rfl)), ⟨v1', v2', K1', ?_, ?_, hI5⟩, L1.grown hg7 (by simp; omega), L2.grown hg7 (by simp; omega), ⟨hne7 _ _ _ _ _ (by decide) _ S1, hR1b⟩, ⟨hne7 _ _ _ _ _ (by decide) _ S2, hR2b⟩, by omega⟩
        · have := hne7 _ _ _ _ _ (by decide) _ T2
          rw [range_snoc, raw_app, exs_app, raw_one]
          exact this
        · have := hne7 _ _ _ _ _ (by decide) _ o6
          rw [range_snoc, raw_app, exs_app, raw_one]
          exact this
      · obtain ⟨i1, hfin1, hO⟩ : ∃ i, i = s.C ∧ OpL gx g11 g12 wl.heap.size q1 q2 W1 W2 s.C c1 c2 i i y1 := hdn1.elim id False.elim
        subst hfin1
        obtain ⟨⟨v1, v2, I1, I2, I3, I4⟩, _, _, _, _, _⟩ := hO
        have hL1 : (List.range s.C).map c1 = rowH t s (P.map toE) := by rw [hc1, hW1]; rfl
        have hL2 : (List.range s.C).map c2 = rndH t s (toE rho) := by rw [hc2, hW2]; rfl
        rw [hL1] at I2
        rw [hL2] at I3
        have E1y := hMu1.toExt E1l (by intro k hk; omega)
        have hyl := hMu1.size
        have E6l : Ext w6 wl := E7.trans (E8.trans (E812.trans El))
        have X4 := hMu1.blk (C4.ext E6l) (by have := C4.lt; omega)
        have X5 := hMu1.blk (C5.ext E6l) (by have := C5.lt; omega)
        have X6 := hMu1.blk (C6.ext E6l) (by have := C6.lt; omega)
        have hg456 : g4 ≠ gx ∧ g5 ≠ gx ∧ g6 ≠ gx := by have := C4.lt; have := C5.lt; have := C6.lt; omega
        refine T_seq ?_
        (refine W_region ?_; refine Ls (X_move (v := v) rfl) ?_; refine Ls (X_ldW (cs := shC (s.R : Nat) (s.C : Nat) (s.B : Nat) (s.t : Nat)) rfl X4 rfl) ?_)
        refine L_fo (F := fun u w' => Ext y1 w' ∧ ∃ q, u = .tuple #[q, .int .i64 0] ∧ PartN (fun k => y1.heap.size ≤ k ∧ k < w'.heap.size) w' .u64 q (cws t s)) rfl ((gcodewords lo w.heap.size v t ht (s.R : Nat) (s.C : Nat) (s.B : Nat) (s.t : Nat) hR hC hB hT y1 (hw.ext E1y) (hr.ext E1y)).mono fun e w' ⟨h1, h2⟩ => by
          rcases h2 with ⟨s', _, h2, h3, h4, h5, _, _, q, h6, h7⟩ | ⟨h2, _⟩
          · rw [← sh_inj h2 h3 h4 h5] at h7
            exact ⟨_, h6, h1, q, rfl, h7⟩
          · exact (h2 hok).elim) ?_
        rintro _ y2 ⟨F2, qe, rfl, Pe2⟩
        obtain ⟨Ae, ce, rfl, _⟩ := Pe2.form
        (refine Ls (X_move (v := .tuple _) rfl) ?_; refine Ls (X_extract rfl rfl) ?_; refine Ls (X_extract rfl rfl) ?_; refine Ls (X_assign (v := .slice _ _ _) rfl) ?_; refine Ls (X_assign (v := .int _ _) rfl) ?_; refine L_nil ?_; refine tn ?_)
        refine T_seq2 ?_
        (refine W_region ?_; refine Ls (X_move (v := .slice _ _ _) rfl) ?_)
        refine L_fo rfl (gcolsMk (.slice Ae (cws t s).length ce) rfl y2) ?_
        rintro qc2 y3 ⟨b2, rfl, F3, Bb2, hb2⟩
        (refine L_nil ?_; refine tn ?_)
        have F13 := F2.trans F3
        have hF2 := F2.size
        have hF3 := F3.size
        have hgy1 : gx < y1.heap.size := I1.lt
        have hb2l := Bb2.lt
        have hn16 : s.n ≤ 65536 := (pow_le16 hs.cb).2
        have hn1 : 1 ≤ s.n := Nat.pow_pos (by decide)
        have hI0 : ∀ i ∈ I, 0 ≤ i := fun i hi => (hpos.ix i hi).1
        have hIs := toI_srt hI0 hpos.srt
        have hIn := toI_lt hpos.ix
        have hIlen : (toI I).length ≤ 65536 := by rw [toI_len, hpos.i]; have := hs.t64; omega
        have hIrow : ∀ y, Ext w y → Row y il ih 1 iv (toI I).length (ints .i64 (toI I)) := fun y E => by
          have := hi'.ext E
          rw [toI_ints hI0] at this
          rw [toI_len]; exact this
        obtain ⟨cc, hcc⟩ : ∃ cc : Nat → List K, cc = fun j => ccol t s.R s.C s.m j := ⟨_, rfl⟩
        have hl1 : (rowH t s (P.map toE)).length = s.C := Fd.combR_len _ _ _ _
        have hl2 : (rndH t s (toE rho)).length = s.C := Fd.combR_len _ _ _ _
        refine T_rangeM (ps := [75, 76]) (fun k => y3.heap.size ≤ k ∨ k = gx) rfl (enters_of Tryz.func118 (by kernel_rfl) rfl) (fun i vs a h => by obtain ⟨_, _, rfl, _⟩ := h; rfl) (gcols (fun k => y3.heap.size ≤ k ∨ k = gx) (fun k => y1.heap.size ≤ k ∧ k < y2.heap.size) b2 _ (cws t s) s.n (cws_row t s) (by rw [cws_len]; exact hR1) (by rw [cws_len]; exact hR16) (by omega) y3 Bb2 (Pe2.ext F3) (by omega) (fun k hk => by omega))
          (fun i y => OpC gx y3.heap.size v1 v2 (rowH t s (P.map toE)) (rndH t s (toE rho)) wl.heap.size (toI I) s.R s.n cc i y) (fun _ => False) (fun i x y h K => h.calm K) (fun _ _ h _ => h) ?_
          (fun i vs a f' y => y = a ∧ i < s.n ∧ ∃ cv, a.ownsRow y3.heap.size 29 1 cv s.R (ints .u64 (vals (cc i))) ∧ f' 5 = .pointer (some ⟨g5, 0, none⟩) ∧ f' 10 = .pointer (some ⟨gx, 0, none⟩) ∧ f' 17 = .int .i64 (i : Nat) ∧ f' 18 = cv) (fun i vs a f' b h => by rw [h.1]; exact Ext.refl _) (fun lp vs i y hi hM hp => ?_) (fun lp i vs a f' z y hi hMu hp hga hac hbc => ?_) (fun D2 y4 hD2 hdn2 hMu2 hyD2 => ?_)
        · refine ⟨⟨.slice none 0 0, [], I1.ext F13, ?_, (fun _ _ _ h => by cases h)⟩, by rw [hl1]; exact own_ext I2 F13, by rw [hl2]; exact own_ext I3 F13, by omega⟩
          have : (toI I).filter (fun i => Nat.blt i 0) = [] := List.filter_eq_nil_iff.2 fun i _ => by rw [Nat.blt_eq]; omega
          rw [this]
          exact ⟨rfl, .inl ⟨rfl, rfl⟩⟩
        · obtain ⟨hin, cv, rfl, oc⟩ := hp
          rw [cws_len, colM_cws t s hin] at oc
          have hcv1 := row_cell1 (Row.of_own oc)
          (refine W_seq ?_; refine W_region ?_; refine Ls (X_assign (v := .int _ _) rfl) ?_; refine L_nil ?_; refine tn ?_; refine W_region ?_; refine Ls (X_assign (v := cv) rfl) ?_; refine L_nil ?_)
          exact ⟨rfl, rfl, hin, cv, by rw [hcc]; exact oc, rfl, rfl, rfl, rfl⟩
        · obtain ⟨rfl, hin, cv, oc, f5, f10, f17, f18⟩ := hga
          have oc := hac.own oc
          have hcv1 := row_cell1 (Row.of_own oc)
          obtain ⟨⟨v3, ys, J1, J2, J3⟩, o1, o2, _⟩ := hi
          have hv31 := row_cell1 (Row.of_own J2)
          have hyl3 := hMu.size
          have Eyw : Ext w y := hMu.toExt (E1y.trans F13) (by intro k hk; omega)
          have X5y := hMu.blk (X5.ext F13) (by have := X5.lt; omega)
          have hcnt : ((toI I).filter fun k => Nat.blt k i).length ≤ (toI I).length := List.length_filter_le _ _
          have hfs := filt_succ hIs i
          rw [fold f5, fold f10, fold f17, fold f18]
          (refine W_block ?_; refine W_seq ?_; refine W_region ?_; refine Ls (X_fld rfl) ?_; refine Ls (X_ld (cs := waC pv rho iv) rfl X5y rfl) ?_; refine Ls (X_move (v := .int _ _) rfl) ?_)
          refine L_fv rfl (gbs il ih iv (toI I) hIs hIlen i y (hIrow y Eyw)) ?_
          intro y5 G5
          by_cases hmem : i ∈ toI I
          · rw [decide_eq_true hmem]
            rw [if_pos hmem] at hfs
            (refine Ls (X_move (v := .tuple _) rfl) ?_; refine Ls (X_extract rfl rfl) ?_; refine Ls (X_extract rfl rfl) ?_; refine Ls (X_assign (v := .int _ _) rfl) ?_; refine Ls (X_assign (v := .bool _) rfl) ?_; refine L_nil ?_; refine tn ?_; refine W_seq ?_; refine W_region ?_; refine Ls (X_move (v := .bool _) rfl) ?_; refine L_nil ?_; refine tn ?_; refine W_condT rfl ?_; refine W_region ?_; refine Ls (X_fld rfl) ?_; refine Ls (X_ld (cs := pxC v1 v2 v3 (.slice none 0 0)) rfl (J1.ext G5) rfl) ?_; refine Ls (X_move (v := cv) rfl) ?_)
            refine L_lit1 (v := cv) rfl hcv1 ?_
            intro u6 y6 r6 G6 hs6 _
            have G56 := G5.trans G6
            have J2' := own_ext J2 G56
            refine L_append (v := v3) (u := u6) rfl rfl J2' r6 (fun x hx => by rw [List.mem_singleton.1 hx]; exact hcv1) (by omega) (by omega) (by have := G56.size; omega) ?_
            intro v3' y7 o7 hg7 _
            have hv3' := row_cell1 (Row.of_own o7)
            have K1 := (J1.ext G56).grown hg7 (fun h => by
              obtain ⟨_, cs, fz, e⟩ := own_obj J2' gx h
              exact blk_ty (J1.ext G56) e (by decide))
            have hoth : ∀ (z : Value) (m : Nat) (l : List Value) (T : TypeId) (sz bs : Nat), T ≠ 22 → y.ownsRow bs T sz z m l → y7.ownsRow bs T sz z m l := fun z m l T sz bs hT h => own_other (own_ext h G56) hg7 (fun g hg e => by
              obtain ⟨_, cs, fz, e1⟩ := own_obj (own_ext h G56) g hg
              obtain ⟨_, cs', fz', e2⟩ := own_obj J2' g e
              rw [e1] at e2
              cases e2
              exact hT rfl)
            (refine Ls (X_fld rfl) ?_)
            refine L_store1 (v := v3') rfl rfl hv3' K1 (by simp [pxC]) ?_
            intro y8 K1' hg8 hs8
            have K1' : Blk y8 gx 50 (pxC v1 v2 v3' (.slice none 0 0)) := K1'
            have hne8 : ∀ (z : Value) (m : Nat) (l : List Value) (T : TypeId) (sz bs : Nat), T ≠ 50 → y7.ownsRow bs T sz z m l → y8.ownsRow bs T sz z m l := fun z m l T sz bs hT h => own_other h hg8 (fun g hg e => by
              obtain rfl : gx = g := Option.some.inj e
              obtain ⟨_, cs, fz, e1⟩ := own_obj h gx hg
              exact blk_ty K1 e1 (Ne.symm hT))
            (refine L_nil ?_; refine bn ?_)
            have hyll : ys.length = ((toI I).filter fun k => Nat.blt k i).length := by rw [J2.1, Nat.mul_one]
            refine ⟨((Mut.of_ext G56).trans (Mut.app J2' hg7 (fun q hq => .inl (own_obj J2' q hq).1))).trans (Mut.store K1 hg8 (.inr rfl)), ⟨v3', ys ++ [cv], K1', ?_, fun k x z hx hz => ?_⟩, hne8 _ _ _ _ _ _ (by decide) (hoth _ _ _ _ _ _ (by decide) o1), hne8 _ _ _ _ _ _ (by decide) (hoth _ _ _ _ _ _ (by decide) o2), by omega⟩
            · rw [hfs, List.length_append]
              exact hne8 _ _ _ _ _ _ (by decide) o7
            · rw [hfs] at hz
              rcases Nat.lt_or_ge k ys.length with hk | hk
              · rw [List.getElem?_append_left hk] at hx
                rw [List.getElem?_append_left (by omega)] at hz
                exact hne8 _ _ _ _ _ _ (by decide) (hoth _ _ _ _ _ _ (by decide) (J3 k x z hx hz))
              · have hke : k = ys.length := by
                  have := (List.getElem?_eq_some_iff.1 hx).1
                  rw [List.length_append] at this
                  simp at this
                  omega
                subst hke
                rw [List.getElem?_append_right (Nat.le_refl _), Nat.sub_self] at hx
                rw [hyll, List.getElem?_append_right (Nat.le_refl _), Nat.sub_self] at hz
                cases hx
                cases hz
                exact hne8 _ _ _ _ _ _ (by decide) (hoth _ _ _ _ _ _ (by decide) oc)
          · rw [decide_eq_false hmem]
            rw [if_neg hmem, List.append_nil] at hfs
            (refine Ls (X_move (v := .tuple _) rfl) ?_; refine Ls (X_extract rfl rfl) ?_; refine Ls (X_extract rfl rfl) ?_; refine Ls (X_assign (v := .int _ _) rfl) ?_; refine Ls (X_assign (v := .bool _) rfl) ?_; refine L_nil ?_; refine tn ?_; refine W_seq ?_; refine W_region ?_; refine Ls (X_move (v := .bool _) rfl) ?_; refine L_nil ?_; refine tn ?_; refine W_condF rfl ?_; refine W_skip ?_; refine bn ?_)
            refine ⟨Mut.of_ext G5, ⟨v3, ys, J1.ext G5, by rw [hfs]; exact own_ext J2 G5, fun k x z hx hz => by rw [hfs] at hz; exact own_ext (J3 k x z hx hz) G5⟩, own_ext o1 G5, own_ext o2 G5, by omega⟩
        · obtain ⟨j, hj, hO⟩ : ∃ i, i = s.n ∧ OpC gx y3.heap.size v1 v2 (rowH t s (P.map toE)) (rndH t s (toE rho)) wl.heap.size (toI I) s.R s.n cc i y4 := hdn2.elim id False.elim
          rw [hj] at hO
          clear hj
          obtain ⟨⟨v3, ys, J1, J2, J3⟩, o1, o2, _⟩ := hO
          have hflt : ((toI I).filter fun i => Nat.blt i s.n) = toI I := List.filter_eq_self.2 fun i hi => by rw [Nat.blt_eq]; exact hIn i hi
          rw [hflt] at J2 J3
          have hyl4 := hMu2.size
          have hyl3 := F13.size
          have Ey4 : Ext w y4 := hMu2.toExt (E1y.trans F13) (by intro k hk; omega)
          have X54 := hMu2.blk (X5.ext F13) (by have := X5.lt; omega)
          have X64 := hMu2.blk (X6.ext F13) (by have := X6.lt; omega)
          have hD1l : D1 < y1.heap.size := (Array.getElem?_eq_some_iff.1 hyD1).1
          have hyD14 : y4.heap[D1]? = some (.deferred (some [])) := hMu2.heap (F13.heap hyD1) rfl
          have hD1x : D1 ≠ gx := fun e => by
            subst e
            have h := hyD1
            rw [I1] at h
            cases h
          have hD2l : D2 < y4.heap.size := (Array.getElem?_eq_some_iff.1 hyD2).1
          have hcl : (cws t s).length = s.R := cws_len t s
          have P4 : PartN (fun k => y1.heap.size ≤ k ∧ k < y2.heap.size) y4 .u64 (.slice Ae (cws t s).length ce) (cws t s) := (Pe2.ext F3).mut hMu2 (fun k hk => by omega)
          have hzI := toI_len I
          have hIin : ∀ i ∈ toI I, i < (lv by8 t s).length := by rw [Cm.lv_len]; exact hIn
          refine T_of_W ?_
          (refine W_seq ?_)
          apply W_dagG 9 gx (fun w' => Blk w' gx 50 (pxC v1 v2 v3 (.slice none 0 0))) 10 (by kernel_rfl) (J1.ext (Ext.drew _)) (fun _ _ E h => h.ext E)
          (apply DW_x (fun r w hA hH => (X_move (v := .slice _ _ _) rfl).trans rfl))
          ((with_reducible apply DW_fr (F := fun q w' => PartN (fun k => y4.heap.size ≤ k) w' .u8 q (lv by8 t s))); (exact fun _ => rfl); (exact fun r w hA hH => (gleaves _ _ (cws t s) s.n (cws_row t s) (by rw [hcl]; exact hR1) (by rw [hcl]; exact hR16) hn16 w (P4.keepS (keepS_grown hA.g) (fun k hk => by omega))).mono fun e w' ⟨q, h1, h2, h3⟩ => ⟨q, h1, .inl h2, by rw [leaves_lv] at h3; exact h3.mono fun k hk => Nat.le_trans hA.g.size hk⟩); (exact fun i u w w' hi ht hR h => h.keepS (keepS_grown hR.grown) (fun k hk => by omega)))
          (apply DW_x (fun r w hA hH => (X_fld rfl).trans rfl); apply DW_x (fun r w hA hH => (X_ld (cs := waC pv rho iv) rfl (X54.grown hA.g (by simp; have := X5.lt; omega)) rfl).trans rfl))
          ((with_reducible apply DW_fr (F := fun u w' => ∃ q, u = .tuple #[.agg #[q], .int .i64 0] ∧ w'.ownsRow y4.heap.size 43 32 q (pathH lf nd by8 t s (toI I)).length (dgs (pathH lf nd by8 t s (toI I))))); (exact fun _ => rfl); (exact fun r w hA hH => (gmopen _ _ (lv by8 t s) (by rw [Cm.lv_len]; exact hn1) (by rw [Cm.lv_len]; exact hn16) (lv_ok t s hR16) il ih iv (toI I) hIs hIin w (hw.ext (Ey4.then hA.g (fun g h => by cases h; omega))) (hH 1 rfl) (hIrow w (Ey4.then hA.g (fun g h => by cases h; omega)))).mono fun e w' ⟨q, h1, h2, h3⟩ => ⟨_, h1, .inl h2, q, rfl, own_base h3 hA.g.size⟩); (exact fun i u w w' hi ht hR h => (by obtain ⟨q, h1, h2⟩ := h; exact ⟨q, h1, own_grown h2 hR.grown (fun g h => by cases h; omega)⟩)))
          ((with_reducible apply DW_x); (exact fun r w hA hH => (X_move (v := r 4) rfl).trans rfl))
          apply DW_x (V := fun r => tupAt (r 4) 0) (fun r w hA hH => by
            obtain ⟨q, h1, _⟩ : ∃ q, r 4 = .tuple #[.agg #[q], .int .i64 0] ∧ _ := hH 4 rfl
            exact X_extract (l := [.agg #[q], .int .i64 0]) h1 (by rw [h1]; rfl))
          apply DW_x (V := fun r => tupAt (r 4) 1) (fun r w hA hH => by
            obtain ⟨q, h1, _⟩ : ∃ q, r 4 = .tuple #[.agg #[q], .int .i64 0] ∧ _ := hH 4 rfl
            exact X_extract (l := [.agg #[q], .int .i64 0]) h1 (by rw [h1]; rfl))
          (apply DW_x (fun r w hA hH => (X_fld rfl).trans rfl))
          apply DW_storeD (F := fun r w' => Blk w' gx 50 (pxC v1 v2 v3 (aggAt (tupAt (r 4) 0) 0))) (fun r w hA hH => by
            obtain ⟨q, h1, h2⟩ : ∃ q, r 4 = .tuple #[.agg #[q], .int .i64 0] ∧ w.ownsRow y4.heap.size 43 32 q (pathH lf nd by8 t s (toI I)).length (dgs (pathH lf nd by8 t s (toI I))) := hH 4 rfl
            have hB := hA.pre (.inl rfl)
            have hX := fun n f d t pos af x y hx hy => X_storeA (P := Tryz.prog) (n := n) (f := f) (w := w) (d := d) (t := t) (ty := 48) (pos := pos) (af := af) (g := none) (size := 1) (x := x) (y := y) (o := 3) (l := [q]) hx hy rfl (fun u hu => by rw [List.mem_singleton.1 hu]; exact row_cell1 (Row.of_own h2)) hB (by simp [pxC])
            refine ⟨_, hX _ _ _ _ _ _ _ _ rfl (by show tupAt (r 4) 0 = _; rw [h1]; rfl), grown_setRow _ _ _, ?_⟩
            rw [h1]
            exact hB.setRow _) (fun r w w' E h => h.ext E) (fun r v => rfl)
          ((with_reducible exact D_end); (exact rfl); (repeat (first | exact .inr (.inr (fun _ _ => by with_reducible rfl)) | (refine And.intro ?_ ?_) | exact .inr (.inl rfl) | exact .inl (by decide +kernel) | exact trivial | exact .inr (.inr (fun _ _ => rfl)))); (try dsimp only [Nat.reduceAdd]))
          intro r z G H
          obtain ⟨q, hr4, oq⟩ : ∃ q, r 4 = .tuple #[.agg #[q], .int .i64 0] ∧ z.ownsRow y4.heap.size 43 32 q (pathH lf nd by8 t s (toI I)).length (dgs (pathH lf nd by8 t s (toI I))) := H 4
          have hB : Blk z gx 50 (pxC v1 v2 v3 (aggAt (tupAt (r 4) 0) 0)) := H 9
          rw [hr4] at hB
          have hB : Blk z gx 50 (pxC v1 v2 v3 q) := hB
          have hcv1 := row_cell1 (Row.of_own o1)
          have hcv2 := row_cell1 (Row.of_own o2)
          have hcv3 := row_cell1 (Row.of_own J2)
          have hcq := row_cell1 (Row.of_own oq)
          have h6l := C6.lt
          have hzz := G.size
          (refine L_nil ?_; refine tn ?_; refine W_seq ?_; refine W_region ?_; refine Ls (X_ldW (cs := pxC v1 v2 v3 q) rfl hB rfl) ?_)
          refine L_storeW (size := 4) (l := pxC v1 v2 v3 q) rfl rfl rfl (pxC_cell hcv1 hcv2 hcv3 hcq) (X64.grown G (by simp; omega)) rfl ?_
          intro z2 B8 hg8 _
          (refine Ls (X_assign (v := .int _ _) rfl) ?_; refine L_nil ?_; refine tn ?_; refine W_ret ?_)
          have hD : ∀ D, y4.heap[D]? = some (.deferred (some [])) → D ≠ gx → D ≠ g6 → z2.heap[D]? = some (.deferred (some [])) := fun D h h1 h2 => by
            have hDl : D < y4.heap.size := (Array.getElem?_eq_some_iff.1 h).1
            rw [hg8.block D (by omega) (by simp; omega), G.block D hDl (by simp; omega)]
            exact h
          have hO : ∀ w' T sz x m l (bs : Nat), g6 < bs → gx < bs → K.Calm wl.heap.size z2 w' → y4.ownsRow bs T sz x m l → w'.ownsRow w.heap.size T sz x m l := fun w' T sz x m l bs h1 h2 K h =>
            own_base (K.own (own_grown (own_grown h G (fun g h => by cases h; omega)) hg8 (fun g h => by cases h; omega))) (by omega)
          refine endQ_marks wl.heap.size [D2, D1] rfl rfl (by simp; omega) (fun D' h => ?_) (fun w' hc => ⟨Res.cellA inferInstance rfl ((hc.blk B8).range (fun j u h => by simpa using h)) rfl (Res.tmp rfl .nil), ?_, ?_⟩)
          · simp at h
            rcases h with rfl | rfl
            · exact ⟨by omega, hD _ hyD2 (by omega) (by omega)⟩
            · exact ⟨hD1, hD _ hyD14 hD1x (by omega)⟩
          · exact hc.toExt ((Ey4.then G (fun g h => by cases h; omega)).then hg8 (fun g h => by cases h; omega)) (by omega)
          · refine .inl ⟨s, hs, rfl, rfl, rfl, rfl, hlog, hpos, v1, v2, v3, q, rfl, ?_, ?_, ?_, ?_⟩
            · have h := hO w' _ _ _ _ _ _ (by omega) (by omega) hc o1
              rw [hl1] at h; exact h
            · have h := hO w' _ _ _ _ _ _ (by omega) (by omega) hc o2
              rw [hl2] at h; exact h
            · have hyl : ys.length = (toI I).length := by rw [J2.1, Nat.mul_one]
              have hcl' : ((colsH t s (toI I)).map vals).length = (toI I).length := by unfold colsH; rw [List.length_map, List.length_map]
              refine ⟨ys, by rw [hcl']; exact hyl, by rw [hcl']; exact (RowN.of_own (hO w' _ _ _ _ _ _ (by omega) (by omega) hc J2)).mono fun k hk => hk.1, fun k x y hx hy => ?_⟩
              unfold colsH at hy
              rw [List.map_map, List.getElem?_map] at hy
              obtain ⟨i, hi, rfl⟩ := Option.map_eq_some_iff.1 hy
              have h := J3 k x i hx hi
              rw [hcc] at h
              exact (RowN.of_own (hO w' _ _ _ _ _ _ (by omega) (by omega) hc h)).mono (fun k hk => hk.1) |>.re (by show s.R = (vals (ccol t s.R s.C s.m i)).length; rw [vals_len, Fd.ccol_len]) rfl
            · exact own_base (hc.own (own_grown oq hg8 (fun g h => by cases h; omega))) (by omega)
    · refine L_fv rfl ((gpositioned s hs pl ph il ih pv iv P rho I hPl hIl w5 (hp.ext E15) (hi'.ext E15)).mono fun e w' ⟨b, h1, h2, h3⟩ => by have hb : b = false := (Bool.eq_false_iff.2 fun h => hpos (h2.1 h)); rw [hb] at h1; exact ⟨h1, h3⟩) ?_
      intro w6 E6
      (refine Lg2 rfl rfl rfl (X_not rfl) ?_; refine Ls (X_pickF (v := .bool _) rfl rfl) ?_; refine L_nil ?_; refine tn ?_; refine W_condT rfl ?_; refine W_seq ?_; refine W_region ?_)
      refine Ls (X_build (zs := [[Value.slice none 0 0], [Value.slice none 0 0], [Value.slice none 0 0], [Value.slice none 0 0]]) (r := []) (Parts.nil _)) ?_
      refine L_storeW (size := 4) (l := pxC (.slice none 0 0) (.slice none 0 0) (.slice none 0 0) (.slice none 0 0)) rfl rfl rfl (pxC_cell rfl rfl rfl rfl) (C6.ext E6) rfl ?_
      intro w8 B8 hg8 _
      (refine Ls (X_assign (v := .int _ _) rfl) ?_; refine L_nil ?_; refine tn ?_; refine W_ret ?_; refine tr ?_)
      refine endQ_res rfl rfl (Res.cellA inferInstance rfl (B8.range (fun j u h => by simpa using h)) rfl (Res.tmp rfl .nil)) ?_
      exact ⟨(E15.trans E6).then hg8 (fun g h => by cases h; have := (E1.trans E2).size; omega), .inr ⟨fun ⟨s', h1, h2, h3, h4, h5, h6, h7⟩ => hpos (by rw [sh_inj h2 h3 h4 h5]; exact h7), rfl⟩⟩
  · (refine Ls (X_move (v := .tuple _) rfl) ?_; refine Ls (X_extract rfl rfl) ?_; refine Ls (X_extract rfl rfl) ?_; refine Ls (X_assign (v := .slice _ _ _) rfl) ?_; refine Ls (X_assign (v := .bool _) rfl) ?_; refine L_nil ?_; refine tn ?_)
    refine T_seq ?_
    (refine W_seq ?_)
    apply W_dagE 11 (by kernel_rfl)
    (apply DW_x (fun r w hA hH => (X_move (v := .bool _) rfl).trans rfl); apply DW_x (fun r w hA hH => (X_not rfl).trans rfl); apply DW_x (fun r w hA hH => (X_move (v := .bool _) rfl).trans rfl); apply DW_off2 rfl rfl (fun _ => rfl) rfl; apply DW_off2 rfl rfl (fun _ => rfl) rfl; apply DW_off2 rfl rfl (fun _ => rfl) rfl; apply DW_off2 rfl rfl (fun _ => rfl) rfl; apply DW_off2 rfl rfl (fun _ => rfl) rfl; apply DW_off2 rfl rfl (fun _ => rfl) rfl; apply DW_off2 rfl rfl (fun _ => rfl) rfl; apply DW_x (fun r w hA hH => (X_pickT (v := .bool _) rfl rfl).trans rfl))
    ((with_reducible exact D_end); (exact rfl); (repeat (first | exact .inr (.inr (fun _ _ => by with_reducible rfl)) | (refine And.intro ?_ ?_) | exact .inr (.inl rfl) | exact .inl (by decide +kernel) | exact trivial | exact .inr (.inr (fun _ _ => rfl)))); (try dsimp only [Nat.reduceAdd]))
    intro r5 w5 E5 _
    (refine L_nil ?_; refine tn ?_; refine W_condT rfl ?_; refine W_seq ?_; refine W_region ?_)
    refine Ls (X_build (zs := [[Value.slice none 0 0], [Value.slice none 0 0], [Value.slice none 0 0], [Value.slice none 0 0]]) (r := []) (Parts.nil _)) ?_
    refine L_storeW (size := 4) (l := pxC (.slice none 0 0) (.slice none 0 0) (.slice none 0 0) (.slice none 0 0)) rfl rfl rfl (pxC_cell rfl rfl rfl rfl) (B6.ext (E4.trans E5)) rfl ?_
    intro w8 B8 hg8 _
    (refine Ls (X_assign (v := .int _ _) rfl) ?_; refine L_nil ?_; refine tn ?_; refine W_ret ?_; refine tr ?_)
    refine endQ_res rfl rfl (Res.cellA inferInstance rfl (B8.range (fun j u h => by simpa using h)) rfl (Res.tmp rfl .nil)) ?_
    exact ⟨(E13.trans (E4.trans E5)).then hg8 (fun g h => by cases h; have := (E1.trans E2).size; omega), .inr ⟨fun ⟨s', h1, h2, h3, h4, h5, h6, _⟩ => hno (by rw [h2, h3, h4, h5, h6]; exact sh_ok h1), rfl⟩⟩
end Go.Proofs.YtpohjepbmgeplaaGreatDoor

/- Commitments: shapes of openings. -/
namespace Go.Proofs.YtpohjepbmgeplaaGreatDoor
open Go.RowKit Go.Proofs.K
open _root_.Fd (K E pw root trow enc ccol comb)
open _root_.Cm (Sh pws pwE)

/-- an opening of the right lengths, of valid elements -/
structure ShpOk (s : Sh) (RW RD : List (Nat × Nat)) (CL : List (List Nat)) : Prop where
  l1 : RW.length = s.C
  l2 : RD.length = s.C
  l3 : CL.length = s.t
  e1 : ∀ x ∈ RW, isE x
  e2 : ∀ x ∈ RD, isE x
  cl : ∀ c ∈ CL, c.length = s.R ∧ ∀ x ∈ c, x < Fd.pr
theorem allU_iff (l : List Nat) : decide (∀ i, i < (ints .u64 l).length → decide (l.getD i 0 < Fd.pr) = true) = decide (∀ x ∈ l, x < Fd.pr) := by
  rw [Bool.eq_iff_iff, decide_eq_true_eq, decide_eq_true_eq, ints_len]
  constructor
  · intro h x hx
    obtain ⟨i, hi⟩ := List.mem_iff_getElem?.1 hx
    have := h i (List.getElem?_eq_some_iff.1 hi).1
    rw [List.getD_eq_getElem?_getD, hi] at this
    simpa using this
  · intro h i hi
    have := h l[i] (List.getElem_mem _)
    rw [List.getD_eq_getElem?_getD, List.getElem?_eq_getElem hi]
    simpa using this
theorem allC_iff (s : Sh) (CL : List (List Nat)) (n : Nat) (hn : n = CL.length) : decide (∀ i, i < n → (decide ((CL.getD i []).length = s.R) && decide (∀ x ∈ CL.getD i [], x < Fd.pr)) = true) = true ↔ ∀ c ∈ CL, c.length = s.R ∧ ∀ x ∈ c, x < Fd.pr := by
  subst hn
  rw [decide_eq_true_eq]
  constructor
  · intro h c hc
    obtain ⟨i, hi⟩ := List.mem_iff_getElem?.1 hc
    have := h i (List.getElem?_eq_some_iff.1 hi).1
    rw [List.getD_eq_getElem?_getD, hi] at this
    simpa using this
  · intro h i hi
    have := h CL[i] (List.getElem_mem _)
    rw [List.getD_eq_getElem?_getD, List.getElem?_eq_getElem hi]
    simpa using this
set_option maxHeartbeats 1000000 in
theorem gshclo (s : Sh) (g2 : Nat) (CL : List (List Nat)) (hCL : ∀ c ∈ CL, c.length ≤ 1000000) (vs : List Value) (hvl : vs.length = CL.length) (w : World) (hB : Blk w g2 28 (shC (s.R : Nat) (s.C : Nat) (s.B : Nat) (s.t : Nat))) (hx : ∀ (i : Nat) (x : Value) (y : List Nat), vs[i]? = some x → CL[i]? = some y → RowN (fun _ => True) w 1 x y.length (ints .u64 y)) :
    CondAt Tryz.prog 130 #[.pointer (some ⟨g2, 0, none⟩)] vs (fun i => decide ((CL.getD i []).length = s.R) && decide (∀ x ∈ CL.getD i [], x < Fd.pr)) w := by
  intro i x w' E hxi
  have hi : i < CL.length := by have := (List.getElem?_eq_some_iff.1 hxi).1; omega
  have hci : CL[i]? = some CL[i] := List.getElem?_eq_getElem hi
  have hget : CL.getD i [] = CL[i] := by rw [List.getD_eq_getElem?_getD, hci]; rfl
  obtain ⟨lo, hi', _, hr⟩ := hx i x _ hxi hci
  show Calls _ _ _ _ fun e w'' => e = .returned (.bool (decide ((CL.getD i []).length = s.R) && decide (∀ x ∈ CL.getD i [], x < Fd.pr))) ∧ _
  rw [hget]
  have hcl : CL[i].length ≤ 1000000 := hCL _ (List.getElem_mem _)
  revert hr hcl
  generalize CL[i] = c
  intro hr hcl
  obtain ⟨A, cc, rfl⟩ : ∃ A cc, x = .slice A c.length cc := by
    obtain ⟨_, A, c, rfl, _⟩ := hr
    exact ⟨A, c, rfl⟩
  refine calls_W Tryz.func130 rfl Tryz.ntmps130 rfl ?_
  by_cases h : c.length = s.R
  · (refine W_seq ?_; refine W_region ?_; refine Ls (X_assign (v := .bool _) rfl) ?_; refine L_nil ?_; refine tn ?_; refine W_seq ?_; refine W_region ?_; refine Ls (X_move (v := .slice _ _ _) rfl) ?_; refine Ls (X_lenSlice rfl) ?_; refine Ls (X_fld rfl) ?_; refine Ls (X_ld (cs := shC (s.R : Nat) (s.C : Nat) (s.B : Nat) (s.t : Nat)) rfl (hB.ext E) rfl) ?_; refine Ls (X_eqlT rfl rfl (by omega)) ?_; refine Ls (X_move (v := .bool _) rfl) ?_; refine Lg2 rfl rfl rfl (X_move (v := .slice _ _ _) rfl) ?_)
    refine L_strip rfl rfl rfl ?_
    refine L_fv rfl (gval_u lo hi' _ (ints .u64 c) (by rw [ints_len]; omega) w' ((hr.ext E).re (by rw [ints_len]) rfl) ints_cell (fun i => decide (c.getD i 0 < Fd.pr)) 101 #[] (cond_valid c w')) ?_
    intro w2 E2
    rw [allU_iff]
    (refine Ls (X_pickT (v := .bool _) rfl rfl) ?_; refine Ls (X_assign (v := .bool _) rfl) ?_; refine L_nil ?_; refine tn ?_; refine W_ret ?_)
    refine endQ_ret1 rfl rfl (v := .bool _) rfl ⟨?_, E2⟩
    rw [decide_eq_true h]; rfl
  · (refine W_seq ?_; refine W_region ?_; refine Ls (X_assign (v := .bool _) rfl) ?_; refine L_nil ?_; refine tn ?_; refine W_seq ?_; refine W_region ?_; refine Ls (X_move (v := .slice _ _ _) rfl) ?_; refine Ls (X_lenSlice rfl) ?_; refine Ls (X_fld rfl) ?_; refine Ls (X_ld (cs := shC (s.R : Nat) (s.C : Nat) (s.B : Nat) (s.t : Nat)) rfl (hB.ext E) rfl) ?_; refine Ls (X_eqlF rfl rfl (by omega)) ?_; refine Ls (X_move (v := .bool _) rfl) ?_; refine Lo2 rfl rfl rfl rfl ?_; refine Lo2 rfl rfl rfl rfl ?_; refine Ls (X_pickF (v := .bool _) rfl rfl) ?_; refine Ls (X_assign (v := .bool _) rfl) ?_; refine L_nil ?_; refine tn ?_; refine W_ret ?_)
    refine endQ_ret1 rfl rfl (v := .bool _) rfl ⟨?_, Ext.refl _⟩
    rw [decide_eq_false h]; rfl
set_option maxRecDepth 100000 in
set_option maxHeartbeats 4000000 in
theorem gshaped (s : Sh) (hs : s.Ok) (l1 h1 l2 h2 : Nat) (rv nv cv qv : Value) (hq : qv.oneCell' = true) (RW RD : List (Nat × Nat)) (CL : List (List Nat)) (hRW : RW.length ≤ 1000000) (hRD : RD.length ≤ 1000000) (hCl : CL.length ≤ 1000000) (hCL : ∀ c ∈ CL, c.length ≤ 1000000)
    (w : World) (hr : Row w l1 h1 2 rv RW.length (exs RW)) (hn : Row w l2 h2 2 nv RD.length (exs RD)) (hc : PartN (fun _ => True) w .u64 cv CL) :
    Calls Tryz.prog 78 #[.agg (shC (s.R : Nat) (s.C : Nat) (s.B : Nat) (s.t : Nat)).toArray, .agg (pxC rv nv cv qv).toArray] w fun e w' => ∃ b : Bool, e = .returned (.bool b) ∧ (b = true ↔ ShpOk s RW RD CL) ∧ Ext w w' := by
  obtain ⟨vs, hvl, ⟨lc, hc', _, hrc⟩, hvx⟩ := hc
  obtain ⟨A1, c1, rfl⟩ : ∃ A c, rv = .slice A RW.length c := by
    obtain ⟨_, A, c, rfl, _⟩ := hr
    exact ⟨A, c, rfl⟩
  obtain ⟨A2, c2, rfl⟩ : ∃ A c, nv = .slice A RD.length c := by
    obtain ⟨_, A, c, rfl, _⟩ := hn
    exact ⟨A, c, rfl⟩
  obtain ⟨A3, c3, rfl⟩ : ∃ A c, cv = .slice A CL.length c := by
    obtain ⟨_, A, c, rfl, _⟩ := hrc
    exact ⟨A, c, rfl⟩
  have hvc : ∀ x ∈ vs, x.oneCell' = true := fun x hx => by
    obtain ⟨i, hi⟩ := List.mem_iff_getElem?.1 hx
    have hil : i < CL.length := by have := (List.getElem?_eq_some_iff.1 hi).1; omega
    obtain ⟨_, _, _, hr'⟩ := hvx i x _ hi (List.getElem?_eq_getElem hil)
    exact row_cell1 hr'
  refine calls_W Tryz.func78 rfl Tryz.ntmps78 rfl ?_
  (refine W_seq ?_; refine W_region ?_)
  refine L_box rfl ?_
  intro g2 w1 B2 hg2 E1 hs1
  refine L_box rfl ?_
  intro g3 w2 B3 hg3 E2 hs2
  have C2 := B2.ext E2
  have E12 := E1.trans E2
  have hno : ∀ w', Ext w2 w' → ¬ ShpOk s RW RD CL → ∃ b : Bool, Ending.returned (.bool false) = .returned (.bool b) ∧ (b = true ↔ ShpOk s RW RD CL) ∧ Ext w w' := fun w' E h => ⟨false, rfl, ⟨(fun h => by cases h), fun h' => (h h').elim⟩, E12.trans E⟩
  by_cases k1 : RW.length = s.C
  · by_cases k2 : RD.length = s.C
    · by_cases k3 : CL.length = s.t
      · (refine Ls (X_assign (v := .bool _) rfl) ?_; refine L_nil ?_; refine tn ?_; refine W_seq ?_; refine W_region ?_; refine Ls (X_fld rfl) ?_; refine Ls (X_ld (cs := pxC (.slice A1 RW.length c1) (.slice A2 RD.length c2) (.slice A3 CL.length c3) qv) rfl B3 rfl) ?_; refine Ls (X_lenSlice rfl) ?_; refine Ls (X_fld rfl) ?_; refine Ls (X_ld (cs := shC (s.R : Nat) (s.C : Nat) (s.B : Nat) (s.t : Nat)) rfl C2 rfl) ?_; refine Ls (X_eqlT rfl rfl (by omega)) ?_; refine Ls (X_move (v := .bool _) rfl) ?_; refine Lg2 rfl rfl rfl (X_fld rfl) ?_; refine Lg2 rfl rfl rfl (X_ld (cs := pxC (.slice A1 RW.length c1) (.slice A2 RD.length c2) (.slice A3 CL.length c3) qv) rfl B3 rfl) ?_; refine Lg2 rfl rfl rfl (X_lenSlice rfl) ?_; refine Lg2 rfl rfl rfl (X_fld rfl) ?_; refine Lg2 rfl rfl rfl (X_ld (cs := shC (s.R : Nat) (s.C : Nat) (s.B : Nat) (s.t : Nat)) rfl C2 rfl) ?_; refine Lg2 rfl rfl rfl (X_eqlT rfl rfl (by omega)) ?_; refine Ls (X_pickT (v := .bool _) rfl rfl) ?_; refine Ls (X_move (v := .bool _) rfl) ?_; refine Lg2 rfl rfl rfl (X_fld rfl) ?_; refine Lg2 rfl rfl rfl (X_ld (cs := pxC (.slice A1 RW.length c1) (.slice A2 RD.length c2) (.slice A3 CL.length c3) qv) rfl B3 rfl) ?_; refine Lg2 rfl rfl rfl (X_lenSlice rfl) ?_; refine Lg2 rfl rfl rfl (X_fld rfl) ?_; refine Lg2 rfl rfl rfl (X_ld (cs := shC (s.R : Nat) (s.C : Nat) (s.B : Nat) (s.t : Nat)) rfl C2 rfl) ?_; refine Lg2 rfl rfl rfl (X_eqlT rfl rfl (by omega)) ?_; refine Ls (X_pickT (v := .bool _) rfl rfl) ?_; refine Ls (X_move (v := .bool _) rfl) ?_; refine Lg2 rfl rfl rfl (X_fld rfl) ?_; refine Lg2 rfl rfl rfl (X_ld (cs := pxC (.slice A1 RW.length c1) (.slice A2 RD.length c2) (.slice A3 CL.length c3) qv) rfl B3 rfl) ?_)
        refine L_strip rfl rfl rfl ?_
        refine L_fv rfl (gval_e l1 h1 _ RW (RW.map fun p => Value.agg (exC p.1 p.2).toArray) rfl (by rw [List.length_map]; omega) w2 ((hr.ext E12).re (by rw [List.length_map]) rfl) (fun i => decide ((RW.getD i (0, 0)).1 < Fd.pr) && decide ((RW.getD i (0, 0)).2 < Fd.pr)) 77 #[] (cond_validE RW w2)) ?_
        intro w3 E3
        have ha1 := allE_iff RW
        revert ha1
        generalize decide (∀ i, i < (RW.map fun p => Value.agg (exC p.1 p.2).toArray).length → (decide ((RW.getD i (0, 0)).1 < Fd.pr) && decide ((RW.getD i (0, 0)).2 < Fd.pr)) = true) = b1
        intro ha1
        cases b1 with
        | false =>
          (refine Ls (X_pickT (v := .bool _) rfl rfl) ?_; refine Ls (X_move (v := .bool _) rfl) ?_; refine Lo2 rfl rfl rfl rfl ?_; refine Lo2 rfl rfl rfl rfl ?_; refine Lo2 rfl rfl rfl rfl ?_; refine Ls (X_pickF (v := .bool _) rfl rfl) ?_; refine Ls (X_move (v := .bool _) rfl) ?_; refine Lo2 rfl rfl rfl rfl ?_; refine Lo2 rfl rfl rfl rfl ?_; refine Lo2 rfl rfl rfl rfl ?_; refine Lo2 rfl rfl rfl rfl ?_; refine Ls (X_pickF (v := .bool _) rfl rfl) ?_; refine Ls (X_assign (v := .bool _) rfl) ?_; refine L_nil ?_; refine tn ?_; refine W_ret ?_)
          exact endQ_ret1 rfl rfl (v := .bool _) rfl (hno _ E3 fun h => by have := ha1.2 h.e1; cases this)
        | true =>
          (refine Ls (X_pickT (v := .bool _) rfl rfl) ?_; refine Ls (X_move (v := .bool _) rfl) ?_; refine Lg2 rfl rfl rfl (X_fld rfl) ?_; refine Lg2 rfl rfl rfl (X_ld (cs := pxC (.slice A1 RW.length c1) (.slice A2 RD.length c2) (.slice A3 CL.length c3) qv) rfl (B3.ext E3) rfl) ?_)
          refine L_strip rfl rfl rfl ?_
          refine L_fv rfl (gval_e l2 h2 _ RD (RD.map fun p => Value.agg (exC p.1 p.2).toArray) rfl (by rw [List.length_map]; omega) w3 (((hn.ext E12).ext E3).re (by rw [List.length_map]) rfl) (fun i => decide ((RD.getD i (0, 0)).1 < Fd.pr) && decide ((RD.getD i (0, 0)).2 < Fd.pr)) 77 #[] (cond_validE RD w3)) ?_
          intro w4 E4
          have E34 := E3.trans E4
          have ha2 := allE_iff RD
          revert ha2
          generalize decide (∀ i, i < (RD.map fun p => Value.agg (exC p.1 p.2).toArray).length → (decide ((RD.getD i (0, 0)).1 < Fd.pr) && decide ((RD.getD i (0, 0)).2 < Fd.pr)) = true) = b2
          intro ha2
          cases b2 with
          | false =>
            (refine Ls (X_pickT (v := .bool _) rfl rfl) ?_; refine Ls (X_move (v := .bool _) rfl) ?_; refine Lo2 rfl rfl rfl rfl ?_; refine Lo2 rfl rfl rfl rfl ?_; refine Lo2 rfl rfl rfl rfl ?_; refine Lo2 rfl rfl rfl rfl ?_; refine Ls (X_pickF (v := .bool _) rfl rfl) ?_; refine Ls (X_assign (v := .bool _) rfl) ?_; refine L_nil ?_; refine tn ?_; refine W_ret ?_)
            exact endQ_ret1 rfl rfl (v := .bool _) rfl (hno _ E34 fun h => by have := ha2.2 h.e2; cases this)
          | true =>
            (refine Ls (X_pickT (v := .bool _) rfl rfl) ?_; refine Ls (X_move (v := .bool _) rfl) ?_; refine Lg2 rfl rfl rfl (X_fld rfl) ?_; refine Lg2 rfl rfl rfl (X_ld (cs := pxC (.slice A1 RW.length c1) (.slice A2 RD.length c2) (.slice A3 CL.length c3) qv) rfl (B3.ext E34) rfl) ?_)
            refine L_strip rfl rfl rfl ?_
            refine Ls (X_mkFunc (vf := []) (vc := [.pointer (some ⟨g2, 0, none⟩)]) rfl rfl) ?_
            skip
            refine L_strip rfl rfl rfl ?_
            refine L_fv rfl (gval_l lc hc' _ vs (by omega) w4 (((hrc.ext E12).ext E34).re hvl.symm rfl) hvc (fun i => decide ((CL.getD i []).length = s.R) && decide (∀ x ∈ CL.getD i [], x < Fd.pr)) 130 #[.pointer (some ⟨g2, 0, none⟩)] (gshclo s g2 CL hCL vs hvl w4 (C2.ext E34) (fun i x y hx hy => ((hvx i x y hx hy).ext E12).ext E34))) ?_
            intro w5 E5
            have ha3 := allC_iff s CL vs.length hvl
            revert ha3
            generalize decide (∀ i, i < vs.length → (decide ((CL.getD i []).length = s.R) && decide (∀ x ∈ CL.getD i [], x < Fd.pr)) = true) = b3
            intro ha3
            (refine Ls (X_pickT (v := .bool _) rfl rfl) ?_; refine Ls (X_assign (v := .bool _) rfl) ?_; refine L_nil ?_; refine tn ?_; refine W_ret ?_)
            exact endQ_ret1 rfl rfl (v := .bool _) rfl ⟨b3, rfl, ⟨fun h => ⟨k1, k2, k3, ha1.1 rfl, ha2.1 rfl, ha3.1 h⟩, fun h => ha3.2 h.cl⟩, E12.trans (E34.trans E5)⟩
      · repeat (first | (with_reducible refine tn ?_) | (with_reducible refine W_seq ?_) | (with_reducible refine W_region ?_) | (with_reducible refine W_ret ?_) | (with_reducible refine L_nil ?_) | ((with_reducible refine i_move ?_); ((with_reducible refine i_ng ?_); refine Ls (X_move (v := .bool _) rfl) ?_)) | ((with_reducible refine i_assign ?_); ((with_reducible refine i_ng ?_); refine Ls (X_assign (v := .bool _) rfl) ?_)) | ((with_reducible refine i_eql ?_); (first | ((with_reducible refine i_ng ?_); refine Ls (X_eqlT rfl rfl (by omega)) ?_) | ((with_reducible refine i_gd ?_); (first | refine Lg2 rfl rfl rfl (X_eqlT rfl rfl (by omega)) ?_ | refine Lg2 rfl rfl rfl (X_eqlF rfl rfl (by omega)) ?_)))) | ((with_reducible refine i_len ?_); (first | ((with_reducible refine i_ng ?_); refine Ls (X_lenSlice rfl) ?_) | ((with_reducible refine i_gd ?_); refine Lg2 rfl rfl rfl (X_lenSlice rfl) ?_))) | ((with_reducible refine i_fld ?_); (first | ((with_reducible refine i_ng ?_); refine Ls (X_fld rfl) ?_) | ((with_reducible refine i_gd ?_); refine Lg2 rfl rfl rfl (X_fld rfl) ?_))) | ((with_reducible refine i_pick ?_); ((with_reducible refine i_ng ?_); (first | refine Ls (X_pickT (v := .bool _) rfl rfl) ?_ | refine Ls (X_pickF (v := .bool _) rfl rfl) ?_))) | ((with_reducible refine i_load ?_); (first | ((with_reducible refine i_ng ?_); (first | refine Ls (X_ld (cs := shC (s.R : Nat) (s.C : Nat) (s.B : Nat) (s.t : Nat)) rfl C2 rfl) ?_ | refine Ls (X_ld (cs := pxC (.slice A1 RW.length c1) (.slice A2 RD.length c2) (.slice A3 CL.length c3) qv) rfl B3 rfl) ?_)) | ((with_reducible refine i_gd ?_); (first | refine Lg2 rfl rfl rfl (X_ld (cs := shC (s.R : Nat) (s.C : Nat) (s.B : Nat) (s.t : Nat)) rfl C2 rfl) ?_ | refine Lg2 rfl rfl rfl (X_ld (cs := pxC (.slice A1 RW.length c1) (.slice A2 RD.length c2) (.slice A3 CL.length c3) qv) rfl B3 rfl) ?_)))) | ((with_reducible refine i_gd ?_); refine Lo2 rfl rfl rfl rfl ?_))
        exact endQ_ret1 rfl rfl (v := .bool _) rfl (hno _ (Ext.refl _) fun h => k3 h.l3)
    · (refine Ls (X_assign (v := .bool _) rfl) ?_; refine L_nil ?_; refine tn ?_; refine W_seq ?_; refine W_region ?_; refine Ls (X_fld rfl) ?_; refine Ls (X_ld (cs := pxC (.slice A1 RW.length c1) (.slice A2 RD.length c2) (.slice A3 CL.length c3) qv) rfl B3 rfl) ?_; refine Ls (X_lenSlice rfl) ?_; refine Ls (X_fld rfl) ?_; refine Ls (X_ld (cs := shC (s.R : Nat) (s.C : Nat) (s.B : Nat) (s.t : Nat)) rfl C2 rfl) ?_; refine Ls (X_eqlT rfl rfl (by omega)) ?_; refine Ls (X_move (v := .bool _) rfl) ?_; refine Lg2 rfl rfl rfl (X_fld rfl) ?_; refine Lg2 rfl rfl rfl (X_ld (cs := pxC (.slice A1 RW.length c1) (.slice A2 RD.length c2) (.slice A3 CL.length c3) qv) rfl B3 rfl) ?_; refine Lg2 rfl rfl rfl (X_lenSlice rfl) ?_; refine Lg2 rfl rfl rfl (X_fld rfl) ?_; refine Lg2 rfl rfl rfl (X_ld (cs := shC (s.R : Nat) (s.C : Nat) (s.B : Nat) (s.t : Nat)) rfl C2 rfl) ?_; refine Lg2 rfl rfl rfl (X_eqlF rfl rfl (by omega)) ?_; refine Ls (X_pickT (v := .bool _) rfl rfl) ?_; refine Ls (X_move (v := .bool _) rfl) ?_; refine Lo2 rfl rfl rfl rfl ?_; refine Lo2 rfl rfl rfl rfl ?_; refine Lo2 rfl rfl rfl rfl ?_; refine Lo2 rfl rfl rfl rfl ?_; refine Lo2 rfl rfl rfl rfl ?_; refine Lo2 rfl rfl rfl rfl ?_; refine Ls (X_pickF (v := .bool _) rfl rfl) ?_; refine Ls (X_move (v := .bool _) rfl) ?_; refine Lo2 rfl rfl rfl rfl ?_; refine Lo2 rfl rfl rfl rfl ?_; refine Lo2 rfl rfl rfl rfl ?_; refine Ls (X_pickF (v := .bool _) rfl rfl) ?_; refine Ls (X_move (v := .bool _) rfl) ?_; refine Lo2 rfl rfl rfl rfl ?_; refine Lo2 rfl rfl rfl rfl ?_; refine Lo2 rfl rfl rfl rfl ?_; refine Ls (X_pickF (v := .bool _) rfl rfl) ?_; refine Ls (X_move (v := .bool _) rfl) ?_; refine Lo2 rfl rfl rfl rfl ?_; refine Lo2 rfl rfl rfl rfl ?_; refine Lo2 rfl rfl rfl rfl ?_; refine Lo2 rfl rfl rfl rfl ?_; refine Ls (X_pickF (v := .bool _) rfl rfl) ?_; refine Ls (X_assign (v := .bool _) rfl) ?_; refine L_nil ?_; refine tn ?_; refine W_ret ?_)
      exact endQ_ret1 rfl rfl (v := .bool _) rfl (hno _ (Ext.refl _) fun h => k2 h.l2)
  · (refine Ls (X_assign (v := .bool _) rfl) ?_; refine L_nil ?_; refine tn ?_; refine W_seq ?_; refine W_region ?_; refine Ls (X_fld rfl) ?_; refine Ls (X_ld (cs := pxC (.slice A1 RW.length c1) (.slice A2 RD.length c2) (.slice A3 CL.length c3) qv) rfl B3 rfl) ?_; refine Ls (X_lenSlice rfl) ?_; refine Ls (X_fld rfl) ?_; refine Ls (X_ld (cs := shC (s.R : Nat) (s.C : Nat) (s.B : Nat) (s.t : Nat)) rfl C2 rfl) ?_; refine Ls (X_eqlF rfl rfl (by omega)) ?_; refine Ls (X_move (v := .bool _) rfl) ?_; refine Lo2 rfl rfl rfl rfl ?_; refine Lo2 rfl rfl rfl rfl ?_; refine Lo2 rfl rfl rfl rfl ?_; refine Lo2 rfl rfl rfl rfl ?_; refine Lo2 rfl rfl rfl rfl ?_; refine Lo2 rfl rfl rfl rfl ?_; refine Ls (X_pickF (v := .bool _) rfl rfl) ?_; refine Ls (X_move (v := .bool _) rfl) ?_; refine Lo2 rfl rfl rfl rfl ?_; refine Lo2 rfl rfl rfl rfl ?_; refine Lo2 rfl rfl rfl rfl ?_; refine Lo2 rfl rfl rfl rfl ?_; refine Lo2 rfl rfl rfl rfl ?_; refine Lo2 rfl rfl rfl rfl ?_; refine Ls (X_pickF (v := .bool _) rfl rfl) ?_; refine Ls (X_move (v := .bool _) rfl) ?_; refine Lo2 rfl rfl rfl rfl ?_; refine Lo2 rfl rfl rfl rfl ?_; refine Lo2 rfl rfl rfl rfl ?_; refine Ls (X_pickF (v := .bool _) rfl rfl) ?_; refine Ls (X_move (v := .bool _) rfl) ?_; refine Lo2 rfl rfl rfl rfl ?_; refine Lo2 rfl rfl rfl rfl ?_; refine Lo2 rfl rfl rfl rfl ?_; refine Ls (X_pickF (v := .bool _) rfl rfl) ?_; refine Ls (X_move (v := .bool _) rfl) ?_; refine Lo2 rfl rfl rfl rfl ?_; refine Lo2 rfl rfl rfl rfl ?_; refine Lo2 rfl rfl rfl rfl ?_; refine Lo2 rfl rfl rfl rfl ?_; refine Ls (X_pickF (v := .bool _) rfl rfl) ?_; refine Ls (X_assign (v := .bool _) rfl) ?_; refine L_nil ?_; refine tn ?_; refine W_ret ?_)
    exact endQ_ret1 rfl rfl (v := .bool _) rfl (hno _ (Ext.refl _) fun h => k1 h.l1)
end Go.Proofs.YtpohjepbmgeplaaGreatDoor

/- Commitments: Verify, the program's. -/
namespace Go.Proofs.YtpohjepbmgeplaaGreatDoor
open Go.RowKit Go.Proofs.K
open _root_.Fd (K E pw root trow enc ccol comb)
open _root_.Cm (Sh pws pwE)

/-- an opened value, in the machine -/
def vopC (pv : Value) (rho : Nat × Nat) (iv : Value) (log : Int) (v : Nat × Nat) (rv nv cv qv : Value) : List Value :=
  [pv, .int .u64 (rho.1 : Nat), .int .u64 (rho.2 : Nat), iv, .int .i64 log, .int .u64 (v.1 : Nat), .int .u64 (v.2 : Nat), rv, nv, cv, qv]
/-- the arguments of a verification are valid -/
structure VArg (R C B T log : Int) (P : List (Nat × Nat)) (rho : Nat × Nat) (I : List Int) (v : Nat × Nat) (RW RD : List (Nat × Nat)) (CL : List (List Nat)) (s : Sh) : Prop where
  ok : s.Ok
  r : R = ((s.R : Nat) : Int)
  c : C = ((s.C : Nat) : Int)
  b : B = ((s.B : Nat) : Int)
  t : T = ((s.t : Nat) : Int)
  log : log = ((s.a + s.c : Nat) : Int)
  pos : PosOk s P rho I
  v : isE v
  sh : ShpOk s RW RD CL
/-- the answer for valid arguments -/
def verZ (s : Sh) (rt : List Nat) (P : List (Nat × Nat)) (rho : Nat × Nat) (I : List Int) (v : Nat × Nat) (RW RD : List (Nat × Nat)) (CL : List (List Nat)) (ns : List (List Nat)) : Nat :=
  Cm.verC lf nd by8 s rt (toI I) (P.map toE) (toE rho) (toE v) (RW.map toE) (RD.map toE) (CL.map fun c => c.map Fd.k) ns
theorem X_mkLeaves {n : NN} {f : Fr} {w : World} {d : Option Tmp} {t : TypeId} {pos : String} {af : Array Edge} {g : Option (Nat × Bool)} {x : Operand} {iv : Value} (hx : ev n f x = iv) (h1 : iv.cells = [iv].toArray) :
    X Tryz.prog n ⟨d, .build 128 #[(0, x)], t, pos, af, g⟩ f w = .ok (.value (.agg [iv, .slice none 0 0].toArray)) w := by
  have := X_build (P := Tryz.prog) (ty := 128) (n := n) (f := f) (w := w) (d := d) (t := t) (pos := pos) (af := af) (g := g) (zs := [[.slice none 0 0], [.slice none 0 0]]) (Parts.cons (i := 0) (c := [iv]) (z := [.slice none 0 0]) hx h1 rfl rfl (Parts.nil _))
  simpa using this
theorem X_neqE {n : NN} {f : Fr} {w : World} {d : Option Tmp} {t : TypeId} {pos : String} {af : Array Edge} {g : Option (Nat × Bool)} {x y : Operand} {a b : E} {q : Bool} (hx : ev n f x = .agg (xc a).toArray) (hy : ev n f y = .agg (xc b).toArray) (hq : q = true ↔ a ≠ b) :
    X Tryz.prog n ⟨d, .binOp .neq 31 x y 31, t, pos, af, g⟩ f w = .ok (.value (.bool q)) w := by
  have ha := a.a.isLt
  have ha' := a.b.isLt
  have hb := b.a.isLt
  have hb' := b.b.isLt
  have hp : Fd.pr < 18446744073709551616 := by decide
  rw [X_neqEx (by omega) (by omega) (by omega) (by omega) hx hy]
  congr 3
  rw [Bool.eq_iff_iff, decide_eq_true_eq, hq]
  exact not_congr ⟨fun ⟨h1, h2⟩ => by cases a; cases b; simp only at h1 h2; congr 1 <;> exact Fin.ext (by assumption), fun h => by rw [h]; exact ⟨rfl, rfl⟩⟩
theorem kvals {c : List Nat} (h : ∀ x ∈ c, x < Fd.pr) : vals (c.map Fd.k) = c := by
  unfold vals
  rw [List.map_map]
  conv => rhs; rw [← List.map_id c]
  exact List.map_congr_left fun x hx => Fd.k_of (h x hx)
end Go.Proofs.YtpohjepbmgeplaaGreatDoor

/- Commitments: Verify, the program's. -/
namespace Go.Proofs.YtpohjepbmgeplaaGreatDoor
open Go.RowKit Go.Proofs.K
open _root_.Fd (K E pw root trow enc ccol comb)
open _root_.Cm (Sh pws pwE)

theorem take_row {w : World} {lo hi m c : Nat} {A : Option Addr} {P : List E} (h : Row w lo hi 2 (.slice A m c) m (exs (raw P))) (hl : P.length = m) {j : Nat} (hj : j ≤ m) :
    Row w lo hi 2 (.slice (if c = 0 then A else A.map (·.add (0 * 2))) (j - 0) (c - 0)) (P.take j).length (exs (raw (P.take j))) := by
  have := h.slice (i := 0) (j := j) rfl (Nat.zero_le _) hj
  have e : ((exs (raw P)).drop (0 * 2)).take ((j - 0) * 2) = exs (raw (P.take j)) := by rw [Nat.zero_mul, List.drop_zero, Nat.sub_zero, raw_take]
  rw [e] at this
  rw [List.length_take, hl, show min j m = j - 0 by omega]
  exact this
set_option maxRecDepth 100000 in
set_option maxHeartbeats 8000000 in
theorem gcverify (rt : List Nat) (hrt : rt.length = 32) (hrt8 : Sha.bytesOk rt) (R C B T log : Int) (hR : I64 R) (hC : I64 C) (hB : I64 B) (hT : I64 T) (hlog : I64 log) (pl ph il ih l1 h1 l2 h2 : Nat) (pv iv rv nv cv qv : Value) (P : List (Nat × Nat)) (rho : Nat × Nat) (I : List Int) (v : Nat × Nat) (RW RD : List (Nat × Nat)) (CL ns : List (List Nat))
    (hPl : P.length ≤ 1000000) (hIl : I.length ≤ 1000000) (hRW : RW.length ≤ 1000000) (hRD : RD.length ≤ 1000000) (hCl : CL.length ≤ 1000000) (hCL : ∀ c ∈ CL, c.length ≤ 1000000) (hnk : DgOk ns) (hnl : ns.length ≤ 1000000)
    (w : World) (hw : Tb w) (hp : Row w pl ph 2 pv P.length (exs P)) (hi' : Row w il ih 1 iv I.length (I.map (Value.int .i64))) (hr : Row w l1 h1 2 rv RW.length (exs RW)) (hn : Row w l2 h2 2 nv RD.length (exs RD)) (hc : PartN (fun _ => True) w .u64 cv CL) (hq : RowN (fun _ => True) w 32 qv ns.length (dgs ns)) :
    Calls Tryz.prog 24 #[.agg (ints .u8 rt).toArray, .agg (shC R C B T).toArray, .agg (vopC pv rho iv log v rv nv cv qv).toArray] w fun e w' => ∃ r : Int, e = .returned (.int .i64 r) ∧ Ext w w' ∧
      ((∃ s, VArg R C B T log P rho I v RW RD CL s ∧ r = (verZ s rt P rho I v RW RD CL ns : Nat)) ∨ (¬ (∃ s, VArg R C B T log P rho I v RW RD CL s) ∧ r = 1)) := by
  have hp1 := row_cell1 hp
  have hi1 := row_cell1 hi'
  have hr1 := row_cell1 hr
  have hn1 := row_cell1 hn
  obtain ⟨_, _, _, hq'⟩ := hq
  have hq1 := row_cell1 hq'
  have hq : RowN (fun _ => True) w 32 qv ns.length (dgs ns) := ⟨_, _, fun _ _ _ => trivial, hq'⟩
  have hcc := hc
  obtain ⟨vs, hvl, ⟨lc, hc', _, hrc⟩, hvx⟩ := hc
  have hc1 := row_cell1 hrc
  refine calls_W Tryz.func24 rfl Tryz.ntmps24 rfl ?_
  (refine W_seq ?_; refine W_region ?_)
  refine L_box rfl ?_
  intro g3 w1 B3 hg3 E1 hs1
  refine L_box rfl ?_
  intro g4 w2 B4 hg4 E2 hs2
  refine L_box rfl ?_
  intro g5 w3 B5 hg5 E3 hs3
  have C3 := B3.ext (E2.trans E3)
  have C4 := B4.ext E3
  have E13 := E1.trans (E2.trans E3)
  have hno : ∀ w', Ext w3 w' → (∀ s, ¬ VArg R C B T log P rho I v RW RD CL s) → ∃ r : Int, Ending.returned (.int .i64 1) = .returned (.int .i64 r) ∧ Ext w w' ∧ ((∃ s, VArg R C B T log P rho I v RW RD CL s ∧ r = (verZ s rt P rho I v RW RD CL ns : Nat)) ∨ (¬ (∃ s, VArg R C B T log P rho I v RW RD CL s) ∧ r = 1)) :=
    fun w' E h => ⟨1, rfl, E13.trans E, .inr ⟨fun ⟨s, hs⟩ => h s hs, rfl⟩⟩
  (refine Ls (X_assign (v := .int _ _) rfl) ?_; refine L_nil ?_; refine tn ?_; refine W_seq ?_; refine W_seq ?_; refine W_region ?_; refine Ls (X_ldW (cs := shC R C B T) rfl C4 rfl) ?_; refine Ls (X_fld rfl) ?_; refine Ls (X_ld (cs := vopC pv rho iv log v rv nv cv qv) rfl B5 rfl) ?_)
  refine L_fo (F := fun u w' => ∃ b : Bool, u = .bool b ∧ (b = true ↔ SOk R C B T log) ∧ Ext w3 w') rfl ((gcvalid R C B T log hR hC hB hT hlog w3).mono fun e w' ⟨b, h1, h2, h3⟩ => ⟨_, h1, b, rfl, h2, h3⟩) ?_
  rintro _ w4 ⟨b0, rfl, hb0, E4⟩
  cases b0 with
  | false =>
    (refine Ls (X_not rfl) ?_; refine Ls (X_move (v := .bool _) rfl) ?_; refine Lo2 rfl rfl rfl rfl ?_; refine Lo2 rfl rfl rfl rfl ?_; refine Lo2 rfl rfl rfl rfl ?_; refine Lo2 rfl rfl rfl rfl ?_; refine Lo2 rfl rfl rfl rfl ?_; refine Lo2 rfl rfl rfl rfl ?_; refine Lo2 rfl rfl rfl rfl ?_; refine Ls (X_pickT (v := .bool _) rfl rfl) ?_; refine Ls (X_move (v := .bool _) rfl) ?_; refine Lo2 rfl rfl rfl rfl ?_; refine Lo2 rfl rfl rfl rfl ?_; refine Lo2 rfl rfl rfl rfl ?_; refine Lo2 rfl rfl rfl rfl ?_; refine Ls (X_pickT (v := .bool _) rfl rfl) ?_; refine Ls (X_move (v := .bool _) rfl) ?_; refine Lo2 rfl rfl rfl rfl ?_; refine Lo2 rfl rfl rfl rfl ?_; refine Lo2 rfl rfl rfl rfl ?_; refine Lo2 rfl rfl rfl rfl ?_; refine Lo2 rfl rfl rfl rfl ?_; refine Ls (X_pickT (v := .bool _) rfl rfl) ?_; refine L_nil ?_; refine tn ?_; refine W_condT rfl ?_; refine W_seq ?_; refine W_region ?_; refine Ls (X_assign (v := .int _ _) rfl) ?_; refine L_nil ?_; refine tn ?_; refine W_ret ?_; refine tr ?_)
    exact endQ_ret1 rfl rfl (v := .int _ _) rfl (hno _ E4 fun s h => by
      have := hb0.2 (by rw [h.r, h.c, h.b, h.t, h.log]; exact sh_ok h.ok)
      cases this)
  | true =>
    have hok := hb0.1 rfl
    obtain ⟨s, hs, rfl, rfl, rfl, rfl, hlog'⟩ := hok.sh
    subst hlog'
    have hsj : ∀ s', VArg (s.R : Nat) (s.C : Nat) (s.B : Nat) (s.t : Nat) ((s.a + s.c : Nat) : Int) P rho I v RW RD CL s' → s' = s := fun s' h => (sh_inj h.r h.c h.b h.t).symm
    have C4 := C4.ext E4
    have C5 := B5.ext E4
    (refine Ls (X_not rfl) ?_; refine Ls (X_move (v := .bool _) rfl) ?_; refine Lg2 rfl rfl rfl (X_ldW (cs := shC (s.R : Nat) (s.C : Nat) (s.B : Nat) (s.t : Nat)) rfl C4 rfl) ?_; refine Lg2 rfl rfl rfl (X_fld rfl) ?_; refine Lg2 rfl rfl rfl (X_ld (cs := vopC pv rho iv ((s.a + s.c : Nat) : Int) v rv nv cv qv) rfl C5 rfl) ?_; refine Lg2 rfl rfl rfl (X_fld rfl) ?_; refine Lg2 rfl rfl rfl (X_ldA (size := 4) (l := waC pv rho iv) rfl C5 rfl rfl) ?_)
    refine L_strip rfl rfl rfl ?_
    refine L_fo (F := fun u w' => ∃ b : Bool, u = .bool b ∧ (b = true ↔ PosOk s P rho I) ∧ Ext w4 w') rfl ((gpositioned s hs pl ph il ih pv iv P rho I hPl hIl w4 ((hp.ext E13).ext E4) ((hi'.ext E13).ext E4)).mono fun e w' ⟨b, h1, h2, h3⟩ => ⟨_, h1, b, rfl, h2, h3⟩) ?_
    rintro _ w5 ⟨b1, rfl, hb1, E5⟩
    have E45 := E4.trans E5
    cases b1 with
    | false =>
      (refine Lg2 rfl rfl rfl (X_not rfl) ?_; refine Ls (X_pickF (v := .bool _) rfl rfl) ?_; refine Ls (X_move (v := .bool _) rfl) ?_; refine Lo2 rfl rfl rfl rfl ?_; refine Lo2 rfl rfl rfl rfl ?_; refine Lo2 rfl rfl rfl rfl ?_; refine Lo2 rfl rfl rfl rfl ?_; refine Ls (X_pickT (v := .bool _) rfl rfl) ?_; refine Ls (X_move (v := .bool _) rfl) ?_; refine Lo2 rfl rfl rfl rfl ?_; refine Lo2 rfl rfl rfl rfl ?_; refine Lo2 rfl rfl rfl rfl ?_; refine Lo2 rfl rfl rfl rfl ?_; refine Lo2 rfl rfl rfl rfl ?_; refine Ls (X_pickT (v := .bool _) rfl rfl) ?_; refine L_nil ?_; refine tn ?_; refine W_condT rfl ?_; refine W_seq ?_; refine W_region ?_; refine Ls (X_assign (v := .int _ _) rfl) ?_; refine L_nil ?_; refine tn ?_; refine W_ret ?_; refine tr ?_)
      exact endQ_ret1 rfl rfl (v := .int _ _) rfl (hno _ E45 fun s' h => by
        have e := hsj s' h
        subst e
        have := hb1.2 h.pos
        cases this)
    | true =>
      have hpos := hb1.1 rfl
      have C4 := C4.ext E5
      have C5 := C5.ext E5
      (refine Lg2 rfl rfl rfl (X_not rfl) ?_; refine Ls (X_pickF (v := .bool _) rfl rfl) ?_; refine Ls (X_move (v := .bool _) rfl) ?_; refine Lg2 rfl rfl rfl (X_fld rfl) ?_; refine Lg2 rfl rfl rfl (X_ldA (size := 2) (l := exC v.1 v.2) rfl C5 rfl rfl) ?_)
      refine L_strip rfl rfl rfl ?_
      refine L_fo (F := fun u w' => ∃ b : Bool, u = .bool b ∧ (b = true ↔ isE v) ∧ Ext w5 w') rfl ((gexvalid v.1 v.2 w5).mono fun e w' ⟨h1, h2⟩ => ⟨_, h1, _, rfl, by simp [isE], h2⟩) ?_
      rintro _ w6 ⟨b2, rfl, hb2, E6⟩
      have E46 := E45.trans E6
      cases b2 with
      | false =>
        (refine Lg2 rfl rfl rfl (X_not rfl) ?_; refine Ls (X_pickF (v := .bool _) rfl rfl) ?_; refine Ls (X_move (v := .bool _) rfl) ?_; refine Lo2 rfl rfl rfl rfl ?_; refine Lo2 rfl rfl rfl rfl ?_; refine Lo2 rfl rfl rfl rfl ?_; refine Lo2 rfl rfl rfl rfl ?_; refine Lo2 rfl rfl rfl rfl ?_; refine Ls (X_pickT (v := .bool _) rfl rfl) ?_; refine L_nil ?_; refine tn ?_; refine W_condT rfl ?_; refine W_seq ?_; refine W_region ?_; refine Ls (X_assign (v := .int _ _) rfl) ?_; refine L_nil ?_; refine tn ?_; refine W_ret ?_; refine tr ?_)
        exact endQ_ret1 rfl rfl (v := .int _ _) rfl (hno _ E46 fun s' h => by
          have := hb2.2 h.v
          cases this)
      | true =>
        have hve := hb2.1 rfl
        have C4 := C4.ext E6
        have C5 := C5.ext E6
        have E16 := E13.trans E46
        (refine Lg2 rfl rfl rfl (X_not rfl) ?_; refine Ls (X_pickF (v := .bool _) rfl rfl) ?_; refine Ls (X_move (v := .bool _) rfl) ?_; refine Lg2 rfl rfl rfl (X_ldW (cs := shC (s.R : Nat) (s.C : Nat) (s.B : Nat) (s.t : Nat)) rfl C4 rfl) ?_; refine Lg2 rfl rfl rfl (X_fld rfl) ?_; refine Lg2 rfl rfl rfl (X_ldA (size := 4) (l := pxC rv nv cv qv) rfl C5 rfl rfl) ?_)
        refine L_strip rfl rfl rfl ?_
        refine L_fo (F := fun u w' => ∃ b : Bool, u = .bool b ∧ (b = true ↔ ShpOk s RW RD CL) ∧ Ext w6 w') rfl ((gshaped s hs l1 h1 l2 h2 rv nv cv qv hq1 RW RD CL hRW hRD hCl hCL w6 (hr.ext E16) (hn.ext E16) (hcc.ext E16)).mono fun e w' ⟨b, h1, h2, h3⟩ => ⟨_, h1, b, rfl, h2, h3⟩) ?_
        rintro _ w7 ⟨b3, rfl, hb3, E7⟩
        have E47 := E46.trans E7
        cases b3 with
        | false =>
          (refine Lg2 rfl rfl rfl (X_not rfl) ?_; refine Ls (X_pickF (v := .bool _) rfl rfl) ?_; refine L_nil ?_; refine tn ?_; refine W_condT rfl ?_; refine W_seq ?_; refine W_region ?_; refine Ls (X_assign (v := .int _ _) rfl) ?_; refine L_nil ?_; refine tn ?_; refine W_ret ?_; refine tr ?_)
          exact endQ_ret1 rfl rfl (v := .int _ _) rfl (hno _ E47 fun s' h => by
            have e := hsj s' h
            subst e
            have := hb3.2 h.sh
            cases this)
        | true =>
          have hsp := hb3.1 rfl
          have hVA : VArg (s.R : Nat) (s.C : Nat) (s.B : Nat) (s.t : Nat) ((s.a + s.c : Nat) : Int) P rho I v RW RD CL s := ⟨hs, rfl, rfl, rfl, rfl, rfl, hpos, hve, hsp⟩
          have C3 := C3.ext E47
          have C4 := C4.ext E7
          have C5 := C5.ext E7
          have E17 := E13.trans E47
          obtain ⟨Ac, cc, rfl⟩ : ∃ A c, cv = .slice A CL.length c := by
            obtain ⟨_, A, c, rfl, _⟩ := hrc
            exact ⟨A, c, rfl⟩
          obtain ⟨Ai, ci, rfl⟩ : ∃ A c, iv = .slice A I.length c := by
            obtain ⟨_, A, c, rfl, _⟩ := hi'
            exact ⟨A, c, rfl⟩
          obtain ⟨Ap, cp, rfl, hcp⟩ : ∃ A c, pv = .slice A P.length c ∧ P.length ≤ c := by
            obtain ⟨_, A, c, rfl, h, _⟩ := hp
            exact ⟨A, c, rfl, h⟩
          have hR16 : s.R ≤ 65536 := (pow_le16 (a := s.a) (by have := hs.ac; omega)).2
          have hC16 : s.C ≤ 65536 := (pow_le16 (a := s.c) (by have := hs.ac; omega)).2
          have hR1 : 1 ≤ s.R := Nat.pow_pos (by decide)
          have hn16 : s.n ≤ 65536 := (pow_le16 hs.cb).2
          have hn1' : 1 ≤ s.n := Nat.pow_pos (by decide)
          have hBC : ((s.B : Nat) : Int) * ((s.C : Nat) : Int) = ((s.n : Nat) : Int) := by rw [← Int.natCast_mul, Cm.Sh.BC]
          have hI0 : ∀ i ∈ I, 0 ≤ i := fun i hi => (hpos.ix i hi).1
          have hIs := toI_srt hI0 hpos.srt
          have hIin := toI_lt hpos.ix
          have hlI := toI_len I
          have hIrow : ∀ y, Ext w y → Row y il ih 1 (.slice Ai I.length ci) (toI I).length (ints .i64 (toI I)) := fun y E => by
            have := hi'.ext E
            rw [toI_ints hI0] at this
            rw [toI_len]; exact this
          have hCLr : ∀ c ∈ CL, c.length = s.R := fun c hc => (hsp.cl c hc).1
          have hbs : (CL.map fun c => c.map Fd.k).map by8 = CL.map encB := by
            rw [List.map_map]
            exact List.map_congr_left fun c hc => by
              show encB (vals (c.map Fd.k)) = _
              rw [kvals (hsp.cl c hc).2]
          have hBs : BsOk (CL.map encB) := fun b hb => by
            obtain ⟨c, hc, rfl⟩ := List.mem_map.1 hb
            refine ⟨encB_ok _, ?_⟩
            rw [encB_len, hCLr c hc]; omega
          have hokk : Mk.okP lf nd s.n (toI I) (CL.map encB) ns rt ↔ Mk.okR lf nd s.n (toI I) (CL.map encB) ns rt := Mk.ok_iff lf nd hn1' hIin hIs _ _ (by rw [List.length_map, hsp.l3, hlI, hpos.i]) rt
          (refine Lg2 rfl rfl rfl (X_not rfl) ?_; refine Ls (X_pickF (v := .bool _) rfl rfl) ?_; refine L_nil ?_; refine tn ?_; refine W_condF rfl ?_; refine W_skip ?_; refine tn ?_; refine W_seq ?_; refine W_region ?_; refine Ls (X_fld rfl) ?_; refine Ls (X_fld rfl) ?_; refine Ls (X_ld (cs := vopC (.slice Ap P.length cp) rho (.slice Ai I.length ci) ((s.a + s.c : Nat) : Int) v rv nv (.slice Ac CL.length cc) qv) rfl C5 rfl) ?_)
          refine Ls (X_mkLeaves (iv := .slice Ai I.length ci) rfl rfl) ?_
          skip
          refine L_alloc ?_
          intro g7 w8 B7 hg7 E8 hs8
          refine L_storeW (l := [.slice Ai I.length ci, .slice none 0 0]) rfl rfl rfl (by simp [Value.oneCell']) B7 rfl ?_
          intro w9 B7' hg9 hs9
          have E79 : Ext w7 w9 := E8.then hg9 (fun g h => by cases h; omega)
          (refine L_nil ?_; refine tn ?_; refine W_seq ?_; refine W_seq ?_; refine W_region ?_; refine Ls (X_fld rfl) ?_; refine Ls (X_fld rfl) ?_; refine Ls (X_ld (cs := vopC (.slice Ap P.length cp) rho (.slice Ai I.length ci) ((s.a + s.c : Nat) : Int) v rv nv (.slice Ac CL.length cc) qv) rfl (C5.ext E79) rfl) ?_; refine Ls (X_lenSlice rfl) ?_; refine Ls (X_move (v := .int _ _) rfl) ?_; refine L_nil ?_; refine tn ?_; refine W_block ?_)
          refine W_loop (fun q f w' => ∃ (i : Nat) (u : Value) (xs : List Value), q = CL.length - i ∧ i ≤ CL.length ∧ f 3 = .pointer (some ⟨g3, 0, none⟩) ∧ f 4 = .pointer (some ⟨g4, 0, none⟩) ∧ f 5 = .pointer (some ⟨g5, 0, none⟩) ∧ f 7 = .pointer (some ⟨g7, 0, none⟩) ∧ f 51 = .slice Ac CL.length cc ∧ f 52 = .int .i64 (CL.length : Nat) ∧ f 53 = .int .i64 (i : Nat) ∧ Ext w7 w' ∧ Blk w' g7 128 [.slice Ai I.length ci, u] ∧ w'.ownsRow w7.heap.size 129 1 u i xs ∧
            (∀ (k : Nat) (x : Value) (c : List Nat), xs[k]? = some x → CL[k]? = some c → w'.ownsRow w7.heap.size 5 1 x (encB c).length (ints .u8 (encB c)))) CL.length ?_ ?_
          · exact ⟨0, .slice none 0 0, [], rfl, by omega, rfl, rfl, rfl, rfl, rfl, rfl, rfl, E79, B7', ⟨rfl, .inl ⟨rfl, rfl⟩⟩, (fun _ _ _ h => by cases h)⟩
          · rintro q0 f wr ⟨i, u, xs, hq0, hil, f3, f4, f5, f7, f51, f52, f53, hE, D7, ou, ox⟩
            have hu1 := row_cell1 (Row.of_own ou)
            rw [fold f3, fold f4, fold f5, fold f7, fold f51, fold f52, fold f53]
            (refine W_seq ?_; refine W_region ?_; refine Ls (X_lss rfl rfl) ?_; refine L_nil ?_; refine tn ?_; refine W_seq ?_)
            refine W_condp rfl (fun h => ?_) (fun h => ?_)
            · have hlt : i < CL.length := by omega
              obtain ⟨x, hx⟩ : ∃ x, vs[i]? = some x := ⟨_, List.getElem?_eq_getElem (by omega)⟩
              obtain ⟨c, hcx⟩ : ∃ c, CL[i]? = some c := ⟨_, List.getElem?_eq_getElem hlt⟩
              have hcl := hCLr c (List.mem_of_getElem? hcx)
              obtain ⟨_, _, _, hrx⟩ := hvx i x c hx hcx
              have hx1 := row_cell1 hrx
              obtain ⟨b, o, c', e, _, _, _, hRg⟩ := ((hrc.ext E17).ext hE).at hlt
              cases e
              have hxl : xs.length = i := by rw [ou.1, Nat.mul_one]
              (refine W_skip ?_; refine tn ?_; refine W_seq ?_; refine W_block ?_; refine W_seq ?_; refine W_region ?_; refine Ls (X_indexSn rfl rfl (by omega)) ?_; refine Ls (X_ldR rfl hRg (j := i) (by omega) hx) ?_; refine Ls (X_assign (v := x) rfl) ?_; refine L_nil ?_; refine tn ?_)
              apply W_dagE 5 (by kernel_rfl)
              (apply DW_x (fun r w hA hH => (X_fld rfl).trans rfl); apply DW_x (fun r w hA hH => (X_ld rfl (D7.ext hA) rfl).trans rfl); apply DW_x (fun r w hA hH => (X_move (v := x) rfl).trans rfl))
              ((with_reducible apply DW_fo); (exact fun _ => rfl); (exact fun _ => rfl); (exact fun r w hA hH => calls_own hA (gencodeB _ _ x c (by omega) w (((hrx.ext E17).ext hE).ext hA))); (exact fun _ _ _ _ _ _ E h => OwnF.ext E h))
              apply DW_lit1 (w0 := wr) (fun r => r 3) (fun r => rfl) (fun r w hA hH => (by obtain ⟨_, _, o⟩ := hH 3 rfl; exact row_cell1 (Row.of_own o))) (fun w hA => hA.size) (fun r v => rfl)
              ((with_reducible exact D_end); (exact rfl); (repeat (first | exact .inr (.inr (fun _ _ => by with_reducible rfl)) | (refine And.intro ?_ ?_) | exact .inr (.inl rfl) | exact .inl (by decide +kernel) | exact trivial | exact .inr (.inr (fun _ _ => rfl)))); (try dsimp only [Nat.reduceAdd]))
              intro r y1 F1 H1
              obtain ⟨bq, hbq, o2⟩ : OwnF wr 5 1 (r 3) _ _ y1 := H1 3
              obtain ⟨l4, h4, hl4, r4⟩ : RowF wr 1 (r 4) 1 [r 3] y1 := H1 4
              have hr3 := row_cell1 (Row.of_own o2)
              have ou' := own_ext ou F1
              refine L_append (v := u) (u := r 4) rfl rfl ou' r4 (fun x hx => by rw [List.mem_singleton.1 hx]; exact hr3) (by omega) (by omega) (by have := F1.size; have := hE.size; omega) ?_
              intro u4 y4 o4 hg4' hb4
              have hu4 := row_cell1 (Row.of_own o4)
              have G7 := (D7.ext F1).grown hg4' (fun h => by
                obtain ⟨_, cs, fz, e⟩ := own_obj ou' g7 h
                exact blk_ty (D7.ext F1) e (by decide))
              have hxo : ∀ (x : Value) (m : Nat) (l : List Value) (bs : Nat), y1.ownsRow bs 5 1 x m l → y4.ownsRow bs 5 1 x m l := fun x m l bs h => own_other h hg4' (fun g hg e => by
                obtain ⟨_, cs, fz, e1⟩ := own_obj h g hg
                obtain ⟨_, cs', fz', e2⟩ := own_obj ou' g e
                rw [e1] at e2
                cases e2)
              (refine Ls (X_fld rfl) ?_)
              refine L_store1 (v := u4) rfl rfl hu4 G7 (by simp) ?_
              intro y5 G7' hg5' hs5
              have G7' : Blk y5 g7 128 [.slice Ai I.length ci, u4] := G7'
              have hx5 : ∀ (x : Value) (m : Nat) (l : List Value) (bs : Nat) (T : TypeId), T ≠ 128 → y4.ownsRow bs T 1 x m l → y5.ownsRow bs T 1 x m l := fun x m l bs T hT h => own_other h hg5' (fun g hg e => by
                obtain rfl : g7 = g := Option.some.inj e
                obtain ⟨_, cs, fz, e1⟩ := own_obj h g7 hg
                exact blk_ty G7 e1 (Ne.symm hT))
              (refine L_nil ?_; refine bn ?_; refine tn ?_; refine W_region ?_; refine Ls (X_addi rfl rfl (by omega)) ?_; refine Ls (X_move (v := .int _ _) rfl) ?_; refine L_nil ?_; refine tn ?_)
              refine ⟨CL.length - (i + 1), by omega, i + 1, u4, xs ++ [r 3], rfl, by omega, rfl, rfl, rfl, rfl, rfl, rfl, rfl, ((hE.trans F1).then hg4' (fun g h => (own_obj ou' g h).1)).then hg5' (fun g h => by cases h; omega), G7', hx5 _ _ _ _ _ (by decide) o4, fun k z d hz hd => ?_⟩
              rcases Nat.lt_or_ge k i with hk | hk
              · rw [List.getElem?_append_left (by omega)] at hz
                exact hx5 _ _ _ _ _ (by decide) (hxo _ _ _ _ (own_ext (ox k z d hz hd) F1))
              · have hke : k = i := by
                  have := (List.getElem?_eq_some_iff.1 hz).1
                  rw [List.length_append, hxl] at this
                  simp at this
                  omega
                subst hke
                rw [List.getElem?_append_right (by omega), hxl, Nat.sub_self] at hz
                cases hz
                rw [hcx] at hd
                cases hd
                exact hx5 _ _ _ _ _ (by decide) (hxo _ _ _ _ (own_base o2 (by have := hE.size; omega)))
            · have hin : i = CL.length := by omega
              rw [hin] at ou
              have hPB : PartN (fun _ => True) wr .u8 u (CL.map encB) := by
                refine ⟨xs, by rw [List.length_map, ou.1, Nat.mul_one], ?_, fun k x y hx hy => ?_⟩
                · rw [List.length_map]
                  exact (RowN.of_own ou).mono fun _ _ => trivial
                · rw [List.getElem?_map] at hy
                  obtain ⟨c, hcx, rfl⟩ := Option.map_eq_some_iff.1 hy
                  exact (RowN.of_own (ox k x c hx hcx)).mono fun _ _ => trivial
              have C3 := C3.ext hE
              have C4 := C4.ext hE
              have C5 := C5.ext hE
              have E1r := E17.trans hE
              have hvd : ∀ r : Nat, verZ s rt P rho I v RW RD CL ns = r → ∀ w', Ext wr w' → ∃ r' : Int, Ending.returned (.int .i64 (r : Nat)) = .returned (.int .i64 r') ∧ Ext w w' ∧ ((∃ s', VArg (s.R : Nat) (s.C : Nat) (s.B : Nat) (s.t : Nat) ((s.a + s.c : Nat) : Int) P rho I v RW RD CL s' ∧ r' = (verZ s' rt P rho I v RW RD CL ns : Nat)) ∨ (¬ (∃ s', VArg (s.R : Nat) (s.C : Nat) (s.B : Nat) (s.t : Nat) ((s.a + s.c : Nat) : Int) P rho I v RW RD CL s') ∧ r' = 1)) :=
                fun r h w' E => ⟨_, rfl, E1r.trans E, .inl ⟨s, hVA, by rw [h]⟩⟩
              (refine W_exit ?_; refine te ?_; refine te ?_; refine bx ?_; refine tn ?_; refine W_seq ?_; refine W_seq ?_; refine W_region ?_; refine Ls (X_ldW (cs := ints .u8 rt) rfl C3 (by rw [ints_len]; exact hrt)) ?_; refine Ls (X_fld rfl) ?_; refine Ls (X_ld (cs := shC (s.R : Nat) (s.C : Nat) (s.B : Nat) (s.t : Nat)) rfl C4 rfl) ?_; refine Ls (X_fld rfl) ?_; refine Ls (X_ld (cs := shC (s.R : Nat) (s.C : Nat) (s.B : Nat) (s.t : Nat)) rfl C4 rfl) ?_; refine Ls ((X_muli rfl rfl ⟨by omega, by omega⟩).trans (by rw [hBC])) ?_; refine Ls (X_ldW (cs := [.slice Ai I.length ci, u]) rfl D7 rfl) ?_; refine Ls (X_fld rfl) ?_; refine Ls (X_fld rfl) ?_; refine Ls (X_ldA (size := 1) (l := [qv]) rfl C5 rfl rfl) ?_)
              refine L_fv rfl (gmverify (n := s.n) hn1' hn16 rt hrt hrt8 il ih (.slice Ai I.length ci) u qv (toI I) (CL.map encB) ns hIs hIin (by rw [List.length_map, hsp.l3, hlI, hpos.i]) hBs hnk hnl wr (hw.ext E1r) (hIrow wr E1r) hPB (hq.ext E1r)) ?_
              intro w10 E10
              have E1t := E1r.trans E10
              have C4 := C4.ext E10
              have C5 := C5.ext E10
              by_cases hok2 : Mk.okP lf nd s.n (toI I) (CL.map encB) ns rt
              · rw [if_pos hok2]
                obtain ⟨Pe, hPe⟩ : ∃ l, l = P.map toE := ⟨_, rfl⟩
                obtain ⟨row, hrow⟩ : ∃ l, l = RW.map toE := ⟨_, rfl⟩
                obtain ⟨rnd, hrnd⟩ : ∃ l, l = RD.map toE := ⟨_, rfl⟩
                obtain ⟨cols, hcols⟩ : ∃ l, l = CL.map fun c => c.map Fd.k := ⟨_, rfl⟩
                obtain ⟨W1, hW1⟩ : ∃ l, l = Fd.eqT (Pe.drop s.c) := ⟨_, rfl⟩
                obtain ⟨W2, hW2⟩ : ∃ l, l = pws (toE rho) s.R := ⟨_, rfl⟩
                have hPr : raw Pe = P := by rw [hPe]; exact raw_toE hpos.pv
                have hrowr : raw row = RW := by rw [hrow]; exact raw_toE hsp.e1
                have hrndr : raw rnd = RD := by rw [hrnd]; exact raw_toE hsp.e2
                have hPel : Pe.length = s.a + s.c := by rw [hPe, List.length_map]; exact hpos.p
                have hrowl : row.length = s.C := by rw [hrow, List.length_map]; exact hsp.l1
                have hrndl : rnd.length = s.C := by rw [hrnd, List.length_map]; exact hsp.l2
                have hrhoe := toE_val hpos.rv
                have hvee := toE_val hve
                have hW1l : W1.length = s.R := by rw [hW1, Fd.eqT_len, List.length_drop, hPel, show s.a + s.c - s.c = s.a by omega]; rfl
                have hW2l : W2.length = s.R := by rw [hW2, pws_len]
                have hPlen : P.length = Pe.length := by rw [hPe, List.length_map]
                have hver : verZ s rt P rho I v RW RD CL ns = if Cm.colOk s (toI I) Pe (toE rho) row rnd cols then if Fd.mleS row (Pe.take s.c) = toE v then 0 else 111 else 110 := by
                  unfold verZ Cm.verC
                  rw [hbs, if_pos (hokk.1 hok2), hPe, hrow, hrnd, hcols]
                have hcw := gcweights s hs pl ph (.slice Ap P.length cp) (.slice Ai I.length ci) rfl Pe (toE rho) hPel
                rw [hrhoe, hPr, ← hW1, ← hW2] at hcw
                (refine Ls (X_neqF rfl rfl (by omega)) ?_; refine L_nil ?_; refine tn ?_; refine W_condF rfl ?_; refine W_skip ?_; refine tn ?_; refine W_seq ?_; refine W_region ?_; refine Ls (X_ldW (cs := shC (s.R : Nat) (s.C : Nat) (s.B : Nat) (s.t : Nat)) rfl C4 rfl) ?_; refine Ls (X_fld rfl) ?_; refine Ls (X_ldA (size := 4) (l := waC (.slice Ap P.length cp) rho (.slice Ai I.length ci)) rfl C5 rfl rfl) ?_)
                refine L_fo (F := fun u w' => ∃ q1 q2, u = .tuple #[q1, q2] ∧ Ext w10 w' ∧ w'.ownsRow w10.heap.size 31 2 q1 s.R (exs (raw W1)) ∧ w'.ownsRow w10.heap.size 31 2 q2 s.R (exs (raw W2))) rfl ((hcw w10 (hw.ext E1t) ((hp.ext E1t).re hPlen rfl)).mono fun e w' ⟨q1, q2, h1, h2⟩ => ⟨_, h1, q1, q2, rfl, h2⟩) ?_
                rintro _ w11 ⟨q1, q2, rfl, E11, oq1, oq2⟩
                have hq11 := row_cell1 (Row.of_own oq1)
                have hq21 := row_cell1 (Row.of_own oq2)
                have C4 := C4.ext E11
                have C5 := C5.ext E11
                have E1u := E1t.trans E11
                (refine Ls (X_move (v := .tuple _) rfl) ?_; refine Ls (X_extract rfl rfl) ?_; refine Ls (X_extract rfl rfl) ?_; refine Ls (X_assign (v := q1) rfl) ?_; refine Ls (X_assign (v := q2) rfl) ?_; refine L_nil ?_; refine tn ?_; refine W_seq ?_; refine W_seq ?_; refine W_region ?_; refine Ls (X_fld rfl) ?_; refine Ls (X_fld rfl) ?_; refine Ls (X_ld (cs := vopC (.slice Ap P.length cp) rho (.slice Ai I.length ci) ((s.a + s.c : Nat) : Int) v rv nv (.slice Ac CL.length cc) qv) rfl C5 rfl) ?_; refine Ls (X_lenSlice rfl) ?_; refine Ls (X_move (v := .int _ _) rfl) ?_; refine L_nil ?_; refine tn ?_; refine W_block ?_)
                refine W_loop (fun q f w' => ∃ (i : Nat), q = I.length - i ∧ i ≤ I.length ∧ f 4 = .pointer (some ⟨g4, 0, none⟩) ∧ f 5 = .pointer (some ⟨g5, 0, none⟩) ∧ f 10 = q1 ∧ f 11 = q2 ∧ f 86 = .slice Ai I.length ci ∧ f 87 = .int .i64 (I.length : Nat) ∧ f 88 = .int .i64 (i : Nat) ∧ Ext w11 w' ∧
                  (∀ j, j < i → Fd.ev row (pw (root s.m) ((toI I).getD j 0)) = comb W1 (cols.getD j []) ∧ Fd.ev rnd (pw (root s.m) ((toI I).getD j 0)) = comb W2 (cols.getD j []))) I.length ?_ ?_
                · exact ⟨0, rfl, by omega, rfl, rfl, rfl, rfl, rfl, rfl, rfl, Ext.refl _, fun _ h => by omega⟩
                · rintro q0 f wz ⟨i, hq0, hil, f4, f5, f10, f11, f86, f87, f88, hZ, hall⟩
                  have C4 := C4.ext hZ
                  have C5 := C5.ext hZ
                  have E1z := E1u.trans hZ
                  rw [fold f4, fold f5, fold f10, fold f11, fold f86, fold f87, fold f88]
                  (refine W_seq ?_; refine W_region ?_; refine Ls (X_lss rfl rfl) ?_; refine L_nil ?_; refine tn ?_; refine W_seq ?_)
                  refine W_condp rfl (fun h => ?_) (fun h => ?_)
                  · have hlt : i < I.length := by omega
                    obtain ⟨j, hj⟩ : ∃ j, j = (toI I).getD i 0 := ⟨_, rfl⟩
                    have hjt : (toI I)[i]? = some j := by rw [hj, List.getD_eq_getElem?_getD, List.getElem?_eq_getElem (by omega)]; rfl
                    have hjn : j < s.n := hIin j (List.mem_of_getElem? hjt)
                    have hxv : (I.map (Value.int .i64))[i]? = some (.int .i64 (j : Nat)) := by
                      rw [toI_ints hI0]
                      unfold ints
                      rw [List.getElem?_map, hjt]; rfl
                    obtain ⟨x, hx⟩ : ∃ x, vs[i]? = some x := ⟨_, List.getElem?_eq_getElem (by rw [hvl, hsp.l3, ← hpos.i]; exact hlt)⟩
                    have hiC : i < CL.length := by rw [hsp.l3, ← hpos.i]; exact hlt
                    obtain ⟨c, hcx⟩ : ∃ c, CL[i]? = some c := ⟨_, List.getElem?_eq_getElem hiC⟩
                    obtain ⟨hcl, hcv⟩ := hsp.cl c (List.mem_of_getElem? hcx)
                    have hcg : cols.getD i [] = c.map Fd.k := by rw [hcols, List.getD_eq_getElem?_getD, List.getElem?_map, hcx]; rfl
                    obtain ⟨_, _, _, hrx⟩ := hvx i x c hx hcx
                    have hx1 := row_cell1 hrx
                    have hrx' : ∀ y, Ext w y → Row y _ _ 1 x (c.map Fd.k).length (ints .u64 (vals (c.map Fd.k))) := fun y E => (hrx.ext E).re (by rw [List.length_map]) (by rw [kvals hcv])
                    have hat : ∀ (y : World) (rvv : Value) (lo hi : Nat) (l : List E), l.length = s.C → Row y lo hi 2 rvv l.length (exs (raw l)) → Calls Tryz.prog 81 #[rvv, .int .i64 (s.B : Nat), .int .i64 (j : Nat)] y fun e w' => e = .returned (.tuple #[.agg (xc (Fd.ev l (pw (root s.m) j))).toArray, .int .i64 0]) ∧ Ext y w' := fun y rvv lo hi l hl hR => by
                      have h := gat (a := s.c) (b := s.b) (c := s.C) (m := s.B) (i := j) hs.b1 hs.b4 hs.cb rfl rfl (by rw [Cm.Sh.BC]; exact hjn) lo hi rvv l hl y hR
                      rw [hor_ev] at h
                      exact h
                    have hs1 : ∀ y, Ext w11 y → Calls Tryz.prog 62 #[.agg mixC.toArray, q1, x] y fun e w' => e = .returned (.agg (xc (comb W1 (cols.getD i []))).toArray) ∧ Ext y w' := fun y E => by
                      rw [hcg]
                      exact gsumw _ _ _ _ q1 x W1 (c.map Fd.k) (by rw [List.length_map]; omega) (by omega) y ((Row.of_own (own_ext oq1 E)).re hW1l.symm rfl) (hrx' y (E1u.trans E))
                    have hs2 : ∀ y, Ext w11 y → Calls Tryz.prog 62 #[.agg mixC.toArray, q2, x] y fun e w' => e = .returned (.agg (xc (comb W2 (cols.getD i []))).toArray) ∧ Ext y w' := fun y E => by
                      rw [hcg]
                      exact gsumw _ _ _ _ q2 x W2 (c.map Fd.k) (by rw [List.length_map]; omega) (by omega) y ((Row.of_own (own_ext oq2 E)).re hW2l.symm rfl) (hrx' y (E1u.trans E))
                    obtain ⟨b, o, c', e, _, _, _, hRg⟩ := (hi'.ext E1z).at hlt
                    cases e
                    obtain ⟨b2, o2, c2, e2, _, _, _, hRc⟩ := (hrc.ext E1z).at hiC
                    cases e2
                    (refine W_skip ?_; refine tn ?_; refine W_seq ?_; refine W_block ?_; refine W_seq ?_; refine W_region ?_; refine Ls (X_move (v := .int _ _) rfl) ?_; refine Ls (X_indexSn rfl rfl (by omega)) ?_; refine Ls (X_ldR rfl hRg (j := i) (by omega) hxv) ?_; refine Ls (X_assign (v := .int _ _) rfl) ?_; refine Ls (X_assign (v := .int _ _) rfl) ?_; refine L_nil ?_; refine tn ?_; refine W_seq ?_; refine W_region ?_; refine Ls (X_fld rfl) ?_; refine Ls (X_fld rfl) ?_; refine Ls (X_ld (cs := vopC (.slice Ap P.length cp) rho (.slice (some ⟨b, o, none⟩) I.length ci) ((s.a + s.c : Nat) : Int) v rv nv (.slice (some ⟨b2, o2, none⟩) CL.length cc) qv) rfl C5 rfl) ?_; refine Ls (X_fld rfl) ?_; refine Ls (X_ld (cs := shC (s.R : Nat) (s.C : Nat) (s.B : Nat) (s.t : Nat)) rfl C4 rfl) ?_; refine Ls (X_move (v := .int _ _) rfl) ?_)
                    refine L_fv rfl (hat wz rv l1 h1 row hrowl ((hr.ext E1z).re (by rw [hrow, List.length_map]) (by rw [hrowr]))) ?_
                    intro w12 E12
                    (refine Ls (X_move (v := .tuple _) rfl) ?_; refine Ls (X_extract rfl rfl) ?_; refine Ls (X_extract rfl rfl) ?_)
                    refine L_alloc ?_
                    intro g14 w13 B14 hg14 E13' hs13
                    refine L_storeW (size := 2) (l := xc (Fd.ev row (pw (root s.m) j))) rfl rfl rfl (xc_cell _) B14 rfl ?_
                    intro w14 D14 hg14' hs14
                    have Ez14 : Ext wz w14 := (E12.trans E13').then hg14' (fun g h => by cases h; have := E12.size; omega)
                    (refine Ls (X_assign (v := .int _ _) rfl) ?_; refine L_nil ?_; refine tn ?_; refine W_seq ?_; refine W_region ?_; refine Ls (X_fld rfl) ?_; refine Ls (X_fld rfl) ?_; refine Ls (X_ld (cs := vopC (.slice Ap P.length cp) rho (.slice (some ⟨b, o, none⟩) I.length ci) ((s.a + s.c : Nat) : Int) v rv nv (.slice (some ⟨b2, o2, none⟩) CL.length cc) qv) rfl (C5.ext Ez14) rfl) ?_; refine Ls (X_fld rfl) ?_; refine Ls (X_ld (cs := shC (s.R : Nat) (s.C : Nat) (s.B : Nat) (s.t : Nat)) rfl (C4.ext Ez14) rfl) ?_; refine Ls (X_move (v := .int _ _) rfl) ?_)
                    refine L_fv rfl (hat w14 nv l2 h2 rnd hrndl (((hn.ext E1z).ext Ez14).re (by rw [hrnd, List.length_map]) (by rw [hrndr]))) ?_
                    intro w15 E15
                    have D14 := D14.ext E15
                    (refine Ls (X_move (v := .tuple _) rfl) ?_; refine Ls (X_extract rfl rfl) ?_; refine Ls (X_extract rfl rfl) ?_)
                    refine L_alloc ?_
                    intro g16 w16 B16 hg16 E16' hs16
                    refine L_storeW (size := 2) (l := xc (Fd.ev rnd (pw (root s.m) j))) rfl rfl rfl (xc_cell _) B16 rfl ?_
                    intro w17 D16 hg17' hs17
                    have hl14 := D14.lt
                    have D14 := (D14.ext E16').grown hg17' (by simp; omega)
                    have Ez17 : Ext wz w17 := Ez14.trans ((E15.trans E16').then hg17' (fun g h => by cases h; have := E15.size; omega))
                    have Eu17 : Ext w11 w17 := hZ.trans Ez17
                    have hw5 : Tb w17 := hw.ext (E1z.trans Ez17)
                    have C5z := C5.ext Ez17
                    have hRc' := Ez17.range hRc
                    (refine Ls (X_assign (v := .int _ _) rfl) ?_; refine L_nil ?_; refine tn ?_; refine W_seq ?_)
                    skip
                    by_cases k1 : Fd.ev row (pw (root s.m) j) = comb W1 (cols.getD i [])
                    · apply W_dagE 22 (by kernel_rfl)
                      (apply DW_x (fun r w hA hH => (X_ldW (cs := xc (Fd.ev row (pw (root s.m) j))) rfl (D14.ext hA) rfl).trans rfl); apply DW_x (fun r w hA hH => (X_ldWg (cs := mixC) rfl (hw5.ext hA).mix rfl).trans rfl); apply DW_x (fun r w hA hH => (X_move (v := q1) rfl).trans rfl); apply DW_x (fun r w hA hH => (X_fld rfl).trans rfl); apply DW_x (fun r w hA hH => (X_fld rfl).trans rfl); apply DW_x (fun r w hA hH => (X_ld (cs := vopC (.slice Ap P.length cp) rho (.slice (some ⟨b, o, none⟩) I.length ci) ((s.a + s.c : Nat) : Int) v rv nv (.slice (some ⟨b2, o2, none⟩) CL.length cc) qv) rfl (C5z.ext hA) rfl).trans rfl); apply DW_x (fun r w hA hH => (X_move (v := .int _ _) rfl).trans rfl); apply DW_x (fun r w hA hH => (X_indexSn rfl rfl (by omega)).trans rfl); apply DW_x (fun r w hA hH => (X_ldR rfl (hA.range hRc') (j := i) (by omega) hx).trans rfl))
                      ((with_reducible apply DW_fn); (exact fun _ => rfl); (exact fun _ => rfl); (exact fun r w hA hH => hs1 w (Eu17.trans hA)))
                      ((with_reducible apply DW_x); (exact fun r w hA hH => (X_neqE (q := false) rfl rfl ⟨(fun h => by cases h), fun h => (h k1).elim⟩).trans rfl))
                      (apply DW_x (fun r w hA hH => (X_move (v := .bool _) rfl).trans rfl); apply DW_on2 rfl rfl (fun _ => rfl) (fun r w hA hH => (X_ldW (cs := xc (Fd.ev rnd (pw (root s.m) j))) rfl (D16.ext hA) rfl).trans rfl); apply DW_on2 rfl rfl (fun _ => rfl) (fun r w hA hH => (X_ldWg (cs := mixC) rfl (hw5.ext hA).mix rfl).trans rfl); apply DW_on2 rfl rfl (fun _ => rfl) (fun r w hA hH => (X_move (v := q2) rfl).trans rfl); apply DW_on2 rfl rfl (fun _ => rfl) (fun r w hA hH => (X_fld rfl).trans rfl); apply DW_on2 rfl rfl (fun _ => rfl) (fun r w hA hH => (X_fld rfl).trans rfl); apply DW_on2 rfl rfl (fun _ => rfl) (fun r w hA hH => (X_ld (cs := vopC (.slice Ap P.length cp) rho (.slice (some ⟨b, o, none⟩) I.length ci) ((s.a + s.c : Nat) : Int) v rv nv (.slice (some ⟨b2, o2, none⟩) CL.length cc) qv) rfl (C5z.ext hA) rfl).trans rfl); apply DW_on2 rfl rfl (fun _ => rfl) (fun r w hA hH => (X_move (v := .int _ _) rfl).trans rfl); apply DW_on2 rfl rfl (fun _ => rfl) (fun r w hA hH => (X_indexSn rfl rfl (by omega)).trans rfl); apply DW_on2 rfl rfl (fun _ => rfl) (fun r w hA hH => (X_ldR rfl (hA.range hRc') (j := i) (by omega) hx).trans rfl))
                      ((with_reducible apply DW_fn2); (exact rfl); (exact rfl); (exact fun _ => rfl); (exact fun _ => rfl); (exact fun r w hA hH => hs2 w (Eu17.trans hA)))
                      ((with_reducible exact D_end); (exact rfl); (repeat (first | exact .inr (.inr (fun _ _ => by with_reducible rfl)) | (refine And.intro ?_ ?_) | exact .inr (.inl rfl) | exact .inl (by decide +kernel) | exact trivial | exact .inr (.inr (fun _ _ => rfl)))); (try dsimp only [Nat.reduceAdd]))
                      intro r w18 E18 _
                      by_cases k2 : Fd.ev rnd (pw (root s.m) j) = comb W2 (cols.getD i [])
                      · (refine Lg2 rfl rfl rfl (X_neqE (q := false) rfl rfl ⟨(fun h => by cases h), fun h => (h k2).elim⟩) ?_; refine Ls (X_pickF (v := .bool _) rfl rfl) ?_; refine L_nil ?_; refine tn ?_; refine W_condF rfl ?_; refine W_skip ?_; refine bn ?_; refine tn ?_; refine W_region ?_; refine Ls (X_addi rfl rfl (by omega)) ?_; refine Ls (X_move (v := .int _ _) rfl) ?_; refine L_nil ?_; refine tn ?_)
                        refine ⟨I.length - (i + 1), by omega, i + 1, rfl, by omega, rfl, rfl, rfl, rfl, rfl, rfl, rfl, Eu17.trans E18, fun y hy => ?_⟩
                        rcases Nat.lt_or_ge y i with hyi | hyi
                        · exact hall y hyi
                        · obtain rfl : y = i := by omega
                          rw [← hj]
                          exact ⟨k1, k2⟩
                      · (refine Lg2 rfl rfl rfl (X_neqE (q := true) rfl rfl ⟨fun _ => k2, fun _ => rfl⟩) ?_; refine Ls (X_pickF (v := .bool _) rfl rfl) ?_; refine L_nil ?_; refine tn ?_; refine W_condT rfl ?_; refine W_seq ?_; refine W_region ?_; refine Ls (X_assign (v := .int _ _) rfl) ?_; refine L_nil ?_; refine tn ?_; refine W_ret ?_; refine br ?_; refine tr ?_; refine tr ?_; refine br ?_; refine tr ?_)
                        refine endQ_ret1 rfl rfl (v := .int _ _) rfl (hvd 110 ?_ _ (E10.trans (E11.trans (Eu17.trans E18))))
                        rw [hver, if_neg (fun h => k2 (by have := (h i (by omega)).2; rw [hj, ← hW2] at *; exact this))]
                    · apply W_dagE 24 (by kernel_rfl)
                      (apply DW_x (fun r w hA hH => (X_ldW (cs := xc (Fd.ev row (pw (root s.m) j))) rfl (D14.ext hA) rfl).trans rfl); apply DW_x (fun r w hA hH => (X_ldWg (cs := mixC) rfl (hw5.ext hA).mix rfl).trans rfl); apply DW_x (fun r w hA hH => (X_move (v := q1) rfl).trans rfl); apply DW_x (fun r w hA hH => (X_fld rfl).trans rfl); apply DW_x (fun r w hA hH => (X_fld rfl).trans rfl); apply DW_x (fun r w hA hH => (X_ld (cs := vopC (.slice Ap P.length cp) rho (.slice (some ⟨b, o, none⟩) I.length ci) ((s.a + s.c : Nat) : Int) v rv nv (.slice (some ⟨b2, o2, none⟩) CL.length cc) qv) rfl (C5z.ext hA) rfl).trans rfl); apply DW_x (fun r w hA hH => (X_move (v := .int _ _) rfl).trans rfl); apply DW_x (fun r w hA hH => (X_indexSn rfl rfl (by omega)).trans rfl); apply DW_x (fun r w hA hH => (X_ldR rfl (hA.range hRc') (j := i) (by omega) hx).trans rfl))
                      ((with_reducible apply DW_fn); (exact fun _ => rfl); (exact fun _ => rfl); (exact fun r w hA hH => hs1 w (Eu17.trans hA)))
                      ((with_reducible apply DW_x); (exact fun r w hA hH => (X_neqE (q := true) rfl rfl ⟨fun _ => k1, fun _ => rfl⟩).trans rfl))
                      (apply DW_x (fun r w hA hH => (X_move (v := .bool _) rfl).trans rfl); apply DW_off2 rfl rfl (fun _ => rfl) rfl; apply DW_off2 rfl rfl (fun _ => rfl) rfl; apply DW_off2 rfl rfl (fun _ => rfl) rfl; apply DW_off2 rfl rfl (fun _ => rfl) rfl; apply DW_off2 rfl rfl (fun _ => rfl) rfl; apply DW_off2 rfl rfl (fun _ => rfl) rfl; apply DW_off2 rfl rfl (fun _ => rfl) rfl; apply DW_off2 rfl rfl (fun _ => rfl) rfl; apply DW_off2 rfl rfl (fun _ => rfl) rfl; apply DW_off2 rfl rfl (fun _ => rfl) rfl; apply DW_off2 rfl rfl (fun _ => rfl) rfl; apply DW_x (fun r w hA hH => (X_pickT (v := .bool _) rfl rfl).trans rfl))
                      ((with_reducible exact D_end); (exact rfl); (repeat (first | exact .inr (.inr (fun _ _ => by with_reducible rfl)) | (refine And.intro ?_ ?_) | exact .inr (.inl rfl) | exact .inl (by decide +kernel) | exact trivial | exact .inr (.inr (fun _ _ => rfl)))); (try dsimp only [Nat.reduceAdd]))
                      intro r w18 E18 _
                      (refine L_nil ?_; refine tn ?_; refine W_condT rfl ?_; refine W_seq ?_; refine W_region ?_; refine Ls (X_assign (v := .int _ _) rfl) ?_; refine L_nil ?_; refine tn ?_; refine W_ret ?_; refine br ?_; refine tr ?_; refine tr ?_; refine br ?_; refine tr ?_)
                      refine endQ_ret1 rfl rfl (v := .int _ _) rfl (hvd 110 ?_ _ (E10.trans (E11.trans (Eu17.trans E18))))
                      rw [hver, if_neg (fun h => k1 (by have := (h i (by omega)).1; rw [hj]; rw [hW1]; exact this))]
                  · have hin : i = I.length := by omega
                    rw [hin] at hall
                    (refine W_exit ?_; refine te ?_; refine te ?_; refine bx ?_; refine tn ?_; refine W_seq ?_; refine W_seq ?_)
                    skip
                    have hlc : lgI ((s.C : Nat) : Int) = s.c := lgI_pow s.c
                    have hpt := fun y (E : Ext w y) => take_row (P := Pe) ((hp.ext E).re rfl (by rw [hPr])) hPlen.symm (j := s.c) (by have := hpos.p; omega) 
                    apply W_dagE 13 (by kernel_rfl)
                    (apply DW_x (fun r w hA hH => (X_fld rfl).trans rfl); apply DW_x (fun r w hA hH => (X_fld rfl).trans rfl); apply DW_x (fun r w hA hH => (X_ld (cs := vopC (.slice Ap P.length cp) rho (.slice Ai I.length ci) ((s.a + s.c : Nat) : Int) v rv nv (.slice Ac CL.length cc) qv) rfl (C5.ext hA) rfl).trans rfl); apply DW_x (fun r w hA hH => (X_fld rfl).trans rfl); apply DW_x (fun r w hA hH => (X_fld rfl).trans rfl); apply DW_x (fun r w hA hH => (X_ld (cs := vopC (.slice Ap P.length cp) rho (.slice Ai I.length ci) ((s.a + s.c : Nat) : Int) v rv nv (.slice Ac CL.length cc) qv) rfl (C5.ext hA) rfl).trans rfl); apply DW_x (fun r w hA hH => (X_fld rfl).trans rfl); apply DW_x (fun r w hA hH => (X_ld (cs := shC (s.R : Nat) (s.C : Nat) (s.B : Nat) (s.t : Nat)) rfl (C4.ext hA) rfl).trans rfl))
                    ((with_reducible apply DW_fn); (exact fun _ => rfl); (exact fun _ => rfl); (exact fun r w hA hH => gcpow ((s.C : Nat) : Int) (by omega) (by omega) w))
                    rw [hlc]
                    ((with_reducible apply DW_x); (exact fun r w hA hH => (X_sliceB (size := 2) s.c rfl rfl rfl (by have := hpos.p; omega)).trans rfl))
                    ((with_reducible apply DW_fn); (exact fun _ => rfl); (exact fun _ => rfl); (exact fun r w hA hH => gmle l1 h1 pl ph rv _ row (Pe.take s.c) (by rw [List.length_take]; have := hs.ac; omega) (by rw [hrowl, List.length_take, hPel, show min s.c (s.a + s.c) = s.c by omega]; rfl) w ((hr.ext (E1z.trans hA)).re (by rw [hrow, List.length_map]) (by rw [hrowr])) (hpt w (E1z.trans hA))))
                    (apply DW_x (fun r w hA hH => (X_fld rfl).trans rfl); apply DW_x (fun r w hA hH => (X_ldA (size := 2) (l := exC v.1 v.2) rfl (C5.ext hA) rfl rfl).trans rfl))
                    ((with_reducible exact D_end); (exact rfl); (repeat (first | exact .inr (.inr (fun _ _ => by with_reducible rfl)) | (refine And.intro ?_ ?_) | exact .inr (.inl rfl) | exact .inl (by decide +kernel) | exact trivial | exact .inr (.inr (fun _ _ => rfl)))); (try dsimp only [Nat.reduceAdd]))
                    intro r w18 E18 _
                    have hco : Cm.colOk s (toI I) Pe (toE rho) row rnd cols := fun i hi => by
                      rw [hlI] at hi
                      have := hall i hi
                      rw [hW1, hW2] at this
                      exact this
                    rw [if_pos hco] at hver
                    have hxv : Value.agg (exC v.1 v.2).toArray = .agg (xc (toE v)).toArray := (congrArg (fun p : Nat × Nat => Value.agg (exC p.1 p.2).toArray) hvee).symm
                    by_cases k3 : Fd.mleS row (Pe.take s.c) = toE v
                    · (refine Ls (X_neqE (b := toE v) (q := false) rfl hxv ⟨(fun h => by cases h), fun h => (h k3).elim⟩) ?_; refine L_nil ?_; refine tn ?_; refine W_condF rfl ?_; refine W_skip ?_; refine tn ?_; refine W_seq ?_; refine W_region ?_; refine Ls (X_assign (v := .int _ _) rfl) ?_; refine L_nil ?_; refine tn ?_; refine W_ret ?_)
                      exact endQ_ret1 rfl rfl (v := .int _ _) rfl (hvd 0 (by rw [hver, if_pos k3]) _ (E10.trans (E11.trans (hZ.trans E18))))
                    · (refine Ls (X_neqE (b := toE v) (q := true) rfl hxv ⟨fun _ => k3, fun _ => rfl⟩) ?_; refine L_nil ?_; refine tn ?_; refine W_condT rfl ?_; refine W_seq ?_; refine W_region ?_; refine Ls (X_assign (v := .int _ _) rfl) ?_; refine L_nil ?_; refine tn ?_; refine W_ret ?_; refine tr ?_)
                      exact endQ_ret1 rfl rfl (v := .int _ _) rfl (hvd 111 (by rw [hver, if_neg k3]) _ (E10.trans (E11.trans (hZ.trans E18))))
              · rw [if_neg hok2]
                (refine Ls (X_neqT rfl rfl (by omega)) ?_; refine L_nil ?_; refine tn ?_; refine W_condT rfl ?_; refine W_seq ?_; refine W_region ?_; refine Ls (X_assign (v := .int _ _) rfl) ?_; refine L_nil ?_; refine tn ?_; refine W_ret ?_; refine tr ?_)
                refine endQ_ret1 rfl rfl (v := .int _ _) rfl (hvd 80 ?_ _ E10)
                unfold verZ Cm.verC
                rw [hbs, if_neg (fun h => hok2 (hokk.2 h))]
end Go.Proofs.YtpohjepbmgeplaaGreatDoor

/- Commitments: Default. -/
namespace Go.Proofs.YtpohjepbmgeplaaGreatDoor
open Go.RowKit Go.Proofs.K
open _root_.Fd (K E pw root trow enc ccol comb)
open _root_.Cm (Sh pws pwE)

/-- the shape that Default gives -/
def dsh (k : Nat) : Sh := ⟨k / 2, (k + 1) / 2, 2, min 16 (4 * 2 ^ ((k + 1) / 2))⟩
theorem X_mkShape {n : NN} {f : Fr} {w : World} {d : Option Tmp} {t : TypeId} {pos : String} {af : Array Edge} {g : Option (Nat × Bool)} {x y z u : Operand} {a b c e : Int} (hx : ev n f x = .int .i64 a) (hy : ev n f y = .int .i64 b) (hz : ev n f z = .int .i64 c) (hu : ev n f u = .int .i64 e) :
    X Tryz.prog n ⟨d, .build 28 #[(0, x), (1, y), (2, z), (3, u)], t, pos, af, g⟩ f w = .ok (.value (.agg (shC a b c e).toArray)) w := by
  have := X_build (P := Tryz.prog) (ty := 28) (n := n) (f := f) (w := w) (d := d) (t := t) (pos := pos) (af := af) (g := g) (Parts.cons (i := 0) (c := [.int .i64 a]) (z := [.int .i64 0]) hx rfl rfl rfl (Parts.cons (i := 1) (c := [.int .i64 b]) (z := [.int .i64 0]) hy rfl rfl rfl
    (Parts.cons (i := 2) (c := [.int .i64 c]) (z := [.int .i64 0]) hz rfl rfl rfl (Parts.cons (i := 3) (c := [.int .i64 e]) (z := [.int .i64 0]) hu rfl rfl rfl (Parts.nil _)))))
  simpa [shC] using this
theorem X_mkShape0 {n : NN} {f : Fr} {w : World} {d : Option Tmp} {t : TypeId} {pos : String} {af : Array Edge} {g : Option (Nat × Bool)} :
    X Tryz.prog n ⟨d, .build 28 #[], t, pos, af, g⟩ f w = .ok (.value (.agg (shC 0 0 0 0).toArray)) w := by
  have := X_build (P := Tryz.prog) (ty := 28) (n := n) (f := f) (w := w) (d := d) (t := t) (pos := pos) (af := af) (g := g) (zs := [[.int .i64 0], [.int .i64 0], [.int .i64 0], [.int .i64 0]]) (r := []) (Parts.nil _)
  simpa [shC] using this
theorem gdefault1 (k : Nat) (hk : k ≤ 16) (w : World) :
    Calls Tryz.prog 40 #[.int .i64 (k : Nat)] w fun e w' => e = .returned (.agg (shC ((dsh k).R : Nat) ((dsh k).C : Nat) ((dsh k).B : Nat) ((dsh k).t : Nat)).toArray) ∧ Ext w w' := by
  have h1 : 1 ≤ 2 ^ ((k + 1) / 2) := Nat.pow_pos (by decide)
  have h2 : 2 ^ ((k + 1) / 2) ≤ 65536 := (pow_le16 (a := (k + 1) / 2) (by omega)).2
  refine calls_W Tryz.func40 rfl Tryz.ntmps40 rfl ?_
  (refine W_seq ?_; refine W_region ?_)
  refine L_alloc ?_
  intro g2 w1 B2 hg2 E1 hs1
  (refine L_nil ?_; refine tn ?_; refine W_seq ?_; refine W_seq ?_; refine W_region ?_; refine Ls (X_move (v := .int _ _) rfl) ?_; refine Ls (X_lssF rfl rfl (by omega)) ?_; refine Ls (X_move (v := .bool _) rfl) ?_; refine Lg2 rfl rfl rfl (X_move (v := .int _ _) rfl) ?_; refine Lg2 rfl rfl rfl (X_gtrF rfl rfl (by omega)) ?_; refine Ls (X_pickF (v := .bool _) rfl rfl) ?_; refine L_nil ?_; refine tn ?_; refine W_condF rfl ?_; refine W_skip ?_; refine tn ?_; refine W_seq ?_; refine W_region ?_; refine Ls (X_move (v := .int _ _) rfl) ?_; refine Ls (X_addi rfl rfl (by omega)) ?_; refine Ls ((X_quoi rfl rfl (by omega)).trans (by rw [show (((k : Nat) : Int) + 1) / 2 = (((k + 1) / 2 : Nat) : Int) by omega])) ?_; refine Ls ((X_shl rfl rfl (by omega)).trans (by rw [shl_pow (by omega)])) ?_; refine Ls (X_assign (v := .int _ _) rfl) ?_; refine L_nil ?_; refine tn ?_; refine W_seq ?_; refine W_region ?_; refine Ls (X_move (v := .int _ _) rfl) ?_; refine Ls ((X_quoi rfl rfl (by omega)).trans (by rw [show ((k : Nat) : Int) / 2 = ((k / 2 : Nat) : Int) by omega])) ?_; refine Ls ((X_shl rfl rfl (by omega)).trans (by rw [shl_pow (by omega)])) ?_; refine Ls (X_move (v := .int _ _) rfl) ?_; refine Ls (X_move (v := .int _ _) rfl) ?_; refine Ls (X_muli rfl rfl ⟨by omega, by omega⟩) ?_; refine Ls (X_min rfl rfl) ?_)
  refine Ls (X_mkShape rfl rfl rfl rfl) ?_
  refine L_storeW rfl rfl rfl shC_cell B2 rfl ?_
  intro w2 B2' hg2' hs2
  (refine L_nil ?_; refine tn ?_; refine W_ret ?_)
  refine endQ_res rfl rfl (Res.cellA inferInstance rfl (B2'.range (fun j u h => by simpa using h)) rfl .nil) ?_
  refine ⟨?_, E1.then hg2' (fun g h => by cases h; omega)⟩
  have e1 : (((dsh k).t : Nat) : Int) = if (4 : Int) * ((2 ^ ((k + 1) / 2) : Nat) : Int) < 16 then (4 : Int) * ((2 ^ ((k + 1) / 2) : Nat) : Int) else 16 := by
    show ((min 16 (4 * 2 ^ ((k + 1) / 2)) : Nat) : Int) = _
    split <;> omega
  rw [e1]
  rfl
theorem gdefault0 (k : Int) (hk : ¬ (0 ≤ k ∧ k ≤ 16)) (w : World) :
    Calls Tryz.prog 40 #[.int .i64 k] w fun e w' => e = .returned (.agg (shC 0 0 0 0).toArray) ∧ Ext w w' := by
  refine calls_W Tryz.func40 rfl Tryz.ntmps40 rfl ?_
  (refine W_seq ?_; refine W_region ?_)
  refine L_alloc ?_
  intro g2 w1 B2 hg2 E1 hs1
  by_cases h0 : k < 0
  · (refine L_nil ?_; refine tn ?_; refine W_seq ?_; refine W_seq ?_; refine W_region ?_; refine Ls (X_move (v := .int _ _) rfl) ?_; refine Ls (X_lssT rfl rfl (by omega)) ?_; refine Ls (X_move (v := .bool _) rfl) ?_; refine Lo2 rfl rfl rfl rfl ?_; refine Lo2 rfl rfl rfl rfl ?_; refine Ls (X_pickT (v := .bool _) rfl rfl) ?_; refine L_nil ?_; refine tn ?_; refine W_condT rfl ?_; refine W_seq ?_; refine W_region ?_)
    refine Ls X_mkShape0 ?_
    refine L_storeW rfl rfl rfl shC_cell B2 rfl ?_
    intro w2 B2' hg2' hs2
    (refine L_nil ?_; refine tn ?_; refine W_ret ?_; refine tr ?_)
    exact endQ_res rfl rfl (Res.cellA inferInstance rfl (B2'.range (fun j u h => by simpa using h)) rfl .nil) ⟨rfl, E1.then hg2' (fun g h => by cases h; omega)⟩
  · (refine L_nil ?_; refine tn ?_; refine W_seq ?_; refine W_seq ?_; refine W_region ?_; refine Ls (X_move (v := .int _ _) rfl) ?_; refine Ls (X_lssF rfl rfl (by omega)) ?_; refine Ls (X_move (v := .bool _) rfl) ?_; refine Lg2 rfl rfl rfl (X_move (v := .int _ _) rfl) ?_; refine Lg2 rfl rfl rfl (X_gtrT rfl rfl (by omega)) ?_; refine Ls (X_pickF (v := .bool _) rfl rfl) ?_; refine L_nil ?_; refine tn ?_; refine W_condT rfl ?_; refine W_seq ?_; refine W_region ?_)
    refine Ls X_mkShape0 ?_
    refine L_storeW rfl rfl rfl shC_cell B2 rfl ?_
    intro w2 B2' hg2' hs2
    (refine L_nil ?_; refine tn ?_; refine W_ret ?_; refine tr ?_)
    exact endQ_res rfl rfl (Res.cellA inferInstance rfl (B2'.range (fun j u h => by simpa using h)) rfl .nil) ⟨rfl, E1.then hg2' (fun g h => by cases h; omega)⟩
end Go.Proofs.YtpohjepbmgeplaaGreatDoor

/- Commitments: columns, bytes, validity of elements: the reference's. -/
namespace Go.Proofs.YtpohjepbmgeplaaGreatDoor
open Go.RowKit Go.Proofs.K
open _root_.Fd (K E pw root trow enc ccol comb)
open _root_.Cm (Sh pws pwE)

end Go.Proofs.YtpohjepbmgeplaaGreatDoor

/- Commitments: codewords, leaves, the root: the reference's. -/
namespace Go.Proofs.YtpohjepbmgeplaaGreatDoor
open Go.RowKit Go.Proofs.K
open _root_.Fd (K E pw root trow enc ccol comb)
open _root_.Cm (Sh pws pwE lv)

end Go.Proofs.YtpohjepbmgeplaaGreatDoor

/- Commitments: the root, weights, combined rows: the reference's. -/
namespace Go.Proofs.YtpohjepbmgeplaaGreatDoor
open Go.RowKit Go.Proofs.K
open _root_.Fd (K E pw root trow tcol enc ccol comb combR)
open _root_.Cm (Sh pws pwE lv)

end Go.Proofs.YtpohjepbmgeplaaGreatDoor

/- Commitments: valid positions, shaped openings: the reference's. -/
namespace Go.Proofs.YtpohjepbmgeplaaGreatDoor
open Go.RowKit Go.Proofs.K
open _root_.Fd (K E pw root trow tcol enc ccol comb combR)
open _root_.Cm (Sh pws pwE lv)

end Go.Proofs.YtpohjepbmgeplaaGreatDoor

/- Commitments: shaped openings: the reference's. -/
namespace Go.Proofs.YtpohjepbmgeplaaGreatDoor
open Go.RowKit Go.Proofs.K
open _root_.Fd (K E pw root trow tcol enc ccol comb combR)
open _root_.Cm (Sh pws pwE lv)

end Go.Proofs.YtpohjepbmgeplaaGreatDoor

/- Commitments: Verify, the reference's. -/
namespace Go.Proofs.YtpohjepbmgeplaaGreatDoor
open Go.RowKit Go.Proofs.K
open _root_.Fd (K E pw root trow enc ccol comb)
open _root_.Cm (Sh pws pwE)

end Go.Proofs.YtpohjepbmgeplaaGreatDoor

/- Commitments: Open, the reference's. -/
namespace Go.Proofs.K
open Go.RowKit
variable {P : Program} {n : NN} {Q : Exit → Fr → World → Prop} {f : Fr} {w : World} {ops : Array Oper} {rest : List Oper}
/-! a region that draws, one of whose operations (k0) stores a value that the region has computed to a variable that the region has made -/
def RV (k0 : Nat) (w0 : World) (T : TypeId) (m : Nat) : Nat → World → World → Prop := fun i a b => Ext a b ∨ (i = k0 ∧ ∃ q c c', w0.heap.size ≤ q ∧ c.length = m ∧ Blk a q T c ∧ a.grownBy b (some q) ∧ c'.length = m ∧ Blk b q T c')
section
variable {k0 : Nat} {w0 : World} {T : TypeId} {m : Nat}
instance : ExtR (RV k0 w0 T m) := ⟨fun _ _ _ h => .inl h⟩
theorem RV.refl (i : Nat) (w : World) : RV k0 w0 T m i w w := .inl (Ext.refl w)
theorem RV.other {i : Nat} {a b : World} (h : RV k0 w0 T m i a b) (hi : i ≠ k0) : Ext a b := h.elim id fun h => absurd h.1 hi
theorem RV.step : ∀ i a b, RV k0 w0 T m i a b → Ext w0 a → Ext w0 b := fun _ _ _ h E => h.elim (fun e => E.trans e) fun ⟨_, q, _, _, hq, _, _, hg, _⟩ => E.then hg (fun g hg => by cases hg; exact hq)
theorem RV.own {i base size l : Nat} {e : TypeId} {v : Value} {xs : List Value} {a b : World} (h : RV k0 w0 T m i a b) (hT : e ≠ T) (ho : a.ownsRow base e size v l xs) : b.ownsRow base e size v l xs := h.elim (fun E => own_ext ho E) fun ⟨_, q, c, _, _, _, hB, hg, _⟩ => own_other ho hg (fun g hg e' => by
  cases e'
  obtain ⟨_, cs, fz, e1⟩ := own_obj ho q hg
  unfold Blk at hB
  rw [hB] at e1
  cases e1
  exact hT rfl)
/-- the variable, before or behind the store -/
def NewV (w0 : World) (T : TypeId) (m : Nat) (u : Value) (w : World) : Prop := ∃ q c, u = .pointer (some ⟨q, 0, none⟩) ∧ w0.heap.size ≤ q ∧ c.length = m ∧ Blk w q T c
theorem NewV.step {i : Nat} {u : Value} {a b : World} (h : RV k0 w0 T m i a b) (hn : NewV w0 T m u a) : NewV w0 T m u b := by
  obtain ⟨q, c, h1, h2, h3, h4⟩ := hn
  rcases h with e | ⟨_, q', c0, c1, hq, hl, hz, hg, hl', hb⟩
  · exact ⟨q, c, h1, h2, h3, h4.ext e⟩
  · by_cases hqq : q = q'
    · subst hqq; exact ⟨q, c1, h1, h2, hl', hb⟩
    · exact ⟨q, c, h1, h2, h3, h4.grown hg (fun e => hqq (by injection e with e; exact e.symm))⟩
variable {Fin : List Oper → (Rho → Fr) → (Rho → Nat → World → Prop) → Prop} {k : Nat} {E : List Ent} {g : Rho → Fr} {H : Rho → Nat → World → Prop} {d : Tmp} {t ty : TypeId} {pos : String} {af : Array Edge} {x y : Operand}
theorem DW_allocV {z : List Value} [hz : TZero P T z] (hzl : z.length = m)
    (hr : DW (RV k0 w0 T m) P n ops (fun _ => Ext w0) Fin rest (k + 1) E (fun r => upd (g r) d (r k)) (fun r j w => bif Nat.beq j k then NewV w0 T m (r k) w else H r j w)) :
    DW (RV k0 w0 T m) P n ops (fun _ => Ext w0) Fin (⟨some d, .alloc T, t, pos, af, none⟩ :: rest) k (.op (fun r w => NewV w0 T m (r k) w) :: E) g H :=
  DW_d (F := fun _ u w => NewV w0 T m u w) (fun r w hA hH => by
    obtain ⟨v, w', h1, h2, q, h3, h4, h5⟩ := alloc_new (P := P) (n := n) (d := d) (t := t) (pos := pos) (af := af) (ty := T) (z' := z) (f := g r) hA.size
    exact ⟨v, w', h1, h2, q, z, h3, h4, hzl, h5⟩)
    (fun _ _ u w w' _ _ E h => NewV.step E h) (fun _ _ => rfl) hr
theorem DW_storeV {kx : Nat} [TAgg P ty m] (L : Rho → List Value) (hx : ∀ r, ev n (g r) x = r kx) (hy : ∀ r w, Ext w0 w → (∀ j, td ops k0 j = true → H r j w) → ev n (g r) y = .agg (L r).toArray ∧ (L r).length = m ∧ ∀ v ∈ L r, v.oneCell' = true) (hi : ∀ r v, L (rset r k0 v) = L r) (hkx : kx ≠ k0)
    (hz : ∀ r w, Ext w0 w → (∀ j, td ops k0 j = true → H r j w) → NewV w0 T m (r kx) w)
    (hr : DW (RV k0 w0 T m) P n ops (fun _ => Ext w0) Fin rest (k0 + 1) E g (fun r j w => bif Nat.beq j k0 then (∃ q, r kx = .pointer (some ⟨q, 0, none⟩) ∧ w0.heap.size ≤ q ∧ Blk w q T (L r)) else H r j w)) :
    DW (RV k0 w0 T m) P n ops (fun _ => Ext w0) Fin (⟨none, .store ty x y, t, pos, af, none⟩ :: rest) k0 (.op (fun r w => ∃ q, r kx = .pointer (some ⟨q, 0, none⟩) ∧ w0.heap.size ≤ q ∧ Blk w q T (L r)) :: E) g H := by
  refine .op (fun r w hA hH => ⟨rfl, ?_⟩) (fun i r w w' hi _ hE ⟨q, h1, h2, h3⟩ => ⟨q, h1, h2, h3.ext (hE.other hi)⟩) hr
  obtain ⟨q, c, e, hq, hcl, hB⟩ := hz r w hA hH
  obtain ⟨hy1, hy2, hy3⟩ := hy r w hA hH
  have hX := X_storeA (P := P) (n := n) (f := g r) (w := w) (d := none) (t := t) (pos := pos) (af := af) (g := none) (ty := ty) ((hx r).trans e) hy1 hy2 hy3 hB (o := 0) (by omega)
  have hcs : c.take 0 ++ L r ++ c.drop (0 + m) = L r := by rw [List.drop_eq_nil_of_le (by omega)]; simp
  rw [hcs] at hX
  have B' := hB.setRow (L r)
  exact Run_skip hX ⟨.inr ⟨rfl, q, c, L r, hq, hcl, hB, grown_setRow _ _ _, hy2, B'⟩, q, by rw [rset_other _ _ hkx]; exact e, hq, by rw [hi]; exact B'⟩
end
end Go.Proofs.K
namespace Go.Proofs.YtpohjepbmgeplaaGreatDoor
open Go.RowKit Go.Proofs.K
open _root_.Fd (K E pw root trow tcol enc ccol comb combR)
open _root_.Cm (Sh pws pwE rowH rndH colsH pathH lv)

end Go.Proofs.YtpohjepbmgeplaaGreatDoor

/- Commitments: equal openings: the reference's. -/
namespace Go.Proofs.YtpohjepbmgeplaaGreatDoor
open Go.RowKit Go.Proofs.K
open _root_.Fd (K E pw root trow tcol enc ccol comb combR)
open _root_.Cm (Sh pws pwE rowH rndH colsH pathH lv)

theorem r2same (al ah bl bh : Nat) (u v : Value) (l : List E) (hl : l.length ≤ 1000000) (w : World) (hu : Row w al ah 2 u l.length (exs (raw l))) (hv : Row w bl bh 2 v l.length (exs (raw l))) :
    Calls Tryz.prog 47 #[u, v] w fun e w' => e = .returned (.bool true) ∧ Ext w w' := by
  obtain ⟨A1, c1, rfl⟩ : ∃ A c, u = .slice A l.length c := by
    obtain ⟨_, A, c, rfl, _⟩ := hu
    exact ⟨A, c, rfl⟩
  obtain ⟨A2, c2, rfl⟩ : ∃ A c, v = .slice A l.length c := by
    obtain ⟨_, A, c, rfl, _⟩ := hv
    exact ⟨A, c, rfl⟩
  refine calls_W Tryz.func47 rfl Tryz.ntmps47 rfl ?_
  (refine W_seq ?_; refine W_region ?_; refine Ls (X_assign (v := .bool _) rfl) ?_; refine L_nil ?_; refine tn ?_; refine W_seq ?_; refine W_seq ?_; refine W_region ?_; refine Ls (X_move (v := .slice _ _ _) rfl) ?_; refine Ls (X_lenSlice rfl) ?_; refine Ls (X_move (v := .slice _ _ _) rfl) ?_; refine Ls (X_lenSlice rfl) ?_; refine Ls (X_neqF rfl rfl (by omega)) ?_; refine L_nil ?_; refine tn ?_; refine W_condF rfl ?_; refine W_skip ?_; refine tn ?_; refine W_seq ?_; refine W_seq ?_; refine W_region ?_; refine Ls (X_assign (v := .int _ _) rfl) ?_; refine L_nil ?_; refine tn ?_; refine W_block ?_)
  refine W_loop (fun q f w' => ∃ i, q = l.length - i ∧ i ≤ l.length ∧ f 0 = .slice A1 l.length c1 ∧ f 1 = .slice A2 l.length c2 ∧ f 5 = .int .i64 (i : Nat) ∧ Ext w w') l.length ?_ ?_
  · exact ⟨0, rfl, by omega, rfl, rfl, rfl, Ext.refl _⟩
  · rintro q f wr ⟨i, hq, hi', f0, f1, f5, hE⟩
    rw [fold f0, fold f1, fold f5]
    (refine W_seq ?_; refine W_seq ?_; refine W_region ?_; refine Ls (X_move (v := .int _ _) rfl) ?_; refine Ls (X_move (v := .slice _ _ _) rfl) ?_; refine Ls (X_lenSlice rfl) ?_; refine Ls (X_lss rfl rfl) ?_; refine L_nil ?_; refine tn ?_)
    refine W_condp rfl (fun h => ?_) (fun h => ?_)
    · have hlt : i < l.length := by omega
      obtain ⟨y, hy⟩ : ∃ y, l[i]? = some y := ⟨_, List.getElem?_eq_getElem hlt⟩
      have hu' := hu.ext hE
      have hv' := hv.ext hE
      rw [← raw_len l] at hu' hv'
      obtain ⟨b1, o1, e1, _, _, _, _, _, hR1⟩ := ex_at hu' (raw_get hy)
      cases e1
      obtain ⟨b2, o2, e2, _, _, _, _, _, hR2⟩ := ex_at hv' (raw_get hy)
      cases e2
      (refine W_skip ?_; refine tn ?_; refine W_seq ?_; refine W_block ?_; refine W_seq ?_)
      apply W_dagE 8 (by kernel_rfl)
      (apply DW_x (fun r w hA hH => (X_move (v := .slice _ _ _) rfl).trans rfl); apply DW_x (fun r w hA hH => (X_move (v := .int _ _) rfl).trans rfl); apply DW_x (fun r w hA hH => (X_indexSn rfl rfl (by omega)).trans rfl))
      ((with_reducible apply DW_x); (exact fun r w hA hH => (X_loadA (size := 2) (cs := xc y) rfl (hA.range hR1) rfl).trans rfl))
      (apply DW_x (fun r w hA hH => (X_move (v := .slice _ _ _) rfl).trans rfl); apply DW_x (fun r w hA hH => (X_move (v := .int _ _) rfl).trans rfl); apply DW_x (fun r w hA hH => (X_indexSn rfl rfl (by omega)).trans rfl))
      ((with_reducible apply DW_x); (exact fun r w hA hH => (X_loadA (size := 2) (cs := xc y) rfl (hA.range hR2) rfl).trans rfl))
      ((with_reducible exact D_end); (exact rfl); (repeat (first | exact .inr (.inr (fun _ _ => by with_reducible rfl)) | (refine And.intro ?_ ?_) | exact .inr (.inl rfl) | exact .inl (by decide +kernel) | exact trivial | exact .inr (.inr (fun _ _ => rfl)))); (try dsimp only [Nat.reduceAdd]))
      intro r w4 E4 _
      (refine Ls (X_neqE (a := y) (b := y) (q := false) rfl rfl ⟨(fun h => by cases h), fun h => (h rfl).elim⟩) ?_; refine L_nil ?_; refine tn ?_; refine W_condF rfl ?_; refine W_skip ?_; refine bn ?_; refine tn ?_; refine W_region ?_; refine Ls (X_move (v := .int _ _) rfl) ?_; refine Ls (X_addi rfl rfl (by omega)) ?_; refine Ls (X_assign (v := .int _ _) rfl) ?_; refine L_nil ?_; refine tn ?_)
      exact ⟨l.length - (i + 1), by omega, i + 1, rfl, by omega, rfl, rfl, rfl, hE.trans E4⟩
    · (refine W_exit ?_; refine te ?_; refine te ?_; refine bx ?_; refine tn ?_; refine W_seq ?_; refine W_region ?_; refine Ls (X_assign (v := .bool _) rfl) ?_; refine L_nil ?_; refine tn ?_; refine W_ret ?_)
      exact endQ_ret1 rfl rfl (v := .bool _) rfl ⟨rfl, hE⟩
end Go.Proofs.YtpohjepbmgeplaaGreatDoor

/- Commitments: equal openings and matrices: the reference's and the law's. -/
namespace Go.Proofs.YtpohjepbmgeplaaGreatDoor
open Go.RowKit Go.Proofs.K
open _root_.Fd (K E pw root trow tcol enc ccol comb combR)
open _root_.Cm (Sh pws pwE rowH rndH colsH pathH lv)

end Go.Proofs.YtpohjepbmgeplaaGreatDoor

/- Commitments: made shapes: the reference's. -/
namespace Go.Proofs.YtpohjepbmgeplaaGreatDoor
open Go.RowKit Go.Proofs.K
open _root_.Fd (K E pw root trow tcol enc ccol comb combR)
open _root_.Cm (Sh pws pwE rowH rndH colsH pathH lv)

/-- the shape that Made gives -/
def mkS (log n : Nat) : Sh := ⟨log - n % (log + 1), n % (log + 1), 1 + n / 16 % 2, min (1 + n / 64 % (2 ^ (1 + n / 16 % 2) * 2 ^ (n % (log + 1)))) 12⟩
theorem mkS_log {log n : Nat} : (mkS log n).a + (mkS log n).c = log := by
  have : n % (log + 1) < log + 1 := Nat.mod_lt _ (by omega)
  show log - n % (log + 1) + n % (log + 1) = log
  omega
theorem mkS_ok {log n : Nat} (h : log ≤ 6) : (mkS log n).Ok := by
  have h1 : n % (log + 1) < log + 1 := Nat.mod_lt _ (by omega)
  have hm : 0 < 2 ^ (1 + n / 16 % 2) * 2 ^ (n % (log + 1)) := Nat.mul_pos (Nat.pow_pos (by decide)) (Nat.pow_pos (by decide))
  have h2 : n / 64 % (2 ^ (1 + n / 16 % 2) * 2 ^ (n % (log + 1))) < 2 ^ (1 + n / 16 % 2) * 2 ^ (n % (log + 1)) := Nat.mod_lt _ hm
  refine ⟨?_, ?_, ?_, ?_, ?_, ?_, ?_⟩
  · rw [mkS_log]; omega
  · show 1 ≤ 1 + n / 16 % 2; omega
  · show 1 + n / 16 % 2 ≤ 4; omega
  · show n % (log + 1) + (1 + n / 16 % 2) ≤ 16; omega
  · show 1 ≤ min (1 + _) 12; omega
  · show min (1 + n / 64 % _) 12 ≤ 64; omega
  · show min (1 + n / 64 % _) 12 ≤ 2 ^ (n % (log + 1) + (1 + n / 16 % 2))
    have e : 2 ^ (n % (log + 1) + (1 + n / 16 % 2)) = 2 ^ (1 + n / 16 % 2) * 2 ^ (n % (log + 1)) := by
      rw [Nat.add_comm]; exact Nat.pow_add _ _ _
    omega
theorem X_mkShape3 {n : NN} {f : Fr} {w : World} {d : Option Tmp} {t : TypeId} {pos : String} {af : Array Edge} {g : Option (Nat × Bool)} {x y z : Operand} {a b c : Int} (hx : ev n f x = .int .i64 a) (hy : ev n f y = .int .i64 b) (hz : ev n f z = .int .i64 c) :
    X Tryz.prog n ⟨d, .build 28 #[(0, x), (1, y), (2, z)], t, pos, af, g⟩ f w = .ok (.value (.agg (shC a b c 0).toArray)) w := by
  have := X_build (P := Tryz.prog) (ty := 28) (n := n) (f := f) (w := w) (d := d) (t := t) (pos := pos) (af := af) (g := g) (Parts.cons (i := 0) (c := [.int .i64 a]) (z := [.int .i64 0]) hx rfl rfl rfl (Parts.cons (i := 1) (c := [.int .i64 b]) (z := [.int .i64 0]) hy rfl rfl rfl
    (Parts.cons (i := 2) (c := [.int .i64 c]) (z := [.int .i64 0]) hz rfl rfl rfl (Parts.nil _))))
  simpa [shC] using this
theorem and1_16 (x : Nat) : bits .and .u16 (x : Int) 1 = ((x % 2 : Nat) : Int) := by
  show IntKind.u16.wrap ((BitVec.ofInt 16 (x : Int) &&& BitVec.ofInt 16 ((2 ^ 1 - 1 : Nat) : Int)).toNat : Int) = _
  rw [BitVec.toNat_and, BitVec.ofInt_natCast, BitVec.ofInt_natCast, BitVec.toNat_ofNat, BitVec.toNat_ofNat, Nat.mod_eq_of_lt (a := 2 ^ 1 - 1) (by decide), Nat.and_two_pow_sub_one_eq_mod]
  have h : x % 2 ^ 16 % 2 ^ 1 = x % 2 := by omega
  rw [h]
  rcases Nat.mod_two_eq_zero_or_one x with h | h <;> rw [h] <;> decide
theorem shr_16 (n z : Nat) (k : Int) (hk : (2 : Int) ^ (min k.toNat IntKind.u16.bits) = ((z : Nat) : Int)) : ((n : Nat) : Int).fdiv (2 ^ (min k.toNat IntKind.u16.bits)) = ((n / z : Nat) : Int) := by
  rw [hk, Int.fdiv_eq_ediv_of_nonneg _ (by omega)]; rfl
set_option maxHeartbeats 1000000 in
theorem r11made (log n : Nat) (hlog : log ≤ 6) (hn : n < 65536) (w : World) :
    Calls Tryz.prog 48 #[.int .i64 (log : Nat), .int .u16 (n : Nat)] w fun e w' => e = .returned (.agg (shC ((mkS log n).R : Nat) ((mkS log n).C : Nat) ((mkS log n).B : Nat) ((mkS log n).t : Nat)).toArray) ∧ Ext w w' := by
  obtain ⟨c, hc⟩ : ∃ c, c = n % (log + 1) := ⟨_, rfl⟩
  have hcl : c ≤ log := by have : n % (log + 1) < log + 1 := Nat.mod_lt _ (by omega); omega
  have hrem : ((n : Nat) : Int) % (((log : Nat) : Int) + 1) = ((c : Nat) : Int) := by
    rw [hc, Int.natCast_emod]; rfl
  have h4 := shr_16 n 16 4 (by decide)
  have h6 := shr_16 n 64 6 (by decide)
  obtain ⟨b, hb⟩ : ∃ b, b = 1 + n / 16 % 2 := ⟨_, rfl⟩
  have hbl : b = 1 ∨ b = 2 := by omega
  have hB : (2 : Int) + 2 * ((n / 16 % 2 : Nat) : Int) = ((2 ^ b : Nat) : Int) := by
    rcases hbl with h | h
    · rw [h, show n / 16 % 2 = 0 by omega]; rfl
    · rw [h, show n / 16 % 2 = 1 by omega]; rfl
  have hB4 : 2 ≤ 2 ^ b ∧ 2 ^ b ≤ 4 := by rcases hbl with h | h <;> rw [h] <;> decide
  have hC := pow_le16 (a := c) (by omega)
  have hC64 : 2 ^ c ≤ 2 ^ 6 := Nat.pow_le_pow_right (by decide) (by omega)
  rw [show 2 ^ 6 = 64 from rfl] at hC64
  refine calls_W Tryz.func48 rfl Tryz.ntmps48 rfl ?_
  (refine W_seq ?_; refine W_region ?_)
  refine L_alloc ?_
  intro g4 w1 B4 hg4 E1 hs1
  (refine L_nil ?_; refine tn ?_; refine W_seq ?_; refine W_region ?_; refine Ls (X_move (v := .int _ _) rfl) ?_; refine Ls ((X_conv rfl).trans (by rw [i64_nat (by omega)])) ?_; refine Ls (X_move (v := .int _ _) rfl) ?_; refine Ls (X_addi rfl rfl (by omega)) ?_; refine Ls ((X_remi rfl rfl (by omega)).trans (by rw [hrem])) ?_; refine Ls (X_assign (v := .int _ _) rfl) ?_; refine L_nil ?_; refine tn ?_; refine W_seq ?_)
  apply W_dagE 14 (by kernel_rfl)
  (apply DW_x (fun r w hA hH => (X_move (v := .int _ _) rfl).trans rfl); apply DW_x (fun r w hA hH => (X_move (v := .int _ _) rfl).trans rfl); apply DW_x (fun r w hA hH => ((X_subi rfl rfl (by omega)).trans (by rw [show ((log : Nat) : Int) - ((c : Nat) : Int) = ((log - c : Nat) : Int) by omega])).trans rfl); apply DW_x (fun r w hA hH => ((X_shl rfl rfl (by omega)).trans (by rw [shl_one (by omega)])).trans rfl); apply DW_x (fun r w hA hH => (X_move (v := .int _ _) rfl).trans rfl); apply DW_x (fun r w hA hH => ((X_shl rfl rfl (by omega)).trans (by rw [shl_one (by omega)])).trans rfl); apply DW_x (fun r w hA hH => (X_move (v := .int _ _) rfl).trans rfl); apply DW_x (fun r w hA hH => ((X_shr rfl rfl (by omega)).trans (by rw [h4])).trans rfl); apply DW_x (fun r w hA hH => ((X_and rfl rfl).trans (by rw [and1_16])).trans rfl); apply DW_x (fun r w hA hH => ((X_conv rfl).trans (by rw [i64_nat (by omega)])).trans rfl); apply DW_x (fun r w hA hH => (X_muli rfl rfl ⟨by omega, by omega⟩).trans rfl); apply DW_x (fun r w hA hH => ((X_addi rfl rfl (by omega)).trans (by rw [hB])).trans rfl))
  ((with_reducible apply DW_x); (exact fun r w hA hH => (X_mkShape3 rfl rfl rfl).trans rfl))
  apply DW_alloc (w0 := w1) (fun w hA => hA.size)
  ((with_reducible exact D_end); (exact rfl); (repeat (first | exact .inr (.inr (fun _ _ => by with_reducible rfl)) | (refine And.intro ?_ ?_) | exact .inr (.inl rfl) | exact .inl (by decide +kernel) | exact trivial | exact .inr (.inr (fun _ _ => rfl)))); (try dsimp only [Nat.reduceAdd]))
  intro r w2 E2 H2
  obtain ⟨g6, hg6, hg6l, B6⟩ : NewF w1 28 _ (r 13) w2 := H2 13
  rw [hg6]
  refine L_storeW (size := 4) (l := shC ((2 ^ (log - c) : Nat) : Int) ((2 ^ c : Nat) : Int) ((2 ^ b : Nat) : Int) 0) rfl rfl rfl shC_cell B6 rfl ?_
  intro w3 B6 hg6' hs3
  have B4 := (B4.ext E2).grown hg6' (by simp; have := B4.lt; omega)
  have E13 : Ext w w3 := (E1.trans E2).then hg6' (fun g h => by cases h; have := E1.size; omega)
  have hBC : ((2 ^ b : Nat) : Int) * ((2 ^ c : Nat) : Int) = ((2 ^ b * 2 ^ c : Nat) : Int) := (Int.natCast_mul _ _).symm
  have hm : 0 < 2 ^ b * 2 ^ c := Nat.mul_pos (by omega) (by omega)
  have hm2 : 2 ^ b * 2 ^ c ≤ 4 * 64 := Nat.mul_le_mul hB4.2 hC64
  have hr6 : ((n / 64 : Nat) : Int) % ((2 ^ b * 2 ^ c : Nat) : Int) = ((n / 64 % (2 ^ b * 2 ^ c) : Nat) : Int) := (Int.natCast_emod _ _).symm
  obtain ⟨m, hmm⟩ : ∃ m, m = 2 ^ b * 2 ^ c := ⟨_, rfl⟩
  rw [← hmm] at hBC hm hm2 hr6
  have hz : n / 64 % m < m := Nat.mod_lt _ hm
  (refine L_nil ?_; refine tn ?_; refine W_seq ?_; refine W_region ?_; refine Ls (X_move (v := .int _ _) rfl) ?_; refine Ls ((X_shr rfl rfl (by omega)).trans (by rw [h6])) ?_; refine Ls ((X_conv rfl).trans (by rw [i64_nat (by omega)])) ?_; refine Ls (X_fld rfl) ?_; refine Ls (X_ld (cs := shC ((2 ^ (log - c) : Nat) : Int) ((2 ^ c : Nat) : Int) ((2 ^ b : Nat) : Int) 0) rfl B6 rfl) ?_; refine Ls (X_fld rfl) ?_; refine Ls (X_ld (cs := shC ((2 ^ (log - c) : Nat) : Int) ((2 ^ c : Nat) : Int) ((2 ^ b : Nat) : Int) 0) rfl B6 rfl) ?_; refine Ls ((X_muli rfl rfl ⟨by omega, by omega⟩).trans (by rw [hBC])) ?_; refine Ls ((X_remi rfl rfl (by omega)).trans (by rw [hr6])) ?_; refine Ls (X_addi rfl rfl (by omega)) ?_; refine Ls (X_fld rfl) ?_)
  refine L_store1 (v := .int .i64 _) rfl rfl rfl B6 (by simp [shC]) ?_
  intro w4 B6' hg6a hs4
  have B6' : Blk w4 g6 28 (shC ((2 ^ (log - c) : Nat) : Int) ((2 ^ c : Nat) : Int) ((2 ^ b : Nat) : Int) (1 + ((n / 64 % m : Nat) : Int))) := B6'
  (refine L_nil ?_; refine tn ?_; refine W_seq ?_; refine W_region ?_; refine Ls (X_fld rfl) ?_; refine Ls (X_ld (cs := shC ((2 ^ (log - c) : Nat) : Int) ((2 ^ c : Nat) : Int) ((2 ^ b : Nat) : Int) (1 + ((n / 64 % m : Nat) : Int))) rfl B6' rfl) ?_; refine Ls ((X_min rfl rfl).trans (by rw [show (if (12 : Int) < 1 + ((n / 64 % m : Nat) : Int) then (12 : Int) else 1 + ((n / 64 % m : Nat) : Int)) = ((min (1 + n / 64 % m) 12 : Nat) : Int) by split <;> omega])) ?_; refine Ls (X_fld rfl) ?_)
  refine L_store1 (v := .int .i64 _) rfl rfl rfl B6' (by simp [shC]) ?_
  intro w5 B6'' hg6b hs5
  have B6'' : Blk w5 g6 28 (shC ((2 ^ (log - c) : Nat) : Int) ((2 ^ c : Nat) : Int) ((2 ^ b : Nat) : Int) ((min (1 + n / 64 % m) 12 : Nat) : Int)) := B6''
  have h46 : g4 ≠ g6 := by have := E1.size; omega
  have B4 := (B4.grown hg6a (by simp; exact fun h => h46 h.symm)).grown hg6b (by simp; exact fun h => h46 h.symm)
  (refine L_nil ?_; refine tn ?_; refine W_seq ?_; refine W_region ?_; refine Ls (X_ldW (cs := shC ((2 ^ (log - c) : Nat) : Int) ((2 ^ c : Nat) : Int) ((2 ^ b : Nat) : Int) ((min (1 + n / 64 % m) 12 : Nat) : Int)) rfl B6'' rfl) ?_)
  refine L_storeW (size := 4) (l := shC ((2 ^ (log - c) : Nat) : Int) ((2 ^ c : Nat) : Int) ((2 ^ b : Nat) : Int) ((min (1 + n / 64 % m) 12 : Nat) : Int)) rfl rfl rfl shC_cell B4 rfl ?_
  intro w6 B4' hg4' hs6
  (refine L_nil ?_; refine tn ?_; refine W_ret ?_)
  refine endQ_res rfl rfl (Res.cellA inferInstance rfl (B4'.range (fun j u h => by simpa using h)) rfl .nil) ?_
  have hs : mkS log n = ⟨log - c, c, b, min (1 + n / 64 % m) 12⟩ := by unfold mkS; rw [← hc, ← hb, ← hmm]
  rw [hs]
  have hsz1 := E1.size
  exact ⟨rfl, ((E13.then hg6a (fun g h => by cases h; omega)).then hg6b (fun g h => by cases h; omega)).then hg4' (fun g h => by cases h; omega)⟩
end Go.Proofs.YtpohjepbmgeplaaGreatDoor
