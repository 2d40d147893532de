/- IM, IN, JA, JB, JC, JD, JE, JF, JG, JH, JI, JJ, JK, JL, JM, JN, JO, JP, JQ, JR, JS, JT, JV. -/
import Derived.Test.YtpohjepbmgeplaaGreatDoorQ6
/- Commitments: Verify, the program's. -/
namespace Go.Proofs.YtpohjepbmgeplaaGreatDoor
open Go.RowKit Go.Proofs.K
open _root_.Fd (K E pw root trow enc ccol comb)
open _root_.Cm (Sh pws pwE)

theorem take_row {w : World} {lo hi m c : Nat} {A : Option Addr} {P : List E} (h : Row w lo hi 2 (.slice A m c) m (exs (raw P))) (hl : P.length = m) {j : Nat} (hj : j ≤ m) :
    Row w lo hi 2 (.slice (if c = 0 then A else A.map (·.add (0 * 2))) (j - 0) (c - 0)) (P.take j).length (exs (raw (P.take j))) := by
  have := h.slice (i := 0) (j := j) rfl (Nat.zero_le _) hj
  have e : ((exs (raw P)).drop (0 * 2)).take ((j - 0) * 2) = exs (raw (P.take j)) := by rw [Nat.zero_mul, List.drop_zero, Nat.sub_zero, raw_take]
  rw [e] at this
  rw [List.length_take, hl, show min j m = j - 0 by omega]
  exact this
set_option maxRecDepth 100000 in
set_option maxHeartbeats 8000000 in
theorem gcverify (rt : List Nat) (hrt : rt.length = 32) (hrt8 : Sha.bytesOk rt) (R C B T log : Int) (hR : I64 R) (hC : I64 C) (hB : I64 B) (hT : I64 T) (hlog : I64 log) (pl ph il ih l1 h1 l2 h2 : Nat) (pv iv rv nv cv qv : Value) (P : List (Nat × Nat)) (rho : Nat × Nat) (I : List Int) (v : Nat × Nat) (RW RD : List (Nat × Nat)) (CL ns : List (List Nat))
    (hPl : P.length ≤ 1000000) (hIl : I.length ≤ 1000000) (hRW : RW.length ≤ 1000000) (hRD : RD.length ≤ 1000000) (hCl : CL.length ≤ 1000000) (hCL : ∀ c ∈ CL, c.length ≤ 1000000) (hnk : DgOk ns) (hnl : ns.length ≤ 1000000)
    (w : World) (hw : Tb w) (hp : Row w pl ph 2 pv P.length (exs P)) (hi' : Row w il ih 1 iv I.length (I.map (Value.int .i64))) (hr : Row w l1 h1 2 rv RW.length (exs RW)) (hn : Row w l2 h2 2 nv RD.length (exs RD)) (hc : PartN (fun _ => True) w .u64 cv CL) (hq : RowN (fun _ => True) w 32 qv ns.length (dgs ns)) :
    Calls Tryz.prog 24 #[.agg (ints .u8 rt).toArray, .agg (shC R C B T).toArray, .agg (vopC pv rho iv log v rv nv cv qv).toArray] w fun e w' => ∃ r : Int, e = .returned (.int .i64 r) ∧ Ext w w' ∧
      ((∃ s, VArg R C B T log P rho I v RW RD CL s ∧ r = (verZ s rt P rho I v RW RD CL ns : Nat)) ∨ (¬ (∃ s, VArg R C B T log P rho I v RW RD CL s) ∧ r = 1)) := by
  have hp1 := row_cell1 hp
  have hi1 := row_cell1 hi'
  have hr1 := row_cell1 hr
  have hn1 := row_cell1 hn
  obtain ⟨_, _, _, hq'⟩ := hq
  have hq1 := row_cell1 hq'
  have hq : RowN (fun _ => True) w 32 qv ns.length (dgs ns) := ⟨_, _, fun _ _ _ => trivial, hq'⟩
  have hcc := hc
  obtain ⟨vs, hvl, ⟨lc, hc', _, hrc⟩, hvx⟩ := hc
  have hc1 := row_cell1 hrc
  refine calls_W Tryz.func24 rfl Tryz.ntmps24 rfl ?_
  (refine W_seq ?_; refine W_region ?_)
  refine L_box rfl ?_
  intro g3 w1 B3 hg3 E1 hs1
  refine L_box rfl ?_
  intro g4 w2 B4 hg4 E2 hs2
  refine L_box rfl ?_
  intro g5 w3 B5 hg5 E3 hs3
  have C3 := B3.ext (E2.trans E3)
  have C4 := B4.ext E3
  have E13 := E1.trans (E2.trans E3)
  have hno : ∀ w', Ext w3 w' → (∀ s, ¬ VArg R C B T log P rho I v RW RD CL s) → ∃ r : Int, Ending.returned (.int .i64 1) = .returned (.int .i64 r) ∧ Ext w w' ∧ ((∃ s, VArg R C B T log P rho I v RW RD CL s ∧ r = (verZ s rt P rho I v RW RD CL ns : Nat)) ∨ (¬ (∃ s, VArg R C B T log P rho I v RW RD CL s) ∧ r = 1)) :=
    fun w' E h => ⟨1, rfl, E13.trans E, .inr ⟨fun ⟨s, hs⟩ => h s hs, rfl⟩⟩
  (refine Ls (X_assign (v := .int _ _) rfl) ?_; refine L_nil ?_; refine tn ?_; refine W_seq ?_; refine W_seq ?_; refine W_region ?_; refine Ls (X_ldW (cs := shC R C B T) rfl C4 rfl) ?_; refine Ls (X_fld rfl) ?_; refine Ls (X_ld (cs := vopC pv rho iv log v rv nv cv qv) rfl B5 rfl) ?_)
  refine L_fo (F := fun u w' => ∃ b : Bool, u = .bool b ∧ (b = true ↔ SOk R C B T log) ∧ Ext w3 w') rfl ((gcvalid R C B T log hR hC hB hT hlog w3).mono fun e w' ⟨b, h1, h2, h3⟩ => ⟨_, h1, b, rfl, h2, h3⟩) ?_
  rintro _ w4 ⟨b0, rfl, hb0, E4⟩
  cases b0 with
  | false =>
    (refine Ls (X_not rfl) ?_; refine Ls (X_move (v := .bool _) rfl) ?_; refine Lo2 rfl rfl rfl rfl ?_; refine Lo2 rfl rfl rfl rfl ?_; refine Lo2 rfl rfl rfl rfl ?_; refine Lo2 rfl rfl rfl rfl ?_; refine Lo2 rfl rfl rfl rfl ?_; refine Lo2 rfl rfl rfl rfl ?_; refine Lo2 rfl rfl rfl rfl ?_; refine Ls (X_pickT (v := .bool _) rfl rfl) ?_; refine Ls (X_move (v := .bool _) rfl) ?_; refine Lo2 rfl rfl rfl rfl ?_; refine Lo2 rfl rfl rfl rfl ?_; refine Lo2 rfl rfl rfl rfl ?_; refine Lo2 rfl rfl rfl rfl ?_; refine Ls (X_pickT (v := .bool _) rfl rfl) ?_; refine Ls (X_move (v := .bool _) rfl) ?_; refine Lo2 rfl rfl rfl rfl ?_; refine Lo2 rfl rfl rfl rfl ?_; refine Lo2 rfl rfl rfl rfl ?_; refine Lo2 rfl rfl rfl rfl ?_; refine Lo2 rfl rfl rfl rfl ?_; refine Ls (X_pickT (v := .bool _) rfl rfl) ?_; refine L_nil ?_; refine tn ?_; refine W_condT rfl ?_; refine W_seq ?_; refine W_region ?_; refine Ls (X_assign (v := .int _ _) rfl) ?_; refine L_nil ?_; refine tn ?_; refine W_ret ?_; refine tr ?_)
    exact endQ_ret1 rfl rfl (v := .int _ _) rfl (hno _ E4 fun s h => by
      have := hb0.2 (by rw [h.r, h.c, h.b, h.t, h.log]; exact sh_ok h.ok)
      cases this)
  | true =>
    have hok := hb0.1 rfl
    obtain ⟨s, hs, rfl, rfl, rfl, rfl, hlog'⟩ := hok.sh
    subst hlog'
    have hsj : ∀ s', VArg (s.R : Nat) (s.C : Nat) (s.B : Nat) (s.t : Nat) ((s.a + s.c : Nat) : Int) P rho I v RW RD CL s' → s' = s := fun s' h => (sh_inj h.r h.c h.b h.t).symm
    have C4 := C4.ext E4
    have C5 := B5.ext E4
    (refine Ls (X_not rfl) ?_; refine Ls (X_move (v := .bool _) rfl) ?_; refine Lg2 rfl rfl rfl (X_ldW (cs := shC (s.R : Nat) (s.C : Nat) (s.B : Nat) (s.t : Nat)) rfl C4 rfl) ?_; refine Lg2 rfl rfl rfl (X_fld rfl) ?_; refine Lg2 rfl rfl rfl (X_ld (cs := vopC pv rho iv ((s.a + s.c : Nat) : Int) v rv nv cv qv) rfl C5 rfl) ?_; refine Lg2 rfl rfl rfl (X_fld rfl) ?_; refine Lg2 rfl rfl rfl (X_ldA (size := 4) (l := waC pv rho iv) rfl C5 rfl rfl) ?_)
    refine L_strip rfl rfl rfl ?_
    refine L_fo (F := fun u w' => ∃ b : Bool, u = .bool b ∧ (b = true ↔ PosOk s P rho I) ∧ Ext w4 w') rfl ((gpositioned s hs pl ph il ih pv iv P rho I hPl hIl w4 ((hp.ext E13).ext E4) ((hi'.ext E13).ext E4)).mono fun e w' ⟨b, h1, h2, h3⟩ => ⟨_, h1, b, rfl, h2, h3⟩) ?_
    rintro _ w5 ⟨b1, rfl, hb1, E5⟩
    have E45 := E4.trans E5
    cases b1 with
    | false =>
      (refine Lg2 rfl rfl rfl (X_not rfl) ?_; refine Ls (X_pickF (v := .bool _) rfl rfl) ?_; refine Ls (X_move (v := .bool _) rfl) ?_; refine Lo2 rfl rfl rfl rfl ?_; refine Lo2 rfl rfl rfl rfl ?_; refine Lo2 rfl rfl rfl rfl ?_; refine Lo2 rfl rfl rfl rfl ?_; refine Ls (X_pickT (v := .bool _) rfl rfl) ?_; refine Ls (X_move (v := .bool _) rfl) ?_; refine Lo2 rfl rfl rfl rfl ?_; refine Lo2 rfl rfl rfl rfl ?_; refine Lo2 rfl rfl rfl rfl ?_; refine Lo2 rfl rfl rfl rfl ?_; refine Lo2 rfl rfl rfl rfl ?_; refine Ls (X_pickT (v := .bool _) rfl rfl) ?_; refine L_nil ?_; refine tn ?_; refine W_condT rfl ?_; refine W_seq ?_; refine W_region ?_; refine Ls (X_assign (v := .int _ _) rfl) ?_; refine L_nil ?_; refine tn ?_; refine W_ret ?_; refine tr ?_)
      exact endQ_ret1 rfl rfl (v := .int _ _) rfl (hno _ E45 fun s' h => by
        have e := hsj s' h
        subst e
        have := hb1.2 h.pos
        cases this)
    | true =>
      have hpos := hb1.1 rfl
      have C4 := C4.ext E5
      have C5 := C5.ext E5
      (refine Lg2 rfl rfl rfl (X_not rfl) ?_; refine Ls (X_pickF (v := .bool _) rfl rfl) ?_; refine Ls (X_move (v := .bool _) rfl) ?_; refine Lg2 rfl rfl rfl (X_fld rfl) ?_; refine Lg2 rfl rfl rfl (X_ldA (size := 2) (l := exC v.1 v.2) rfl C5 rfl rfl) ?_)
      refine L_strip rfl rfl rfl ?_
      refine L_fo (F := fun u w' => ∃ b : Bool, u = .bool b ∧ (b = true ↔ isE v) ∧ Ext w5 w') rfl ((gexvalid v.1 v.2 w5).mono fun e w' ⟨h1, h2⟩ => ⟨_, h1, _, rfl, by simp [isE], h2⟩) ?_
      rintro _ w6 ⟨b2, rfl, hb2, E6⟩
      have E46 := E45.trans E6
      cases b2 with
      | false =>
        (refine Lg2 rfl rfl rfl (X_not rfl) ?_; refine Ls (X_pickF (v := .bool _) rfl rfl) ?_; refine Ls (X_move (v := .bool _) rfl) ?_; refine Lo2 rfl rfl rfl rfl ?_; refine Lo2 rfl rfl rfl rfl ?_; refine Lo2 rfl rfl rfl rfl ?_; refine Lo2 rfl rfl rfl rfl ?_; refine Lo2 rfl rfl rfl rfl ?_; refine Ls (X_pickT (v := .bool _) rfl rfl) ?_; refine L_nil ?_; refine tn ?_; refine W_condT rfl ?_; refine W_seq ?_; refine W_region ?_; refine Ls (X_assign (v := .int _ _) rfl) ?_; refine L_nil ?_; refine tn ?_; refine W_ret ?_; refine tr ?_)
        exact endQ_ret1 rfl rfl (v := .int _ _) rfl (hno _ E46 fun s' h => by
          have := hb2.2 h.v
          cases this)
      | true =>
        have hve := hb2.1 rfl
        have C4 := C4.ext E6
        have C5 := C5.ext E6
        have E16 := E13.trans E46
        (refine Lg2 rfl rfl rfl (X_not rfl) ?_; refine Ls (X_pickF (v := .bool _) rfl rfl) ?_; refine Ls (X_move (v := .bool _) rfl) ?_; refine Lg2 rfl rfl rfl (X_ldW (cs := shC (s.R : Nat) (s.C : Nat) (s.B : Nat) (s.t : Nat)) rfl C4 rfl) ?_; refine Lg2 rfl rfl rfl (X_fld rfl) ?_; refine Lg2 rfl rfl rfl (X_ldA (size := 4) (l := pxC rv nv cv qv) rfl C5 rfl rfl) ?_)
        refine L_strip rfl rfl rfl ?_
        refine L_fo (F := fun u w' => ∃ b : Bool, u = .bool b ∧ (b = true ↔ ShpOk s RW RD CL) ∧ Ext w6 w') rfl ((gshaped s hs l1 h1 l2 h2 rv nv cv qv hq1 RW RD CL hRW hRD hCl hCL w6 (hr.ext E16) (hn.ext E16) (hcc.ext E16)).mono fun e w' ⟨b, h1, h2, h3⟩ => ⟨_, h1, b, rfl, h2, h3⟩) ?_
        rintro _ w7 ⟨b3, rfl, hb3, E7⟩
        have E47 := E46.trans E7
        cases b3 with
        | false =>
          (refine Lg2 rfl rfl rfl (X_not rfl) ?_; refine Ls (X_pickF (v := .bool _) rfl rfl) ?_; refine L_nil ?_; refine tn ?_; refine W_condT rfl ?_; refine W_seq ?_; refine W_region ?_; refine Ls (X_assign (v := .int _ _) rfl) ?_; refine L_nil ?_; refine tn ?_; refine W_ret ?_; refine tr ?_)
          exact endQ_ret1 rfl rfl (v := .int _ _) rfl (hno _ E47 fun s' h => by
            have e := hsj s' h
            subst e
            have := hb3.2 h.sh
            cases this)
        | true =>
          have hsp := hb3.1 rfl
          have hVA : VArg (s.R : Nat) (s.C : Nat) (s.B : Nat) (s.t : Nat) ((s.a + s.c : Nat) : Int) P rho I v RW RD CL s := ⟨hs, rfl, rfl, rfl, rfl, rfl, hpos, hve, hsp⟩
          have C3 := C3.ext E47
          have C4 := C4.ext E7
          have C5 := C5.ext E7
          have E17 := E13.trans E47
          obtain ⟨Ac, cc, rfl⟩ : ∃ A c, cv = .slice A CL.length c := by
            obtain ⟨_, A, c, rfl, _⟩ := hrc
            exact ⟨A, c, rfl⟩
          obtain ⟨Ai, ci, rfl⟩ : ∃ A c, iv = .slice A I.length c := by
            obtain ⟨_, A, c, rfl, _⟩ := hi'
            exact ⟨A, c, rfl⟩
          obtain ⟨Ap, cp, rfl, hcp⟩ : ∃ A c, pv = .slice A P.length c ∧ P.length ≤ c := by
            obtain ⟨_, A, c, rfl, h, _⟩ := hp
            exact ⟨A, c, rfl, h⟩
          have hR16 : s.R ≤ 65536 := (pow_le16 (a := s.a) (by have := hs.ac; omega)).2
          have hC16 : s.C ≤ 65536 := (pow_le16 (a := s.c) (by have := hs.ac; omega)).2
          have hR1 : 1 ≤ s.R := Nat.pow_pos (by decide)
          have hn16 : s.n ≤ 65536 := (pow_le16 hs.cb).2
          have hn1' : 1 ≤ s.n := Nat.pow_pos (by decide)
          have hBC : ((s.B : Nat) : Int) * ((s.C : Nat) : Int) = ((s.n : Nat) : Int) := by rw [← Int.natCast_mul, Cm.Sh.BC]
          have hI0 : ∀ i ∈ I, 0 ≤ i := fun i hi => (hpos.ix i hi).1
          have hIs := toI_srt hI0 hpos.srt
          have hIin := toI_lt hpos.ix
          have hlI := toI_len I
          have hIrow : ∀ y, Ext w y → Row y il ih 1 (.slice Ai I.length ci) (toI I).length (ints .i64 (toI I)) := fun y E => by
            have := hi'.ext E
            rw [toI_ints hI0] at this
            rw [toI_len]; exact this
          have hCLr : ∀ c ∈ CL, c.length = s.R := fun c hc => (hsp.cl c hc).1
          have hbs : (CL.map fun c => c.map Fd.k).map by8 = CL.map encB := by
            rw [List.map_map]
            exact List.map_congr_left fun c hc => by
              show encB (vals (c.map Fd.k)) = _
              rw [kvals (hsp.cl c hc).2]
          have hBs : BsOk (CL.map encB) := fun b hb => by
            obtain ⟨c, hc, rfl⟩ := List.mem_map.1 hb
            refine ⟨encB_ok _, ?_⟩
            rw [encB_len, hCLr c hc]; omega
          have hokk : Mk.okP lf nd s.n (toI I) (CL.map encB) ns rt ↔ Mk.okR lf nd s.n (toI I) (CL.map encB) ns rt := Mk.ok_iff lf nd hn1' hIin hIs _ _ (by rw [List.length_map, hsp.l3, hlI, hpos.i]) rt
          (refine Lg2 rfl rfl rfl (X_not rfl) ?_; refine Ls (X_pickF (v := .bool _) rfl rfl) ?_; refine L_nil ?_; refine tn ?_; refine W_condF rfl ?_; refine W_skip ?_; refine tn ?_; refine W_seq ?_; refine W_region ?_; refine Ls (X_fld rfl) ?_; refine Ls (X_fld rfl) ?_; refine Ls (X_ld (cs := vopC (.slice Ap P.length cp) rho (.slice Ai I.length ci) ((s.a + s.c : Nat) : Int) v rv nv (.slice Ac CL.length cc) qv) rfl C5 rfl) ?_)
          refine Ls (X_mkLeaves (iv := .slice Ai I.length ci) rfl rfl) ?_
          skip
          refine L_alloc ?_
          intro g7 w8 B7 hg7 E8 hs8
          refine L_storeW (l := [.slice Ai I.length ci, .slice none 0 0]) rfl rfl rfl (by simp [Value.oneCell']) B7 rfl ?_
          intro w9 B7' hg9 hs9
          have E79 : Ext w7 w9 := E8.then hg9 (fun g h => by cases h; omega)
          (refine L_nil ?_; refine tn ?_; refine W_seq ?_; refine W_seq ?_; refine W_region ?_; refine Ls (X_fld rfl) ?_; refine Ls (X_fld rfl) ?_; refine Ls (X_ld (cs := vopC (.slice Ap P.length cp) rho (.slice Ai I.length ci) ((s.a + s.c : Nat) : Int) v rv nv (.slice Ac CL.length cc) qv) rfl (C5.ext E79) rfl) ?_; refine Ls (X_lenSlice rfl) ?_; refine Ls (X_move (v := .int _ _) rfl) ?_; refine L_nil ?_; refine tn ?_; refine W_block ?_)
          refine W_loop (fun q f w' => ∃ (i : Nat) (u : Value) (xs : List Value), q = CL.length - i ∧ i ≤ CL.length ∧ f 3 = .pointer (some ⟨g3, 0, none⟩) ∧ f 4 = .pointer (some ⟨g4, 0, none⟩) ∧ f 5 = .pointer (some ⟨g5, 0, none⟩) ∧ f 7 = .pointer (some ⟨g7, 0, none⟩) ∧ f 51 = .slice Ac CL.length cc ∧ f 52 = .int .i64 (CL.length : Nat) ∧ f 53 = .int .i64 (i : Nat) ∧ Ext w7 w' ∧ Blk w' g7 128 [.slice Ai I.length ci, u] ∧ w'.ownsRow w7.heap.size 129 1 u i xs ∧
            (∀ (k : Nat) (x : Value) (c : List Nat), xs[k]? = some x → CL[k]? = some c → w'.ownsRow w7.heap.size 5 1 x (encB c).length (ints .u8 (encB c)))) CL.length ?_ ?_
          · exact ⟨0, .slice none 0 0, [], rfl, by omega, rfl, rfl, rfl, rfl, rfl, rfl, rfl, E79, B7', ⟨rfl, .inl ⟨rfl, rfl⟩⟩, (fun _ _ _ h => by cases h)⟩
          · rintro q0 f wr ⟨i, u, xs, hq0, hil, f3, f4, f5, f7, f51, f52, f53, hE, D7, ou, ox⟩
            have hu1 := row_cell1 (Row.of_own ou)
            rw [fold f3, fold f4, fold f5, fold f7, fold f51, fold f52, fold f53]
            (refine W_seq ?_; refine W_region ?_; refine Ls (X_lss rfl rfl) ?_; refine L_nil ?_; refine tn ?_; refine W_seq ?_)
            refine W_condp rfl (fun h => ?_) (fun h => ?_)
            · have hlt : i < CL.length := by omega
              obtain ⟨x, hx⟩ : ∃ x, vs[i]? = some x := ⟨_, List.getElem?_eq_getElem (by omega)⟩
              obtain ⟨c, hcx⟩ : ∃ c, CL[i]? = some c := ⟨_, List.getElem?_eq_getElem hlt⟩
              have hcl := hCLr c (List.mem_of_getElem? hcx)
              obtain ⟨_, _, _, hrx⟩ := hvx i x c hx hcx
              have hx1 := row_cell1 hrx
              obtain ⟨b, o, c', e, _, _, _, hRg⟩ := ((hrc.ext E17).ext hE).at hlt
              cases e
              have hxl : xs.length = i := by rw [ou.1, Nat.mul_one]
              (refine W_skip ?_; refine tn ?_; refine W_seq ?_; refine W_block ?_; refine W_seq ?_; refine W_region ?_; refine Ls (X_indexSn rfl rfl (by omega)) ?_; refine Ls (X_ldR rfl hRg (j := i) (by omega) hx) ?_; refine Ls (X_assign (v := x) rfl) ?_; refine L_nil ?_; refine tn ?_)
              apply W_dagE 5 (by kernel_rfl)
              (apply DW_x (fun r w hA hH => (X_fld rfl).trans rfl); apply DW_x (fun r w hA hH => (X_ld rfl (D7.ext hA) rfl).trans rfl); apply DW_x (fun r w hA hH => (X_move (v := x) rfl).trans rfl))
              ((with_reducible apply DW_fo); (exact fun _ => rfl); (exact fun _ => rfl); (exact fun r w hA hH => calls_own hA (gencodeB _ _ x c (by omega) w (((hrx.ext E17).ext hE).ext hA))); (exact fun _ _ _ _ _ _ E h => OwnF.ext E h))
              apply DW_lit1 (w0 := wr) (fun r => r 3) (fun r => rfl) (fun r w hA hH => (by obtain ⟨_, _, o⟩ := hH 3 rfl; exact row_cell1 (Row.of_own o))) (fun w hA => hA.size) (fun r v => rfl)
              ((with_reducible exact D_end); (exact rfl); (repeat (first | exact .inr (.inr (fun _ _ => by with_reducible rfl)) | (refine And.intro ?_ ?_) | exact .inr (.inl rfl) | exact .inl (by decide +kernel) | exact trivial | exact .inr (.inr (fun _ _ => rfl)))); (try dsimp only [Nat.reduceAdd]))
              intro r y1 F1 H1
              obtain ⟨bq, hbq, o2⟩ : OwnF wr 5 1 (r 3) _ _ y1 := H1 3
              obtain ⟨l4, h4, hl4, r4⟩ : RowF wr 1 (r 4) 1 [r 3] y1 := H1 4
              have hr3 := row_cell1 (Row.of_own o2)
              have ou' := own_ext ou F1
              refine L_append (v := u) (u := r 4) rfl rfl ou' r4 (fun x hx => by rw [List.mem_singleton.1 hx]; exact hr3) (by omega) (by omega) (by have := F1.size; have := hE.size; omega) ?_
              intro u4 y4 o4 hg4' hb4
              have hu4 := row_cell1 (Row.of_own o4)
              have G7 := (D7.ext F1).grown hg4' (fun h => by
                obtain ⟨_, cs, fz, e⟩ := own_obj ou' g7 h
                exact blk_ty (D7.ext F1) e (by decide))
              have hxo : ∀ (x : Value) (m : Nat) (l : List Value) (bs : Nat), y1.ownsRow bs 5 1 x m l → y4.ownsRow bs 5 1 x m l := fun x m l bs h => own_other h hg4' (fun g hg e => by
                obtain ⟨_, cs, fz, e1⟩ := own_obj h g hg
                obtain ⟨_, cs', fz', e2⟩ := own_obj ou' g e
                rw [e1] at e2
                cases e2)
              (refine Ls (X_fld rfl) ?_)
              refine L_store1 (v := u4) rfl rfl hu4 G7 (by simp) ?_
              intro y5 G7' hg5' hs5
              have G7' : Blk y5 g7 128 [.slice Ai I.length ci, u4] := G7'
              have hx5 : ∀ (x : Value) (m : Nat) (l : List Value) (bs : Nat) (T : TypeId), T ≠ 128 → y4.ownsRow bs T 1 x m l → y5.ownsRow bs T 1 x m l := fun x m l bs T hT h => own_other h hg5' (fun g hg e => by
                obtain rfl : g7 = g := Option.some.inj e
                obtain ⟨_, cs, fz, e1⟩ := own_obj h g7 hg
                exact blk_ty G7 e1 (Ne.symm hT))
              (refine L_nil ?_; refine bn ?_; refine tn ?_; refine W_region ?_; refine Ls (X_addi rfl rfl (by omega)) ?_; refine Ls (X_move (v := .int _ _) rfl) ?_; refine L_nil ?_; refine tn ?_)
              refine ⟨CL.length - (i + 1), by omega, i + 1, u4, xs ++ [r 3], rfl, by omega, rfl, rfl, rfl, rfl, rfl, rfl, rfl, ((hE.trans F1).then hg4' (fun g h => (own_obj ou' g h).1)).then hg5' (fun g h => by cases h; omega), G7', hx5 _ _ _ _ _ (by decide) o4, fun k z d hz hd => ?_⟩
              rcases Nat.lt_or_ge k i with hk | hk
              · rw [List.getElem?_append_left (by omega)] at hz
                exact hx5 _ _ _ _ _ (by decide) (hxo _ _ _ _ (own_ext (ox k z d hz hd) F1))
              · have hke : k = i := by
                  have := (List.getElem?_eq_some_iff.1 hz).1
                  rw [List.length_append, hxl] at this
                  simp at this
                  omega
                subst hke
                rw [List.getElem?_append_right (by omega), hxl, Nat.sub_self] at hz
                cases hz
                rw [hcx] at hd
                cases hd
                exact hx5 _ _ _ _ _ (by decide) (hxo _ _ _ _ (own_base o2 (by have := hE.size; omega)))
            · have hin : i = CL.length := by omega
              rw [hin] at ou
              have hPB : PartN (fun _ => True) wr .u8 u (CL.map encB) := by
                refine ⟨xs, by rw [List.length_map, ou.1, Nat.mul_one], ?_, fun k x y hx hy => ?_⟩
                · rw [List.length_map]
                  exact (RowN.of_own ou).mono fun _ _ => trivial
                · rw [List.getElem?_map] at hy
                  obtain ⟨c, hcx, rfl⟩ := Option.map_eq_some_iff.1 hy
                  exact (RowN.of_own (ox k x c hx hcx)).mono fun _ _ => trivial
              have C3 := C3.ext hE
              have C4 := C4.ext hE
              have C5 := C5.ext hE
              have E1r := E17.trans hE
              have hvd : ∀ r : Nat, verZ s rt P rho I v RW RD CL ns = r → ∀ w', Ext wr w' → ∃ r' : Int, Ending.returned (.int .i64 (r : Nat)) = .returned (.int .i64 r') ∧ Ext w w' ∧ ((∃ s', VArg (s.R : Nat) (s.C : Nat) (s.B : Nat) (s.t : Nat) ((s.a + s.c : Nat) : Int) P rho I v RW RD CL s' ∧ r' = (verZ s' rt P rho I v RW RD CL ns : Nat)) ∨ (¬ (∃ s', VArg (s.R : Nat) (s.C : Nat) (s.B : Nat) (s.t : Nat) ((s.a + s.c : Nat) : Int) P rho I v RW RD CL s') ∧ r' = 1)) :=
                fun r h w' E => ⟨_, rfl, E1r.trans E, .inl ⟨s, hVA, by rw [h]⟩⟩
              (refine W_exit ?_; refine te ?_; refine te ?_; refine bx ?_; refine tn ?_; refine W_seq ?_; refine W_seq ?_; refine W_region ?_; refine Ls (X_ldW (cs := ints .u8 rt) rfl C3 (by rw [ints_len]; exact hrt)) ?_; refine Ls (X_fld rfl) ?_; refine Ls (X_ld (cs := shC (s.R : Nat) (s.C : Nat) (s.B : Nat) (s.t : Nat)) rfl C4 rfl) ?_; refine Ls (X_fld rfl) ?_; refine Ls (X_ld (cs := shC (s.R : Nat) (s.C : Nat) (s.B : Nat) (s.t : Nat)) rfl C4 rfl) ?_; refine Ls ((X_muli rfl rfl ⟨by omega, by omega⟩).trans (by rw [hBC])) ?_; refine Ls (X_ldW (cs := [.slice Ai I.length ci, u]) rfl D7 rfl) ?_; refine Ls (X_fld rfl) ?_; refine Ls (X_fld rfl) ?_; refine Ls (X_ldA (size := 1) (l := [qv]) rfl C5 rfl rfl) ?_)
              refine L_fv rfl (gmverify (n := s.n) hn1' hn16 rt hrt hrt8 il ih (.slice Ai I.length ci) u qv (toI I) (CL.map encB) ns hIs hIin (by rw [List.length_map, hsp.l3, hlI, hpos.i]) hBs hnk hnl wr (hw.ext E1r) (hIrow wr E1r) hPB (hq.ext E1r)) ?_
              intro w10 E10
              have E1t := E1r.trans E10
              have C4 := C4.ext E10
              have C5 := C5.ext E10
              by_cases hok2 : Mk.okP lf nd s.n (toI I) (CL.map encB) ns rt
              · rw [if_pos hok2]
                obtain ⟨Pe, hPe⟩ : ∃ l, l = P.map toE := ⟨_, rfl⟩
                obtain ⟨row, hrow⟩ : ∃ l, l = RW.map toE := ⟨_, rfl⟩
                obtain ⟨rnd, hrnd⟩ : ∃ l, l = RD.map toE := ⟨_, rfl⟩
                obtain ⟨cols, hcols⟩ : ∃ l, l = CL.map fun c => c.map Fd.k := ⟨_, rfl⟩
                obtain ⟨W1, hW1⟩ : ∃ l, l = Fd.eqT (Pe.drop s.c) := ⟨_, rfl⟩
                obtain ⟨W2, hW2⟩ : ∃ l, l = pws (toE rho) s.R := ⟨_, rfl⟩
                have hPr : raw Pe = P := by rw [hPe]; exact raw_toE hpos.pv
                have hrowr : raw row = RW := by rw [hrow]; exact raw_toE hsp.e1
                have hrndr : raw rnd = RD := by rw [hrnd]; exact raw_toE hsp.e2
                have hPel : Pe.length = s.a + s.c := by rw [hPe, List.length_map]; exact hpos.p
                have hrowl : row.length = s.C := by rw [hrow, List.length_map]; exact hsp.l1
                have hrndl : rnd.length = s.C := by rw [hrnd, List.length_map]; exact hsp.l2
                have hrhoe := toE_val hpos.rv
                have hvee := toE_val hve
                have hW1l : W1.length = s.R := by rw [hW1, Fd.eqT_len, List.length_drop, hPel, show s.a + s.c - s.c = s.a by omega]; rfl
                have hW2l : W2.length = s.R := by rw [hW2, pws_len]
                have hPlen : P.length = Pe.length := by rw [hPe, List.length_map]
                have hver : verZ s rt P rho I v RW RD CL ns = if Cm.colOk s (toI I) Pe (toE rho) row rnd cols then if Fd.mleS row (Pe.take s.c) = toE v then 0 else 111 else 110 := by
                  unfold verZ Cm.verC
                  rw [hbs, if_pos (hokk.1 hok2), hPe, hrow, hrnd, hcols]
                have hcw := gcweights s hs pl ph (.slice Ap P.length cp) (.slice Ai I.length ci) rfl Pe (toE rho) hPel
                rw [hrhoe, hPr, ← hW1, ← hW2] at hcw
                (refine Ls (X_neqF rfl rfl (by omega)) ?_; refine L_nil ?_; refine tn ?_; refine W_condF rfl ?_; refine W_skip ?_; refine tn ?_; refine W_seq ?_; refine W_region ?_; refine Ls (X_ldW (cs := shC (s.R : Nat) (s.C : Nat) (s.B : Nat) (s.t : Nat)) rfl C4 rfl) ?_; refine Ls (X_fld rfl) ?_; refine Ls (X_ldA (size := 4) (l := waC (.slice Ap P.length cp) rho (.slice Ai I.length ci)) rfl C5 rfl rfl) ?_)
                refine L_fo (F := fun u w' => ∃ q1 q2, u = .tuple #[q1, q2] ∧ Ext w10 w' ∧ w'.ownsRow w10.heap.size 31 2 q1 s.R (exs (raw W1)) ∧ w'.ownsRow w10.heap.size 31 2 q2 s.R (exs (raw W2))) rfl ((hcw w10 (hw.ext E1t) ((hp.ext E1t).re hPlen rfl)).mono fun e w' ⟨q1, q2, h1, h2⟩ => ⟨_, h1, q1, q2, rfl, h2⟩) ?_
                rintro _ w11 ⟨q1, q2, rfl, E11, oq1, oq2⟩
                have hq11 := row_cell1 (Row.of_own oq1)
                have hq21 := row_cell1 (Row.of_own oq2)
                have C4 := C4.ext E11
                have C5 := C5.ext E11
                have E1u := E1t.trans E11
                (refine Ls (X_move (v := .tuple _) rfl) ?_; refine Ls (X_extract rfl rfl) ?_; refine Ls (X_extract rfl rfl) ?_; refine Ls (X_assign (v := q1) rfl) ?_; refine Ls (X_assign (v := q2) rfl) ?_; refine L_nil ?_; refine tn ?_; refine W_seq ?_; refine W_seq ?_; refine W_region ?_; refine Ls (X_fld rfl) ?_; refine Ls (X_fld rfl) ?_; refine Ls (X_ld (cs := vopC (.slice Ap P.length cp) rho (.slice Ai I.length ci) ((s.a + s.c : Nat) : Int) v rv nv (.slice Ac CL.length cc) qv) rfl C5 rfl) ?_; refine Ls (X_lenSlice rfl) ?_; refine Ls (X_move (v := .int _ _) rfl) ?_; refine L_nil ?_; refine tn ?_; refine W_block ?_)
                refine W_loop (fun q f w' => ∃ (i : Nat), q = I.length - i ∧ i ≤ I.length ∧ f 4 = .pointer (some ⟨g4, 0, none⟩) ∧ f 5 = .pointer (some ⟨g5, 0, none⟩) ∧ f 10 = q1 ∧ f 11 = q2 ∧ f 86 = .slice Ai I.length ci ∧ f 87 = .int .i64 (I.length : Nat) ∧ f 88 = .int .i64 (i : Nat) ∧ Ext w11 w' ∧
                  (∀ j, j < i → Fd.ev row (pw (root s.m) ((toI I).getD j 0)) = comb W1 (cols.getD j []) ∧ Fd.ev rnd (pw (root s.m) ((toI I).getD j 0)) = comb W2 (cols.getD j []))) I.length ?_ ?_
                · exact ⟨0, rfl, by omega, rfl, rfl, rfl, rfl, rfl, rfl, rfl, Ext.refl _, fun _ h => by omega⟩
                · rintro q0 f wz ⟨i, hq0, hil, f4, f5, f10, f11, f86, f87, f88, hZ, hall⟩
                  have C4 := C4.ext hZ
                  have C5 := C5.ext hZ
                  have E1z := E1u.trans hZ
                  rw [fold f4, fold f5, fold f10, fold f11, fold f86, fold f87, fold f88]
                  (refine W_seq ?_; refine W_region ?_; refine Ls (X_lss rfl rfl) ?_; refine L_nil ?_; refine tn ?_; refine W_seq ?_)
                  refine W_condp rfl (fun h => ?_) (fun h => ?_)
                  · have hlt : i < I.length := by omega
                    obtain ⟨j, hj⟩ : ∃ j, j = (toI I).getD i 0 := ⟨_, rfl⟩
                    have hjt : (toI I)[i]? = some j := by rw [hj, List.getD_eq_getElem?_getD, List.getElem?_eq_getElem (by omega)]; rfl
                    have hjn : j < s.n := hIin j (List.mem_of_getElem? hjt)
                    have hxv : (I.map (Value.int .i64))[i]? = some (.int .i64 (j : Nat)) := by
                      rw [toI_ints hI0]
                      unfold ints
                      rw [List.getElem?_map, hjt]; rfl
                    obtain ⟨x, hx⟩ : ∃ x, vs[i]? = some x := ⟨_, List.getElem?_eq_getElem (by rw [hvl, hsp.l3, ← hpos.i]; exact hlt)⟩
                    have hiC : i < CL.length := by rw [hsp.l3, ← hpos.i]; exact hlt
                    obtain ⟨c, hcx⟩ : ∃ c, CL[i]? = some c := ⟨_, List.getElem?_eq_getElem hiC⟩
                    obtain ⟨hcl, hcv⟩ := hsp.cl c (List.mem_of_getElem? hcx)
                    have hcg : cols.getD i [] = c.map Fd.k := by rw [hcols, List.getD_eq_getElem?_getD, List.getElem?_map, hcx]; rfl
                    obtain ⟨_, _, _, hrx⟩ := hvx i x c hx hcx
                    have hx1 := row_cell1 hrx
                    have hrx' : ∀ y, Ext w y → Row y _ _ 1 x (c.map Fd.k).length (ints .u64 (vals (c.map Fd.k))) := fun y E => (hrx.ext E).re (by rw [List.length_map]) (by rw [kvals hcv])
                    have hat : ∀ (y : World) (rvv : Value) (lo hi : Nat) (l : List E), l.length = s.C → Row y lo hi 2 rvv l.length (exs (raw l)) → Calls Tryz.prog 81 #[rvv, .int .i64 (s.B : Nat), .int .i64 (j : Nat)] y fun e w' => e = .returned (.tuple #[.agg (xc (Fd.ev l (pw (root s.m) j))).toArray, .int .i64 0]) ∧ Ext y w' := fun y rvv lo hi l hl hR => by
                      have h := gat (a := s.c) (b := s.b) (c := s.C) (m := s.B) (i := j) hs.b1 hs.b4 hs.cb rfl rfl (by rw [Cm.Sh.BC]; exact hjn) lo hi rvv l hl y hR
                      rw [hor_ev] at h
                      exact h
                    have hs1 : ∀ y, Ext w11 y → Calls Tryz.prog 62 #[.agg mixC.toArray, q1, x] y fun e w' => e = .returned (.agg (xc (comb W1 (cols.getD i []))).toArray) ∧ Ext y w' := fun y E => by
                      rw [hcg]
                      exact gsumw _ _ _ _ q1 x W1 (c.map Fd.k) (by rw [List.length_map]; omega) (by omega) y ((Row.of_own (own_ext oq1 E)).re hW1l.symm rfl) (hrx' y (E1u.trans E))
                    have hs2 : ∀ y, Ext w11 y → Calls Tryz.prog 62 #[.agg mixC.toArray, q2, x] y fun e w' => e = .returned (.agg (xc (comb W2 (cols.getD i []))).toArray) ∧ Ext y w' := fun y E => by
                      rw [hcg]
                      exact gsumw _ _ _ _ q2 x W2 (c.map Fd.k) (by rw [List.length_map]; omega) (by omega) y ((Row.of_own (own_ext oq2 E)).re hW2l.symm rfl) (hrx' y (E1u.trans E))
                    obtain ⟨b, o, c', e, _, _, _, hRg⟩ := (hi'.ext E1z).at hlt
                    cases e
                    obtain ⟨b2, o2, c2, e2, _, _, _, hRc⟩ := (hrc.ext E1z).at hiC
                    cases e2
                    (refine W_skip ?_; refine tn ?_; refine W_seq ?_; refine W_block ?_; refine W_seq ?_; refine W_region ?_; refine Ls (X_move (v := .int _ _) rfl) ?_; refine Ls (X_indexSn rfl rfl (by omega)) ?_; refine Ls (X_ldR rfl hRg (j := i) (by omega) hxv) ?_; refine Ls (X_assign (v := .int _ _) rfl) ?_; refine Ls (X_assign (v := .int _ _) rfl) ?_; refine L_nil ?_; refine tn ?_; refine W_seq ?_; refine W_region ?_; refine Ls (X_fld rfl) ?_; refine Ls (X_fld rfl) ?_; refine Ls (X_ld (cs := vopC (.slice Ap P.length cp) rho (.slice (some ⟨b, o, none⟩) I.length ci) ((s.a + s.c : Nat) : Int) v rv nv (.slice (some ⟨b2, o2, none⟩) CL.length cc) qv) rfl C5 rfl) ?_; refine Ls (X_fld rfl) ?_; refine Ls (X_ld (cs := shC (s.R : Nat) (s.C : Nat) (s.B : Nat) (s.t : Nat)) rfl C4 rfl) ?_; refine Ls (X_move (v := .int _ _) rfl) ?_)
                    refine L_fv rfl (hat wz rv l1 h1 row hrowl ((hr.ext E1z).re (by rw [hrow, List.length_map]) (by rw [hrowr]))) ?_
                    intro w12 E12
                    (refine Ls (X_move (v := .tuple _) rfl) ?_; refine Ls (X_extract rfl rfl) ?_; refine Ls (X_extract rfl rfl) ?_)
                    refine L_alloc ?_
                    intro g14 w13 B14 hg14 E13' hs13
                    refine L_storeW (size := 2) (l := xc (Fd.ev row (pw (root s.m) j))) rfl rfl rfl (xc_cell _) B14 rfl ?_
                    intro w14 D14 hg14' hs14
                    have Ez14 : Ext wz w14 := (E12.trans E13').then hg14' (fun g h => by cases h; have := E12.size; omega)
                    (refine Ls (X_assign (v := .int _ _) rfl) ?_; refine L_nil ?_; refine tn ?_; refine W_seq ?_; refine W_region ?_; refine Ls (X_fld rfl) ?_; refine Ls (X_fld rfl) ?_; refine Ls (X_ld (cs := vopC (.slice Ap P.length cp) rho (.slice (some ⟨b, o, none⟩) I.length ci) ((s.a + s.c : Nat) : Int) v rv nv (.slice (some ⟨b2, o2, none⟩) CL.length cc) qv) rfl (C5.ext Ez14) rfl) ?_; refine Ls (X_fld rfl) ?_; refine Ls (X_ld (cs := shC (s.R : Nat) (s.C : Nat) (s.B : Nat) (s.t : Nat)) rfl (C4.ext Ez14) rfl) ?_; refine Ls (X_move (v := .int _ _) rfl) ?_)
                    refine L_fv rfl (hat w14 nv l2 h2 rnd hrndl (((hn.ext E1z).ext Ez14).re (by rw [hrnd, List.length_map]) (by rw [hrndr]))) ?_
                    intro w15 E15
                    have D14 := D14.ext E15
                    (refine Ls (X_move (v := .tuple _) rfl) ?_; refine Ls (X_extract rfl rfl) ?_; refine Ls (X_extract rfl rfl) ?_)
                    refine L_alloc ?_
                    intro g16 w16 B16 hg16 E16' hs16
                    refine L_storeW (size := 2) (l := xc (Fd.ev rnd (pw (root s.m) j))) rfl rfl rfl (xc_cell _) B16 rfl ?_
                    intro w17 D16 hg17' hs17
                    have hl14 := D14.lt
                    have D14 := (D14.ext E16').grown hg17' (by simp; omega)
                    have Ez17 : Ext wz w17 := Ez14.trans ((E15.trans E16').then hg17' (fun g h => by cases h; have := E15.size; omega))
                    have Eu17 : Ext w11 w17 := hZ.trans Ez17
                    have hw5 : Tb w17 := hw.ext (E1z.trans Ez17)
                    have C5z := C5.ext Ez17
                    have hRc' := Ez17.range hRc
                    (refine Ls (X_assign (v := .int _ _) rfl) ?_; refine L_nil ?_; refine tn ?_; refine W_seq ?_)
                    skip
                    by_cases k1 : Fd.ev row (pw (root s.m) j) = comb W1 (cols.getD i [])
                    · apply W_dagE 22 (by kernel_rfl)
                      (apply DW_x (fun r w hA hH => (X_ldW (cs := xc (Fd.ev row (pw (root s.m) j))) rfl (D14.ext hA) rfl).trans rfl); apply DW_x (fun r w hA hH => (X_ldWg (cs := mixC) rfl (hw5.ext hA).mix rfl).trans rfl); apply DW_x (fun r w hA hH => (X_move (v := q1) rfl).trans rfl); apply DW_x (fun r w hA hH => (X_fld rfl).trans rfl); apply DW_x (fun r w hA hH => (X_fld rfl).trans rfl); apply DW_x (fun r w hA hH => (X_ld (cs := vopC (.slice Ap P.length cp) rho (.slice (some ⟨b, o, none⟩) I.length ci) ((s.a + s.c : Nat) : Int) v rv nv (.slice (some ⟨b2, o2, none⟩) CL.length cc) qv) rfl (C5z.ext hA) rfl).trans rfl); apply DW_x (fun r w hA hH => (X_move (v := .int _ _) rfl).trans rfl); apply DW_x (fun r w hA hH => (X_indexSn rfl rfl (by omega)).trans rfl); apply DW_x (fun r w hA hH => (X_ldR rfl (hA.range hRc') (j := i) (by omega) hx).trans rfl))
                      ((with_reducible apply DW_fn); (exact fun _ => rfl); (exact fun _ => rfl); (exact fun r w hA hH => hs1 w (Eu17.trans hA)))
                      ((with_reducible apply DW_x); (exact fun r w hA hH => (X_neqE (q := false) rfl rfl ⟨(fun h => by cases h), fun h => (h k1).elim⟩).trans rfl))
                      (apply DW_x (fun r w hA hH => (X_move (v := .bool _) rfl).trans rfl); apply DW_on2 rfl rfl (fun _ => rfl) (fun r w hA hH => (X_ldW (cs := xc (Fd.ev rnd (pw (root s.m) j))) rfl (D16.ext hA) rfl).trans rfl); apply DW_on2 rfl rfl (fun _ => rfl) (fun r w hA hH => (X_ldWg (cs := mixC) rfl (hw5.ext hA).mix rfl).trans rfl); apply DW_on2 rfl rfl (fun _ => rfl) (fun r w hA hH => (X_move (v := q2) rfl).trans rfl); apply DW_on2 rfl rfl (fun _ => rfl) (fun r w hA hH => (X_fld rfl).trans rfl); apply DW_on2 rfl rfl (fun _ => rfl) (fun r w hA hH => (X_fld rfl).trans rfl); apply DW_on2 rfl rfl (fun _ => rfl) (fun r w hA hH => (X_ld (cs := vopC (.slice Ap P.length cp) rho (.slice (some ⟨b, o, none⟩) I.length ci) ((s.a + s.c : Nat) : Int) v rv nv (.slice (some ⟨b2, o2, none⟩) CL.length cc) qv) rfl (C5z.ext hA) rfl).trans rfl); apply DW_on2 rfl rfl (fun _ => rfl) (fun r w hA hH => (X_move (v := .int _ _) rfl).trans rfl); apply DW_on2 rfl rfl (fun _ => rfl) (fun r w hA hH => (X_indexSn rfl rfl (by omega)).trans rfl); apply DW_on2 rfl rfl (fun _ => rfl) (fun r w hA hH => (X_ldR rfl (hA.range hRc') (j := i) (by omega) hx).trans rfl))
                      ((with_reducible apply DW_fn2); (exact rfl); (exact rfl); (exact fun _ => rfl); (exact fun _ => rfl); (exact fun r w hA hH => hs2 w (Eu17.trans hA)))
                      ((with_reducible exact D_end); (exact rfl); (repeat (first | exact .inr (.inr (fun _ _ => by with_reducible rfl)) | (refine And.intro ?_ ?_) | exact .inr (.inl rfl) | exact .inl (by decide +kernel) | exact trivial | exact .inr (.inr (fun _ _ => rfl)))); (try dsimp only [Nat.reduceAdd]))
                      intro r w18 E18 _
                      by_cases k2 : Fd.ev rnd (pw (root s.m) j) = comb W2 (cols.getD i [])
                      · (refine Lg2 rfl rfl rfl (X_neqE (q := false) rfl rfl ⟨(fun h => by cases h), fun h => (h k2).elim⟩) ?_; refine Ls (X_pickF (v := .bool _) rfl rfl) ?_; refine L_nil ?_; refine tn ?_; refine W_condF rfl ?_; refine W_skip ?_; refine bn ?_; refine tn ?_; refine W_region ?_; refine Ls (X_addi rfl rfl (by omega)) ?_; refine Ls (X_move (v := .int _ _) rfl) ?_; refine L_nil ?_; refine tn ?_)
                        refine ⟨I.length - (i + 1), by omega, i + 1, rfl, by omega, rfl, rfl, rfl, rfl, rfl, rfl, rfl, Eu17.trans E18, fun y hy => ?_⟩
                        rcases Nat.lt_or_ge y i with hyi | hyi
                        · exact hall y hyi
                        · obtain rfl : y = i := by omega
                          rw [← hj]
                          exact ⟨k1, k2⟩
                      · (refine Lg2 rfl rfl rfl (X_neqE (q := true) rfl rfl ⟨fun _ => k2, fun _ => rfl⟩) ?_; refine Ls (X_pickF (v := .bool _) rfl rfl) ?_; refine L_nil ?_; refine tn ?_; refine W_condT rfl ?_; refine W_seq ?_; refine W_region ?_; refine Ls (X_assign (v := .int _ _) rfl) ?_; refine L_nil ?_; refine tn ?_; refine W_ret ?_; refine br ?_; refine tr ?_; refine tr ?_; refine br ?_; refine tr ?_)
                        refine endQ_ret1 rfl rfl (v := .int _ _) rfl (hvd 110 ?_ _ (E10.trans (E11.trans (Eu17.trans E18))))
                        rw [hver, if_neg (fun h => k2 (by have := (h i (by omega)).2; rw [hj, ← hW2] at *; exact this))]
                    · apply W_dagE 24 (by kernel_rfl)
                      (apply DW_x (fun r w hA hH => (X_ldW (cs := xc (Fd.ev row (pw (root s.m) j))) rfl (D14.ext hA) rfl).trans rfl); apply DW_x (fun r w hA hH => (X_ldWg (cs := mixC) rfl (hw5.ext hA).mix rfl).trans rfl); apply DW_x (fun r w hA hH => (X_move (v := q1) rfl).trans rfl); apply DW_x (fun r w hA hH => (X_fld rfl).trans rfl); apply DW_x (fun r w hA hH => (X_fld rfl).trans rfl); apply DW_x (fun r w hA hH => (X_ld (cs := vopC (.slice Ap P.length cp) rho (.slice (some ⟨b, o, none⟩) I.length ci) ((s.a + s.c : Nat) : Int) v rv nv (.slice (some ⟨b2, o2, none⟩) CL.length cc) qv) rfl (C5z.ext hA) rfl).trans rfl); apply DW_x (fun r w hA hH => (X_move (v := .int _ _) rfl).trans rfl); apply DW_x (fun r w hA hH => (X_indexSn rfl rfl (by omega)).trans rfl); apply DW_x (fun r w hA hH => (X_ldR rfl (hA.range hRc') (j := i) (by omega) hx).trans rfl))
                      ((with_reducible apply DW_fn); (exact fun _ => rfl); (exact fun _ => rfl); (exact fun r w hA hH => hs1 w (Eu17.trans hA)))
                      ((with_reducible apply DW_x); (exact fun r w hA hH => (X_neqE (q := true) rfl rfl ⟨fun _ => k1, fun _ => rfl⟩).trans rfl))
                      (apply DW_x (fun r w hA hH => (X_move (v := .bool _) rfl).trans rfl); apply DW_off2 rfl rfl (fun _ => rfl) rfl; apply DW_off2 rfl rfl (fun _ => rfl) rfl; apply DW_off2 rfl rfl (fun _ => rfl) rfl; apply DW_off2 rfl rfl (fun _ => rfl) rfl; apply DW_off2 rfl rfl (fun _ => rfl) rfl; apply DW_off2 rfl rfl (fun _ => rfl) rfl; apply DW_off2 rfl rfl (fun _ => rfl) rfl; apply DW_off2 rfl rfl (fun _ => rfl) rfl; apply DW_off2 rfl rfl (fun _ => rfl) rfl; apply DW_off2 rfl rfl (fun _ => rfl) rfl; apply DW_off2 rfl rfl (fun _ => rfl) rfl; apply DW_x (fun r w hA hH => (X_pickT (v := .bool _) rfl rfl).trans rfl))
                      ((with_reducible exact D_end); (exact rfl); (repeat (first | exact .inr (.inr (fun _ _ => by with_reducible rfl)) | (refine And.intro ?_ ?_) | exact .inr (.inl rfl) | exact .inl (by decide +kernel) | exact trivial | exact .inr (.inr (fun _ _ => rfl)))); (try dsimp only [Nat.reduceAdd]))
                      intro r w18 E18 _
                      (refine L_nil ?_; refine tn ?_; refine W_condT rfl ?_; refine W_seq ?_; refine W_region ?_; refine Ls (X_assign (v := .int _ _) rfl) ?_; refine L_nil ?_; refine tn ?_; refine W_ret ?_; refine br ?_; refine tr ?_; refine tr ?_; refine br ?_; refine tr ?_)
                      refine endQ_ret1 rfl rfl (v := .int _ _) rfl (hvd 110 ?_ _ (E10.trans (E11.trans (Eu17.trans E18))))
                      rw [hver, if_neg (fun h => k1 (by have := (h i (by omega)).1; rw [hj]; rw [hW1]; exact this))]
                  · have hin : i = I.length := by omega
                    rw [hin] at hall
                    (refine W_exit ?_; refine te ?_; refine te ?_; refine bx ?_; refine tn ?_; refine W_seq ?_; refine W_seq ?_)
                    skip
                    have hlc : lgI ((s.C : Nat) : Int) = s.c := lgI_pow s.c
                    have hpt := fun y (E : Ext w y) => take_row (P := Pe) ((hp.ext E).re rfl (by rw [hPr])) hPlen.symm (j := s.c) (by have := hpos.p; omega) 
                    apply W_dagE 13 (by kernel_rfl)
                    (apply DW_x (fun r w hA hH => (X_fld rfl).trans rfl); apply DW_x (fun r w hA hH => (X_fld rfl).trans rfl); apply DW_x (fun r w hA hH => (X_ld (cs := vopC (.slice Ap P.length cp) rho (.slice Ai I.length ci) ((s.a + s.c : Nat) : Int) v rv nv (.slice Ac CL.length cc) qv) rfl (C5.ext hA) rfl).trans rfl); apply DW_x (fun r w hA hH => (X_fld rfl).trans rfl); apply DW_x (fun r w hA hH => (X_fld rfl).trans rfl); apply DW_x (fun r w hA hH => (X_ld (cs := vopC (.slice Ap P.length cp) rho (.slice Ai I.length ci) ((s.a + s.c : Nat) : Int) v rv nv (.slice Ac CL.length cc) qv) rfl (C5.ext hA) rfl).trans rfl); apply DW_x (fun r w hA hH => (X_fld rfl).trans rfl); apply DW_x (fun r w hA hH => (X_ld (cs := shC (s.R : Nat) (s.C : Nat) (s.B : Nat) (s.t : Nat)) rfl (C4.ext hA) rfl).trans rfl))
                    ((with_reducible apply DW_fn); (exact fun _ => rfl); (exact fun _ => rfl); (exact fun r w hA hH => gcpow ((s.C : Nat) : Int) (by omega) (by omega) w))
                    rw [hlc]
                    ((with_reducible apply DW_x); (exact fun r w hA hH => (X_sliceB (size := 2) s.c rfl rfl rfl (by have := hpos.p; omega)).trans rfl))
                    ((with_reducible apply DW_fn); (exact fun _ => rfl); (exact fun _ => rfl); (exact fun r w hA hH => gmle l1 h1 pl ph rv _ row (Pe.take s.c) (by rw [List.length_take]; have := hs.ac; omega) (by rw [hrowl, List.length_take, hPel, show min s.c (s.a + s.c) = s.c by omega]; rfl) w ((hr.ext (E1z.trans hA)).re (by rw [hrow, List.length_map]) (by rw [hrowr])) (hpt w (E1z.trans hA))))
                    (apply DW_x (fun r w hA hH => (X_fld rfl).trans rfl); apply DW_x (fun r w hA hH => (X_ldA (size := 2) (l := exC v.1 v.2) rfl (C5.ext hA) rfl rfl).trans rfl))
                    ((with_reducible exact D_end); (exact rfl); (repeat (first | exact .inr (.inr (fun _ _ => by with_reducible rfl)) | (refine And.intro ?_ ?_) | exact .inr (.inl rfl) | exact .inl (by decide +kernel) | exact trivial | exact .inr (.inr (fun _ _ => rfl)))); (try dsimp only [Nat.reduceAdd]))
                    intro r w18 E18 _
                    have hco : Cm.colOk s (toI I) Pe (toE rho) row rnd cols := fun i hi => by
                      rw [hlI] at hi
                      have := hall i hi
                      rw [hW1, hW2] at this
                      exact this
                    rw [if_pos hco] at hver
                    have hxv : Value.agg (exC v.1 v.2).toArray = .agg (xc (toE v)).toArray := (congrArg (fun p : Nat × Nat => Value.agg (exC p.1 p.2).toArray) hvee).symm
                    by_cases k3 : Fd.mleS row (Pe.take s.c) = toE v
                    · (refine Ls (X_neqE (b := toE v) (q := false) rfl hxv ⟨(fun h => by cases h), fun h => (h k3).elim⟩) ?_; refine L_nil ?_; refine tn ?_; refine W_condF rfl ?_; refine W_skip ?_; refine tn ?_; refine W_seq ?_; refine W_region ?_; refine Ls (X_assign (v := .int _ _) rfl) ?_; refine L_nil ?_; refine tn ?_; refine W_ret ?_)
                      exact endQ_ret1 rfl rfl (v := .int _ _) rfl (hvd 0 (by rw [hver, if_pos k3]) _ (E10.trans (E11.trans (hZ.trans E18))))
                    · (refine Ls (X_neqE (b := toE v) (q := true) rfl hxv ⟨fun _ => k3, fun _ => rfl⟩) ?_; refine L_nil ?_; refine tn ?_; refine W_condT rfl ?_; refine W_seq ?_; refine W_region ?_; refine Ls (X_assign (v := .int _ _) rfl) ?_; refine L_nil ?_; refine tn ?_; refine W_ret ?_; refine tr ?_)
                      exact endQ_ret1 rfl rfl (v := .int _ _) rfl (hvd 111 (by rw [hver, if_neg k3]) _ (E10.trans (E11.trans (hZ.trans E18))))
              · rw [if_neg hok2]
                (refine Ls (X_neqT rfl rfl (by omega)) ?_; refine L_nil ?_; refine tn ?_; refine W_condT rfl ?_; refine W_seq ?_; refine W_region ?_; refine Ls (X_assign (v := .int _ _) rfl) ?_; refine L_nil ?_; refine tn ?_; refine W_ret ?_; refine tr ?_)
                refine endQ_ret1 rfl rfl (v := .int _ _) rfl (hvd 80 ?_ _ E10)
                unfold verZ Cm.verC
                rw [hbs, if_neg (fun h => hok2 (hokk.2 h))]
end Go.Proofs.YtpohjepbmgeplaaGreatDoor

/- Commitments: Default. -/
namespace Go.Proofs.YtpohjepbmgeplaaGreatDoor
open Go.RowKit Go.Proofs.K
open _root_.Fd (K E pw root trow enc ccol comb)
open _root_.Cm (Sh pws pwE)

/-- the shape that Default gives -/
def dsh (k : Nat) : Sh := ⟨k / 2, (k + 1) / 2, 2, min 16 (4 * 2 ^ ((k + 1) / 2))⟩
theorem X_mkShape {n : NN} {f : Fr} {w : World} {d : Option Tmp} {t : TypeId} {pos : String} {af : Array Edge} {g : Option (Nat × Bool)} {x y z u : Operand} {a b c e : Int} (hx : ev n f x = .int .i64 a) (hy : ev n f y = .int .i64 b) (hz : ev n f z = .int .i64 c) (hu : ev n f u = .int .i64 e) :
    X Tryz.prog n ⟨d, .build 28 #[(0, x), (1, y), (2, z), (3, u)], t, pos, af, g⟩ f w = .ok (.value (.agg (shC a b c e).toArray)) w := by
  have := X_build (P := Tryz.prog) (ty := 28) (n := n) (f := f) (w := w) (d := d) (t := t) (pos := pos) (af := af) (g := g) (Parts.cons (i := 0) (c := [.int .i64 a]) (z := [.int .i64 0]) hx rfl rfl rfl (Parts.cons (i := 1) (c := [.int .i64 b]) (z := [.int .i64 0]) hy rfl rfl rfl
    (Parts.cons (i := 2) (c := [.int .i64 c]) (z := [.int .i64 0]) hz rfl rfl rfl (Parts.cons (i := 3) (c := [.int .i64 e]) (z := [.int .i64 0]) hu rfl rfl rfl (Parts.nil _)))))
  simpa [shC] using this
theorem X_mkShape0 {n : NN} {f : Fr} {w : World} {d : Option Tmp} {t : TypeId} {pos : String} {af : Array Edge} {g : Option (Nat × Bool)} :
    X Tryz.prog n ⟨d, .build 28 #[], t, pos, af, g⟩ f w = .ok (.value (.agg (shC 0 0 0 0).toArray)) w := by
  have := X_build (P := Tryz.prog) (ty := 28) (n := n) (f := f) (w := w) (d := d) (t := t) (pos := pos) (af := af) (g := g) (zs := [[.int .i64 0], [.int .i64 0], [.int .i64 0], [.int .i64 0]]) (r := []) (Parts.nil _)
  simpa [shC] using this
theorem gdefault1 (k : Nat) (hk : k ≤ 16) (w : World) :
    Calls Tryz.prog 40 #[.int .i64 (k : Nat)] w fun e w' => e = .returned (.agg (shC ((dsh k).R : Nat) ((dsh k).C : Nat) ((dsh k).B : Nat) ((dsh k).t : Nat)).toArray) ∧ Ext w w' := by
  have h1 : 1 ≤ 2 ^ ((k + 1) / 2) := Nat.pow_pos (by decide)
  have h2 : 2 ^ ((k + 1) / 2) ≤ 65536 := (pow_le16 (a := (k + 1) / 2) (by omega)).2
  refine calls_W Tryz.func40 rfl Tryz.ntmps40 rfl ?_
  (refine W_seq ?_; refine W_region ?_)
  refine L_alloc ?_
  intro g2 w1 B2 hg2 E1 hs1
  (refine L_nil ?_; refine tn ?_; refine W_seq ?_; refine W_seq ?_; refine W_region ?_; refine Ls (X_move (v := .int _ _) rfl) ?_; refine Ls (X_lssF rfl rfl (by omega)) ?_; refine Ls (X_move (v := .bool _) rfl) ?_; refine Lg2 rfl rfl rfl (X_move (v := .int _ _) rfl) ?_; refine Lg2 rfl rfl rfl (X_gtrF rfl rfl (by omega)) ?_; refine Ls (X_pickF (v := .bool _) rfl rfl) ?_; refine L_nil ?_; refine tn ?_; refine W_condF rfl ?_; refine W_skip ?_; refine tn ?_; refine W_seq ?_; refine W_region ?_; refine Ls (X_move (v := .int _ _) rfl) ?_; refine Ls (X_addi rfl rfl (by omega)) ?_; refine Ls ((X_quoi rfl rfl (by omega)).trans (by rw [show (((k : Nat) : Int) + 1) / 2 = (((k + 1) / 2 : Nat) : Int) by omega])) ?_; refine Ls ((X_shl rfl rfl (by omega)).trans (by rw [shl_pow (by omega)])) ?_; refine Ls (X_assign (v := .int _ _) rfl) ?_; refine L_nil ?_; refine tn ?_; refine W_seq ?_; refine W_region ?_; refine Ls (X_move (v := .int _ _) rfl) ?_; refine Ls ((X_quoi rfl rfl (by omega)).trans (by rw [show ((k : Nat) : Int) / 2 = ((k / 2 : Nat) : Int) by omega])) ?_; refine Ls ((X_shl rfl rfl (by omega)).trans (by rw [shl_pow (by omega)])) ?_; refine Ls (X_move (v := .int _ _) rfl) ?_; refine Ls (X_move (v := .int _ _) rfl) ?_; refine Ls (X_muli rfl rfl ⟨by omega, by omega⟩) ?_; refine Ls (X_min rfl rfl) ?_)
  refine Ls (X_mkShape rfl rfl rfl rfl) ?_
  refine L_storeW rfl rfl rfl shC_cell B2 rfl ?_
  intro w2 B2' hg2' hs2
  (refine L_nil ?_; refine tn ?_; refine W_ret ?_)
  refine endQ_res rfl rfl (Res.cellA inferInstance rfl (B2'.range (fun j u h => by simpa using h)) rfl .nil) ?_
  refine ⟨?_, E1.then hg2' (fun g h => by cases h; omega)⟩
  have e1 : (((dsh k).t : Nat) : Int) = if (4 : Int) * ((2 ^ ((k + 1) / 2) : Nat) : Int) < 16 then (4 : Int) * ((2 ^ ((k + 1) / 2) : Nat) : Int) else 16 := by
    show ((min 16 (4 * 2 ^ ((k + 1) / 2)) : Nat) : Int) = _
    split <;> omega
  rw [e1]
  rfl
theorem gdefault0 (k : Int) (hk : ¬ (0 ≤ k ∧ k ≤ 16)) (w : World) :
    Calls Tryz.prog 40 #[.int .i64 k] w fun e w' => e = .returned (.agg (shC 0 0 0 0).toArray) ∧ Ext w w' := by
  refine calls_W Tryz.func40 rfl Tryz.ntmps40 rfl ?_
  (refine W_seq ?_; refine W_region ?_)
  refine L_alloc ?_
  intro g2 w1 B2 hg2 E1 hs1
  by_cases h0 : k < 0
  · (refine L_nil ?_; refine tn ?_; refine W_seq ?_; refine W_seq ?_; refine W_region ?_; refine Ls (X_move (v := .int _ _) rfl) ?_; refine Ls (X_lssT rfl rfl (by omega)) ?_; refine Ls (X_move (v := .bool _) rfl) ?_; refine Lo2 rfl rfl rfl rfl ?_; refine Lo2 rfl rfl rfl rfl ?_; refine Ls (X_pickT (v := .bool _) rfl rfl) ?_; refine L_nil ?_; refine tn ?_; refine W_condT rfl ?_; refine W_seq ?_; refine W_region ?_)
    refine Ls X_mkShape0 ?_
    refine L_storeW rfl rfl rfl shC_cell B2 rfl ?_
    intro w2 B2' hg2' hs2
    (refine L_nil ?_; refine tn ?_; refine W_ret ?_; refine tr ?_)
    exact endQ_res rfl rfl (Res.cellA inferInstance rfl (B2'.range (fun j u h => by simpa using h)) rfl .nil) ⟨rfl, E1.then hg2' (fun g h => by cases h; omega)⟩
  · (refine L_nil ?_; refine tn ?_; refine W_seq ?_; refine W_seq ?_; refine W_region ?_; refine Ls (X_move (v := .int _ _) rfl) ?_; refine Ls (X_lssF rfl rfl (by omega)) ?_; refine Ls (X_move (v := .bool _) rfl) ?_; refine Lg2 rfl rfl rfl (X_move (v := .int _ _) rfl) ?_; refine Lg2 rfl rfl rfl (X_gtrT rfl rfl (by omega)) ?_; refine Ls (X_pickF (v := .bool _) rfl rfl) ?_; refine L_nil ?_; refine tn ?_; refine W_condT rfl ?_; refine W_seq ?_; refine W_region ?_)
    refine Ls X_mkShape0 ?_
    refine L_storeW rfl rfl rfl shC_cell B2 rfl ?_
    intro w2 B2' hg2' hs2
    (refine L_nil ?_; refine tn ?_; refine W_ret ?_; refine tr ?_)
    exact endQ_res rfl rfl (Res.cellA inferInstance rfl (B2'.range (fun j u h => by simpa using h)) rfl .nil) ⟨rfl, E1.then hg2' (fun g h => by cases h; omega)⟩
end Go.Proofs.YtpohjepbmgeplaaGreatDoor

/- Commitments: columns, bytes, validity of elements: the reference's. -/
namespace Go.Proofs.YtpohjepbmgeplaaGreatDoor
open Go.RowKit Go.Proofs.K
open _root_.Fd (K E pw root trow enc ccol comb)
open _root_.Cm (Sh pws pwE)

end Go.Proofs.YtpohjepbmgeplaaGreatDoor

/- Commitments: codewords, leaves, the root: the reference's. -/
namespace Go.Proofs.YtpohjepbmgeplaaGreatDoor
open Go.RowKit Go.Proofs.K
open _root_.Fd (K E pw root trow enc ccol comb)
open _root_.Cm (Sh pws pwE lv)

end Go.Proofs.YtpohjepbmgeplaaGreatDoor

/- Commitments: the root, weights, combined rows: the reference's. -/
namespace Go.Proofs.YtpohjepbmgeplaaGreatDoor
open Go.RowKit Go.Proofs.K
open _root_.Fd (K E pw root trow tcol enc ccol comb combR)
open _root_.Cm (Sh pws pwE lv)

end Go.Proofs.YtpohjepbmgeplaaGreatDoor

/- Commitments: valid positions, shaped openings: the reference's. -/
namespace Go.Proofs.YtpohjepbmgeplaaGreatDoor
open Go.RowKit Go.Proofs.K
open _root_.Fd (K E pw root trow tcol enc ccol comb combR)
open _root_.Cm (Sh pws pwE lv)

end Go.Proofs.YtpohjepbmgeplaaGreatDoor

/- Commitments: shaped openings: the reference's. -/
namespace Go.Proofs.YtpohjepbmgeplaaGreatDoor
open Go.RowKit Go.Proofs.K
open _root_.Fd (K E pw root trow tcol enc ccol comb combR)
open _root_.Cm (Sh pws pwE lv)

end Go.Proofs.YtpohjepbmgeplaaGreatDoor

/- Commitments: Verify, the reference's. -/
namespace Go.Proofs.YtpohjepbmgeplaaGreatDoor
open Go.RowKit Go.Proofs.K
open _root_.Fd (K E pw root trow enc ccol comb)
open _root_.Cm (Sh pws pwE)

end Go.Proofs.YtpohjepbmgeplaaGreatDoor

/- Commitments: Open, the reference's. -/
namespace Go.Proofs.K
open Go.RowKit
variable {P : Program} {n : NN} {Q : Exit → Fr → World → Prop} {f : Fr} {w : World} {ops : Array Oper} {rest : List Oper}
/-! a region that draws, one of whose operations (k0) stores a value that the region has computed to a variable that the region has made -/
def RV (k0 : Nat) (w0 : World) (T : TypeId) (m : Nat) : Nat → World → World → Prop := fun i a b => Ext a b ∨ (i = k0 ∧ ∃ q c c', w0.heap.size ≤ q ∧ c.length = m ∧ Blk a q T c ∧ a.grownBy b (some q) ∧ c'.length = m ∧ Blk b q T c')
section
variable {k0 : Nat} {w0 : World} {T : TypeId} {m : Nat}
instance : ExtR (RV k0 w0 T m) := ⟨fun _ _ _ h => .inl h⟩
theorem RV.refl (i : Nat) (w : World) : RV k0 w0 T m i w w := .inl (Ext.refl w)
theorem RV.other {i : Nat} {a b : World} (h : RV k0 w0 T m i a b) (hi : i ≠ k0) : Ext a b := h.elim id fun h => absurd h.1 hi
theorem RV.step : ∀ i a b, RV k0 w0 T m i a b → Ext w0 a → Ext w0 b := fun _ _ _ h E => h.elim (fun e => E.trans e) fun ⟨_, q, _, _, hq, _, _, hg, _⟩ => E.then hg (fun g hg => by cases hg; exact hq)
theorem RV.own {i base size l : Nat} {e : TypeId} {v : Value} {xs : List Value} {a b : World} (h : RV k0 w0 T m i a b) (hT : e ≠ T) (ho : a.ownsRow base e size v l xs) : b.ownsRow base e size v l xs := h.elim (fun E => own_ext ho E) fun ⟨_, q, c, _, _, _, hB, hg, _⟩ => own_other ho hg (fun g hg e' => by
  cases e'
  obtain ⟨_, cs, fz, e1⟩ := own_obj ho q hg
  unfold Blk at hB
  rw [hB] at e1
  cases e1
  exact hT rfl)
/-- the variable, before or behind the store -/
def NewV (w0 : World) (T : TypeId) (m : Nat) (u : Value) (w : World) : Prop := ∃ q c, u = .pointer (some ⟨q, 0, none⟩) ∧ w0.heap.size ≤ q ∧ c.length = m ∧ Blk w q T c
theorem NewV.step {i : Nat} {u : Value} {a b : World} (h : RV k0 w0 T m i a b) (hn : NewV w0 T m u a) : NewV w0 T m u b := by
  obtain ⟨q, c, h1, h2, h3, h4⟩ := hn
  rcases h with e | ⟨_, q', c0, c1, hq, hl, hz, hg, hl', hb⟩
  · exact ⟨q, c, h1, h2, h3, h4.ext e⟩
  · by_cases hqq : q = q'
    · subst hqq; exact ⟨q, c1, h1, h2, hl', hb⟩
    · exact ⟨q, c, h1, h2, h3, h4.grown hg (fun e => hqq (by injection e with e; exact e.symm))⟩
variable {Fin : List Oper → (Rho → Fr) → (Rho → Nat → World → Prop) → Prop} {k : Nat} {E : List Ent} {g : Rho → Fr} {H : Rho → Nat → World → Prop} {d : Tmp} {t ty : TypeId} {pos : String} {af : Array Edge} {x y : Operand}
theorem DW_allocV {z : List Value} [hz : TZero P T z] (hzl : z.length = m)
    (hr : DW (RV k0 w0 T m) P n ops (fun _ => Ext w0) Fin rest (k + 1) E (fun r => upd (g r) d (r k)) (fun r j w => bif Nat.beq j k then NewV w0 T m (r k) w else H r j w)) :
    DW (RV k0 w0 T m) P n ops (fun _ => Ext w0) Fin (⟨some d, .alloc T, t, pos, af, none⟩ :: rest) k (.op (fun r w => NewV w0 T m (r k) w) :: E) g H :=
  DW_d (F := fun _ u w => NewV w0 T m u w) (fun r w hA hH => by
    obtain ⟨v, w', h1, h2, q, h3, h4, h5⟩ := alloc_new (P := P) (n := n) (d := d) (t := t) (pos := pos) (af := af) (ty := T) (z' := z) (f := g r) hA.size
    exact ⟨v, w', h1, h2, q, z, h3, h4, hzl, h5⟩)
    (fun _ _ u w w' _ _ E h => NewV.step E h) (fun _ _ => rfl) hr
theorem DW_storeV {kx : Nat} [TAgg P ty m] (L : Rho → List Value) (hx : ∀ r, ev n (g r) x = r kx) (hy : ∀ r w, Ext w0 w → (∀ j, td ops k0 j = true → H r j w) → ev n (g r) y = .agg (L r).toArray ∧ (L r).length = m ∧ ∀ v ∈ L r, v.oneCell' = true) (hi : ∀ r v, L (rset r k0 v) = L r) (hkx : kx ≠ k0)
    (hz : ∀ r w, Ext w0 w → (∀ j, td ops k0 j = true → H r j w) → NewV w0 T m (r kx) w)
    (hr : DW (RV k0 w0 T m) P n ops (fun _ => Ext w0) Fin rest (k0 + 1) E g (fun r j w => bif Nat.beq j k0 then (∃ q, r kx = .pointer (some ⟨q, 0, none⟩) ∧ w0.heap.size ≤ q ∧ Blk w q T (L r)) else H r j w)) :
    DW (RV k0 w0 T m) P n ops (fun _ => Ext w0) Fin (⟨none, .store ty x y, t, pos, af, none⟩ :: rest) k0 (.op (fun r w => ∃ q, r kx = .pointer (some ⟨q, 0, none⟩) ∧ w0.heap.size ≤ q ∧ Blk w q T (L r)) :: E) g H := by
  refine .op (fun r w hA hH => ⟨rfl, ?_⟩) (fun i r w w' hi _ hE ⟨q, h1, h2, h3⟩ => ⟨q, h1, h2, h3.ext (hE.other hi)⟩) hr
  obtain ⟨q, c, e, hq, hcl, hB⟩ := hz r w hA hH
  obtain ⟨hy1, hy2, hy3⟩ := hy r w hA hH
  have hX := X_storeA (P := P) (n := n) (f := g r) (w := w) (d := none) (t := t) (pos := pos) (af := af) (g := none) (ty := ty) ((hx r).trans e) hy1 hy2 hy3 hB (o := 0) (by omega)
  have hcs : c.take 0 ++ L r ++ c.drop (0 + m) = L r := by rw [List.drop_eq_nil_of_le (by omega)]; simp
  rw [hcs] at hX
  have B' := hB.setRow (L r)
  exact Run_skip hX ⟨.inr ⟨rfl, q, c, L r, hq, hcl, hB, grown_setRow _ _ _, hy2, B'⟩, q, by rw [rset_other _ _ hkx]; exact e, hq, by rw [hi]; exact B'⟩
end
end Go.Proofs.K
namespace Go.Proofs.YtpohjepbmgeplaaGreatDoor
open Go.RowKit Go.Proofs.K
open _root_.Fd (K E pw root trow tcol enc ccol comb combR)
open _root_.Cm (Sh pws pwE rowH rndH colsH pathH lv)

end Go.Proofs.YtpohjepbmgeplaaGreatDoor

/- Commitments: equal openings: the reference's. -/
namespace Go.Proofs.YtpohjepbmgeplaaGreatDoor
open Go.RowKit Go.Proofs.K
open _root_.Fd (K E pw root trow tcol enc ccol comb combR)
open _root_.Cm (Sh pws pwE rowH rndH colsH pathH lv)

theorem r2same (al ah bl bh : Nat) (u v : Value) (l : List E) (hl : l.length ≤ 1000000) (w : World) (hu : Row w al ah 2 u l.length (exs (raw l))) (hv : Row w bl bh 2 v l.length (exs (raw l))) :
    Calls Tryz.prog 47 #[u, v] w fun e w' => e = .returned (.bool true) ∧ Ext w w' := by
  obtain ⟨A1, c1, rfl⟩ : ∃ A c, u = .slice A l.length c := by
    obtain ⟨_, A, c, rfl, _⟩ := hu
    exact ⟨A, c, rfl⟩
  obtain ⟨A2, c2, rfl⟩ : ∃ A c, v = .slice A l.length c := by
    obtain ⟨_, A, c, rfl, _⟩ := hv
    exact ⟨A, c, rfl⟩
  refine calls_W Tryz.func47 rfl Tryz.ntmps47 rfl ?_
  (refine W_seq ?_; refine W_region ?_; refine Ls (X_assign (v := .bool _) rfl) ?_; refine L_nil ?_; refine tn ?_; refine W_seq ?_; refine W_seq ?_; refine W_region ?_; refine Ls (X_move (v := .slice _ _ _) rfl) ?_; refine Ls (X_lenSlice rfl) ?_; refine Ls (X_move (v := .slice _ _ _) rfl) ?_; refine Ls (X_lenSlice rfl) ?_; refine Ls (X_neqF rfl rfl (by omega)) ?_; refine L_nil ?_; refine tn ?_; refine W_condF rfl ?_; refine W_skip ?_; refine tn ?_; refine W_seq ?_; refine W_seq ?_; refine W_region ?_; refine Ls (X_assign (v := .int _ _) rfl) ?_; refine L_nil ?_; refine tn ?_; refine W_block ?_)
  refine W_loop (fun q f w' => ∃ i, q = l.length - i ∧ i ≤ l.length ∧ f 0 = .slice A1 l.length c1 ∧ f 1 = .slice A2 l.length c2 ∧ f 5 = .int .i64 (i : Nat) ∧ Ext w w') l.length ?_ ?_
  · exact ⟨0, rfl, by omega, rfl, rfl, rfl, Ext.refl _⟩
  · rintro q f wr ⟨i, hq, hi', f0, f1, f5, hE⟩
    rw [fold f0, fold f1, fold f5]
    (refine W_seq ?_; refine W_seq ?_; refine W_region ?_; refine Ls (X_move (v := .int _ _) rfl) ?_; refine Ls (X_move (v := .slice _ _ _) rfl) ?_; refine Ls (X_lenSlice rfl) ?_; refine Ls (X_lss rfl rfl) ?_; refine L_nil ?_; refine tn ?_)
    refine W_condp rfl (fun h => ?_) (fun h => ?_)
    · have hlt : i < l.length := by omega
      obtain ⟨y, hy⟩ : ∃ y, l[i]? = some y := ⟨_, List.getElem?_eq_getElem hlt⟩
      have hu' := hu.ext hE
      have hv' := hv.ext hE
      rw [← raw_len l] at hu' hv'
      obtain ⟨b1, o1, e1, _, _, _, _, _, hR1⟩ := ex_at hu' (raw_get hy)
      cases e1
      obtain ⟨b2, o2, e2, _, _, _, _, _, hR2⟩ := ex_at hv' (raw_get hy)
      cases e2
      (refine W_skip ?_; refine tn ?_; refine W_seq ?_; refine W_block ?_; refine W_seq ?_)
      apply W_dagE 8 (by kernel_rfl)
      (apply DW_x (fun r w hA hH => (X_move (v := .slice _ _ _) rfl).trans rfl); apply DW_x (fun r w hA hH => (X_move (v := .int _ _) rfl).trans rfl); apply DW_x (fun r w hA hH => (X_indexSn rfl rfl (by omega)).trans rfl))
      ((with_reducible apply DW_x); (exact fun r w hA hH => (X_loadA (size := 2) (cs := xc y) rfl (hA.range hR1) rfl).trans rfl))
      (apply DW_x (fun r w hA hH => (X_move (v := .slice _ _ _) rfl).trans rfl); apply DW_x (fun r w hA hH => (X_move (v := .int _ _) rfl).trans rfl); apply DW_x (fun r w hA hH => (X_indexSn rfl rfl (by omega)).trans rfl))
      ((with_reducible apply DW_x); (exact fun r w hA hH => (X_loadA (size := 2) (cs := xc y) rfl (hA.range hR2) rfl).trans rfl))
      ((with_reducible exact D_end); (exact rfl); (repeat (first | exact .inr (.inr (fun _ _ => by with_reducible rfl)) | (refine And.intro ?_ ?_) | exact .inr (.inl rfl) | exact .inl (by decide +kernel) | exact trivial | exact .inr (.inr (fun _ _ => rfl)))); (try dsimp only [Nat.reduceAdd]))
      intro r w4 E4 _
      (refine Ls (X_neqE (a := y) (b := y) (q := false) rfl rfl ⟨(fun h => by cases h), fun h => (h rfl).elim⟩) ?_; refine L_nil ?_; refine tn ?_; refine W_condF rfl ?_; refine W_skip ?_; refine bn ?_; refine tn ?_; refine W_region ?_; refine Ls (X_move (v := .int _ _) rfl) ?_; refine Ls (X_addi rfl rfl (by omega)) ?_; refine Ls (X_assign (v := .int _ _) rfl) ?_; refine L_nil ?_; refine tn ?_)
      exact ⟨l.length - (i + 1), by omega, i + 1, rfl, by omega, rfl, rfl, rfl, hE.trans E4⟩
    · (refine W_exit ?_; refine te ?_; refine te ?_; refine bx ?_; refine tn ?_; refine W_seq ?_; refine W_region ?_; refine Ls (X_assign (v := .bool _) rfl) ?_; refine L_nil ?_; refine tn ?_; refine W_ret ?_)
      exact endQ_ret1 rfl rfl (v := .bool _) rfl ⟨rfl, hE⟩
end Go.Proofs.YtpohjepbmgeplaaGreatDoor

/- Commitments: equal openings and matrices: the reference's and the law's. -/
namespace Go.Proofs.YtpohjepbmgeplaaGreatDoor
open Go.RowKit Go.Proofs.K
open _root_.Fd (K E pw root trow tcol enc ccol comb combR)
open _root_.Cm (Sh pws pwE rowH rndH colsH pathH lv)

end Go.Proofs.YtpohjepbmgeplaaGreatDoor

/- Commitments: made shapes: the reference's. -/
namespace Go.Proofs.YtpohjepbmgeplaaGreatDoor
open Go.RowKit Go.Proofs.K
open _root_.Fd (K E pw root trow tcol enc ccol comb combR)
open _root_.Cm (Sh pws pwE rowH rndH colsH pathH lv)

/-- the shape that Made gives -/
def mkS (log n : Nat) : Sh := ⟨log - n % (log + 1), n % (log + 1), 1 + n / 16 % 2, min (1 + n / 64 % (2 ^ (1 + n / 16 % 2) * 2 ^ (n % (log + 1)))) 12⟩
theorem mkS_log {log n : Nat} : (mkS log n).a + (mkS log n).c = log := by
  have : n % (log + 1) < log + 1 := Nat.mod_lt _ (by omega)
  show log - n % (log + 1) + n % (log + 1) = log
  omega
theorem mkS_ok {log n : Nat} (h : log ≤ 6) : (mkS log n).Ok := by
  have h1 : n % (log + 1) < log + 1 := Nat.mod_lt _ (by omega)
  have hm : 0 < 2 ^ (1 + n / 16 % 2) * 2 ^ (n % (log + 1)) := Nat.mul_pos (Nat.pow_pos (by decide)) (Nat.pow_pos (by decide))
  have h2 : n / 64 % (2 ^ (1 + n / 16 % 2) * 2 ^ (n % (log + 1))) < 2 ^ (1 + n / 16 % 2) * 2 ^ (n % (log + 1)) := Nat.mod_lt _ hm
  refine ⟨?_, ?_, ?_, ?_, ?_, ?_, ?_⟩
  · rw [mkS_log]; omega
  · show 1 ≤ 1 + n / 16 % 2; omega
  · show 1 + n / 16 % 2 ≤ 4; omega
  · show n % (log + 1) + (1 + n / 16 % 2) ≤ 16; omega
  · show 1 ≤ min (1 + _) 12; omega
  · show min (1 + n / 64 % _) 12 ≤ 64; omega
  · show min (1 + n / 64 % _) 12 ≤ 2 ^ (n % (log + 1) + (1 + n / 16 % 2))
    have e : 2 ^ (n % (log + 1) + (1 + n / 16 % 2)) = 2 ^ (1 + n / 16 % 2) * 2 ^ (n % (log + 1)) := by
      rw [Nat.add_comm]; exact Nat.pow_add _ _ _
    omega
theorem X_mkShape3 {n : NN} {f : Fr} {w : World} {d : Option Tmp} {t : TypeId} {pos : String} {af : Array Edge} {g : Option (Nat × Bool)} {x y z : Operand} {a b c : Int} (hx : ev n f x = .int .i64 a) (hy : ev n f y = .int .i64 b) (hz : ev n f z = .int .i64 c) :
    X Tryz.prog n ⟨d, .build 28 #[(0, x), (1, y), (2, z)], t, pos, af, g⟩ f w = .ok (.value (.agg (shC a b c 0).toArray)) w := by
  have := X_build (P := Tryz.prog) (ty := 28) (n := n) (f := f) (w := w) (d := d) (t := t) (pos := pos) (af := af) (g := g) (Parts.cons (i := 0) (c := [.int .i64 a]) (z := [.int .i64 0]) hx rfl rfl rfl (Parts.cons (i := 1) (c := [.int .i64 b]) (z := [.int .i64 0]) hy rfl rfl rfl
    (Parts.cons (i := 2) (c := [.int .i64 c]) (z := [.int .i64 0]) hz rfl rfl rfl (Parts.nil _))))
  simpa [shC] using this
theorem and1_16 (x : Nat) : bits .and .u16 (x : Int) 1 = ((x % 2 : Nat) : Int) := by
  show IntKind.u16.wrap ((BitVec.ofInt 16 (x : Int) &&& BitVec.ofInt 16 ((2 ^ 1 - 1 : Nat) : Int)).toNat : Int) = _
  rw [BitVec.toNat_and, BitVec.ofInt_natCast, BitVec.ofInt_natCast, BitVec.toNat_ofNat, BitVec.toNat_ofNat, Nat.mod_eq_of_lt (a := 2 ^ 1 - 1) (by decide), Nat.and_two_pow_sub_one_eq_mod]
  have h : x % 2 ^ 16 % 2 ^ 1 = x % 2 := by omega
  rw [h]
  rcases Nat.mod_two_eq_zero_or_one x with h | h <;> rw [h] <;> decide
theorem shr_16 (n z : Nat) (k : Int) (hk : (2 : Int) ^ (min k.toNat IntKind.u16.bits) = ((z : Nat) : Int)) : ((n : Nat) : Int).fdiv (2 ^ (min k.toNat IntKind.u16.bits)) = ((n / z : Nat) : Int) := by
  rw [hk, Int.fdiv_eq_ediv_of_nonneg _ (by omega)]; rfl
set_option maxHeartbeats 1000000 in
theorem r11made (log n : Nat) (hlog : log ≤ 6) (hn : n < 65536) (w : World) :
    Calls Tryz.prog 48 #[.int .i64 (log : Nat), .int .u16 (n : Nat)] w fun e w' => e = .returned (.agg (shC ((mkS log n).R : Nat) ((mkS log n).C : Nat) ((mkS log n).B : Nat) ((mkS log n).t : Nat)).toArray) ∧ Ext w w' := by
  obtain ⟨c, hc⟩ : ∃ c, c = n % (log + 1) := ⟨_, rfl⟩
  have hcl : c ≤ log := by have : n % (log + 1) < log + 1 := Nat.mod_lt _ (by omega); omega
  have hrem : ((n : Nat) : Int) % (((log : Nat) : Int) + 1) = ((c : Nat) : Int) := by
    rw [hc, Int.natCast_emod]; rfl
  have h4 := shr_16 n 16 4 (by decide)
  have h6 := shr_16 n 64 6 (by decide)
  obtain ⟨b, hb⟩ : ∃ b, b = 1 + n / 16 % 2 := ⟨_, rfl⟩
  have hbl : b = 1 ∨ b = 2 := by omega
  have hB : (2 : Int) + 2 * ((n / 16 % 2 : Nat) : Int) = ((2 ^ b : Nat) : Int) := by
    rcases hbl with h | h
    · rw [h, show n / 16 % 2 = 0 by omega]; rfl
    · rw [h, show n / 16 % 2 = 1 by omega]; rfl
  have hB4 : 2 ≤ 2 ^ b ∧ 2 ^ b ≤ 4 := by rcases hbl with h | h <;> rw [h] <;> decide
  have hC := pow_le16 (a := c) (by omega)
  have hC64 : 2 ^ c ≤ 2 ^ 6 := Nat.pow_le_pow_right (by decide) (by omega)
  rw [show 2 ^ 6 = 64 from rfl] at hC64
  refine calls_W Tryz.func48 rfl Tryz.ntmps48 rfl ?_
  (refine W_seq ?_; refine W_region ?_)
  refine L_alloc ?_
  intro g4 w1 B4 hg4 E1 hs1
  (refine L_nil ?_; refine tn ?_; refine W_seq ?_; refine W_region ?_; refine Ls (X_move (v := .int _ _) rfl) ?_; refine Ls ((X_conv rfl).trans (by rw [i64_nat (by omega)])) ?_; refine Ls (X_move (v := .int _ _) rfl) ?_; refine Ls (X_addi rfl rfl (by omega)) ?_; refine Ls ((X_remi rfl rfl (by omega)).trans (by rw [hrem])) ?_; refine Ls (X_assign (v := .int _ _) rfl) ?_; refine L_nil ?_; refine tn ?_; refine W_seq ?_)
  apply W_dagE 14 (by kernel_rfl)
  (apply DW_x (fun r w hA hH => (X_move (v := .int _ _) rfl).trans rfl); apply DW_x (fun r w hA hH => (X_move (v := .int _ _) rfl).trans rfl); apply DW_x (fun r w hA hH => ((X_subi rfl rfl (by omega)).trans (by rw [show ((log : Nat) : Int) - ((c : Nat) : Int) = ((log - c : Nat) : Int) by omega])).trans rfl); apply DW_x (fun r w hA hH => ((X_shl rfl rfl (by omega)).trans (by rw [shl_one (by omega)])).trans rfl); apply DW_x (fun r w hA hH => (X_move (v := .int _ _) rfl).trans rfl); apply DW_x (fun r w hA hH => ((X_shl rfl rfl (by omega)).trans (by rw [shl_one (by omega)])).trans rfl); apply DW_x (fun r w hA hH => (X_move (v := .int _ _) rfl).trans rfl); apply DW_x (fun r w hA hH => ((X_shr rfl rfl (by omega)).trans (by rw [h4])).trans rfl); apply DW_x (fun r w hA hH => ((X_and rfl rfl).trans (by rw [and1_16])).trans rfl); apply DW_x (fun r w hA hH => ((X_conv rfl).trans (by rw [i64_nat (by omega)])).trans rfl); apply DW_x (fun r w hA hH => (X_muli rfl rfl ⟨by omega, by omega⟩).trans rfl); apply DW_x (fun r w hA hH => ((X_addi rfl rfl (by omega)).trans (by rw [hB])).trans rfl))
  ((with_reducible apply DW_x); (exact fun r w hA hH => (X_mkShape3 rfl rfl rfl).trans rfl))
  apply DW_alloc (w0 := w1) (fun w hA => hA.size)
  ((with_reducible exact D_end); (exact rfl); (repeat (first | exact .inr (.inr (fun _ _ => by with_reducible rfl)) | (refine And.intro ?_ ?_) | exact .inr (.inl rfl) | exact .inl (by decide +kernel) | exact trivial | exact .inr (.inr (fun _ _ => rfl)))); (try dsimp only [Nat.reduceAdd]))
  intro r w2 E2 H2
  obtain ⟨g6, hg6, hg6l, B6⟩ : NewF w1 28 _ (r 13) w2 := H2 13
  rw [hg6]
  refine L_storeW (size := 4) (l := shC ((2 ^ (log - c) : Nat) : Int) ((2 ^ c : Nat) : Int) ((2 ^ b : Nat) : Int) 0) rfl rfl rfl shC_cell B6 rfl ?_
  intro w3 B6 hg6' hs3
  have B4 := (B4.ext E2).grown hg6' (by simp; have := B4.lt; omega)
  have E13 : Ext w w3 := (E1.trans E2).then hg6' (fun g h => by cases h; have := E1.size; omega)
  have hBC : ((2 ^ b : Nat) : Int) * ((2 ^ c : Nat) : Int) = ((2 ^ b * 2 ^ c : Nat) : Int) := (Int.natCast_mul _ _).symm
  have hm : 0 < 2 ^ b * 2 ^ c := Nat.mul_pos (by omega) (by omega)
  have hm2 : 2 ^ b * 2 ^ c ≤ 4 * 64 := Nat.mul_le_mul hB4.2 hC64
  have hr6 : ((n / 64 : Nat) : Int) % ((2 ^ b * 2 ^ c : Nat) : Int) = ((n / 64 % (2 ^ b * 2 ^ c) : Nat) : Int) := (Int.natCast_emod _ _).symm
  obtain ⟨m, hmm⟩ : ∃ m, m = 2 ^ b * 2 ^ c := ⟨_, rfl⟩
  rw [← hmm] at hBC hm hm2 hr6
  have hz : n / 64 % m < m := Nat.mod_lt _ hm
  (refine L_nil ?_; refine tn ?_; refine W_seq ?_; refine W_region ?_; refine Ls (X_move (v := .int _ _) rfl) ?_; refine Ls ((X_shr rfl rfl (by omega)).trans (by rw [h6])) ?_; refine Ls ((X_conv rfl).trans (by rw [i64_nat (by omega)])) ?_; refine Ls (X_fld rfl) ?_; refine Ls (X_ld (cs := shC ((2 ^ (log - c) : Nat) : Int) ((2 ^ c : Nat) : Int) ((2 ^ b : Nat) : Int) 0) rfl B6 rfl) ?_; refine Ls (X_fld rfl) ?_; refine Ls (X_ld (cs := shC ((2 ^ (log - c) : Nat) : Int) ((2 ^ c : Nat) : Int) ((2 ^ b : Nat) : Int) 0) rfl B6 rfl) ?_; refine Ls ((X_muli rfl rfl ⟨by omega, by omega⟩).trans (by rw [hBC])) ?_; refine Ls ((X_remi rfl rfl (by omega)).trans (by rw [hr6])) ?_; refine Ls (X_addi rfl rfl (by omega)) ?_; refine Ls (X_fld rfl) ?_)
  refine L_store1 (v := .int .i64 _) rfl rfl rfl B6 (by simp [shC]) ?_
  intro w4 B6' hg6a hs4
  have B6' : Blk w4 g6 28 (shC ((2 ^ (log - c) : Nat) : Int) ((2 ^ c : Nat) : Int) ((2 ^ b : Nat) : Int) (1 + ((n / 64 % m : Nat) : Int))) := B6'
  (refine L_nil ?_; refine tn ?_; refine W_seq ?_; refine W_region ?_; refine Ls (X_fld rfl) ?_; refine Ls (X_ld (cs := shC ((2 ^ (log - c) : Nat) : Int) ((2 ^ c : Nat) : Int) ((2 ^ b : Nat) : Int) (1 + ((n / 64 % m : Nat) : Int))) rfl B6' rfl) ?_; refine Ls ((X_min rfl rfl).trans (by rw [show (if (12 : Int) < 1 + ((n / 64 % m : Nat) : Int) then (12 : Int) else 1 + ((n / 64 % m : Nat) : Int)) = ((min (1 + n / 64 % m) 12 : Nat) : Int) by split <;> omega])) ?_; refine Ls (X_fld rfl) ?_)
  refine L_store1 (v := .int .i64 _) rfl rfl rfl B6' (by simp [shC]) ?_
  intro w5 B6'' hg6b hs5
  have B6'' : Blk w5 g6 28 (shC ((2 ^ (log - c) : Nat) : Int) ((2 ^ c : Nat) : Int) ((2 ^ b : Nat) : Int) ((min (1 + n / 64 % m) 12 : Nat) : Int)) := B6''
  have h46 : g4 ≠ g6 := by have := E1.size; omega
  have B4 := (B4.grown hg6a (by simp; exact fun h => h46 h.symm)).grown hg6b (by simp; exact fun h => h46 h.symm)
  (refine L_nil ?_; refine tn ?_; refine W_seq ?_; refine W_region ?_; refine Ls (X_ldW (cs := shC ((2 ^ (log - c) : Nat) : Int) ((2 ^ c : Nat) : Int) ((2 ^ b : Nat) : Int) ((min (1 + n / 64 % m) 12 : Nat) : Int)) rfl B6'' rfl) ?_)
  refine L_storeW (size := 4) (l := shC ((2 ^ (log - c) : Nat) : Int) ((2 ^ c : Nat) : Int) ((2 ^ b : Nat) : Int) ((min (1 + n / 64 % m) 12 : Nat) : Int)) rfl rfl rfl shC_cell B4 rfl ?_
  intro w6 B4' hg4' hs6
  (refine L_nil ?_; refine tn ?_; refine W_ret ?_)
  refine endQ_res rfl rfl (Res.cellA inferInstance rfl (B4'.range (fun j u h => by simpa using h)) rfl .nil) ?_
  have hs : mkS log n = ⟨log - c, c, b, min (1 + n / 64 % m) 12⟩ := by unfold mkS; rw [← hc, ← hb, ← hmm]
  rw [hs]
  have hsz1 := E1.size
  exact ⟨rfl, ((E13.then hg6a (fun g h => by cases h; omega)).then hg6b (fun g h => by cases h; omega)).then hg4' (fun g h => by cases h; omega)⟩
end Go.Proofs.YtpohjepbmgeplaaGreatDoor

/- Commitments: made positions, plain parts. -/
namespace Go.Proofs.YtpohjepbmgeplaaGreatDoor
open Go.RowKit Go.Proofs.K
open _root_.Fd (K E pw root trow tcol enc ccol comb combR)
open _root_.Cm (Sh pws pwE rowH rndH colsH pathH lv)

/-- the chosen indices below n -/
def chs (ch : Nat → Bool) (n : Nat) : List Nat := (List.range n).filter ch
def chS (ch : Nat → Bool) (k : Nat) : Nat → Bool := fun j => if j = k then true else ch j
theorem chs_succ (ch : Nat → Bool) (n : Nat) : chs ch (n + 1) = chs ch n ++ (if ch n then [n] else []) := by
  unfold chs
  rw [List.range_succ, List.filter_append]
  congr 1
  cases h : ch n <;> simp [h]
theorem chs_le (ch : Nat → Bool) : ∀ n, (chs ch n).length ≤ n
  | 0 => Nat.le_refl _
  | n + 1 => by
    have := chs_le ch n
    rw [chs_succ, List.length_append]
    cases ch n <;> simp <;> omega
theorem chs_free (ch : Nat → Bool) : ∀ n, (chs ch n).length < n → ∃ j, j < n ∧ ch j = false
  | 0, h => by omega
  | n + 1, h => by
    cases hn : ch n with
    | false => exact ⟨n, by omega, hn⟩
    | true =>
      rw [chs_succ, hn, List.length_append] at h
      obtain ⟨j, h1, h2⟩ := chs_free ch n (by simp at h; omega)
      exact ⟨j, by omega, h2⟩
theorem chs_out (ch : Nat → Bool) (k : Nat) : ∀ n, n ≤ k → chs (chS ch k) n = chs ch n
  | 0, _ => rfl
  | n + 1, h => by
    rw [chs_succ, chs_succ, chs_out ch k n (by omega)]
    have : chS ch k n = ch n := by unfold chS; rw [if_neg (by omega)]
    rw [this]
theorem chs_set (ch : Nat → Bool) (k : Nat) (hk : ch k = false) : ∀ n, k < n → (chs (chS ch k) n).length = (chs ch n).length + 1
  | 0, h => by omega
  | n + 1, h => by
    rw [chs_succ, chs_succ, List.length_append, List.length_append]
    rcases Nat.lt_or_ge k n with hkn | hkn
    · rw [chs_set ch k hk n hkn]
      have : chS ch k n = ch n := by unfold chS; rw [if_neg (by omega)]
      rw [this]; omega
    · obtain rfl : k = n := by omega
      rw [chs_out ch k k (Nat.le_refl _), hk]
      have : chS ch k k = true := by unfold chS; rw [if_pos rfl]
      rw [this]; simp
theorem chs_lt {ch : Nat → Bool} {n : Nat} : ∀ x ∈ chs ch n, x < n := fun x hx => List.mem_range.1 (List.mem_filter.1 hx).1
theorem chs_srt (ch : Nat → Bool) (n : Nat) : (chs ch n).Pairwise (· < ·) := List.Pairwise.filter _ List.pairwise_lt_range
/-- the marks, in the machine -/
def marks (ch : Nat → Bool) (n : Nat) : List Value := (List.range n).map fun k => Value.bool (ch k)
theorem marks_len (ch : Nat → Bool) (n : Nat) : (marks ch n).length = n := by unfold marks; simp
theorem marks_get (ch : Nat → Bool) {n k : Nat} (h : k < n) : (marks ch n)[k]? = some (.bool (ch k)) := by
  unfold marks; rw [List.getElem?_map, List.getElem?_range h]; rfl
theorem marks_set (ch : Nat → Bool) (n k : Nat) : (marks ch n).set k (.bool true) = marks (chS ch k) n := by
  refine List.ext_getElem? fun j => ?_
  rcases Nat.lt_or_ge j n with hj | hj
  · rw [List.getElem?_set, marks_get _ hj, marks_len, marks_get _ hj]
    by_cases e : k = j
    · subst e
      rw [if_pos rfl, if_pos hj]
      show _ = some (Value.bool (if k = k then true else ch k))
      rw [if_pos rfl]
    · rw [if_neg e]
      show _ = some (Value.bool (if j = k then true else ch j))
      rw [if_neg (fun h => e h.symm)]
  · rw [List.getElem?_eq_none (by rw [List.length_set, marks_len]; omega), List.getElem?_eq_none (by rw [marks_len]; omega)]
theorem marks_zero (n : Nat) : (List.replicate n [Value.bool false]).flatten = marks (fun _ => false) n := by
  induction n with
  | zero => rfl
  | succ n ih =>
    rw [List.replicate_succ', List.flatten_append, ih]
    unfold marks
    rw [List.range_succ, List.map_append]; rfl
theorem u16_nat {z : Nat} (h : z < 65536) : IntKind.u16.wrap (z : Int) = (z : Int) := by rw [IntKind.wrap_u16]; omega
theorem X_mkWa {n : NN} {f : Fr} {w : World} {d : Option Tmp} {t : TypeId} {pos : String} {af : Array Edge} {g : Option (Nat × Bool)} {x : Operand} {a : Value} (hx : ev n f x = a) (h1 : a.oneCell' = true) :
    X Tryz.prog n ⟨d, .build 34 #[(0, x)], t, pos, af, g⟩ f w = .ok (.value (.agg (waC a (0, 0) (.slice none 0 0)).toArray)) w := by
  have h1' : a.cells = [a].toArray := by cases a <;> first | rfl | cases h1
  have := X_build (P := Tryz.prog) (ty := 34) (n := n) (f := f) (w := w) (d := d) (t := t) (pos := pos) (af := af) (g := g) (zs := [[.slice none 0 0], [.int .u64 0, .int .u64 0], [.slice none 0 0]]) (Parts.cons (i := 0) (c := [a]) (z := [.slice none 0 0]) hx h1' rfl rfl (Parts.nil _))
  simpa [waC] using this
end Go.Proofs.YtpohjepbmgeplaaGreatDoor

/- Commitments: made positions: the reference's. -/
namespace Go.Proofs.YtpohjepbmgeplaaGreatDoor
open Go.RowKit Go.Proofs.K
open _root_.Fd (K E pw root trow tcol enc ccol comb combR)
open _root_.Cm (Sh pws pwE rowH rndH colsH pathH lv)

set_option maxRecDepth 100000 in
set_option maxHeartbeats 8000000 in
theorem r11madeat (s : Sh) (hs : s.Ok) (lo hi : Nat) (v : Value) (p : List (Nat × Nat)) (hp8 : ∀ x ∈ p, x.1 < 18446744073709551616 ∧ x.2 < 18446744073709551616) (hpl : p.length ≤ 9223372036854775807) (st : Nat) (hst : st < 65536) (w : World) (hr : Row w lo hi 2 v p.length (exs p)) :
    Calls Tryz.prog 49 #[.agg (shC (s.R : Nat) (s.C : Nat) (s.B : Nat) (s.t : Nat)).toArray, v, .int .u16 (st : Nat)] w fun e w' => ∃ (pv iv : Value) (rho : Nat × Nat) (I : List Int), e = .returned (.agg (waC pv rho iv).toArray) ∧ Ext w w' ∧ PosOk s (raw (madeE p (s.a + s.c))) rho I ∧ w'.ownsRow w.heap.size 31 2 pv (s.a + s.c) (exs (raw (madeE p (s.a + s.c)))) ∧ w'.ownsRow w.heap.size 3 1 iv I.length (I.map (Value.int .i64)) := by
  obtain ⟨A, c, rfl⟩ : ∃ A c, v = .slice A p.length c := by
    obtain ⟨_, A, c, rfl, _⟩ := hr
    exact ⟨A, c, rfl⟩
  have hac := hs.ac
  have hR16 : s.R ≤ 65536 := (pow_le16 (a := s.a) (by omega)).2
  have hC16 : s.C ≤ 65536 := (pow_le16 (a := s.c) (by omega)).2
  have hn16 : s.n ≤ 65536 := (pow_le16 hs.cb).2
  have hn1 : 1 ≤ s.n := Nat.pow_pos (by decide)
  have hRC16 : s.R * s.C ≤ 65536 := by rw [Cm.Sh.RC]; exact (pow_le16 hac).2
  have hRC : ((s.R : Nat) : Int) * ((s.C : Nat) : Int) = ((s.R * s.C : Nat) : Int) := (Int.natCast_mul _ _).symm
  have hBC : ((s.B : Nat) : Int) * ((s.C : Nat) : Int) = ((s.n : Nat) : Int) := by rw [← Int.natCast_mul, Cm.Sh.BC]
  obtain ⟨Pm, hPm⟩ : ∃ l, l = madeE p (s.a + s.c) := ⟨_, rfl⟩
  have hPml : Pm.length = s.a + s.c := by rw [hPm]; exact madeE_len _ _
  rw [← hPm]
  obtain ⟨m, hm⟩ : ∃ m, m = s.n := ⟨_, rfl⟩
  obtain ⟨t, ht⟩ : ∃ t, t = s.t := ⟨_, rfl⟩
  have htm : t ≤ m := by rw [ht, hm]; exact hs.tn
  have ht64 : t ≤ 64 := by rw [ht]; exact hs.t64
  refine calls_W Tryz.func49 rfl Tryz.ntmps49 rfl ?_
  (refine W_seq ?_; refine W_region ?_)
  refine L_box rfl ?_
  intro g3 w1 B3 hg3 E1 hs1
  refine L_alloc ?_
  intro g6 w2 B6 hg6 E2 hs2
  have C3 := B3.ext E2
  have E12 := E1.trans E2
  (refine L_nil ?_; refine tn ?_; refine W_seq ?_)
  apply W_dagR (R := RV 15 w2 34 4) (Ext w2) 16 (by kernel_rfl) RV.refl (Ext.drew w2) RV.step
  (apply DW_x (fun r w hA hH => (X_move (v := .slice _ _ _) rfl).trans rfl); apply DW_x (fun r w hA hH => (X_fld rfl).trans rfl); apply DW_x (fun r w hA hH => (X_ld (cs := shC (s.R : Nat) (s.C : Nat) (s.B : Nat) (s.t : Nat)) rfl (C3.ext hA) rfl).trans rfl); apply DW_x (fun r w hA hH => (X_fld rfl).trans rfl); apply DW_x (fun r w hA hH => (X_ld (cs := shC (s.R : Nat) (s.C : Nat) (s.B : Nat) (s.t : Nat)) rfl (C3.ext hA) rfl).trans rfl); apply DW_x (fun r w hA hH => ((X_muli rfl rfl ⟨by omega, by omega⟩).trans (by rw [hRC])).trans rfl))
  ((with_reducible apply DW_fr (F := fun q w' => q = .int .i64 ((s.a + s.c : Nat) : Int))); (exact fun _ => rfl); (exact fun r w hA hH => (r11log (a := s.a + s.c) hac (Cm.Sh.RC s) w).mono fun e w' ⟨h1, h2⟩ => ⟨_, h1, .inl h2, rfl⟩); (exact fun i u w w' hi ht hR h => h))
  ((with_reducible apply DW_fr (F := fun q w' => w'.ownsRow w2.heap.size 31 2 q (s.a + s.c) (exs (raw Pm)))); (exact fun _ => rfl); (exact fun r w hA hH => (by
    have h6 : r 6 = .int .i64 ((s.a + s.c : Nat) : Int) := hH 6 rfl
    show Calls _ _ #[.slice A p.length c, r 6] w _
    rw [h6]
    exact (r2madeAll (s.a + s.c) lo hi _ p (by omega) hp8 hpl w (hr.ext (E12.trans hA))).mono fun e w' ⟨q, h1, h2, h3⟩ => ⟨q, h1, .inl h2, by rw [hPm]; exact own_base h3 hA.size⟩)); (exact fun i u w w' hi ht hR h => hR.own (by decide) h))
  apply DW_x (V := fun r => .agg (waC (r 7) (0, 0) (.slice none 0 0)).toArray) (fun r w hA hH => by
    have o : w.ownsRow w2.heap.size 31 2 (r 7) (s.a + s.c) (exs (raw Pm)) := hH 7 rfl
    exact X_mkWa rfl (row_cell1 (Row.of_own o)))
  (apply DW_x (fun r w hA hH => (X_fld rfl).trans rfl); apply DW_x (fun r w hA hH => (X_ld (cs := shC (s.R : Nat) (s.C : Nat) (s.B : Nat) (s.t : Nat)) rfl (C3.ext hA) rfl).trans rfl); apply DW_x (fun r w hA hH => (X_fld rfl).trans rfl); apply DW_x (fun r w hA hH => (X_ld (cs := shC (s.R : Nat) (s.C : Nat) (s.B : Nat) (s.t : Nat)) rfl (C3.ext hA) rfl).trans rfl); apply DW_x (fun r w hA hH => ((X_muli rfl rfl ⟨by omega, by omega⟩).trans (by rw [hBC])).trans rfl))
  apply DW_allocV (m := 4) (z := [Value.slice none 0 0, .int .u64 0, .int .u64 0, .slice none 0 0]) rfl
  apply DW_storeV (kx := 14) (fun r => waC (r 7) (0, 0) (.slice none 0 0)) (fun _ => rfl) (fun r w hA hH => ⟨rfl, rfl, by
    have o : w.ownsRow w2.heap.size 31 2 (r 7) (s.a + s.c) (exs (raw Pm)) := hH 7 rfl
    exact waC_cell (row_cell1 (Row.of_own o)) rfl⟩) (fun r v => rfl) (by decide) (fun r w hA hH => hH 14 rfl)
  ((with_reducible exact D_end); (exact rfl); (repeat (first | exact .inr (.inr (fun _ _ => by with_reducible rfl)) | (refine And.intro ?_ ?_) | exact .inr (.inl rfl) | exact .inl (by decide +kernel) | exact trivial | exact .inr (.inr (fun _ _ => rfl)))); (try dsimp only [Nat.reduceAdd]))
  intro r w3 E3 H3
  have o7 : w3.ownsRow w2.heap.size 31 2 (r 7) (s.a + s.c) (exs (raw Pm)) := H3 7
  obtain ⟨g7, hg7, hg7l, B7⟩ : ∃ q, r 14 = .pointer (some ⟨q, 0, none⟩) ∧ w2.heap.size ≤ q ∧ Blk w3 q 34 (waC (r 7) (0, 0) (.slice none 0 0)) := H3 15
  rw [hg7]
  obtain ⟨q7, hq7⟩ : ∃ q, q = r 7 := ⟨_, rfl⟩
  rw [← hq7] at o7 B7
  have hq71 := row_cell1 (Row.of_own o7)
  have h6l := B6.lt
  have E13 := E12.trans E3
  have hoX : ∀ {y y' : World} {T : TypeId} {sz m bs : Nat} {x : Value} {l : List Value} {cs : List Value}, T ≠ 34 → Blk y g7 34 cs → y.grownBy y' (some g7) → y.ownsRow bs T sz x m l → y'.ownsRow bs T sz x m l := fun {y y' T sz m bs x l cs} hT hB hg h => own_other h hg (fun g hg' e => by
    obtain rfl : g7 = g := Option.some.inj e
    obtain ⟨_, cs, fz, e1⟩ := own_obj h g7 hg'
    exact blk_ty hB e1 (Ne.symm hT))
  (refine Ls (X_assign (v := .int _ _) rfl) ?_; refine L_nil ?_; refine tn ?_; refine W_seq ?_; refine W_seq ?_; refine W_region ?_; refine Ls (X_move (v := .slice _ _ _) rfl) ?_; refine Ls (X_lenSlice rfl) ?_; refine Ls (X_gtr rfl rfl) ?_; refine L_nil ?_; refine tn ?_)
  refine W_mono (Q := fun e f w' => e = .normal ∧ ∃ rho : Nat × Nat, isE rho ∧ Ext w2 w' ∧ w3.heap.size ≤ w'.heap.size ∧ Blk w' g7 34 (waC q7 rho (.slice none 0 0)) ∧ w'.ownsRow w2.heap.size 31 2 q7 (s.a + s.c) (exs (raw Pm)) ∧ f 2 = .int .u16 (st : Nat) ∧ f 3 = .pointer (some ⟨g3, 0, none⟩) ∧ f 6 = .pointer (some ⟨g6, 0, none⟩) ∧ f 7 = .pointer (some ⟨g7, 0, none⟩) ∧ f 8 = .int .i64 (s.n : Nat)) ?_ ?_
  · refine W_condp rfl (fun h => ?_) (fun h => ?_)
    · obtain ⟨k, hk⟩ : ∃ k, p.length = k + 1 := ⟨p.length - 1, by omega⟩
      obtain ⟨x, hx⟩ : ∃ x, p[k]? = some x := ⟨_, List.getElem?_eq_getElem (by omega)⟩
      have hx8 := hp8 x (List.mem_of_getElem? hx)
      obtain ⟨b, o, e, _, _, _, _, _, hR⟩ := ex_at (hr.ext E13) hx
      cases e
      (refine W_region ?_; refine Ls (X_move (v := .slice _ _ _) rfl) ?_; refine Ls (X_move (v := .slice _ _ _) rfl) ?_; refine Ls (X_lenSlice rfl) ?_; refine Ls ((X_subi rfl rfl (by omega)).trans (by rw [show ((p.length : Nat) : Int) - 1 = ((k : Nat) : Int) by omega])) ?_; refine Ls (X_indexSn rfl rfl (by omega)) ?_; refine Ls (X_loadA (size := 2) (cs := exC x.1 x.2) rfl hR rfl) ?_)
      refine L_fv rfl (r2made x.1 x.2 hx8.1 hx8.2 w3) ?_
      intro w4 E4
      (refine Ls (X_fld rfl) ?_)
      refine L_storeA (size := 2) (l := exC (Fd.k x.1).val (Fd.k x.2).val) rfl rfl rfl exC_cell (B7.ext E4) (by simp [waC]) ?_
      intro w5 B7' hg7' hs5
      (refine L_nil ?_)
      exact ⟨rfl, ((Fd.k x.1).val, (Fd.k x.2).val), ⟨(Fd.k x.1).isLt, (Fd.k x.2).isLt⟩, (E3.trans E4).then hg7' (fun g h => by cases h; exact hg7l), by have := E4.size; omega, B7', hoX (by decide) (B7.ext E4) hg7' (own_ext o7 E4), rfl, rfl, rfl, rfl, rfl⟩
    · (refine W_skip ?_)
      exact ⟨rfl, (0, 0), ⟨by decide, by decide⟩, E3, Nat.le_refl _, B7, o7, rfl, rfl, rfl, rfl, rfl⟩
  · rintro e f w4 ⟨rfl, rho, hrho, E24, hz4, B7, o7, f2, f3, f6, f7, f8⟩
    have C3 := C3.ext E24
    have C6 := B6.ext E24
    have h4z := E24.size
    have hE12 := E12.size
    have h7l := B7.lt
    rw [fold f2, fold f3, fold f6, fold f7, fold f8]
    (refine tn ?_; refine W_seq ?_; refine W_region ?_; refine Ls (X_move (v := .int _ _) rfl) ?_)
    refine L_make (z := [Value.bool false]) s.n s.n rfl rfl rfl rfl (Nat.le_refl _) (by omega) (by omega) ?_
    intro g9 w5 B9 hg9 E5 hs5
    rw [marks_zero] at B9
    (refine Ls (X_assign (v := .slice _ _ _) rfl) ?_; refine L_nil ?_; refine tn ?_; refine W_seq ?_; refine W_seq ?_; refine W_region ?_; refine Ls (X_assign (v := .int _ _) rfl) ?_; refine L_nil ?_; refine tn ?_; refine W_block ?_)
    refine W_loop (fun q f w' => ∃ (i : Nat) (ch : Nat → Bool), q = s.t - i ∧ i ≤ s.t ∧ f 2 = .int .u16 (st : Nat) ∧ f 3 = .pointer (some ⟨g3, 0, none⟩) ∧ f 6 = .pointer (some ⟨g6, 0, none⟩) ∧ f 7 = .pointer (some ⟨g7, 0, none⟩) ∧ f 8 = .int .i64 (s.n : Nat) ∧ f 9 = .slice (some ⟨g9, 0, none⟩) s.n s.n ∧ f 10 = .int .i64 (i : Nat) ∧ Ext w4 w' ∧ Blk w' g9 4 (marks ch s.n) ∧ (chs ch s.n).length = i) s.t ?_ ?_
    · refine ⟨0, fun _ => false, rfl, by omega, rfl, rfl, rfl, rfl, rfl, rfl, rfl, E5, B9, ?_⟩
      have : chs (fun _ => false) s.n = [] := List.filter_eq_nil_iff.2 fun _ _ => by simp
      rw [this]; rfl
    · rintro q f wr ⟨i, ch, hq, hil, f2, f3, f6, f7, f8, f9, f10, hE, D9, hch⟩
      rw [fold f2, fold f3, fold f6, fold f7, fold f8, fold f9, fold f10]
      (refine W_seq ?_; refine W_seq ?_; refine W_region ?_; refine Ls (X_move (v := .int _ _) rfl) ?_; refine Ls (X_fld rfl) ?_; refine Ls (X_ld (cs := shC (s.R : Nat) (s.C : Nat) (s.B : Nat) (s.t : Nat)) rfl (C3.ext hE) rfl) ?_; refine Ls (X_lss rfl rfl) ?_; refine L_nil ?_; refine tn ?_)
      refine W_condp rfl (fun h => ?_) (fun h => ?_)
      · have hlt : i < s.t := by omega
        obtain ⟨j0, hj0, hcj0⟩ := chs_free ch s.n (by omega)
        obtain ⟨z, hz⟩ : ∃ z, z = 1 + st % 3 := ⟨_, rfl⟩
        have hz3 : z ≤ 3 := by omega
        have hmul : ((i : Nat) : Int) * ((z : Nat) : Int) = ((i * z : Nat) : Int) := (Int.natCast_mul _ _).symm
        have hiz : i * z ≤ 64 * 3 := Nat.mul_le_mul (by omega) hz3
        obtain ⟨y, hy⟩ : ∃ y, y = i * z := ⟨_, rfl⟩
        rw [← hy] at hmul hiz
        have hadd : (1 : Int) + ((st % 3 : Nat) : Int) = ((z : Nat) : Int) := by omega
        have hsum : ((st : Nat) : Int) + ((y : Nat) : Int) = ((st + y : Nat) : Int) := rfl
        have hrem : ((st + y : Nat) : Int) % ((s.n : Nat) : Int) = (((st + y) % s.n : Nat) : Int) := (Int.natCast_emod _ _).symm
        obtain ⟨k0, hk0⟩ : ∃ k, k = (st + y) % s.n := ⟨_, rfl⟩
        have hk0n : k0 < s.n := by rw [hk0]; exact Nat.mod_lt _ hn1
        rw [← hk0] at hrem
        (refine W_skip ?_; refine tn ?_; refine W_seq ?_; refine W_block ?_; refine W_seq ?_; refine W_region ?_; refine Ls (X_move (v := .int _ _) rfl) ?_; refine Ls ((X_conv rfl).trans (by rw [i64_nat (by omega)])) ?_; refine Ls (X_move (v := .int _ _) rfl) ?_; refine Ls (X_move (v := .int _ _) rfl) ?_; refine Ls ((X_remi rfl rfl (by omega)).trans (by rw [show ((st : Nat) : Int) % 3 = ((st % 3 : Nat) : Int) by omega])) ?_; refine Ls ((X_add rfl rfl).trans (by rw [hadd, u16_nat (by omega)])) ?_; refine Ls ((X_conv rfl).trans (by rw [i64_nat (by omega)])) ?_; refine Ls ((X_muli rfl rfl ⟨by omega, by omega⟩).trans (by rw [hmul])) ?_; refine Ls ((X_addi rfl rfl (by omega)).trans (by rw [hsum])) ?_; refine Ls (X_move (v := .int _ _) rfl) ?_; refine Ls ((X_remi rfl rfl (by omega)).trans (by rw [hrem])) ?_; refine Ls (X_assign (v := .int _ _) rfl) ?_; refine L_nil ?_; refine tn ?_; refine W_seq ?_; refine W_block ?_)
        refine W_loop (fun q f w' => ∃ (k j : Nat), k < s.n ∧ j < s.n ∧ ch j = false ∧ (k + q = j ∨ k + q = j + s.n) ∧ f 2 = .int .u16 (st : Nat) ∧ f 3 = .pointer (some ⟨g3, 0, none⟩) ∧ f 6 = .pointer (some ⟨g6, 0, none⟩) ∧ f 7 = .pointer (some ⟨g7, 0, none⟩) ∧ f 8 = .int .i64 (s.n : Nat) ∧ f 9 = .slice (some ⟨g9, 0, none⟩) s.n s.n ∧ f 10 = .int .i64 (i : Nat) ∧ f 11 = .int .i64 (k : Nat) ∧ w' = wr) (if k0 ≤ j0 then j0 - k0 else j0 + s.n - k0) ?_ ?_
        · refine ⟨k0, j0, hk0n, hj0, hcj0, ?_, rfl, rfl, rfl, rfl, rfl, rfl, rfl, rfl, rfl⟩
          split <;> omega
        · rintro q f wi ⟨k, j, hk, hj, hcj, hkq, f2, f3, f6, f7, f8, f9, f10, f11, rfl⟩
          rw [fold f2, fold f3, fold f6, fold f7, fold f8, fold f9, fold f10, fold f11]
          have hget : (marks ch s.n)[0 + k * 1]? = some (.bool (ch k)) := by rw [show 0 + k * 1 = k by omega]; exact marks_get ch hk
          cases hck : ch k with
          | true =>
            rw [hck] at hget
            have hkj : k ≠ j := fun e => by rw [e, hcj] at hck; cases hck
            have hq1 : 0 < q := by omega
            have hrem2 : (((k : Nat) : Int) + 1) % ((s.n : Nat) : Int) = (((k + 1) % s.n : Nat) : Int) := (Int.natCast_emod (k + 1) s.n).symm
            have hk1 : (k + 1) % s.n = if k + 1 < s.n then k + 1 else 0 := by
              split
              · exact Nat.mod_eq_of_lt (by omega)
              · rw [show k + 1 = s.n by omega, Nat.mod_self]
            (refine W_seq ?_; refine W_seq ?_; refine W_region ?_; refine Ls (X_move (v := .slice _ _ _) rfl) ?_; refine Ls (X_move (v := .int _ _) rfl) ?_; refine Ls (X_indexSn rfl rfl (by omega)) ?_; refine Ls (X_ld (cs := marks ch s.n) rfl D9 hget) ?_; refine L_nil ?_; refine tn ?_; refine W_condT rfl ?_; refine W_skip ?_; refine tn ?_; refine W_block ?_; refine W_region ?_; refine Ls (X_move (v := .int _ _) rfl) ?_; refine Ls (X_addi rfl rfl (by omega)) ?_; refine Ls (X_move (v := .int _ _) rfl) ?_; refine Ls ((X_remi rfl rfl (by omega)).trans (by rw [hrem2])) ?_; refine Ls (X_assign (v := .int _ _) rfl) ?_; refine L_nil ?_; refine bn ?_; refine tn ?_)
            refine ⟨q - 1, by omega, (k + 1) % s.n, j, Nat.mod_lt _ hn1, hj, hcj, ?_, rfl, rfl, rfl, rfl, rfl, rfl, rfl, rfl, rfl⟩
            rw [hk1]
            split <;> omega
          | false =>
            rw [hck] at hget
            (refine W_seq ?_; refine W_seq ?_; refine W_region ?_; refine Ls (X_move (v := .slice _ _ _) rfl) ?_; refine Ls (X_move (v := .int _ _) rfl) ?_; refine Ls (X_indexSn rfl rfl (by omega)) ?_; refine Ls (X_ld (cs := marks ch s.n) rfl D9 hget) ?_; refine L_nil ?_; refine tn ?_; refine W_condF rfl ?_; refine W_exit ?_; refine te ?_; refine te ?_; refine bx ?_; refine tn ?_; refine W_region ?_; refine Ls (X_move (v := .slice _ _ _) rfl) ?_; refine Ls (X_move (v := .int _ _) rfl) ?_; refine Ls (X_indexSn rfl rfl (by omega)) ?_)
            refine L_store1 (v := .bool true) rfl rfl rfl D9 (by rw [marks_len]; omega) ?_
            intro w7 D9' hg9' hs7
            rw [show 0 + k * 1 = k by omega, marks_set] at D9'
            (refine L_nil ?_; refine bn ?_; refine tn ?_; refine W_region ?_; refine Ls (X_move (v := .int _ _) rfl) ?_; refine Ls (X_addi rfl rfl (by omega)) ?_; refine Ls (X_assign (v := .int _ _) rfl) ?_; refine L_nil ?_; refine tn ?_)
            exact ⟨s.t - (i + 1), by omega, i + 1, chS ch k, rfl, by omega, rfl, rfl, rfl, rfl, rfl, rfl, rfl, hE.then hg9' (fun g h => by cases h; omega), D9', by rw [chs_set ch k hck s.n hk, hch]⟩
      · have hit : i = s.t := by omega
        have C6 := C6.ext hE
        have D7 := B7.ext hE
        have o7 := own_ext o7 hE
        have E2r := E24.trans hE
        (refine W_exit ?_; refine te ?_; refine te ?_; refine bx ?_; refine tn ?_; refine W_seq ?_; refine W_seq ?_; refine W_region ?_; refine Ls (X_assign (v := .int _ _) rfl) ?_; refine L_nil ?_; refine tn ?_; refine W_block ?_)
        refine W_loop (fun q f w' => ∃ (k : Nat) (u : Value), q = s.n - k ∧ k ≤ s.n ∧ f 6 = .pointer (some ⟨g6, 0, none⟩) ∧ f 7 = .pointer (some ⟨g7, 0, none⟩) ∧ f 8 = .int .i64 (s.n : Nat) ∧ f 9 = .slice (some ⟨g9, 0, none⟩) s.n s.n ∧ f 12 = .int .i64 (k : Nat) ∧ Ext w2 w' ∧ Blk w' g9 4 (marks ch s.n) ∧ Blk w' g7 34 (waC q7 rho u) ∧ w'.ownsRow w2.heap.size 31 2 q7 (s.a + s.c) (exs (raw Pm)) ∧ w'.ownsRow w2.heap.size 3 1 u (chs ch k).length (ints .i64 (chs ch k))) s.n ?_ ?_
        · exact ⟨0, .slice none 0 0, rfl, by omega, rfl, rfl, rfl, rfl, rfl, E2r, D9, D7, o7, ⟨rfl, .inl ⟨rfl, rfl⟩⟩⟩
        · rintro q f wz ⟨k, u, hq, hkl, f6, f7, f8, f9, f12, hZ, G9, G7, oz, ou⟩
          have hu1 := row_cell1 (Row.of_own ou)
          have hcl := chs_le ch k
          rw [fold f6, fold f7, fold f8, fold f9, fold f12]
          (refine W_seq ?_; refine W_seq ?_; refine W_region ?_; refine Ls (X_move (v := .int _ _) rfl) ?_; refine Ls (X_move (v := .int _ _) rfl) ?_; refine Ls (X_lss rfl rfl) ?_; refine L_nil ?_; refine tn ?_)
          refine W_condp rfl (fun h => ?_) (fun h => ?_)
          · have hlt : k < s.n := by omega
            have hget : (marks ch s.n)[0 + k * 1]? = some (.bool (ch k)) := by rw [show 0 + k * 1 = k by omega]; exact marks_get ch hlt
            have hsc := chs_succ ch k
            cases hck : ch k with
            | true =>
              rw [hck] at hget hsc
              (refine W_skip ?_; refine tn ?_; refine W_seq ?_; refine W_block ?_; refine W_seq ?_; refine W_region ?_; refine Ls (X_move (v := .slice _ _ _) rfl) ?_; refine Ls (X_move (v := .int _ _) rfl) ?_; refine Ls (X_indexSn rfl rfl (by omega)) ?_; refine Ls (X_ld (cs := marks ch s.n) rfl G9 hget) ?_; refine L_nil ?_; refine tn ?_; refine W_condT rfl ?_; refine W_region ?_; refine Ls (X_fld rfl) ?_; refine Ls (X_ld (cs := waC q7 rho u) rfl G7 rfl) ?_; refine Ls (X_move (v := .int _ _) rfl) ?_)
              refine L_lit1 (v := .int .i64 _) rfl rfl ?_
              intro u2 w8 r8 E8 hs8 _
              have ou' := own_ext ou E8
              refine L_append (v := u) (u := u2) rfl rfl ou' r8 (fun x hx => by rw [List.mem_singleton.1 hx]; rfl) (by omega) (by omega) (by have := hZ.size; have := E8.size; omega) ?_
              intro u9 w9 o9 hg9' _
              have hu9 := row_cell1 (Row.of_own o9)
              have F7 := (G7.ext E8).grown hg9' (fun h => by
                obtain ⟨_, cs, fz, e⟩ := own_obj ou' g7 h
                exact blk_ty (G7.ext E8) e (by decide))
              have F9 := (G9.ext E8).grown hg9' (fun h => by
                obtain ⟨_, cs, fz, e⟩ := own_obj ou' g9 h
                exact blk_ty (G9.ext E8) e (by decide))
              have oz9 := own_other (own_ext oz E8) hg9' (fun g hg e => by
                obtain ⟨_, cs, fz, e1⟩ := own_obj (own_ext oz E8) g hg
                obtain ⟨_, cs', fz', e2⟩ := own_obj ou' g e
                rw [e1] at e2
                cases e2)
              (refine Ls (X_fld rfl) ?_)
              refine L_store1 (v := u9) rfl rfl hu9 F7 (by simp [waC]) ?_
              intro w10 F7' hg10 hs10
              have F7' : Blk w10 g7 34 (waC q7 rho u9) := F7'
              (refine L_nil ?_; refine bn ?_; refine tn ?_; refine W_region ?_; refine Ls (X_move (v := .int _ _) rfl) ?_; refine Ls (X_addi rfl rfl (by omega)) ?_; refine Ls (X_assign (v := .int _ _) rfl) ?_; refine L_nil ?_; refine tn ?_)
              refine ⟨s.n - (k + 1), by omega, k + 1, u9, rfl, by omega, rfl, rfl, rfl, rfl, rfl, ((hZ.trans E8).then hg9' (fun g h => (own_obj ou' g h).1)).then hg10 (fun g h => by cases h; exact hg7l), F9.grown hg10 (fun h => F9.ne_ F7 (by decide) (Option.some.inj h).symm), F7', hoX (by decide) F7 hg10 oz9, ?_⟩
              rw [hsc, List.length_append, ints_app]
              exact hoX (by decide) F7 hg10 o9
            | false =>
              rw [hck] at hget hsc
              (refine W_skip ?_; refine tn ?_; refine W_seq ?_; refine W_block ?_; refine W_seq ?_; refine W_region ?_; refine Ls (X_move (v := .slice _ _ _) rfl) ?_; refine Ls (X_move (v := .int _ _) rfl) ?_; refine Ls (X_indexSn rfl rfl (by omega)) ?_; refine Ls (X_ld (cs := marks ch s.n) rfl G9 hget) ?_; refine L_nil ?_; refine tn ?_; refine W_condF rfl ?_; refine W_skip ?_; refine bn ?_; refine tn ?_; refine W_region ?_; refine Ls (X_move (v := .int _ _) rfl) ?_; refine Ls (X_addi rfl rfl (by omega)) ?_; refine Ls (X_assign (v := .int _ _) rfl) ?_; refine L_nil ?_; refine tn ?_)
              have hsc' : chs ch (k + 1) = chs ch k := by rw [hsc]; simp
              exact ⟨s.n - (k + 1), by omega, k + 1, u, rfl, by omega, rfl, rfl, rfl, rfl, rfl, hZ, G9, G7, oz, by rw [hsc']; exact ou⟩
          · have hkn : k = s.n := by omega
            rw [hkn] at ou
            have K6 := B6.ext hZ
            (refine W_exit ?_; refine te ?_; refine te ?_; refine bx ?_; refine tn ?_; refine W_seq ?_; refine W_region ?_; refine Ls (X_ldW (cs := waC q7 rho u) rfl G7 rfl) ?_)
            refine L_storeW (size := 4) (l := waC q7 rho u) rfl rfl rfl (waC_cell hq71 hu1) K6 rfl ?_
            intro w8 B8 hg8 _
            (refine L_nil ?_; refine tn ?_; refine W_ret ?_)
            refine endQ_res rfl rfl (Res.cellA inferInstance rfl (B8.range (fun j u h => by simpa using h)) rfl .nil) ?_
            have hE1 := E1.size
            refine ⟨q7, u, rho, (chs ch s.n).map Int.ofNat, rfl, (E12.trans hZ).then hg8 (fun g h => by cases h; omega), ⟨?_, ?_, ?_, hrho, ?_, ?_⟩, own_base (own_grown oz hg8 (fun g h => by cases h; omega)) hE12, ?_⟩
            · rw [raw_len, hPml]
            · rw [List.length_map, hch, hit]
            · intro x hx
              obtain ⟨e, _, rfl⟩ := List.mem_map.1 hx
              exact ⟨e.a.isLt, e.b.isLt⟩
            · intro x hx
              obtain ⟨j, hj, rfl⟩ := List.mem_map.1 hx
              have := chs_lt j hj
              exact ⟨Int.natCast_nonneg j, Int.ofNat_lt.2 this⟩
            · rw [List.pairwise_map]
              exact (chs_srt ch s.n).imp fun h => Int.ofNat_lt.2 h
            · rw [List.length_map, List.map_map]
              exact own_base (own_grown ou hg8 (fun g h => by cases h; omega)) hE12
end Go.Proofs.YtpohjepbmgeplaaGreatDoor

/- Commitments: made inputs: the law's. -/
namespace Go.Proofs.YtpohjepbmgeplaaGreatDoor
open Go.RowKit Go.Proofs.K
open _root_.Fd (K E pw root trow tcol enc ccol comb combR)
open _root_.Cm (Sh pws pwE rowH rndH colsH pathH lv)

/-- a query, in the machine -/
def quC (tv pv : Value) (lg sh st : Nat) : List Value := [tv, pv, .int .u8 (lg : Nat), .int .u16 (sh : Nat), .int .u16 (st : Nat)]
/-- a query that has come in -/
structure QuAt (w : World) (tv pv : Value) (T : List Nat) (P : List (Nat × Nat)) (lg sh st : Nat) : Prop where
  t : RowN (fun _ => True) w 1 tv T.length (ints .u64 T)
  p : RowN (fun _ => True) w 2 pv P.length (exs P)
  t8 : ∀ x ∈ T, x < 18446744073709551616
  p8 : ∀ x ∈ P, x.1 < 18446744073709551616 ∧ x.2 < 18446744073709551616
  tl : T.length ≤ 9223372036854775807
  pl : P.length ≤ 9223372036854775807
  lg8 : lg < 256
  sh8 : sh < 65536
  st8 : st < 65536
theorem QuAt.ext {w w' : World} {tv pv : Value} {T : List Nat} {P : List (Nat × Nat)} {lg sh st : Nat} (h : QuAt w tv pv T P lg sh st) (E : Ext w w') : QuAt w' tv pv T P lg sh st := ⟨h.t.ext E, h.p.ext E, h.t8, h.p8, h.tl, h.pl, h.lg8, h.sh8, h.st8⟩
/-- what made gives: a table, a shape, a position -/
structure MdAt (w0 w : World) (s : Sh) (t : List K) (tv pv iv : Value) (P : List E) (rho : Nat × Nat) (I : List Int) : Prop where
  ok : s.Ok
  a6 : s.a + s.c ≤ 6
  tl : t.length = 2 ^ (s.a + s.c)
  t : w.ownsRow w0.heap.size 29 1 tv t.length (ints .u64 (vals t))
  p : w.ownsRow w0.heap.size 31 2 pv P.length (exs (raw P))
  i : w.ownsRow w0.heap.size 3 1 iv I.length (I.map (Value.int .i64))
  pos : PosOk s (raw P) rho I
theorem MdAt.ext {w0 w w' : World} {s : Sh} {t : List K} {tv pv iv : Value} {P : List E} {rho : Nat × Nat} {I : List Int} (h : MdAt w0 w s t tv pv iv P rho I) (E : Ext w w') : MdAt w0 w' s t tv pv iv P rho I := ⟨h.ok, h.a6, h.tl, own_ext h.t E, own_ext h.p E, own_ext h.i E, h.pos⟩
set_option maxHeartbeats 2000000 in
theorem lmade (tv pv : Value) (T : List Nat) (P : List (Nat × Nat)) (lg sh st : Nat) (w : World) (hq : QuAt w tv pv T P lg sh st) :
    Calls Tryz.prog 11 #[.agg (quC tv pv lg sh st).toArray] w fun e w' => ∃ (tv' pv' iv' : Value) (rho : Nat × Nat) (I : List Int), e = .returned (.tuple #[tv', .agg (shC ((mkS (lg % 7) sh).R : Nat) ((mkS (lg % 7) sh).C : Nat) ((mkS (lg % 7) sh).B : Nat) ((mkS (lg % 7) sh).t : Nat)).toArray, .agg (waC pv' rho iv').toArray]) ∧ Ext w w' ∧ MdAt w w' (mkS (lg % 7) sh) (madeK T (lg % 7)) tv' pv' iv' (madeE P (lg % 7)) rho I := by
  obtain ⟨⟨tlo, thi, _, ht⟩, ⟨plo, phi, _, hp⟩, t8, p8, tl, pl, lg8, sh8, st8⟩ := hq
  have ht1 := row_cell1 ht
  have hp1 := row_cell1 hp
  obtain ⟨a, ha⟩ : ∃ a, a = lg % 7 := ⟨_, rfl⟩
  have ha6 : a ≤ 6 := by omega
  have hrem : ((lg : Nat) : Int) % 7 = ((a : Nat) : Int) := by omega
  rw [← ha]
  obtain ⟨s, hs⟩ : ∃ s, s = mkS a sh := ⟨_, rfl⟩
  have hok : s.Ok := by rw [hs]; exact mkS_ok ha6
  have hlog : s.a + s.c = a := by rw [hs]; exact mkS_log
  have hmade := r11made a sh ha6 sh8
  rw [← hs] at hmade
  rw [← hs]
  have hpw := pow_le16 (a := a) (by omega)
  refine calls_W Tryz.func11 rfl Tryz.ntmps11 rfl ?_
  (refine W_seq ?_; refine W_region ?_)
  refine L_box rfl ?_
  intro g1 w1 B1 hg1 E1 hs1
  (refine Ls (X_assign (v := .slice _ _ _) rfl) ?_)
  refine L_alloc ?_
  intro g3 w2 B3 hg3 E2 hs2
  refine L_alloc ?_
  intro g4 w3 B4 hg4 E3 hs3
  have C1 := B1.ext (E2.trans E3)
  have C3 := B3.ext E3
  have E13 := E1.trans (E2.trans E3)
  (refine L_nil ?_; refine tn ?_; refine W_seq ?_; refine W_region ?_; refine Ls (X_fld rfl) ?_; refine Ls (X_ld (cs := quC tv pv lg sh st) rfl C1 rfl) ?_; refine Ls ((X_remi rfl rfl (by omega)).trans (by rw [hrem])) ?_; refine Ls ((X_conv rfl).trans (by rw [i64_nat (by omega)])) ?_; refine Ls (X_assign (v := .int _ _) rfl) ?_; refine L_nil ?_; refine tn ?_; refine W_seq ?_; refine W_region ?_; refine Ls (X_move (v := .int _ _) rfl) ?_; refine Ls (X_fld rfl) ?_; refine Ls (X_ld (cs := quC tv pv lg sh st) rfl C1 rfl) ?_)
  refine L_fv rfl (hmade w3) ?_
  intro w4 E4
  refine L_alloc ?_
  intro g6 w5 B6 hg6 E5 hs5
  refine L_storeW (size := 4) (l := shC (s.R : Nat) (s.C : Nat) (s.B : Nat) (s.t : Nat)) rfl rfl rfl shC_cell B6 rfl ?_
  intro w6 B6 hg6' hs6
  have E36 : Ext w3 w6 := (E4.trans E5).then hg6' (fun g h => by cases h; have := E4.size; omega)
  have C1 := C1.ext E36
  have C3 := C3.ext E36
  have C4 := B4.ext E36
  have E16 := E13.trans E36
  (refine L_nil ?_; refine tn ?_; refine W_seq ?_)
  apply W_dagE 12 (by kernel_rfl)
  (apply DW_x (fun r w hA hH => (X_fld rfl).trans rfl); apply DW_x (fun r w hA hH => (X_ld (cs := quC tv pv lg sh st) rfl (C1.ext hA) rfl).trans rfl); apply DW_x (fun r w hA hH => (X_move (v := .int _ _) rfl).trans rfl))
  ((with_reducible apply DW_fo); (exact fun _ => rfl); (exact fun _ => rfl); (exact fun r w hA hH => calls_own hA (r9made (a := a) (by omega) tlo thi tv T t8 tl w (ht.ext (E16.trans hA)))); (exact fun _ _ _ _ _ _ E h => OwnF.ext E h))
  (apply DW_x (fun r w hA hH => (X_ldW (cs := shC (s.R : Nat) (s.C : Nat) (s.B : Nat) (s.t : Nat)) rfl (B6.ext hA) rfl).trans rfl); apply DW_x (fun r w hA hH => (X_ldW (cs := shC (s.R : Nat) (s.C : Nat) (s.B : Nat) (s.t : Nat)) rfl (B6.ext hA) rfl).trans rfl); apply DW_x (fun r w hA hH => (X_fld rfl).trans rfl); apply DW_x (fun r w hA hH => (X_ld (cs := quC tv pv lg sh st) rfl (C1.ext hA) rfl).trans rfl); apply DW_x (fun r w hA hH => (X_fld rfl).trans rfl); apply DW_x (fun r w hA hH => (X_ld (cs := quC tv pv lg sh st) rfl (C1.ext hA) rfl).trans rfl))
  ((with_reducible apply DW_fo (F := fun u w' => ∃ (pv iv : Value) (rho : Nat × Nat) (I : List Int), u = .agg (waC pv rho iv).toArray ∧ PosOk s (raw (madeE P a)) rho I ∧ w'.ownsRow w6.heap.size 31 2 pv a (exs (raw (madeE P a))) ∧ w'.ownsRow w6.heap.size 3 1 iv I.length (I.map (Value.int .i64)))); (exact fun _ => rfl); (exact fun _ => rfl); (exact fun r w hA hH => (r11madeat s hok plo phi pv P p8 pl st st8 w (hp.ext (E16.trans hA))).mono fun e w' ⟨pv', iv', rho, I, h1, h2, h3, h4, h5⟩ => ⟨_, h1, h2, pv', iv', rho, I, rfl, by rw [← hlog]; exact h3, by rw [← hlog]; exact own_base h4 hA.size, own_base h5 hA.size⟩); (exact fun i u w w' hi ht hR h => (by obtain ⟨a1, a2, a3, a4, a5, a6, a7, a8⟩ := h; exact ⟨a1, a2, a3, a4, a5, a6, own_ext a7 hR, own_ext a8 hR⟩)))
  ((with_reducible apply DW_x); (exact fun r w hA hH => (X_assign (v := r 3) rfl).trans rfl))
  ((with_reducible exact D_end); (exact rfl); (repeat (first | exact .inr (.inr (fun _ _ => by with_reducible rfl)) | (refine And.intro ?_ ?_) | exact .inr (.inl rfl) | exact .inl (by decide +kernel) | exact trivial | exact .inr (.inr (fun _ _ => rfl)))); (try dsimp only [Nat.reduceAdd]))
  intro r w7 E7 H7
  obtain ⟨b3, hb3, o3⟩ : OwnF w6 29 1 (r 3) (2 ^ a) (ints .u64 (vals (madeK T a))) w7 := H7 3
  obtain ⟨pv', iv', rho, I, hr10, hpos, op, oi⟩ : ∃ (pv iv : Value) (rho : Nat × Nat) (I : List Int), r 10 = .agg (waC pv rho iv).toArray ∧ PosOk s (raw (madeE P a)) rho I ∧ w7.ownsRow w6.heap.size 31 2 pv a (exs (raw (madeE P a))) ∧ w7.ownsRow w6.heap.size 3 1 iv I.length (I.map (Value.int .i64)) := H7 10
  rw [hr10]
  have ht3 := row_cell1 (Row.of_own o3)
  have hpv := row_cell1 (Row.of_own op)
  have hiv := row_cell1 (Row.of_own oi)
  have h3l := C3.lt
  have h4l := C4.lt
  refine L_storeW (size := 4) (l := shC (s.R : Nat) (s.C : Nat) (s.B : Nat) (s.t : Nat)) rfl rfl rfl shC_cell (C3.ext E7) rfl ?_
  intro w8 D3 hg8 hs8
  have hg34 : g3 ≠ g4 := by have := E2.size; omega
  refine L_storeW (size := 4) (l := waC pv' rho iv') rfl rfl rfl (waC_cell hpv hiv) ((C4.ext E7).grown hg8 (by simp; exact hg34)) rfl ?_
  intro w9 D4 hg9 hs9
  have D3 := D3.grown hg9 (by simp; exact fun h => hg34 h.symm)
  (refine L_nil ?_; refine tn ?_; refine W_ret ?_)
  refine endQ_res rfl rfl (Res.tmp (v := r 3) rfl (Res.cellA inferInstance rfl (D3.range (fun j u h => by simpa using h)) rfl (Res.cellA inferInstance rfl (D4.range (fun j u h => by simpa using h)) rfl .nil))) ?_
  have hE1 := E1.size
  have hE16 := E16.size
  have hE36 := E36.size
  have h3l' := B3.lt
  have h4l' := B4.lt
  have hE3 := E3.size
  have hO : ∀ {T : TypeId} {sz m bs : Nat} {x : Value} {l : List Value}, w6.heap.size ≤ bs → w7.ownsRow bs T sz x m l → w9.ownsRow w.heap.size T sz x m l := fun {T sz m bs x l} hb h => own_base (own_grown (own_grown h hg8 (fun g h => by cases h; omega)) hg9 (fun g h => by cases h; omega)) (by omega)
  refine ⟨r 3, pv', iv', rho, I, rfl, ((E16.trans E7).then hg8 (fun g h => by cases h; have := E2.size; omega)).then hg9 (fun g h => by cases h; have := E2.size; omega), ⟨hok, by omega, by rw [madeK_len, hlog], ?_, ?_, ?_, hpos⟩⟩
  · rw [madeK_len]; exact hO hb3 o3
  · rw [madeE_len]; exact hO (Nat.le_refl _) op
  · exact hO (Nat.le_refl _) oi
end Go.Proofs.YtpohjepbmgeplaaGreatDoor

/- Commitments: elements of integers, changed rows: the law's. -/
namespace Go.Proofs.YtpohjepbmgeplaaGreatDoor
open Go.RowKit Go.Proofs.K
open _root_.Fd (K E pw root trow tcol enc ccol comb combR)
open _root_.Cm (Sh pws pwE rowH rndH colsH pathH lv)

theorem lints (lo hi : Nat) (v : Value) (l : List Nat) (hl : l.length ≤ 1000000) (h8 : ∀ x ∈ l, x < 4294967296) (w : World) (hr : Row w lo hi 1 v l.length (ints .i64 l)) :
    Calls Tryz.prog 44 #[v] w fun e w' => ∃ q, e = .returned q ∧ Ext w w' ∧ w'.ownsRow w.heap.size 31 2 q l.length (exs (raw (l.map fun x => E.of (Fd.k x)))) := by
  obtain ⟨A, c, rfl⟩ : ∃ A c, v = .slice A l.length c := by
    obtain ⟨_, A, c, rfl, _⟩ := hr
    exact ⟨A, c, rfl⟩
  refine calls_W Tryz.func44 rfl Tryz.ntmps44 rfl ?_
  (refine W_seq ?_; refine W_region ?_; refine Ls (X_assign (v := .slice _ _ _) rfl) ?_; refine L_nil ?_; refine tn ?_; refine W_seq ?_; refine W_region ?_)
  refine L_lit0 (size := 2) ?_
  intro q1 w1 E1 hs1 o1
  (refine Ls (X_assign (v := q1) rfl) ?_; refine L_nil ?_; refine tn ?_; refine W_seq ?_; refine W_seq ?_; refine W_region ?_; refine Ls (X_assign (v := .int _ _) rfl) ?_; refine L_nil ?_; refine tn ?_; refine W_block ?_)
  refine W_loop (fun q f w' => ∃ (i : Nat) (u : Value), q = l.length - i ∧ i ≤ l.length ∧ f 0 = .slice A l.length c ∧ f 3 = u ∧ f 4 = .int .i64 (i : Nat) ∧ Ext w w' ∧ w'.ownsRow w.heap.size 31 2 u i (exs (raw ((l.take i).map fun x => E.of (Fd.k x))))) l.length ?_ ?_
  · exact ⟨0, q1, rfl, by omega, rfl, rfl, rfl, E1, o1⟩
  · rintro q f wr ⟨i, u, hq, hi', f0, f3, f4, hE, ho⟩
    rw [fold f0, fold f3, fold f4]
    have hu1 := row_cell1 (Row.of_own ho)
    (refine W_seq ?_; refine W_seq ?_; refine W_region ?_; refine Ls (X_move (v := .int _ _) rfl) ?_; refine Ls (X_move (v := .slice _ _ _) rfl) ?_; refine Ls (X_lenSlice rfl) ?_; refine Ls (X_lss rfl rfl) ?_; refine L_nil ?_; refine tn ?_)
    refine W_condp rfl (fun h => ?_) (fun h => ?_)
    · have hlt : i < l.length := by omega
      obtain ⟨x, hx⟩ : ∃ x, l[i]? = some x := ⟨_, List.getElem?_eq_getElem hlt⟩
      have hx8 := h8 x (List.mem_of_getElem? hx)
      obtain ⟨b, o, c', e, _, _, _, hR⟩ := (hr.ext hE).at hlt
      cases e
      (refine W_skip ?_; refine tn ?_; refine W_seq ?_; refine W_block ?_; refine W_region ?_; refine Ls (X_move (v := u) rfl) ?_; refine Ls (X_move (v := .slice _ _ _) rfl) ?_; refine Ls (X_move (v := .int _ _) rfl) ?_; refine Ls (X_indexSn rfl rfl (by omega)) ?_; refine Ls (X_ldR rfl hR (j := i) (by omega) (ints_at hx)) ?_)
      refine L_fv rfl (r2int x (by unfold Fd.pr; omega) (by omega) wr) ?_
      intro w2 E2
      skip
      refine L_litA (z := exC 0 0) rfl rfl rfl ?_
      intro u2 w3 r3 E3 hs3
      have E23 := E2.trans E3
      have ho' := own_ext ho E23
      refine L_append (v := u) (u := u2) rfl rfl ho' r3 exC_cell (by omega) (by omega) (by have := hE.size; have := E23.size; omega) ?_
      intro u4 w4 o4 hg4 _
      (refine Ls (X_assign (v := u4) rfl) ?_; refine L_nil ?_; refine bn ?_; refine tn ?_; refine W_region ?_; refine Ls (X_move (v := .int _ _) rfl) ?_; refine Ls (X_addi rfl rfl (by omega)) ?_; refine Ls (X_assign (v := .int _ _) rfl) ?_; refine L_nil ?_; refine tn ?_)
      refine ⟨l.length - (i + 1), by omega, i + 1, u4, rfl, by omega, rfl, rfl, rfl, (hE.trans E23).then hg4 (fun g h => (own_obj ho' g h).1), ?_⟩
      rw [List.take_add_one, hx, List.map_append, raw_app, exs_app]
      exact o4
    · have hil : i = l.length := by omega
      rw [hil, List.take_length] at ho
      (refine W_exit ?_; refine te ?_; refine te ?_; refine bx ?_; refine tn ?_; refine W_seq ?_; refine W_region ?_; refine Ls (X_move (v := u) rfl) ?_; refine Ls (X_assign (v := u) rfl) ?_; refine L_nil ?_; refine tn ?_; refine W_ret ?_)
      exact endQ_ret1 rfl rfl (v := u) rfl ⟨u, rfl, hE, ho⟩
end Go.Proofs.YtpohjepbmgeplaaGreatDoor

/- Commitments: contracts for valid shapes and positions; opens. -/
namespace Go.Proofs.YtpohjepbmgeplaaGreatDoor
open Go.RowKit Go.Proofs.K
open _root_.Fd (K E pw root trow tcol enc ccol comb combR)
open _root_.Cm (Sh pws pwE rowH rndH colsH pathH lv)

theorem sok_of {s : Sh} (hs : s.Ok) {t : List K} (ht : t.length = 2 ^ (s.a + s.c)) : SOk ((s.R : Nat) : Int) ((s.C : Nat) : Int) ((s.B : Nat) : Int) ((s.t : Nat) : Int) (lgI (t.length : Nat)) := by
  rw [ht, lgI_pow]
  exact sh_ok hs
theorem sI {s : Sh} (hs : s.Ok) : I64 ((s.R : Nat) : Int) ∧ I64 ((s.C : Nat) : Int) ∧ I64 ((s.B : Nat) : Int) ∧ I64 ((s.t : Nat) : Int) := by
  have hR16 : s.R ≤ 65536 := (pow_le16 (a := s.a) (by have := hs.ac; omega)).2
  have hC16 : s.C ≤ 65536 := (pow_le16 (a := s.c) (by have := hs.ac; omega)).2
  have hB16 : s.B ≤ 65536 := (pow_le16 (a := s.b) (by have := hs.b4; omega)).2
  have := hs.t64
  exact ⟨⟨by omega, by omega⟩, ⟨by omega, by omega⟩, ⟨by omega, by omega⟩, ⟨by omega, by omega⟩⟩
section
variable {s : Sh} (hs : s.Ok) (lo hi : Nat) (v : Value) (t : List K) (ht : t.length = 2 ^ (s.a + s.c)) (w : World) (hr : Row w lo hi 1 v t.length (ints .u64 (vals t)))
include hs ht hr
theorem groot_ok (hw : Tb w) : Calls Tryz.prog 14 #[v, .agg (shC (s.R : Nat) (s.C : Nat) (s.B : Nat) (s.t : Nat)).toArray] w fun e w' => e = .returned (.tuple #[.agg (ints .u8 (Cm.rt lf nd by8 t s)).toArray, .int .i64 0]) ∧ Ext w w' := by
  obtain ⟨i1, i2, i3, i4⟩ := sI hs
  refine (gcroot lo hi v t (by have := (pow_le16 hs.ac).2; omega) _ _ _ _ i1 i2 i3 i4 w hw hr).mono fun e w' ⟨h1, h2⟩ => ?_
  rcases h2 with ⟨s', _, a1, a2, a3, a4, _, a5⟩ | ⟨h2, _⟩
  · rw [← sh_inj a1 a2 a3 a4] at a5
    exact ⟨a5, h1⟩
  · exact (h2 (sok_of hs ht)).elim
theorem gcw_ok (hw : Tb w) : Calls Tryz.prog 12 #[v, .agg (shC (s.R : Nat) (s.C : Nat) (s.B : Nat) (s.t : Nat)).toArray] w fun e w' => ∃ q, e = .returned (.tuple #[q, .int .i64 0]) ∧ Ext w w' ∧ PartN (fun k => w.heap.size ≤ k) w' .u64 q (cws t s) := by
  obtain ⟨i1, i2, i3, i4⟩ := sI hs
  refine (gcodewords lo hi v t (by have := (pow_le16 hs.ac).2; omega) _ _ _ _ i1 i2 i3 i4 w hw hr).mono fun e w' ⟨h1, h2⟩ => ?_
  rcases h2 with ⟨s', _, a1, a2, a3, a4, _, _, q, a5, a6⟩ | ⟨h2, _⟩
  · rw [← sh_inj a1 a2 a3 a4] at a6
    exact ⟨q, a5, h1, a6.mono fun k hk => hk.1⟩
  · exact (h2 (sok_of hs ht)).elim
variable {pl ph il ih : Nat} {pv iv : Value} {P : List (Nat × Nat)} {rho : Nat × Nat} {I : List Int} (hpos : PosOk s P rho I) (hp : Row w pl ph 2 pv P.length (exs P)) (hi' : Row w il ih 1 iv I.length (I.map (Value.int .i64)))
include hpos hp hi'
theorem gopen_ok (hw : Tb w) : Calls Tryz.prog 16 #[v, .agg (shC (s.R : Nat) (s.C : Nat) (s.B : Nat) (s.t : Nat)).toArray, .agg (waC pv rho iv).toArray] w fun e w' => ∃ rv nv cv qv, e = .returned (.tuple #[.agg (pxC rv nv cv qv).toArray, .int .i64 0]) ∧ Ext w w' ∧ HonAt w w' t s P rho I rv nv cv qv := by
  obtain ⟨i1, i2, i3, i4⟩ := sI hs
  have hpl := hpos.p
  have hil := hpos.i
  have h1 := hs.ac
  have h2 := hs.t64
  refine (gcopen lo hi v t (by have := (pow_le16 hs.ac).2; omega) _ _ _ _ i1 i2 i3 i4 pl ph il ih pv iv P rho I (by omega) (by omega) w hw hr hp hi').mono fun e w' ⟨h1, h2⟩ => ?_
  rcases h2 with ⟨s', _, a1, a2, a3, a4, _, _, rv, nv, cv, qv, a5, a6⟩ | ⟨h2, _⟩
  · rw [← sh_inj a1 a2 a3 a4] at a6
    exact ⟨rv, nv, cv, qv, a5, h1, a6⟩
  · exact (h2 ⟨s, hs, rfl, rfl, rfl, rfl, by rw [ht, lgI_pow], hpos⟩).elim
end
end Go.Proofs.YtpohjepbmgeplaaGreatDoor

/- Commitments: the law's opens. -/
namespace Go.Proofs.YtpohjepbmgeplaaGreatDoor
open Go.RowKit Go.Proofs.K
open _root_.Fd (K E pw root trow tcol enc ccol comb combR)
open _root_.Cm (Sh pws pwE rowH rndH colsH pathH lv)

theorem HonAt.ext {w0 w w' : World} {t : List K} {s : Sh} {P : List (Nat × Nat)} {rho : Nat × Nat} {I : List Int} {rv nv cv qv : Value} (h : HonAt w0 w t s P rho I rv nv cv qv) (E : Ext w w') : HonAt w0 w' t s P rho I rv nv cv qv := ⟨own_ext h.1 E, own_ext h.2.1 E, h.2.2.1.ext E, own_ext h.2.2.2 E⟩
theorem HonAt.base {w0 w1 w : World} {t : List K} {s : Sh} {P : List (Nat × Nat)} {rho : Nat × Nat} {I : List Int} {rv nv cv qv : Value} (h : HonAt w1 w t s P rho I rv nv cv qv) (hz : w0.heap.size ≤ w1.heap.size) : HonAt w0 w t s P rho I rv nv cv qv := ⟨own_base h.1 hz, own_base h.2.1 hz, h.2.2.1.mono fun k hk => Nat.le_trans hz hk, own_base h.2.2.2 hz⟩
theorem HonAt.grown {w0 w w' : World} {g : Nat} {t : List K} {s : Sh} {P : List (Nat × Nat)} {rho : Nat × Nat} {I : List Int} {rv nv cv qv : Value} (h : HonAt w0 w t s P rho I rv nv cv qv) (hg : w.grownBy w' (some g)) (hz : g < w0.heap.size) : HonAt w0 w' t s P rho I rv nv cv qv :=
  ⟨own_grown h.1 hg (fun _ e => by cases e; exact hz), own_grown h.2.1 hg (fun _ e => by cases e; exact hz), h.2.2.1.keepS (keepS_grown hg) (fun k hk e => by subst e; exact absurd hk (by omega)), own_grown h.2.2.2 hg (fun _ e => by cases e; exact hz)⟩
theorem HonAt.new {w0 w w1 w2 : World} {g : Nat} {t : List K} {s : Sh} {P : List (Nat × Nat)} {rho : Nat × Nat} {I : List Int} {rv nv cv qv : Value} (h : HonAt w0 w t s P rho I rv nv cv qv) (E : Ext w w1) (hg : w1.grownBy w2 (some g)) (hz : w.heap.size ≤ g) : HonAt w0 w2 t s P rho I rv nv cv qv :=
  have hO : ∀ {T : TypeId} {sz m bs : Nat} {x : Value} {l : List Value}, w.ownsRow bs T sz x m l → w2.ownsRow bs T sz x m l := fun {_ _ _ _ _ _} h => own_other (own_ext h E) hg (fun g' hg' e => by have h1 := (h.lt g' hg').2; have := Option.some.inj e; omega)
  ⟨hO h.1, hO h.2.1, ((h.2.2.1.tight.ext E).keepS (keepS_grown hg) (fun k hk e => by subst e; exact absurd hk.2 (by omega))).mono fun k hk => hk.1, hO h.2.2.2⟩
theorem HonAt.cells {w0 w : World} {t : List K} {s : Sh} {P : List (Nat × Nat)} {rho : Nat × Nat} {I : List Int} {rv nv cv qv : Value} (h : HonAt w0 w t s P rho I rv nv cv qv) : rv.oneCell' = true ∧ nv.oneCell' = true ∧ cv.oneCell' = true ∧ qv.oneCell' = true := by
  obtain ⟨A, c, e, _⟩ := h.2.2.1.form
  exact ⟨row_cell1 (Row.of_own h.1), row_cell1 (Row.of_own h.2.1), by rw [e]; rfl, row_cell1 (Row.of_own h.2.2.2)⟩
theorem vopC_cell {pv iv rv nv cv qv : Value} {rho v : Nat × Nat} {log : Int} (hp : pv.oneCell' = true) (hi : iv.oneCell' = true) (hr : rv.oneCell' = true) (hn : nv.oneCell' = true) (hc : cv.oneCell' = true) (hq : qv.oneCell' = true) : ∀ u ∈ vopC pv rho iv log v rv nv cv qv, u.oneCell' = true := by
  intro u hu
  simp only [vopC, List.mem_cons, List.not_mem_nil, or_false] at hu
  rcases hu with rfl | rfl | rfl | rfl | rfl | rfl | rfl | rfl | rfl | rfl | rfl <;> first | assumption | rfl
theorem X_mkOp {n : NN} {f : Fr} {w : World} {d : Option Tmp} {t : TypeId} {pos : String} {af : Array Edge} {g : Option (Nat × Bool)} {x y z u : Operand} {pv iv rv nv cv qv : Value} {rho v : Nat × Nat} {log : Int} (hx : ev n f x = .agg (waC pv rho iv).toArray) (hy : ev n f y = .int .i64 log) (hz : ev n f z = .agg (exC v.1 v.2).toArray) (hu : ev n f u = .agg (pxC rv nv cv qv).toArray) :
    X Tryz.prog n ⟨d, .build 61 #[(0, x), (1, y), (2, z), (3, u)], t, pos, af, g⟩ f w = .ok (.value (.agg (vopC pv rho iv log v rv nv cv qv).toArray)) w := by
  have := X_build (P := Tryz.prog) (ty := 61) (n := n) (f := f) (w := w) (d := d) (t := t) (pos := pos) (af := af) (g := g) (zs := [[.slice none 0 0, .int .u64 0, .int .u64 0, .slice none 0 0], [.int .i64 0], [.int .u64 0, .int .u64 0], [.slice none 0 0, .slice none 0 0, .slice none 0 0, .slice none 0 0]])
    (Parts.cons (i := 0) (c := waC pv rho iv) (z := [.slice none 0 0, .int .u64 0, .int .u64 0, .slice none 0 0]) hx rfl rfl rfl (Parts.cons (i := 1) (c := [.int .i64 log]) (z := [.int .i64 0]) hy rfl rfl rfl (Parts.cons (i := 2) (c := exC v.1 v.2) (z := [.int .u64 0, .int .u64 0]) hz rfl rfl rfl
    (Parts.cons (i := 3) (c := pxC rv nv cv qv) (z := [.slice none 0 0, .slice none 0 0, .slice none 0 0, .slice none 0 0]) hu rfl rfl rfl (Parts.nil _)))))
  simpa [vopC, waC, pxC, exC] using this
set_option maxRecDepth 100000 in
set_option maxHeartbeats 4000000 in
theorem lopens {s : Sh} (hs : s.Ok) (lo hi : Nat) (v : Value) (t : List K) (ht : t.length = 2 ^ (s.a + s.c)) (pl ph il ih : Nat) (pv iv : Value) (P : List E) (rho : Nat × Nat) (I : List Int) (hpos : PosOk s (raw P) rho I) (w : World) (hw : Tb w) (hr : Row w lo hi 1 v t.length (ints .u64 (vals t))) (hp : Row w pl ph 2 pv P.length (exs (raw P))) (hi' : Row w il ih 1 iv I.length (I.map (Value.int .i64))) :
    Calls Tryz.prog 26 #[v, .agg (shC (s.R : Nat) (s.C : Nat) (s.B : Nat) (s.t : Nat)).toArray, .agg (waC pv rho iv).toArray] w fun e w' => ∃ rv nv cv qv, e = .returned (.tuple #[.agg (ints .u8 (Cm.rt lf nd by8 t s)).toArray, .agg (vopC pv rho iv ((s.a + s.c : Nat) : Int) ((Fd.mleS (t.map E.of) P).a.val, (Fd.mleS (t.map E.of) P).b.val) rv nv cv qv).toArray]) ∧ Ext w w' ∧ HonAt w w' t s (raw P) rho I rv nv cv qv := by
  have hac := hs.ac
  have hp16 := (pow_le16 hac).2
  have hpc := row_cell1 hp
  have hic := row_cell1 hi'
  have hpr : Row w pl ph 2 pv (raw P).length (exs (raw P)) := hp.re (raw_len P).symm rfl
  have hPl : P.length = s.a + s.c := by have := hpos.p; rw [raw_len] at this; exact this
  have hrl : (Cm.rt lf nd by8 t s).length = 32 := (tree_len ((lv by8 t s).map lf) (hash_ok _) (by rw [List.length_map, Cm.lv_len]; exact Nat.pow_pos (by decide))).1
  obtain ⟨A, c, rfl⟩ : ∃ A c, v = .slice A t.length c := by
    obtain ⟨_, A, c, rfl, _⟩ := hr
    exact ⟨A, c, rfl⟩
  obtain ⟨rt, hrt⟩ : ∃ l, l = Cm.rt lf nd by8 t s := ⟨_, rfl⟩
  obtain ⟨V, hV⟩ : ∃ l, l = Fd.mleS (t.map E.of) P := ⟨_, rfl⟩
  have hroot := fun y (E : Ext w y) => groot_ok hs lo hi (.slice A t.length c) t ht y (hr.ext E) (hw.ext E)
  have hopen := fun y (E : Ext w y) => gopen_ok hs lo hi (.slice A t.length c) t ht y (hr.ext E) hpos (hpr.ext E) (hi'.ext E) (hw.ext E)
  rw [← hrt] at hroot hrl
  rw [← hrt, ← hV]
  refine calls_W Tryz.func26 rfl Tryz.ntmps26 rfl ?_
  (refine W_seq ?_; refine W_region ?_)
  refine L_box rfl ?_
  intro g4 w1 B4 hg4 E1 hs1
  refine L_box rfl ?_
  intro g5 w2 B5 hg5 E2 hs2
  refine L_alloc ?_
  intro g6 w3 B6 hg6 E3 hs3
  refine L_alloc ?_
  intro g7 w4 B7 hg7 E4 hs4
  have E14 := (E1.trans E2).trans (E3.trans E4)
  have C4 := B4.ext (E2.trans (E3.trans E4))
  have C5 := B5.ext (E3.trans E4)
  have C6 := B6.ext E4
  (refine L_nil ?_; refine tn ?_; refine W_seq ?_; refine W_region ?_; refine Ls (X_move (v := .slice _ _ _) rfl) ?_; refine Ls (X_ldW (cs := shC (s.R : Nat) (s.C : Nat) (s.B : Nat) (s.t : Nat)) rfl C4 rfl) ?_)
  refine L_fv rfl (hroot w4 E14) ?_
  intro w5 E5
  (refine Ls (X_move (v := .tuple _) rfl) ?_; refine Ls (X_extract rfl rfl) ?_; refine Ls (X_extract rfl rfl) ?_)
  refine L_alloc ?_
  intro g8 w6 B8 hg8 E6 hs6
  refine L_storeW (size := 32) (l := ints .u8 rt) rfl rfl (by rw [ints_len]; exact hrl) ints_cell B8 rfl ?_
  intro w7 B8 hg8' hs7
  have E47 : Ext w4 w7 := (E5.trans E6).then hg8' (fun g h => by cases h; have := E5.size; omega)
  have E17 := E14.trans E47
  (refine Ls (X_assign (v := .int _ _) rfl) ?_; refine L_nil ?_; refine tn ?_; refine W_seq ?_; refine W_region ?_; refine Ls (X_move (v := .slice _ _ _) rfl) ?_; refine Ls (X_ldW (cs := shC (s.R : Nat) (s.C : Nat) (s.B : Nat) (s.t : Nat)) rfl (C4.ext E47) rfl) ?_; refine Ls (X_ldW (cs := waC pv rho iv) rfl (C5.ext E47) rfl) ?_)
  refine L_fo (F := fun u w' => ∃ rv nv cv qv, u = .tuple #[.agg (pxC rv nv cv qv).toArray, .int .i64 0] ∧ Ext w7 w' ∧ HonAt w7 w' t s (raw P) rho I rv nv cv qv) rfl ((hopen w7 E17).mono fun e w' ⟨rv, nv, cv, qv, h1, h2⟩ => ⟨_, h1, rv, nv, cv, qv, rfl, h2⟩) ?_
  rintro _ w8 ⟨rv, nv, cv, qv, rfl, E8, hHon⟩
  obtain ⟨k1, k2, k3, k4⟩ := hHon.cells
  (refine Ls (X_move (v := .tuple _) rfl) ?_; refine Ls (X_extract rfl rfl) ?_; refine Ls (X_extract rfl rfl) ?_)
  refine L_alloc ?_
  intro g10 w9 B10 hg10 E9 hs9
  refine L_storeW (size := 4) (l := pxC rv nv cv qv) rfl rfl rfl (pxC_cell k1 k2 k3 k4) B10 rfl ?_
  intro w10 B10 hg10' hs10
  have hz8 := E8.size
  have E710 : Ext w7 w10 := (E8.trans E9).then hg10' (fun g h => by cases h; omega)
  have hHon := hHon.new E9 hg10' (by omega)
  have E410 := E47.trans E710
  have E110 := E14.trans E410
  have C5 := C5.ext E410
  have C6 := C6.ext E410
  have C7 := B7.ext E410
  have B8 := B8.ext E710
  have h6l := B6.lt
  have h5l := B5.lt
  have h7l := B7.lt
  have hz4 := E4.size
  have hz47 := E47.size
  have hz710 := E710.size
  have hz5 := E5.size
  have hz12 := (E1.trans E2).size
  have hz1 := E1.size
  have hz14 := E14.size
  have h65 : g6 ≠ g5 := by omega
  have h68 : g6 ≠ g8 := by omega
  have h610 : g6 ≠ g10 := by omega
  have hrowA : ∀ y, w10.grownBy y (some g6) → Ext w y := fun y hg => E110.then hg (fun g h => by cases h; omega)
  have htR : t.length = s.R * s.C := by rw [Cm.Sh.RC, ht]
  have hVe : Value.agg (xc V).toArray = .agg (exC V.a.val V.b.val).toArray := rfl
  (refine Ls (X_assign (v := .int _ _) rfl) ?_; refine L_nil ?_; refine tn ?_; refine W_seq ?_)
  apply W_dagR (R := RB g6 43 _ (ints .u8 rt)) (AB g6 43 _ (ints .u8 rt) w10) 13 (by kernel_rfl) (RB.refl _ _ _ _) (AB.new C6) AB.step
  (apply DW_x (fun r w hA hH => (X_ldW (cs := ints .u8 rt) rfl (B8.grown hA.1 (by simp; omega)) (by rw [ints_len]; exact hrl)).trans rfl); apply DW_x (fun r w hA hH => (X_ldW (cs := waC pv rho iv) rfl (C5.grown hA.1 (by simp; omega)) rfl).trans rfl); apply DW_x (fun r w hA hH => (X_move (v := .slice _ _ _) rfl).trans rfl); apply DW_x (fun r w hA hH => (X_lenSlice rfl).trans rfl))
  ((with_reducible apply DW_fn); (exact fun _ => rfl); (exact fun _ => rfl); (exact fun r w hA hH => r11log (a := s.a + s.c) hac ht w))
  (apply DW_x (fun r w hA hH => (X_move (v := .slice _ _ _) rfl).trans rfl))
  ((with_reducible apply DW_fr (F := fun q w' => w'.ownsRow w10.heap.size 31 2 q t.length (exs (raw (t.map Fd.E.of))))); (exact fun _ => rfl); (exact fun r w hA hH => (r5lift lo hi (.slice A t.length c) t (by omega) w (hr.ext (hrowA w hA.1))).mono fun e w' ⟨q, h1, h2, h3⟩ => ⟨q, h1, ExtR.h _ _ _ h2, own_base h3 hA.1.size⟩); (exact fun i u w w' hi ht hR h => own_grown h hR.1 (fun g e => by cases e; omega)))
  (apply DW_x (fun r w hA hH => (X_fld rfl).trans rfl); apply DW_x (fun r w hA hH => (X_ld (cs := waC pv rho iv) rfl (C5.grown hA.1 (by simp; omega)) rfl).trans rfl))
  ((with_reducible apply DW_fn); (exact fun _ => rfl); (exact fun _ => rfl); (exact fun r w hA hH => (by
    have o : w.ownsRow w10.heap.size 31 2 (r 6) t.length (exs (raw (t.map Fd.E.of))) := hH 6 rfl
    have h := r5eval _ _ pl ph (r 6) pv (t.map Fd.E.of) P (by omega) (by rw [List.length_map]; omega) w ((Row.of_own o).re (by rw [List.length_map]) rfl) (hp.ext (hrowA w hA.1))
    rw [← hV] at h
    exact h)))
  (apply DW_x (fun r w hA hH => (X_ldW (cs := pxC rv nv cv qv) rfl (B10.grown hA.1 (by simp; omega)) rfl).trans rfl))
  ((with_reducible apply DW_x); (exact fun r w hA hH => (X_mkOp (v := (V.a.val, V.b.val)) rfl rfl rfl rfl).trans rfl))
  apply DW_store (fun _ => rfl) (fun _ => rfl) (by simp) (by rw [ints_len]; exact hrl) ints_cell
  ((with_reducible exact D_end); (exact rfl); (repeat (first | exact .inr (.inr (fun _ _ => by with_reducible rfl)) | (refine And.intro ?_ ?_) | exact .inr (.inl rfl) | exact .inl (by decide +kernel) | exact trivial | exact .inr (.inr (fun _ _ => rfl)))); (try dsimp only [Nat.reduceAdd]))
  intro r z G H
  have D6 : Blk z g6 43 (ints .u8 rt) := H 12
  have D7 := C7.grown G.1 (by simp; omega)
  refine L_storeW (size := 11) (l := vopC pv rho iv ((s.a + s.c : Nat) : Int) (V.a.val, V.b.val) rv nv cv qv) rfl rfl rfl (vopC_cell hpc hic k1 k2 k3 k4) D7 rfl ?_
  intro z2 D7' hgz hsz
  have D6' := D6.grown hgz (by simp; omega)
  (refine L_nil ?_; refine tn ?_; refine W_ret ?_)
  refine endQ_res rfl rfl (Res.cellA inferInstance rfl (D6'.range (fun j u h => by simpa using h)) (by rw [ints_len]; exact hrl) (Res.cellA inferInstance rfl (D7'.range (fun j u h => by simpa using h)) rfl .nil)) ?_
  have hHz := (hHon.grown G.1 (by omega)).grown hgz (by omega)
  exact ⟨rv, nv, cv, qv, rfl, (hrowA z G.1).then hgz (fun g h => by cases h; omega), hHz.base (by omega)⟩
end Go.Proofs.YtpohjepbmgeplaaGreatDoor

/- Commitments: the law's opened. -/
namespace Go.Proofs.K
open Go.RowKit
variable {P : Program} {n : NN} {Q : Exit → Fr → World → Prop} {f : Fr} {w : World} {ops : Array Oper} {rest : List Oper}
/-! a region that draws, some of whose operations store whole variables that were there before; (operation, block, type, size) -/
section
variable {st : List (Nat × Nat × TypeId × Nat)} {w0 : World}
variable {Fin : List Oper → (Rho → Fr) → (Rho → Nat → World → Prop) → Prop} {k : Nat} {E : List Ent} {g : Rho → Fr} {H : Rho → Nat → World → Prop} {t ty : TypeId} {pos : String} {af : Array Edge} {x y : Operand}
end
end Go.Proofs.K
namespace Go.Proofs.YtpohjepbmgeplaaGreatDoor
open Go.RowKit Go.Proofs.K
open _root_.Fd (K E pw root trow tcol enc ccol comb combR)
open _root_.Cm (Sh pws pwE rowH rndH colsH pathH lv)

end Go.Proofs.YtpohjepbmgeplaaGreatDoor

/- Commitments: sums of numbers that need not be elements: the reference's; opened values by raw data. -/
namespace Go.Proofs.YtpohjepbmgeplaaGreatDoor
open Go.RowKit Go.Proofs.K
open _root_.Fd (K E pw root trow tcol enc ccol comb combR)
open _root_.Cm (Sh pws pwE rowH rndH colsH pathH lv)

/-- an opened value, in memory, by its raw data: what a verification needs -/
structure OpnAt (w : World) (pv iv rv nv cv qv : Value) (P : List E) (rho : Nat × Nat) (I : List Int) (log : Int) (v : Nat × Nat) (RW RD : List E) (CL ns : List (List Nat)) : Prop where
  p : RowN (fun _ => True) w 2 pv P.length (exs (raw P))
  i : RowN (fun _ => True) w 1 iv I.length (I.map (Value.int .i64))
  r : RowN (fun _ => True) w 2 rv RW.length (exs (raw RW))
  n : RowN (fun _ => True) w 2 nv RD.length (exs (raw RD))
  c : PartN (fun _ => True) w .u64 cv CL
  q : RowN (fun _ => True) w 32 qv ns.length (dgs ns)
  pl : P.length ≤ 1000000
  il : I.length ≤ 1000000
  rl : RW.length ≤ 1000000
  nl : RD.length ≤ 1000000
  cl : CL.length ≤ 1000000
  ccl : ∀ c ∈ CL, c.length ≤ 1000000
  cv8 : ∀ c ∈ CL, ∀ x ∈ c, x < Fd.pr
  qk : DgOk ns
  ql : ns.length ≤ 1000000
  lg : I64 log
  v8 : v.1 < 18446744073709551616 ∧ v.2 < 18446744073709551616
  i8 : ∀ x ∈ I, I64 x
theorem OpnAt.ext {w w' : World} {pv iv rv nv cv qv : Value} {P : List E} {rho : Nat × Nat} {I : List Int} {log : Int} {v : Nat × Nat} {RW RD : List E} {CL ns : List (List Nat)} (h : OpnAt w pv iv rv nv cv qv P rho I log v RW RD CL ns) (E : Ext w w') : OpnAt w' pv iv rv nv cv qv P rho I log v RW RD CL ns :=
  { h with p := h.p.ext E, i := h.i.ext E, r := h.r.ext E, n := h.n.ext E, c := h.c.ext E, q := h.q.ext E }
end Go.Proofs.YtpohjepbmgeplaaGreatDoor

/- Commitments: the fixed example, plain. -/
namespace Go.Proofs.YtpohjepbmgeplaaGreatDoor
open Go.RowKit Go.Proofs.K
open _root_.Fd (K E pw root trow tcol enc ccol comb combR)
open _root_.Cm (Sh pws pwE rowH rndH colsH pathH lv)

def s0 : Sh := ⟨1, 1, 1, 1⟩
def t0 : List K := [1, 2, 3, 4]
def P0 : List E := [E.of (Fd.k 2), E.of (Fd.k 3)]
def rho0 : E := E.of (Fd.k 10)
theorem s0_ok : s0.Ok := ⟨by decide, by decide, by decide, by decide, by decide, by decide, by decide⟩
set_option maxRecDepth 100000 in
theorem row0 : raw (rowH t0 s0 P0) = [(7, 0), (8, 0)] := by decide +kernel
set_option maxRecDepth 100000 in
theorem rnd0 : raw (rndH t0 s0 rho0) = [(31, 0), (42, 0)] := by decide +kernel
set_option maxRecDepth 100000 in
theorem cols0 : (colsH t0 s0 [0]).map vals = [[3, 7]] := by decide +kernel
set_option maxRecDepth 100000 in
theorem cws0 : ((cws t0 s0).map fun l => l.getD 0 0) = [3, 7] := by
  show [(Fd.sym (trow t0 s0.C 0) 2 0).val, (Fd.sym (trow t0 s0.C 1) 2 0).val] = [3, 7]
  decide +kernel
set_option maxRecDepth 100000 in
theorem val0 : Fd.mleS (t0.map E.of) P0 = E.of (Fd.k 9) := by decide +kernel
theorem sym0 : (Fd.sym (trow t0 s0.C 0) 2 2).val = 18446744069414584320 := by
  unfold Fd.sym
  rw [show pw (root 2) 2 = -1 from Fd.root_half (j := 1) (by decide)]
  decide +kernel
theorem root2 : root 2 = (281474976710656 : K) := by
  have h : root 2 = 1 * pw 7 ((Fd.pr - 1) / 2 ^ 2) := (Fd.one_mul' _).symm
  rw [h, ← Fd.pwB_eq 64 1 7 _ (by decide)]
  decide +kernel
theorem lv0 : lv by8 t0 s0 = (List.range 4).map fun j => by8 ((List.range 2).map fun r => Fd.evK (trow t0 2 r) (pw (281474976710656 : K) j)) := by
  have h : lv by8 t0 s0 = (List.range 4).map fun j => by8 ((List.range 2).map fun r => Fd.evK (trow t0 2 r) (pw (root 2) j)) := rfl
  rw [root2] at h
  exact h
set_option maxRecDepth 1000000 in
theorem root0 : Cm.rt lf nd by8 t0 s0 ≠ List.replicate 32 0 := by
  unfold Cm.rt
  rw [lv0]
  decide +kernel
end Go.Proofs.YtpohjepbmgeplaaGreatDoor

/- Commitments: verifications of data that are elements. -/
namespace Go.Proofs.YtpohjepbmgeplaaGreatDoor
open Go.RowKit Go.Proofs.K
open _root_.Fd (K E pw root trow tcol enc ccol comb combR)
open _root_.Cm (Sh pws pwE rowH rndH colsH pathH lv)

theorem toE_of (e : E) : toE (e.a.val, e.b.val) = e := by
  unfold toE
  rw [Fd.val_k, Fd.val_k]
theorem toE_raw (P : List E) : (raw P).map toE = P := by
  unfold raw
  rw [List.map_map]
  conv => rhs; rw [← List.map_id P]
  exact List.map_congr_left fun e _ => toE_of e
theorem k_vals (c : List K) : (vals c).map Fd.k = c := by
  unfold vals
  rw [List.map_map]
  conv => rhs; rw [← List.map_id c]
  exact List.map_congr_left fun x _ => Fd.val_k x
theorem verZ_E (s : Sh) (rt : List Nat) (P : List E) (rho : E) (I : List Int) (v : E) (RW RD : List E) (cols : List (List K)) (ns : List (List Nat)) :
    verZ s rt (raw P) (rho.a.val, rho.b.val) I (v.a.val, v.b.val) (raw RW) (raw RD) (cols.map vals) ns = Cm.verC lf nd by8 s rt (toI I) P rho v RW RD cols ns := by
  unfold verZ
  rw [toE_raw, toE_raw, toE_raw, toE_of, toE_of, List.map_map]
  have : (cols.map ((fun c => c.map Fd.k) ∘ vals)) = cols := by
    conv => rhs; rw [← List.map_id cols]
    exact List.map_congr_left fun c _ => k_vals c
  rw [this]
/-- another root -/
theorem ver_other (t : List K) (s : Sh) {I : List Nat} (hI : ∀ i ∈ I, i < s.n) (hp : I.Pairwise (· < ·)) (P : List E) (rho v : E) (row rnd : List E) (r : List Nat) (hr : Cm.rt lf nd by8 t s ≠ r) :
    Cm.verC lf nd by8 s r I P rho v row rnd (colsH t s I) (pathH lf nd by8 t s I) = 80 := by
  unfold Cm.verC
  rw [if_neg]
  intro h
  have h2 := Cm.path_honest lf nd by8 t s hI hp
  exact hr (h2.2.symm.trans h.2)
theorem i0_in : ∀ i ∈ [0], i < s0.n := fun i h => by rw [List.mem_singleton.1 h]; decide
theorem i0_srt : ([0] : List Nat).Pairwise (· < ·) := by simp
theorem ver0 (v : E) : Cm.verC lf nd by8 s0 (Cm.rt lf nd by8 t0 s0) [0] P0 rho0 v (rowH t0 s0 P0) (rndH t0 s0 rho0) (colsH t0 s0 [0]) (pathH lf nd by8 t0 s0 [0]) = if E.of (Fd.k 9) = v then 0 else 111 := by
  rw [Cm.ver_complete lf nd by8 t0 s0 i0_in i0_srt (P := P0) rfl rfl, val0]
set_option maxRecDepth 100000 in
theorem bad0 : ¬ Cm.colOk s0 [0] P0 rho0 [E.of (Fd.k 7), E.of (Fd.k 9)] (rndH t0 s0 rho0) (colsH t0 s0 [0]) := by
  intro h
  have := (h 0 (by decide)).1
  revert this
  decide +kernel
theorem ver0_bad (v : E) : Cm.verC lf nd by8 s0 (Cm.rt lf nd by8 t0 s0) [0] P0 rho0 v [E.of (Fd.k 7), E.of (Fd.k 9)] (rndH t0 s0 rho0) (colsH t0 s0 [0]) (pathH lf nd by8 t0 s0 [0]) = 110 := by
  rw [Cm.ver_honest lf nd by8 t0 s0 i0_in i0_srt, if_neg bad0]
theorem ver0_zero (v : E) : Cm.verC lf nd by8 s0 (List.replicate 32 0) [0] P0 rho0 v (rowH t0 s0 P0) (rndH t0 s0 rho0) (colsH t0 s0 [0]) (pathH lf nd by8 t0 s0 [0]) = 80 :=
  ver_other t0 s0 i0_in i0_srt _ _ _ _ _ _ root0
end Go.Proofs.YtpohjepbmgeplaaGreatDoor

/- Commitments: opened values that an opening gives; verifications at them. -/
namespace Go.Proofs.YtpohjepbmgeplaaGreatDoor
open Go.RowKit Go.Proofs.K
open _root_.Fd (K E pw root trow tcol enc ccol comb combR)
open _root_.Cm (Sh pws pwE rowH rndH colsH pathH lv)

theorem isE_raw (P : List E) : ∀ x ∈ raw P, isE x := fun x hx => by
  obtain ⟨e, _, rfl⟩ := List.mem_map.1 hx
  exact ⟨e.a.isLt, e.b.isLt⟩
theorem path_ok {s : Sh} (hs : s.Ok) (t : List K) (I : List Nat) : DgOk (pathH lf nd by8 t s I) ∧ (pathH lf nd by8 t s I).length ≤ 65536 := by
  have hn1 : 0 < s.n := Nat.pow_pos (by decide)
  have hn16 : s.n ≤ 65536 := (pow_le16 hs.cb).2
  have hll : (lv by8 t s).length = s.n := Cm.lv_len by8 t s
  constructor
  · refine opening_ok _ (by rw [hll]; exact hn1) fun p hp => ?_
    have h := (Mk.cls_in (s.n + 1) 0 s.n I (by omega) hn1 p (by rw [hll] at hp; exact hp)).2
    rw [hll]; exact h
  · show (Mk.opening lf nd (lv by8 t s) I).length ≤ 65536
    unfold Mk.opening
    rw [List.length_map, hll]
    exact cls_count _ _ hn1 hn16
theorem rt_ok (t : List K) (s : Sh) : (Cm.rt lf nd by8 t s).length = 32 ∧ Sha.bytesOk (Cm.rt lf nd by8 t s) :=
  tree_len ((lv by8 t s).map lf) (hash_ok _) (by rw [List.length_map, Cm.lv_len]; exact Nat.pow_pos (by decide))
/-- an opening that a table gives, as an opened value -/
theorem opn_of {s : Sh} (hs : s.Ok) {t : List K} {P : List E} {rho : Nat × Nat} {I : List Int} (hpos : PosOk s (raw P) rho I) {w0 w : World} {pv iv rv nv cv qv : Value} (h : HonAt w0 w t s (raw P) rho I rv nv cv qv)
    (hp : RowN (fun _ => True) w 2 pv P.length (exs (raw P))) (hi : RowN (fun _ => True) w 1 iv I.length (I.map (Value.int .i64))) {log : Int} (hl : I64 log) {v : Nat × Nat} (hv : v.1 < 18446744073709551616 ∧ v.2 < 18446744073709551616) :
    OpnAt w pv iv rv nv cv qv P rho I log v (rowH t s P) (rndH t s (toE rho)) ((colsH t s (toI I)).map vals) (pathH lf nd by8 t s (toI I)) := by
  obtain ⟨h1, h2, h3, h4⟩ := h
  rw [toE_raw] at h1
  have hC : s.C ≤ 65536 := (pow_le16 (a := s.c) (by have := hs.ac; omega)).2
  have hR : s.R ≤ 65536 := (pow_le16 (a := s.a) (by have := hs.ac; omega)).2
  have hrl : (rowH t s P).length = s.C := Fd.combR_len _ _ _ _
  have hnl : (rndH t s (toE rho)).length = s.C := Fd.combR_len _ _ _ _
  have hpl := hpos.p
  have hil := hpos.i
  have hac := hs.ac
  have ht := hs.t64
  rw [raw_len] at hpl
  refine ⟨hp, hi, ?_, ?_, h3.mono fun _ _ => trivial, RowN.ofAny (Row.of_own h4), by omega, by omega, by omega, by omega, ?_, ?_, ?_, (path_ok hs t _).1, by have := (path_ok hs t (toI I)).2; omega, hl, hv, ?_⟩
  · exact (RowN.ofAny (Row.of_own h1)).re hrl.symm rfl
  · exact (RowN.ofAny (Row.of_own h2)).re hnl.symm rfl
  · rw [List.length_map]
    show ((toI I).map _).length ≤ _
    rw [List.length_map, toI_len]; omega
  · intro c hc
    obtain ⟨x, hx, rfl⟩ := List.mem_map.1 hc
    obtain ⟨j, _, rfl⟩ := List.mem_map.1 hx
    rw [vals_len, Fd.ccol_len]; omega
  · intro c hc x hx
    obtain ⟨y, _, rfl⟩ := List.mem_map.1 hc
    obtain ⟨z, _, rfl⟩ := List.mem_map.1 hx
    exact z.isLt
  · intro x hx
    have := hpos.ix x hx
    have hn16 : s.n ≤ 65536 := (pow_le16 hs.cb).2
    exact ⟨by omega, by omega⟩
/-- its shape -/
theorem shp_of (t : List K) (s : Sh) (P : List E) (rho : E) {I : List Int} (hI : I.length = s.t) : ShpOk s (raw (rowH t s P)) (raw (rndH t s rho)) ((colsH t s (toI I)).map vals) := by
  refine ⟨by rw [raw_len]; exact Fd.combR_len _ _ _ _, by rw [raw_len]; exact Fd.combR_len _ _ _ _, ?_, isE_raw _, isE_raw _, fun c hc => ?_⟩
  · rw [List.length_map]
    show ((toI I).map _).length = _
    rw [List.length_map, toI_len, hI]
  · obtain ⟨x, hx, rfl⟩ := List.mem_map.1 hc
    obtain ⟨j, _, rfl⟩ := List.mem_map.1 hx
    refine ⟨by rw [vals_len, Fd.ccol_len], fun y hy => ?_⟩
    obtain ⟨z, _, rfl⟩ := List.mem_map.1 hy
    exact z.isLt
section
variable {s : Sh} (hs : s.Ok) {rt : List Nat} (hrt : rt.length = 32 ∧ Sha.bytesOk rt) {pv iv rv nv cv qv : Value} {P : List E} {rho : Nat × Nat} {I : List Int} {log : Int} {v : Nat × Nat} {RW RD : List E} {CL ns : List (List Nat)} {w : World} (hw : Tb w) (h : OpnAt w pv iv rv nv cv qv P rho I log v RW RD CL ns)
include hs hrt hw h
theorem gver_ok (hV : VArg (s.R : Nat) (s.C : Nat) (s.B : Nat) (s.t : Nat) log (raw P) rho I v (raw RW) (raw RD) CL s) :
    Calls Tryz.prog 24 #[.agg (ints .u8 rt).toArray, .agg (shC (s.R : Nat) (s.C : Nat) (s.B : Nat) (s.t : Nat)).toArray, .agg (vopC pv rho iv log v rv nv cv qv).toArray] w fun e w' => e = .returned (.int .i64 (verZ s rt (raw P) rho I v (raw RW) (raw RD) CL ns : Nat)) ∧ Ext w w' := by
  obtain ⟨i1, i2, i3, i4⟩ := sI hs
  obtain ⟨⟨_, _, _, p⟩, ⟨_, _, _, i⟩, ⟨_, _, _, a⟩, ⟨_, _, _, b⟩, c, q, pl, il, rl, nl, cl, ccl, cv8, qk, ql, lg, v8, i8⟩ := h
  refine (gcverify rt hrt.1 hrt.2 _ _ _ _ log i1 i2 i3 i4 lg _ _ _ _ _ _ _ _ pv iv rv nv cv qv (raw P) rho I v (raw RW) (raw RD) CL ns (by rw [raw_len]; exact pl) il (by rw [raw_len]; exact rl) (by rw [raw_len]; exact nl) cl ccl qk ql w hw (p.re (raw_len P).symm rfl) i (a.re (raw_len RW).symm rfl) (b.re (raw_len RD).symm rfl) c q).mono fun e w' ⟨r', h1, h2, h3⟩ => ⟨?_, h2⟩
  rcases h3 with ⟨s2, h4, rfl⟩ | ⟨h4, _⟩
  · have e : s2 = s := by rw [← sh_inj h4.r h4.c h4.b h4.t]
    rw [h1, e]
  · exact (h4 ⟨s, hV⟩).elim
theorem gver_no (hV : ¬ ∃ s', VArg (s.R : Nat) (s.C : Nat) (s.B : Nat) (s.t : Nat) log (raw P) rho I v (raw RW) (raw RD) CL s') :
    Calls Tryz.prog 24 #[.agg (ints .u8 rt).toArray, .agg (shC (s.R : Nat) (s.C : Nat) (s.B : Nat) (s.t : Nat)).toArray, .agg (vopC pv rho iv log v rv nv cv qv).toArray] w fun e w' => e = .returned (.int .i64 1) ∧ Ext w w' := by
  obtain ⟨i1, i2, i3, i4⟩ := sI hs
  obtain ⟨⟨_, _, _, p⟩, ⟨_, _, _, i⟩, ⟨_, _, _, a⟩, ⟨_, _, _, b⟩, c, q, pl, il, rl, nl, cl, ccl, cv8, qk, ql, lg, v8, i8⟩ := h
  refine (gcverify rt hrt.1 hrt.2 _ _ _ _ log i1 i2 i3 i4 lg _ _ _ _ _ _ _ _ pv iv rv nv cv qv (raw P) rho I v (raw RW) (raw RD) CL ns (by rw [raw_len]; exact pl) il (by rw [raw_len]; exact rl) (by rw [raw_len]; exact nl) cl ccl qk ql w hw (p.re (raw_len P).symm rfl) i (a.re (raw_len RW).symm rfl) (b.re (raw_len RD).symm rfl) c q).mono fun e w' ⟨r', h1, h2, h3⟩ => ⟨?_, h2⟩
  rcases h3 with ⟨s2, h4, rfl⟩ | ⟨_, rfl⟩
  · exact (hV ⟨s2, h4⟩).elim
  · exact h1
end
instance : TEq Tryz.prog 28 := ⟨by kernel_rfl, by kernel_rfl, .inl ⟨_, Tryz.underlying28⟩⟩
theorem X_eqlShT {n : NN} {f : Fr} {w : World} {d : Option Tmp} {t : TypeId} {pos : String} {af : Array Edge} {g : Option (Nat × Bool)} {x y : Operand} {a b c e : Int} {l : List Lit} (hl : Tryz.prog.keyLits 5 28 (shC a b c e) = some l) (hx : ev n f x = .agg (shC a b c e).toArray) (hy : ev n f y = .agg (shC a b c e).toArray) :
    X Tryz.prog n ⟨d, .binOp .eql 28 x y 28, t, pos, af, g⟩ f w = .ok (.value (.bool true)) w :=
  X_eqlK hx hy (by kernel_rfl) (by kernel_rfl) hl hl (by simp)
theorem kl5 : Tryz.prog.keyLits 5 28 (shC 4 8 4 16) = some [.int .i64 4, .int .i64 8, .int .i64 4, .int .i64 16] := by kernel_rfl
theorem kl0 : Tryz.prog.keyLits 5 28 (shC 1 1 4 4) = some [.int .i64 1, .int .i64 1, .int .i64 4, .int .i64 4] := by kernel_rfl
theorem klz : Tryz.prog.keyLits 5 28 (shC 0 0 0 0) = some [.int .i64 0, .int .i64 0, .int .i64 0, .int .i64 0] := by kernel_rfl
theorem gdef5 (w : World) : Calls Tryz.prog 40 #[.int .i64 5] w fun e w' => e = .returned (.agg (shC 4 8 4 16).toArray) ∧ Ext w w' := gdefault1 5 (by decide) w
theorem gdef0 (w : World) : Calls Tryz.prog 40 #[.int .i64 0] w fun e w' => e = .returned (.agg (shC 1 1 4 4).toArray) ∧ Ext w w' := gdefault1 0 (by decide) w
theorem cws_get (t : List K) (s : Sh) {r j : Nat} (hr : r < s.R) (hj : j < 2 ^ (s.c + s.b)) : ((cws t s).getD r []).getD j 0 = (Fd.sym (trow t s.C r) (s.c + s.b) j).val := by
  unfold cws
  rw [Fd.rng_getD _ _ hr]
  unfold vals
  rw [List.getD_eq_getElem?_getD, List.getElem?_map, Fd.enc_get _ hj]; rfl
theorem cwA : ((cws t0 s0).getD 0 []).getD 2 0 = 18446744069414584320 := (cws_get t0 s0 (by decide) (by decide)).trans sym0
/-- a literal of two values, inside a region that draws -/
theorem X_lit2D {n : NN} {f : Fr} {w w0 : World} {d : Option Tmp} {t ty e : TypeId} {pos : String} {af : Array Edge} {g : Option (Nat × Bool)} {x y : Operand} {z0 u v : Value} [TSlice Tryz.prog ty e] [TZero Tryz.prog e [z0]] (hx : ev n f x = u) (hy : ev n f y = v) (h1 : u.oneCell' = true) (h2 : v.oneCell' = true) (h0 : w0.heap.size ≤ w.heap.size) :
    ∃ q w', X Tryz.prog n ⟨d, .buildSlice ty 2 #[(0, x), (1, y)], t, pos, af, g⟩ f w = .ok (.value q) w' ∧ Ext w w' ∧ RowF w0 1 q 2 [u, v] w' := by
  have c1 : u.cells = [u].toArray := by cases u <;> first | rfl | cases h1
  have c2 : v.cells = [v].toArray := by cases v <;> first | rfl | cases h2
  exact ⟨_, _, X_lits (z := [z0]) (len := 2) (r := [(0, x), (1, y)]) (zs' := [[u], [v]]) (cs := [u, v]) (Parts.cons (c := [u]) (z := [z0]) hx c1 rfl rfl (Parts.cons (c := [v]) (z := [z0]) hy c2 rfl rfl (Parts.nil _))) rfl rfl, grown_alloc _ _, _, _, h0, Row.lit w e 1 2 _ rfl (by decide)⟩
theorem X_mkDig0 {n : NN} {f : Fr} {w : World} {d : Option Tmp} {t : TypeId} {pos : String} {af : Array Edge} {g : Option (Nat × Bool)} :
    X Tryz.prog n ⟨d, .build 43 #[], t, pos, af, g⟩ f w = .ok (.value (.agg (ints .u8 (List.replicate 32 0)).toArray)) w := by
  have := X_buildArr (P := Tryz.prog) (ty := 43) (len := 32) (z := [.int .u8 0]) (n := n) (f := f) (w := w) (d := d) (t := t) (pos := pos) (af := af) (g := g) (zs' := List.replicate 32 [.int .u8 0]) (r := []) (Parts.nil _)
  simpa [ints] using this
end Go.Proofs.YtpohjepbmgeplaaGreatDoor
