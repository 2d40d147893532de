/- SL, L0, KZ, M0, M1, L9, L10, L6i. -/
import Derived.Test.YtemodkjmdalmlaaDoorQ4
import Derived.Test.YtemodkjmdalmlaaDoorQ3
import Derived.ProofKit
import Derived.OpenShut
import Derived.Deep.DeepHandedRow
import Derived.Deep.SlicePairs
import Derived.Lib.LaidTab
import Derived.WideKeyArgs
import Derived.Test.YtemodkjmdalmlaaDoorCards
import Derived.Test.YtemodkjmdalmlaaDoorTie
/- The law package's sanity. -/
namespace Go.Proofs.YtemodkjmdalmlaaDoor
open Go.RowKit Go.Proofs.K

section
variable {n : NN} {f : Fr} {w : World} {d : Option Tmp} {t : TypeId} {pos : String} {af : Array Edge} {g : Option (Nat × Bool)} {x y : Operand}
theorem X_eqlDT {a b : List Nat} (h : a = b) (ha : a.length = 32) (ha8 : ∀ x ∈ a, x < 256) (hx : ev n f x = .agg (ints .u8 a).toArray) (hy : ev n f y = .agg (ints .u8 b).toArray) :
    X Tryd.prog n ⟨d, .binOp .eql 32 x y 32, t, pos, af, g⟩ f w = .ok (.value (.bool true)) w := by
  subst h; rw [X_eqlD ha ha ha8 ha8 hx hy]; simp
theorem X_neqDT {a b : List Nat} (h : a ≠ b) (ha : a.length = 32) (hb : b.length = 32) (ha8 : ∀ x ∈ a, x < 256) (hb8 : ∀ x ∈ b, x < 256) (hx : ev n f x = .agg (ints .u8 a).toArray) (hy : ev n f y = .agg (ints .u8 b).toArray) :
    X Tryd.prog n ⟨d, .binOp .neq 32 x y 32, t, pos, af, g⟩ f w = .ok (.value (.bool true)) w := by
  rw [X_neqD ha hb ha8 hb8 hx hy, decide_eq_true h]
theorem X_eqlTrT {s u : List Nat} {c e : Nat} (h : s = u ∧ c = e) (hs : s.length = 32) (hs8 : ∀ x ∈ s, x < 256) (hc : c < 18446744073709551616) (hx : ev n f x = .agg (trC s c).toArray) (hy : ev n f y = .agg (trC u e).toArray) :
    X Tryd.prog n ⟨d, .binOp .eql 34 x y 34, t, pos, af, g⟩ f w = .ok (.value (.bool true)) w := by
  obtain ⟨rfl, rfl⟩ := h
  rw [X_eqlTr hs hs hs8 hs8 hc hc hx hy]; simp
theorem X_neqExT {a b a' b' : Nat} (h : ¬ (a = a' ∧ b = b')) (ha : a < 18446744073709551616) (hb : b < 18446744073709551616) (ha' : a' < 18446744073709551616) (hb' : b' < 18446744073709551616) (hx : ev n f x = .agg (exC a b).toArray) (hy : ev n f y = .agg (exC a' b').toArray) :
    X Tryd.prog n ⟨d, .binOp .neq 46 x y 46, t, pos, af, g⟩ f w = .ok (.value (.bool true)) w := by
  rw [X_neqEx ha hb ha' hb' hx hy, decide_eq_true h]
theorem X_mkDraw {a b : Int} (hx : ev n f x = .int .i64 a) (hy : ev n f y = .int .i64 b) :
    X Tryd.prog n ⟨d, .build 29 #[(0, x), (1, y)], t, pos, af, g⟩ f w = .ok (.value (.agg [.int .i64 a, .int .i64 b].toArray)) w := by
  have := X_build (P := Tryd.prog) (ty := 29) (n := n) (f := f) (w := w) (d := d) (t := t) (pos := pos) (af := af) (g := g) (Parts.cons (i := 0) (c := [.int .i64 a]) (z := [.int .i64 0]) hx rfl rfl rfl (Parts.cons (i := 1) (c := [.int .i64 b]) (z := [.int .i64 0]) hy rfl rfl rfl (Parts.nil _)))
  simpa using this
theorem X_mkDraw1 {a : Int} (hx : ev n f x = .int .i64 a) :
    X Tryd.prog n ⟨d, .build 29 #[(0, x)], t, pos, af, g⟩ f w = .ok (.value (.agg [.int .i64 a, .int .i64 0].toArray)) w := by
  have := X_build (P := Tryd.prog) (ty := 29) (n := n) (f := f) (w := w) (d := d) (t := t) (pos := pos) (af := af) (g := g) (Parts.cons (i := 0) (c := [.int .i64 a]) (z := [.int .i64 0]) hx rfl rfl rfl (Parts.nil _))
  simpa using this
end

theorem gchallenge2 (s : List Nat) (c : Nat) (hs : s.length = 32) (hs8 : ∀ x ∈ s, x < 256) (lab : ByteArray) (hl : lab.size ≤ 100000000) (w : World) (hw : Tabs w) :
    Calls Tryd.prog 21 #[.agg (trC s c).toArray, .string lab] w fun e w' => ∃ A B, e = .returned (.tuple #[.agg (trC s ((c + 1) % 18446744073709551616)).toArray, .agg (exC A B).toArray]) ∧ Ext w w' ∧ A = Tr.valAt (Tr.output s c 2 (sb lab)) 0 % Tr.pr ∧ B = Tr.valAt (Tr.output s c 2 (sb lab)) 8 % Tr.pr :=
  (gchallenge s c hs hs8 lab hl w hw).mono fun _ _ h => ⟨_, _, h.1, h.2, rfl, rfl⟩
theorem pr_lt (x : Nat) : x % Tr.pr < 18446744073709551616 := by have := Nat.mod_lt x (show 0 < Tr.pr by unfold Tr.pr; omega); unfold Tr.pr at *; omega
/-- the examples' state, with what is known of it -/
theorem T0_facts : ∃ T : List Nat, Tr.new (sb ⟨#[]⟩) = T ∧ T.length = 32 ∧ (∀ x ∈ T, x < 256) ∧ strB (hexOf T) = ⟨#[100, 52, 49, 102, 51, 55, 98, 51, 50, 49, 48, 98, 51, 57, 53, 100, 98, 48, 51, 50, 57, 57, 98, 100, 53, 51, 55, 52, 100, 97, 51, 53, 56, 98, 100, 51, 98, 51, 51, 99, 100, 100, 100, 98, 48, 100, 100, 99, 55, 57, 50, 50, 52, 55, 49, 56, 56, 52, 101, 49, 97, 53, 101, 98]⟩ ∧
    Tr.absorb T (sb ⟨#[109]⟩) [7] ≠ T ∧ ¬ (Tr.valAt (Tr.output T 0 2 (sb ⟨#[97]⟩)) 0 % Tr.pr = Tr.valAt (Tr.output T ((0 + 1) % 18446744073709551616) 2 (sb ⟨#[97]⟩)) 0 % Tr.pr ∧ Tr.valAt (Tr.output T 0 2 (sb ⟨#[97]⟩)) 8 % Tr.pr = Tr.valAt (Tr.output T ((0 + 1) % 18446744073709551616) 2 (sb ⟨#[97]⟩)) 8 % Tr.pr) :=
  ⟨Tr.T0, Tr.new0, Tr.T0_len, Tr.T0_lt, Tr.hex0, Tr.abs0, Tr.chal0⟩
set_option maxRecDepth 100000 in
set_option maxHeartbeats 8000000 in
theorem lsanity (w : World) (hw : Tabs w) : Calls Tryd.prog 11 #[] w fun e w' => e = .returned (.bool true) ∧ Ext w w' := by
  refine calls_W Tryd.func11 rfl Tryd.ntmps11 rfl ?_
  (refine W_seq ?_; refine W_region ?_; refine Ls (X_assign (v := .bool _) rfl) ?_; refine L_nil ?_; refine tn ?_; refine W_seq ?_; refine W_region ?_)
  refine L_fv rfl (gnew ⟨#[]⟩ (by decide) w hw) ?_
  intro w1 E1
  obtain ⟨T0, hT0, hTl, hT8, hThex, hTabs, hTch⟩ := T0_facts
  rw [hT0]
  refine L_alloc ?_
  intro g1 w2 B1 hg1 E2 hs2
  refine L_storeW (l := trC T0 0) (size := 33) rfl rfl (trC_len hTl) trC_cell B1 rfl ?_
  intro w3 C1 hgr3 hs3
  have Ea : Ext w w3 := (E1.trans E2).then hgr3 (fun g h => by cases h; have := E1.size; omega)
  clear B1 E1 E2 hgr3
  -- Limit 4, Count 4
  (refine L_nil ?_; refine tn ?_; refine W_seq ?_; refine W_region ?_; refine Ls (X_ldW rfl C1 (trC_len hTl)) ?_)
  refine Ls (X_mkDraw rfl rfl) ?_
  refine L_fn (gindices T0 0 hTl hT8 (by omega) ⟨#[120]⟩ (by decide) 4 4 w3 (hw.ext Ea)) rfl ?_
  rintro e w4 ⟨c1, r1, q1, rfl, E4, i1, x1⟩
  refine ⟨_, rfl, ?_⟩
  (refine Ls (X_move (v := .tuple _) rfl) ?_; refine Ls (X_extract rfl rfl) ?_; refine Ls (X_extract rfl rfl) ?_)
  refine L_alloc ?_
  intro g2 w5 B2 hg2 E5 hs5
  refine L_storeW (l := trC T0 c1) (size := 33) rfl rfl (trC_len hTl) trC_cell B2 rfl ?_
  intro w6 C2 hgr6 hs6
  have Eb : Ext w3 w6 := (E4.trans E5).then hgr6 (fun g h => by cases h; have := E4.size; omega)
  have F1 := i1.ext (E5.then hgr6 (fun g h => by cases h; omega))
  clear B2 hgr6
  -- Limit 4, Count 5
  (refine Ls (X_assign (v := q1) rfl) ?_; refine L_nil ?_; refine tn ?_; refine W_seq ?_; refine W_region ?_; refine Ls (X_ldW rfl (C1.ext Eb) (trC_len hTl)) ?_)
  refine Ls (X_mkDraw rfl rfl) ?_
  refine L_fn (gindices T0 0 hTl hT8 (by omega) ⟨#[120]⟩ (by decide) 4 5 w6 (hw.ext (Ea.trans Eb))) rfl ?_
  rintro e w7 ⟨c2, r2, q2, rfl, E7, i2, x2⟩
  refine ⟨_, rfl, ?_⟩
  (refine Ls (X_move (v := .tuple _) rfl) ?_; refine Ls (X_extract rfl rfl) ?_; refine Ls (X_extract rfl rfl) ?_)
  refine L_alloc ?_
  intro g4 w8 B4 hg4 E8 hs8
  refine L_storeW (l := trC T0 c2) (size := 33) rfl rfl (trC_len hTl) trC_cell B4 rfl ?_
  intro w9 C4 hgr9 hs9
  have Ec : Ext w6 w9 := (E7.trans E8).then hgr9 (fun g h => by cases h; have := E7.size; omega)
  have F2 := i2.ext (E8.then hgr9 (fun g h => by cases h; omega))
  clear B4 hgr9
  -- Limit 4
  (refine Ls (X_assign (v := q2) rfl) ?_; refine L_nil ?_; refine tn ?_; refine W_seq ?_; refine W_region ?_; refine Ls (X_ldW rfl ((C1.ext Eb).ext Ec) (trC_len hTl)) ?_)
  refine Ls (X_mkDraw1 rfl) ?_
  refine L_fn (gindices T0 0 hTl hT8 (by omega) ⟨#[120]⟩ (by decide) 4 0 w9 (hw.ext ((Ea.trans Eb).trans Ec))) rfl ?_
  rintro e w10 ⟨c3, r3, q3, rfl, E10, i3, x3⟩
  refine ⟨_, rfl, ?_⟩
  (refine Ls (X_move (v := .tuple _) rfl) ?_; refine Ls (X_extract rfl rfl) ?_; refine Ls (X_extract rfl rfl) ?_)
  refine L_alloc ?_
  intro g6 w11 B6 hg6 E11 hs11
  refine L_storeW (l := trC T0 c3) (size := 33) rfl rfl (trC_len hTl) trC_cell B6 rfl ?_
  intro w12 C6 hgr12 hs12
  have Ed : Ext w9 w12 := (E10.trans E11).then hgr12 (fun g h => by cases h; have := E10.size; omega)
  have F3 := i3.ext (E11.then hgr12 (fun g h => by cases h; omega))
  clear B6 hgr12
  -- a challenge
  have D1 := ((C1.ext Eb).ext Ec).ext Ed
  have Ee := ((Ea.trans Eb).trans Ec).trans Ed
  (refine Ls (X_assign (v := q3) rfl) ?_; refine L_nil ?_; refine tn ?_; refine W_seq ?_; refine W_region ?_; refine Ls (X_ldW rfl D1 (trC_len hTl)) ?_)
  refine L_fn (gchallenge2 T0 0 hTl hT8 ⟨#[97]⟩ (by decide) w12 (hw.ext Ee)) rfl ?_
  rintro e w13 ⟨A1, A2, rfl, E13, hA1, hA2⟩
  refine ⟨_, rfl, ?_⟩
  obtain ⟨k1, hk1⟩ : ∃ k, (0 + 1) % 18446744073709551616 = k := ⟨_, rfl⟩
  rw [hk1]
  rw [hk1, ← hA1, ← hA2] at hTch
  (refine Ls (X_move (v := .tuple _) rfl) ?_; refine Ls (X_extract rfl rfl) ?_; refine Ls (X_extract rfl rfl) ?_)
  refine L_alloc ?_
  intro g8 w14 B8 hg8 E14 hs14
  refine L_alloc ?_
  intro g9 w15 B9 hg9 E15 hs15
  refine L_storeW (l := trC T0 _) (size := 33) rfl rfl (trC_len hTl) trC_cell (B8.ext E15) rfl ?_
  intro w16 C8 hgr16 hs16
  refine L_storeW rfl rfl rfl exC_cell (B9.grown hgr16 (by simp; omega)) rfl ?_
  intro w17 C9 hgr17 hs17
  have D8 := C8.grown hgr17 (by simp; omega)
  have Ef : Ext w12 w17 := ((((E13.trans E14).trans E15).then hgr16 (fun g h => by cases h; have := E13.size; omega))).then hgr17 (fun g h => by cases h; have := E13.size; omega)
  clear B8 B9 C8 hgr16 hgr17
  -- the next one
  (refine L_nil ?_; refine tn ?_; refine W_seq ?_; refine W_region ?_; refine Ls (X_ldW rfl D8 (trC_len hTl)) ?_)
  refine L_fn (gchallenge2 T0 k1 hTl hT8 ⟨#[97]⟩ (by decide) w17 (hw.ext (Ee.trans Ef))) rfl ?_
  rintro e w18 ⟨A3, A4, rfl, E18, hA3, hA4⟩
  refine ⟨_, rfl, ?_⟩
  rw [← hA3, ← hA4] at hTch
  obtain ⟨k2, hk2⟩ : ∃ k, (k1 + 1) % 18446744073709551616 = k := ⟨_, rfl⟩
  rw [hk2]
  (refine Ls (X_move (v := .tuple _) rfl) ?_; refine Ls (X_extract rfl rfl) ?_; refine Ls (X_extract rfl rfl) ?_)
  refine L_alloc ?_
  intro g10 w19 B10 hg10 E19 hs19
  refine L_alloc ?_
  intro g11 w20 B11 hg11 E20 hs20
  refine L_storeW (l := trC T0 _) (size := 33) rfl rfl (trC_len hTl) trC_cell (B10.ext E20) rfl ?_
  intro w21 C10 hgr21 hs21
  refine L_storeW rfl rfl rfl exC_cell (B11.grown hgr21 (by simp; omega)) rfl ?_
  intro w22 C11 hgr22 hs22
  have D10 := C10.grown hgr22 (by simp; omega)
  have Eg : Ext w17 w22 := ((((E18.trans E19).trans E20).then hgr21 (fun g h => by cases h; have := E18.size; omega))).then hgr22 (fun g h => by cases h; have := E18.size; omega)
  clear B10 B11 C10 hgr21 hgr22
  -- Bytes
  (refine L_nil ?_; refine tn ?_; refine W_seq ?_; refine W_region ?_)
  refine Ls (X_mkEx (a := 1) (b := 256) rfl rfl) ?_
  refine L_lits (z := [.int .u64 0, .int .u64 0]) (len := 1) (zs' := [exC 1 256]) (cs := exC 1 256) (Parts.cons (c := exC 1 256) (z := [.int .u64 0, .int .u64 0]) rfl rfl rfl rfl (Parts.nil _)) rfl rfl rfl rfl ?_
  intro q44 w23 r44 E23 hs23 _ _
  refine L_fo rfl (gbytes _ _ q44 [(1, 256)] (by simp) w23 (r44.re rfl (exs_one 1 256).symm)) ?_
  rintro q12 w24 ⟨E24, o12⟩
  (refine Ls (X_assign (v := q12) rfl) ?_; refine L_nil ?_; refine tn ?_; refine W_seq ?_; refine W_region ?_)
  have Eh := E23.trans E24
  have E0h := ((Ee.trans Ef).trans Eg).trans Eh
  -- Absorb
  (refine Ls (X_ldW rfl (D10.ext Eh) (trC_len hTl)) ?_)
  refine L_lit1 (v := .int _ _) rfl rfl ?_
  intro q47 w25 r47 E25 hs25 _
  refine L_fv rfl (gabsorb T0 _ hTl hT8 ⟨#[109]⟩ (by decide) _ _ q47 [7] (by decide) (by decide) w25 (hw.ext (E0h.trans E25)) (r47.re rfl rfl)) ?_
  intro w26 E26
  have hTl2 := Tr.absorb_len T0 (sb ⟨#[109]⟩) [7]
  have hT82 : ∀ x ∈ Tr.absorb T0 (sb ⟨#[109]⟩) [7], x < 256 := Tr.sum_lt _
  obtain ⟨T1, hT1⟩ : ∃ T, T = Tr.absorb T0 (sb ⟨#[109]⟩) [7] := ⟨_, rfl⟩
  rw [← hT1] at hTl2 hT82 hTabs ⊢
  refine L_alloc ?_
  intro g13 w27 B13 hg13 E27 hs27
  refine L_storeW (l := trC T1 0) (size := 33) rfl rfl (trC_len hTl2) trC_cell B13 rfl ?_
  intro w28 C13 hgr28 hs28
  have Ei : Ext w24 w28 := ((E25.trans E26).trans E27).then hgr28 (fun g h => by cases h; have := E25.size; have := E26.size; omega)
  clear B13 hgr28
  have E0 := E0h.trans Ei
  -- all blocks at the end
  have Ebi := ((Ef.trans Eg).trans Eh).trans Ei
  have Z1 := D1.ext Ebi
  have Z2 := (((C2.ext Ec).ext Ed)).ext Ebi
  have Z4 := (C4.ext Ed).ext Ebi
  have Z6 := C6.ext Ebi
  have Z8 := ((D8.ext Eg).ext Eh).ext Ei
  have Z9 := ((C9.ext Eg).ext Eh).ext Ei
  have Z10 := (D10.ext Eh).ext Ei
  have Z11 := (C11.ext Eh).ext Ei
  have Y1 := ((F1.ext Ec).ext Ed).ext Ebi
  have Y2 := (F2.ext Ed).ext Ebi
  have Y3 := F3.ext Ebi
  have Y12 := own_ext o12 Ei
  clear D1 C2 C4 C6 D8 C9 D10 C11 F1 F2 F3 o12 C1 i1 i2 i3
  have hx1 := Tr.IxR.good (limit := 4) (m := 4) x1 (by omega)
  have hr1 := hx1.full (by omega)
  have hc1 := hx1.count (by omega) (by omega)
  have hx2 := Tr.IxR.bad x2 (.inr (.inr (.inr (.inr (by omega)))))
  have hx3 := (Tr.IxR.good (limit := 4) (m := 0) x3 (by omega)).none (by omega)
  obtain ⟨rfl, rfl⟩ := hx2
  obtain ⟨rfl, rfl⟩ := hx3
  subst hr1
  obtain ⟨_, _, _, y1⟩ := id Y1
  obtain ⟨_, _, _, y2⟩ := id Y2
  obtain ⟨_, _, _, y3⟩ := id Y3
  clear x1 x2 x3 hx1
  (refine L_nil ?_; refine tn ?_; refine W_seq ?_; refine W_region ?_)
  dsimp only [List.append]
  have hk1' : k1 = 1 := by omega
  have hk2' : k2 = 2 := by omega
  have hA1l : A1 < 18446744073709551616 := by rw [hA1]; exact pr_lt _
  have hA2l : A2 < 18446744073709551616 := by rw [hA2]; exact pr_lt _
  have hA3l : A3 < 18446744073709551616 := by rw [hA3]; exact pr_lt _
  have hA4l : A4 < 18446744073709551616 := by rw [hA4]; exact pr_lt _
  clear hA1 hA2 hA3 hA4 hk1 hk2 hT1
  (refine Ls (X_fld rfl) ?_; refine Ls (X_ldA rfl Z1 (trC_state hTl) (by rw [ints_len, hTl])) ?_)
  refine L_fv rfl (rhex T0 hTl hT8 w28) ?_
  intro wa G1
  rw [hThex]
  (refine Ls (X_eqlS rfl rfl rfl) ?_; refine Ls (X_move (v := .bool _) rfl) ?_; refine Lg2 rfl rfl rfl (X_fld rfl) ?_; refine Lg2 rfl rfl rfl (X_ld rfl (Z1.ext G1) (trC_ctr hTl)) ?_; refine Lg2 rfl rfl rfl (X_eqlT rfl rfl (by omega)) ?_; refine Ls (X_pickT (v := .bool _) rfl rfl) ?_; refine Ls (X_move (v := .bool _) rfl) ?_; refine Lg2 rfl rfl rfl (X_move (v := q1) rfl) ?_)
  refine L_strip rfl rfl rfl ?_
  refine L_lits (z := [.int .i64 0]) (zs' := (ints .i64 [0, 1, 2, 3]).map fun x => [x]) (cs := ints .i64 [0, 1, 2, 3]) ?_ rfl rfl rfl rfl ?_
  · repeat (first | exact Parts.nil _ | refine Parts.cons rfl rfl rfl rfl ?_)
  intro q60 wb r60 G2 _ _ _
  refine L_strip rfl rfl rfl ?_
  have G12 := G1.trans G2
  refine L_fv rfl (sameInts _ _ _ _ q1 q60 (List.range 4) [0, 1, 2, 3] wb (y1.ext G12) (r60.re rfl rfl) (by decide)) ?_
  intro wc G3
  rw [show decide (List.range 4 = [0, 1, 2, 3]) = true by decide]
  have G4 := G12.trans G3
  repeat (first | ((with_reducible refine i_move ?_); (first | ((with_reducible refine i_ng ?_); refine Ls (X_move (v := .bool _) rfl) ?_) | ((with_reducible refine i_gd ?_); (first | refine Lg2 rfl rfl rfl (X_move (v := q2) rfl) ?_ | refine Lg2 rfl rfl rfl (X_move (v := q3) rfl) ?_)))) | ((with_reducible refine i_geq ?_); ((with_reducible refine i_gd ?_); refine Lg2 rfl rfl rfl (X_geqT rfl rfl (by omega)) ?_)) | ((with_reducible refine i_eql ?_); ((with_reducible refine i_gd ?_); (first | refine Lg2 rfl rfl rfl (X_eqlTrT ⟨rfl, rfl⟩ hTl hT8 (by omega) rfl rfl) ?_ | refine Lg2 rfl rfl rfl (X_eqlDT rfl hTl hT8 rfl rfl) ?_ | refine Lg2 rfl rfl rfl (X_eqlT rfl rfl (by omega)) ?_ | refine Lg2 rfl rfl rfl (X_eql rfl rfl) ?_))) | ((with_reducible refine i_len ?_); ((with_reducible refine i_gd ?_); (first | refine Lg2 rfl rfl rfl (X_lenRow (v := q3) rfl y3) ?_ | refine Lg2 rfl rfl rfl (X_lenRow (v := q2) rfl y2) ?_))) | ((with_reducible refine i_fld ?_); ((with_reducible refine i_gd ?_); refine Lg2 rfl rfl rfl (X_fld rfl) ?_)) | ((with_reducible refine i_pick ?_); ((with_reducible refine i_ng ?_); refine Ls (X_pickT (v := .bool _) rfl rfl) ?_)) | ((with_reducible refine i_load ?_); ((with_reducible refine i_gd ?_); (first | refine Lg2 rfl rfl rfl (X_ldA rfl (Z2.ext G4) (trC_state hTl) (by rw [ints_len, hTl])) ?_ | refine Lg2 rfl rfl rfl (X_ldA rfl (Z1.ext G4) (trC_state hTl) (by rw [ints_len, hTl])) ?_ | refine Lg2 rfl rfl rfl (X_ld rfl (Z2.ext G4) (trC_ctr hTl)) ?_ | refine Lg2 rfl rfl rfl (X_ldW rfl (Z4.ext G4) (trC_len hTl)) ?_ | refine Lg2 rfl rfl rfl (X_ldW rfl (Z1.ext G4) (trC_len hTl)) ?_ | refine Lg2 rfl rfl rfl (X_ldW rfl (Z6.ext G4) (trC_len hTl)) ?_ | refine Lg2 rfl rfl rfl (X_ld rfl (Z8.ext G4) (trC_ctr hTl)) ?_ | refine Lg2 rfl rfl rfl (X_ld rfl (Z10.ext G4) (trC_ctr hTl)) ?_ | refine Lg2 rfl rfl rfl (X_ldA rfl (Z8.ext G4) (trC_state hTl) (by rw [ints_len, hTl])) ?_))))
  (refine Lg2 rfl rfl rfl (X_ldW rfl (Z9.ext G4) rfl) ?_; refine Lg2 rfl rfl rfl (X_ldW rfl (Z11.ext G4) rfl) ?_; refine Lg2 rfl rfl rfl (X_neqExT hTch hA1l hA2l hA3l hA4l rfl rfl) ?_; refine Ls (X_pickT (v := .bool _) rfl rfl) ?_; refine Ls (X_move (v := .bool _) rfl) ?_; refine Lg2 rfl rfl rfl (X_move (v := q12) rfl) ?_)
  refine L_strip rfl rfl rfl ?_
  refine L_lits (z := [.int .u8 0]) (zs' := (ints .u8 [1, 0, 0, 0, 0, 0, 0, 0, 0, 1, 0, 0, 0, 0, 0, 0]).map fun x => [x]) (cs := ints .u8 [1, 0, 0, 0, 0, 0, 0, 0, 0, 1, 0, 0, 0, 0, 0, 0]) ?_ rfl rfl rfl rfl ?_
  · repeat (first | exact Parts.nil _ | refine Parts.cons rfl rfl rfl rfl ?_)
  intro q119 wd r119 G5 _ _ _
  have G6 := G4.trans G5
  refine L_strip rfl rfl rfl ?_
  refine L_fv rfl (sameBytes _ _ _ _ q12 q119 (enc [(1, 256)]) [1, 0, 0, 0, 0, 0, 0, 0, 0, 1, 0, 0, 0, 0, 0, 0] wd (Row.of_own (own_ext Y12 G6)) (r119.re rfl rfl) (by decide)) ?_
  intro we G7
  rw [show decide (enc [(1, 256)] = [1, 0, 0, 0, 0, 0, 0, 0, 0, 1, 0, 0, 0, 0, 0, 0]) = true by decide]
  have G8 := G6.trans G7
  (refine Ls (X_pickT (v := .bool _) rfl rfl) ?_; refine Ls (X_move (v := .bool _) rfl) ?_; refine Lg2 rfl rfl rfl (X_fld rfl) ?_; refine Lg2 rfl rfl rfl (X_ld rfl (C13.ext G8) (trC_ctr hTl2)) ?_; refine Lg2 rfl rfl rfl (X_eqlT rfl rfl (by omega)) ?_; refine Ls (X_pickT (v := .bool _) rfl rfl) ?_; refine Ls (X_move (v := .bool _) rfl) ?_; refine Lg2 rfl rfl rfl (X_fld rfl) ?_; refine Lg2 rfl rfl rfl (X_ldA rfl (C13.ext G8) (trC_state hTl2) (by rw [ints_len, hTl2])) ?_; refine Lg2 rfl rfl rfl (X_fld rfl) ?_; refine Lg2 rfl rfl rfl (X_ldA rfl (Z1.ext G8) (trC_state hTl) (by rw [ints_len, hTl])) ?_; refine Lg2 rfl rfl rfl (X_neqDT hTabs hTl2 hTl hT82 hT8 rfl rfl) ?_; refine Ls (X_pickT (v := .bool _) rfl rfl) ?_; refine Ls (X_move (v := .bool _) rfl) ?_)
  refine L_strip rfl rfl rfl ?_
  refine L_fo rfl (gbytes 0 0 (.slice none 0 0) [] (by decide) we (Row.nil _ _ _ _)) ?_
  rintro q135 wf ⟨G9, o135⟩
  (refine Lg2 rfl rfl rfl (X_lenRow (v := q135) rfl (Row.of_own o135)) ?_; refine Lg2 rfl rfl rfl (X_eql rfl rfl) ?_; refine Ls (X_pickT (v := .bool _) rfl rfl) ?_; refine Ls (X_assign (v := .bool _) rfl) ?_; refine L_nil ?_; refine tn ?_; refine W_ret ?_)
  refine endQ_ret1 rfl rfl (v := .bool true) rfl ?_
  exact ⟨rfl, E0.trans (G8.trans G9)⟩
end Go.Proofs.YtemodkjmdalmlaaDoor

/- What the laws of this package begin with. -/
namespace Go.Proofs.YtemodkjmdalmlaaDoor
open Go.RowKit Go.Proofs.K

/-- an Input in memory -/
structure InOk (w : World) (lab : ByteArray) (vB vL vN vS : Value) (c : Nat) (b : List Nat) (l : List (Nat × Nat)) (nn : List Int) (st : List Nat) : Prop where
  rB : ∃ lo hi, Row w lo hi 1 vB b.length (ints .u8 b)
  rL : ∃ lo hi, Row w lo hi 2 vL l.length (exs l)
  rN : ∃ lo hi, Row w lo hi 1 vN nn.length (i64s nn)
  rS : ∃ lo hi, Row w lo hi 1 vS st.length (ints .u8 st)
  b8 : ∀ x ∈ b, x < 256
  s8 : ∀ x ∈ st, x < 256
  c64 : c < 18446744073709551616
theorem InOk.ext {w w' : World} {lab : ByteArray} {vB vL vN vS : Value} {c : Nat} {b : List Nat} {l : List (Nat × Nat)} {nn : List Int} {st : List Nat} (h : InOk w lab vB vL vN vS c b l nn st) (E : Ext w w') : InOk w' lab vB vL vN vS c b l nn st :=
  ⟨by obtain ⟨x, y, r⟩ := h.rB; exact ⟨x, y, r.ext E⟩, by obtain ⟨x, y, r⟩ := h.rL; exact ⟨x, y, r.ext E⟩, by obtain ⟨x, y, r⟩ := h.rN; exact ⟨x, y, r.ext E⟩, by obtain ⟨x, y, r⟩ := h.rS; exact ⟨x, y, r.ext E⟩, h.b8, h.s8, h.c64⟩
theorem InOk.cells {w : World} {lab : ByteArray} {vB vL vN vS : Value} {c : Nat} {b : List Nat} {l : List (Nat × Nat)} {nn : List Int} {st : List Nat} (h : InOk w lab vB vL vN vS c b l nn st) : ∀ v ∈ inC lab vB vL vN vS c, v.oneCell' = true := by
  obtain ⟨_, _, r1⟩ := h.rB
  obtain ⟨_, _, r2⟩ := h.rL
  obtain ⟨_, _, r3⟩ := h.rN
  obtain ⟨_, _, r4⟩ := h.rS
  exact inC_cell (row_cell r1) (row_cell r2) (row_cell r3) (row_cell r4)
/-- what made gives -/
structure MadeOk (w w' : World) (uB uL uN : Value) (b : List Nat) (l : List (Nat × Nat)) (nn : List Int) : Prop where
  rB : ∃ lo hi, Row w' lo hi 1 uB (b.take 200).length (ints .u8 (b.take 200))
  rL : ∃ lo hi, Row w' lo hi 2 uL (red (l.take 12)).length (exs (red (l.take 12)))
  rN : ∃ lo hi, Row w' lo hi 1 uN (nn.take 12).length (i64s (nn.take 12))
theorem MadeOk.ext {w w' w'' : World} {uB uL uN : Value} {b : List Nat} {l : List (Nat × Nat)} {nn : List Int} (h : MadeOk w w' uB uL uN b l nn) (E : Ext w' w'') : MadeOk w w'' uB uL uN b l nn :=
  ⟨by obtain ⟨x, y, r⟩ := h.rB; exact ⟨x, y, r.ext E⟩, by obtain ⟨x, y, r⟩ := h.rL; exact ⟨x, y, r.ext E⟩, by obtain ⟨x, y, r⟩ := h.rN; exact ⟨x, y, r.ext E⟩⟩
theorem MadeOk.cells {w w' : World} {uB uL uN : Value} {b : List Nat} {l : List (Nat × Nat)} {nn : List Int} (h : MadeOk w w' uB uL uN b l nn) : ∀ v ∈ inC ByteArray.empty uB uL uN (.slice none 0 0) 0, v.oneCell' = true := by
  obtain ⟨_, _, r1⟩ := h.rB
  obtain ⟨_, _, r2⟩ := h.rL
  obtain ⟨_, _, r3⟩ := h.rN
  exact inC_cell (row_cell r1) (row_cell r2) (row_cell r3) rfl
theorem lmade2 {lab : ByteArray} {vB vL vN vS : Value} {c : Nat} {b : List Nat} {l : List (Nat × Nat)} {nn : List Int} {st : List Nat} {w : World} (h : InOk w lab vB vL vN vS c b l nn st) :
    Calls Tryd.prog 12 #[.agg (inC lab vB vL vN vS c).toArray] w fun e w' => ∃ uB uL uN, e = .returned (.tuple #[.agg (trC (dig st) c).toArray, .string (labS lab), .agg (inC ByteArray.empty uB uL uN (.slice none 0 0) 0).toArray]) ∧ Ext w w' ∧ MadeOk w w' uB uL uN b l nn := by
  obtain ⟨_, _, r1⟩ := h.rB
  obtain ⟨_, _, r2⟩ := h.rL
  obtain ⟨_, _, r3⟩ := h.rN
  obtain ⟨_, _, r4⟩ := h.rS
  refine (lmade lab vB vL vN vS c b l nn st _ _ _ _ _ _ _ _ w r1 r2 r3 r4).mono fun e w' ⟨uB, uL, uN, he, hE, h1, h2, h3⟩ => ⟨uB, uL, uN, he, hE, ⟨_, _, h1⟩, ⟨_, _, (Row.of_own h2).re (red_len _).symm rfl⟩, ⟨_, _, h3⟩⟩
theorem take_len {α : Type} (l : List α) (k : Nat) : (l.take k).length ≤ k := by rw [List.length_take]; omega
end Go.Proofs.YtemodkjmdalmlaaDoor

/- From a row's reading to rows of cells; what is the same behind a call; tables. -/
namespace Go.Proofs.K
open Go.RowKit Go.ChangeShapes Go.WideShapes
variable {H : Type} {enc : TypeId × Value → H} {P : Program}

/-- what was read reads as it did, in a world that has only grown -/
theorem trodAll_stays (hl : laidOutB P = true) {W W' : World} {sp : Nat → Bool} : ∀ {ts : List TypeId} {vs : List Value} {ds : List (DataW H)} {ps : List MemPlace}, (ts.all fun t => P.readableRec t && decide (t < P.types.size)) = true →
    DataW.TrodAll enc P W 0 (fun _ => true) true ts vs ds ps → (∀ p ∈ ps, W.sameAt W' p) → (∀ p ∈ ps, sp p.block = true) → DataW.TrodAll enc P W' 0 sp true ts vs ds ps
  | [], vs, ds, ps, _, h, _, _ => by
    obtain ⟨rfl, rfl, rfl⟩ := trodAll_nil h
    exact rfl
  | t :: ts, vs, ds, ps, ht, h, hs, hp => by
    obtain ⟨v, vs', d, ds', p, q, rfl, rfl, rfl, h1, h2⟩ := trodAll_cons h
    simp only [List.all_cons, Bool.and_eq_true, decide_eq_true_eq] at ht
    exact ⟨p, q, Go.WideElems.Trod_stays hl ht.1.1 ht.1.2 h1 (fun x hx => hs x (List.mem_append.2 (.inl hx))) (fun x hx => hp x (List.mem_append.2 (.inl hx))),
      trodAll_stays hl ht.2 h2 (fun x hx => hs x (List.mem_append.2 (.inr hx))) (fun x hx => hp x (List.mem_append.2 (.inr hx))), rfl⟩

/-- a law that returns true and leaves everything as it was -/
theorem post_law {f : Func} {s : ChangeSpec} {apart fresh handsOn again : Bool} {W W' : World} {args : Array Value} {ds gs : List (DataW H)} {before pa : List MemPlace} {tb : TypeId}
    (hl : laidOutB P = true) (ht : (f.params.toList.all fun t => P.readableRec t && decide (t < P.types.size)) = true)
    (hW : DataW.Whole enc P f.params.toList s.vars apart W args.toList ds gs before) (hA : DataW.TrodAll enc P W 0 (fun _ => true) true f.params.toList args.toList ds pa) (hv : s.vars = []) (hb : before = pa)
    (hr : f.resultTypes = #[tb]) (htb : P.underlying tb = some .bool) (hres : (s.fn H (ds ++ gs)).results = [.lit (.bool true)]) (hargs : (s.fn H (ds ++ gs)).args = ds) (hvars : (s.fn H (ds ++ gs)).vars = []) (E : Ext W W') :
    s.post enc P f apart fresh handsOn again W args (.bool true) W' := by
  have hlt := hW.lt
  have B := E.below
  have hold : ∀ p ∈ before, (fun b => decide (b < W.heap.size)) p.block = true := fun p hp => by simpa using hlt p hp
  have rs : ∀ (b : Nat) (sp : Nat → Bool) (hd : Bool), DataW.TrodAll enc P W' b sp hd f.resultTypes.toList ((Value.bool true).resultList f.resultTypes.size) (s.fn H (ds ++ gs)).results [] := by
    intro b sp hd
    rw [hr, hres]
    exact trodAll_mk1 (shut_bool htb _)
  have as_ : ∀ sp : Nat → Bool, (∀ p ∈ before, sp p.block = true) → DataW.TrodAll enc P W' 0 sp true f.params.toList args.toList (s.fn H (ds ++ gs)).args pa := by
    intro sp hp
    rw [hargs]
    exact trodAll_stays hl ht hA (fun p hp => B.same (hlt p (by rw [hb]; exact hp))) (fun p h => hp p (by rw [hb]; exact h))
  have vs : ∀ sp : Nat → Bool, DataW.TrodVars enc P W' sp s.vars (s.fn H (ds ++ gs)).vars [] := by
    intro sp
    rw [hv, hvars]
    exact rfl
  refine ⟨ds, gs, before, [], pa, [], hW, rs _ _ _, as_ _ hold, vs _, World.keptBut_mono (fun p hp => ⟨hp, ?_⟩) (B.frame (· ∈ before)), fun _ => ?_⟩
  · rw [hb] at hp
    exact Or.inr (Or.inl hp)
  · obtain ⟨_, _, _, _, _, hz, hn⟩ := id hW
    refine ⟨ok_one hr rfl (okWide_bool_mk htb _), _, _, ([] ++ pa) ++ [], ⟨[] ++ pa, [], trodAll_append (as_ _ (fun _ _ => rfl)) (rs _ _ _), vs _, rfl, ?_, ?_⟩, ?_⟩
    · intro b off hp
      have hp' : MemPlace.cell b off ∈ before := by rw [hb]; simpa using hp
      rw [B.frozen (hlt _ hp')]
      exact hz b off hp'
    · intro ha
      have := hn ha
      rw [hb] at this
      simpa using this
    · intro p hp _
      rw [hb]
      simpa using hp
section
variable {w : World} {base : Nat} {sp : Nat → Bool} {held : Bool}
theorem addr_mid {a : Addr} {v : Value} (h : w.cell? (a.add 0) = some v) : a = ⟨a.block, a.off, none⟩ := by
  have h' : w.cell? a = some v := by simpa [Addr.add] using h
  obtain ⟨b, o, q⟩ := a
  cases q with
  | none => rfl
  | some q => simp [World.cell?] at h'; split at h' <;> cases h'
theorem row_of_cells {a : Addr} {len cap size : Nat} {xs : List Value} (hl : xs.length = len * size) (hs : 0 < size) (hc : len ≤ cap) (hm : cap ≤ maxLen) (h : ∀ j u, xs[j]? = some u → w.cell? (a.add j) = some u) :
    Row w 0 w.heap.size size (.slice (some a) len cap) len xs := by
  refine ⟨hl, _, _, rfl, hc, hm, fun h0 => ?_⟩
  have hx : 0 < xs.length := by rw [hl]; exact Nat.mul_pos h0 hs
  have e0 := h 0 _ (List.getElem?_eq_getElem hx)
  have ha := addr_mid e0
  refine ⟨a.block, a.off, by rw [← ha], Nat.zero_le _, ?_, fun j u hu => ?_⟩
  · rw [ha] at e0
    exact World.block_lt_of_cell? w ⟨a.block, a.off, none⟩ (by simpa [Addr.add] using e0)
  · have := h j u hu
    rw [ha, Addr.add_mid] at this
    exact this
theorem row_of_nums {t e : TypeId} {k : IntKind} {fuel : Nat} {v : Value} {x : DataW H × List MemPlace} (ht : P.underlying t = some (.slice e)) (he : P.underlying e = some (.int k)) (hc : P.cellsOf e = 1)
    (h : DataW.trod enc P w base (fun _ => true) held fuel t [v] = some x) : ∃ l : List Int, Row w 0 w.heap.size 1 v l.length (l.map (.int k)) ∧ ∀ y ∈ l, (Lit.int k y).wf = true := by
  rcases open_ints ht he hc h with ⟨hv, _⟩ | ⟨a, len, cap, zs, hv, _, hlc, hcm, hzl, _, hz, hw⟩
  · obtain rfl : v = .slice none 0 0 := by simpa using hv
    exact ⟨[], Row.nil _ _ _ _, by simp⟩
  · obtain rfl : v = .slice (some a) len cap := by simpa using hv
    have hzl' : zs.length = cap := by simpa using hzl
    have hlen : (zs.take len).length = len := by rw [List.length_take]; omega
    refine ⟨zs.take len, ?_, fun y hy => hw y (List.mem_of_mem_take hy)⟩
    rw [hlen]
    refine row_of_cells (by simp; omega) (by omega) hlc hcm fun j u hu => ?_
    have hj : j < len := by have := (List.getElem?_eq_some_iff.1 hu).1; simp at this; omega
    rw [hz j (by omega)]
    have : (zs.take len)[j]? = some (zs.getD j 0) := by
      rw [List.getElem?_take_of_lt hj, List.getD_eq_getElem?_getD, List.getElem?_eq_getElem (by omega)]; rfl
    rw [List.getElem?_map, this] at hu
    exact hu
theorem row_of_bytes {t e : TypeId} {fuel : Nat} {v : Value} {x : DataW H × List MemPlace} (ht : P.underlying t = some (.slice e)) (he : P.underlying e = some (.int .u8)) (hc : P.cellsOf e = 1)
    (h : DataW.trod enc P w base (fun _ => true) held fuel t [v] = some x) : ∃ l : List Nat, Row w 0 w.heap.size 1 v l.length (ints .u8 l) ∧ ∀ y ∈ l, y < 256 := by
  obtain ⟨zs, hr, hw⟩ := row_of_nums ht he hc h
  have hb : ∀ y ∈ zs, 0 ≤ y ∧ y < 256 := fun y hy => by
    have := hw y hy
    simp only [Lit.wf, Bool.and_eq_true, decide_eq_true_eq] at this
    have h1 : IntKind.u8.min = 0 := by decide
    have h2 : IntKind.u8.max = 255 := by decide
    omega
  have e1 : (zs.map Int.toNat).map (fun n : Nat => (n : Int)) = zs := by
    rw [List.map_map]
    conv => rhs; rw [← List.map_id zs]
    exact List.map_congr_left fun y hy => by have := hb y hy; simp; omega
  refine ⟨zs.map Int.toNat, ?_, fun y hy => ?_⟩
  · have e2 : ints .u8 (zs.map Int.toNat) = zs.map (.int .u8) := by
      conv => rhs; rw [← e1]
      simp [ints, Function.comp_def]
    rw [e2, List.length_map]
    exact hr
  · obtain ⟨z, hz, rfl⟩ := List.mem_map.1 hy
    have := hb z hz; omega
theorem tab_rng {W : World} {name : String} {zs : List Int} {l : List Nat} {k : IntKind} {g : Nat} (h : Go.Lib.TabIs P W name k zs) (hg : P.globalNamed name = some g) (hz : zs = l.map fun n : Nat => (n : Int)) : Rng W g (ints k l) := by
  subst hz
  intro j v hv
  have hj : j < l.length := by have := (List.getElem?_eq_some_iff.1 hv).1; rwa [ints_len] at this
  have := h.cell hg j (by simpa using hj)
  rw [Nat.zero_add, this]
  rw [ints_get hj] at hv
  rw [← hv]
  simp [List.getD, hj]
theorem tabIs_second {W : World} {name name1 : String} {d1 : DataW Unit} {k : IntKind} {zs : List Int} {rest : List (String × DataW Unit)} {g : Nat} {t e : TypeId} {n : Nat}
    (hg : P.globalNamed name = some g) (hty : (P.globals[g]?).map (·.type) = some t) (ht : P.underlying t = some (.array n e)) (he : P.underlying e = some (.int k)) (hce : P.cellsOf e = 1) (hct : P.cellsOf t = n)
    (h : laidMet P ((name1, d1) :: (name, Go.Lib.tabData k zs) :: rest) W) : Go.Lib.TabIs P W name k zs := by
  obtain ⟨ps, ⟨_, _, _, _, _, _, _, _, _, _, ⟨g', t', cs, fuel, p, q, hg', ht', hvar, hd, _, _⟩, _⟩, _⟩ := h
  obtain rfl := Option.some.inj (hg.symm.trans hg')
  obtain rfl := Option.some.inj (hty.symm.trans ht')
  unfold Go.Lib.TabIs
  rw [hvar, ← Go.Lib.cells_of_tab ht he hce hct hd]
end
end Go.Proofs.K

/- What the cards of this package share: the tables, the Input that came in, a world that fits. -/
namespace Go.Proofs.YtemodkjmdalmlaaDoor
open Go.RowKit Go.Proofs.K Go.ChangeShapes Go.WideShapes Go.ChangeAt

theorem own : ownKnob Tryd.prog.godebug = none := by kernel_rfl
theorem laidOut : laidOutB Tryd.prog = true := by kernel_rfl
theorem gK : Tryd.prog.globalNamed "attestor/sha256.constants" = some 1 := by kernel_rfl
theorem gI : Tryd.prog.globalNamed "attestor/sha256.initial" = some 0 := by kernel_rfl
theorem gKt : (Tryd.prog.globals[1]?).map (·.type) = some 93 := by kernel_rfl
theorem gIt : (Tryd.prog.globals[0]?).map (·.type) = some 83 := by kernel_rfl
theorem cK : Tryd.prog.cellsOf 93 = 64 := by kernel_rfl
theorem cI : Tryd.prog.cellsOf 83 = 8 := by kernel_rfl
theorem c32 : Tryd.prog.cellsOf 82 = 1 := by kernel_rfl
theorem c8 : Tryd.prog.cellsOf 5 = 1 := by kernel_rfl
theorem c64 : Tryd.prog.cellsOf 25 = 1 := by kernel_rfl
theorem ci64 : Tryd.prog.cellsOf 2 = 1 := by kernel_rfl
def laids : List (String × DataW Unit) := [("attestor/sha256.constants", Go.Lib.tabData .u32 (Sha.ks.map fun n : Nat => (n : Int))), ("attestor/sha256.initial", Go.Lib.tabData .u32 (Sha.iv.list.map fun n : Nat => (n : Int)))]
theorem tabs {W : World} (h : laidMet Tryd.prog laids W) : Tabs W :=
  ⟨tab_rng (Go.Lib.tabIs_of_head gK gKt Tryd.underlying93 Tryd.underlying82 c32 cK h) gK rfl, tab_rng (tabIs_second gI gIt Tryd.underlying83 Tryd.underlying82 c32 cI h) gI rfl⟩
theorem laids_eq : laids = Rows.transcriptHashInputsRow.laid := by kernel_rfl

theorem take1 {cs : List Value} {i : Nat} {v : Value} (h : (cs.drop i).take 1 = [v]) : cs[i]? = some v := by
  have := congrArg (·[0]?) h
  rw [List.getElem?_take_of_lt (by omega), List.getElem?_drop, Nat.add_zero] at this
  simpa using this

theorem row_of_exts {H : Type} {enc : TypeId × Value → H} {w : World} {base fuel : Nat} {held : Bool} {v : Value} {x : DataW H × List MemPlace} (h : DataW.trod enc Tryd.prog w base (fun _ => true) held fuel 23 [v] = some x) :
    ∃ l : List (Nat × Nat), Row w 0 w.heap.size 2 v l.length (exs l) ∧ ∀ p ∈ l, p.1 < 18446744073709551616 ∧ p.2 < 18446744073709551616 := by
  have hu : ∀ n : Int, (Lit.int .u64 n).wf = true → 0 ≤ n ∧ n < 18446744073709551616 := fun n hw => by
    simp only [Lit.wf, Bool.and_eq_true, decide_eq_true_eq] at hw
    have h1 : IntKind.u64.min = 0 := by decide
    have h2 : IntKind.u64.max = 18446744073709551615 := by decide
    omega
  rcases Go.Deep.open_slice_pairs Tryd.underlying23 Tryd.underlying46 (by kernel_rfl) rfl rfl (by kernel_rfl) (by kernel_rfl) h with ⟨hv, _⟩ | ⟨a, len, cap, m, n, V0, V1, D0, D1, P0, P1, hv, _, hlc, hcm, hm, _, hx⟩
  · obtain rfl : v = .slice none 0 0 := by simpa using hv
    exact ⟨[], Row.nil _ _ _ _, by simp⟩
  · obtain rfl : v = .slice (some a) len cap := by simpa using hv
    have hm' : m = cap := by simpa using hm
    have each : ∀ i, i < len → ∃ p : Nat × Nat, V0 i = .int .u64 (p.1 : Nat) ∧ V1 i = .int .u64 (p.2 : Nat) ∧ p.1 < 18446744073709551616 ∧ p.2 < 18446744073709551616 := fun i hi => by
      obtain ⟨_, _, h0, h1⟩ := hx i (by omega)
      obtain ⟨n0, e0, _, w0⟩ := DataW.trod_int Tryd.underlying25 h0
      obtain ⟨n1, e1, _, w1⟩ := DataW.trod_int Tryd.underlying25 h1
      have b0 := hu _ w0
      have b1 := hu _ w1
      exact ⟨(n0.toNat, n1.toNat), by simp at e0; rw [e0]; congr 1; omega, by simp at e1; rw [e1]; congr 1; omega, by simp; omega, by simp; omega⟩
    obtain ⟨F, hF⟩ : ∃ F : Nat → Nat × Nat, ∀ i, i < len → V0 i = .int .u64 ((F i).1 : Nat) ∧ V1 i = .int .u64 ((F i).2 : Nat) ∧ (F i).1 < 18446744073709551616 ∧ (F i).2 < 18446744073709551616 :=
      ⟨fun i => if hi : i < len then (each i hi).choose else (0, 0), fun i hi => by simp only [hi, dite_true]; exact (each i hi).choose_spec⟩
    have hll : ((List.range len).map F).length = len := by simp
    refine ⟨(List.range len).map F, ?_, fun p hp => ?_⟩
    · rw [hll]
      refine row_of_cells (by rw [exs_len, hll]) (by omega) hlc hcm fun j u hu => ?_
      have hj := (List.getElem?_eq_some_iff.1 hu).1
      rw [exs_len, hll] at hj
      obtain ⟨c0, c1, _⟩ := hx (j / 2) (by omega)
      obtain ⟨f0, f1, _⟩ := hF (j / 2) (by omega)
      have hget : ((List.range len).map F)[j / 2]? = some (F (j / 2)) := by rw [List.getElem?_map, List.getElem?_range (by omega)]; rfl
      obtain ⟨g0, g1⟩ := exs_get hget
      rcases Nat.mod_two_eq_zero_or_one j with h | h
      · have e : j = j / 2 * 2 := by omega
        rw [e] at hu ⊢
        rw [g0] at hu
        rw [c0, f0]; exact hu
      · have e : j = j / 2 * 2 + 1 := by omega
        rw [e] at hu ⊢
        rw [g1] at hu
        rw [c1, f1]; exact hu
    · obtain ⟨i, hi, rfl⟩ := List.mem_map.1 hp
      exact (hF i (List.mem_range.1 hi)).2.2

theorem list6 {α : Type} {l : List α} (h : l.length = 6) : ∃ a b c d e f, l = [a, b, c, d, e, f] := by
  match l, h with
  | [a, b, c, d, e, f], _ => exact ⟨_, _, _, _, _, _, rfl⟩
/-- AN INPUT THAT CAME IN -/
theorem open_in {H : Type} {enc : TypeId × Value → H} {W : World} {v : Value} {d : DataW H} {p : List MemPlace} (h : DataW.Trod enc Tryd.prog W 0 (fun _ => true) true 27 v d p) :
    ∃ lab vB vL vN vS c b l nn st, v = .agg (inC lab vB vL vN vS c).toArray ∧ InOk W lab vB vL vN vS c b l nn st := by
  obtain ⟨fuel, h⟩ := h
  obtain ⟨xs, n, _, _, hlen, hxl, hf⟩ := DataW.trod_struct Tryd.underlying27 h
  have h6 : Tryd.prog.cellsOf 27 = 6 := by kernel_rfl
  rw [h6] at hlen
  have hagg : ∃ cs : List Value, v = .agg cs.toArray ∧ cs.length = 6 := by
    cases v with
    | agg a => exact ⟨a.toList, by simp, by simpa [Value.cells] using hlen⟩
    | _ => simp [Value.cells] at hlen
  obtain ⟨cs, rfl, hcl⟩ := hagg
  have hxl6 : xs.length = 6 := hxl.trans (by rfl)
  obtain ⟨y0, y1, y2, y3, y4, y5, rfl⟩ := list6 hxl6
  obtain ⟨a0, a1, a2, a3, a4, a5, rfl⟩ := list6 hcl
  have cS : Tryd.prog.cellsOf 9 = 1 := by kernel_rfl
  have c22 : Tryd.prog.cellsOf 22 = 1 := by kernel_rfl
  have c23 : Tryd.prog.cellsOf 23 = 1 := by kernel_rfl
  have c24 : Tryd.prog.cellsOf 24 = 1 := by kernel_rfl
  have g0 : DataW.trod enc Tryd.prog W 0 (fun _ => true) true n 9 (([a0, a1, a2, a3, a4, a5].drop 0).take (Tryd.prog.cellsOf 9)) = some y0 := hf 0 _ rfl
  have g1 : DataW.trod enc Tryd.prog W 0 (fun _ => true) true n 22 (([a0, a1, a2, a3, a4, a5].drop 1).take (Tryd.prog.cellsOf 22)) = some y1 := hf 1 _ rfl
  have g2 : DataW.trod enc Tryd.prog W 0 (fun _ => true) true n 23 (([a0, a1, a2, a3, a4, a5].drop 2).take (Tryd.prog.cellsOf 23)) = some y2 := hf 2 _ rfl
  have g3 : DataW.trod enc Tryd.prog W 0 (fun _ => true) true n 24 (([a0, a1, a2, a3, a4, a5].drop 3).take (Tryd.prog.cellsOf 24)) = some y3 := hf 3 _ rfl
  have g4 : DataW.trod enc Tryd.prog W 0 (fun _ => true) true n 22 (([a0, a1, a2, a3, a4, a5].drop 4).take (Tryd.prog.cellsOf 22)) = some y4 := hf 4 _ rfl
  have g5 : DataW.trod enc Tryd.prog W 0 (fun _ => true) true n 25 (([a0, a1, a2, a3, a4, a5].drop 5).take (Tryd.prog.cellsOf 25)) = some y5 := hf 5 _ rfl
  rw [cS] at g0
  rw [c22] at g1 g4
  rw [c23] at g2
  rw [c24] at g3
  rw [c64] at g5
  simp only [List.drop_zero, List.drop_succ_cons, List.take_succ_cons, List.take_zero] at g0 g1 g2 g3 g4 g5
  obtain ⟨b, rB, hb⟩ := row_of_bytes Tryd.underlying22 Tryd.underlying5 c8 g1
  obtain ⟨l, rL, _⟩ := row_of_exts g2
  obtain ⟨nn, rN, _⟩ := row_of_nums Tryd.underlying24 Tryd.underlying2 ci64 g3
  obtain ⟨st, rS, hst⟩ := row_of_bytes Tryd.underlying22 Tryd.underlying5 c8 g4
  obtain ⟨c, e5, _, w5⟩ := DataW.trod_int Tryd.underlying25 g5
  obtain ⟨lab, e0⟩ : ∃ lab, a0 = .string lab := by
    cases n with
    | zero => simp [DataW.trod] at g0
    | succ n =>
      simp only [DataW.trod, Tryd.underlying9] at g0
      cases a0 <;> simp at g0
      exact ⟨_, rfl⟩
  obtain rfl : a5 = .int .u64 c := by simpa using e5
  subst e0
  have hc : 0 ≤ c ∧ c < 18446744073709551616 := by
    simp only [Lit.wf, Bool.and_eq_true, decide_eq_true_eq] at w5
    have h1 : IntKind.u64.min = 0 := by decide
    have h2 : IntKind.u64.max = 18446744073709551615 := by decide
    omega
  refine ⟨lab, a1, a2, a3, a4, c.toNat, b, l, nn, st, ?_, ⟨_, _, rB⟩, ⟨_, _, rL⟩, ⟨_, _, rN⟩, ⟨_, _, rS⟩, hb, hst, by omega⟩
  rw [show inC lab a1 a2 a3 a4 c.toNat = [.string lab, a1, a2, a3, a4, .int .u64 c] by simp [inC]; omega]

def layCells (cs : List Value) : Obj → Obj
  | .cells _ t frozen => .cells cs.toArray t frozen
  | o => o
/-- A WORLD FOR THE WITNESSES: the settled one, the tables holding what their initialisers lay. -/
noncomputable def laidWorld (os : Os) : World :=
  { World.holding Tryd.prog os ⟨#[], #[], []⟩ with heap := ((World.holding Tryd.prog os ⟨#[], #[], []⟩).heap.modify 1 (layCells (ints .u32 Sha.ks))).modify 0 (layCells (ints .u32 Sha.iv.list)) }
def in0 : Value := .agg #[.string ⟨#[]⟩, .slice none 0 0, .slice none 0 0, .slice none 0 0, .slice none 0 0, .int .u64 0]
end Go.Proofs.YtemodkjmdalmlaaDoor

/- Other parameters that came in: numbers, a draw, a pair of bytes, a row of extension values. -/
namespace Go.Proofs.YtemodkjmdalmlaaDoor
open Go.RowKit Go.Proofs.K Go.ChangeShapes Go.WideShapes Go.ChangeAt

section
variable {H : Type} {enc : TypeId × Value → H} {W : World} {v : Value} {d : DataW H} {p : List MemPlace} {b0 : Nat}
theorem wf_u8 {n : Int} (h : (Lit.int .u8 n).wf = true) : ∃ a : Nat, n = a ∧ a < 256 := by
  simp only [Lit.wf, Bool.and_eq_true, decide_eq_true_eq] at h
  have h1 : IntKind.u8.min = 0 := by decide
  have h2 : IntKind.u8.max = 255 := by decide
  exact ⟨n.toNat, by omega, by omega⟩
theorem wf_u16 {n : Int} (h : (Lit.int .u16 n).wf = true) : ∃ a : Nat, n = a ∧ a < 65536 := by
  simp only [Lit.wf, Bool.and_eq_true, decide_eq_true_eq] at h
  have h1 : IntKind.u16.min = 0 := by decide
  have h2 : IntKind.u16.max = 65535 := by decide
  exact ⟨n.toNat, by omega, by omega⟩
set_option maxRecDepth 100000 in
theorem open_u8 (hv : Value.okWide Tryd.prog W .any b0 5 v) (h : DataW.Trod enc Tryd.prog W 0 (fun _ => true) true 5 v d p) : ∃ n : Nat, v = .int .u8 n ∧ n < 256 := by
  obtain ⟨n, rfl, _, _, hw⟩ := open_int Tryd.underlying5 hv h
  obtain ⟨a, rfl, ha⟩ := wf_u8 hw
  exact ⟨a, rfl, ha⟩
set_option maxRecDepth 100000 in
theorem open_u16 (hv : Value.okWide Tryd.prog W .any b0 55 v) (h : DataW.Trod enc Tryd.prog W 0 (fun _ => true) true 55 v d p) : ∃ n : Nat, v = .int .u16 n ∧ n < 65536 := by
  obtain ⟨n, rfl, _, _, hw⟩ := open_int Tryd.underlying55 hv h
  obtain ⟨a, rfl, ha⟩ := wf_u16 hw
  exact ⟨a, rfl, ha⟩
theorem list2 {α : Type} {l : List α} (h : l.length = 2) : ∃ a b, l = [a, b] := by
  match l, h with
  | [a, b], _ => exact ⟨_, _, rfl⟩
theorem two_cells (h : v.cells.size = 2) : ∃ a b, v = .agg [a, b].toArray := by
  cases v with
  | agg a =>
    obtain ⟨x, y, e⟩ := list2 (l := a.toList) (by simpa [Value.cells] using h)
    exact ⟨x, y, by rw [← e]⟩
  | _ => simp [Value.cells] at h
set_option maxRecDepth 100000 in
theorem open_draw (h : DataW.Trod enc Tryd.prog W 0 (fun _ => true) true 29 v d p) : ∃ L C : Int, v = .agg [.int .i64 L, .int .i64 C].toArray := by
  obtain ⟨fuel, h⟩ := h
  obtain ⟨xs, n, _, _, hlen, hxl, hf⟩ := DataW.trod_struct Tryd.underlying29 h
  rw [show Tryd.prog.cellsOf 29 = 2 by kernel_rfl] at hlen
  obtain ⟨a, b, rfl⟩ := two_cells (by simpa using hlen)
  obtain ⟨y0, y1, rfl⟩ := list2 (hxl.trans (by rfl))
  have g0 : DataW.trod enc Tryd.prog W 0 (fun _ => true) true n 3 (([a, b].drop 0).take (Tryd.prog.cellsOf 3)) = some y0 := hf 0 _ rfl
  have g1 : DataW.trod enc Tryd.prog W 0 (fun _ => true) true n 3 (([a, b].drop 1).take (Tryd.prog.cellsOf 3)) = some y1 := hf 1 _ rfl
  rw [show Tryd.prog.cellsOf 3 = 1 by kernel_rfl] at g0 g1
  obtain ⟨L, e0, _, _⟩ := DataW.trod_int Tryd.underlying3 g0
  obtain ⟨C, e1, _, _⟩ := DataW.trod_int Tryd.underlying3 g1
  simp at e0 e1
  exact ⟨L, C, by rw [e0, e1]⟩
set_option maxRecDepth 100000 in
theorem open_u8s2 (h : DataW.Trod enc Tryd.prog W 0 (fun _ => true) true 56 v d p) : ∃ a b : Nat, v = .agg (ints .u8 [a, b]).toArray ∧ a < 256 ∧ b < 256 := by
  obtain ⟨fuel, h⟩ := h
  obtain ⟨xs, n, _, _, hlen, hxl, hf⟩ := DataW.trod_array Tryd.underlying56 h
  rw [show Tryd.prog.cellsOf 56 = 2 by kernel_rfl] at hlen
  obtain ⟨a, b, rfl⟩ := two_cells (by simpa using hlen)
  obtain ⟨y0, y1, rfl⟩ := list2 hxl
  have g0 : DataW.trod enc Tryd.prog W 0 (fun _ => true) true n 5 (([a, b].drop (0 * Tryd.prog.cellsOf 5)).take (Tryd.prog.cellsOf 5)) = some y0 := hf 0 (by omega)
  have g1 : DataW.trod enc Tryd.prog W 0 (fun _ => true) true n 5 (([a, b].drop (1 * Tryd.prog.cellsOf 5)).take (Tryd.prog.cellsOf 5)) = some y1 := hf 1 (by omega)
  rw [c8] at g0 g1
  obtain ⟨x, e0, _, w0⟩ := DataW.trod_int Tryd.underlying5 g0
  obtain ⟨y, e1, _, w1⟩ := DataW.trod_int Tryd.underlying5 g1
  obtain ⟨x, rfl, hx⟩ := wf_u8 w0
  obtain ⟨y, rfl, hy⟩ := wf_u8 w1
  simp at e0 e1
  exact ⟨x, y, by rw [e0, e1]; rfl, hx, hy⟩
set_option maxRecDepth 100000 in
theorem open_exts (hv : Value.okWide Tryd.prog W .any b0 23 v) (h : DataW.Trod enc Tryd.prog W 0 (fun _ => true) true 23 v d p) :
    ∃ l : List (Nat × Nat), Row W 0 W.heap.size 2 v l.length (exs l) ∧ ∀ p ∈ l, p.1 < 18446744073709551616 ∧ p.2 < 18446744073709551616 := by
  obtain ⟨fuel, h⟩ := h
  obtain ⟨a, len, cap, rfl⟩ := okWide_slice Tryd.underlying23 hv
  exact row_of_exts h
end
end Go.Proofs.YtemodkjmdalmlaaDoor

/- The law on the transcript against the reference's. -/
namespace Go.Proofs.YtemodkjmdalmlaaDoor
open Go.RowKit Go.Proofs.K

theorem X_eqlExT {n : NN} {f : Fr} {w : World} {d : Option Tmp} {t : TypeId} {pos : String} {af : Array Edge} {g : Option (Nat × Bool)} {x y : Operand} {a b a' b' : Nat} (h : a = a' ∧ b = b') (ha : a < 18446744073709551616) (hb : b < 18446744073709551616) (hx : ev n f x = .agg (exC a b).toArray) (hy : ev n f y = .agg (exC a' b').toArray) :
    X Tryd.prog n ⟨d, .binOp .eql 46 x y 46, t, pos, af, g⟩ f w = .ok (.value (.bool true)) w := by
  obtain ⟨rfl, rfl⟩ := h
  rw [X_eqlEx ha hb ha hb hx hy, decide_eq_true ⟨rfl, rfl⟩]
theorem sameBytesT {lo hi lo' hi' : Nat} {v u : Value} {a b : List Nat} {w : World} (h : a = b) (ha : Row w lo hi 1 v a.length (ints .u8 a)) (hb : Row w lo' hi' 1 u b.length (ints .u8 b)) (hl : a.length ≤ 1000000000) :
    Calls Tryd.prog 19 #[v, u] w fun e w' => e = .returned (.bool true) ∧ Ext w w' :=
  (sameBytes _ _ _ _ v u a b w ha hb hl).mono fun _ _ ⟨he, hE⟩ => ⟨by rw [he, decide_eq_true h], hE⟩

set_option maxRecDepth 100000 in
set_option maxHeartbeats 8000000 in
theorem lmatch (lab : ByteArray) (vB vL vN vS : Value) (c : Nat) (b : List Nat) (l : List (Nat × Nat)) (nn : List Int) (st : List Nat) (w : World) (hw : Tabs w) (h : InOk w lab vB vL vN vS c b l nn st) :
    Calls Tryd.prog 9 #[.agg (inC lab vB vL vN vS c).toArray] w fun e w' => e = .returned (.bool true) ∧ Ext w w' := by
  refine calls_W Tryd.func9 rfl Tryd.ntmps9 rfl ?_
  (refine W_seq ?_; refine W_region ?_)
  refine L_box rfl ?_
  intro g1 w1 B1 hg1 E1 hs1
  (refine Ls (X_assign (v := .bool _) rfl) ?_; refine L_nil ?_; refine tn ?_; refine W_seq ?_; refine W_region ?_)
  refine L_fv rfl (lsanity w1 (hw.ext E1)) ?_
  intro w3 E3
  (refine Ls (X_assign (v := .bool _) rfl) ?_; refine L_nil ?_; refine tn ?_; refine W_seq ?_; refine W_region ?_; refine Ls (X_ldW (size := 6) rfl (B1.ext E3) rfl) ?_)
  have Ea := E1.trans E3
  refine L_fn (lmade2 (h.ext Ea)) rfl ?_
  rintro e w4 ⟨uB, uL, uN, rfl, E4, M4⟩
  refine ⟨_, rfl, ?_⟩
  have hs := dig_len st
  have hs8 := dig_lt h.s8
  have hlab := labS_size lab
  have hc64 := h.c64
  obtain ⟨s, hs_⟩ : ∃ s, s = dig st := ⟨_, rfl⟩
  obtain ⟨lb, hlb_⟩ : ∃ lb, lb = labS lab := ⟨_, rfl⟩
  rw [← hs_] at hs hs8 ⊢
  rw [← hlb_] at hlab ⊢
  obtain ⟨loB, hiB, rB⟩ := M4.rB
  obtain ⟨loL, hiL, rL⟩ := M4.rL
  obtain ⟨loN, hiN, rN⟩ := M4.rN
  obtain ⟨bl, hbl_⟩ : ∃ bl, bl = b.take 200 := ⟨_, rfl⟩
  obtain ⟨el, hel_⟩ : ∃ el, el = red (l.take 12) := ⟨_, rfl⟩
  obtain ⟨nl, hnl_⟩ : ∃ nl, nl = nn.take 12 := ⟨_, rfl⟩
  have hbl : bl.length ≤ 200 := by rw [hbl_]; exact take_len _ _
  have hbl8 : ∀ x ∈ bl, x < 256 := by rw [hbl_]; exact fun x hx => h.b8 x (List.mem_of_mem_take hx)
  have hel : el.length ≤ 12 := by rw [hel_, red_len]; exact take_len _ _
  have hel8 : ∀ p ∈ el, p.1 < 18446744073709551616 ∧ p.2 < 18446744073709551616 := by rw [hel_]; exact fun p hp => by have := red_lt _ p hp; unfold Tr.pr at this; omega
  have hnl : nl.length ≤ 12 := by rw [hnl_]; exact take_len _ _
  rw [← hbl_] at rB
  rw [← hel_] at rL
  rw [← hnl_] at rN
  have hic := M4.cells
  clear h B1
  (refine Ls (X_move (v := .tuple _) rfl) ?_; refine Ls (X_extract rfl rfl) ?_; refine Ls (X_extract rfl rfl) ?_; refine Ls (X_extract rfl rfl) ?_)
  refine L_alloc ?_
  intro g6 w5 B6 hg6 E5 hs5
  refine L_alloc ?_
  intro g8 w6 B8 hg8 E6 hs6
  refine L_storeW (l := trC s c) (size := 33) rfl rfl (trC_len hs) trC_cell (B6.ext E6) rfl ?_
  intro w7 C6 hg7 hs7
  (refine Ls (X_assign (v := .string _) rfl) ?_)
  refine L_storeW (l := inC ByteArray.empty uB uL uN (.slice none 0 0) 0) (size := 6) rfl rfl rfl hic (B8.grown hg7 (by simp; omega)) rfl ?_
  intro w8 D8 hg8' hs8'
  have D6 := C6.grown hg8' (by simp; omega)
  have Eb : Ext w4 w8 := ((E5.trans E6).then hg7 (fun g h => by cases h; omega)).then hg8' (fun g h => by cases h; omega)
  have E08 := (Ea.trans E4).trans Eb
  clear C6 B6 B8 hg7 hg8' M4
  -- the two challenges
  (refine L_nil ?_; refine tn ?_; refine W_seq ?_; refine W_region ?_; refine Ls (X_ldW (size := 33) rfl D6 (trC_len hs)) ?_; refine Ls (X_move (v := .string _) rfl) ?_)
  refine L_fn (gchallenge2 s c hs hs8 lb (by omega) w8 (hw.ext E08)) rfl ?_
  rintro e w9 ⟨A1, A2, rfl, E9, hA1, hA2⟩
  refine ⟨_, rfl, ?_⟩
  have hA1l : A1 < 18446744073709551616 := by rw [hA1]; exact pr_lt _
  have hA2l : A2 < 18446744073709551616 := by rw [hA2]; exact pr_lt _
  obtain ⟨c1, hc1⟩ : ∃ c1, c1 = (c + 1) % 18446744073709551616 := ⟨_, rfl⟩
  rw [← hc1]
  (refine Ls (X_move (v := .tuple _) rfl) ?_; refine Ls (X_extract rfl rfl) ?_; refine Ls (X_extract rfl rfl) ?_)
  refine L_alloc ?_
  intro g9 w10 B9 hg9 E10 hs10
  refine L_alloc ?_
  intro g10 w11 B10 hg10 E11 hs11
  refine L_storeW (l := trC s c1) (size := 33) rfl rfl (trC_len hs) trC_cell (B9.ext E11) rfl ?_
  intro w12 C9 hg12 hs12
  refine L_storeW rfl rfl rfl exC_cell (B10.grown hg12 (by simp; omega)) rfl ?_
  intro w13 D10 hg13 hs13
  have D9 := C9.grown hg13 (by simp; omega)
  have E813 : Ext w8 w13 := ((((E9.trans E10).trans E11).then hg12 (fun g h => by cases h; have := E9.size; omega))).then hg13 (fun g h => by cases h; have := E9.size; omega)
  clear B9 B10 C9 hg12 hg13
  (refine L_nil ?_; refine tn ?_; refine W_seq ?_; refine W_region ?_; refine Ls (X_ldW (size := 33) rfl (D6.ext E813) (trC_len hs)) ?_; refine Ls (X_move (v := .string _) rfl) ?_)
  refine L_fv rfl (rchallenge s c hs hs8 hc64 lb (by omega) w13) ?_
  rw [← hA1, ← hA2, ← hc1]
  intro w14 E14
  (refine Ls (X_move (v := .tuple _) rfl) ?_; refine Ls (X_extract rfl rfl) ?_; refine Ls (X_extract rfl rfl) ?_)
  refine L_alloc ?_
  intro g11 w15 B11 hg11 E15 hs15
  refine L_alloc ?_
  intro g12 w16 B12 hg12 E16 hs16
  refine L_storeW (l := trC s c1) (size := 33) rfl rfl (trC_len hs) trC_cell (B11.ext E16) rfl ?_
  intro w17 C11 hg17 hs17
  refine L_storeW rfl rfl rfl exC_cell (B12.grown hg17 (by simp; omega)) rfl ?_
  intro w18 D12 hg18 hs18
  have D11 := C11.grown hg18 (by simp; omega)
  have E1318 : Ext w13 w18 := ((((E14.trans E15).trans E16).then hg17 (fun g h => by cases h; have := E14.size; omega))).then hg18 (fun g h => by cases h; have := E14.size; omega)
  clear B11 B12 C11 hg17 hg18
  have E818 := E813.trans E1318
  have K6 := D6.ext E818
  have K8 := D8.ext E818
  have K9 := D9.ext E1318
  have K10 := D10.ext E1318
  have sB := (rB.ext Eb).ext E818
  have sL := (rL.ext Eb).ext E818
  have sN := (rN.ext Eb).ext E818
  have hw18 := hw.ext (E08.trans E818)
  have hc1l : c1 < 18446744073709551616 := by omega
  clear D6 D8 D9 D10 rB rL rN E1318 E813 hA1 hA2 hc1
  -- the answer
  (refine L_nil ?_; refine tn ?_; refine W_seq ?_)
  dsimp only [List.append]
  apply W_dagE 61 (by kernel_rfl)
  (apply DW_x (fun r w hA hH => (X_move (v := .string _) rfl).trans rfl))
  ((with_reducible apply DW_fn); (exact fun _ => rfl); (exact fun _ => rfl); (exact fun r w hA hH => gnew lb (by omega) w (hw18.ext hA)))
  (apply DW_x (fun r w hA hH => (X_move (v := .string _) rfl).trans rfl))
  ((with_reducible apply DW_fn); (exact fun _ => rfl); (exact fun _ => rfl); (exact fun r w hA hH => rnew lb (by omega) w))
  (apply DW_x (fun r w hA hH => (X_eqlTrT ⟨rfl, rfl⟩ (Tr.new_len _) (Tr.sum_lt _) (by omega) rfl rfl).trans rfl); apply DW_x (fun r w hA hH => (X_move (v := .bool _) rfl).trans rfl); apply DW_on2 rfl rfl (fun _ => rfl) (fun r w hA hH => (X_ldW rfl (K6.ext hA) (trC_len hs)).trans rfl); apply DW_on2 rfl rfl (fun _ => rfl) (fun r w hA hH => (X_move (v := .string _) rfl).trans rfl); apply DW_on2 rfl rfl (fun _ => rfl) (fun r w hA hH => (X_fld rfl).trans rfl); apply DW_on2 rfl rfl (fun _ => rfl) (fun r w hA hH => (X_ld rfl (K8.ext hA) rfl).trans rfl))
  ((with_reducible apply DW_fn2); (exact rfl); (exact rfl); (exact fun _ => rfl); (exact fun _ => rfl); (exact fun r w hA hH => gabsorb s c hs hs8 lb (by omega) _ _ uB bl hbl8 (by omega) w (hw18.ext hA) (sB.ext hA)))
  (apply DW_on2 rfl rfl (fun _ => rfl) (fun r w hA hH => (X_ldW rfl (K6.ext hA) (trC_len hs)).trans rfl); apply DW_on2 rfl rfl (fun _ => rfl) (fun r w hA hH => (X_move (v := .string _) rfl).trans rfl); apply DW_on2 rfl rfl (fun _ => rfl) (fun r w hA hH => (X_fld rfl).trans rfl); apply DW_on2 rfl rfl (fun _ => rfl) (fun r w hA hH => (X_ld rfl (K8.ext hA) rfl).trans rfl))
  ((with_reducible apply DW_fn2); (exact rfl); (exact rfl); (exact fun _ => rfl); (exact fun _ => rfl); (exact fun r w hA hH => rabsorb _ _ s c hs hs8 lb (by omega) uB bl hbl8 (by omega) w (sB.ext hA)))
  (apply DW_on2 rfl rfl (fun _ => rfl) (fun r w hA hH => (X_eqlTrT ⟨rfl, rfl⟩ (Tr.absorb_len _ _ _) (Tr.sum_lt _) (by omega) rfl rfl).trans rfl); apply DW_x (fun r w hA hH => (X_pickT (v := .bool _) rfl rfl).trans rfl); apply DW_x (fun r w hA hH => (X_move (v := .bool _) rfl).trans rfl); apply DW_on2 rfl rfl (fun _ => rfl) (fun r w hA hH => (X_ldW rfl (K6.ext hA) (trC_len hs)).trans rfl); apply DW_on2 rfl rfl (fun _ => rfl) (fun r w hA hH => (X_move (v := .string _) rfl).trans rfl); apply DW_on2 rfl rfl (fun _ => rfl) (fun r w hA hH => (X_fld rfl).trans rfl); apply DW_on2 rfl rfl (fun _ => rfl) (fun r w hA hH => (X_ld rfl (K8.ext hA) rfl).trans rfl))
  ((with_reducible apply DW_fn2); (exact rfl); (exact rfl); (exact fun _ => rfl); (exact fun _ => rfl); (exact fun r w hA hH => gabsorbExt s c hs hs8 lb (by omega) _ _ uL el (by omega) w (hw18.ext hA) (sL.ext hA)))
  (apply DW_on2 rfl rfl (fun _ => rfl) (fun r w hA hH => (X_ldW rfl (K6.ext hA) (trC_len hs)).trans rfl); apply DW_on2 rfl rfl (fun _ => rfl) (fun r w hA hH => (X_move (v := .string _) rfl).trans rfl); apply DW_on2 rfl rfl (fun _ => rfl) (fun r w hA hH => (X_fld rfl).trans rfl); apply DW_on2 rfl rfl (fun _ => rfl) (fun r w hA hH => (X_ld rfl (K8.ext hA) rfl).trans rfl))
  ((with_reducible apply DW_fn2); (exact rfl); (exact rfl); (exact fun _ => rfl); (exact fun _ => rfl); (exact fun r w hA hH => rabsorbExt s c hs hs8 lb (by omega) _ _ uL el (by omega) hel8 w (sL.ext hA)))
  (apply DW_on2 rfl rfl (fun _ => rfl) (fun r w hA hH => (X_eqlTrT ⟨rfl, rfl⟩ (Tr.absorb_len _ _ _) (Tr.sum_lt _) (by omega) rfl rfl).trans rfl); apply DW_x (fun r w hA hH => (X_pickT (v := .bool _) rfl rfl).trans rfl); apply DW_x (fun r w hA hH => (X_move (v := .bool _) rfl).trans rfl); apply DW_on2 rfl rfl (fun _ => rfl) (fun r w hA hH => (X_ldW rfl (K6.ext hA) (trC_len hs)).trans rfl); apply DW_on2 rfl rfl (fun _ => rfl) (fun r w hA hH => (X_move (v := .string _) rfl).trans rfl); apply DW_on2 rfl rfl (fun _ => rfl) (fun r w hA hH => (X_fld rfl).trans rfl); apply DW_on2 rfl rfl (fun _ => rfl) (fun r w hA hH => (X_ld rfl (K8.ext hA) rfl).trans rfl))
  ((with_reducible apply DW_fn2); (exact rfl); (exact rfl); (exact fun _ => rfl); (exact fun _ => rfl); (exact fun r w hA hH => gabsorbInts s c hs hs8 lb (by omega) _ _ uN nl (by omega) w (hw18.ext hA) (sN.ext hA)))
  (apply DW_on2 rfl rfl (fun _ => rfl) (fun r w hA hH => (X_ldW rfl (K6.ext hA) (trC_len hs)).trans rfl); apply DW_on2 rfl rfl (fun _ => rfl) (fun r w hA hH => (X_move (v := .string _) rfl).trans rfl); apply DW_on2 rfl rfl (fun _ => rfl) (fun r w hA hH => (X_fld rfl).trans rfl); apply DW_on2 rfl rfl (fun _ => rfl) (fun r w hA hH => (X_ld rfl (K8.ext hA) rfl).trans rfl))
  ((with_reducible apply DW_fn2); (exact rfl); (exact rfl); (exact fun _ => rfl); (exact fun _ => rfl); (exact fun r w hA hH => rabsorbInts s c hs hs8 lb (by omega) _ _ uN nl (by omega) w (sN.ext hA)))
  (apply DW_on2 rfl rfl (fun _ => rfl) (fun r w hA hH => (X_eqlTrT ⟨rfl, rfl⟩ (Tr.absorb_len _ _ _) (Tr.sum_lt _) (by omega) rfl rfl).trans rfl); apply DW_x (fun r w hA hH => (X_pickT (v := .bool _) rfl rfl).trans rfl); apply DW_x (fun r w hA hH => (X_move (v := .bool _) rfl).trans rfl); apply DW_on2 rfl rfl (fun _ => rfl) (fun r w hA hH => (X_fld rfl).trans rfl); apply DW_on2 rfl rfl (fun _ => rfl) (fun r w hA hH => (X_ld rfl (K8.ext hA) rfl).trans rfl))
  ((with_reducible apply DW_fo2); (exact rfl); (exact rfl); (exact fun _ => rfl); (exact fun _ => rfl); (exact fun r w hA hH => calls_own hA (gbytes _ _ uL el (by omega) w (sL.ext hA))); (exact fun _ _ _ _ _ _ E h => OwnF.ext E h))
  (apply DW_on2 rfl rfl (fun _ => rfl) (fun r w hA hH => (X_fld rfl).trans rfl); apply DW_on2 rfl rfl (fun _ => rfl) (fun r w hA hH => (X_ld rfl (K8.ext hA) rfl).trans rfl))
  ((with_reducible apply DW_fo2); (exact rfl); (exact rfl); (exact fun _ => rfl); (exact fun _ => rfl); (exact fun r w hA hH => calls_own hA (rbytes _ _ uL el (by omega) hel8 w (sL.ext hA))); (exact fun _ _ _ _ _ _ E h => OwnF.ext E h))
  ((with_reducible apply DW_fn2); (exact rfl); (exact rfl); (exact fun _ => rfl); (exact fun _ => rfl); (exact fun r w hA hH => (by
    obtain ⟨b1, _, o1⟩ := hH 47 rfl
    obtain ⟨b2, _, o2⟩ := hH 50 rfl
    exact sameBytesT (v := r 47) (u := r 50) (a := enc el) (b := enc el) rfl (Row.of_own o1) (Row.of_own o2) (by rw [enc_len]; omega))))
  (apply DW_x (fun r w hA hH => (X_pickT (v := .bool _) rfl rfl).trans rfl); apply DW_x (fun r w hA hH => (X_move (v := .bool _) rfl).trans rfl); apply DW_on2 rfl rfl (fun _ => rfl) (fun r w hA hH => (X_ldW (size := 33) rfl (K9.ext hA) (trC_len hs)).trans rfl); apply DW_on2 rfl rfl (fun _ => rfl) (fun r w hA hH => (X_ldW (size := 33) rfl (D11.ext hA) (trC_len hs)).trans rfl); apply DW_on2 rfl rfl (fun _ => rfl) (fun r w hA hH => (X_eqlTrT ⟨rfl, rfl⟩ hs hs8 hc1l rfl rfl).trans rfl); apply DW_x (fun r w hA hH => (X_pickT (v := .bool _) rfl rfl).trans rfl); apply DW_x (fun r w hA hH => (X_move (v := .bool _) rfl).trans rfl); apply DW_on2 rfl rfl (fun _ => rfl) (fun r w hA hH => (X_ldW (size := 2) rfl (K10.ext hA) rfl).trans rfl); apply DW_on2 rfl rfl (fun _ => rfl) (fun r w hA hH => (X_ldW (size := 2) rfl (D12.ext hA) rfl).trans rfl))
  ((with_reducible exact D_end); (exact rfl); (repeat (first | exact trivial | (refine And.intro ?_ ?_) | exact .inr (.inr (fun _ _ => rfl)) | exact .inl (by decide) | exact .inr (.inl rfl))); (try dsimp only [Nat.reduceAdd]))
  intro rr x1 F1 _
  (refine Lg2 rfl rfl rfl (X_eqlExT ⟨rfl, rfl⟩ hA1l hA2l rfl rfl) ?_; refine Ls (X_pickT (v := .bool _) rfl rfl) ?_; refine Ls (X_move (v := .bool _) rfl) ?_; refine Lg2 rfl rfl rfl (X_move (v := .bool _) rfl) ?_; refine Ls (X_pickT (v := .bool _) rfl rfl) ?_; refine Ls (X_assign (v := .bool _) rfl) ?_; refine L_nil ?_; refine tn ?_; refine W_ret ?_)
  refine endQ_ret1 rfl rfl (v := .bool true) rfl ?_
  exact ⟨rfl, (E08.trans E818).trans F1⟩
end Go.Proofs.YtemodkjmdalmlaaDoor

/- The law on the transcript's state: what each call leaves of it. -/
namespace Go.Proofs.YtemodkjmdalmlaaDoor
open Go.RowKit Go.Proofs.K

section
variable {n : NN} {f : Fr} {w : World} {d : Option Tmp} {t ty ty' : TypeId} {pos : String} {af : Array Edge} {g : Option (Nat × Bool)} {x y : Operand}
theorem X_neqDF {a b : List Nat} (h : a = b) (ha : a.length = 32) (ha8 : ∀ x ∈ a, x < 256) (hx : ev n f x = .agg (ints .u8 a).toArray) (hy : ev n f y = .agg (ints .u8 b).toArray) :
    X Tryd.prog n ⟨d, .binOp .neq 32 x y 32, t, pos, af, g⟩ f w = .ok (.value (.bool false)) w := by
  subst h; rw [X_neqD ha ha ha8 ha8 hx hy]; simp
theorem X_half {P : Program} {a : Nat} (hx : ev n f x = .int .u64 (a : Nat)) (hy : ev n f y = .int .u64 1) : X P n ⟨d, .binOp .shr ty x y ty', t, pos, af, g⟩ f w = .ok (.value (.int .u64 ((a / 2 : Nat) : Int))) w := by
  rw [X_shr hx hy (by omega), show IntKind.u64.bits = 64 from rfl, shr_nat a 1 (by omega)]; rfl
theorem X_addN {P : Program} {a b : Nat} (hx : ev n f x = .int .i64 (a : Nat)) (hy : ev n f y = .int .i64 (b : Nat)) (h : a + b < 9223372036854775808) : X P n ⟨d, .binOp .add ty x y ty', t, pos, af, g⟩ f w = .ok (.value (.int .i64 ((a + b : Nat) : Int))) w := by
  rw [X_addi hx hy (by omega)]; rfl
theorem X_addU {P : Program} {a b : Nat} (hx : ev n f x = .int .u64 (a : Nat)) (hy : ev n f y = .int .u64 (b : Nat)) (h : a + b < 18446744073709551616) : X P n ⟨d, .binOp .add ty x y ty', t, pos, af, g⟩ f w = .ok (.value (.int .u64 ((a + b : Nat) : Int))) w := by
  rw [X_add hx hy, show (a : Int) + (b : Int) = ((a + b : Nat) : Int) by omega, u64_nat, Nat.mod_eq_of_lt h]
theorem X_quoU {P : Program} {a b : Nat} (hx : ev n f x = .int .u64 (a : Nat)) (hy : ev n f y = .int .u64 (b : Nat)) (h : 0 < b) (ha : a < 18446744073709551616) : X P n ⟨d, .binOp .quo ty x y ty', t, pos, af, g⟩ f w = .ok (.value (.int .u64 ((a / b : Nat) : Int))) w := by
  rw [X_quou hx hy (by omega)]; rfl
end
theorem trC_set {s : List Nat} {c e : Nat} (hs : s.length = 32) : (trC s c).set (0 + 32) (.int .u64 ((e : Nat) : Int)) = trC s e := by
  simp [trC, ints_len, hs]

set_option maxRecDepth 100000 in
set_option maxHeartbeats 8000000 in
theorem lstate (lab : ByteArray) (vB vL vN vS : Value) (c : Nat) (b : List Nat) (l : List (Nat × Nat)) (nn : List Int) (st : List Nat) (nw : Nat) (w : World) (hw : Tabs w) (h : InOk w lab vB vL vN vS c b l nn st) (hnw : nw < 256) :
    Calls Tryd.prog 10 #[.agg (inC lab vB vL vN vS c).toArray, .int .u8 (nw : Nat)] w fun e w' => e = .returned (.bool true) ∧ Ext w w' := by
  refine calls_W Tryd.func10 rfl Tryd.ntmps10 rfl ?_
  (refine W_seq ?_; refine W_region ?_)
  refine L_box rfl ?_
  intro g1 w1 B1 hg1 E1 hs1
  (refine Ls (X_assign (v := .bool _) rfl) ?_; refine L_nil ?_; refine tn ?_; refine W_seq ?_; refine W_region ?_)
  refine L_fv rfl (lsanity w1 (hw.ext E1)) ?_
  intro w3 E3
  (refine Ls (X_assign (v := .bool _) rfl) ?_; refine L_nil ?_; refine tn ?_; refine W_seq ?_; refine W_region ?_; refine Ls (X_ldW (size := 6) rfl (B1.ext E3) rfl) ?_)
  have Ea := E1.trans E3
  refine L_fn (lmade2 (h.ext Ea)) rfl ?_
  rintro e w4 ⟨uB, uL, uN, rfl, E4, M4⟩
  refine ⟨_, rfl, ?_⟩
  have hs := dig_len st
  have hs8 := dig_lt h.s8
  have hlab := labS_size lab
  have hc64 := h.c64
  obtain ⟨s, hs_⟩ : ∃ s, s = dig st := ⟨_, rfl⟩
  obtain ⟨lb, hlb_⟩ : ∃ lb, lb = labS lab := ⟨_, rfl⟩
  rw [← hs_] at hs hs8 ⊢
  rw [← hlb_] at hlab ⊢
  obtain ⟨loB, hiB, rB⟩ := M4.rB
  obtain ⟨loL, hiL, rL⟩ := M4.rL
  obtain ⟨loN, hiN, rN⟩ := M4.rN
  obtain ⟨bl, hbl_⟩ : ∃ bl, bl = b.take 200 := ⟨_, rfl⟩
  obtain ⟨el, hel_⟩ : ∃ el, el = red (l.take 12) := ⟨_, rfl⟩
  obtain ⟨nl, hnl_⟩ : ∃ nl, nl = nn.take 12 := ⟨_, rfl⟩
  have hbl : bl.length ≤ 200 := by rw [hbl_]; exact take_len _ _
  have hbl8 : ∀ x ∈ bl, x < 256 := by rw [hbl_]; exact fun x hx => h.b8 x (List.mem_of_mem_take hx)
  have hel : el.length ≤ 12 := by rw [hel_, red_len]; exact take_len _ _
  have hnl : nl.length ≤ 12 := by rw [hnl_]; exact take_len _ _
  rw [← hbl_] at rB
  rw [← hel_] at rL
  rw [← hnl_] at rN
  have hic := M4.cells
  clear h B1
  (refine Ls (X_move (v := .tuple _) rfl) ?_; refine Ls (X_extract rfl rfl) ?_; refine Ls (X_extract rfl rfl) ?_; refine Ls (X_extract rfl rfl) ?_)
  refine L_alloc ?_
  intro g6 w5 B6 hg6 E5 hs5
  refine L_alloc ?_
  intro g8 w6 B8 hg8 E6 hs6
  refine L_storeW (l := trC s c) (size := 33) rfl rfl (trC_len hs) trC_cell (B6.ext E6) rfl ?_
  intro w7 C6 hg7 hs7
  (refine Ls (X_assign (v := .string _) rfl) ?_)
  refine L_storeW (l := inC ByteArray.empty uB uL uN (.slice none 0 0) 0) (size := 6) rfl rfl rfl hic (B8.grown hg7 (by simp; omega)) rfl ?_
  intro w8 D8 hg8' hs8'
  have D6 := C6.grown hg8' (by simp; omega)
  have Eb : Ext w4 w8 := ((E5.trans E6).then hg7 (fun g h => by cases h; omega)).then hg8' (fun g h => by cases h; omega)
  have E08 := (Ea.trans E4).trans Eb
  clear C6 B6 B8 hg7 hg8' M4
  obtain ⟨e, he⟩ : ∃ e, e = c / 2 := ⟨_, rfl⟩
  have he63 : e < 9223372036854775808 := by omega
  have he64 : e < 18446744073709551616 := by omega
  -- the counter halved
  (refine L_nil ?_; refine tn ?_; refine W_seq ?_; refine W_region ?_; refine Ls (X_fld rfl) ?_; refine Ls (X_ld rfl D6 (trC_ctr hs)) ?_; refine Ls (X_half rfl rfl) ?_; refine Ls (X_fld rfl) ?_)
  rw [← he]
  refine L_store1 (v := .int _ _) rfl rfl rfl D6 (by rw [trC_len hs]; omega) ?_
  intro w9 C6 hg9 hs9
  rw [trC_set hs] at C6
  have C8 := D8.grown hg9 (by simp; omega)
  have E49 : Ext w4 w9 := Eb.then hg9 (fun g h => by cases h; omega)
  have E0 := (Ea.trans E4).trans E49
  have sB := rB.ext E49
  have sL := rL.ext E49
  have sN := rN.ext E49
  clear rB rL rN D6 D8 hg9 Eb E08 he
  -- a challenge
  (refine L_nil ?_; refine tn ?_; refine W_seq ?_; refine W_region ?_; refine Ls (X_ldW (size := 33) rfl C6 (trC_len hs)) ?_; refine Ls (X_move (v := .string _) rfl) ?_)
  refine L_fn (gchallenge2 s e hs hs8 lb (by omega) w9 (hw.ext E0)) rfl ?_
  rintro _ w10 ⟨A1, A2, rfl, E10, hA1, hA2⟩
  refine ⟨_, rfl, ?_⟩
  obtain ⟨e1, he1⟩ : ∃ e1, e1 = (e + 1) % 18446744073709551616 := ⟨_, rfl⟩
  rw [← he1]
  have he1' : e1 = e + 1 := by omega
  clear hA1 hA2 he1
  (refine Ls (X_move (v := .tuple _) rfl) ?_; refine Ls (X_extract rfl rfl) ?_; refine Ls (X_extract rfl rfl) ?_)
  refine L_alloc ?_
  intro g9 w11 B9 hg9 E11 hs11
  refine L_alloc ?_
  intro g10 w12 B10 hg10 E12 hs12
  refine L_storeW (l := trC s e1) (size := 33) rfl rfl (trC_len hs) trC_cell (B9.ext E12) rfl ?_
  intro w13 C9 hg13 hs13
  refine L_storeW rfl rfl rfl exC_cell (B10.grown hg13 (by simp; omega)) rfl ?_
  intro w14 C10 hg14 hs14
  have D9 := C9.grown hg14 (by simp; omega)
  have E914 : Ext w9 w14 := ((((E10.trans E11).trans E12).then hg13 (fun g h => by cases h; have := E10.size; omega))).then hg14 (fun g h => by cases h; have := E10.size; omega)
  clear B9 B10 C9 C10 hg13 hg14
  -- the indices
  obtain ⟨m, hm⟩ : ∃ m, m = nw % 65 := ⟨_, rfl⟩
  (refine L_nil ?_; refine tn ?_; refine W_seq ?_; refine W_region ?_; refine Ls (X_ldW (size := 33) rfl (C6.ext E914) (trC_len hs)) ?_; refine Ls (X_move (v := .string _) rfl) ?_; refine Ls (X_move (v := .int _ _) rfl) ?_; refine Ls (X_convI64 (a := nw) rfl (by omega)) ?_; refine Ls (X_remn (a := nw) (b := 65) rfl rfl (by omega)) ?_)
  rw [← hm]
  refine Ls (X_mkDraw rfl rfl) ?_
  refine L_fn (gindices s e hs hs8 he64 lb (by omega) 256 m w14 (hw.ext (E0.trans E914))) rfl ?_
  rintro _ w15 ⟨c1, r1, q1, rfl, E15, i1, x1⟩
  refine ⟨_, rfl, ?_⟩
  have hx := Tr.IxR.good (limit := 256) x1 (by omega)
  have hr1 := hx.len
  have hct := hx.count he63 (by omega)
  have hc1 : c1 < 18446744073709551616 := by omega
  (refine Ls (X_move (v := .tuple _) rfl) ?_; refine Ls (X_extract rfl rfl) ?_; refine Ls (X_extract rfl rfl) ?_)
  refine L_alloc ?_
  intro g11 w16 B11 hg11 E16 hs16
  refine L_storeW (l := trC s c1) (size := 33) rfl rfl (trC_len hs) trC_cell B11 rfl ?_
  intro w17 C11 hg17 hs17
  have E1417 : Ext w14 w17 := (E15.trans E16).then hg17 (fun g h => by cases h; have := E15.size; omega)
  have j1 := i1.ext (E16.then hg17 (fun g h => by cases h; omega))
  clear B11 hg17 x1 hx i1
  have E917 := E914.trans E1417
  -- bytes
  (refine Ls (X_assign (v := q1) rfl) ?_; refine L_nil ?_; refine tn ?_; refine W_seq ?_; refine W_region ?_; refine Ls (X_ldW (size := 33) rfl (C6.ext E917) (trC_len hs)) ?_; refine Ls (X_move (v := .string _) rfl) ?_; refine Ls (X_fld rfl) ?_; refine Ls (X_ld rfl (C8.ext E917) rfl) ?_)
  refine L_fv rfl (gabsorb s e hs hs8 lb (by omega) _ _ uB bl hbl8 (by omega) w17 (hw.ext (E0.trans E917)) (sB.ext E917)) ?_
  intro w18 E18
  obtain ⟨S1, hS1⟩ : ∃ S, S = Tr.absorb s (sb lb) bl := ⟨_, rfl⟩
  have hS1l : S1.length = 32 := by rw [hS1]; exact Tr.absorb_len _ _ _
  have hS18 : ∀ y ∈ S1, y < 256 := by rw [hS1]; exact Tr.sum_lt _
  rw [← hS1]
  skip
  refine L_alloc ?_
  intro g13 w19 B13 hg13 E19 hs19
  refine L_storeW (l := trC S1 0) (size := 33) rfl rfl (trC_len hS1l) trC_cell B13 rfl ?_
  intro w20 C13 hg20 hs20
  have E1720 : Ext w17 w20 := (E18.trans E19).then hg20 (fun g h => by cases h; have := E18.size; omega)
  have E920 := E917.trans E1720
  have K6 := C6.ext E920
  have K8 := C8.ext E920
  have K9 := (D9.ext E1417).ext E1720
  have K11 := C11.ext E1720
  obtain ⟨_, _, _, y1⟩ := j1.ext E1720
  rw [hr1] at y1
  clear C6 C8 D9 C11 B13 hg20 j1
  -- what each left
  (refine L_nil ?_; refine tn ?_; refine W_seq ?_; refine W_seq ?_; refine W_region ?_; refine Ls (X_fld rfl) ?_; refine Ls (X_ldA rfl K9 (trC_state hs) (by rw [ints_len, hs])) ?_; refine Ls (X_fld rfl) ?_; refine Ls (X_ldA rfl K6 (trC_state hs) (by rw [ints_len, hs])) ?_; refine Ls (X_neqDF rfl hs hs8 rfl rfl) ?_; refine Ls (X_move (v := .bool _) rfl) ?_; refine Lg2 rfl rfl rfl (X_fld rfl) ?_; refine Lg2 rfl rfl rfl (X_ld rfl K9 (trC_ctr hs)) ?_; refine Lg2 rfl rfl rfl (X_fld rfl) ?_; refine Lg2 rfl rfl rfl (X_ld rfl K6 (trC_ctr hs)) ?_; refine Lg2 rfl rfl rfl (X_addU (a := e) (b := 1) rfl rfl (by omega)) ?_; refine Lg2 rfl rfl rfl (X_neqF rfl rfl (by omega)) ?_; refine Ls (X_pickF (v := .bool _) rfl rfl) ?_; refine Ls (X_move (v := .bool _) rfl) ?_; refine Lg2 rfl rfl rfl (X_fld rfl) ?_; refine Lg2 rfl rfl rfl (X_ldA rfl K11 (trC_state hs) (by rw [ints_len, hs])) ?_; refine Lg2 rfl rfl rfl (X_fld rfl) ?_; refine Lg2 rfl rfl rfl (X_ldA rfl K6 (trC_state hs) (by rw [ints_len, hs])) ?_; refine Lg2 rfl rfl rfl (X_neqDF rfl hs hs8 rfl rfl) ?_; refine Ls (X_pickF (v := .bool _) rfl rfl) ?_; refine Ls (X_move (v := .bool _) rfl) ?_; refine Lg2 rfl rfl rfl (X_fld rfl) ?_; refine Lg2 rfl rfl rfl (X_ld rfl K11 (trC_ctr hs)) ?_; refine Lg2 rfl rfl rfl (X_fld rfl) ?_; refine Lg2 rfl rfl rfl (X_ld rfl K6 (trC_ctr hs)) ?_; refine Lg2 rfl rfl rfl (X_move (v := q1) rfl) ?_; refine Lg2 rfl rfl rfl (X_lenRow (v := q1) rfl y1) ?_; refine Lg2 rfl rfl rfl (X_addN (a := m) (b := 3) rfl rfl (by omega)) ?_; refine Lg2 rfl rfl rfl (X_convU64 (a := m + 3) rfl (by omega)) ?_; refine Lg2 rfl rfl rfl (X_quoU (a := m + 3) (b := 4) rfl rfl (by omega) (by omega)) ?_; refine Lg2 rfl rfl rfl (X_addU (a := e) (b := (m + 3) / 4) rfl rfl (by omega)) ?_; refine Lg2 rfl rfl rfl (X_lssF rfl rfl (by omega)) ?_; refine Ls (X_pickF (v := .bool _) rfl rfl) ?_; refine Ls (X_move (v := .bool _) rfl) ?_; refine Lg2 rfl rfl rfl (X_fld rfl) ?_; refine Lg2 rfl rfl rfl (X_ld rfl C13 (trC_ctr hS1l)) ?_; refine Lg2 rfl rfl rfl (X_neqF rfl rfl (by omega)) ?_; refine Ls (X_pickF (v := .bool _) rfl rfl) ?_; refine L_nil ?_; refine tn ?_; refine W_condF rfl ?_; refine W_skip ?_; refine tn ?_; refine W_seq ?_; refine W_region ?_)
  (refine Ls (X_ldW (size := 33) rfl K6 (trC_len hs)) ?_)
  refine L_alloc ?_
  intro g14 w21 B14 hg14 E21 hs21
  refine L_storeW (l := trC s e) (size := 33) rfl rfl (trC_len hs) trC_cell B14 rfl ?_
  intro w22 C14 hg22 hs22
  (refine L_nil ?_; refine tn ?_; refine W_seq ?_; refine W_region ?_; refine Ls (X_fld rfl) ?_)
  refine L_store1 (v := .int _ _) rfl rfl rfl C14 (by rw [trC_len hs]; omega) ?_
  intro w23 C14 hg23 hs23
  have C14' : Blk w23 g14 34 (trC s 0) := by
    have := trC_set (s := s) (c := e) (e := 0) hs
    rw [← this]; exact C14
  have E2023 : Ext w20 w23 := (E21.then hg22 (fun g h => by cases h; omega)).then hg23 (fun g h => by cases h; omega)
  have E923 := E920.trans E2023
  have hw23 := hw.ext (E0.trans E923)
  have M6 := K6.ext E2023
  have M8 := K8.ext E2023
  have M13 := C13.ext E2023
  have tB := sB.ext E923
  have tL := sL.ext E923
  have tN := sN.ext E923
  clear C14 K6 K8 K9 K11 C13 sB sL sN y1 hg22 hg23 B14
  (refine L_nil ?_; refine tn ?_; refine W_seq ?_)
  apply W_dagE 32 (by kernel_rfl)
  (apply DW_x (fun r w hA hH => (X_ldW rfl (C14'.ext hA) (trC_len hs)).trans rfl); apply DW_x (fun r w hA hH => (X_move (v := .string _) rfl).trans rfl); apply DW_x (fun r w hA hH => (X_fld rfl).trans rfl); apply DW_x (fun r w hA hH => (X_ld rfl (M8.ext hA) rfl).trans rfl))
  ((with_reducible apply DW_fn); (exact fun _ => rfl); (exact fun _ => rfl); (exact fun r w hA hH => gabsorb s 0 hs hs8 lb (by omega) _ _ uB bl hbl8 (by omega) w (hw23.ext hA) (tB.ext hA)))
  (apply DW_x (fun r w hA hH => (X_ldW rfl (M13.ext hA) (trC_len hS1l)).trans rfl); apply DW_x (fun r w hA hH => (X_eqlTrT ⟨hS1.symm, rfl⟩ (Tr.absorb_len _ _ _) (Tr.sum_lt _) (by omega) rfl rfl).trans rfl); apply DW_x (fun r w hA hH => (X_move (v := .bool _) rfl).trans rfl); apply DW_on2 rfl rfl (fun _ => rfl) (fun r w hA hH => (X_ldW rfl (M6.ext hA) (trC_len hs)).trans rfl); apply DW_on2 rfl rfl (fun _ => rfl) (fun r w hA hH => (X_move (v := .string _) rfl).trans rfl); apply DW_on2 rfl rfl (fun _ => rfl) (fun r w hA hH => (X_fld rfl).trans rfl); apply DW_on2 rfl rfl (fun _ => rfl) (fun r w hA hH => (X_ld rfl (M8.ext hA) rfl).trans rfl))
  ((with_reducible apply DW_fn2); (exact rfl); (exact rfl); (exact fun _ => rfl); (exact fun _ => rfl); (exact fun r w hA hH => gabsorbExt s e hs hs8 lb (by omega) _ _ uL el (by omega) w (hw23.ext hA) (tL.ext hA)))
  (apply DW_on2 rfl rfl (fun _ => rfl) (fun r w hA hH => (X_ldW rfl (M6.ext hA) (trC_len hs)).trans rfl); apply DW_on2 rfl rfl (fun _ => rfl) (fun r w hA hH => (X_move (v := .string _) rfl).trans rfl); apply DW_on2 rfl rfl (fun _ => rfl) (fun r w hA hH => (X_fld rfl).trans rfl); apply DW_on2 rfl rfl (fun _ => rfl) (fun r w hA hH => (X_ld rfl (M8.ext hA) rfl).trans rfl))
  ((with_reducible apply DW_fo2); (exact rfl); (exact rfl); (exact fun _ => rfl); (exact fun _ => rfl); (exact fun r w hA hH => calls_own hA (gbytes _ _ uL el (by omega) w (tL.ext hA))); (exact fun _ _ _ _ _ _ E h => OwnF.ext E h))
  ((with_reducible apply DW_fn2); (exact rfl); (exact rfl); (exact fun _ => rfl); (exact fun _ => rfl); (exact fun r w hA hH => (by
    obtain ⟨b1, _, o1⟩ := hH 17 rfl
    exact gabsorb s e hs hs8 lb (by omega) _ _ (r 17) (enc el) (enc_lt el) (by rw [enc_len]; omega) w (hw23.ext hA) (Row.of_own o1))))
  (apply DW_on2 rfl rfl (fun _ => rfl) (fun r w hA hH => (X_eqlTrT ⟨rfl, rfl⟩ (Tr.absorb_len _ _ _) (Tr.sum_lt _) (by omega) rfl rfl).trans rfl); apply DW_x (fun r w hA hH => (X_pickT (v := .bool _) rfl rfl).trans rfl); apply DW_x (fun r w hA hH => (X_move (v := .bool _) rfl).trans rfl); apply DW_on2 rfl rfl (fun _ => rfl) (fun r w hA hH => (X_ldW rfl (M6.ext hA) (trC_len hs)).trans rfl); apply DW_on2 rfl rfl (fun _ => rfl) (fun r w hA hH => (X_move (v := .string _) rfl).trans rfl); apply DW_on2 rfl rfl (fun _ => rfl) (fun r w hA hH => (X_fld rfl).trans rfl); apply DW_on2 rfl rfl (fun _ => rfl) (fun r w hA hH => (X_ld rfl (M8.ext hA) rfl).trans rfl))
  ((with_reducible apply DW_fn2); (exact rfl); (exact rfl); (exact fun _ => rfl); (exact fun _ => rfl); (exact fun r w hA hH => gabsorbInts s e hs hs8 lb (by omega) _ _ uN nl (by omega) w (hw23.ext hA) (tN.ext hA)))
  (apply DW_on2 rfl rfl (fun _ => rfl) (fun r w hA hH => (X_ldW rfl (M6.ext hA) (trC_len hs)).trans rfl); apply DW_on2 rfl rfl (fun _ => rfl) (fun r w hA hH => (X_move (v := .string _) rfl).trans rfl); apply DW_on2 rfl rfl (fun _ => rfl) (fun r w hA hH => (X_fld rfl).trans rfl); apply DW_on2 rfl rfl (fun _ => rfl) (fun r w hA hH => (X_ld rfl (M8.ext hA) rfl).trans rfl))
  ((with_reducible apply DW_fo2); (exact rfl); (exact rfl); (exact fun _ => rfl); (exact fun _ => rfl); (exact fun r w hA hH => calls_own hA (rintBytes _ _ uN nl (by omega) w (tN.ext hA))); (exact fun _ _ _ _ _ _ E h => OwnF.ext E h))
  ((with_reducible exact D_end); (exact rfl); (repeat (first | exact trivial | (refine And.intro ?_ ?_) | exact .inr (.inr (fun _ _ => rfl)) | exact .inl (by decide) | exact .inr (.inl rfl))); (try dsimp only [Nat.reduceAdd]))
  intro rr w24 E24 H24
  obtain ⟨b31, _, o31⟩ : OwnF w23 5 1 (rr 31) (encI nl).length (ints .u8 (encI nl)) w24 := H24 31
  refine L_strip rfl rfl rfl ?_
  refine L_fv rfl (gabsorb s e hs hs8 lb (by omega) _ _ (rr 31) (encI nl) (encI_lt nl) (by rw [encI_len]; omega) w24 (hw23.ext E24) (Row.of_own o31)) ?_
  intro w25 E25
  (refine Lg2 rfl rfl rfl (X_eqlTrT ⟨rfl, rfl⟩ (Tr.absorb_len _ _ _) (Tr.sum_lt _) (by omega) rfl rfl) ?_; refine Ls (X_pickT (v := .bool _) rfl rfl) ?_; refine Ls (X_move (v := .bool _) rfl) ?_; refine Lg2 rfl rfl rfl (X_move (v := .bool _) rfl) ?_; refine Ls (X_pickT (v := .bool _) rfl rfl) ?_; refine Ls (X_assign (v := .bool _) rfl) ?_; refine L_nil ?_; refine tn ?_; refine W_ret ?_)
  refine endQ_ret1 rfl rfl (v := .bool true) rfl ?_
  exact ⟨rfl, ((E0.trans E923).trans E24).trans E25⟩
end Go.Proofs.YtemodkjmdalmlaaDoor

/- The law on the draws: as many as asked for, in range, rising, and more of them for more. -/
namespace Go.Proofs.YtemodkjmdalmlaaDoor
open Go.RowKit Go.Proofs.K

section
variable {P : Program} {n : NN} {f : Fr} {w : World} {d : Option Tmp} {t ty ty' : TypeId} {pos : String} {af : Array Edge} {g : Option (Nat × Bool)} {x y : Operand}
theorem X_minN {a b : Nat} (hx : ev n f x = .int .i64 (a : Nat)) (hy : ev n f y = .int .i64 (b : Nat)) : X P n ⟨d, .call ⟨.builtin .min, #[x, y], #[ty, ty']⟩, t, pos, af, g⟩ f w = .ok (.value (.int .i64 ((min a b : Nat) : Int))) w := by
  rw [X_min hx hy, show (if (b : Int) < (a : Int) then (b : Int) else (a : Int)) = ((min a b : Nat) : Int) by split <;> omega]
theorem X_maxN {a b : Nat} (hx : ev n f x = .int .i64 (a : Nat)) (hy : ev n f y = .int .i64 (b : Nat)) : X P n ⟨d, .call ⟨.builtin .max, #[x, y], #[ty, ty']⟩, t, pos, af, g⟩ f w = .ok (.value (.int .i64 ((max a b : Nat) : Int))) w := by
  rw [X_max hx hy, show (if (b : Int) > (a : Int) then (b : Int) else (a : Int)) = ((max a b : Nat) : Int) by split <;> omega]
theorem X_subN {a b : Nat} (hx : ev n f x = .int .i64 (a : Nat)) (hy : ev n f y = .int .i64 (b : Nat)) (h : b ≤ a ∧ a < 9223372036854775808) : X P n ⟨d, .binOp .sub ty x y ty', t, pos, af, g⟩ f w = .ok (.value (.int .i64 ((a - b : Nat) : Int))) w := by
  rw [X_subi hx hy (by omega), show (a : Int) - (b : Int) = ((a - b : Nat) : Int) by omega]
end
section
variable {P : Program} {n : NN} {w : World} {ops : Array Oper} {rest : List Oper} {R : Nat → World → World → Prop} {A : World → Prop} {Fin : List Oper → (Rho → Fr) → (Rho → Nat → World → Prop) → Prop} {k : Nat} {E : List Ent} {g : Rho → Fr} {H : Rho → Nat → World → Prop} {op : Op} {t : TypeId} {pos : String} {af : Array Edge}
/-- an operation whose guard says no -/
theorem DW_off2 [ExtR R] {o : Option Tmp} {j : Nat} {want b : Bool} {t' : Tmp} (hd : (ops[j]?).bind (·.dst) = some t') (hn : Nat.blt t' n.k = true) (hv : ∀ r, g r t' = .bool b) (hb : (b == want) = false)
    (hr : DW R P n ops A Fin rest (k + 1) E (fun r => updo (g r) o undef) H) : DW R P n ops A Fin (⟨o, op, t, pos, af, some (j, want)⟩ :: rest) k (.st (fun _ => undef) :: E) g H :=
  DW_off (fun r => (wants_at rfl hd hn (hv r)).trans hb) hr
end
theorem getD_mem {r : List Nat} {k : Nat} (h : k < r.length) : r.getD k 0 ∈ r := by
  rw [List.getD_eq_getElem?_getD, List.getElem?_eq_getElem h]; exact List.getElem_mem h
theorem getD_up {r : List Nat} (h : r.Pairwise (· < ·)) {i j : Nat} (hij : i < j) (hj : j < r.length) : r.getD i 0 < r.getD j 0 := by
  rw [List.getD_eq_getElem?_getD, List.getD_eq_getElem?_getD, List.getElem?_eq_getElem hj, List.getElem?_eq_getElem (show i < r.length by omega)]
  exact List.pairwise_iff_getElem.1 h i j (by omega) hj hij
theorem mem_getD {r : List Nat} {x : Nat} (h : x ∈ r) : ∃ j, j < r.length ∧ r.getD j 0 = x := by
  obtain ⟨j, hj, e⟩ := List.getElem_of_mem h
  exact ⟨j, hj, by rw [List.getD_eq_getElem?_getD, List.getElem?_eq_getElem hj]; exact e⟩

set_option maxRecDepth 100000 in
set_option maxHeartbeats 8000000 in
theorem lidx (lab : ByteArray) (vB vL vN vS : Value) (c : Nat) (b : List Nat) (l : List (Nat × Nat)) (nn : List Int) (st : List Nat) (nl na nb : Nat) (w : World) (hw : Tabs w) (h : InOk w lab vB vL vN vS c b l nn st) (hnl : nl < 65536) (hna : na < 256) (hnb : nb < 256) :
    Calls Tryd.prog 6 #[.agg (inC lab vB vL vN vS c).toArray, .int .u16 (nl : Nat), .agg (ints .u8 [na, nb]).toArray] w fun e w' => e = .returned (.bool true) ∧ Ext w w' := by
  refine calls_W Tryd.func6 rfl Tryd.ntmps6 rfl ?_
  (refine W_seq ?_; refine W_region ?_)
  refine L_box rfl ?_
  intro g1 w1 B1 hg1 E1 hs1
  skip
  refine L_box rfl ?_
  intro g2 w2 B2 hg2 E2 hs2
  (refine Ls (X_assign (v := .bool _) rfl) ?_; refine L_nil ?_; refine tn ?_; refine W_seq ?_; refine W_region ?_)
  refine L_fv rfl (lsanity w2 (hw.ext (E1.trans E2))) ?_
  intro w3 E3
  (refine Ls (X_assign (v := .bool _) rfl) ?_; refine L_nil ?_; refine tn ?_; refine W_seq ?_; refine W_region ?_; refine Ls (X_ldW (size := 6) rfl (B1.ext (E2.trans E3)) rfl) ?_)
  have Ea := (E1.trans E2).trans E3
  refine L_fn (lmade2 (h.ext Ea)) rfl ?_
  rintro _ w4 ⟨uB, uL, uN, rfl, E4, M4⟩
  refine ⟨_, rfl, ?_⟩
  have hs := dig_len st
  have hs8 := dig_lt h.s8
  have hlab := labS_size lab
  have hc64 := h.c64
  obtain ⟨s, hs_⟩ : ∃ s, s = dig st := ⟨_, rfl⟩
  obtain ⟨lb, hlb_⟩ : ∃ lb, lb = labS lab := ⟨_, rfl⟩
  rw [← hs_] at hs hs8 ⊢
  rw [← hlb_] at hlab ⊢
  have hic := M4.cells
  have D2 := (B2.ext E3).ext E4
  clear h B1 B2
  (refine Ls (X_move (v := .tuple _) rfl) ?_; refine Ls (X_extract rfl rfl) ?_; refine Ls (X_extract rfl rfl) ?_; refine Ls (X_extract rfl rfl) ?_)
  refine L_alloc ?_
  intro g6 w5 B6 hg6 E5 hs5
  refine L_alloc ?_
  intro g8 w6 B8 hg8 E6 hs6
  refine L_storeW (l := trC s c) (size := 33) rfl rfl (trC_len hs) trC_cell (B6.ext E6) rfl ?_
  intro w7 C6 hg7 hs7
  (refine Ls (X_assign (v := .string _) rfl) ?_)
  refine L_storeW (l := inC ByteArray.empty uB uL uN (.slice none 0 0) 0) (size := 6) rfl rfl rfl hic (B8.grown hg7 (by simp; omega)) rfl ?_
  intro w8 C8 hg8' hs8'
  have D6 := C6.grown hg8' (by simp; omega)
  have Eb : Ext w4 w8 := ((E5.trans E6).then hg7 (fun g h => by cases h; omega)).then hg8' (fun g h => by cases h; omega)
  clear C6 C8 B6 B8 hg7 hg8' M4
  obtain ⟨e, he⟩ : ∃ e, e = c / 2 := ⟨_, rfl⟩
  have he63 : e < 9223372036854775808 := by omega
  have he64 : e < 18446744073709551616 := by omega
  (refine L_nil ?_; refine tn ?_; refine W_seq ?_; refine W_region ?_; refine Ls (X_fld rfl) ?_; refine Ls (X_ld rfl D6 (trC_ctr hs)) ?_; refine Ls (X_half rfl rfl) ?_; refine Ls (X_fld rfl) ?_)
  rw [← he]
  refine L_store1 (v := .int _ _) rfl rfl rfl D6 (by rw [trC_len hs]; omega) ?_
  intro w9 C6 hg9 hs9
  rw [trC_set hs] at C6
  have E49 : Ext w4 w9 := Eb.then hg9 (fun g h => by cases h; omega)
  have E0 := (Ea.trans E4).trans E49
  have D2 := D2.ext E49
  clear D6 hg9 Eb he
  -- how many
  obtain ⟨limit, hlim⟩ : ∃ limit, limit = 1 + nl := ⟨_, rfl⟩
  obtain ⟨mm, hmm⟩ : ∃ mm, mm = min limit 64 := ⟨_, rfl⟩
  (refine L_nil ?_; refine tn ?_; refine W_seq ?_; refine W_region ?_; refine Ls (X_move (v := .int _ _) rfl) ?_; refine Ls (X_convI64 (a := nl) rfl (by omega)) ?_; refine Ls (X_addN (a := 1) (b := nl) rfl rfl (by omega)) ?_; refine Ls (X_minN (a := 1 + nl) (b := 64) rfl rfl) ?_; refine Ls (X_assign (v := .int _ _) rfl) ?_; refine L_nil ?_; refine tn ?_; refine W_seq ?_)
  rw [← hlim, ← hmm]
  obtain ⟨n1, hn1⟩ : ∃ n1, n1 = na % (mm + 1) := ⟨_, rfl⟩
  obtain ⟨n2, hn2⟩ : ∃ n2, n2 = nb % (mm + 1) := ⟨_, rfl⟩
  have hn1' : n1 ≤ mm := by have := Nat.mod_lt na (show 0 < mm + 1 by omega); omega
  have hn2' : n2 ≤ mm := by have := Nat.mod_lt nb (show 0 < mm + 1 by omega); omega
  apply W_dagE 14 (by kernel_rfl)
  (apply DW_x (fun r w hA hH => (X_indexA rfl rfl (by omega)).trans rfl); apply DW_x (fun r w hA hH => (X_ld rfl (D2.ext hA) rfl).trans rfl); apply DW_x (fun r w hA hH => (X_convI64 (a := na) rfl (by omega)).trans rfl); apply DW_x (fun r w hA hH => (X_move (v := .int _ _) rfl).trans rfl); apply DW_x (fun r w hA hH => (X_addN (a := mm) (b := 1) rfl rfl (by omega)).trans rfl); apply DW_x (fun r w hA hH => (X_remn (a := na) (b := mm + 1) rfl rfl (by omega)).trans rfl); apply DW_x (fun r w hA hH => (X_indexA rfl rfl (by omega)).trans rfl); apply DW_x (fun r w hA hH => (X_ld rfl (D2.ext hA) rfl).trans rfl); apply DW_x (fun r w hA hH => (X_convI64 (a := nb) rfl (by omega)).trans rfl); apply DW_x (fun r w hA hH => (X_move (v := .int _ _) rfl).trans rfl); apply DW_x (fun r w hA hH => (X_addN (a := mm) (b := 1) rfl rfl (by omega)).trans rfl); apply DW_x (fun r w hA hH => (X_remn (a := nb) (b := mm + 1) rfl rfl (by omega)).trans rfl); apply DW_x (fun r w hA hH => (X_assign (v := .int _ _) rfl).trans rfl); apply DW_x (fun r w hA hH => (X_assign (v := .int _ _) rfl).trans rfl))
  ((with_reducible exact D_end); (exact rfl); (repeat (first | exact trivial | (refine And.intro ?_ ?_) | exact .inr (.inr (fun _ _ => rfl)) | exact .inl (by decide) | exact .inr (.inl rfl))); (try dsimp only [Nat.reduceAdd]))
  intro rr w10 E10 _
  rw [← hn1, ← hn2]
  have C6 := C6.ext E10
  have E0 := E0.trans E10
  clear D2
  obtain ⟨lo, hlo⟩ : ∃ a, a = min n1 n2 := ⟨_, rfl⟩
  obtain ⟨up, hup⟩ : ∃ a, a = max n1 n2 := ⟨_, rfl⟩
  -- the fewer
  (refine L_nil ?_; refine tn ?_; refine W_seq ?_; refine W_region ?_; refine Ls (X_ldW (size := 33) rfl C6 (trC_len hs)) ?_; refine Ls (X_move (v := .string _) rfl) ?_; refine Ls (X_move (v := .int _ _) rfl) ?_; refine Ls (X_convI64 (a := nl) rfl (by omega)) ?_; refine Ls (X_addN (a := 1) (b := nl) rfl rfl (by omega)) ?_; refine Ls (X_move (v := .int _ _) rfl) ?_; refine Ls (X_move (v := .int _ _) rfl) ?_; refine Ls (X_minN (a := n1) (b := n2) rfl rfl) ?_)
  rw [← hlim, ← hlo]
  refine Ls (X_mkDraw rfl rfl) ?_
  refine L_fn (gindices s e hs hs8 he64 lb (by omega) limit lo w10 (hw.ext E0)) rfl ?_
  rintro _ w11 ⟨c1, r1, q1, rfl, E11, i1, x1⟩
  refine ⟨_, rfl, ?_⟩
  (refine Ls (X_move (v := .tuple _) rfl) ?_; refine Ls (X_extract rfl rfl) ?_; refine Ls (X_extract rfl rfl) ?_)
  refine L_alloc ?_
  intro g14 w12 B14 hg14 E12 hs12
  refine L_storeW (l := trC s c1) (size := 33) rfl rfl (trC_len hs) trC_cell B14 rfl ?_
  intro w13 C14 hg13 hs13
  have E1013 : Ext w10 w13 := (E11.trans E12).then hg13 (fun g h => by cases h; have := E11.size; omega)
  have j1 := i1.ext (E12.then hg13 (fun g h => by cases h; omega))
  clear B14 hg13 i1
  -- the more
  (refine Ls (X_assign (v := q1) rfl) ?_; refine L_nil ?_; refine tn ?_; refine W_seq ?_; refine W_region ?_; refine Ls (X_ldW (size := 33) rfl (C6.ext E1013) (trC_len hs)) ?_; refine Ls (X_move (v := .string _) rfl) ?_; refine Ls (X_move (v := .int _ _) rfl) ?_; refine Ls (X_convI64 (a := nl) rfl (by omega)) ?_; refine Ls (X_addN (a := 1) (b := nl) rfl rfl (by omega)) ?_; refine Ls (X_move (v := .int _ _) rfl) ?_; refine Ls (X_move (v := .int _ _) rfl) ?_; refine Ls (X_maxN (a := n1) (b := n2) rfl rfl) ?_)
  rw [← hlim, ← hup]
  refine Ls (X_mkDraw rfl rfl) ?_
  refine L_fn (gindices s e hs hs8 he64 lb (by omega) limit up w13 (hw.ext (E0.trans E1013))) rfl ?_
  rintro _ w14 ⟨c2, r2, q2, rfl, E14, i2, x2⟩
  refine ⟨_, rfl, ?_⟩
  (refine Ls (X_move (v := .tuple _) rfl) ?_; refine Ls (X_extract rfl rfl) ?_; refine Ls (X_extract rfl rfl) ?_)
  refine L_alloc ?_
  intro g16 w15 B16 hg16 E15 hs15
  refine L_storeW (l := trC s c2) (size := 33) rfl rfl (trC_len hs) trC_cell B16 rfl ?_
  intro w16 C16 hg16' hs16
  have E1316 : Ext w13 w16 := (E14.trans E15).then hg16' (fun g h => by cases h; have := E14.size; omega)
  have j2 := i2.ext (E15.then hg16' (fun g h => by cases h; omega))
  clear B16 hg16' i2
  have E016 := (E0.trans E1013).trans E1316
  have hx1 := Tr.IxR.good x1 (by omega)
  have hx2 := Tr.IxR.good x2 (by omega)
  have hl1 := hx1.len
  have hl2 := hx2.len
  obtain ⟨hcc, hsub⟩ := hx1.sub hx2 (by omega) he63
  have hlt2 := hx2.lt (by omega)
  have hup1 := hx1.up
  have hup2 := hx2.up
  obtain ⟨_, _, _, y1⟩ := j1.ext E1316
  obtain ⟨_, _, _, y2⟩ := j2
  have K14 := C14.ext E1316
  clear C14 x1 x2 hx1 hx2 C6 j1
  (refine Ls (X_assign (v := q2) rfl) ?_; refine L_nil ?_; refine tn ?_; refine W_seq ?_; refine W_seq ?_; refine W_region ?_; refine Ls (X_move (v := q1) rfl) ?_; refine Ls (X_lenRow (v := q1) rfl y1) ?_; refine Ls (X_move (v := .int _ _) rfl) ?_; refine Ls (X_move (v := .int _ _) rfl) ?_; refine Ls (X_minN (a := n1) (b := n2) rfl rfl) ?_; refine Ls (X_neqF rfl rfl (by omega)) ?_; refine Ls (X_move (v := .bool _) rfl) ?_; refine Lg2 rfl rfl rfl (X_move (v := q2) rfl) ?_; refine Lg2 rfl rfl rfl (X_lenRow (v := q2) rfl y2) ?_; refine Lg2 rfl rfl rfl (X_move (v := .int _ _) rfl) ?_; refine Lg2 rfl rfl rfl (X_move (v := .int _ _) rfl) ?_; refine Lg2 rfl rfl rfl (X_maxN (a := n1) (b := n2) rfl rfl) ?_; refine Lg2 rfl rfl rfl (X_neqF rfl rfl (by omega)) ?_; refine Ls (X_pickF (v := .bool _) rfl rfl) ?_; refine Ls (X_move (v := .bool _) rfl) ?_; refine Lg2 rfl rfl rfl (X_fld rfl) ?_; refine Lg2 rfl rfl rfl (X_ld rfl K14 (trC_ctr hs)) ?_; refine Lg2 rfl rfl rfl (X_fld rfl) ?_; refine Lg2 rfl rfl rfl (X_ld rfl C16 (trC_ctr hs)) ?_; refine Lg2 rfl rfl rfl (X_gtrF rfl rfl (by omega)) ?_; refine Ls (X_pickF (v := .bool _) rfl rfl) ?_; refine L_nil ?_; refine tn ?_; refine W_condF rfl ?_; refine W_skip ?_; refine tn ?_; refine W_seq ?_; refine W_seq ?_; refine W_region ?_; refine Ls (X_assign (v := .int _ _) rfl) ?_; refine L_nil ?_; refine tn ?_; refine W_block ?_)
  refine W_mono (Q := fun e f w' => e = .exit 0 ∧ Ext w16 w' ∧ f 7 = .bool true ∧ f 15 = q1 ∧ f 17 = q2) ?_ ?_
  · refine W_loop (fun q f w' => ∃ k, q = r2.length - k ∧ k ≤ r2.length ∧ Ext w16 w' ∧ f 1 = .int .u16 (nl : Nat) ∧ f 7 = .bool true ∧ f 15 = q1 ∧ f 17 = q2 ∧ f 18 = .int .i64 (k : Nat)) r2.length ?_ ?_
    · exact ⟨0, rfl, by omega, Ext.refl _, rfl, rfl, rfl, rfl, rfl⟩
    · rintro q f wr ⟨k, rfl, hk, E, f1, f7, f15, f17, f18⟩
      rw [fold f1, fold f7, fold f15, fold f17, fold f18]
      by_cases hk' : k < r2.length
      · (refine W_seq ?_; refine W_seq ?_; refine W_region ?_; refine Ls (X_move (v := .int _ _) rfl) ?_; refine Ls (X_move (v := q2) rfl) ?_; refine Ls (X_lenRow (v := q2) rfl (y2.ext E)) ?_; refine Ls (X_lssT rfl rfl (by omega)) ?_; refine L_nil ?_; refine tn ?_; refine W_condT rfl ?_; refine W_skip ?_; refine tn ?_; refine W_seq ?_; refine W_block ?_; refine W_seq ?_)
        obtain ⟨b0, o0, cc0, rfl, _, _, _, hc0⟩ := y2.at (k := k) hk'
        have hvk := hlt2 _ (getD_mem hk')
        by_cases hk0 : k = 0
        · apply W_dagE 30 (by kernel_rfl)
          (apply DW_x (fun r w hA hH => (X_move (v := .slice _ _ _) rfl).trans rfl); apply DW_x (fun r w hA hH => (X_move (v := .int _ _) rfl).trans rfl); apply DW_x (fun r w hA hH => (X_indexSn rfl rfl (by omega)).trans rfl); apply DW_x (fun r w hA hH => (X_ldRI (j := k) rfl ((E.trans hA).range hc0) (by omega)).trans rfl); apply DW_x (fun r w hA hH => (X_lssF rfl rfl (by omega)).trans rfl); apply DW_x (fun r w hA hH => (X_move (v := .bool _) rfl).trans rfl); apply DW_on2 rfl rfl (fun _ => rfl) (fun r w hA hH => (X_move (v := .slice _ _ _) rfl).trans rfl); apply DW_on2 rfl rfl (fun _ => rfl) (fun r w hA hH => (X_move (v := .int _ _) rfl).trans rfl); apply DW_on2 rfl rfl (fun _ => rfl) (fun r w hA hH => (X_indexSn rfl rfl (by omega)).trans rfl); apply DW_on2 rfl rfl (fun _ => rfl) (fun r w hA hH => (X_ldRI (j := k) rfl ((E.trans hA).range hc0) (by omega)).trans rfl); apply DW_on2 rfl rfl (fun _ => rfl) (fun r w hA hH => (X_move (v := .int _ _) rfl).trans rfl); apply DW_on2 rfl rfl (fun _ => rfl) (fun r w hA hH => (X_convI64 (a := nl) rfl (by omega)).trans rfl); apply DW_on2 rfl rfl (fun _ => rfl) (fun r w hA hH => (X_gtrF rfl rfl (by omega)).trans rfl); apply DW_x (fun r w hA hH => (X_pickF (v := .bool _) rfl rfl).trans rfl); apply DW_x (fun r w hA hH => (X_move (v := .bool _) rfl).trans rfl); apply DW_on2 rfl rfl (fun _ => rfl) (fun r w hA hH => (X_move (v := .int _ _) rfl).trans rfl); apply DW_on2 rfl rfl (fun _ => rfl) (fun r w hA hH => (X_gtrF rfl rfl (by omega)).trans rfl); apply DW_on2 rfl rfl (fun _ => rfl) (fun r w hA hH => (X_move (v := .bool _) rfl).trans rfl))
          repeat ((with_reducible apply DW_off2); (exact rfl); (exact rfl); (exact fun _ => rfl); (exact rfl))
          (apply DW_on2 rfl rfl (fun _ => rfl) (fun r w hA hH => (X_pickF (v := .bool _) rfl rfl).trans rfl); apply DW_x (fun r w hA hH => (X_pickF (v := .bool _) rfl rfl).trans rfl))
          ((with_reducible exact D_end); (exact rfl); (repeat (first | exact trivial | (refine And.intro ?_ ?_) | exact .inr (.inr (fun _ _ => rfl)) | exact .inl (by decide) | exact .inr (.inl rfl))); (try dsimp only [Nat.reduceAdd]))
          intro rr wt Et _
          (refine L_nil ?_; refine tn ?_; refine W_condF rfl ?_; refine W_skip ?_; refine bn ?_; refine tn ?_; refine W_region ?_; refine Ls (X_move (v := .int _ _) rfl) ?_; refine Ls (X_addi rfl rfl (by omega)) ?_; refine Ls (X_assign (v := .int _ _) rfl) ?_; refine L_nil ?_; refine tn ?_)
          exact ⟨r2.length - (k + 1), by omega, k + 1, rfl, by omega, E.trans Et, rfl, rfl, rfl, rfl, rfl⟩
        · have hpk := getD_up hup2 (show k - 1 < k by omega) hk'
          apply W_dagE 30 (by kernel_rfl)
          repeat (first | ((with_reducible apply d_move); (first | ((with_reducible apply d_ng); (first | apply DW_x (fun r w hA hH => (X_move (v := .int _ _) rfl).trans rfl) | apply DW_x (fun r w hA hH => (X_move (v := .slice _ _ _) rfl).trans rfl) | apply DW_x (fun r w hA hH => (X_move (v := .bool _) rfl).trans rfl))) | ((with_reducible apply d_gd); (first | apply DW_on2 rfl rfl (fun _ => rfl) (fun r w hA hH => (X_move (v := .int _ _) rfl).trans rfl) | apply DW_on2 rfl rfl (fun _ => rfl) (fun r w hA hH => (X_move (v := .slice _ _ _) rfl).trans rfl) | apply DW_on2 rfl rfl (fun _ => rfl) (fun r w hA hH => (X_move (v := .bool _) rfl).trans rfl))))) | ((with_reducible apply d_sub); ((with_reducible apply d_gd); apply DW_on2 rfl rfl (fun _ => rfl) (fun r w hA hH => (X_subN (a := k) (b := 1) rfl rfl (by omega)).trans rfl))) | ((with_reducible apply d_lss); ((with_reducible apply d_ng); apply DW_x (fun r w hA hH => (X_lssF rfl rfl (by omega)).trans rfl))) | ((with_reducible apply d_leq); ((with_reducible apply d_gd); apply DW_on2 rfl rfl (fun _ => rfl) (fun r w hA hH => (X_leqF rfl rfl (by omega)).trans rfl))) | ((with_reducible apply d_gtr); ((with_reducible apply d_gd); (first | apply DW_on2 rfl rfl (fun _ => rfl) (fun r w hA hH => (X_gtrT rfl rfl (by omega)).trans rfl) | apply DW_on2 rfl rfl (fun _ => rfl) (fun r w hA hH => (X_gtrF rfl rfl (by omega)).trans rfl)))) | ((with_reducible apply d_conv); ((with_reducible apply d_gd); apply DW_on2 rfl rfl (fun _ => rfl) (fun r w hA hH => (X_convI64 (a := nl) rfl (by omega)).trans rfl))) | ((with_reducible apply d_pick); (first | ((with_reducible apply d_ng); apply DW_x (fun r w hA hH => (X_pickF (v := .bool _) rfl rfl).trans rfl)) | ((with_reducible apply d_gd); apply DW_on2 rfl rfl (fun _ => rfl) (fun r w hA hH => (X_pickT (v := .bool _) rfl rfl).trans rfl)))) | ((with_reducible apply d_load); (first | ((with_reducible apply d_ng); apply DW_x (fun r w hA hH => (X_ldRI (j := k) rfl ((E.trans hA).range hc0) (by omega)).trans rfl)) | ((with_reducible apply d_gd); (first | apply DW_on2 rfl rfl (fun _ => rfl) (fun r w hA hH => (X_ldRI (j := k) rfl ((E.trans hA).range hc0) (by omega)).trans rfl) | apply DW_on2 rfl rfl (fun _ => rfl) (fun r w hA hH => (X_ldRI (j := k - 1) rfl ((E.trans hA).range hc0) (by omega)).trans rfl))))) | ((with_reducible apply d_idx); (first | ((with_reducible apply d_ng); apply DW_x (fun r w hA hH => (X_indexSn rfl rfl (by omega)).trans rfl)) | ((with_reducible apply d_gd); apply DW_on2 rfl rfl (fun _ => rfl) (fun r w hA hH => (X_indexSn rfl rfl (by omega)).trans rfl)))))
          ((with_reducible exact D_end); (exact rfl); (repeat (first | exact trivial | (refine And.intro ?_ ?_) | exact .inr (.inr (fun _ _ => rfl)) | exact .inl (by decide) | exact .inr (.inl rfl))); (try dsimp only [Nat.reduceAdd]))
          intro rr wt Et _
          (refine L_nil ?_; refine tn ?_; refine W_condF rfl ?_; refine W_skip ?_; refine bn ?_; refine tn ?_; refine W_region ?_; refine Ls (X_move (v := .int _ _) rfl) ?_; refine Ls (X_addi rfl rfl (by omega)) ?_; refine Ls (X_assign (v := .int _ _) rfl) ?_; refine L_nil ?_; refine tn ?_)
          exact ⟨r2.length - (k + 1), by omega, k + 1, rfl, by omega, E.trans Et, rfl, rfl, rfl, rfl, rfl⟩
      · (refine W_seq ?_; refine W_seq ?_; refine W_region ?_; refine Ls (X_move (v := .int _ _) rfl) ?_; refine Ls (X_move (v := q2) rfl) ?_; refine Ls (X_lenRow (v := q2) rfl (y2.ext E)) ?_; refine Ls (X_lssF rfl rfl (by omega)) ?_; refine L_nil ?_; refine tn ?_; refine W_condF rfl ?_; refine W_exit ?_; refine te ?_; refine te ?_)
        exact ⟨rfl, E, rfl, rfl, rfl⟩
  · rintro _ f wr ⟨rfl, E, f7, f15, f17⟩
    rw [fold f7, fold f15, fold f17]
    (refine bx ?_; refine tn ?_; refine W_seq ?_; refine W_region ?_; refine Ls (X_assign (v := .int _ _) rfl) ?_; refine L_nil ?_; refine tn ?_; refine W_seq ?_; refine W_seq ?_; refine W_region ?_; refine Ls (X_assign (v := .int _ _) rfl) ?_; refine L_nil ?_; refine tn ?_; refine W_block ?_)
    refine W_loop (fun q f w' => ∃ k i, q = r1.length - k ∧ k ≤ r1.length ∧ i ≤ r2.length ∧ Ext w16 w' ∧ (∀ j, j < i → k < r1.length → r2.getD j 0 < r1.getD k 0) ∧ f 7 = .bool true ∧ f 15 = q1 ∧ f 17 = q2 ∧ f 19 = .int .i64 (i : Nat) ∧ f 20 = .int .i64 (k : Nat)) r1.length ?_ ?_
    · exact ⟨0, 0, rfl, by omega, by omega, E, fun j hj => absurd hj (by omega), rfl, rfl, rfl, rfl, rfl⟩
    · clear E
      rintro q f wx ⟨k, i, rfl, hk, hi, E, hb, f7, f15, f17, f19, f20⟩
      rw [fold f7, fold f15, fold f17, fold f19, fold f20]
      by_cases hk' : k < r1.length
      · obtain ⟨jj, hjj, hje⟩ := mem_getD (hsub _ (getD_mem hk'))
        have hij : i ≤ jj := by
          apply Classical.byContradiction
          intro hn
          have := hb jj (by omega) hk'
          omega
        (refine W_seq ?_; refine W_seq ?_; refine W_region ?_; refine Ls (X_move (v := .int _ _) rfl) ?_; refine Ls (X_move (v := q1) rfl) ?_; refine Ls (X_lenRow (v := q1) rfl (y1.ext E)) ?_; refine Ls (X_lssT rfl rfl (by omega)) ?_; refine L_nil ?_; refine tn ?_; refine W_condT rfl ?_; refine W_skip ?_; refine tn ?_; refine W_seq ?_; refine W_block ?_; refine W_seq ?_; refine W_block ?_)
        obtain ⟨b1, o1, cc1, rfl, _, _, _, hc1⟩ := y1.at (k := k) hk'
        obtain ⟨b0, o0, cc0, rfl, _, _, _, hc0⟩ := y2.at (k := jj) hjj
        refine W_mono (Q := fun e f w' => e = .exit 4 ∧ ∃ i, i ≤ jj ∧ Ext w16 w' ∧ (∀ j, j < i → r2.getD j 0 < r1.getD k 0) ∧ r1.getD k 0 ≤ r2.getD i 0 ∧ f 7 = .bool true ∧ f 15 = .slice (some ⟨b1, o1, none⟩) r1.length cc1 ∧ f 17 = .slice (some ⟨b0, o0, none⟩) r2.length cc0 ∧ f 19 = .int .i64 (i : Nat) ∧ f 20 = .int .i64 (k : Nat)) ?_ ?_
        · refine W_loop (fun q f w' => ∃ i, q = jj - i ∧ i ≤ jj ∧ Ext w16 w' ∧ (∀ j, j < i → r2.getD j 0 < r1.getD k 0) ∧ f 7 = .bool true ∧ f 15 = .slice (some ⟨b1, o1, none⟩) r1.length cc1 ∧ f 17 = .slice (some ⟨b0, o0, none⟩) r2.length cc0 ∧ f 19 = .int .i64 (i : Nat) ∧ f 20 = .int .i64 (k : Nat)) (jj - i) ?_ ?_
          · exact ⟨i, rfl, hij, E, fun j hj => hb j hj hk', rfl, rfl, rfl, rfl, rfl⟩
          · clear hb E hi hij f7 f15 f17 f19 f20
            rintro q f wy ⟨i, rfl, hij, E, hb, f7, f15, f17, f19, f20⟩
            rw [fold f7, fold f15, fold f17, fold f19, fold f20]
            by_cases hcmp : r2.getD i 0 < r1.getD k 0
            · have hne : i ≠ jj := by rintro rfl; omega
              (refine W_seq ?_; refine W_seq ?_)
              apply W_dagE 15 (by kernel_rfl)
              (apply DW_x (fun r w hA hH => (X_move (v := .int _ _) rfl).trans rfl); apply DW_x (fun r w hA hH => (X_move (v := .slice _ _ _) rfl).trans rfl); apply DW_x (fun r w hA hH => (X_lenSlice rfl).trans rfl); apply DW_x (fun r w hA hH => (X_lssT rfl rfl (by omega)).trans rfl); apply DW_x (fun r w hA hH => (X_move (v := .bool _) rfl).trans rfl); apply DW_on2 rfl rfl (fun _ => rfl) (fun r w hA hH => (X_move (v := .slice _ _ _) rfl).trans rfl); apply DW_on2 rfl rfl (fun _ => rfl) (fun r w hA hH => (X_move (v := .int _ _) rfl).trans rfl); apply DW_on2 rfl rfl (fun _ => rfl) (fun r w hA hH => (X_indexSn rfl rfl (by omega)).trans rfl); apply DW_on2 rfl rfl (fun _ => rfl) (fun r w hA hH => (X_ldRI (j := i) rfl ((E.trans hA).range hc0) (by omega)).trans rfl); apply DW_on2 rfl rfl (fun _ => rfl) (fun r w hA hH => (X_move (v := .slice _ _ _) rfl).trans rfl); apply DW_on2 rfl rfl (fun _ => rfl) (fun r w hA hH => (X_move (v := .int _ _) rfl).trans rfl); apply DW_on2 rfl rfl (fun _ => rfl) (fun r w hA hH => (X_indexSn rfl rfl (by omega)).trans rfl); apply DW_on2 rfl rfl (fun _ => rfl) (fun r w hA hH => (X_ldRI (j := k) rfl ((E.trans hA).range hc1) (by omega)).trans rfl); apply DW_on2 rfl rfl (fun _ => rfl) (fun r w hA hH => (X_lssT rfl rfl (by omega)).trans rfl); apply DW_x (fun r w hA hH => (X_pickT (v := .bool _) rfl rfl).trans rfl))
              ((with_reducible exact D_end); (exact rfl); (repeat (first | exact trivial | (refine And.intro ?_ ?_) | exact .inr (.inr (fun _ _ => rfl)) | exact .inl (by decide) | exact .inr (.inl rfl))); (try dsimp only [Nat.reduceAdd]))
              intro rr wt Et _
              (refine L_nil ?_; refine tn ?_; refine W_condT rfl ?_; refine W_skip ?_; refine tn ?_; refine W_block ?_; refine W_region ?_; refine Ls (X_move (v := .int _ _) rfl) ?_; refine Ls (X_addi rfl rfl (by omega)) ?_; refine Ls (X_assign (v := .int _ _) rfl) ?_; refine L_nil ?_; refine bn ?_; refine tn ?_)
              refine ⟨jj - (i + 1), by omega, i + 1, rfl, by omega, E.trans Et, ?_, rfl, rfl, rfl, rfl, rfl⟩
              intro j hj
              by_cases hji : j = i
              · subst hji; exact hcmp
              · exact hb j (by omega)
            · (refine W_seq ?_; refine W_seq ?_)
              apply W_dagE 15 (by kernel_rfl)
              (apply DW_x (fun r w hA hH => (X_move (v := .int _ _) rfl).trans rfl); apply DW_x (fun r w hA hH => (X_move (v := .slice _ _ _) rfl).trans rfl); apply DW_x (fun r w hA hH => (X_lenSlice rfl).trans rfl); apply DW_x (fun r w hA hH => (X_lssT rfl rfl (by omega)).trans rfl); apply DW_x (fun r w hA hH => (X_move (v := .bool _) rfl).trans rfl); apply DW_on2 rfl rfl (fun _ => rfl) (fun r w hA hH => (X_move (v := .slice _ _ _) rfl).trans rfl); apply DW_on2 rfl rfl (fun _ => rfl) (fun r w hA hH => (X_move (v := .int _ _) rfl).trans rfl); apply DW_on2 rfl rfl (fun _ => rfl) (fun r w hA hH => (X_indexSn rfl rfl (by omega)).trans rfl); apply DW_on2 rfl rfl (fun _ => rfl) (fun r w hA hH => (X_ldRI (j := i) rfl ((E.trans hA).range hc0) (by omega)).trans rfl); apply DW_on2 rfl rfl (fun _ => rfl) (fun r w hA hH => (X_move (v := .slice _ _ _) rfl).trans rfl); apply DW_on2 rfl rfl (fun _ => rfl) (fun r w hA hH => (X_move (v := .int _ _) rfl).trans rfl); apply DW_on2 rfl rfl (fun _ => rfl) (fun r w hA hH => (X_indexSn rfl rfl (by omega)).trans rfl); apply DW_on2 rfl rfl (fun _ => rfl) (fun r w hA hH => (X_ldRI (j := k) rfl ((E.trans hA).range hc1) (by omega)).trans rfl); apply DW_on2 rfl rfl (fun _ => rfl) (fun r w hA hH => (X_lssF rfl rfl (by omega)).trans rfl); apply DW_x (fun r w hA hH => (X_pickT (v := .bool _) rfl rfl).trans rfl))
              ((with_reducible exact D_end); (exact rfl); (repeat (first | exact trivial | (refine And.intro ?_ ?_) | exact .inr (.inr (fun _ _ => rfl)) | exact .inl (by decide) | exact .inr (.inl rfl))); (try dsimp only [Nat.reduceAdd]))
              intro rr wt Et _
              (refine L_nil ?_; refine tn ?_; refine W_condF rfl ?_; refine W_exit ?_; refine te ?_; refine te ?_)
              exact ⟨rfl, i, hij, E.trans Et, hb, by omega, rfl, rfl, rfl, rfl, rfl⟩
        · clear hb E hi hij f7 f15 f17 f19 f20
          rintro _ f wy ⟨rfl, i, hij, E, hb, hge, f7, f15, f17, f19, f20⟩
          rw [fold f7, fold f15, fold f17, fold f19, fold f20]
          have heq : r2.getD i 0 = r1.getD k 0 := by
            rcases Nat.lt_or_ge i jj with h | h
            · have := getD_up hup2 h hjj; omega
            · obtain rfl : i = jj := by omega
              exact hje
          (refine bx ?_; refine tn ?_; refine W_seq ?_)
          apply W_dagE 15 (by kernel_rfl)
          (apply DW_x (fun r w hA hH => (X_move (v := .int _ _) rfl).trans rfl); apply DW_x (fun r w hA hH => (X_move (v := .slice _ _ _) rfl).trans rfl); apply DW_x (fun r w hA hH => (X_lenSlice rfl).trans rfl); apply DW_x (fun r w hA hH => (X_eqlF rfl rfl (by omega)).trans rfl); apply DW_x (fun r w hA hH => (X_move (v := .bool _) rfl).trans rfl); apply DW_on2 rfl rfl (fun _ => rfl) (fun r w hA hH => (X_move (v := .slice _ _ _) rfl).trans rfl); apply DW_on2 rfl rfl (fun _ => rfl) (fun r w hA hH => (X_move (v := .int _ _) rfl).trans rfl); apply DW_on2 rfl rfl (fun _ => rfl) (fun r w hA hH => (X_indexSn rfl rfl (by omega)).trans rfl); apply DW_on2 rfl rfl (fun _ => rfl) (fun r w hA hH => (X_ldRI (j := i) rfl ((E.trans hA).range hc0) (by omega)).trans rfl); apply DW_on2 rfl rfl (fun _ => rfl) (fun r w hA hH => (X_move (v := .slice _ _ _) rfl).trans rfl); apply DW_on2 rfl rfl (fun _ => rfl) (fun r w hA hH => (X_move (v := .int _ _) rfl).trans rfl); apply DW_on2 rfl rfl (fun _ => rfl) (fun r w hA hH => (X_indexSn rfl rfl (by omega)).trans rfl); apply DW_on2 rfl rfl (fun _ => rfl) (fun r w hA hH => (X_ldRI (j := k) rfl ((E.trans hA).range hc1) (by omega)).trans rfl); apply DW_on2 rfl rfl (fun _ => rfl) (fun r w hA hH => (X_neqF rfl rfl (by omega)).trans rfl); apply DW_x (fun r w hA hH => (X_pickF (v := .bool _) rfl rfl).trans rfl))
          ((with_reducible exact D_end); (exact rfl); (repeat (first | exact trivial | (refine And.intro ?_ ?_) | exact .inr (.inr (fun _ _ => rfl)) | exact .inl (by decide) | exact .inr (.inl rfl))); (try dsimp only [Nat.reduceAdd]))
          intro rr wt Et _
          (refine L_nil ?_; refine tn ?_; refine W_condF rfl ?_; refine W_skip ?_; refine bn ?_; refine tn ?_; refine W_region ?_; refine Ls (X_move (v := .int _ _) rfl) ?_; refine Ls (X_addi rfl rfl (by omega)) ?_; refine Ls (X_assign (v := .int _ _) rfl) ?_; refine L_nil ?_; refine tn ?_)
          refine ⟨r1.length - (k + 1), by omega, k + 1, i, rfl, by omega, by omega, E.trans Et, ?_, rfl, rfl, rfl, rfl, rfl⟩
          intro j hj hk1
          have h1 := hb j hj
          have h2 := getD_up hup1 (show k < k + 1 by omega) hk1
          omega
      · (refine W_seq ?_; refine W_seq ?_; refine W_region ?_; refine Ls (X_move (v := .int _ _) rfl) ?_; refine Ls (X_move (v := q1) rfl) ?_; refine Ls (X_lenRow (v := q1) rfl (y1.ext E)) ?_; refine Ls (X_lssF rfl rfl (by omega)) ?_; refine L_nil ?_; refine tn ?_; refine W_condF rfl ?_; refine W_exit ?_; refine te ?_; refine te ?_; refine bx ?_; refine tn ?_; refine W_seq ?_; refine W_region ?_; refine Ls (X_move (v := .bool _) rfl) ?_; refine Ls (X_assign (v := .bool _) rfl) ?_; refine L_nil ?_; refine tn ?_; refine W_ret ?_)
        refine endQ_ret1 rfl rfl (v := .bool true) rfl ?_
        exact ⟨rfl, E016.trans E⟩
end Go.Proofs.YtemodkjmdalmlaaDoor
