/- S9, SA, SB, SC, SD, SE, TI, SF, SG, SI, SO, SJ, SK, TC. -/
import Derived.Test.YtemodkjmdalmlaaDoorQ3
import Derived.Shelf.Sort.Plain
import Derived.Sort.OwnSortedInts
import Derived.Test.YtemodkjmdalmlaaDoorProg
/- The transcript: New, Absorb, draw. -/
namespace Go.Proofs.YtemodkjmdalmlaaDoor
open Go.RowKit Go.Proofs.K

theorem wordNil (x : Nat) (w : World) : Calls Tryd.prog 44 #[.slice none 0 0, .int .u64 (x : Nat)] w fun e w' => ∃ q, e = .returned q ∧ Ext w w' ∧ w'.ownsRow w.heap.size 5 1 q 8 (ints .u8 (word x 8)) :=
  (appendWord w.heap.size 0 x (.slice none 0 0) [] w (Nat.le_refl _) ⟨rfl, .inl ⟨rfl, rfl⟩⟩ (by omega)).mono fun _ _ ⟨q, he, ho, hg, _⟩ => ⟨q, he, hg.g, ho⟩
theorem own_cell {w : World} {base m size : Nat} {e : TypeId} {v : Value} {xs : List Value} (h : w.ownsRow base e size v m xs) : v.oneCell' = true := by
  obtain ⟨_, ⟨rfl, _⟩ | ⟨g, cap, cur, rfl, _⟩⟩ := h <;> rfl
theorem row_cell {w : World} {lo hi m size : Nat} {v : Value} {xs : List Value} (h : Row w lo hi size v m xs) : v.oneCell' = true := by
  obtain ⟨_, A, c, rfl, _⟩ := h; rfl

set_option maxHeartbeats 1000000 in
theorem gabsorb (s : List Nat) (c : Nat) (hs : s.length = 32) (hs8 : ∀ x ∈ s, x < 256) (lab : ByteArray) (hl : lab.size ≤ 100000000) (lo hi : Nat) (v : Value) (b : List Nat) (hb8 : ∀ x ∈ b, x < 256) (hb : b.length ≤ 10000000)
    (w : World) (hw : Tabs w) (hr : Row w lo hi 1 v b.length (ints .u8 b)) :
    Calls Tryd.prog 25 #[.agg (trC s c).toArray, .string lab, v] w fun e w' => e = .returned (.agg (trC (Tr.absorb s (sb lab) b) 0).toArray) ∧ Ext w w' := by
  refine calls_W Tryd.func25 rfl Tryd.ntmps25 rfl ?_
  (refine W_seq ?_; refine W_region ?_)
  refine L_box rfl ?_
  intro g1 w1 B1 hg1 E1 hs1
  refine L_alloc ?_
  intro g2 w2 B2 hg2 E2 hs2
  have Ea := E1.trans E2
  have hv1 := row_cell hr
  (refine L_nil ?_; refine tn ?_; refine W_seq ?_)
  apply W_dagE 10 (by kernel_rfl)
  (apply DW_x (fun r w hA hH => (X_ldW rfl ((B1.ext E2).ext hA) (trC_len hs)).trans rfl); apply DW_x (fun r w hA hH => (X_move (v := .string _) rfl).trans rfl); apply DW_x (fun r w hA hH => (X_move (v := v) rfl).trans rfl); apply DW_x (fun r w hA hH => (X_lenRow (v := v) rfl (hr.ext (Ea.trans hA))).trans rfl); apply DW_x (fun r w hA hH => (X_conv rfl).trans rfl))
  ((with_reducible apply DW_fo); (exact fun _ => rfl); (exact fun _ => rfl); (exact fun r w hA hH => calls_own hA ((by
    rw [u64_nat, Nat.mod_eq_of_lt (by omega)]
    exact wordNil b.length w))); (exact fun _ _ _ _ _ _ E h => OwnF.ext E h))
  (apply DW_x (fun r w hA hH => (X_move (v := v) rfl).trans rfl))
  apply DW_lit2 (w0 := w2) (fun r => r 5) (fun r => v) (fun r => rfl) (fun r => rfl) (fun r w hA hH => (by
    obtain ⟨b5, _, o5⟩ := hH 5 rfl
    exact ⟨own_cell o5, hv1⟩)) (fun w hA => hA.size) (fun r v => rfl) (fun r v => rfl)
  ((with_reducible apply DW_fn); (exact fun _ => rfl); (exact fun _ => rfl); (exact fun r w hA hH => (by
    obtain ⟨b5, _, o5⟩ := hH 5 rfl
    obtain ⟨lo7, hi7, _, r7⟩ := hH 7 rfl
    have hps : Parted w [(r 5, word b.length 8), (v, b)] := by
      intro p hp
      rcases List.mem_cons.1 hp with rfl | hp
      · exact ⟨_, _, (Row.of_own o5).re (word_len _ _).symm rfl⟩
      · rcases List.mem_cons.1 hp with rfl | hp
        · exact ⟨_, _, hr.ext (Ea.trans hA)⟩
        · cases hp
    have hcat : cat [(r 5, word b.length 8), (v, b)] 2 = word b.length 8 ++ b := by simp [cat]
    have := gtagged s c 1 hs hs8 (by omega) lab hl lo7 hi7 (r 7) [(r 5, word b.length 8), (v, b)] (by rw [show [(r 5, word b.length 8), (v, b)].length = 2 from rfl, hcat, List.length_append, word_len]; omega) (by simp) (by
      rw [show [(r 5, word b.length 8), (v, b)].length = 2 from rfl, hcat]
      intro x hx
      rcases List.mem_append.1 hx with hx | hx
      · exact Tr.word_lt _ _ x hx
      · exact hb8 x hx) w (hw.ext (Ea.trans hA)) r7 hps
    rw [show [(r 5, word b.length 8), (v, b)].length = 2 from rfl, hcat, ← List.append_assoc] at this
    exact this)))
  ((with_reducible apply DW_x); (exact fun r w hA hH => (X_mkTr1 (Tr.absorb_len s (sb lab) b) rfl).trans rfl))
  ((with_reducible exact D_end); (exact rfl); (repeat (first | exact trivial | (refine And.intro ?_ ?_) | exact .inr (.inr (fun _ _ => rfl)) | exact .inl (by decide) | exact .inr (.inl rfl))); (try dsimp only [Nat.reduceAdd]))
  intro r w3 E3 H3
  refine L_storeW rfl rfl (trC_len (Tr.absorb_len _ _ _)) trC_cell (B2.ext E3) rfl ?_
  intro w4 B4 hg4 _
  (refine L_nil ?_; refine tn ?_; refine W_ret ?_)
  refine endQ_res rfl rfl (Res.cellA inferInstance rfl (B4.range (fun j u h => by simpa using h)) (trC_len (Tr.absorb_len _ _ _)) .nil) ?_
  exact ⟨rfl, (Ea.trans E3).then hg4 (fun g h => by cases h; have := E1.size; omega)⟩

set_option maxHeartbeats 1000000 in
theorem gnew (lab : ByteArray) (hl : lab.size ≤ 100000000) (w : World) (hw : Tabs w) :
    Calls Tryd.prog 26 #[.string lab] w fun e w' => e = .returned (.agg (trC (Tr.new (sb lab)) 0).toArray) ∧ Ext w w' := by
  refine calls_W Tryd.func26 rfl Tryd.ntmps26 rfl ?_
  (refine W_seq ?_; refine W_region ?_)
  refine L_alloc ?_
  intro g1 w1 B1 hg1 E1 hs1
  (refine L_nil ?_; refine tn ?_; refine W_seq ?_; refine W_region ?_; refine Ls (X_move (v := .string _) rfl) ?_)
  refine Ls (X_addS rfl rfl (by have : (ByteArray.mk #[97, 116, 116, 101, 115, 116, 111, 114, 0]).size = 9 := rfl
                                omega)) ?_
  have hsz : (ByteArray.mk #[97, 116, 116, 101, 115, 116, 111, 114, 0] ++ lab).size = 9 + lab.size := by rw [ByteArray.size_append]; rfl
  have hsb : sb (ByteArray.mk #[97, 116, 116, 101, 115, 116, 111, 114, 0] ++ lab) = Tr.head ++ sb lab := by rw [sb_append]; rfl
  refine L_toBytes rfl (by unfold maxLen; omega) ?_
  intro q4 w4 E4 r4
  rw [hsb, hsz] at r4
  have hok : Sha.bytesOk (Tr.head ++ sb lab) := by
    intro x hx
    rcases List.mem_append.1 hx with hx | hx
    · exact (show ∀ y ∈ Tr.head, y < 256 by decide) x hx
    · exact sb_lt lab x hx
  have hw4 := hw.ext (E1.trans E4)
  refine L_fv rfl (gsum _ _ q4 (Tr.head ++ sb lab) hok (by rw [List.length_append, sb_len]; simp [Tr.head]; omega) w4 (r4.re (by rw [List.length_append, sb_len]; rfl) rfl) hw4.k hw4.i) ?_
  intro w6 E6
  refine Ls (X_mkTr1 (Tr.new_len (sb lab)) rfl) ?_
  have Eb := E4.trans E6
  refine L_storeW rfl rfl (trC_len (Tr.new_len _)) trC_cell (B1.ext Eb) rfl ?_
  intro w7 B7 hg7 _
  (refine L_nil ?_; refine tn ?_; refine W_ret ?_)
  refine endQ_res rfl rfl (Res.cellA inferInstance rfl (B7.range (fun j u h => by simpa using h)) (trC_len (Tr.new_len _)) .nil) ?_
  exact ⟨rfl, (E1.trans Eb).then hg7 (fun g h => by cases h; omega)⟩

set_option maxHeartbeats 1000000 in
theorem gdraw (s : List Nat) (c tag : Nat) (hs : s.length = 32) (hs8 : ∀ x ∈ s, x < 256) (ht : tag < 256) (lab : ByteArray) (hl : lab.size ≤ 100000000) (w : World) (hw : Tabs w) :
    Calls Tryd.prog 45 #[.agg (trC s c).toArray, .int .u8 (tag : Nat), .string lab] w fun e w' => e = .returned (.tuple #[.agg (trC s ((c + 1) % 18446744073709551616)).toArray, .agg (ints .u8 (Tr.output s c tag (sb lab))).toArray]) ∧ Ext w w' := by
  refine calls_W Tryd.func45 rfl Tryd.ntmps45 rfl ?_
  (refine W_seq ?_; refine W_region ?_)
  refine L_box rfl ?_
  intro g1 w1 B1 hg1 E1 hs1
  refine L_alloc ?_
  intro g2 w2 B2 hg2 E2 hs2
  refine L_alloc ?_
  intro g3 w3 B3 hg3 E3 hs3
  have Ea := (E1.trans E2).trans E3
  (refine L_nil ?_; refine tn ?_; refine W_seq ?_)
  apply W_dagE 9 (by kernel_rfl)
  (apply DW_x (fun r w hA hH => (X_ldW rfl (((B1.ext E2).ext E3).ext hA) (trC_len hs)).trans rfl); apply DW_x (fun r w hA hH => (X_move (v := .int _ _) rfl).trans rfl); apply DW_x (fun r w hA hH => (X_move (v := .string _) rfl).trans rfl); apply DW_x (fun r w hA hH => (X_fld rfl).trans rfl))
  (apply DW_x (fun r w hA hH => (X_ld rfl (((B1.ext E2).ext E3).ext hA) (trC_ctr hs)).trans rfl))
  ((with_reducible apply DW_fo); (exact fun _ => rfl); (exact fun _ => rfl); (exact fun r w hA hH => calls_own hA (wordNil c w)); (exact fun _ _ _ _ _ _ E h => OwnF.ext E h))
  apply DW_lit1 (w0 := w3) (fun r => r 5) (fun r => rfl) (fun r w hA hH => (by
    obtain ⟨b5, _, o5⟩ := hH 5 rfl
    exact own_cell o5)) (fun w hA => hA.size) (fun r v => rfl)
  ((with_reducible apply DW_fn); (exact fun _ => rfl); (exact fun _ => rfl); (exact fun r w hA hH => (by
    obtain ⟨b5, _, o5⟩ := hH 5 rfl
    obtain ⟨lo7, hi7, _, r7⟩ := hH 6 rfl
    have hps : Parted w [(r 5, word c 8)] := by
      intro p hp
      rcases List.mem_cons.1 hp with rfl | hp
      · exact ⟨_, _, (Row.of_own o5).re (word_len _ _).symm rfl⟩
      · cases hp
    have hcat : cat [(r 5, word c 8)] 1 = word c 8 := by simp [cat]
    have := gtagged s c tag hs hs8 ht lab hl lo7 hi7 (r 6) [(r 5, word c 8)] (by rw [show [(r 5, word c 8)].length = 1 from rfl, hcat, word_len]; omega) (by simp) (by
      rw [show [(r 5, word c 8)].length = 1 from rfl, hcat]
      intro x hx
      exact Tr.word_lt _ _ x hx) w (hw.ext (Ea.trans hA)) r7 hps
    rw [show [(r 5, word c 8)].length = 1 from rfl, hcat] at this
    exact this)))
  apply DW_alloc (w0 := w3) (fun w hA => hA.size)
  ((with_reducible exact D_end); (exact rfl); (repeat (first | exact trivial | (refine And.intro ?_ ?_) | exact .inr (.inr (fun _ _ => rfl)) | exact .inl (by decide) | exact .inr (.inl rfl))); (try dsimp only [Nat.reduceAdd]))
  intro r w4 E4 H4
  obtain ⟨g5, hr8, hg5, B5⟩ : NewF w3 32 (List.replicate 32 [Value.int IntKind.u8 0]).flatten (r 8) w4 := H4 8
  rw [hr8]
  have hol : (Tr.output s c tag (sb lab)).length = 32 := Tr.output_len _ _ _ _
  refine L_storeW (l := ints .u8 (Tr.output s c tag (sb lab))) (size := 32) rfl rfl (by rw [ints_len, hol]) ints_cell B5 rfl ?_
  intro w6 B6 hg6 hs6
  have hs4 := E4.size
  have C1 := (((B1.ext E2).ext E3).ext E4).grown hg6 (by simp; omega)
  have C2 := ((B2.ext E3).ext E4).grown hg6 (by simp; omega)
  have C3 := (B3.ext E4).grown hg6 (by simp; omega)
  have hlt5 := B5.lt
  have Eb : Ext w w6 := (Ea.trans E4).then hg6 (fun g h => by cases h; omega)
  (refine L_nil ?_; refine tn ?_; refine W_seq ?_; refine W_region ?_; refine Ls (X_fld rfl) ?_; refine Ls (X_ld rfl C1 (trC_ctr hs)) ?_; refine Ls (X_add rfl rfl) ?_; refine Ls (X_fld rfl) ?_)
  refine L_store1 (v := .int _ _) rfl rfl rfl C1 (by rw [trC_len hs]; omega) ?_
  intro w7 B7 hg7 hs7
  have e5 : (trC s c).set 32 (.int .u64 (IntKind.u64.wrap ((c : Int) + 1))) = trC s ((c + 1) % 18446744073709551616) := by
    rw [show (c : Int) + 1 = ((c + 1 : Nat) : Int) by omega, u64_nat]
    simp [trC, ints_len, hs]
  rw [show (0 + 32) = 32 from rfl, e5] at B7
  have D2 := C2.grown hg7 (by simp; omega)
  have D3 := C3.grown hg7 (by simp; omega)
  have D6 := B6.grown hg7 (by simp; omega)
  have Ec : Ext w w7 := Eb.then hg7 (fun g h => by cases h; omega)
  (refine L_nil ?_; refine tn ?_; refine W_seq ?_)
  apply W_dagR (R := RB g2 34 _ _) (AB g2 34 _ (trC s ((c + 1) % 18446744073709551616)) w7) 3 (by kernel_rfl) (RB.refl _ _ _ _) (AB.new D2) AB.step
  (apply DW_x (fun r w hA hH => (X_ldW rfl (B7.grown hA.1 (by simp; omega)) (trC_len hs)).trans rfl); apply DW_x (fun r w hA hH => (X_ldW rfl (D6.grown hA.1 (by simp; omega)) (by rw [ints_len, hol])).trans rfl))
  apply DW_store (fun _ => rfl) (fun _ => rfl) rfl (trC_len hs) trC_cell
  ((with_reducible exact D_end); (exact rfl); (repeat (first | exact trivial | (refine And.intro ?_ ?_) | exact .inr (.inr (fun _ _ => rfl)) | exact .inl (by decide) | exact .inr (.inl rfl))); (try dsimp only [Nat.reduceAdd]))
  intro r8 w8 A8 H8
  have B8 : Blk w8 g2 34 (trC s ((c + 1) % 18446744073709551616)) := H8 2
  have hs8' := A8.1.size
  refine L_storeW (l := ints .u8 (Tr.output s c tag (sb lab))) (size := 32) rfl rfl (by rw [ints_len, hol]) ints_cell (D3.grown A8.1 (by simp; omega)) rfl ?_
  intro w9 B9 hg9 hs9
  have B8' := B8.grown hg9 (by simp; omega)
  (refine L_nil ?_; refine tn ?_; refine W_ret ?_)
  refine endQ_res rfl rfl (Res.cellA inferInstance rfl (B8'.range (fun j u h => by simpa using h)) (trC_len hs) (Res.cellA (cs := ints .u8 (Tr.output s c tag (sb lab))) inferInstance rfl (B9.range (fun j u h => by simpa using h)) (by rw [ints_len, hol]) .nil)) ?_
  exact ⟨rfl, (Ec.then A8.1 (fun g h => by cases h; omega)).then hg9 (fun g h => by cases h; omega)⟩

theorem gword_walk (l : List Nat) (hl : ∀ x ∈ l, x < 256) (i k : Nat) (hk : k < 8) (hl2 : i + 8 ≤ l.length) (x : Nat) (hx : x = Tr.leVal (((l.drop i).take 8).drop (k + 1))) :
    bits .or .u64 (IntKind.u64.wrap ((x : Int) * 2 ^ min (8 : Int).toNat IntKind.u64.bits)) (IntKind.u64.wrap ((l.getD (i + k) 0 : Nat) : Int)) = ((Tr.leVal (((l.drop i).take 8).drop k) : Nat) : Int) := by
  have h1 := Tr.drop_lt hl i (k + 1) (by omega)
  rw [← hx] at h1
  have h2 : l.getD (i + k) 0 < 256 := by
    rw [List.getD_eq_getElem?_getD, List.getElem?_eq_getElem (show i + k < l.length by omega)]
    exact hl _ (List.getElem_mem _)
  have h3 : x * 256 < 18446744073709551616 := by
    have h4 : (256 : Nat) ^ (8 - (k + 1)) ≤ 256 ^ 7 := Nat.pow_le_pow_right (by omega) (by omega)
    omega
  have e1 : ((x : Int) * 2 ^ min (8 : Int).toNat IntKind.u64.bits) = ((x * 256 : Nat) : Int) := by
    have : min (8 : Int).toNat IntKind.u64.bits = 8 := by decide
    rw [this]; omega
  rw [e1, u64_nat, u64_nat, Nat.mod_eq_of_lt h3, Nat.mod_eq_of_lt (by omega), bits_u64_or _ _ h3 (by omega)]
  rw [Tr.valAt_step l i k hk hl2, ← hx]
  congr 1
  rw [show x * 256 = x <<< 8 by rw [Nat.shiftLeft_eq], ← Nat.shiftLeft_add_eq_or_of_lt (show l.getD (i + k) 0 < 2 ^ 8 by omega), Nat.shiftLeft_eq]
  omega

set_option maxHeartbeats 1000000 in
theorem gword (l : List Nat) (hl : ∀ x ∈ l, x < 256) (h32 : l.length = 32) (i : Nat) (hi : i < 4) (w : World) :
    Calls Tryd.prog 47 #[.agg (ints .u8 l).toArray, .int .i64 (i : Nat)] w fun e w' => e = .returned (.int .u64 ((Tr.valAt l (8 * i) : Nat) : Int)) ∧ Ext w w' := by
  refine calls_W Tryd.func47 rfl Tryd.ntmps47 rfl ?_
  (refine W_seq ?_; refine W_region ?_)
  refine L_box rfl ?_
  intro g1 w1 B1 hg1 E1 hs1
  (refine Ls (X_assign (v := .int _ _) rfl) ?_; refine L_nil ?_; refine tn ?_; refine W_seq ?_; refine W_region ?_; refine Ls (X_assign (v := .int _ _) rfl) ?_; refine L_nil ?_; refine tn ?_; refine W_seq ?_; refine W_seq ?_; refine W_region ?_; refine Ls (X_assign (v := .int _ _) rfl) ?_; refine L_nil ?_; refine tn ?_; refine W_block ?_)
  refine W_loop (fun q f w' => ∃ k x, q = 8 - k ∧ k ≤ 8 ∧ w1 = w' ∧ f 1 = .int .i64 (i : Nat) ∧ f 2 = .pointer (some ⟨g1, 0, none⟩) ∧ f 5 = .int .u64 ((x : Nat) : Int) ∧ x = Tr.leVal (((l.drop (8 * i)).take 8).drop (8 - k)) ∧ f 6 = .int .i64 (7 - (k : Int))) 8 ?_ ?_
  · refine ⟨0, 0, rfl, by omega, rfl, rfl, rfl, rfl, ?_, rfl⟩
    rw [List.drop_eq_nil_of_le (by simp; omega)]; rfl
  · rintro q f w' ⟨k, x, rfl, hk, rfl, h1, h2, h5, hx, h6⟩
    rw [fold h1, fold h2, fold h5, fold h6]
    (refine W_seq ?_; refine W_seq ?_; refine W_region ?_; refine Ls (X_move (v := .int _ _) rfl) ?_; refine Ls (X_geq rfl rfl) ?_; refine L_nil ?_; refine tn ?_)
    refine W_condp rfl (fun h => ?_) (fun h => ?_)
    · have hk' : k < 8 := by omega
      have e1 : (0 + (8 * (i : Int) + (7 - (k : Int))).toNat * 1) = 8 * i + (7 - k) := by omega
      (refine W_skip ?_; refine tn ?_; refine W_seq ?_; refine W_block ?_; refine W_region ?_; refine Ls (X_move (v := .int _ _) rfl) ?_; refine Ls (X_shl rfl rfl (by omega)) ?_; refine Ls (X_move (v := .int _ _) rfl) ?_; refine Ls (X_muli rfl rfl (by omega)) ?_; refine Ls (X_move (v := .int _ _) rfl) ?_; refine Ls (X_addi rfl rfl (by omega)) ?_; refine Ls (X_indexA rfl rfl (by omega)) ?_; refine Ls (X_ldI rfl B1 (by omega)) ?_; refine Ls (X_conv rfl) ?_; refine Ls (X_or rfl rfl) ?_; refine Ls (X_assign (v := .int _ _) rfl) ?_; refine L_nil ?_; refine bn ?_; refine tn ?_; refine W_region ?_; refine Ls (X_move (v := .int _ _) rfl) ?_; refine Ls (X_subi rfl rfl (by omega)) ?_; refine Ls (X_assign (v := .int _ _) rfl) ?_; refine L_nil ?_; refine tn ?_)
      rw [e1, gword_walk l hl (8 * i) (7 - k) (by omega) (by omega) x (by rw [hx, show 8 - k = 7 - k + 1 by omega])]
      refine ⟨8 - (k + 1), by omega, k + 1, _, rfl, by omega, rfl, rfl, rfl, rfl, ?_, congrArg (Value.int .i64) (show 7 - (k : Int) - 1 = 7 - ((k + 1 : Nat) : Int) by omega)⟩
      rw [show 8 - (k + 1) = 7 - k by omega]
    · obtain rfl : k = 8 := by omega
      (refine W_exit ?_; refine te ?_; refine te ?_; refine bx ?_; refine tn ?_; refine W_seq ?_; refine W_region ?_; refine Ls (X_move (v := .int _ _) rfl) ?_; refine Ls (X_assign (v := .int _ _) rfl) ?_; refine L_nil ?_; refine tn ?_; refine W_ret ?_)
      refine endQ_ret1 rfl rfl (v := .int _ _) rfl ?_
      refine ⟨?_, E1⟩
      rw [hx]; rfl

theorem greduce (x : Nat) (hx : x < 18446744073709551616) (w : World) :
    Calls Tryd.prog 46 #[.int .u64 (x : Nat)] w fun e w' => e = .returned (.int .u64 ((x % Tr.pr : Nat) : Int)) ∧ Ext w w' := by
  refine calls_W Tryd.func46 rfl Tryd.ntmps46 rfl ?_
  (refine W_seq ?_; refine W_region ?_; refine Ls (X_assign (v := .int _ _) rfl) ?_; refine L_nil ?_; refine tn ?_; refine W_seq ?_; refine W_seq ?_; refine W_region ?_; refine Ls (X_move (v := .int _ _) rfl) ?_; refine Ls (X_geq rfl rfl) ?_; refine L_nil ?_; refine tn ?_)
  refine W_condp rfl (fun h => ?_) (fun h => ?_)
  · (refine W_region ?_; refine Ls (X_move (v := .int _ _) rfl) ?_; refine Ls (X_sub rfl rfl) ?_; refine Ls (X_assign (v := .int _ _) rfl) ?_; refine L_nil ?_; refine tn ?_; refine W_seq ?_; refine W_region ?_; refine Ls (X_move (v := .int _ _) rfl) ?_; refine Ls (X_assign (v := .int _ _) rfl) ?_; refine L_nil ?_; refine tn ?_; refine W_ret ?_)
    refine endQ_ret1 rfl rfl (v := .int _ _) rfl ?_
    refine ⟨?_, Ext.refl w⟩
    have e : (x : Int) - 18446744069414584321 = ((x - 18446744069414584321 : Nat) : Int) := by omega
    have e2 : x % Tr.pr = x - 18446744069414584321 := by unfold Tr.pr; omega
    rw [e, u64_nat, Nat.mod_eq_of_lt (by omega), e2]
  · (refine W_skip ?_; refine tn ?_; refine W_seq ?_; refine W_region ?_; refine Ls (X_move (v := .int _ _) rfl) ?_; refine Ls (X_assign (v := .int _ _) rfl) ?_; refine L_nil ?_; refine tn ?_; refine W_ret ?_)
    refine endQ_ret1 rfl rfl (v := .int _ _) rfl ?_
    have e2 : x % Tr.pr = x := by unfold Tr.pr; omega
    rw [e2]
    exact ⟨rfl, Ext.refl w⟩
end Go.Proofs.YtemodkjmdalmlaaDoor

/- The transcript: Challenge, Bytes, AbsorbExt, AbsorbInts. -/
namespace Go.Proofs.YtemodkjmdalmlaaDoor
open Go.RowKit Go.Proofs.K

set_option maxHeartbeats 1000000 in
theorem gchallenge (s : List Nat) (c : Nat) (hs : s.length = 32) (hs8 : ∀ x ∈ s, x < 256) (lab : ByteArray) (hl : lab.size ≤ 100000000) (w : World) (hw : Tabs w) :
    Calls Tryd.prog 21 #[.agg (trC s c).toArray, .string lab] w fun e w' => e = .returned (.tuple #[.agg (trC s ((c + 1) % 18446744073709551616)).toArray, .agg (exC (Tr.valAt (Tr.output s c 2 (sb lab)) 0 % Tr.pr) (Tr.valAt (Tr.output s c 2 (sb lab)) 8 % Tr.pr)).toArray]) ∧ Ext w w' := by
  refine calls_W Tryd.func21 rfl Tryd.ntmps21 rfl ?_
  (refine W_seq ?_; refine W_region ?_)
  refine L_box rfl ?_
  intro g1 w1 B1 hg1 E1 hs1
  refine L_alloc ?_
  intro g2 w2 B2 hg2 E2 hs2
  refine L_alloc ?_
  intro g3 w3 B3 hg3 E3 hs3
  have Ea := (E1.trans E2).trans E3
  have C1 := (B1.ext E2).ext E3
  (refine L_nil ?_; refine tn ?_; refine W_seq ?_; refine W_region ?_; refine Ls (X_ldW rfl C1 (trC_len hs)) ?_; refine Ls (X_move (v := .string _) rfl) ?_)
  refine L_fv rfl (gdraw s c 2 hs hs8 (by omega) lab hl w3 (hw.ext Ea)) ?_
  intro w4 E4
  have hol : (Tr.output s c 2 (sb lab)).length = 32 := Tr.output_len _ _ _ _
  have hob : ∀ x ∈ Tr.output s c 2 (sb lab), x < 256 := Tr.sum_lt _
  obtain ⟨O, hO⟩ : ∃ O, O = Tr.output s c 2 (sb lab) := ⟨_, rfl⟩
  rw [← hO] at hol hob ⊢
  obtain ⟨c', hc'⟩ : ∃ c', c' = (c + 1) % 18446744073709551616 := ⟨_, rfl⟩
  rw [← hc']
  (refine Ls (X_move (v := .tuple _) rfl) ?_; refine Ls (X_extract rfl rfl) ?_; refine Ls (X_extract rfl rfl) ?_)
  refine L_alloc ?_
  intro g5 w5 B5 hg5 E5 hs5
  have hs4 := E4.size
  refine L_storeW (l := trC s c') (size := 33) rfl rfl (trC_len hs) trC_cell ((C1.ext E4).ext E5) (trC_len hs) ?_
  intro w6 B6 hg6 hs6
  refine L_storeW (l := ints .u8 O) (size := 32) rfl rfl (by rw [ints_len, hol]) ints_cell (B5.grown hg6 (by simp; omega)) rfl ?_
  intro w7 B7 hg7 hs7
  have Eb : Ext w w7 := (((Ea.trans E4).trans E5).then hg6 (fun g h => by cases h; omega)).then hg7 (fun g h => by cases h; omega)
  have D1 := B6.grown hg7 (by simp; omega)
  have D2 := ((((B2.ext E3).ext E4).ext E5).grown hg6 (by simp; omega)).grown hg7 (by simp; omega)
  have D3 := (((B3.ext E4).ext E5).grown hg6 (by simp; omega)).grown hg7 (by simp; omega)
  (refine L_nil ?_; refine tn ?_; refine W_seq ?_)
  apply W_dagR (R := RB g2 34 _ _) (AB g2 34 _ (trC s c') w7) 9 (by kernel_rfl) (RB.refl _ _ _ _) (AB.new D2) AB.step
  (apply DW_x (fun r w hA hH => (X_ldW rfl (D1.grown hA.1 (by simp; omega)) (trC_len hs)).trans rfl); apply DW_x (fun r w hA hH => (X_ldW rfl (B7.grown hA.1 (by simp; omega)) (by rw [ints_len, hol])).trans rfl))
  ((with_reducible apply DW_fn); (exact fun _ => rfl); (exact fun _ => rfl); (exact fun r w hA hH => gword O hob hol 0 (by omega) w))
  ((with_reducible apply DW_fn); (exact fun _ => rfl); (exact fun _ => rfl); (exact fun r w hA hH => greduce _ (Tr.valAt_lt hob _) w))
  (apply DW_x (fun r w hA hH => (X_ldW rfl (B7.grown hA.1 (by simp; omega)) (by rw [ints_len, hol])).trans rfl))
  ((with_reducible apply DW_fn); (exact fun _ => rfl); (exact fun _ => rfl); (exact fun r w hA hH => gword O hob hol 1 (by omega) w))
  ((with_reducible apply DW_fn); (exact fun _ => rfl); (exact fun _ => rfl); (exact fun r w hA hH => greduce _ (Tr.valAt_lt hob _) w))
  ((with_reducible apply DW_x); (exact fun r w hA hH => (X_mkEx rfl rfl).trans rfl))
  apply DW_store (fun _ => rfl) (fun _ => rfl) rfl (trC_len hs) trC_cell
  ((with_reducible exact D_end); (exact rfl); (repeat (first | exact trivial | (refine And.intro ?_ ?_) | exact .inr (.inr (fun _ _ => rfl)) | exact .inl (by decide) | exact .inr (.inl rfl))); (try dsimp only [Nat.reduceAdd]))
  intro r w8 A8 H8
  have B8 : Blk w8 g2 34 (trC s c') := H8 8
  have hs8' := A8.1.size
  refine L_storeW rfl rfl rfl exC_cell (D3.grown A8.1 (by simp; omega)) rfl ?_
  intro w9 B9 hg9 hs9
  have B8' := B8.grown hg9 (by simp; omega)
  (refine L_nil ?_; refine tn ?_; refine W_ret ?_)
  refine endQ_res rfl rfl (Res.cellA inferInstance rfl (B8'.range (fun j u h => by simpa using h)) (trC_len hs) (Res.cellA inferInstance rfl (B9.range (fun j u h => by simpa using h)) rfl .nil)) ?_
  exact ⟨rfl, (Eb.then A8.1 (fun g h => by cases h; omega)).then hg9 (fun g h => by cases h; omega)⟩

/-! field pairs in a row -/
def exs (l : List (Nat × Nat)) : List Value := (l.map fun p => exC p.1 p.2).flatten
theorem exs_len (l : List (Nat × Nat)) : (exs l).length = l.length * 2 := by
  induction l with
  | nil => rfl
  | cons p l ih => simp only [exs, List.map_cons, List.flatten_cons, List.length_append, List.length_cons] at ih ⊢; rw [ih]; simp [exC]; omega
theorem exs_app (a b : List (Nat × Nat)) : exs (a ++ b) = exs a ++ exs b := by simp [exs]
theorem exs_cell {l : List (Nat × Nat)} : ∀ v ∈ exs l, v.oneCell' = true := by
  intro v hv
  obtain ⟨c, hc, hv⟩ := List.mem_flatten.1 hv
  obtain ⟨p, _, rfl⟩ := List.mem_map.1 hc
  exact exC_cell v hv
theorem exs_get {l : List (Nat × Nat)} {i : Nat} {p : Nat × Nat} (h : l[i]? = some p) : (exs l)[i * 2]? = some (.int .u64 (p.1 : Nat)) ∧ (exs l)[i * 2 + 1]? = some (.int .u64 (p.2 : Nat)) := by
  induction l generalizing i with
  | nil => simp at h
  | cons q l ih =>
    have e : exs (q :: l) = [.int .u64 (q.1 : Nat), .int .u64 (q.2 : Nat)] ++ exs l := by simp [exs, exC]
    cases i with
    | zero => simp at h; subst h; rw [e]; exact ⟨rfl, rfl⟩
    | succ i =>
      have := ih (i := i) (by simpa using h)
      rw [e, List.getElem?_append_right (by simp; omega), List.getElem?_append_right (by simp; omega)]
      simp only [List.length_cons, List.length_nil]
      rw [show (i + 1) * 2 - (0 + 1 + 1) = i * 2 by omega, show (i + 1) * 2 + 1 - (0 + 1 + 1) = i * 2 + 1 by omega]
      exact this
/-- the encoding of field pairs -/
def enc (l : List (Nat × Nat)) : List Nat := (l.map fun p => word p.1 8 ++ word p.2 8).flatten
theorem enc_app (a b : List (Nat × Nat)) : enc (a ++ b) = enc a ++ enc b := by simp [enc]
theorem enc_len (l : List (Nat × Nat)) : (enc l).length = 16 * l.length := by
  induction l with
  | nil => rfl
  | cons p l ih => simp only [enc, List.map_cons, List.flatten_cons, List.length_append, List.length_cons, word_len] at ih ⊢; omega
theorem enc_succ {l : List (Nat × Nat)} {i : Nat} {p : Nat × Nat} (h : l[i]? = some p) : enc (l.take (i + 1)) = enc (l.take i) ++ word p.1 8 ++ word p.2 8 := by
  rw [List.take_add_one, h, enc_app]; simp [enc]
theorem enc_lt (l : List (Nat × Nat)) : ∀ x ∈ enc l, x < 256 := by
  intro x hx
  obtain ⟨c, hc, hx⟩ := List.mem_flatten.1 hx
  obtain ⟨p, _, rfl⟩ := List.mem_map.1 hc
  rcases List.mem_append.1 hx with hx | hx <;> exact Tr.word_lt _ _ x hx
theorem enc_take_len {l : List (Nat × Nat)} {i : Nat} (hi : i ≤ l.length) : (enc (l.take i)).length = 16 * i := by rw [enc_len, List.length_take, Nat.min_eq_left hi]
/-- the encoding of integers -/
def u64of (x : Int) : Nat := (x % 18446744073709551616).toNat
theorem u64of_wrap (x : Int) : IntKind.u64.wrap x = ((u64of x : Nat) : Int) := by
  rw [IntKind.wrap_u64]; unfold u64of; omega
def i64s (l : List Int) : List Value := l.map (.int .i64)
def encI (l : List Int) : List Nat := (l.map fun x => word (u64of x) 8).flatten
theorem encI_app (a b : List Int) : encI (a ++ b) = encI a ++ encI b := by simp [encI]
theorem encI_len (l : List Int) : (encI l).length = 8 * l.length := by
  induction l with
  | nil => rfl
  | cons p l ih => simp only [encI, List.map_cons, List.flatten_cons, List.length_append, List.length_cons, word_len] at ih ⊢; omega
theorem encI_succ {l : List Int} {i : Nat} {p : Int} (h : l[i]? = some p) : encI (l.take (i + 1)) = encI (l.take i) ++ word (u64of p) 8 := by
  rw [List.take_add_one, h, encI_app]; simp [encI]
theorem encI_lt (l : List Int) : ∀ x ∈ encI l, x < 256 := by
  intro x hx
  obtain ⟨c, hc, hx⟩ := List.mem_flatten.1 hx
  obtain ⟨p, _, rfl⟩ := List.mem_map.1 hc
  exact Tr.word_lt _ _ x hx
theorem encI_take_len {l : List Int} {i : Nat} (hi : i ≤ l.length) : (encI (l.take i)).length = 8 * i := by rw [encI_len, List.length_take, Nat.min_eq_left hi]

set_option maxHeartbeats 1000000 in
theorem gbytes (lo hi : Nat) (v : Value) (l : List (Nat × Nat)) (hl : l.length ≤ 1000000) (w : World) (hr : Row w lo hi 2 v l.length (exs l)) :
    Calls Tryd.prog 17 #[v] w fun e w' => ∃ q, e = .returned q ∧ Ext w w' ∧ w'.ownsRow w.heap.size 5 1 q (enc l).length (ints .u8 (enc l)) := by
  refine calls_W Tryd.func17 rfl Tryd.ntmps17 rfl ?_
  obtain ⟨hl0, A, c, rfl, hc, hcm, hnn⟩ := hr
  (refine W_seq ?_; refine W_region ?_; refine Ls (X_assign (v := .slice _ _ _) rfl) ?_; refine L_nil ?_; refine tn ?_; refine W_seq ?_; refine W_region ?_; refine Ls (X_assign (v := .slice _ _ _) rfl) ?_; refine L_nil ?_; refine tn ?_; refine W_seq ?_; refine W_seq ?_; refine W_region ?_; refine Ls (X_move (v := .slice _ _ _) rfl) ?_; refine Ls (X_lenSlice rfl) ?_; refine Ls (X_move (v := .int _ _) rfl) ?_; refine L_nil ?_; refine tn ?_; refine W_block ?_)
  refine W_loop (fun q f w' => ∃ i v', q = l.length - i ∧ i ≤ l.length ∧ Ext w w' ∧ w'.ownsRow w.heap.size 5 1 v' (enc (l.take i)).length (ints .u8 (enc (l.take i))) ∧ f 3 = v' ∧ f 6 = .slice A l.length c ∧ f 7 = .int .i64 (l.length : Nat) ∧ f 8 = .int .i64 (i : Nat)) l.length ?_ ?_
  · exact ⟨0, .slice none 0 0, rfl, by omega, Ext.refl w, ⟨rfl, .inl ⟨rfl, rfl⟩⟩, rfl, rfl, rfl, rfl⟩
  · rintro q f w1 ⟨i, v', rfl, hi, E1, o1, h3, h6, h7, h8⟩
    rw [fold h3, fold h6, fold h7, fold h8]
    (refine W_seq ?_; refine W_region ?_; refine Ls (X_lss rfl rfl) ?_; refine L_nil ?_; refine tn ?_; refine W_seq ?_)
    refine W_condp rfl (fun h => ?_) (fun h => ?_)
    · have hi' : i < l.length := by omega
      obtain ⟨b, o, rfl, hb1, hb2, hcell⟩ := hnn (by omega)
      obtain ⟨⟨xa, xb⟩, hpi⟩ : ∃ p, l[i]? = some p := ⟨l[i], List.getElem?_eq_getElem hi'⟩
      obtain ⟨hx1, hx2⟩ := exs_get hpi
      dsimp only at hx1 hx2
      have hsu := enc_succ hpi
      dsimp only at hsu
      have hel := enc_take_len (show i ≤ l.length by omega)
      (refine W_skip ?_; refine tn ?_; refine W_seq ?_; refine W_block ?_; refine W_seq ?_; refine W_region ?_; refine Ls (X_indexSn rfl rfl (by omega)) ?_)
      refine Ls (X_loadA (size := 2) (cs := exC xa xb) rfl ?_ rfl) ?_
      · intro j u hu
        have hj := (List.getElem?_eq_some_iff.1 hu).1
        have hj2 : j < 2 := hj
        have := E1.range hcell
        rcases (show j = 0 ∨ j = 1 by omega) with rfl | rfl
        · rw [show u = .int .u64 (xa : Nat) from (Option.some.inj hu).symm]
          exact this _ _ hx1
        · rw [show u = .int .u64 (xb : Nat) from (Option.some.inj hu).symm]
          have := this _ _ hx2
          rwa [← Nat.add_assoc] at this
      refine L_alloc ?_
      intro g5 w2 B2 hg5 E2 hs2
      refine L_storeW rfl rfl rfl exC_cell B2 rfl ?_
      intro w3 B3 hg3 hs3
      have o3 := own_other (own_ext o1 E2) hg3 (fun g h => by have := (o1.lt g h).2; simp; omega)
      have hne : ∀ g, v'.ownBlock = some g → g ≠ g5 := fun g h => by have := (o1.lt g h).2; omega
      have hge : ∀ g, v'.ownBlock = some g → w.heap.size ≤ g := fun g h => (o1.lt g h).1
      have E3 : Ext w w3 := (E1.trans E2).then hg3 (fun g h => by cases h; have := E1.size; omega)
      have hle : (enc (l.take i)).length + 16 ≤ 100000000 := by omega
      obtain ⟨xs, hxs⟩ : ∃ xs, xs = enc (l.take i) := ⟨_, rfl⟩
      rw [← hxs] at hsu hle hel o3
      have EA : ∀ {u : World}, AA w3 v'.ownBlock w.heap.size 5 1 v' xs.length (ints .u8 xs) u → Ext w u := fun hA => E3.then hA.g hge
      have BA : ∀ {u : World}, AA w3 v'.ownBlock w.heap.size 5 1 v' xs.length (ints .u8 xs) u → Blk u g5 46 (exC xa xb) := fun hA => B3.grown hA.g (fun h => hne _ h rfl)
      (refine L_nil ?_; refine tn ?_)
      apply W_dagR (R := RA 3 v'.ownBlock 5 1 xs.length) (AA w3 v'.ownBlock w.heap.size 5 1 v' xs.length (ints .u8 xs)) 6 (by kernel_rfl) (RA.refl _ _ _ _ _) (AA.new o3) AA.step
      (apply DW_x (fun r w hA hH => (X_move (v := v') rfl).trans rfl); apply DW_x (fun r w hA hH => (X_fld rfl).trans rfl); apply DW_x (fun r w hA hH => (X_ld rfl (BA hA) rfl).trans rfl))
      with_reducible apply DW_fr (F := fun u w' => w'.ownsRow w.heap.size 5 1 u (xs.length + 8) (ints .u8 (xs ++ word xa 8)))
      exact fun r => rfl
      exact fun r u hA hH => (appendWord w.heap.size xs.length xa v' xs u (EA hA).size hA.o (by omega)).mono fun e u' ⟨q, he, ho, hg, hk⟩ => ⟨q, he, .inr ⟨rfl, hg.g, hk⟩, ho⟩
      exact fun j q u u' hj _ hR hF => own_ext hF (hR.other hj)
      (apply DW_x (fun r w hA hH => (X_fld rfl).trans rfl); apply DW_x (fun r w hA hH => (X_ld rfl (BA hA) rfl).trans rfl))
      ((with_reducible exact D_end); (exact rfl); (repeat (first | exact trivial | (refine And.intro ?_ ?_) | exact .inr (.inr (fun _ _ => rfl)) | exact .inl (by decide) | exact .inr (.inl rfl))); (try dsimp only [Nat.reduceAdd]))
      intro r w4 hA4 H4
      have o4 : w4.ownsRow w.heap.size 5 1 (r 3) (xs.length + 8) (ints .u8 (xs ++ word xa 8)) := H4 3
      generalize r 3 = q4 at *
      refine L_fn (appendWord w.heap.size (xs.length + 8) xb q4 (xs ++ word xa 8) w4 (EA hA4).size o4 (by omega)) rfl ?_
      rintro e w5 ⟨q5, rfl, o5, hg5', _⟩
      refine ⟨q5, rfl, ?_⟩
      (refine Ls (X_assign (v := q5) rfl) ?_; refine L_nil ?_; refine bn ?_; refine tn ?_; refine W_region ?_; refine Ls (X_addi rfl rfl (by omega)) ?_; refine Ls (X_move (v := .int _ _) rfl) ?_; refine L_nil ?_; refine tn ?_)
      have E5 : Ext w w5 := Grew.toExt (EA hA4) hg5' (fun g h => (o4.lt g h).1)
      refine ⟨l.length - (i + 1), by omega, i + 1, q5, rfl, by omega, E5, ?_, rfl, rfl, rfl, rfl⟩
      rw [hsu, List.length_append, List.length_append, word_len, word_len]
      exact o5
    · obtain rfl : i = l.length := by omega
      (refine W_exit ?_; refine te ?_; refine te ?_; refine bx ?_; refine tn ?_; refine W_seq ?_; refine W_region ?_; refine Ls (X_move (v := v') rfl) ?_; refine Ls (X_assign (v := v') rfl) ?_; refine L_nil ?_; refine tn ?_; refine W_ret ?_)
      refine endQ_ret1 rfl rfl (v := v') rfl ?_
      rw [List.take_length] at o1
      exact ⟨v', rfl, E1, o1⟩
end Go.Proofs.YtemodkjmdalmlaaDoor

/- The transcript: AbsorbExt, AbsorbInts; the reference's Bytes, IntBytes, AbsorbExt, AbsorbInts. -/
namespace Go.Proofs.YtemodkjmdalmlaaDoor
open Go.RowKit Go.Proofs.K

set_option maxHeartbeats 1000000 in
theorem gabsorbExt (s : List Nat) (c : Nat) (hs : s.length = 32) (hs8 : ∀ x ∈ s, x < 256) (lab : ByteArray) (hlb : lab.size ≤ 100000000) (lo hi : Nat) (v : Value) (l : List (Nat × Nat)) (hl : l.length ≤ 100000) (w : World) (hw : Tabs w) (hr : Row w lo hi 2 v l.length (exs l)) :
    Calls Tryd.prog 30 #[.agg (trC s c).toArray, .string lab, v] w fun e w' => e = .returned (.agg (trC (Tr.absorb s (sb lab) (enc l)) 0).toArray) ∧ Ext w w' := by
  refine calls_W Tryd.func30 rfl Tryd.ntmps30 rfl ?_
  (refine W_seq ?_; refine W_region ?_)
  refine L_box rfl ?_
  intro g1 w1 B1 hg1 E1 hs1
  refine L_alloc ?_
  intro g2 w2 B2 hg2 E2 hs2
  have Ea := E1.trans E2
  (refine L_nil ?_; refine tn ?_; refine W_seq ?_)
  apply W_dagE 5 (by kernel_rfl)
  (apply DW_x (fun r w hA hH => (X_ldW rfl ((B1.ext E2).ext hA) (trC_len hs)).trans rfl); apply DW_x (fun r w hA hH => (X_move (v := .string _) rfl).trans rfl); apply DW_x (fun r w hA hH => (X_move (v := v) rfl).trans rfl))
  ((with_reducible apply DW_fo); (exact fun _ => rfl); (exact fun _ => rfl); (exact fun r w hA hH => calls_own hA (gbytes lo hi v l (by omega) w (hr.ext (Ea.trans hA)))); (exact fun _ _ _ _ _ _ E h => OwnF.ext E h))
  ((with_reducible apply DW_fn); (exact fun _ => rfl); (exact fun _ => rfl); (exact fun r w hA hH => (by
    obtain ⟨b3, _, o3⟩ := hH 3 rfl
    exact gabsorb s c hs hs8 lab hlb _ _ (r 3) (enc l) (enc_lt l) (by rw [enc_len]; omega) w (hw.ext (Ea.trans hA)) (Row.of_own o3))))
  ((with_reducible exact D_end); (exact rfl); (repeat (first | exact trivial | (refine And.intro ?_ ?_) | exact .inr (.inr (fun _ _ => rfl)) | exact .inl (by decide) | exact .inr (.inl rfl))); (try dsimp only [Nat.reduceAdd]))
  intro r w3 E3 H3
  refine L_storeW rfl rfl (trC_len (Tr.absorb_len _ _ _)) trC_cell (B2.ext E3) rfl ?_
  intro w4 B4 hg4 _
  (refine L_nil ?_; refine tn ?_; refine W_ret ?_)
  refine endQ_res rfl rfl (Res.cellA inferInstance rfl (B4.range (fun j u h => by simpa using h)) (trC_len (Tr.absorb_len _ _ _)) .nil) ?_
  exact ⟨rfl, (Ea.trans E3).then hg4 (fun g h => by cases h; have := E1.size; omega)⟩

set_option maxHeartbeats 1000000 in
theorem gabsorbInts (s : List Nat) (c : Nat) (hs : s.length = 32) (hs8 : ∀ x ∈ s, x < 256) (lab : ByteArray) (hlb : lab.size ≤ 100000000) (lo hi : Nat) (v : Value) (l : List Int) (hl : l.length ≤ 100000) (w : World) (hw : Tabs w) (hr : Row w lo hi 1 v l.length (i64s l)) :
    Calls Tryd.prog 32 #[.agg (trC s c).toArray, .string lab, v] w fun e w' => e = .returned (.agg (trC (Tr.absorb s (sb lab) (encI l)) 0).toArray) ∧ Ext w w' := by
  refine calls_W Tryd.func32 rfl Tryd.ntmps32 rfl ?_
  obtain ⟨hl0, A, cc, rfl, hc, hcm, hnn⟩ := hr
  (refine W_seq ?_; refine W_region ?_)
  refine L_box rfl ?_
  intro g1 w1 B1 hg1 E1 hs1
  refine L_alloc ?_
  intro g2 w2 B2 hg2 E2 hs2
  have Ea := E1.trans E2
  (refine L_nil ?_; refine tn ?_; refine W_seq ?_; refine W_region ?_; refine Ls (X_assign (v := .slice _ _ _) rfl) ?_; refine L_nil ?_; refine tn ?_; refine W_seq ?_; refine W_seq ?_; refine W_region ?_; refine Ls (X_move (v := .slice _ _ _) rfl) ?_; refine Ls (X_lenSlice rfl) ?_; refine Ls (X_move (v := .int _ _) rfl) ?_; refine L_nil ?_; refine tn ?_; refine W_block ?_)
  refine W_loop (fun q f w' => ∃ i v', q = l.length - i ∧ i ≤ l.length ∧ Ext w2 w' ∧ w'.ownsRow w2.heap.size 5 1 v' (encI (l.take i)).length (ints .u8 (encI (l.take i))) ∧ f 1 = .string lab ∧ f 3 = .pointer (some ⟨g1, 0, none⟩) ∧ f 6 = .pointer (some ⟨g2, 0, none⟩) ∧ f 7 = v' ∧ f 10 = .slice A l.length cc ∧ f 11 = .int .i64 (l.length : Nat) ∧ f 12 = .int .i64 (i : Nat)) l.length ?_ ?_
  · exact ⟨0, .slice none 0 0, rfl, by omega, Ext.refl _, ⟨rfl, .inl ⟨rfl, rfl⟩⟩, rfl, rfl, rfl, rfl, rfl, rfl, rfl⟩
  · rintro q f w3 ⟨i, v', rfl, hi, E3, o3, h1, h3, h6, h7, h10, h11, h12⟩
    rw [fold h1, fold h3, fold h6, fold h7, fold h10, fold h11, fold h12]
    have E4 := Ea.trans E3
    (refine W_seq ?_; refine W_region ?_; refine Ls (X_lss rfl rfl) ?_; refine L_nil ?_; refine tn ?_; refine W_seq ?_)
    refine W_condp rfl (fun h => ?_) (fun h => ?_)
    · have hi' : i < l.length := by omega
      obtain ⟨b, o, rfl, hb1, hb2, hcell⟩ := hnn (by omega)
      obtain ⟨x, hpi⟩ : ∃ p, l[i]? = some p := ⟨l[i], List.getElem?_eq_getElem hi'⟩
      have hsu := encI_succ hpi
      have hel := encI_take_len (show i ≤ l.length by omega)
      (refine W_skip ?_; refine tn ?_; refine W_seq ?_; refine W_block ?_; refine W_seq ?_; refine W_region ?_; refine Ls (X_indexSn rfl rfl (by omega)) ?_; refine Ls (X_ldR (j := i) (v := .int .i64 x) rfl (E4.range hcell) (by omega) (by simp [i64s, hpi])) ?_; refine Ls (X_assign (v := .int _ _) rfl) ?_; refine L_nil ?_; refine tn ?_; refine W_region ?_; refine Ls (X_move (v := v') rfl) ?_; refine Ls (X_move (v := .int _ _) rfl) ?_; refine Ls (X_conv rfl) ?_)
      rw [u64of_wrap]
      refine L_fn (appendWord w2.heap.size _ (u64of x) v' (encI (l.take i)) w3 E3.size o3 (by omega)) rfl ?_
      rintro e w5 ⟨q5, rfl, o5, hg5, _⟩
      refine ⟨q5, rfl, ?_⟩
      (refine Ls (X_assign (v := q5) rfl) ?_; refine L_nil ?_; refine bn ?_; refine tn ?_; refine W_region ?_; refine Ls (X_addi rfl rfl (by omega)) ?_; refine Ls (X_move (v := .int _ _) rfl) ?_; refine L_nil ?_; refine tn ?_)
      refine ⟨l.length - (i + 1), by omega, i + 1, q5, rfl, by omega, Grew.toExt E3 hg5 (fun g h => (o3.lt g h).1), ?_, rfl, rfl, rfl, rfl, rfl, rfl, rfl⟩
      rw [hsu, List.length_append, word_len]
      exact o5
    · obtain rfl : i = l.length := by omega
      rw [List.take_length] at o3
      (refine W_exit ?_; refine te ?_; refine te ?_; refine bx ?_; refine tn ?_; refine W_seq ?_; refine W_region ?_; refine Ls (X_ldW rfl ((B1.ext E2).ext E3) (trC_len hs)) ?_; refine Ls (X_move (v := .string _) rfl) ?_; refine Ls (X_move (v := v') rfl) ?_)
      refine L_fv rfl (gabsorb s c hs hs8 lab hlb _ _ v' (encI l) (encI_lt l) (by rw [encI_len]; omega) w3 (hw.ext E4) (Row.of_own o3)) ?_
      intro w5 E5
      refine L_storeW rfl rfl (trC_len (Tr.absorb_len _ _ _)) trC_cell ((B2.ext E3).ext E5) rfl ?_
      intro w6 B6 hg6 _
      (refine L_nil ?_; refine tn ?_; refine W_ret ?_)
      refine endQ_res rfl rfl (Res.cellA inferInstance rfl (B6.range (fun j u h => by simpa using h)) (trC_len (Tr.absorb_len _ _ _)) .nil) ?_
      exact ⟨rfl, (E4.trans E5).then hg6 (fun g h => by cases h; have := E1.size; omega)⟩

set_option maxHeartbeats 1000000 in
theorem rbytes (lo hi : Nat) (v : Value) (l : List (Nat × Nat)) (hl : l.length ≤ 1000000) (hlt : ∀ p ∈ l, p.1 < 18446744073709551616 ∧ p.2 < 18446744073709551616) (w : World) (hr : Row w lo hi 2 v l.length (exs l)) :
    Calls Tryd.prog 34 #[v] w fun e w' => ∃ q, e = .returned q ∧ Ext w w' ∧ w'.ownsRow w.heap.size 5 1 q (enc l).length (ints .u8 (enc l)) := by
  refine calls_W Tryd.func34 rfl Tryd.ntmps34 rfl ?_
  obtain ⟨hl0, A, c, rfl, hc, hcm, hnn⟩ := hr
  (refine W_seq ?_; refine W_region ?_; refine Ls (X_assign (v := .slice _ _ _) rfl) ?_; refine L_nil ?_; refine tn ?_; refine W_seq ?_; refine W_region ?_)
  refine L_lit0 ?_
  intro q1 w1 E1 hs1 o1
  (refine Ls (X_assign (v := q1) rfl) ?_; refine L_nil ?_; refine tn ?_; refine W_seq ?_; refine W_seq ?_; refine W_region ?_; refine Ls (X_assign (v := .int _ _) rfl) ?_; refine L_nil ?_; refine tn ?_; refine W_block ?_)
  refine W_loop (fun q f w' => ∃ i v', q = l.length - i ∧ i ≤ l.length ∧ Ext w w' ∧ w'.ownsRow w.heap.size 5 1 v' (enc (l.take i)).length (ints .u8 (enc (l.take i))) ∧ f 0 = .slice A l.length c ∧ f 3 = v' ∧ f 4 = .int .i64 (i : Nat)) l.length ?_ ?_
  · exact ⟨0, q1, rfl, by omega, E1, o1, rfl, rfl, rfl⟩
  · rintro q f w1 ⟨i, v', rfl, hi, E1, o1, h0, h3, h4⟩
    rw [fold h0, fold h3, fold h4]
    (refine W_seq ?_; refine W_seq ?_; refine W_region ?_; refine Ls (X_move (v := .int _ _) rfl) ?_; refine Ls (X_move (v := .slice _ _ _) rfl) ?_; refine Ls (X_lenSlice rfl) ?_; refine Ls (X_lss rfl rfl) ?_; refine L_nil ?_; refine tn ?_)
    refine W_condp rfl (fun h => ?_) (fun h => ?_)
    · have hi' : i < l.length := by omega
      obtain ⟨b, o, rfl, hb1, hb2, hcell⟩ := hnn (by omega)
      obtain ⟨⟨xa, xb⟩, hpi⟩ : ∃ p, l[i]? = some p := ⟨l[i], List.getElem?_eq_getElem hi'⟩
      obtain ⟨hx1, hx2⟩ := exs_get hpi
      dsimp only at hx1 hx2
      obtain ⟨ha8, hb8⟩ := hlt _ (List.mem_of_getElem? hpi)
      dsimp only at ha8 hb8
      have hsu := enc_succ hpi
      dsimp only at hsu
      have hel := enc_take_len (show i ≤ l.length by omega)
      (refine W_skip ?_; refine tn ?_; refine W_seq ?_; refine W_block ?_; refine W_seq ?_; refine W_region ?_; refine Ls (X_move (v := v') rfl) ?_; refine Ls (X_move (v := .slice _ _ _) rfl) ?_; refine Ls (X_move (v := .int _ _) rfl) ?_; refine Ls (X_indexSn rfl rfl (by omega)) ?_; refine Ls (X_fld rfl) ?_; refine Ls (X_ldR (j := i * 2) (v := .int .u64 (xa : Nat)) rfl (E1.range hcell) (by omega) hx1) ?_)
      refine L_fo rfl (rword xa ha8 w1) ?_
      rintro q2 w2 ⟨E2, o2⟩
      refine L_append (v := v') (u := q2) rfl rfl (own_ext o1 E2) (Row.of_own o2) ints_cell (by omega) (by omega) (by have := E1.size; have := E2.size; omega) ?_
      intro q3 w3 o3 hg3 _
      have E3 : Ext w w3 := (E1.trans E2).then hg3 (fun g h => (o1.lt g h).1)
      (refine Ls (X_assign (v := q3) rfl) ?_; refine L_nil ?_; refine tn ?_; refine W_region ?_; refine Ls (X_move (v := q3) rfl) ?_; refine Ls (X_move (v := .slice _ _ _) rfl) ?_; refine Ls (X_move (v := .int _ _) rfl) ?_; refine Ls (X_indexSn rfl rfl (by omega)) ?_; refine Ls (X_fld rfl) ?_; refine Ls (X_ldR (j := i * 2 + 1) (v := .int .u64 (xb : Nat)) rfl (E3.range hcell) (by omega) hx2) ?_)
      refine L_fo rfl (rword xb hb8 w3) ?_
      rintro q4 w4 ⟨E4, o4⟩
      refine L_append (v := q3) (u := q4) rfl rfl (own_ext o3 E4) (Row.of_own o4) ints_cell (by omega) (by omega) (by have := E3.size; have := E4.size; omega) ?_
      intro q5 w5 o5 hg5 _
      (refine Ls (X_assign (v := q5) rfl) ?_; refine L_nil ?_; refine bn ?_; refine tn ?_; refine W_region ?_; refine Ls (X_move (v := .int _ _) rfl) ?_; refine Ls (X_addi rfl rfl (by omega)) ?_; refine Ls (X_assign (v := .int _ _) rfl) ?_; refine L_nil ?_; refine tn ?_)
      refine ⟨l.length - (i + 1), by omega, i + 1, q5, rfl, by omega, (E3.trans E4).then hg5 (fun g h => (o3.lt g h).1), ?_, rfl, rfl, rfl⟩
      rw [hsu, List.length_append, List.length_append, word_len, word_len, ints_app, ints_app]
      exact o5
    · obtain rfl : i = l.length := by omega
      (refine W_exit ?_; refine te ?_; refine te ?_; refine bx ?_; refine tn ?_; refine W_seq ?_; refine W_region ?_; refine Ls (X_move (v := v') rfl) ?_; refine Ls (X_assign (v := v') rfl) ?_; refine L_nil ?_; refine tn ?_; refine W_ret ?_)
      refine endQ_ret1 rfl rfl (v := v') rfl ?_
      rw [List.take_length] at o1
      exact ⟨v', rfl, E1, o1⟩

set_option maxHeartbeats 1000000 in
theorem rintBytes (lo hi : Nat) (v : Value) (l : List Int) (hl : l.length ≤ 1000000) (w : World) (hr : Row w lo hi 1 v l.length (i64s l)) :
    Calls Tryd.prog 35 #[v] w fun e w' => ∃ q, e = .returned q ∧ Ext w w' ∧ w'.ownsRow w.heap.size 5 1 q (encI l).length (ints .u8 (encI l)) := by
  refine calls_W Tryd.func35 rfl Tryd.ntmps35 rfl ?_
  obtain ⟨hl0, A, c, rfl, hc, hcm, hnn⟩ := hr
  (refine W_seq ?_; refine W_region ?_; refine Ls (X_assign (v := .slice _ _ _) rfl) ?_; refine L_nil ?_; refine tn ?_; refine W_seq ?_; refine W_region ?_)
  refine L_lit0 ?_
  intro q1 w1 E1 hs1 o1
  (refine Ls (X_assign (v := q1) rfl) ?_; refine L_nil ?_; refine tn ?_; refine W_seq ?_; refine W_seq ?_; refine W_region ?_; refine Ls (X_assign (v := .int _ _) rfl) ?_; refine L_nil ?_; refine tn ?_; refine W_block ?_)
  refine W_loop (fun q f w' => ∃ i v', q = l.length - i ∧ i ≤ l.length ∧ Ext w w' ∧ w'.ownsRow w.heap.size 5 1 v' (encI (l.take i)).length (ints .u8 (encI (l.take i))) ∧ f 0 = .slice A l.length c ∧ f 3 = v' ∧ f 4 = .int .i64 (i : Nat)) l.length ?_ ?_
  · exact ⟨0, q1, rfl, by omega, E1, o1, rfl, rfl, rfl⟩
  · rintro q f w1 ⟨i, v', rfl, hi, E1, o1, h0, h3, h4⟩
    rw [fold h0, fold h3, fold h4]
    (refine W_seq ?_; refine W_seq ?_; refine W_region ?_; refine Ls (X_move (v := .int _ _) rfl) ?_; refine Ls (X_move (v := .slice _ _ _) rfl) ?_; refine Ls (X_lenSlice rfl) ?_; refine Ls (X_lss rfl rfl) ?_; refine L_nil ?_; refine tn ?_)
    refine W_condp rfl (fun h => ?_) (fun h => ?_)
    · have hi' : i < l.length := by omega
      obtain ⟨b, o, rfl, hb1, hb2, hcell⟩ := hnn (by omega)
      obtain ⟨x, hpi⟩ : ∃ p, l[i]? = some p := ⟨l[i], List.getElem?_eq_getElem hi'⟩
      have hsu := encI_succ hpi
      have hel := encI_take_len (show i ≤ l.length by omega)
      (refine W_skip ?_; refine tn ?_; refine W_seq ?_; refine W_block ?_; refine W_region ?_; refine Ls (X_move (v := v') rfl) ?_; refine Ls (X_move (v := .slice _ _ _) rfl) ?_; refine Ls (X_move (v := .int _ _) rfl) ?_; refine Ls (X_indexSn rfl rfl (by omega)) ?_; refine Ls (X_ldR (j := i) (v := .int .i64 x) rfl (E1.range hcell) (by omega) (by simp [i64s, hpi])) ?_; refine Ls (X_conv rfl) ?_)
      rw [u64of_wrap]
      refine L_fo rfl (rword (u64of x) (by unfold u64of; omega) w1) ?_
      rintro q2 w2 ⟨E2, o2⟩
      refine L_append (v := v') (u := q2) rfl rfl (own_ext o1 E2) (Row.of_own o2) ints_cell (by omega) (by omega) (by have := E1.size; have := E2.size; omega) ?_
      intro q3 w3 o3 hg3 _
      have E3 : Ext w w3 := (E1.trans E2).then hg3 (fun g h => (o1.lt g h).1)
      (refine Ls (X_assign (v := q3) rfl) ?_; refine L_nil ?_; refine bn ?_; refine tn ?_; refine W_region ?_; refine Ls (X_move (v := .int _ _) rfl) ?_; refine Ls (X_addi rfl rfl (by omega)) ?_; refine Ls (X_assign (v := .int _ _) rfl) ?_; refine L_nil ?_; refine tn ?_)
      refine ⟨l.length - (i + 1), by omega, i + 1, q3, rfl, by omega, E3, ?_, rfl, rfl, rfl⟩
      rw [hsu, List.length_append, word_len, ints_app]
      exact o3
    · obtain rfl : i = l.length := by omega
      (refine W_exit ?_; refine te ?_; refine te ?_; refine bx ?_; refine tn ?_; refine W_seq ?_; refine W_region ?_; refine Ls (X_move (v := v') rfl) ?_; refine Ls (X_assign (v := v') rfl) ?_; refine L_nil ?_; refine tn ?_; refine W_ret ?_)
      refine endQ_ret1 rfl rfl (v := v') rfl ?_
      rw [List.take_length] at o1
      exact ⟨v', rfl, E1, o1⟩

set_option maxHeartbeats 1000000 in
theorem rabsorbExt (s : List Nat) (c : Nat) (hs : s.length = 32) (hs8 : ∀ x ∈ s, x < 256) (lab : ByteArray) (hlb : lab.size ≤ 100000000) (lo hi : Nat) (v : Value) (l : List (Nat × Nat)) (hl : l.length ≤ 100000) (hlt : ∀ p ∈ l, p.1 < 18446744073709551616 ∧ p.2 < 18446744073709551616) (w : World) (hr : Row w lo hi 2 v l.length (exs l)) :
    Calls Tryd.prog 31 #[.agg (trC s c).toArray, .string lab, v] w fun e w' => e = .returned (.agg (trC (Tr.absorb s (sb lab) (enc l)) 0).toArray) ∧ Ext w w' := by
  refine calls_W Tryd.func31 rfl Tryd.ntmps31 rfl ?_
  (refine W_seq ?_; refine W_region ?_)
  refine L_box rfl ?_
  intro g1 w1 B1 hg1 E1 hs1
  refine L_alloc ?_
  intro g2 w2 B2 hg2 E2 hs2
  have Ea := E1.trans E2
  (refine L_nil ?_; refine tn ?_; refine W_seq ?_)
  apply W_dagE 5 (by kernel_rfl)
  (apply DW_x (fun r w hA hH => (X_ldW rfl ((B1.ext E2).ext hA) (trC_len hs)).trans rfl); apply DW_x (fun r w hA hH => (X_move (v := .string _) rfl).trans rfl); apply DW_x (fun r w hA hH => (X_move (v := v) rfl).trans rfl))
  ((with_reducible apply DW_fo); (exact fun _ => rfl); (exact fun _ => rfl); (exact fun r w hA hH => calls_own hA (rbytes lo hi v l (by omega) hlt w (hr.ext (Ea.trans hA)))); (exact fun _ _ _ _ _ _ E h => OwnF.ext E h))
  ((with_reducible apply DW_fn); (exact fun _ => rfl); (exact fun _ => rfl); (exact fun r w hA hH => (by
    obtain ⟨b3, _, o3⟩ := hH 3 rfl
    exact rabsorb _ _ s c hs hs8 lab hlb (r 3) (enc l) (enc_lt l) (by rw [enc_len]; omega) w (Row.of_own o3))))
  ((with_reducible exact D_end); (exact rfl); (repeat (first | exact trivial | (refine And.intro ?_ ?_) | exact .inr (.inr (fun _ _ => rfl)) | exact .inl (by decide) | exact .inr (.inl rfl))); (try dsimp only [Nat.reduceAdd]))
  intro r w3 E3 H3
  refine L_storeW rfl rfl (trC_len (Tr.absorb_len _ _ _)) trC_cell (B2.ext E3) rfl ?_
  intro w4 B4 hg4 _
  (refine L_nil ?_; refine tn ?_; refine W_ret ?_)
  refine endQ_res rfl rfl (Res.cellA inferInstance rfl (B4.range (fun j u h => by simpa using h)) (trC_len (Tr.absorb_len _ _ _)) .nil) ?_
  exact ⟨rfl, (Ea.trans E3).then hg4 (fun g h => by cases h; have := E1.size; omega)⟩

set_option maxHeartbeats 1000000 in
theorem rabsorbInts (s : List Nat) (c : Nat) (hs : s.length = 32) (hs8 : ∀ x ∈ s, x < 256) (lab : ByteArray) (hlb : lab.size ≤ 100000000) (lo hi : Nat) (v : Value) (l : List Int) (hl : l.length ≤ 100000) (w : World) (hr : Row w lo hi 1 v l.length (i64s l)) :
    Calls Tryd.prog 33 #[.agg (trC s c).toArray, .string lab, v] w fun e w' => e = .returned (.agg (trC (Tr.absorb s (sb lab) (encI l)) 0).toArray) ∧ Ext w w' := by
  refine calls_W Tryd.func33 rfl Tryd.ntmps33 rfl ?_
  (refine W_seq ?_; refine W_region ?_)
  refine L_box rfl ?_
  intro g1 w1 B1 hg1 E1 hs1
  refine L_alloc ?_
  intro g2 w2 B2 hg2 E2 hs2
  have Ea := E1.trans E2
  (refine L_nil ?_; refine tn ?_; refine W_seq ?_)
  apply W_dagE 5 (by kernel_rfl)
  (apply DW_x (fun r w hA hH => (X_ldW rfl ((B1.ext E2).ext hA) (trC_len hs)).trans rfl); apply DW_x (fun r w hA hH => (X_move (v := .string _) rfl).trans rfl); apply DW_x (fun r w hA hH => (X_move (v := v) rfl).trans rfl))
  ((with_reducible apply DW_fo); (exact fun _ => rfl); (exact fun _ => rfl); (exact fun r w hA hH => calls_own hA (rintBytes lo hi v l (by omega) w (hr.ext (Ea.trans hA)))); (exact fun _ _ _ _ _ _ E h => OwnF.ext E h))
  ((with_reducible apply DW_fn); (exact fun _ => rfl); (exact fun _ => rfl); (exact fun r w hA hH => (by
    obtain ⟨b3, _, o3⟩ := hH 3 rfl
    exact rabsorb _ _ s c hs hs8 lab hlb (r 3) (encI l) (encI_lt l) (by rw [encI_len]; omega) w (Row.of_own o3))))
  ((with_reducible exact D_end); (exact rfl); (repeat (first | exact trivial | (refine And.intro ?_ ?_) | exact .inr (.inr (fun _ _ => rfl)) | exact .inl (by decide) | exact .inr (.inl rfl))); (try dsimp only [Nat.reduceAdd]))
  intro r w3 E3 H3
  refine L_storeW rfl rfl (trC_len (Tr.absorb_len _ _ _)) trC_cell (B2.ext E3) rfl ?_
  intro w4 B4 hg4 _
  (refine L_nil ?_; refine tn ?_; refine W_ret ?_)
  refine endQ_res rfl rfl (Res.cellA inferInstance rfl (B4.range (fun j u h => by simpa using h)) (trC_len (Tr.absorb_len _ _ _)) .nil) ?_
  exact ⟨rfl, (Ea.trans E3).then hg4 (fun g h => by cases h; have := E1.size; omega)⟩
end Go.Proofs.YtemodkjmdalmlaaDoor

/- The reference's helpers: SameInts, Label, Made, Hex; the law package's made. -/
namespace Go.Proofs.YtemodkjmdalmlaaDoor
open Go.RowKit Go.Proofs.K

set_option maxHeartbeats 1000000 in
theorem sameInts (lo hi lo' hi' : Nat) (v u : Value) (a b : List Nat) (w : World) (ha : Row w lo hi 1 v a.length (ints .i64 a)) (hb : Row w lo' hi' 1 u b.length (ints .i64 b)) (hl : a.length ≤ 1000000000) :
    Calls Tryd.prog 15 #[v, u] w fun e w' => e = .returned (.bool (decide (a = b))) ∧ Ext w w' := by
  refine calls_W Tryd.func15 rfl Tryd.ntmps15 rfl ?_
  (refine W_seq ?_; refine W_region ?_; refine Ls (X_assign (v := .bool _) rfl) ?_; refine L_nil ?_; refine tn ?_; refine W_seq ?_; refine W_seq ?_; refine W_region ?_; refine Ls (X_move (v := v) rfl) ?_; refine Ls (X_lenRow (v := v) rfl ha) ?_; refine Ls (X_move (v := u) rfl) ?_; refine Ls (X_lenRow (v := u) rfl hb) ?_; refine Ls (X_neq rfl rfl) ?_; refine L_nil ?_; refine tn ?_)
  refine W_condp rfl (fun h => ?_) (fun h => ?_)
  · (refine W_seq ?_; refine W_region ?_; refine Ls (X_assign (v := .bool _) rfl) ?_; refine L_nil ?_; refine tn ?_; refine W_ret ?_; refine tr ?_)
    refine endQ_ret1 rfl rfl (v := .bool _) rfl ?_
    have : a ≠ b := by rintro rfl; exact h rfl
    exact ⟨by rw [decide_eq_false this], Ext.refl w⟩
  · have hab : a.length = b.length := by
      have : ¬ ¬ ((a.length : Int) = (b.length : Int)) := h
      omega
    (refine W_skip ?_; refine tn ?_; refine W_seq ?_; refine W_seq ?_; refine W_region ?_; refine Ls (X_assign (v := .int _ _) rfl) ?_; refine L_nil ?_; refine tn ?_; refine W_block ?_)
    refine W_loop (fun q f w' => ∃ k, q = a.length - k ∧ k ≤ a.length ∧ f 0 = v ∧ f 1 = u ∧ f 5 = .int .i64 (k : Nat) ∧ a.take k = b.take k ∧ Ext w w') a.length ?_ ?_
    · exact ⟨0, rfl, by omega, rfl, rfl, rfl, by simp, Ext.refl _⟩
    · rintro q f wr ⟨k, rfl, hk, h0, h1, h5, hab', E⟩
      rw [fold h0, fold h1, fold h5]
      (refine W_seq ?_; refine W_seq ?_; refine W_region ?_; refine Ls (X_move (v := .int _ _) rfl) ?_; refine Ls (X_move (v := v) rfl) ?_; refine Ls (X_lenRow (v := v) rfl (ha.ext E)) ?_; refine Ls (X_lss rfl rfl) ?_; refine L_nil ?_; refine tn ?_)
      refine W_condp rfl (fun h => ?_) (fun h => ?_)
      · obtain ⟨b0, o0, c0, rfl, _, _, _, hc0⟩ := ha.at (k := k) (by omega)
        obtain ⟨b1, o1, c1, rfl, _, _, _, hc1⟩ := hb.at (k := k) (by omega)
        (refine W_skip ?_; refine tn ?_; refine W_seq ?_; refine W_block ?_; refine W_seq ?_)
        apply W_dagE 9 (by kernel_rfl)
        (apply DW_x (fun r w hA hH => (X_move (v := .slice _ _ _) rfl).trans rfl); apply DW_x (fun r w hA hH => (X_move (v := .int _ _) rfl).trans rfl); apply DW_x (fun r w hA hH => (X_indexSn rfl rfl (by omega)).trans rfl); apply DW_x (fun r w hA hH => (X_ldRI rfl ((E.trans hA).range hc0) (by omega)).trans rfl); apply DW_x (fun r w hA hH => (X_move (v := .slice _ _ _) rfl).trans rfl); apply DW_x (fun r w hA hH => (X_move (v := .int _ _) rfl).trans rfl); apply DW_x (fun r w hA hH => (X_indexSn rfl rfl (by omega)).trans rfl); apply DW_x (fun r w hA hH => (X_ldRI rfl ((E.trans hA).range hc1) (by omega)).trans rfl); apply DW_x (fun r w hA hH => (X_neq rfl rfl).trans rfl))
        ((with_reducible exact D_end); (exact rfl); (repeat (first | exact trivial | (refine And.intro ?_ ?_) | exact .inr (.inr (fun _ _ => rfl)) | exact .inl (by decide) | exact .inr (.inl rfl))); (try dsimp only [Nat.reduceAdd]))
        intro r w1 E1 _
        (refine L_nil ?_; refine tn ?_)
        refine W_condp rfl (fun h' => ?_) (fun h' => ?_)
        · (refine W_seq ?_; refine W_region ?_; refine Ls (X_assign (v := .bool _) rfl) ?_; refine L_nil ?_; refine tn ?_; refine W_ret ?_; refine br ?_; refine tr ?_; refine tr ?_; refine br ?_; refine tr ?_)
          refine endQ_ret1 rfl rfl (v := .bool _) rfl ?_
          have : a ≠ b := by rintro rfl; exact h' rfl
          exact ⟨by rw [decide_eq_false this], E.trans E1⟩
        · (refine W_skip ?_; refine bn ?_; refine tn ?_; refine W_region ?_; refine Ls (X_move (v := .int _ _) rfl) ?_; refine Ls (X_addi rfl rfl (by omega)) ?_; refine Ls (X_assign (v := .int _ _) rfl) ?_; refine L_nil ?_; refine tn ?_)
          refine ⟨a.length - (k + 1), by omega, k + 1, rfl, by omega, rfl, rfl, rfl, ?_, E.trans E1⟩
          rw [List.take_succ_eq_append_getElem (by omega), List.take_succ_eq_append_getElem (by omega), hab']
          have : ¬ ¬ (((a.getD k 0 : Nat) : Int) = ((b.getD k 0 : Nat) : Int)) := h'
          have h3 : a.getD k 0 = b.getD k 0 := by omega
          rw [List.getD_eq_getElem?_getD, List.getD_eq_getElem?_getD, List.getElem?_eq_getElem (by omega), List.getElem?_eq_getElem (by omega)] at h3
          simp at h3
          rw [h3]
      · (refine W_exit ?_; refine te ?_; refine te ?_; refine bx ?_; refine tn ?_; refine W_seq ?_; refine W_region ?_; refine Ls (X_assign (v := .bool _) rfl) ?_; refine L_nil ?_; refine tn ?_; refine W_ret ?_)
        refine endQ_ret1 rfl rfl (v := .bool _) rfl ?_
        have hka : k = a.length := by omega
        have : a = b := by rw [← List.take_length (l := a), ← List.take_length (l := b), ← hab, ← hka]; exact hab'
        exact ⟨by rw [decide_eq_true this], E⟩


/-- the first 32 bytes -/
def labS (s : ByteArray) : ByteArray := s.extract 0 (min s.size 32)
theorem labS_size (s : ByteArray) : (labS s).size ≤ 32 := by unfold labS; rw [ByteArray.size_extract]; omega
theorem rlabel (s : ByteArray) (w : World) : Calls Tryd.prog 38 #[.string s] w fun e w' => e = .returned (.string (labS s)) ∧ Ext w w' := by
  refine calls_W Tryd.func38 rfl Tryd.ntmps38 rfl ?_
  (refine W_seq ?_; refine W_region ?_; refine Ls (X_assign (v := .string _) rfl) ?_; refine L_nil ?_; refine tn ?_; refine W_seq ?_; refine W_region ?_; refine Ls (X_move (v := .string _) rfl) ?_; refine Ls (X_move (v := .string _) rfl) ?_; refine Ls (X_lenStr rfl) ?_; refine Ls (X_min rfl rfl) ?_)
  refine Ls (X_sliceStr (i := 0) (j := min s.size 32) rfl rfl ⟨_, congrArg (Value.int .i64) (show (if (32 : Int) < (s.size : Int) then (32 : Int) else (s.size : Int)) = ((min s.size 32 : Nat) : Int) by split <;> omega)⟩ (Nat.zero_le _) (by omega)) ?_
  (refine Ls (X_assign (v := .string _) rfl) ?_; refine L_nil ?_; refine tn ?_; refine W_ret ?_)
  refine endQ_ret1 rfl rfl (v := .string _) rfl ?_
  exact ⟨rfl, Ext.refl w⟩

/-- at most 32 bytes, filled up with zeros -/
def dig (b : List Nat) : List Nat := b.take 32 ++ List.replicate (32 - (b.take 32).length) 0
theorem dig_len (b : List Nat) : (dig b).length = 32 := by simp [dig]; omega
theorem dig_lt {b : List Nat} (h : ∀ x ∈ b, x < 256) : ∀ x ∈ dig b, x < 256 := by
  intro x hx
  rcases List.mem_append.1 hx with hx | hx
  · exact h x (List.mem_of_mem_take hx)
  · rw [List.eq_of_mem_replicate hx]; omega
set_option maxHeartbeats 1000000 in
theorem rmadeD (lo hi : Nat) (v : Value) (b : List Nat) (w : World) (hr : Row w lo hi 1 v b.length (ints .u8 b)) :
    Calls Tryd.prog 37 #[v] w fun e w' => e = .returned (.agg (ints .u8 (dig b)).toArray) ∧ Ext w w' := by
  refine calls_W Tryd.func37 rfl Tryd.ntmps37 rfl ?_
  obtain ⟨hl0, A, c, rfl, hc, hcm, hnn⟩ := hr
  rw [ints_len, Nat.mul_one] at hl0
  have hb63 : b.length ≤ 9223372036854775807 := by unfold maxLen at hcm; omega
  (refine W_seq ?_; refine W_region ?_)
  refine L_alloc ?_
  intro g2 w2 B2 hg2 E2 hs2
  (refine L_nil ?_; refine tn ?_; refine W_seq ?_; refine W_region ?_)
  refine Ls X_arrZero ?_
  refine L_alloc ?_
  intro g3 w3 B3 hg3 E3 hs3
  refine L_storeW (size := 32) rfl rfl rfl (by rw [show (0 : Int) = ((0 : Nat) : Int) from rfl, ints_rep]; exact ints_cell) B3 rfl ?_
  intro w4 B4 hg4 hs4
  rw [show (0 : Int) = ((0 : Nat) : Int) from rfl, ints_rep] at B4
  have Ea : Ext w w4 := (E2.trans E3).then hg4 (fun g h => by cases h; omega)
  have C2 := (B2.ext E3).grown hg4 (by simp; omega)
  (refine L_nil ?_; refine tn ?_; refine W_seq ?_; refine W_seq ?_; refine W_region ?_; refine Ls (X_assign (v := .int _ _) rfl) ?_; refine L_nil ?_; refine tn ?_; refine W_block ?_)
  refine W_loop (fun q f w' => ∃ i, q = 32 - i ∧ i ≤ 32 ∧ i ≤ b.length ∧ Ext w w' ∧ Blk w' g2 32 (List.replicate 32 [Value.int IntKind.u8 0]).flatten ∧ Blk w' g3 32 (ints .u8 (b.take i ++ List.replicate (32 - i) 0)) ∧ f 0 = .slice A b.length c ∧ f 2 = .pointer (some ⟨g2, 0, none⟩) ∧ f 3 = .pointer (some ⟨g3, 0, none⟩) ∧ f 4 = .int .i64 (i : Nat)) 32 ?_ ?_
  · exact ⟨0, rfl, by omega, by omega, Ea, C2, B4, rfl, rfl, rfl, rfl⟩
  · clear B4 C2 Ea
    rintro q f w5 ⟨i, rfl, hi, hib, E5, D2, D3, h0, h2, h3, h4⟩
    rw [fold h0, fold h2, fold h3, fold h4]
    have htl : (b.take i).length = i := by rw [List.length_take]; omega
    by_cases hi32 : i < 32
    · by_cases hil : i < b.length
      · obtain ⟨bb, o, rfl, hb1, hb2, hcell⟩ := hnn (by omega)
        (refine W_seq ?_; refine W_seq ?_; refine W_region ?_; refine Ls (X_move (v := .int _ _) rfl) ?_; refine Ls (X_lssT rfl rfl (by omega)) ?_; refine Ls (X_move (v := .bool _) rfl) ?_; refine Lg2 rfl rfl rfl (X_move (v := .int _ _) rfl) ?_; refine Lg2 rfl rfl rfl (X_move (v := .slice _ _ _) rfl) ?_; refine Lg2 rfl rfl rfl (X_lenSlice rfl) ?_; refine Lg2 rfl rfl rfl (X_lssT rfl rfl (by omega)) ?_; refine Ls (X_pickT (v := .bool _) rfl rfl) ?_; refine L_nil ?_; refine tn ?_; refine W_condT rfl ?_; refine W_skip ?_; refine tn ?_; refine W_seq ?_; refine W_block ?_; refine W_region ?_; refine Ls (X_move (v := .int _ _) rfl) ?_; refine Ls (X_move (v := .slice _ _ _) rfl) ?_; refine Ls (X_move (v := .int _ _) rfl) ?_; refine Ls (X_indexSn rfl rfl (by omega)) ?_)
        (refine Ls (X_ldRI rfl (E5.range hcell) hil) ?_; refine Ls (X_indexAn rfl rfl (by omega)) ?_)
        refine L_store1 (v := .int _ _) rfl rfl rfl D3 (by rw [ints_len, List.length_append, htl, List.length_replicate]; omega) ?_
        intro w6 B6 hg6 hs6
        (refine L_nil ?_; refine bn ?_; refine tn ?_; refine W_region ?_; refine Ls (X_move (v := .int _ _) rfl) ?_; refine Ls (X_addi rfl rfl (by omega)) ?_; refine Ls (X_assign (v := .int _ _) rfl) ?_; refine L_nil ?_; refine tn ?_)
        rw [show (0 + i * 1) = i by omega, ints_set, show 32 - i = (32 - (i + 1)) + 1 by omega, tab_set _ _ _ _ htl.symm] at B6
        refine ⟨32 - (i + 1), by omega, i + 1, rfl, by omega, by omega, E5.then hg6 (fun g h => by cases h; omega), D2.grown hg6 (by simp; omega), ?_, rfl, rfl, rfl, rfl⟩
        rw [List.take_succ_eq_append_getElem hil]
        have : b.getD i 0 = b[i] := by simp [List.getD, hil]
        rw [this] at B6
        exact B6
      · have hbi : i = b.length := by omega
        (refine W_seq ?_; refine W_seq ?_; refine W_region ?_; refine Ls (X_move (v := .int _ _) rfl) ?_; refine Ls (X_lssT rfl rfl (by omega)) ?_; refine Ls (X_move (v := .bool _) rfl) ?_; refine Lg2 rfl rfl rfl (X_move (v := .int _ _) rfl) ?_; refine Lg2 rfl rfl rfl (X_move (v := .slice _ _ _) rfl) ?_; refine Lg2 rfl rfl rfl (X_lenSlice rfl) ?_; refine Lg2 rfl rfl rfl (X_lssF rfl rfl (by omega)) ?_; refine Ls (X_pickT (v := .bool _) rfl rfl) ?_; refine L_nil ?_; refine tn ?_; refine W_condF rfl ?_; refine W_exit ?_; refine te ?_; refine te ?_; refine bx ?_; refine tn ?_; refine W_seq ?_; refine W_region ?_)
        have hfull : b.take i ++ List.replicate (32 - i) 0 = dig b := by
          unfold dig
          rw [List.take_of_length_le (show b.length ≤ i by omega), List.take_of_length_le (show b.length ≤ 32 by omega), hbi]
        rw [hfull] at D3
        (refine Ls (X_ldW rfl D3 (by rw [ints_len, dig_len])) ?_)
        refine L_storeW (size := 32) rfl rfl (by rw [ints_len, dig_len]) ints_cell D2 rfl ?_
        intro w6 B6 hg6 hs6
        (refine L_nil ?_; refine tn ?_; refine W_ret ?_)
        refine endQ_res rfl rfl (Res.cellA inferInstance rfl (B6.range (fun j u h => by simpa using h)) (by rw [ints_len, dig_len]) .nil) ?_
        exact ⟨rfl, E5.then hg6 (fun g h => by cases h; omega)⟩
    · obtain rfl : i = 32 := by omega
      (refine W_seq ?_; refine W_seq ?_; refine W_region ?_; refine Ls (X_move (v := .int _ _) rfl) ?_; refine Ls (X_lssF rfl rfl (by omega)) ?_; refine Ls (X_move (v := .bool _) rfl) ?_; refine Lo2 rfl rfl rfl rfl ?_; refine Lo2 rfl rfl rfl rfl ?_; refine Lo2 rfl rfl rfl rfl ?_; refine Lo2 rfl rfl rfl rfl ?_; refine Ls (X_pickF (v := .bool _) rfl rfl) ?_; refine L_nil ?_; refine tn ?_; refine W_condF rfl ?_; refine W_exit ?_; refine te ?_; refine te ?_; refine bx ?_; refine tn ?_; refine W_seq ?_; refine W_region ?_)
      have hfull : b.take 32 ++ List.replicate (32 - 32) 0 = dig b := by
        unfold dig
        rw [htl]
      rw [hfull] at D3
      (refine Ls (X_ldW rfl D3 (by rw [ints_len, dig_len])) ?_)
      refine L_storeW (size := 32) rfl rfl (by rw [ints_len, dig_len]) ints_cell D2 rfl ?_
      intro w6 B6 hg6 hs6
      (refine L_nil ?_; refine tn ?_; refine W_ret ?_)
      refine endQ_res rfl rfl (Res.cellA inferInstance rfl (B6.range (fun j u h => by simpa using h)) (by rw [ints_len, dig_len]) .nil) ?_
      exact ⟨rfl, E5.then hg6 (fun g h => by cases h; omega)⟩
end Go.Proofs.YtemodkjmdalmlaaDoor

/- The reference's Made at field pairs, Hex; the law package's made. -/
namespace Go.Proofs.YtemodkjmdalmlaaDoor
open Go.RowKit Go.Proofs.K

/-- field pairs, reduced -/
def red (l : List (Nat × Nat)) : List (Nat × Nat) := l.map fun p => (p.1 % Tr.pr, p.2 % Tr.pr)
theorem red_len (l : List (Nat × Nat)) : (red l).length = l.length := by simp [red]
theorem red_lt (l : List (Nat × Nat)) : ∀ p ∈ red l, p.1 < Tr.pr ∧ p.2 < Tr.pr := by
  intro p hp
  obtain ⟨q, _, rfl⟩ := List.mem_map.1 hp
  exact ⟨Nat.mod_lt _ (by unfold Tr.pr; omega), Nat.mod_lt _ (by unfold Tr.pr; omega)⟩
theorem red_succ {l : List (Nat × Nat)} {i : Nat} {p : Nat × Nat} (h : l[i]? = some p) : red (l.take (i + 1)) = red (l.take i) ++ [(p.1 % Tr.pr, p.2 % Tr.pr)] := by
  rw [List.take_add_one, h]; simp [red]
theorem exs_one (a b : Nat) : exs [(a, b)] = exC a b := by simp [exs]
theorem red_take_len {l : List (Nat × Nat)} {i : Nat} (hi : i ≤ l.length) : (red (l.take i)).length = i := by rw [red_len, List.length_take, Nat.min_eq_left hi]

section
variable {P : Program} {n : NN} {ops : Array Oper} {rest : List Oper} {A : World → Prop} {Fin : List Oper → (Rho → Fr) → (Rho → Nat → World → Prop) → Prop} {k : Nat} {E : List Ent} {g : Rho → Fr} {H : Rho → Nat → World → Prop} {d : Tmp} {t ty e : TypeId} {pos : String} {af : Array Edge} {w0 : World} {x y : Operand}
/-- a slice of one struct, inside a region that draws -/
theorem DW_litA {z l : List Value} [TSlice P ty e] [TZero P e z] (hx : ∀ r, ev n (g r) x = .agg l.toArray) (hl : l.length = z.length) (hA0 : ∀ w, A w → w0.heap.size ≤ w.heap.size)
    (hz : Nat.ble (1 * z.length) 65536 = true) (hr : DW ExtN P n ops A Fin rest (k + 1) E (fun r => upd (g r) d (r k)) (fun r j w => bif Nat.beq j k then RowF w0 z.length (r k) 1 l w else H r j w)) :
    DW ExtN P n ops A Fin (⟨some d, .buildSlice ty 1 #[(0, x)], t, pos, af, none⟩ :: rest) k (.op (fun r w => RowF w0 z.length (r k) 1 l w) :: E) g H :=
  DW_d (F := fun _ u w => RowF w0 z.length u 1 l w) (fun r w hA hH => ⟨_, _, X_lits (r := [(0, x)]) (zs' := [l]) (cs := l) (Parts.cons (c := l) (z := z) (hx r) rfl rfl hl (Parts.nil _)) hz (by simp), grown_alloc _ _, _, _, hA0 w hA, Row.lit w e z.length 1 l (by omega) (by unfold maxLen; omega)⟩)
    (fun _ r u w w' _ _ E h => RowF.ext E h) (fun _ _ => rfl) hr
end

set_option maxHeartbeats 1000000 in
theorem rmadeL (lo hi : Nat) (v : Value) (l : List (Nat × Nat)) (hl : l.length ≤ 1000000) (w : World) (hr : Row w lo hi 2 v l.length (exs l)) :
    Calls Tryd.prog 16 #[v] w fun e w' => ∃ q, e = .returned q ∧ Ext w w' ∧ w'.ownsRow w.heap.size 46 2 q l.length (exs (red l)) := by
  refine calls_W Tryd.func16 rfl Tryd.ntmps16 rfl ?_
  obtain ⟨hl0, A, c, rfl, hc, hcm, hnn⟩ := hr
  (refine W_seq ?_; refine W_region ?_; refine Ls (X_assign (v := .slice _ _ _) rfl) ?_; refine L_nil ?_; refine tn ?_; refine W_seq ?_; refine W_region ?_)
  refine L_lit0 (size := 2) ?_
  intro q1 w1 E1 hs1 o1
  (refine Ls (X_assign (v := q1) rfl) ?_; refine L_nil ?_; refine tn ?_; refine W_seq ?_; refine W_seq ?_; refine W_region ?_; refine Ls (X_assign (v := .int _ _) rfl) ?_; refine L_nil ?_; refine tn ?_; refine W_block ?_)
  refine W_loop (fun q f w' => ∃ i v', q = l.length - i ∧ i ≤ l.length ∧ Ext w w' ∧ w'.ownsRow w.heap.size 46 2 v' i (exs (red (l.take i))) ∧ f 0 = .slice A l.length c ∧ f 3 = v' ∧ f 4 = .int .i64 (i : Nat)) l.length ?_ ?_
  · exact ⟨0, q1, rfl, by omega, E1, o1, rfl, rfl, rfl⟩
  · rintro q f w1 ⟨i, v', rfl, hi, E1, o1, h0, h3, h4⟩
    rw [fold h0, fold h3, fold h4]
    (refine W_seq ?_; refine W_seq ?_; refine W_region ?_; refine Ls (X_move (v := .int _ _) rfl) ?_; refine Ls (X_move (v := .slice _ _ _) rfl) ?_; refine Ls (X_lenSlice rfl) ?_; refine Ls (X_lss rfl rfl) ?_; refine L_nil ?_; refine tn ?_)
    refine W_condp rfl (fun h => ?_) (fun h => ?_)
    · have hi' : i < l.length := by omega
      obtain ⟨b, o, rfl, hb1, hb2, hcell⟩ := hnn (by omega)
      obtain ⟨⟨xa, xb⟩, hpi⟩ : ∃ p, l[i]? = some p := ⟨l[i], List.getElem?_eq_getElem hi'⟩
      obtain ⟨hx1, hx2⟩ := exs_get hpi
      dsimp only at hx1 hx2
      have hsu := red_succ hpi
      dsimp only at hsu
      (refine W_skip ?_; refine tn ?_; refine W_seq ?_; refine W_block ?_)
      apply W_dagE 15 (by kernel_rfl)
      (apply DW_x (fun r w hA hH => (X_move (v := v') rfl).trans rfl); apply DW_x (fun r w hA hH => (X_move (v := .slice _ _ _) rfl).trans rfl); apply DW_x (fun r w hA hH => (X_move (v := .int _ _) rfl).trans rfl); apply DW_x (fun r w hA hH => (X_indexSn rfl rfl (by omega)).trans rfl); apply DW_x (fun r w hA hH => (X_fld rfl).trans rfl); apply DW_x (fun r w hA hH => (X_ldR (j := i * 2) (v := .int .u64 (xa : Nat)) rfl ((E1.trans hA).range hcell) (by omega) hx1).trans rfl))
      ((with_reducible apply DW_fn); (exact fun _ => rfl); (exact fun _ => rfl); (exact fun r w hA hH => reduce1 xa w))
      (apply DW_x (fun r w hA hH => (X_move (v := .slice _ _ _) rfl).trans rfl); apply DW_x (fun r w hA hH => (X_move (v := .int _ _) rfl).trans rfl); apply DW_x (fun r w hA hH => (X_indexSn rfl rfl (by omega)).trans rfl); apply DW_x (fun r w hA hH => (X_fld rfl).trans rfl); apply DW_x (fun r w hA hH => (X_ldR (j := i * 2 + 1) (v := .int .u64 (xb : Nat)) rfl ((E1.trans hA).range hcell) (by omega) hx2).trans rfl))
      ((with_reducible apply DW_fn); (exact fun _ => rfl); (exact fun _ => rfl); (exact fun r w hA hH => reduce1 xb w))
      ((with_reducible apply DW_x); (exact fun r w hA hH => (X_mkEx rfl rfl).trans rfl))
      apply DW_litA (w0 := w1) (fun _ => rfl) (by rfl) (fun w hA => hA.size) (by rfl)
      ((with_reducible exact D_end); (exact rfl); (repeat (first | exact trivial | (refine And.intro ?_ ?_) | exact .inr (.inr (fun _ _ => rfl)) | exact .inl (by decide) | exact .inr (.inl rfl))); (try dsimp only [Nat.reduceAdd]))
      intro r w2 E2 H2
      obtain ⟨lo2, hi2, hlo2, r2⟩ : RowF w1 2 (r 14) 1 (exC (xa % Tr.pr) (xb % Tr.pr)) w2 := H2 14
      generalize r 14 = q4 at *
      refine L_append (v := v') (u := q4) rfl rfl (own_ext o1 E2) r2 exC_cell (by omega) (by omega) (by have := E1.size; have := E2.size; omega) ?_
      intro q5 w5 o5 hg5 _
      (refine Ls (X_assign (v := q5) rfl) ?_; refine L_nil ?_; refine bn ?_; refine tn ?_; refine W_region ?_; refine Ls (X_move (v := .int _ _) rfl) ?_; refine Ls (X_addi rfl rfl (by omega)) ?_; refine Ls (X_assign (v := .int _ _) rfl) ?_; refine L_nil ?_; refine tn ?_)
      refine ⟨l.length - (i + 1), by omega, i + 1, q5, rfl, by omega, (E1.trans E2).then hg5 (fun g h => (o1.lt g h).1), ?_, rfl, rfl, rfl⟩
      rw [hsu, exs_app, exs_one]
      exact o5
    · obtain rfl : i = l.length := by omega
      (refine W_exit ?_; refine te ?_; refine te ?_; refine bx ?_; refine tn ?_; refine W_seq ?_; refine W_region ?_; refine Ls (X_move (v := v') rfl) ?_; refine Ls (X_assign (v := v') rfl) ?_; refine L_nil ?_; refine tn ?_; refine W_ret ?_)
      refine endQ_ret1 rfl rfl (v := v') rfl ?_
      rw [List.take_length] at o1
      exact ⟨v', rfl, E1, o1⟩

/-! hexadecimal digits -/
def hexS : ByteArray := ⟨#[48, 49, 50, 51, 52, 53, 54, 55, 56, 57, 97, 98, 99, 100, 101, 102]⟩
def hexC (x : Nat) : Nat := (sb hexS).getD x 0
def hexOf (l : List Nat) : List Nat := (l.map fun x => [hexC (x / 16), hexC (x % 16)]).flatten
theorem hexOf_succ {l : List Nat} {i x : Nat} (h : l[i]? = some x) : hexOf (l.take (i + 1)) = hexOf (l.take i) ++ [hexC (x / 16), hexC (x % 16)] := by
  rw [List.take_add_one, h]; simp [hexOf]
theorem hexOf_len (l : List Nat) : (hexOf l).length = 2 * l.length := by
  induction l with
  | nil => rfl
  | cons p l ih => simp only [hexOf, List.map_cons, List.flatten_cons, List.length_append, List.length_cons, List.length_nil] at ih ⊢; omega
section
variable {P : Program} {n : NN} {f : Fr} {w : World} {d : Option Tmp} {t ty ty' : TypeId} {pos : String} {af : Array Edge} {g : Option (Nat × Bool)} {x y : Operand}
theorem X_quo8 {a b : Nat} (hx : ev n f x = .int .u8 (a : Nat)) (hy : ev n f y = .int .u8 (b : Nat)) (h : 0 < b ∧ a < 256) : X P n ⟨d, .binOp .quo ty x y ty', t, pos, af, g⟩ f w = .ok (.value (.int .u8 ((a / b : Nat) : Int))) w := by
  have hl : a / b ≤ a := Nat.div_le_self _ _
  rw [X_quo hx hy (by omega), tdiv_nat, u8_nat, Nat.mod_eq_of_lt (by omega)]
theorem X_idxS [hs : TStr P ty] {s : ByteArray} {k : IntKind} {i : Nat} (hx : ev n f x = .string s) (hy : ev n f y = .int k (i : Int)) (h : i < s.size) :
    X P n ⟨d, .index ty x y, t, pos, af, g⟩ f w = .ok (.value (.int .u8 (((sb s).getD i 0 : Nat) : Int))) w := by
  rw [X_indexStr hx hy h, sb_get s h]
end
set_option maxHeartbeats 1000000 in
theorem rhex (l : List Nat) (hl : l.length = 32) (hl8 : ∀ x ∈ l, x < 256) (w : World) :
    Calls Tryd.prog 36 #[.agg (ints .u8 l).toArray] w fun e w' => e = .returned (.string (strB (hexOf l))) ∧ Ext w w' := by
  refine calls_W Tryd.func36 rfl Tryd.ntmps36 rfl ?_
  (refine W_seq ?_; refine W_region ?_)
  refine L_box rfl ?_
  intro g1 w1 B1 hg1 E1 hs1
  (refine Ls (X_assign (v := .string _) rfl) ?_; refine L_nil ?_; refine tn ?_; refine W_seq ?_; refine W_region ?_)
  refine L_lit0 (size := 1) ?_
  intro q1 w2 E2 hs2 o2
  (refine Ls (X_assign (v := .string _) rfl) ?_; refine Ls (X_assign (v := q1) rfl) ?_; refine L_nil ?_; refine tn ?_; refine W_seq ?_; refine W_seq ?_; refine W_region ?_; refine Ls (X_assign (v := .int _ _) rfl) ?_; refine L_nil ?_; refine tn ?_; refine W_block ?_)
  refine W_loop (fun q f w' => ∃ i v', q = 32 - i ∧ i ≤ 32 ∧ Ext w1 w' ∧ w'.ownsRow w1.heap.size 5 1 v' (2 * i) (ints .u8 (hexOf (l.take i))) ∧ f 1 = .pointer (some ⟨g1, 0, none⟩) ∧ f 3 = .string hexS ∧ f 4 = v' ∧ f 5 = .int .i64 (i : Nat)) 32 ?_ ?_
  · exact ⟨0, q1, rfl, by omega, E2, o2, rfl, rfl, rfl, rfl⟩
  · rintro q f w3 ⟨i, v', rfl, hi, E3, o3, h1, h3, h4, h5⟩
    rw [fold h1, fold h3, fold h4, fold h5]
    (refine W_seq ?_; refine W_seq ?_; refine W_region ?_; refine Ls (X_move (v := .int _ _) rfl) ?_; refine Ls (X_lss rfl rfl) ?_; refine L_nil ?_; refine tn ?_)
    refine W_condp rfl (fun h => ?_) (fun h => ?_)
    · have hi' : i < l.length := by omega
      obtain ⟨x, hpi⟩ : ∃ p, l[i]? = some p := ⟨l[i], List.getElem?_eq_getElem hi'⟩
      have hx8 : x < 256 := hl8 x (List.mem_of_getElem? hpi)
      have hsu := hexOf_succ hpi
      have hB := B1.ext E3
      have hxc : (ints .u8 l)[0 + i * 1]? = some (.int .u8 (x : Nat)) := by
        rw [show 0 + i * 1 = i by omega]; simp [ints, hpi]
      (refine W_skip ?_; refine tn ?_; refine W_seq ?_; refine W_block ?_)
      apply W_dagE 14 (by kernel_rfl)
      have h16 : hexS.size = 16 := rfl
      (apply DW_x (fun r w hA hH => (X_move (v := v') rfl).trans rfl); apply DW_x (fun r w hA hH => (X_move (v := .string _) rfl).trans rfl); apply DW_x (fun r w hA hH => (X_move (v := .int _ _) rfl).trans rfl); apply DW_x (fun r w hA hH => (X_indexAn rfl rfl (by omega)).trans rfl); apply DW_x (fun r w hA hH => (X_ld rfl (hB.ext hA) hxc).trans rfl); apply DW_x (fun r w hA hH => (X_quo8 (a := x) (b := 16) rfl rfl (by omega)).trans rfl); apply DW_x (fun r w hA hH => (X_idxS (s := hexS) (i := x / 16) rfl rfl (by omega)).trans rfl); apply DW_x (fun r w hA hH => (X_move (v := .string _) rfl).trans rfl); apply DW_x (fun r w hA hH => (X_move (v := .int _ _) rfl).trans rfl); apply DW_x (fun r w hA hH => (X_indexAn rfl rfl (by omega)).trans rfl); apply DW_x (fun r w hA hH => (X_ld rfl (hB.ext hA) hxc).trans rfl); apply DW_x (fun r w hA hH => (X_remn (a := x) (b := 16) rfl rfl (by omega)).trans rfl); apply DW_x (fun r w hA hH => (X_idxS (s := hexS) (i := x % 16) rfl rfl (by omega)).trans rfl))
      apply DW_lit2 (w0 := w3) (fun _ => .int .u8 ((hexC (x / 16) : Nat) : Int)) (fun _ => .int .u8 ((hexC (x % 16) : Nat) : Int)) (fun _ => rfl) (fun _ => rfl) (fun r w hA hH => ⟨rfl, rfl⟩) (fun w hA => hA.size) (fun r v => rfl) (fun r v => rfl)
      ((with_reducible exact D_end); (exact rfl); (repeat (first | exact trivial | (refine And.intro ?_ ?_) | exact .inr (.inr (fun _ _ => rfl)) | exact .inl (by decide) | exact .inr (.inl rfl))); (try dsimp only [Nat.reduceAdd]))
      intro r w4 E4 H4
      obtain ⟨lo2, hi2, hlo2, r2⟩ : RowF w3 1 (r 13) 2 [.int .u8 ((hexC (x / 16) : Nat) : Int), .int .u8 ((hexC (x % 16) : Nat) : Int)] w4 := H4 13
      generalize r 13 = q4 at *
      refine L_append (v := v') (u := q4) rfl rfl (own_ext o3 E4) r2 (by simp [Value.oneCell']) (by omega) (by omega) (by have := E3.size; have := E4.size; omega) ?_
      intro q5 w5 o5 hg5 _
      (refine Ls (X_assign (v := q5) rfl) ?_; refine L_nil ?_; refine bn ?_; refine tn ?_; refine W_region ?_; refine Ls (X_move (v := .int _ _) rfl) ?_; refine Ls (X_addi rfl rfl (by omega)) ?_; refine Ls (X_assign (v := .int _ _) rfl) ?_; refine L_nil ?_; refine tn ?_)
      have E5 : Ext w1 w5 := (E3.trans E4).then hg5 (fun g h => (o3.lt g h).1)
      refine ⟨32 - (i + 1), by omega, i + 1, q5, rfl, by omega, E5, ?_, rfl, rfl, rfl, rfl⟩
      rw [hsu, ints_app]
      exact o5
    · obtain rfl : i = 32 := by omega
      rw [List.take_of_length_le (by omega)] at o3
      (refine W_exit ?_; refine te ?_; refine te ?_; refine bx ?_; refine tn ?_; refine W_seq ?_; refine W_region ?_; refine Ls (X_move (v := v') rfl) ?_)
      refine Ls (X_toStr (v := v') (l := hexOf l) (by rfl) ((Row.of_own o3).re (by rw [hexOf_len, hl]) rfl)) ?_
      (refine Ls (X_assign (v := .string _) rfl) ?_; refine L_nil ?_; refine tn ?_; refine W_ret ?_)
      refine endQ_ret1 rfl rfl (v := .string _) rfl ?_
      exact ⟨rfl, E1.trans E3⟩
end Go.Proofs.YtemodkjmdalmlaaDoor

/- The law package's made. -/
namespace Go.Proofs.YtemodkjmdalmlaaDoor
open Go.RowKit Go.Proofs.K

/-- the cells of an Input -/
def inC (lab : ByteArray) (vB vL vN vS : Value) (c : Nat) : List Value := [.string lab, vB, vL, vN, vS, .int .u64 (c : Nat)]
theorem inC_cell {lab : ByteArray} {vB vL vN vS : Value} {c : Nat} (hB : vB.oneCell' = true) (hL : vL.oneCell' = true) (hN : vN.oneCell' = true) (hS : vS.oneCell' = true) : ∀ v ∈ inC lab vB vL vN vS c, v.oneCell' = true := by
  intro v hv
  simp only [inC, List.mem_cons, List.not_mem_nil, or_false] at hv
  rcases hv with rfl | rfl | rfl | rfl | rfl | rfl <;> first | rfl | assumption
section
variable {n : NN} {f : Fr} {w : World} {d : Option Tmp} {t : TypeId} {pos : String} {af : Array Edge} {g : Option (Nat × Bool)} {x y z : Operand}
theorem X_sliceTo {P : Program} {ty : TypeId} {e : TypeId} {size m c : Nat} [TSlice P ty e] [TSz P e size] {A : Option Addr} {b : Operand} {kb : IntKind} {jb : Int} {u : Value} (j : Nat) (hu : Value.slice (if c = 0 then A else A.map (·.add (0 * size))) (j - 0) (c - 0) = u)
    (hx : ev n f x = .slice A m c) (hb : ev n f b = .int kb jb) (hj : jb = (j : Int)) (hjc : j ≤ c) :
    X P n ⟨d, .slice ty x none (some b) none, t, pos, af, g⟩ f w = .ok (.value u) w := by
  subst hu; exact X_sliceB j hx hb hj hjc
theorem one_cells {v : Value} (h : v.oneCell' = true) : v.cells = [v].toArray := by cases v <;> first | rfl | cases h
theorem X_mkIn {vB vL vN : Value} (hB : vB.oneCell' = true) (hL : vL.oneCell' = true) (hN : vN.oneCell' = true) (hx : ev n f x = vB) (hy : ev n f y = vL) (hz : ev n f z = vN) :
    X Tryd.prog n ⟨d, .build 27 #[(1, x), (2, y), (3, z)], t, pos, af, g⟩ f w = .ok (.value (.agg (inC ByteArray.empty vB vL vN (.slice none 0 0) 0).toArray)) w := by
  have := X_build (P := Tryd.prog) (ty := 27) (n := n) (f := f) (w := w) (d := d) (t := t) (pos := pos) (af := af) (g := g)
    (Parts.cons (i := 1) (c := [vB]) (z := [.slice none 0 0]) hx (one_cells hB) rfl rfl (Parts.cons (i := 2) (c := [vL]) (z := [.slice none 0 0]) hy (one_cells hL) rfl rfl (Parts.cons (i := 3) (c := [vN]) (z := [.slice none 0 0]) hz (one_cells hN) rfl rfl (Parts.nil _))))
  simpa [inC] using this
theorem X_mkTr2 {s : List Nat} {c : Nat} (hs : s.length = 32) (hx : ev n f x = .agg (ints .u8 s).toArray) (hy : ev n f y = .int .u64 (c : Nat)) :
    X Tryd.prog n ⟨d, .build 34 #[(0, x), (1, y)], t, pos, af, g⟩ f w = .ok (.value (.agg (trC s c).toArray)) w := by
  have := X_build (P := Tryd.prog) (ty := 34) (n := n) (f := f) (w := w) (d := d) (t := t) (pos := pos) (af := af) (g := g) (Parts.cons (i := 0) (c := ints .u8 s) (z := (List.replicate 32 [.int .u8 0]).flatten) hx rfl rfl (by rw [ints_len, hs]; rfl) (Parts.cons (i := 1) (c := [.int .u64 (c : Nat)]) (z := [.int .u64 0]) hy rfl rfl rfl (Parts.nil _)))
  simpa [trC] using this
end
/-- the first j of a row, as the slice's own header says it -/
theorem Row.to {w : World} {lo hi size m c : Nat} {A : Option Addr} {xs : List Value} (h : Row w lo hi size (.slice A m c) m xs) {j : Nat} (hj : j ≤ m) :
    Row w lo hi size (.slice (if c = 0 then A else A.map (·.add (0 * size))) (j - 0) (c - 0)) j (xs.take (j * size)) := by
  have := h.slice (i := 0) (j := j) rfl (Nat.zero_le _) hj
  simpa using this
theorem exs_take (l : List (Nat × Nat)) (j : Nat) : (exs l).take (j * 2) = exs (l.take j) := by
  induction l generalizing j with
  | nil => simp [exs]
  | cons p l ih =>
    cases j with
    | zero => simp [exs]
    | succ j =>
      have e : ∀ q (r : List (Nat × Nat)), exs (q :: r) = [.int .u64 (q.1 : Nat), .int .u64 (q.2 : Nat)] ++ exs r := fun q r => by simp [exs, exC]
      rw [List.take_succ_cons, e, e, ← ih, show (j + 1) * 2 = j * 2 + 2 by omega]
      rfl

theorem take_min {α : Type} (l : List α) (k : Nat) : l.take (min l.length k) = l.take k := by
  rcases Nat.le_total l.length k with h | h
  · rw [Nat.min_eq_left h, List.take_length, List.take_of_length_le h]
  · rw [Nat.min_eq_right h]
set_option maxHeartbeats 4000000 in
theorem lmade (lab : ByteArray) (vB vL vN vS : Value) (c : Nat) (b : List Nat) (l : List (Nat × Nat)) (nn : List Int) (st : List Nat) (loB hiB loL hiL loN hiN loS hiS : Nat) (w : World)
    (rB : Row w loB hiB 1 vB b.length (ints .u8 b)) (rL : Row w loL hiL 2 vL l.length (exs l)) (rN : Row w loN hiN 1 vN nn.length (i64s nn)) (rS : Row w loS hiS 1 vS st.length (ints .u8 st)) :
    Calls Tryd.prog 12 #[.agg (inC lab vB vL vN vS c).toArray] w fun e w' => ∃ uB uL uN, e = .returned (.tuple #[.agg (trC (dig st) c).toArray, .string (labS lab), .agg (inC ByteArray.empty uB uL uN (.slice none 0 0) 0).toArray]) ∧ Ext w w' ∧
      Row w' loB hiB 1 uB (b.take 200).length (ints .u8 (b.take 200)) ∧ w'.ownsRow w.heap.size 46 2 uL (l.take 12).length (exs (red (l.take 12))) ∧ Row w' loN hiN 1 uN (nn.take 12).length (i64s (nn.take 12)) := by
  refine calls_W Tryd.func12 rfl Tryd.ntmps12 rfl ?_
  have cB := row_cell rB
  have cL := row_cell rL
  have cN := row_cell rN
  have cS := row_cell rS
  (refine W_seq ?_; refine W_region ?_)
  refine L_box rfl ?_
  intro g1 w1 B1 hg1 E1 hs1
  refine L_alloc ?_
  intro g2 w2 B2 hg2 E2 hs2
  (refine Ls (X_assign (v := .string _) rfl) ?_)
  refine L_alloc ?_
  intro g4 w4 B4 hg4 E4 hs4
  have C1 := (B1.ext E2).ext E4
  have Ea := (E1.trans E2).trans E4
  (refine L_nil ?_; refine tn ?_; refine W_seq ?_)
  apply W_dagE 7 (by kernel_rfl)
  (apply DW_x (fun r w hA hH => (X_fld rfl).trans rfl); apply DW_x (fun r w hA hH => (X_ld rfl (C1.ext hA) rfl).trans rfl))
  ((with_reducible apply DW_fn); (exact fun _ => rfl); (exact fun _ => rfl); (exact fun r w hA hH => rmadeD _ _ vS st w ((rS.ext Ea).ext hA)))
  (apply DW_x (fun r w hA hH => (X_fld rfl).trans rfl); apply DW_x (fun r w hA hH => (X_ld rfl (C1.ext hA) rfl).trans rfl))
  ((with_reducible apply DW_x); (exact fun r w hA hH => (X_mkTr2 (dig_len st) rfl rfl).trans rfl))
  apply DW_alloc (w0 := w4) (fun w hA => hA.size)
  ((with_reducible exact D_end); (exact rfl); (repeat (first | exact trivial | (refine And.intro ?_ ?_) | exact .inr (.inr (fun _ _ => rfl)) | exact .inl (by decide) | exact .inr (.inl rfl))); (try dsimp only [Nat.reduceAdd]))
  intro r w5 E5 H5
  obtain ⟨g5, hr5, hg5, B5⟩ : NewF w4 34 _ (r 6) w5 := H5 6
  rw [hr5]
  refine L_storeW rfl rfl (trC_len (dig_len st)) trC_cell B5 rfl ?_
  intro w6 B6 hg6 hs6
  have hlt5 := B5.lt
  have D1 := (C1.ext E5).grown hg6 (by simp; omega)
  have D2 := ((B2.ext E4).ext E5).grown hg6 (by simp; omega)
  have D4 := (B4.ext E5).grown hg6 (by simp; omega)
  have Eb : Ext w w6 := (Ea.trans E5).then hg6 (fun g h => by cases h; omega)
  obtain ⟨_, aB, kB, rfl, hkB, hmB, _⟩ := id rB
  obtain ⟨_, aL, kL, rfl, hkL, hmL, _⟩ := id rL
  obtain ⟨_, aN, kN, rfl, hkN, hmN, _⟩ := id rN
  have tB := Row.to rB (j := min b.length 200) (by omega)
  have tL := Row.to rL (j := min l.length 12) (by omega)
  have tN := Row.to rN (j := min nn.length 12) (by omega)
  obtain ⟨uB, huB⟩ : ∃ u, Value.slice (if kB = 0 then aB else aB.map (·.add (0 * 1))) (min b.length 200 - 0) (kB - 0) = u := ⟨_, rfl⟩
  obtain ⟨uL, huL⟩ : ∃ u, Value.slice (if kL = 0 then aL else aL.map (·.add (0 * 2))) (min l.length 12 - 0) (kL - 0) = u := ⟨_, rfl⟩
  obtain ⟨uN, huN⟩ : ∃ u, Value.slice (if kN = 0 then aN else aN.map (·.add (0 * 1))) (min nn.length 12 - 0) (kN - 0) = u := ⟨_, rfl⟩
  rw [huB] at tB
  rw [huL, exs_take, take_min] at tL
  rw [huN] at tN
  have lB : (b.take 200).length = min b.length 200 := by rw [List.length_take, Nat.min_comm]
  have lL : (l.take 12).length = min l.length 12 := by rw [List.length_take, Nat.min_comm]
  have lN : (nn.take 12).length = min nn.length 12 := by rw [List.length_take, Nat.min_comm]
  have sB : Row w loB hiB 1 uB (b.take 200).length (ints .u8 (b.take 200)) := tB.re lB.symm (by rw [Nat.mul_one, ints_take, take_min])
  have sN : Row w loN hiN 1 uN (nn.take 12).length (i64s (nn.take 12)) := tN.re lN.symm (by rw [Nat.mul_one, i64s, ← List.map_take, take_min]; rfl)
  have sL : Row w loL hiL 2 uL (l.take 12).length (exs (l.take 12)) := tL.re lL.symm rfl
  have cuB := row_cell sB
  have cuN := row_cell sN
  unfold maxLen at hmB hmL hmN
  (refine L_nil ?_; refine tn ?_; refine W_seq ?_)
  apply W_dagE 24 (by kernel_rfl)
  (apply DW_x (fun r w hA hH => (X_fld rfl).trans rfl); apply DW_x (fun r w hA hH => (X_ld rfl (D1.ext hA) rfl).trans rfl); apply DW_x (fun r w hA hH => (X_fld rfl).trans rfl); apply DW_x (fun r w hA hH => (X_ld rfl (D1.ext hA) rfl).trans rfl); apply DW_x (fun r w hA hH => (X_lenSlice rfl).trans rfl); apply DW_x (fun r w hA hH => (X_min rfl rfl).trans rfl))
  ((with_reducible apply DW_x); (exact fun r w hA hH => (X_sliceTo (min b.length 200) huB rfl rfl (by split <;> omega) (by omega)).trans rfl))
  (apply DW_x (fun r w hA hH => (X_fld rfl).trans rfl); apply DW_x (fun r w hA hH => (X_ld rfl (D1.ext hA) rfl).trans rfl); apply DW_x (fun r w hA hH => (X_fld rfl).trans rfl); apply DW_x (fun r w hA hH => (X_ld rfl (D1.ext hA) rfl).trans rfl); apply DW_x (fun r w hA hH => (X_lenSlice rfl).trans rfl); apply DW_x (fun r w hA hH => (X_min rfl rfl).trans rfl))
  ((with_reducible apply DW_x); (exact fun r w hA hH => (X_sliceTo (min l.length 12) huL rfl rfl (by split <;> omega) (by omega)).trans rfl))
  ((with_reducible apply DW_fo); (exact fun _ => rfl); (exact fun _ => rfl); (exact fun r w hA hH => calls_own hA (rmadeL _ _ uL (l.take 12) (by omega) w (sL.ext (Eb.trans hA)))); (exact fun _ _ _ _ _ _ E h => OwnF.ext E h))
  (apply DW_x (fun r w hA hH => (X_fld rfl).trans rfl); apply DW_x (fun r w hA hH => (X_ld rfl (D1.ext hA) rfl).trans rfl); apply DW_x (fun r w hA hH => (X_fld rfl).trans rfl); apply DW_x (fun r w hA hH => (X_ld rfl (D1.ext hA) rfl).trans rfl); apply DW_x (fun r w hA hH => (X_lenSlice rfl).trans rfl); apply DW_x (fun r w hA hH => (X_min rfl rfl).trans rfl))
  ((with_reducible apply DW_x); (exact fun r w hA hH => (X_sliceTo (min nn.length 12) huN rfl rfl (by split <;> omega) (by omega)).trans rfl))
  ((with_reducible apply DW_x); (exact fun r w hA hH => (X_mkIn cuB (by obtain ⟨_, _, o⟩ := hH 14 rfl; exact own_cell o) cuN rfl rfl rfl).trans rfl))
  apply DW_alloc (w0 := w6) (fun w hA => hA.size)
  ((with_reducible exact D_end); (exact rfl); (repeat (first | exact trivial | (refine And.intro ?_ ?_) | exact .inr (.inr (fun _ _ => rfl)) | exact .inl (by decide) | exact .inr (.inl rfl))); (try dsimp only [Nat.reduceAdd]))
  intro r7 w7 E7 H7
  obtain ⟨bq, hbq, oL⟩ : OwnF w6 46 2 (r7 14) (l.take 12).length (exs (red (l.take 12))) w7 := H7 14
  obtain ⟨g6, hr6, hg6', B6'⟩ : NewF w6 27 _ (r7 23) w7 := H7 23
  rw [hr6]
  have hcL := own_cell oL
  generalize r7 14 = vL' at *
  have hic := inC_cell (lab := ByteArray.empty) (c := 0) cuB hcL cuN (vS := .slice none 0 0) rfl
  refine L_storeW (size := 6) rfl rfl rfl hic B6' rfl ?_
  intro w8 B8 hg8 hs8
  have hlt6 := B6'.lt
  have hs7 := E7.size
  have hlt1 := D1.lt
  have hlt2 := D2.lt
  have hlt4 := D4.lt
  have F1 := (D1.ext E7).grown hg8 (by simp; omega)
  have F2 := (D2.ext E7).grown hg8 (by simp; omega)
  have F4 := (D4.ext E7).grown hg8 (by simp; omega)
  have F5 := (B6.ext E7).grown hg8 (by simp; have := B6.lt; omega)
  have oL' := own_other oL hg8 (fun g h => by
    intro e
    cases e
    have hx := (oL.lt g6 h)
    obtain ⟨_, hnil | ⟨gq, cap, cur, hv, _, hcur, _⟩⟩ := oL
    · rw [hnil.1] at h; cases h
    · rw [hv] at h
      have : gq = g6 := by injection h
      subst this
      unfold Blk at B6'
      rw [hcur] at B6'
      injection B6' with B6'
      injection B6' with _ e2 _
      cases e2)
  have Ec : Ext w w8 := (Eb.trans E7).then hg8 (fun g h => by cases h; have := Eb.size; omega)
  (refine L_nil ?_; refine tn ?_; refine W_seq ?_)
  apply W_dagR (R := RB g2 34 _ _) (AB g2 34 _ (trC (dig st) c) w8) 7 (by kernel_rfl) (RB.refl _ _ _ _) (AB.new F2) AB.step
  (apply DW_x (fun r w hA hH => (X_ldW rfl (F5.grown hA.1 (by simp; omega)) (trC_len (dig_len st))).trans rfl); apply DW_x (fun r w hA hH => (X_fld rfl).trans rfl); apply DW_x (fun r w hA hH => (X_ld rfl (F1.grown hA.1 (by simp; omega)) rfl).trans rfl))
  ((with_reducible apply DW_fn); (exact fun _ => rfl); (exact fun _ => rfl); (exact fun r w hA hH => rlabel lab w))
  (apply DW_x (fun r w hA hH => (X_ldW rfl (B8.grown hA.1 (by simp; omega)) rfl).trans rfl))
  apply DW_store (fun _ => rfl) (fun _ => rfl) rfl (trC_len (dig_len st)) trC_cell
  (apply DW_x (fun r w hA hH => (X_assign (v := .string _) rfl).trans rfl))
  ((with_reducible exact D_end); (exact rfl); (repeat (first | exact trivial | (refine And.intro ?_ ?_) | exact .inr (.inr (fun _ _ => rfl)) | exact .inl (by decide) | exact .inr (.inl rfl))); (try dsimp only [Nat.reduceAdd]))
  intro r9 w9 A9 H9
  have B9 : Blk w9 g2 34 (trC (dig st) c) := H9 5
  have hs9 := A9.1.size
  refine L_storeW (size := 6) rfl rfl rfl hic (F4.grown A9.1 (by simp; omega)) rfl ?_
  intro w10 B10 hg10 hs10
  have B9' := B9.grown hg10 (by simp; omega)
  have Ed : Ext w w10 := (Ec.then A9.1 (fun g h => by cases h; omega)).then hg10 (fun g h => by cases h; omega)
  (refine L_nil ?_; refine tn ?_; refine W_ret ?_)
  refine endQ_res rfl rfl (Res.cellA inferInstance rfl (B9'.range (fun j u h => by simpa using h)) (trC_len (dig_len st)) (Res.tmp rfl (Res.cellA (cs := inC ByteArray.empty uB vL' uN (.slice none 0 0) 0) inferInstance rfl (B10.range (fun j u h => by rw [Nat.zero_add]; exact h)) rfl .nil))) ?_
  refine ⟨uB, vL', uN, rfl, Ed, sB.ext Ed, ?_, sN.ext Ed⟩
  have h1 : w9.ownsRow bq 46 2 vL' (l.take 12).length (exs (red (l.take 12))) := own_grown oL' A9.1 (fun g h => by cases h; omega)
  exact own_base (own_grown h1 hg10 (fun g h => by cases h; omega)) (by have := Eb.size; omega)
end Go.Proofs.YtemodkjmdalmlaaDoor

/- Indices out of a sequence of candidates: the plain law. -/
namespace Go.Proofs.Tr
open Go.Proofs Go.Proofs.K

/-- the different ones of the first i candidates, in the order in which they came -/
def found (cs : Nat → Nat) : Nat → List Nat
  | 0 => []
  | i + 1 => if cs i ∈ found cs i then found cs i else found cs i ++ [cs i]
theorem found_succ (cs : Nat → Nat) (i x : Nat) : x ∈ found cs (i + 1) ↔ x ∈ found cs i ∨ x = cs i := by
  have e : found cs (i + 1) = if cs i ∈ found cs i then found cs i else found cs i ++ [cs i] := rfl
  rw [e]
  split
  · rename_i h
    exact ⟨.inl, fun h' => h'.elim id fun e => by subst e; exact h⟩
  · simp
theorem found_nodup (cs : Nat → Nat) (i : Nat) : (found cs i).Nodup := by
  induction i with
  | zero => exact List.nodup_nil
  | succ i ih =>
    unfold found
    split
    · exact ih
    · rename_i h
      rw [List.nodup_append]
      refine ⟨ih, by simp, fun a ha b hb => ?_⟩
      rintro rfl
      have : a = cs i := by simpa using hb
      subst this; exact h ha
theorem found_mem (cs : Nat → Nat) (i x : Nat) : x ∈ found cs i ↔ ∃ j, j < i ∧ cs j = x := by
  induction i with
  | zero => simp [found]
  | succ i ih =>
    rw [found_succ, ih]
    constructor
    · rintro (⟨j, hj, rfl⟩ | rfl)
      · exact ⟨j, by omega, rfl⟩
      · exact ⟨i, by omega, rfl⟩
    · rintro ⟨j, hj, rfl⟩
      by_cases h : j = i
      · subst h; exact .inr rfl
      · exact .inl ⟨j, by omega, rfl⟩
theorem found_step (cs : Nat → Nat) (i : Nat) : (found cs i).length ≤ (found cs (i + 1)).length ∧ (found cs (i + 1)).length ≤ (found cs i).length + 1 := by
  rw [found]
  split <;> simp
theorem found_mono (cs : Nat → Nat) {i j : Nat} (h : i ≤ j) : (found cs i).length ≤ (found cs j).length := by
  induction j with
  | zero => obtain rfl : i = 0 := by omega
            exact Nat.le_refl _
  | succ j ih =>
    by_cases hij : i = j + 1
    · subst hij; exact Nat.le_refl _
    · exact Nat.le_trans (ih (by omega)) (found_step cs j).1
theorem found_le (cs : Nat → Nat) (i : Nat) : (found cs i).length ≤ i := by
  induction i with
  | zero => simp [found]
  | succ i ih => have := (found_step cs i).2; omega
/-- the first i at which m different ones have come -/
def Stops (cs : Nat → Nat) (m i : Nat) : Prop := (found cs i).length = m ∧ ∀ j, j < i → (found cs j).length < m
theorem Stops.unique {cs : Nat → Nat} {m i j : Nat} (h : Stops cs m i) (k : Stops cs m j) : i = j := by
  rcases Nat.lt_trichotomy i j with hl | he | hl
  · have := k.2 i hl; have := h.1; omega
  · exact he
  · have := h.2 j hl; have := k.1; omega
theorem Stops.mono {cs : Nat → Nat} {m m' i j : Nat} (h : Stops cs m i) (k : Stops cs m' j) (hm : m ≤ m') : i ≤ j := by
  rcases Nat.lt_or_ge j i with hl | hl
  · have := h.2 j hl; have := k.1; omega
  · exact hl
theorem Stops.ge {cs : Nat → Nat} {m i : Nat} (h : Stops cs m i) : m ≤ i := by have := found_le cs i; have := h.1; omega
/-- all that is below limit comes at last -/
theorem found_all {cs : Nat → Nat} {n limit : Nat} (h : ∀ x, x < limit → cs (n + x) = x) : limit ≤ (found cs (n + limit)).length := by
  have : (List.range limit).length ≤ (found cs (n + limit)).length := List.Nodup.length_le_of_subset List.nodup_range fun x hx => by
    have hx' := List.mem_range.1 hx
    exact (found_mem cs _ x).2 ⟨n + x, by omega, h x hx'⟩
  simpa using this
theorem found_bound {cs : Nat → Nat} {limit i : Nat} (h : ∀ j, j < i → cs j < limit) : (found cs i).length ≤ limit := by
  have := List.Nodup.length_le_of_subset (found_nodup cs i) (l₂ := List.range limit) fun x hx => by
    obtain ⟨j, hj, rfl⟩ := (found_mem cs i x).1 hx
    exact List.mem_range.2 (h j hj)
  simpa using this
/-- the increasing list of what was found -/
structure Sorted (cs : Nat → Nat) (i : Nat) (r : List Nat) : Prop where
  up : r.Pairwise (· < ·)
  mem : ∀ x, x ∈ r ↔ x ∈ found cs i
theorem up_nodup {r : List Nat} (h : r.Pairwise (· < ·)) : r.Nodup := h.imp fun hab => Nat.ne_of_lt hab
theorem up_unique {r s : List Nat} (h : r.Pairwise (· < ·)) (k : s.Pairwise (· < ·)) (hm : ∀ x, x ∈ r ↔ x ∈ s) : r = s :=
  List.Perm.eq_of_pairwise (le := (· < ·)) (fun a b _ _ h1 h2 => by omega) h k ((List.perm_ext_iff_of_nodup (up_nodup h) (up_nodup k)).2 hm)
theorem Sorted.unique {cs : Nat → Nat} {i : Nat} {r s : List Nat} (h : Sorted cs i r) (k : Sorted cs i s) : r = s := up_unique h.up k.up fun x => (h.mem x).trans (k.mem x).symm
theorem Sorted.len {cs : Nat → Nat} {i : Nat} {r : List Nat} (h : Sorted cs i r) : r.length = (found cs i).length :=
  ((List.perm_ext_iff_of_nodup (up_nodup h.up) (found_nodup cs i)).2 h.mem).length_eq
/-- an index is put into its place -/
def insertAt (l : List Nat) (x : Nat) : List Nat := if x ∈ l then l else l.takeWhile (· < x) ++ [x] ++ l.dropWhile (· < x)
theorem take_lt {l : List Nat} {x : Nat} : ∀ y ∈ l.takeWhile (· < x), y < x := by
  intro y hy
  have := List.all_eq_true.1 (List.all_takeWhile (p := fun a => decide (a < x)) (l := l)) y hy
  simpa using this
theorem drop_ge {l : List Nat} {x : Nat} (h : l.Pairwise (· < ·)) : ∀ y ∈ l.dropWhile (· < x), x ≤ y := by
  induction l with
  | nil => simp
  | cons a l ih =>
    intro y hy
    rw [List.dropWhile_cons] at hy
    split at hy
    · exact ih (List.pairwise_cons.1 h).2 y hy
    · rename_i hax
      have hax' : x ≤ a := by simpa using hax
      rcases List.mem_cons.1 hy with rfl | hy
      · exact hax'
      · have := (List.pairwise_cons.1 h).1 y hy; omega
theorem insertAt_sorted {cs : Nat → Nat} {i : Nat} {r : List Nat} (h : Sorted cs i r) : Sorted cs (i + 1) (insertAt r (cs i)) := by
  have hmem := found_succ cs i
  unfold insertAt
  split
  · rename_i hx
    refine ⟨h.up, fun x => ?_⟩
    rw [hmem, h.mem]
    exact ⟨.inl, fun h' => h'.elim id fun e => by subst e; exact (h.mem _).1 hx⟩
  · rename_i hx
    have happ : r.takeWhile (· < cs i) ++ r.dropWhile (· < cs i) = r := List.takeWhile_append_dropWhile
    have hup := h.up
    rw [← happ, List.pairwise_append] at hup
    refine ⟨?_, fun x => ?_⟩
    · rw [List.append_assoc, List.pairwise_append]
      refine ⟨hup.1, ?_, ?_⟩
      · rw [List.singleton_append, List.pairwise_cons]
        refine ⟨fun y hy => ?_, hup.2.1⟩
        have h1 := drop_ge h.up y hy
        have h2 : y ≠ cs i := fun e => hx (by rw [← happ]; exact List.mem_append.2 (.inr (e ▸ hy)))
        omega
      · intro a ha b hb
        have h1 := take_lt a ha
        rcases List.mem_append.1 hb with hb | hb
        · have : b = cs i := by simpa using hb
          omega
        · exact hup.2.2 a ha b hb
    · rw [hmem, ← h.mem]
      conv => rhs; rw [← happ]
      simp only [List.mem_append, List.mem_singleton]
      constructor
      · rintro ((h | h) | h)
        · exact .inl (.inl h)
        · exact .inr h
        · exact .inl (.inr h)
      · rintro ((h | h) | h)
        · exact .inl (.inl h)
        · exact .inr h
        · exact .inl (.inr h)
theorem Sorted.zero (cs : Nat → Nat) : Sorted cs 0 [] := ⟨List.Pairwise.nil, fun _ => Iff.rfl⟩

/-- the candidates: four of each of 4096 hashes, then the numbers from 0 on -/
def cand (s : List Nat) (c : Nat) (lab : List Nat) (limit i : Nat) : Nat :=
  if i < 16384 then valAt (output s ((c + i / 4) % 18446744073709551616) 3 lab) (8 * (i % 4)) % limit else i - 16384
theorem cand_lt {s lab : List Nat} {c limit i : Nat} (h0 : 0 < limit) (hi : i < 16384 + limit) : cand s c lab limit i < limit := by
  unfold cand
  split
  · exact Nat.mod_lt _ h0
  · omega
theorem cand_tail {s lab : List Nat} {c limit : Nat} (x : Nat) : cand s c lab limit (16384 + x) = x := by
  unfold cand
  rw [if_neg (by omega)]; omega
/-- as many as are asked come -/
theorem stop_before {s lab : List Nat} {c limit m i : Nat} (hm : m ≤ limit) (h : (found (cand s c lab limit) i).length < m) : i < 16384 + limit := by
  rcases Nat.lt_or_ge i (16384 + limit) with hl | hl
  · exact hl
  · have h1 := found_all (cs := cand s c lab limit) (n := 16384) (limit := limit) (fun x _ => cand_tail x)
    have h2 := found_mono (cand s c lab limit) hl
    omega
/-- how many hashes were made for i candidates -/
def draws (i : Nat) : Nat := min 4096 ((i + 3) / 4)
/-- what Indices comes to: the state's counter, the indices -/
def Ixs (s : List Nat) (c : Nat) (lab : List Nat) (limit m : Nat) (c' : Nat) (r : List Nat) : Prop :=
  ∃ i, Stops (cand s c lab limit) m i ∧ i ≤ 16384 + limit ∧ c' = (c + draws i) % 18446744073709551616 ∧ Sorted (cand s c lab limit) i r
theorem Ixs.unique {s lab : List Nat} {c limit m c1 c2 : Nat} {r1 r2 : List Nat} (h : Ixs s c lab limit m c1 r1) (k : Ixs s c lab limit m c2 r2) : c1 = c2 ∧ r1 = r2 := by
  obtain ⟨i, hs, _, rfl, hr⟩ := h
  obtain ⟨j, ks, _, rfl, kr⟩ := k
  obtain rfl := hs.unique ks
  exact ⟨rfl, hr.unique kr⟩
theorem Ixs.len {s lab : List Nat} {c limit m c1 : Nat} {r1 : List Nat} (h : Ixs s c lab limit m c1 r1) : r1.length = m := by
  obtain ⟨i, hs, _, _, hr⟩ := h
  rw [hr.len, hs.1]
theorem Ixs.lt {s lab : List Nat} {c limit m c1 : Nat} {r1 : List Nat} (h0 : 0 < limit) (h : Ixs s c lab limit m c1 r1) : ∀ x ∈ r1, x < limit := by
  obtain ⟨i, hs, hi, _, hr⟩ := h
  intro x hx
  obtain ⟨j, hj, rfl⟩ := (found_mem _ _ _).1 ((hr.mem x).1 hx)
  exact cand_lt h0 (by omega)
theorem Ixs.up {s lab : List Nat} {c limit m c1 : Nat} {r1 : List Nat} (h : Ixs s c lab limit m c1 r1) : r1.Pairwise (· < ·) := by
  obtain ⟨i, _, _, _, hr⟩ := h
  exact hr.up
/-- more draws: more indices, and the counter no smaller -/
theorem Ixs.sub {s lab : List Nat} {c limit m m' c1 c2 : Nat} {r1 r2 : List Nat} (h : Ixs s c lab limit m c1 r1) (k : Ixs s c lab limit m' c2 r2) (hm : m ≤ m') (hc : c < 9223372036854775808) : c1 ≤ c2 ∧ ∀ x ∈ r1, x ∈ r2 := by
  obtain ⟨i, hs, _, rfl, hr⟩ := h
  obtain ⟨j, ks, _, rfl, kr⟩ := k
  have hij := hs.mono ks hm
  refine ⟨?_, fun x hx => ?_⟩
  · unfold draws
    omega
  · obtain ⟨q, hq, e⟩ := (found_mem _ _ _).1 ((hr.mem x).1 hx)
    exact (kr.mem x).2 ((found_mem _ _ _).2 ⟨q, by omega, e⟩)
/-- each hash gives four at most -/
theorem Ixs.count {s lab : List Nat} {c limit m c1 : Nat} {r1 : List Nat} (h : Ixs s c lab limit m c1 r1) (hc : c < 9223372036854775808) (hm : m ≤ 64) : c + (m + 3) / 4 ≤ c1 ∧ c1 ≤ c + 4096 := by
  obtain ⟨i, hs, _, rfl, hr⟩ := h
  have := hs.ge
  unfold draws
  omega
/-- as many as there are: all of them -/
theorem Ixs.full {s lab : List Nat} {c limit c1 : Nat} {r1 : List Nat} (h0 : 0 < limit) (h : Ixs s c lab limit limit c1 r1) : r1 = List.range limit := by
  refine up_unique h.up List.pairwise_lt_range fun x => ⟨fun hx => List.mem_range.2 (h.lt h0 x hx), fun hx => ?_⟩
  apply Classical.byContradiction
  intro hn
  have h1 : (x :: r1).Nodup := List.nodup_cons.2 ⟨hn, up_nodup h.up⟩
  have h2 := List.Nodup.length_le_of_subset h1 (l₂ := List.range limit) fun y hy => by
    rcases List.mem_cons.1 hy with rfl | hy
    · exact hx
    · exact List.mem_range.2 (h.lt h0 y hy)
  have := h.len
  simp at h2; omega
end Go.Proofs.Tr

/- The reference's insert. -/
namespace Go.Proofs.Tr
theorem takeWhile_of {l : List Nat} {x k : Nat} (h1 : ∀ y ∈ l.take k, y < x) (h2 : ∀ y, l[k]? = some y → ¬ y < x) : l.takeWhile (fun a => decide (a < x)) = l.take k ∧ l.dropWhile (fun a => decide (a < x)) = l.drop k := by
  induction l generalizing k with
  | nil => simp
  | cons a l ih =>
    cases k with
    | zero =>
      have := h2 a (by simp)
      simp [List.takeWhile_cons, List.dropWhile_cons, this]
    | succ k =>
      have ha := h1 a (by simp)
      have := ih (k := k) (fun y hy => h1 y (by simp [hy])) (fun y hy => h2 y (by simpa using hy))
      simp [List.takeWhile_cons, List.dropWhile_cons, ha, this]
theorem mem_at {l : List Nat} {x k : Nat} (hs : l.Pairwise (· < ·)) (h1 : ∀ y ∈ l.take k, y < x) (h2 : ∀ y, l[k]? = some y → ¬ y < x) : x ∈ l ↔ l[k]? = some x := by
  constructor
  · intro hx
    have h3 := takeWhile_of h1 h2
    have hx' : x ∈ l.takeWhile (fun a => decide (a < x)) ++ l.dropWhile (fun a => decide (a < x)) := by rw [List.takeWhile_append_dropWhile]; exact hx
    rw [h3.1, h3.2] at hx'
    rcases List.mem_append.1 hx' with hx' | hx'
    · have := h1 x hx'; omega
    · obtain ⟨j, hj⟩ := List.getElem?_of_mem hx'
      rw [List.getElem?_drop] at hj
      by_cases hj0 : j = 0
      · subst hj0; exact hj
      · have hlt : k < l.length := by have := (List.getElem?_eq_some_iff.1 hj).1; omega
        have hk := List.getElem?_eq_getElem hlt
        have := h2 _ hk
        have hkj := (List.getElem?_eq_some_iff.1 hj).1
        have hpw := List.pairwise_iff_getElem.1 hs k (k + j) hlt hkj (by omega)
        have e2 := (List.getElem?_eq_some_iff.1 hj).2
        omega
  · exact fun h => List.mem_of_getElem? h
end Go.Proofs.Tr
namespace Go.Proofs.YtemodkjmdalmlaaDoor
open Go.RowKit Go.Proofs.K

/-- a row of ints, in blocks from b on -/
def ARow (b : Nat) (w : World) (v : Value) (l : List Nat) : Prop := ∃ lo hi, b ≤ lo ∧ Row w lo hi 1 v l.length (ints .i64 l)
abbrev IRow : World → Value → List Nat → Prop := ARow 0
theorem ARow.ext {b : Nat} {w w' : World} {v : Value} {l : List Nat} (h : ARow b w v l) (E : Ext w w') : ARow b w' v l := by
  obtain ⟨lo, hi, h0, h⟩ := h; exact ⟨lo, hi, h0, h.ext E⟩
theorem ARow.low {b b' : Nat} {w : World} {v : Value} {l : List Nat} (h : ARow b w v l) (hb : b' ≤ b) : ARow b' w v l := by
  obtain ⟨lo, hi, h0, h⟩ := h; exact ⟨lo, hi, Nat.le_trans hb h0, h⟩
theorem ARow.own {b : Nat} {w : World} {v : Value} {l : List Nat} {base m : Nat} {e : TypeId} (h : w.ownsRow base e 1 v m (ints .i64 l)) (hm : m = l.length) (hb : b ≤ base) : ARow b w v l := ⟨_, _, hb, (Row.of_own h).re hm rfl⟩
theorem ARow.grown {b g : Nat} {w w' : World} {v : Value} {l : List Nat} (h : ARow b w v l) (hg : w.grownBy w' (some g)) (hb : g < b) : ARow b w' v l := by
  obtain ⟨lo, hi, h0, h⟩ := h; exact ⟨lo, hi, h0, h.grown hg (fun q hq => by cases hq; omega)⟩
set_option maxHeartbeats 4000000 in
theorem rinsert (b0 : Nat) (v : Value) (l : List Nat) (x : Nat) (hs : l.Pairwise (· < ·)) (hl : l.length ≤ 100000) (w : World) (hb0 : b0 ≤ w.heap.size) (hr : ARow b0 w v l) :
    Calls Tryd.prog 42 #[v, .int .i64 (x : Nat)] w fun e w' => ∃ q, e = .returned q ∧ Ext w w' ∧ ARow b0 w' q (Tr.insertAt l x) := by
  refine calls_W Tryd.func42 rfl Tryd.ntmps42 rfl ?_
  obtain ⟨lo, hi, hlo, hr⟩ := hr
  have hr0 := hr
  obtain ⟨hl0, A, c, rfl, hc, hcm, hnn⟩ := hr
  (refine W_seq ?_; refine W_region ?_; refine Ls (X_assign (v := .slice _ _ _) rfl) ?_; refine L_nil ?_; refine tn ?_; refine W_seq ?_; refine W_region ?_; refine Ls (X_assign (v := .int _ _) rfl) ?_; refine L_nil ?_; refine tn ?_; refine W_seq ?_; refine W_block ?_)
  refine W_loop (fun q f w' => ∃ k, q = l.length - k ∧ k ≤ l.length ∧ w = w' ∧ (∀ y ∈ l.take k, y < x) ∧ f 0 = .slice A l.length c ∧ f 1 = .int .i64 (x : Nat) ∧ f 5 = .int .i64 (k : Nat)) l.length ?_ ?_
  · exact ⟨0, rfl, by omega, rfl, by simp, rfl, rfl, rfl⟩
  · rintro q f w' ⟨k, rfl, hk, rfl, hlt, h0, h1, h5⟩
    rw [fold h0, fold h1, fold h5]
    by_cases hkl : k < l.length
    · obtain ⟨b, o, rfl, hb1, hb2, hcell⟩ := hnn (by omega)
      obtain ⟨y, hy⟩ : ∃ y, l[k]? = some y := ⟨l[k], List.getElem?_eq_getElem hkl⟩
      have hyc : (ints .i64 l)[k]? = some (.int .i64 (y : Nat)) := by simp [ints, hy]
      by_cases hyx : y < x
      · (refine W_seq ?_; refine W_seq ?_; refine W_region ?_; refine Ls (X_move (v := .int _ _) rfl) ?_; refine Ls (X_move (v := .slice _ _ _) rfl) ?_; refine Ls (X_lenSlice rfl) ?_; refine Ls (X_lssT rfl rfl (by omega)) ?_; refine Ls (X_move (v := .bool _) rfl) ?_; refine Lg2 rfl rfl rfl (X_move (v := .slice _ _ _) rfl) ?_; refine Lg2 rfl rfl rfl (X_move (v := .int _ _) rfl) ?_; refine Lg2 rfl rfl rfl (X_indexSn rfl rfl (by omega)) ?_; refine Lg2 rfl rfl rfl (X_ldR (j := k) (v := .int .i64 (y : Nat)) rfl hcell (by omega) hyc) ?_; refine Lg2 rfl rfl rfl (X_move (v := .int _ _) rfl) ?_; refine Lg2 rfl rfl rfl (X_lssT rfl rfl (by omega)) ?_; refine Ls (X_pickT (v := .bool _) rfl rfl) ?_; refine L_nil ?_; refine tn ?_; refine W_condT rfl ?_; refine W_skip ?_; refine tn ?_; refine W_block ?_; refine W_region ?_; refine Ls (X_move (v := .int _ _) rfl) ?_; refine Ls (X_addi rfl rfl (by omega)) ?_; refine Ls (X_assign (v := .int _ _) rfl) ?_; refine L_nil ?_; refine bn ?_; refine tn ?_)
        refine ⟨l.length - (k + 1), by omega, k + 1, rfl, by omega, rfl, ?_, rfl, rfl, rfl⟩
        intro z hz
        rw [List.take_add_one, hy] at hz
        rcases List.mem_append.1 hz with hz | hz
        · exact hlt z hz
        · have : z = y := by simpa using hz
          omega
      · have h2 : ∀ z, l[k]? = some z → ¬ z < x := fun z hz => by rw [hy] at hz; injection hz with hz; omega
        obtain ⟨ht, hd⟩ := Tr.takeWhile_of hlt h2
        have hm := Tr.mem_at hs hlt h2
        by_cases hyx2 : y = x
        · subst hyx2
          (refine W_seq ?_; refine W_seq ?_; refine W_region ?_; refine Ls (X_move (v := .int _ _) rfl) ?_; refine Ls (X_move (v := .slice _ _ _) rfl) ?_; refine Ls (X_lenSlice rfl) ?_; refine Ls (X_lssT rfl rfl (by omega)) ?_; refine Ls (X_move (v := .bool _) rfl) ?_; refine Lg2 rfl rfl rfl (X_move (v := .slice _ _ _) rfl) ?_; refine Lg2 rfl rfl rfl (X_move (v := .int _ _) rfl) ?_; refine Lg2 rfl rfl rfl (X_indexSn rfl rfl (by omega)) ?_; refine Lg2 rfl rfl rfl (X_ldR (j := k) (v := .int .i64 (y : Nat)) rfl hcell (by omega) hyc) ?_; refine Lg2 rfl rfl rfl (X_move (v := .int _ _) rfl) ?_; refine Lg2 rfl rfl rfl (X_lssF rfl rfl (by omega)) ?_; refine Ls (X_pickT (v := .bool _) rfl rfl) ?_; refine L_nil ?_; refine tn ?_; refine W_condF rfl ?_; refine W_exit ?_; refine te ?_; refine te ?_; refine bx ?_; refine tn ?_; refine W_seq ?_; refine W_seq ?_; refine W_region ?_; refine Ls (X_move (v := .int _ _) rfl) ?_; refine Ls (X_move (v := .slice _ _ _) rfl) ?_; refine Ls (X_lenSlice rfl) ?_; refine Ls (X_lssT rfl rfl (by omega)) ?_; refine Ls (X_move (v := .bool _) rfl) ?_; refine Lg2 rfl rfl rfl (X_move (v := .slice _ _ _) rfl) ?_; refine Lg2 rfl rfl rfl (X_move (v := .int _ _) rfl) ?_; refine Lg2 rfl rfl rfl (X_indexSn rfl rfl (by omega)) ?_; refine Lg2 rfl rfl rfl (X_ldR (j := k) (v := .int .i64 (y : Nat)) rfl hcell (by omega) hyc) ?_; refine Lg2 rfl rfl rfl (X_move (v := .int _ _) rfl) ?_; refine Lg2 rfl rfl rfl (X_eqlT rfl rfl (by omega)) ?_; refine Ls (X_pickT (v := .bool _) rfl rfl) ?_; refine L_nil ?_; refine tn ?_; refine W_condT rfl ?_; refine W_seq ?_; refine W_region ?_; refine Ls (X_move (v := .slice _ _ _) rfl) ?_; refine Ls (X_assign (v := .slice _ _ _) rfl) ?_; refine L_nil ?_; refine tn ?_; refine W_ret ?_; refine tr ?_)
          refine endQ_ret1 rfl rfl (v := .slice _ _ _) rfl ?_
          refine ⟨_, rfl, Ext.refl w, ?_⟩
          unfold Tr.insertAt
          rw [if_pos (hm.2 hy)]
          exact ⟨lo, hi, hlo, hr0⟩
        · have hnx : x ∉ l := fun h => by have := hm.1 h; rw [hy] at this; injection this with this; omega
          (refine W_seq ?_; refine W_seq ?_; refine W_region ?_; refine Ls (X_move (v := .int _ _) rfl) ?_; refine Ls (X_move (v := .slice _ _ _) rfl) ?_; refine Ls (X_lenSlice rfl) ?_; refine Ls (X_lssT rfl rfl (by omega)) ?_; refine Ls (X_move (v := .bool _) rfl) ?_; refine Lg2 rfl rfl rfl (X_move (v := .slice _ _ _) rfl) ?_; refine Lg2 rfl rfl rfl (X_move (v := .int _ _) rfl) ?_; refine Lg2 rfl rfl rfl (X_indexSn rfl rfl (by omega)) ?_; refine Lg2 rfl rfl rfl (X_ldR (j := k) (v := .int .i64 (y : Nat)) rfl hcell (by omega) hyc) ?_; refine Lg2 rfl rfl rfl (X_move (v := .int _ _) rfl) ?_; refine Lg2 rfl rfl rfl (X_lssF rfl rfl (by omega)) ?_; refine Ls (X_pickT (v := .bool _) rfl rfl) ?_; refine L_nil ?_; refine tn ?_; refine W_condF rfl ?_; refine W_exit ?_; refine te ?_; refine te ?_; refine bx ?_; refine tn ?_; refine W_seq ?_; refine W_seq ?_; refine W_region ?_; refine Ls (X_move (v := .int _ _) rfl) ?_; refine Ls (X_move (v := .slice _ _ _) rfl) ?_; refine Ls (X_lenSlice rfl) ?_; refine Ls (X_lssT rfl rfl (by omega)) ?_; refine Ls (X_move (v := .bool _) rfl) ?_; refine Lg2 rfl rfl rfl (X_move (v := .slice _ _ _) rfl) ?_; refine Lg2 rfl rfl rfl (X_move (v := .int _ _) rfl) ?_; refine Lg2 rfl rfl rfl (X_indexSn rfl rfl (by omega)) ?_; refine Lg2 rfl rfl rfl (X_ldR (j := k) (v := .int .i64 (y : Nat)) rfl hcell (by omega) hyc) ?_; refine Lg2 rfl rfl rfl (X_move (v := .int _ _) rfl) ?_; refine Lg2 rfl rfl rfl (X_eqlF rfl rfl (by omega)) ?_; refine Ls (X_pickT (v := .bool _) rfl rfl) ?_; refine L_nil ?_; refine tn ?_; refine W_condF rfl ?_; refine W_skip ?_; refine tn ?_; refine W_seq ?_; refine W_region ?_)
          refine L_lit0 (size := 1) ?_
          intro q1 w1 E1 hs1 o1
          (refine Ls (X_move (v := .slice _ _ _) rfl) ?_; refine Ls (X_move (v := .int _ _) rfl) ?_)
          refine Ls (X_sliceB k rfl rfl rfl (by omega)) ?_
          have t1 := Row.to hr0 (j := k) (by omega)
          refine L_append (v := q1) (u := .slice _ _ _) rfl rfl o1 (t1.ext E1) (fun q hq => ints_cell q (List.mem_of_mem_take hq)) (by omega) (by omega) (by omega) ?_
          intro q2 w2 o2 hg2 _
          have E2 : Ext w w2 := E1.then hg2 (fun g h => (o1.lt g h).1)
          (refine Ls (X_assign (v := q2) rfl) ?_; refine L_nil ?_; refine tn ?_; refine W_seq ?_; refine W_region ?_; refine Ls (X_move (v := q2) rfl) ?_; refine Ls (X_move (v := .int _ _) rfl) ?_)
          refine L_lit1 (v := .int _ _) rfl rfl ?_
          intro u w3 hru E3 _ _
          refine L_append (v := q2) (u := u) rfl rfl (own_ext o2 E3) hru (by simp [Value.oneCell']) (by omega) (by omega) (by have := E2.size; have := E3.size; omega) ?_
          intro q4 w4 o4 hg4 _
          have E4 : Ext w w4 := (E2.trans E3).then hg4 (fun g h => (o2.lt g h).1)
          (refine Ls (X_assign (v := q4) rfl) ?_; refine L_nil ?_; refine tn ?_; refine W_seq ?_; refine W_region ?_; refine Ls (X_move (v := q4) rfl) ?_; refine Ls (X_move (v := .slice _ _ _) rfl) ?_; refine Ls (X_move (v := .int _ _) rfl) ?_)
          refine Ls (X_sliceA k rfl rfl rfl (by omega) (by omega)) ?_
          have t2 := hr0.cut (i := k) (j := l.length) (q := l.length - k) (by omega) (by omega) rfl
          refine L_append (v := q4) (u := .slice _ _ _) rfl rfl o4 (t2.ext E4) ints_cell (by omega) (by omega) (by have := E4.size; omega) ?_
          intro q5 w5 o5 hg5 _
          have E5 : Ext w w5 := E4.then hg5 (fun g h => (o4.lt g h).1)
          (refine Ls (X_assign (v := q5) rfl) ?_; refine L_nil ?_; refine tn ?_; refine W_seq ?_; refine W_region ?_; refine Ls (X_move (v := q5) rfl) ?_; refine Ls (X_assign (v := q5) rfl) ?_; refine L_nil ?_; refine tn ?_; refine W_ret ?_)
          refine endQ_ret1 rfl rfl (v := q5) rfl ?_
          refine ⟨q5, rfl, E5, ?_⟩
          have hins : Tr.insertAt l x = l.take k ++ [x] ++ l.drop k := by
            unfold Tr.insertAt
            rw [if_neg hnx, ht, hd]
          rw [hins]
          refine ARow.own (m := 0 + k + 1 + (l.length - k)) (base := w.heap.size) (e := 3) ?_ (by simp; omega) hb0
          have hx5 : [] ++ (ints .i64 l).take (k * 1) ++ [Value.int .i64 (x : Nat)] ++ ints .i64 ((l.drop k).take (l.length - k)) = ints .i64 (l.take k ++ [x] ++ l.drop k) := by
            rw [List.take_of_length_le (l := l.drop k) (by simp), Nat.mul_one, ints_take, ints_app, ints_app]; rfl
          rw [← hx5]
          exact o5
    · obtain rfl : k = l.length := by omega
      have h2 : ∀ z, l[l.length]? = some z → ¬ z < x := fun z hz => by simp at hz
      obtain ⟨ht, hd⟩ := Tr.takeWhile_of hlt h2
      have hm := Tr.mem_at hs hlt h2
      have hnx : x ∉ l := fun h => by have := hm.1 h; simp at this
      (refine W_seq ?_; refine W_seq ?_; refine W_region ?_; refine Ls (X_move (v := .int _ _) rfl) ?_; refine Ls (X_move (v := .slice _ _ _) rfl) ?_; refine Ls (X_lenSlice rfl) ?_; refine Ls (X_lssF rfl rfl (by omega)) ?_; refine Ls (X_move (v := .bool _) rfl) ?_; refine Lo2 rfl rfl rfl rfl ?_; refine Lo2 rfl rfl rfl rfl ?_; refine Lo2 rfl rfl rfl rfl ?_; refine Lo2 rfl rfl rfl rfl ?_; refine Lo2 rfl rfl rfl rfl ?_; refine Lo2 rfl rfl rfl rfl ?_; refine Ls (X_pickF (v := .bool _) rfl rfl) ?_; refine L_nil ?_; refine tn ?_; refine W_condF rfl ?_; refine W_exit ?_; refine te ?_; refine te ?_; refine bx ?_; refine tn ?_; refine W_seq ?_; refine W_seq ?_; refine W_region ?_; refine Ls (X_move (v := .int _ _) rfl) ?_; refine Ls (X_move (v := .slice _ _ _) rfl) ?_; refine Ls (X_lenSlice rfl) ?_; refine Ls (X_lssF rfl rfl (by omega)) ?_; refine Ls (X_move (v := .bool _) rfl) ?_; refine Lo2 rfl rfl rfl rfl ?_; refine Lo2 rfl rfl rfl rfl ?_; refine Lo2 rfl rfl rfl rfl ?_; refine Lo2 rfl rfl rfl rfl ?_; refine Lo2 rfl rfl rfl rfl ?_; refine Lo2 rfl rfl rfl rfl ?_; refine Ls (X_pickF (v := .bool _) rfl rfl) ?_; refine L_nil ?_; refine tn ?_; refine W_condF rfl ?_; refine W_skip ?_; refine tn ?_; refine W_seq ?_; refine W_region ?_)
      refine L_lit0 (size := 1) ?_
      intro q1 w1 E1 hs1 o1
      (refine Ls (X_move (v := .slice _ _ _) rfl) ?_; refine Ls (X_move (v := .int _ _) rfl) ?_)
      refine Ls (X_sliceB l.length rfl rfl rfl (by omega)) ?_
      have t1 := Row.to hr0 (j := l.length) (by omega)
      refine L_append (v := q1) (u := .slice _ _ _) rfl rfl o1 (t1.ext E1) (fun q hq => ints_cell q (List.mem_of_mem_take hq)) (by omega) (by omega) (by omega) ?_
      intro q2 w2 o2 hg2 _
      have E2 : Ext w w2 := E1.then hg2 (fun g h => (o1.lt g h).1)
      (refine Ls (X_assign (v := q2) rfl) ?_; refine L_nil ?_; refine tn ?_; refine W_seq ?_; refine W_region ?_; refine Ls (X_move (v := q2) rfl) ?_; refine Ls (X_move (v := .int _ _) rfl) ?_)
      refine L_lit1 (v := .int _ _) rfl rfl ?_
      intro u w3 hru E3 _ _
      refine L_append (v := q2) (u := u) rfl rfl (own_ext o2 E3) hru (by simp [Value.oneCell']) (by omega) (by omega) (by have := E2.size; have := E3.size; omega) ?_
      intro q4 w4 o4 hg4 _
      have E4 : Ext w w4 := (E2.trans E3).then hg4 (fun g h => (o2.lt g h).1)
      (refine Ls (X_assign (v := q4) rfl) ?_; refine L_nil ?_; refine tn ?_; refine W_seq ?_; refine W_region ?_; refine Ls (X_move (v := q4) rfl) ?_; refine Ls (X_move (v := .slice _ _ _) rfl) ?_; refine Ls (X_move (v := .int _ _) rfl) ?_)
      refine Ls (X_sliceA l.length rfl rfl rfl (by omega) (by omega)) ?_
      have t2 := hr0.cut (i := l.length) (j := l.length) (q := 0) (by omega) (by omega) (by omega)
      rw [List.take_zero] at t2
      refine L_append (v := q4) (u := .slice _ _ _) (k := 0) rfl rfl o4 (t2.ext E4) ints_cell (by omega) (by omega) (by have := E4.size; omega) ?_
      intro q5 w5 o5 hg5 _
      have E5 : Ext w w5 := E4.then hg5 (fun g h => (o4.lt g h).1)
      (refine Ls (X_assign (v := q5) rfl) ?_; refine L_nil ?_; refine tn ?_; refine W_seq ?_; refine W_region ?_; refine Ls (X_move (v := q5) rfl) ?_; refine Ls (X_assign (v := q5) rfl) ?_; refine L_nil ?_; refine tn ?_; refine W_ret ?_)
      refine endQ_ret1 rfl rfl (v := q5) rfl ?_
      refine ⟨q5, rfl, E5, ?_⟩
      have hins : Tr.insertAt l x = l ++ [x] := by
        unfold Tr.insertAt
        rw [if_neg hnx, ht, hd]; simp
      rw [hins]
      refine ARow.own (m := 0 + l.length + 1 + 0) (base := w.heap.size) (e := 3) ?_ (by simp) hb0
      have hx5 : [] ++ (ints .i64 l).take (l.length * 1) ++ [Value.int .i64 (x : Nat)] ++ ints .i64 [] = ints .i64 (l ++ [x]) := by
        rw [Nat.mul_one, List.take_of_length_le (by rw [ints_len]; omega), ints_app]; simp [ints]
      rw [← hx5]
      exact o5
end Go.Proofs.YtemodkjmdalmlaaDoor

/- The reference's Indices. -/
namespace Go.Proofs.Tr
/-- a draw that is refused -/
def BadDraw (L C : Int) : Prop := L < 1 ∨ 65536 < L ∨ C < 0 ∨ 64 < C ∨ L < C
/-- what Indices comes to, at any draw -/
def IxR (s : List Nat) (c : Nat) (lab : List Nat) (L C : Int) (c' : Nat) (r : List Nat) : Prop :=
  (BadDraw L C ∧ c' = c ∧ r = []) ∨ ∃ limit m : Nat, L = (limit : Int) ∧ C = (m : Int) ∧ 1 ≤ limit ∧ limit ≤ 65536 ∧ m ≤ 64 ∧ m ≤ limit ∧ Ixs s c lab limit m c' r
theorem IxR.unique {s lab : List Nat} {c c1 c2 : Nat} {L C : Int} {r1 r2 : List Nat} (h : IxR s c lab L C c1 r1) (k : IxR s c lab L C c2 r2) : c1 = c2 ∧ r1 = r2 := by
  rcases h with ⟨hb, rfl, rfl⟩ | ⟨l, m, rfl, rfl, h1, h2, h3, h4, hx⟩
  · rcases k with ⟨_, rfl, rfl⟩ | ⟨l, m, rfl, rfl, k1, k2, k3, k4, kx⟩
    · exact ⟨rfl, rfl⟩
    · unfold BadDraw at hb; omega
  · rcases k with ⟨hb, rfl, rfl⟩ | ⟨l', m', e1, e2, k1, k2, k3, k4, kx⟩
    · unfold BadDraw at hb; omega
    · obtain rfl : l = l' := by omega
      obtain rfl : m = m' := by omega
      exact hx.unique kx
theorem cand_at {s lab : List Nat} {c limit n k : Nat} (hn : n < 4096) (hk : k < 4) : cand s c lab limit (4 * n + k) = valAt (output s ((c + n) % 18446744073709551616) 3 lab) (8 * k) % limit := by
  unfold cand
  rw [if_pos (by omega), show (4 * n + k) / 4 = n by omega, show (4 * n + k) % 4 = k by omega]
theorem insertAt_step {cs : Nat → Nat} {i x : Nat} {r : List Nat} (hx : cs i = x) (h : Sorted cs i r) : Sorted cs (i + 1) (insertAt r x) := by
  subst hx; exact insertAt_sorted h
theorem found_le_of {cs : Nat → Nat} {m i : Nat} (h : ∀ j, j < i → (found cs j).length < m) : (found cs i).length ≤ m := by
  cases i with
  | zero => simp [found]
  | succ i => have := h i (by omega); have := (found_step cs i).2; omega
end Go.Proofs.Tr
namespace Go.Proofs.YtemodkjmdalmlaaDoor
open Go.RowKit Go.Proofs.K

section
variable {P : Program} {n : NN} {f : Fr} {w : World} {d : Option Tmp} {t ty ty' : TypeId} {pos : String} {af : Array Edge} {g : Option (Nat × Bool)} {x : Operand}
theorem X_convU64 {k' : IntKind} [hs : TInt P ty k'] [ht : TInt P ty' .u64] {k0 : IntKind} {a : Nat} (hx : ev n f x = .int k0 (a : Nat)) (h : a < 18446744073709551616) : X P n ⟨d, .convert ty ty' x, t, pos, af, g⟩ f w = .ok (.value (.int .u64 (a : Nat))) w := by
  rw [X_conv hx, u64_nat, Nat.mod_eq_of_lt h]
theorem X_convI64 {k' : IntKind} [hs : TInt P ty k'] [ht : TInt P ty' .i64] {k0 : IntKind} {a : Nat} (hx : ev n f x = .int k0 (a : Nat)) (h : a < 9223372036854775808) : X P n ⟨d, .convert ty ty' x, t, pos, af, g⟩ f w = .ok (.value (.int .i64 (a : Nat))) w := by
  rw [X_conv hx, IntWalk.i64_in _ (by omega)]
end

set_option maxHeartbeats 4000000 in
theorem rindices (s : List Nat) (c : Nat) (hs : s.length = 32) (hs8 : ∀ x ∈ s, x < 256) (hc : c < 18446744073709551616) (lab : ByteArray) (hl : lab.size ≤ 100000000) (L C : Int) (w : World) :
    Calls Tryd.prog 14 #[.agg (trC s c).toArray, .string lab, .agg [.int .i64 L, .int .i64 C].toArray] w fun e w' => ∃ c' r q, e = .returned (.tuple #[.agg (trC s c').toArray, q]) ∧ Ext w w' ∧ IRow w' q r ∧ Tr.IxR s c (sb lab) L C c' r := by
  refine calls_W Tryd.func14 rfl Tryd.ntmps14 rfl ?_
  (refine W_seq ?_; refine W_region ?_)
  refine L_box rfl ?_
  intro g3 w1 B3 hg3 E1 hs1
  refine L_box rfl ?_
  intro g5 w2 B5 hg5 E2 hs2
  refine L_alloc ?_
  intro g6 w3 B6 hg6 E3 hs3
  obtain ⟨z6, hz6, B6⟩ : ∃ z : List Value, z.length = 33 ∧ Blk w3 g6 34 z := ⟨_, rfl, B6⟩
  (refine Ls (X_assign (v := .slice _ _ _) rfl) ?_; refine L_nil ?_; refine tn ?_; refine W_seq ?_; refine W_region ?_)
  refine L_lit0 (size := 1) ?_
  intro q1 w4 E4 hs4 o1
  have C3 := ((B3.ext E2).ext E3).ext E4
  have C5 := (B5.ext E3).ext E4
  have C6 := B6.ext E4
  have Ea := ((E1.trans E2).trans E3).trans E4
  by_cases hbad : Tr.BadDraw L C
  · have hcases : (L < 1) ∨ (¬ L < 1 ∧ 65536 < L) ∨ (¬ L < 1 ∧ ¬ 65536 < L ∧ C < 0) ∨ (¬ L < 1 ∧ ¬ 65536 < L ∧ ¬ C < 0 ∧ 64 < C) ∨ (¬ L < 1 ∧ ¬ 65536 < L ∧ ¬ C < 0 ∧ ¬ 64 < C ∧ L < C) := by unfold Tr.BadDraw at hbad; omega
    rcases hcases with h | h | h | h | h
    all_goals
      repeat (first | (with_reducible refine tn ?_) | (with_reducible refine W_seq ?_) | (with_reducible refine W_region ?_) | (with_reducible refine L_nil ?_) | ((with_reducible refine i_move ?_); ((with_reducible refine i_ng ?_); (first | refine Ls (X_move (v := .bool _) rfl) ?_ | refine Ls (X_move (v := q1) rfl) ?_))) | ((with_reducible refine i_assign ?_); ((with_reducible refine i_ng ?_); refine Ls (X_assign (v := q1) rfl) ?_)) | ((with_reducible refine i_lss ?_); (first | ((with_reducible refine i_ng ?_); (first | refine Ls (X_lssT rfl rfl (by omega)) ?_ | refine Ls (X_lssF rfl rfl (by omega)) ?_)) | ((with_reducible refine i_gd ?_); (first | refine Lg2 rfl rfl rfl (X_lssT rfl rfl (by omega)) ?_ | refine Lg2 rfl rfl rfl (X_lssF rfl rfl (by omega)) ?_)))) | ((with_reducible refine i_gtr ?_); ((with_reducible refine i_gd ?_); (first | refine Lg2 rfl rfl rfl (X_gtrT rfl rfl (by omega)) ?_ | refine Lg2 rfl rfl rfl (X_gtrF rfl rfl (by omega)) ?_))) | ((with_reducible refine i_fld ?_); (first | ((with_reducible refine i_ng ?_); refine Ls (X_fld rfl) ?_) | ((with_reducible refine i_gd ?_); refine Lg2 rfl rfl rfl (X_fld rfl) ?_))) | ((with_reducible refine i_pick ?_); ((with_reducible refine i_ng ?_); (first | refine Ls (X_pickT (v := .bool _) rfl rfl) ?_ | refine Ls (X_pickF (v := .bool _) rfl rfl) ?_))) | ((with_reducible refine i_load ?_); (first | ((with_reducible refine i_ng ?_); (first | refine Ls (X_ld rfl C5 rfl) ?_ | refine Ls (X_ldW rfl C3 (trC_len hs)) ?_)) | ((with_reducible refine i_gd ?_); refine Lg2 rfl rfl rfl (X_ld rfl C5 rfl) ?_))) | ((with_reducible refine i_gd ?_); refine Lo2 rfl rfl rfl rfl ?_) | (with_reducible refine W_condT rfl ?_))
      refine L_storeW rfl rfl (trC_len hs) trC_cell C6 hz6 ?_
      intro w5 B7 hg7 hs7
      (refine Ls (X_assign (v := q1) rfl) ?_; refine L_nil ?_; refine tn ?_; refine W_ret ?_; refine tr ?_)
      refine endQ_res rfl rfl (Res.cellA inferInstance rfl (B7.range (fun j u h => by simpa using h)) (trC_len hs) (Res.tmp (v := q1) rfl .nil)) ?_
      exact ⟨c, [], q1, rfl, Ea.then hg7 (fun g h => by cases h; omega), ARow.own (own_grown o1 hg7 (fun g h => by cases h; omega)) rfl (Nat.zero_le _), .inl ⟨hbad, rfl, rfl⟩⟩
  · obtain ⟨limit, hL⟩ : ∃ limit : Nat, L = (limit : Int) := ⟨L.toNat, by unfold Tr.BadDraw at hbad; omega⟩
    obtain ⟨m, hC⟩ : ∃ m : Nat, C = (m : Int) := ⟨C.toNat, by unfold Tr.BadDraw at hbad; omega⟩
    subst hL; subst hC
    have hgood : 1 ≤ limit ∧ limit ≤ 65536 ∧ m ≤ 64 ∧ m ≤ limit := by unfold Tr.BadDraw at hbad; omega
    obtain ⟨h1, h2, h3, h4⟩ := hgood
    clear hbad
    (refine Ls (X_assign (v := q1) rfl) ?_; refine L_nil ?_; refine tn ?_; refine W_seq ?_; refine W_seq ?_; refine W_region ?_; refine Ls (X_fld rfl) ?_; refine Ls (X_ld rfl C5 rfl) ?_; refine Ls (X_lssF rfl rfl (by omega)) ?_; refine Ls (X_move (v := .bool _) rfl) ?_; refine Lg2 rfl rfl rfl (X_fld rfl) ?_; refine Lg2 rfl rfl rfl (X_ld rfl C5 rfl) ?_; refine Lg2 rfl rfl rfl (X_gtrF rfl rfl (by omega)) ?_; refine Ls (X_pickF (v := .bool _) rfl rfl) ?_; refine Ls (X_move (v := .bool _) rfl) ?_; refine Lg2 rfl rfl rfl (X_fld rfl) ?_; refine Lg2 rfl rfl rfl (X_ld rfl C5 rfl) ?_; refine Lg2 rfl rfl rfl (X_lssF rfl rfl (by omega)) ?_; refine Ls (X_pickF (v := .bool _) rfl rfl) ?_; refine Ls (X_move (v := .bool _) rfl) ?_; refine Lg2 rfl rfl rfl (X_fld rfl) ?_; refine Lg2 rfl rfl rfl (X_ld rfl C5 rfl) ?_; refine Lg2 rfl rfl rfl (X_gtrF rfl rfl (by omega)) ?_; refine Ls (X_pickF (v := .bool _) rfl rfl) ?_; refine Ls (X_move (v := .bool _) rfl) ?_; refine Lg2 rfl rfl rfl (X_fld rfl) ?_; refine Lg2 rfl rfl rfl (X_ld rfl C5 rfl) ?_; refine Lg2 rfl rfl rfl (X_fld rfl) ?_; refine Lg2 rfl rfl rfl (X_ld rfl C5 rfl) ?_; refine Lg2 rfl rfl rfl (X_gtrF rfl rfl (by omega)) ?_; refine Ls (X_pickF (v := .bool _) rfl rfl) ?_; refine L_nil ?_; refine tn ?_; refine W_condF rfl ?_; refine W_skip ?_; refine tn ?_; refine W_seq ?_; refine W_seq ?_; refine W_region ?_; refine Ls (X_assign (v := .int _ _) rfl) ?_; refine L_nil ?_; refine tn ?_; refine W_block ?_)
    have o1' : ARow (g6 + 1) w4 q1 [] := ARow.own o1 rfl (by omega)
    generalize hcs : Tr.cand s c (sb lab) limit = cs at *
    have inv : ∀ i r, Tr.Sorted cs i r → (∀ j, j < i → (Tr.found cs j).length < m) → r.length ≤ m := fun i r hr hj => by rw [hr.len]; exact Tr.found_le_of hj
    refine W_mono (Q := fun e f w' => e = .exit 0 ∧ ∃ i r q', Ext w w' ∧ Blk w' g3 34 (trC s ((c + Tr.draws i) % 18446744073709551616)) ∧ Blk w' g5 29 [.int .i64 (limit : Nat), .int .i64 (m : Nat)] ∧ Blk w' g6 34 z6 ∧ ARow (g6 + 1) w' q' r ∧
      Tr.Sorted cs i r ∧ (∀ j, j < i → (Tr.found cs j).length < m) ∧ (r.length = m ∨ i = 16384) ∧ g6 < w'.heap.size ∧ f 3 = .pointer (some ⟨g3, 0, none⟩) ∧ f 5 = .pointer (some ⟨g5, 0, none⟩) ∧ f 6 = .pointer (some ⟨g6, 0, none⟩) ∧ f 8 = q') ?_ ?_
    · refine W_loop (fun q f w' => ∃ n i r q', q = 4096 - n ∧ n ≤ 4096 ∧ Ext w w' ∧ Blk w' g3 34 (trC s ((c + n) % 18446744073709551616)) ∧ Blk w' g5 29 [.int .i64 (limit : Nat), .int .i64 (m : Nat)] ∧ Blk w' g6 34 z6 ∧ ARow (g6 + 1) w' q' r ∧
        Tr.Sorted cs i r ∧ (∀ j, j < i → (Tr.found cs j).length < m) ∧ i ≤ 4 * n ∧ (i = 4 * n ∨ (r.length = m ∧ 4 * n < i + 4)) ∧ g6 < w'.heap.size ∧ f 1 = .string lab ∧ f 3 = .pointer (some ⟨g3, 0, none⟩) ∧ f 5 = .pointer (some ⟨g5, 0, none⟩) ∧ f 6 = .pointer (some ⟨g6, 0, none⟩) ∧ f 8 = q' ∧ f 9 = .int .i64 (n : Nat)) 4096 ?_ ?_
      · exact ⟨0, 0, [], q1, rfl, by omega, Ea, by rw [Nat.add_zero, Nat.mod_eq_of_lt hc]; exact C3, C5, C6, o1', Tr.Sorted.zero cs, fun j hj => absurd hj (Nat.not_lt_zero j), by omega, .inl rfl, by omega, rfl, rfl, rfl, rfl, rfl, rfl⟩
      · clear C3 C5 C6 Ea o1 o1' B3 B5 B6 E1 E2 E3 E4
        rintro q f w5 ⟨n, i, r, q', rfl, hn, E5, C3, C5, C6, a5, hsort, hbef, hi4, hi, hg65, f1, f3, f5, f6, f8, f9⟩
        have hrm := inv i r hsort hbef
        rw [fold f1, fold f3, fold f5, fold f6, fold f8, fold f9]
        obtain ⟨lo5, hi5, hlo5, hrow5⟩ := id a5
        by_cases hn4 : n < 4096
        · by_cases hlt : r.length < m
          · obtain rfl : i = 4 * n := by omega
            (refine W_seq ?_; refine W_seq ?_; refine W_region ?_; refine Ls (X_move (v := .int _ _) rfl) ?_; refine Ls (X_lssT rfl rfl (by omega)) ?_; refine Ls (X_move (v := .bool _) rfl) ?_; refine Lg2 rfl rfl rfl (X_move (v := q') rfl) ?_; refine Lg2 rfl rfl rfl (X_lenRow (v := q') rfl hrow5) ?_; refine Lg2 rfl rfl rfl (X_fld rfl) ?_; refine Lg2 rfl rfl rfl (X_ld rfl C5 rfl) ?_; refine Lg2 rfl rfl rfl (X_lssT rfl rfl (by omega)) ?_; refine Ls (X_pickT (v := .bool _) rfl rfl) ?_; refine L_nil ?_; refine tn ?_; refine W_condT rfl ?_; refine W_skip ?_; refine tn ?_; refine W_seq ?_; refine W_block ?_; refine W_seq ?_; refine W_region ?_)
            (refine Ls (X_ldW rfl C3 (trC_len hs)) ?_; refine Ls (X_move (v := .string _) rfl) ?_)
            refine L_fo rfl (routput s _ 3 hs hs8 (Nat.mod_lt _ (by omega)) (by omega) lab hl w5) ?_
            rintro qd w6 ⟨E6, od⟩
            (refine Ls (X_assign (v := qd) rfl) ?_; refine L_nil ?_; refine tn ?_; refine W_seq ?_; refine W_region ?_; refine Ls (X_fld rfl) ?_)
            (refine Ls (X_ld rfl (C3.ext E6) (trC_ctr hs)) ?_; refine Ls (X_add rfl rfl) ?_; refine Ls (X_fld rfl) ?_)
            refine L_store1 (v := .int _ _) rfl rfl rfl (C3.ext E6) (by rw [trC_len hs]; omega) ?_
            intro w7 B7 hg7 hs7
            have e7 : (trC s ((c + n) % 18446744073709551616)).set 32 (.int .u64 (IntKind.u64.wrap (((((c + n) % 18446744073709551616 : Nat)) : Int) + 1))) = trC s ((c + (n + 1)) % 18446744073709551616) := by
              rw [show ((((c + n) % 18446744073709551616 : Nat)) : Int) + 1 = (((c + n) % 18446744073709551616 + 1 : Nat) : Int) by omega, u64_nat, show ((c + n) % 18446744073709551616 + 1) % 18446744073709551616 = (c + (n + 1)) % 18446744073709551616 by omega]
              simp [trC, ints_len, hs]
            rw [show (0 + 32) = 32 from rfl, e7] at B7
            have hs6 := E6.size
            have E7 : Ext w w7 := (E5.trans E6).then hg7 (fun g h => by cases h; omega)
            have D5 := (C5.ext E6).grown hg7 (by simp; omega)
            have D6 := (C6.ext E6).grown hg7 (by simp; omega)
            have a7 := (a5.ext E6).grown hg7 (by omega)
            have rd := ((Row.of_own od).grown hg7 (fun g h => by cases h; omega)).re (Tr.output_len s ((c + n) % 18446744073709551616) 3 (sb lab)).symm rfl
            (refine L_nil ?_; refine tn ?_; refine W_seq ?_; refine W_region ?_; refine Ls (X_assign (v := .int _ _) rfl) ?_; refine L_nil ?_; refine tn ?_; refine W_block ?_)
            refine W_loop (fun q f w' => ∃ k r q', q = 4 - k ∧ k ≤ 4 ∧ Ext w w' ∧ Blk w' g3 34 (trC s ((c + (n + 1)) % 18446744073709551616)) ∧ Blk w' g5 29 [.int .i64 (limit : Nat), .int .i64 (m : Nat)] ∧ Blk w' g6 34 z6 ∧ ARow (g6 + 1) w' q' r ∧ Ext w7 w' ∧
              Tr.Sorted cs (4 * n + k) r ∧ (∀ j, j < 4 * n + k → (Tr.found cs j).length < m) ∧ (k = 0 → r.length < m) ∧ g6 < w'.heap.size ∧ f 1 = .string lab ∧ f 3 = .pointer (some ⟨g3, 0, none⟩) ∧ f 5 = .pointer (some ⟨g5, 0, none⟩) ∧ f 6 = .pointer (some ⟨g6, 0, none⟩) ∧ f 8 = q' ∧ f 9 = .int .i64 (n : Nat) ∧ f 10 = qd ∧ f 11 = .int .i64 (k : Nat)) 4 ?_ ?_
            · exact ⟨0, r, q', rfl, by omega, E7, B7, D5, D6, a7, Ext.refl _, hsort, hbef, fun _ => hlt, by omega, rfl, rfl, rfl, rfl, rfl, rfl, rfl, rfl⟩
            · clear B7 D5 D6 a7 E7 C3 C5 C6 a5 hsort hbef hi4 hi hrow5 hlt hrm f1 f3 f5 f6 f8 f9
              rintro q f w8 ⟨k, r, q', rfl, hk, E8, C3, C5, C6, a8, E78, hsort, hbef, hk0, hg68, f1, f3, f5, f6, f8, f9, f10, f11⟩
              have hrm := inv _ r hsort hbef
              rw [fold f1, fold f3, fold f5, fold f6, fold f8, fold f9, fold f10, fold f11]
              obtain ⟨lo8, hi8, hlo8, hrow8⟩ := id a8
              have rd8 := rd.ext E78
              by_cases hk4 : k < 4
              · by_cases hlt : r.length < m
                · have hV : Tr.valAt (Tr.output s ((c + n) % 18446744073709551616) 3 (sb lab)) (8 * k) % limit = cs (4 * n + k) := by rw [← hcs, Tr.cand_at hn4 hk4]
                  have hVl : cs (4 * n + k) < 65536 := by rw [← hV]; have := Nat.mod_lt (Tr.valAt (Tr.output s ((c + n) % 18446744073709551616) 3 (sb lab)) (8 * k)) (show 0 < limit by omega); omega
                  have hob : ∀ x ∈ Tr.output s ((c + n) % 18446744073709551616) 3 (sb lab), x < 256 := Tr.sum_lt _
                  have hol := Tr.output_len s ((c + n) % 18446744073709551616) 3 (sb lab)
                  generalize Tr.output s ((c + n) % 18446744073709551616) 3 (sb lab) = O at *
                  (refine W_seq ?_; refine W_seq ?_; refine W_region ?_; refine Ls (X_move (v := .int _ _) rfl) ?_; refine Ls (X_lssT rfl rfl (by omega)) ?_; refine Ls (X_move (v := .bool _) rfl) ?_; refine Lg2 rfl rfl rfl (X_move (v := q') rfl) ?_; refine Lg2 rfl rfl rfl (X_lenRow (v := q') rfl hrow8) ?_; refine Lg2 rfl rfl rfl (X_fld rfl) ?_; refine Lg2 rfl rfl rfl (X_ld rfl C5 rfl) ?_; refine Lg2 rfl rfl rfl (X_lssT rfl rfl (by omega)) ?_; refine Ls (X_pickT (v := .bool _) rfl rfl) ?_; refine L_nil ?_; refine tn ?_; refine W_condT rfl ?_; refine W_skip ?_; refine tn ?_; refine W_seq ?_; refine W_block ?_)
                  apply W_dagE 10 (by kernel_rfl)
                  (apply DW_x (fun r w hA hH => (X_move (v := q') rfl).trans rfl); apply DW_x (fun r w hA hH => (X_move (v := qd) rfl).trans rfl); apply DW_x (fun r w hA hH => (X_move (v := .int _ _) rfl).trans rfl); apply DW_x (fun r w hA hH => (X_muln (a := 8) (b := k) rfl rfl (by omega)).trans rfl))
                  ((with_reducible apply DW_fn); (exact fun _ => rfl); (exact fun _ => rfl); (exact fun r w hA hH => rvalue _ _ qd O (by omega) hob (8 * k) (by omega) w (rd8.ext hA)))
                  (apply DW_x (fun r w hA hH => (X_fld rfl).trans rfl); apply DW_x (fun r w hA hH => (X_ld rfl (C5.ext hA) rfl).trans rfl); apply DW_x (fun r w hA hH => (X_convU64 (a := limit) rfl (by omega)).trans rfl); apply DW_x (fun r w hA hH => (X_remn (a := Tr.valAt O (8 * k)) (b := limit) rfl rfl (by omega)).trans rfl); apply DW_x (fun r w hA hH => (X_convI64 (a := Tr.valAt O (8 * k) % limit) rfl (by rw [hV]; omega)).trans rfl))
                  ((with_reducible exact D_end); (exact rfl); (repeat (first | exact trivial | (refine And.intro ?_ ?_) | exact .inr (.inr (fun _ _ => rfl)) | exact .inl (by decide) | exact .inr (.inl rfl))); (try dsimp only [Nat.reduceAdd]))
                  intro rr w9 E9 _
                  rw [hV]
                  refine L_fo rfl (rinsert (g6 + 1) q' r (cs (4 * n + k)) hsort.up (by omega) w9 (by have := E9.size; omega) (a8.ext E9)) ?_
                  rintro q10 w10 ⟨E10, a10⟩
                  (refine Ls (X_assign (v := q10) rfl) ?_; refine L_nil ?_; refine bn ?_; refine tn ?_; refine W_region ?_; refine Ls (X_move (v := .int _ _) rfl) ?_; refine Ls (X_addi rfl rfl (by omega)) ?_; refine Ls (X_assign (v := .int _ _) rfl) ?_; refine L_nil ?_; refine tn ?_)
                  have E90 := E9.trans E10
                  refine ⟨4 - (k + 1), by omega, k + 1, _, q10, rfl, by omega, E8.trans E90, C3.ext E90, C5.ext E90, C6.ext E90, a10, E78.trans E90, Tr.insertAt_sorted hsort, ?_, fun h => absurd h (by omega), by have := E90.size; omega, rfl, rfl, rfl, rfl, rfl, rfl, rfl, rfl⟩
                  intro j hj
                  by_cases hje : j = 4 * n + k
                  · subst hje; rw [← hsort.len]; exact hlt
                  · exact hbef j (by omega)
                · (refine W_seq ?_; refine W_seq ?_; refine W_region ?_; refine Ls (X_move (v := .int _ _) rfl) ?_; refine Ls (X_lssT rfl rfl (by omega)) ?_; refine Ls (X_move (v := .bool _) rfl) ?_; refine Lg2 rfl rfl rfl (X_move (v := q') rfl) ?_; refine Lg2 rfl rfl rfl (X_lenRow (v := q') rfl hrow8) ?_; refine Lg2 rfl rfl rfl (X_fld rfl) ?_; refine Lg2 rfl rfl rfl (X_ld rfl C5 rfl) ?_; refine Lg2 rfl rfl rfl (X_lssF rfl rfl (by omega)) ?_; refine Ls (X_pickT (v := .bool _) rfl rfl) ?_; refine L_nil ?_; refine tn ?_; refine W_condF rfl ?_; refine W_exit ?_; refine te ?_; refine te ?_; refine bx ?_; refine bn ?_; refine tn ?_; refine W_region ?_; refine Ls (X_move (v := .int _ _) rfl) ?_; refine Ls (X_addi rfl rfl (by omega)) ?_; refine Ls (X_assign (v := .int _ _) rfl) ?_; refine L_nil ?_; refine tn ?_)
                  refine ⟨4096 - (n + 1), by omega, n + 1, _, r, q', rfl, by omega, E8, C3, C5, C6, a8, hsort, hbef, by omega, .inr ⟨by omega, by have : k ≠ 0 := fun h => hlt (hk0 h); omega⟩, hg68, rfl, rfl, rfl, rfl, rfl, rfl⟩
              · obtain rfl : k = 4 := by omega
                (refine W_seq ?_; refine W_seq ?_; refine W_region ?_; refine Ls (X_move (v := .int _ _) rfl) ?_; refine Ls (X_lssF rfl rfl (by omega)) ?_; refine Ls (X_move (v := .bool _) rfl) ?_; refine Lo2 rfl rfl rfl rfl ?_; refine Lo2 rfl rfl rfl rfl ?_; refine Lo2 rfl rfl rfl rfl ?_; refine Lo2 rfl rfl rfl rfl ?_; refine Lo2 rfl rfl rfl rfl ?_; refine Ls (X_pickF (v := .bool _) rfl rfl) ?_; refine L_nil ?_; refine tn ?_; refine W_condF rfl ?_; refine W_exit ?_; refine te ?_; refine te ?_; refine bx ?_; refine bn ?_; refine tn ?_; refine W_region ?_; refine Ls (X_move (v := .int _ _) rfl) ?_; refine Ls (X_addi rfl rfl (by omega)) ?_; refine Ls (X_assign (v := .int _ _) rfl) ?_; refine L_nil ?_; refine tn ?_)
                exact ⟨4096 - (n + 1), by omega, n + 1, _, r, q', rfl, by omega, E8, C3, C5, C6, a8, hsort, hbef, by omega, .inl (by omega), hg68, rfl, rfl, rfl, rfl, rfl, rfl⟩
          · (refine W_seq ?_; refine W_seq ?_; refine W_region ?_; refine Ls (X_move (v := .int _ _) rfl) ?_; refine Ls (X_lssT rfl rfl (by omega)) ?_; refine Ls (X_move (v := .bool _) rfl) ?_; refine Lg2 rfl rfl rfl (X_move (v := q') rfl) ?_; refine Lg2 rfl rfl rfl (X_lenRow (v := q') rfl hrow5) ?_; refine Lg2 rfl rfl rfl (X_fld rfl) ?_; refine Lg2 rfl rfl rfl (X_ld rfl C5 rfl) ?_; refine Lg2 rfl rfl rfl (X_lssF rfl rfl (by omega)) ?_; refine Ls (X_pickT (v := .bool _) rfl rfl) ?_; refine L_nil ?_; refine tn ?_; refine W_condF rfl ?_; refine W_exit ?_; refine te ?_; refine te ?_)
            have hd : Tr.draws i = n := by unfold Tr.draws; omega
            exact ⟨rfl, i, r, q', E5, by rw [hd]; exact C3, C5, C6, a5, hsort, hbef, .inl (by omega), hg65, rfl, rfl, rfl, rfl⟩
        · (refine W_seq ?_; refine W_seq ?_; refine W_region ?_; refine Ls (X_move (v := .int _ _) rfl) ?_; refine Ls (X_lssF rfl rfl (by omega)) ?_; refine Ls (X_move (v := .bool _) rfl) ?_; refine Lo2 rfl rfl rfl rfl ?_; refine Lo2 rfl rfl rfl rfl ?_; refine Lo2 rfl rfl rfl rfl ?_; refine Lo2 rfl rfl rfl rfl ?_; refine Lo2 rfl rfl rfl rfl ?_; refine Ls (X_pickF (v := .bool _) rfl rfl) ?_; refine L_nil ?_; refine tn ?_; refine W_condF rfl ?_; refine W_exit ?_; refine te ?_; refine te ?_)
          have hd : Tr.draws i = n := by unfold Tr.draws; omega
          exact ⟨rfl, i, r, q', E5, by rw [hd]; exact C3, C5, C6, a5, hsort, hbef, by omega, hg65, rfl, rfl, rfl, rfl⟩
    · rintro e f w5 ⟨rfl, i0, r, q', E5, C3, C5, C6, a5, hsort, hbef, hi, hg65, f3, f5, f6, f8⟩
      rw [fold f3, fold f5, fold f6, fold f8]
      (refine bx ?_; refine tn ?_; refine W_seq ?_; refine W_seq ?_; refine W_region ?_; refine Ls (X_assign (v := .int _ _) rfl) ?_; refine L_nil ?_; refine tn ?_; refine W_block ?_)
      refine W_loop (fun q f w' => ∃ i x r q', q = 16384 + limit - i ∧ i ≤ 16384 + limit ∧ Ext w w' ∧ Blk w' g3 34 (trC s ((c + Tr.draws i) % 18446744073709551616)) ∧ Blk w' g5 29 [.int .i64 (limit : Nat), .int .i64 (m : Nat)] ∧ Blk w' g6 34 z6 ∧ ARow (g6 + 1) w' q' r ∧
        Tr.Sorted cs i r ∧ (∀ j, j < i → (Tr.found cs j).length < m) ∧ (r.length = m ∨ i = 16384 + x) ∧ g6 < w'.heap.size ∧ f 3 = .pointer (some ⟨g3, 0, none⟩) ∧ f 5 = .pointer (some ⟨g5, 0, none⟩) ∧ f 6 = .pointer (some ⟨g6, 0, none⟩) ∧ f 8 = q' ∧ f 12 = .int .i64 (x : Nat)) (16384 + limit - i0) ?_ ?_
      · have hle : i0 ≤ 16384 + limit := by
          rcases Nat.eq_zero_or_pos i0 with h | h
          · omega
          · have := hbef (i0 - 1) (by omega)
            rw [← hcs] at this
            have := Tr.stop_before h4 this
            omega
        exact ⟨i0, 0, r, q', rfl, hle, E5, C3, C5, C6, a5, hsort, hbef, hi, hg65, rfl, rfl, rfl, rfl, rfl⟩
      · clear C3 C5 C6 a5 hsort hbef hi f3 f5 f6 f8 E5 hg65
        rintro q f w5 ⟨i, x, r, q', rfl, hi2, E5, C3, C5, C6, a5, hsort, hbef, hi, hg65, f3, f5, f6, f8, f12⟩
        have hrm := inv i r hsort hbef
        obtain ⟨lo5, hi5, hlo5, hrow5⟩ := id a5
        rw [fold f3, fold f5, fold f6, fold f8, fold f12]
        by_cases hlt : r.length < m
        · have hix : i = 16384 + x := by omega
          have hil : i < 16384 + limit := by
            rw [hsort.len, ← hcs] at hlt
            exact Tr.stop_before h4 hlt
          have hcx : cs i = x := by rw [← hcs, hix]; exact Tr.cand_tail x
          have hd : Tr.draws (i + 1) = Tr.draws i := by unfold Tr.draws; omega
          (refine W_seq ?_; refine W_seq ?_; refine W_region ?_; refine Ls (X_move (v := q') rfl) ?_; refine Ls (X_lenRow (v := q') rfl hrow5) ?_; refine Ls (X_fld rfl) ?_; refine Ls (X_ld rfl C5 rfl) ?_; refine Ls (X_lssT rfl rfl (by omega)) ?_; refine L_nil ?_; refine tn ?_; refine W_condT rfl ?_; refine W_skip ?_; refine tn ?_; refine W_seq ?_; refine W_block ?_; refine W_region ?_; refine Ls (X_move (v := q') rfl) ?_; refine Ls (X_move (v := .int _ _) rfl) ?_)
          refine L_fo rfl (rinsert (g6 + 1) q' r x hsort.up (by omega) w5 (by omega) a5) ?_
          rintro q6 w6 ⟨E6, a6⟩
          (refine Ls (X_assign (v := q6) rfl) ?_; refine L_nil ?_; refine bn ?_; refine tn ?_; refine W_region ?_; refine Ls (X_move (v := .int _ _) rfl) ?_; refine Ls (X_addi rfl rfl (by omega)) ?_; refine Ls (X_assign (v := .int _ _) rfl) ?_; refine L_nil ?_; refine tn ?_)
          have hs6 := Tr.insertAt_step hcx hsort
          refine ⟨16384 + limit - (i + 1), by omega, i + 1, x + 1, _, q6, rfl, by omega, E5.trans E6, by rw [hd]; exact C3.ext E6, C5.ext E6, C6.ext E6, a6, hs6, ?_, .inr (by omega), by have := E6.size; omega, rfl, rfl, rfl, rfl, rfl⟩
          intro j hj
          by_cases hje : j = i
          · subst hje; rw [← hsort.len]; exact hlt
          · exact hbef j (by omega)
        · have hrl : r.length = m := by omega
          (refine W_seq ?_; refine W_seq ?_; refine W_region ?_; refine Ls (X_move (v := q') rfl) ?_; refine Ls (X_lenRow (v := q') rfl hrow5) ?_; refine Ls (X_fld rfl) ?_; refine Ls (X_ld rfl C5 rfl) ?_; refine Ls (X_lssF rfl rfl (by omega)) ?_; refine L_nil ?_; refine tn ?_; refine W_condF rfl ?_; refine W_exit ?_; refine te ?_; refine te ?_; refine bx ?_; refine tn ?_; refine W_seq ?_; refine W_region ?_)
          (refine Ls (X_ldW rfl C3 (trC_len hs)) ?_; refine Ls (X_move (v := q') rfl) ?_)
          refine L_storeW rfl rfl (trC_len hs) trC_cell C6 hz6 ?_
          intro w7 B7 hg7 hs7
          (refine Ls (X_assign (v := q') rfl) ?_; refine L_nil ?_; refine tn ?_; refine W_ret ?_)
          refine endQ_res rfl rfl (Res.cellA inferInstance rfl (B7.range (fun j u h => by simpa using h)) (trC_len hs) (Res.tmp (v := q') rfl .nil)) ?_
          refine ⟨_, r, q', rfl, E5.then hg7 (fun g h => by cases h; omega), (a5.grown hg7 (by omega)).low (Nat.zero_le _), .inr ⟨limit, m, rfl, rfl, h1, h2, h3, h4, i, ?_, hi2, rfl, ?_⟩⟩
          · rw [hcs]; exact ⟨by rw [← hsort.len]; exact hrl, hbef⟩
          · rw [hcs]; exact hsort
end Go.Proofs.YtemodkjmdalmlaaDoor

/- The program's candidates: the iterator. -/
namespace Go.Proofs.YtemodkjmdalmlaaDoor
open Go.RowKit Go.Proofs.K

theorem gcandMk (p : Addr) (lab : ByteArray) (limit : Nat) (w : World) : Calls Tryd.prog 39 #[.pointer (some p), .string lab, .int .i64 (limit : Nat)] w fun e w' => ∃ q, e = .returned q ∧ ∃ b1 b2 b3, q = .func (.func 56) #[] #[.pointer (some ⟨b1, 0, none⟩), .pointer (some ⟨b2, 0, none⟩), .pointer (some ⟨b3, 0, none⟩)] ∧ Ext w w' ∧
    Blk w' b1 71 [.pointer (some p)] ∧ Blk w' b2 9 [.string lab] ∧ Blk w' b3 3 [.int .i64 (limit : Nat)] ∧ w.heap.size ≤ b1 ∧ w.heap.size ≤ b2 ∧ w.heap.size ≤ b3 := by
  refine calls_W Tryd.func39 rfl Tryd.ntmps39 rfl ?_
  (refine W_seq ?_; refine W_region ?_)
  refine L_box1 (v := .pointer (some p)) rfl rfl ?_
  intro g1 w1 B1 hg1 E1 hs1
  refine L_box1 (v := .string lab) rfl rfl ?_
  intro g2 w2 B2 hg2 E2 hs2
  refine L_box1 (v := .int .i64 (limit : Nat)) rfl rfl ?_
  intro g3 w3 B3 hg3 E3 hs3
  (refine Ls (X_assign (v := Value.nilFunc) rfl) ?_; refine L_nil ?_; refine tn ?_; refine W_seq ?_; refine W_region ?_)
  refine Ls (X_mkFunc (fi := []) (ca := [.tmp 3, .tmp 4, .tmp 5]) rfl rfl) ?_
  (refine Ls (X_assign (v := .func _ _ _) rfl) ?_; refine L_nil ?_; refine tn ?_; refine W_ret ?_)
  refine endQ_ret1 rfl rfl (v := .func _ _ _) rfl ?_
  exact ⟨_, rfl, g1, g2, g3, rfl, (E1.trans E2).trans E3, (B1.ext E2).ext E3, B2.ext E3, B3, by omega, by omega, by omega⟩

/-- every block of cells stays, but for g9 and the rows of ints made since -/
structure KpI (B g9 : Nat) (a b : World) : Prop where
  size : a.heap.size ≤ b.heap.size
  same : ∀ k cs t fz, k ≠ g9 → (t = 3 → k < B) → a.heap[k]? = some (.cells cs t fz) → b.heap[k]? = some (.cells cs t fz)
theorem KpI.trans {B g9 : Nat} {a b c : World} (h : KpI B g9 a b) (k : KpI B g9 b c) : KpI B g9 a c := ⟨Nat.le_trans h.size k.size, fun j cs t fz h1 h2 h3 => k.same j cs t fz h1 h2 (h.same j cs t fz h1 h2 h3)⟩
theorem KpI.blk {B g9 k : Nat} {a b : World} {T : TypeId} {cs : List Value} (h : KpI B g9 a b) (hb : Blk a k T cs) (h1 : k ≠ g9) (h2 : T = 3 → k < B) : Blk b k T cs := h.same k _ _ _ h1 h2 hb
theorem KpI.rng {B g9 k : Nat} {a b : World} {cs : List Value} (h : KpI B g9 a b) (hr : Rng a k cs) (h1 : k ≠ g9) (h2 : k < B) : Rng b k cs := by
  intro j v hv
  have hc : a.cell? ⟨k, 0 + j, none⟩ = some v := hr j v hv
  obtain ⟨c, t, fz, e⟩ := Go.Proofs.K.cells_of_cell hc
  show b.cell? ⟨k, 0 + j, none⟩ = some v
  unfold World.cell? at hc ⊢
  rw [h.same k c t fz h1 (fun _ => h2) e]
  rw [e] at hc
  exact hc
theorem KpI.put {B g9 l : Nat} {a : World} {o : Obj} (o' : Obj) (h : a.heap[l]? = some o) (hc : o.isCells = false) : KpI B g9 a (a.putObj l o') := by
  have hk : KeepBut (a.heap.size) a (a.putObj l o') := KeepBut.put o' h hc
  refine ⟨hk.size, fun k cs t fz _ _ e => hk.same k _ _ _ ?_ e⟩
  have := (Array.getElem?_eq_some_iff.1 e).1
  omega

/-- what the candidates' iterator hands over -/
def PreC (cs : Nat → Nat) (s : List Nat) (c limit g3 : Nat) (i : Nat) (v : Value) (w : World) : Prop :=
  i < 16384 + limit ∧ v = .int .i64 ((cs i : Nat) : Int) ∧ Blk w g3 34 (trC s ((c + Tr.draws (i + 1)) % 18446744073709551616))

set_option maxHeartbeats 8000000 in
theorem gcand (s : List Nat) (c : Nat) (hs : s.length = 32) (hs8 : ∀ x ∈ s, x < 256) (lab : ByteArray) (hl : lab.size ≤ 100000000) (limit : Nat) (h1 : 1 ≤ limit) (h2 : limit ≤ 65536) (g3 g9 b1 b2 b3 : Nat) (w : World) (hw : Tabs w) (B1 : Blk w b1 71 [.pointer (some ⟨g3, 0, none⟩)]) (B2 : Blk w b2 9 [.string lab]) (B3 : Blk w b3 3 [.int .i64 (limit : Nat)])
    (h39 : g3 ≠ g9) (h19 : b1 ≠ g9) (h29 : b2 ≠ g9) (h99 : b3 ≠ g9) (h13 : b1 ≠ g3) (h23 : b2 ≠ g3) (h33 : b3 ≠ g3) (hk9 : g9 ≠ 1) (hi9 : g9 ≠ 0) (hk3 : g3 ≠ 1) (hi3 : g3 ≠ 0) (hg9 : g9 < w.heap.size)
    (Bt : Blk w g3 34 (trC s (c % 18446744073709551616))) (cs : Nat → Nat) (hcs : cs = Tr.cand s c (sb lab) limit) :
    Iter Tryd.prog 56 #[.pointer (some ⟨b1, 0, none⟩), .pointer (some ⟨b2, 0, none⟩), .pointer (some ⟨b3, 0, none⟩)] w (PreC cs s c limit g3) (KpI w.heap.size g9) (fun a b => a.grownBy b (some g3)) Ext (fun i _ => i = 16384 + limit) := by
  intro l J Jx w1 E1 hJ hJx hY h0
  refine calls_W Tryd.func56 rfl Tryd.ntmps56 rfl ?_
  have hgk := hw.k.lt (by decide)
  have hgi := hw.i.lt (by decide)
  have hb1 := B1.lt
  have hb2 := B2.lt
  have hb3 := B3.lt
  have hbt := Bt.lt
  have C1 := B1.ext E1
  have C2 := B2.ext E1
  have C3 := B3.ext E1
  have Ct := Bt.ext E1
  have hw1 := hw.ext E1
  have hz1 := E1.size
  have JE : ∀ i a b, J i a → Ext a b → J i b := fun i a b h E => hJ i a b h (E.row _)
  (refine W_seq ?_; refine W_seq ?_; refine W_region ?_; refine Ls (X_move (v := .int _ _) rfl) ?_; refine L_nil ?_; refine tn ?_; refine W_block ?_)
  refine W_loop (fun q f w' => ∃ n, q = 4096 - n ∧ n ≤ 4096 ∧ J (4 * n) w' ∧ Tabs w' ∧ Blk w' b1 71 [.pointer (some ⟨g3, 0, none⟩)] ∧ Blk w' b2 9 [.string lab] ∧ Blk w' b3 3 [.int .i64 (limit : Nat)] ∧ Blk w' g3 34 (trC s ((c + n) % 18446744073709551616)) ∧ w.heap.size ≤ w'.heap.size ∧
    f 0 = yieldV l ∧ f 1 = .pointer (some ⟨b1, 0, none⟩) ∧ f 2 = .pointer (some ⟨b2, 0, none⟩) ∧ f 3 = .pointer (some ⟨b3, 0, none⟩) ∧ f 9 = .int .i64 (n : Nat)) 4096 ?_ ?_
  · exact ⟨0, rfl, by omega, h0, hw1, C1, C2, C3, Ct, hz1, rfl, rfl, rfl, rfl, rfl⟩
  · clear C1 C2 C3 Ct hw1 h0 hz1
    rintro q f w2 ⟨n, rfl, hn, hj, hw2, C1, C2, C3, Ct, hz2, f0, f1, f2, f3, f9⟩
    rw [fold f0, fold f1, fold f2, fold f3, fold f9]
    (refine W_seq ?_; refine W_region ?_; refine Ls (X_lss rfl rfl) ?_; refine L_nil ?_; refine tn ?_; refine W_seq ?_)
    refine W_condp rfl (fun h => ?_) (fun h => ?_)
    · have hn4 : n < 4096 := by omega
      (refine W_skip ?_; refine tn ?_; refine W_seq ?_; refine W_block ?_; refine W_seq ?_)
      obtain ⟨c', hc'⟩ : ∃ c', c' = (c + (n + 1)) % 18446744073709551616 := ⟨_, rfl⟩
      have hcc : ((c + n) % 18446744073709551616 + 1) % 18446744073709551616 = c' := by omega
      have hob : ∀ x ∈ Tr.output s ((c + n) % 18446744073709551616) 3 (sb lab), x < 256 := Tr.sum_lt _
      have hol := Tr.output_len s ((c + n) % 18446744073709551616) 3 (sb lab)
      have hV : ∀ k, k < 4 → Tr.valAt (Tr.output s ((c + n) % 18446744073709551616) 3 (sb lab)) (8 * k) % limit = cs (4 * n + k) := fun k hk => by rw [hcs, Tr.cand_at hn4 hk]
      have hdraw := fun (w : World) (hw : Tabs w) => gdraw s ((c + n) % 18446744073709551616) 3 hs hs8 (by omega) lab hl w hw
      rw [hcc] at hdraw
      obtain ⟨O, hO⟩ : ∃ O, O = Tr.output s ((c + n) % 18446744073709551616) 3 (sb lab) := ⟨_, rfl⟩
      rw [← hO] at hob hol hV hdraw
      apply W_dagR (R := RN 10 w2 34 _ (trC s c')) (Ext w2) 11 (by kernel_rfl) RN.refl (Ext.drew w2) RN.step
      (apply DW_x (fun r w hA hH => (X_ld rfl (C1.ext hA) rfl).trans rfl); apply DW_x (fun r w hA hH => (X_nil rfl).trans rfl); apply DW_x (fun r w hA hH => (X_ldW rfl (Ct.ext hA) (trC_len hs)).trans rfl); apply DW_x (fun r w hA hH => (X_ld rfl (C2.ext hA) rfl).trans rfl))
      ((with_reducible apply DW_fn); (exact fun _ => rfl); (exact fun _ => rfl); (exact fun r w hA hH => hdraw w (hw2.ext hA)))
      (apply DW_x (fun r w hA hH => (X_move (v := .tuple _) rfl).trans rfl); apply DW_x (fun r w hA hH => (X_extract rfl rfl).trans rfl); apply DW_x (fun r w hA hH => (X_extract rfl rfl).trans rfl))
      apply DW_allocZ
      apply DW_allocO (by decide)
      apply DW_storeN (kx := 8) (fun _ => rfl) (fun _ => rfl) rfl (trC_len hs) trC_cell (by decide) (fun r w hA hH => hH 8 rfl)
      ((with_reducible exact D_end); (exact rfl); (repeat (first | exact trivial | (refine And.intro ?_ ?_) | exact .inr (.inr (fun _ _ => rfl)) | exact .inl (by decide) | exact .inr (.inl rfl))); (try dsimp only [Nat.reduceAdd]))
      intro r w3 E3 H3
      obtain ⟨q5, hr5, hq5, D5⟩ : ∃ q, r 8 = .pointer (some ⟨q, 0, none⟩) ∧ w2.heap.size ≤ q ∧ Blk w3 q 34 (trC s c') := H3 10
      obtain ⟨q6, hr6, hq6, D6⟩ : NewF w2 32 _ (r 9) w3 := H3 9
      rw [hr5, hr6]
      have hq56 : q5 ≠ q6 := D5.ne_ D6 (by decide)
      refine L_storeW (l := ints .u8 O) (size := 32) rfl rfl (by rw [ints_len, hol]) ints_cell D6 rfl ?_
      intro w4 F6 hg4 hs4
      have F5 := D5.grown hg4 (by simp; omega)
      have hl5 := D5.lt
      have hl6 := D6.lt
      have E4 : Ext w2 w4 := E3.then hg4 (fun g h => by cases h; omega)
      have hz4 := E4.size
      (refine L_nil ?_; refine tn ?_; refine W_seq ?_; refine W_region ?_; refine Ls (X_ld rfl (C1.ext E4) rfl) ?_; refine Ls (X_ldW rfl F5 (trC_len hs)) ?_; refine Ls (X_nil rfl) ?_)
      refine L_storeW (l := trC s c') (size := 33) rfl rfl (trC_len hs) trC_cell (Ct.ext E4) (trC_len hs) ?_
      intro w5 Ct5 hg5 hs5
      have hl1 := C1.lt
      have hl2 := C2.lt
      have hl3 := C3.lt
      have hlt := Ct.lt
      have G1 := (C1.ext E4).grown hg5 (by simp; omega)
      have G2 := (C2.ext E4).grown hg5 (by simp; omega)
      have G3 := (C3.ext E4).grown hg5 (by simp; omega)
      have G6 := F6.grown hg5 (by simp; omega)
      have hw5 := (hw2.ext E4).grown hg5 hk3 hi3
      have hj5 : J (4 * n) w5 := hJ _ _ _ (JE _ _ _ hj E4) hg5
      have hz5 := hg5.size
      (refine L_nil ?_; refine tn ?_; refine W_seq ?_; refine W_region ?_; refine Ls (X_move (v := .int _ _) rfl) ?_; refine L_nil ?_; refine tn ?_; refine W_block ?_)
      refine W_loop (fun q f w' => ∃ k, q = 4 - k ∧ k ≤ 4 ∧ J (4 * n + k) w' ∧ Tabs w' ∧ Blk w' b1 71 [.pointer (some ⟨g3, 0, none⟩)] ∧ Blk w' b2 9 [.string lab] ∧ Blk w' b3 3 [.int .i64 (limit : Nat)] ∧ Blk w' g3 34 (trC s c') ∧ Blk w' q6 32 (ints .u8 O) ∧ w.heap.size ≤ w'.heap.size ∧
        f 0 = yieldV l ∧ f 1 = .pointer (some ⟨b1, 0, none⟩) ∧ f 2 = .pointer (some ⟨b2, 0, none⟩) ∧ f 3 = .pointer (some ⟨b3, 0, none⟩) ∧ f 6 = .pointer (some ⟨q6, 0, none⟩) ∧ f 9 = .int .i64 (n : Nat) ∧ f 22 = .int .i64 (k : Nat)) 4 ?_ ?_
      · exact ⟨0, rfl, by omega, hj5, hw5, G1, G2, G3, Ct5, G6, by omega, rfl, rfl, rfl, rfl, rfl, rfl, rfl⟩
      · clear f0 f1 f2 f3 f9 G1 G2 G3 G6 Ct5 hj5 hw5 C1 C2 C3 Ct hw2 hj D5 D6 F5 F6
        rintro q f w6 ⟨k, rfl, hk, hj, hw6, C1, C2, C3, Ct, C6, hz6, f0, f1, f2, f3, f6, f9, f22⟩
        rw [fold f0, fold f1, fold f2, fold f3, fold f6, fold f9, fold f22]
        (refine W_seq ?_; refine W_region ?_; refine Ls (X_lss rfl rfl) ?_; refine L_nil ?_; refine tn ?_; refine W_seq ?_)
        refine W_condp rfl (fun hk4 => ?_) (fun hk4 => ?_)
        · have hk4' : k < 4 := by omega
          have hVk := hV k hk4'
          have hVl : cs (4 * n + k) < 65536 := by rw [← hVk]; have := Nat.mod_lt (Tr.valAt O (8 * k)) (show 0 < limit by omega); omega
          (refine W_skip ?_; refine tn ?_; refine W_seq ?_; refine W_block ?_; refine W_seq ?_; refine W_region ?_; refine Ls (X_move (v := .int _ _) rfl) ?_; refine Ls (X_assign (v := .int _ _) rfl) ?_; refine L_nil ?_; refine tn ?_; refine W_seq ?_)
          apply W_dagE 8 (by kernel_rfl)
          (apply DW_x (fun r w hA hH => (X_move (v := .func _ _ _) rfl).trans rfl); apply DW_x (fun r w hA hH => (X_ldW rfl (C6.ext hA) (by rw [ints_len, hol])).trans rfl); apply DW_x (fun r w hA hH => (X_move (v := .int _ _) rfl).trans rfl))
          ((with_reducible apply DW_fn); (exact fun _ => rfl); (exact fun _ => rfl); (exact fun r w hA hH => gword O hob hol k hk4' w))
          (apply DW_x (fun r w hA hH => (X_ld rfl (C3.ext hA) rfl).trans rfl); apply DW_x (fun r w hA hH => (X_convU64 (a := limit) rfl (by omega)).trans rfl); apply DW_x (fun r w hA hH => (X_remn (a := Tr.valAt O (8 * k)) (b := limit) rfl rfl (by omega)).trans rfl); apply DW_x (fun r w hA hH => (X_convI64 (a := Tr.valAt O (8 * k) % limit) rfl (by rw [hVk]; omega)).trans rfl))
          ((with_reducible exact D_end); (exact rfl); (repeat (first | exact trivial | (refine And.intro ?_ ?_) | exact .inr (.inr (fun _ _ => rfl)) | exact .inl (by decide) | exact .inr (.inl rfl))); (try dsimp only [Nat.reduceAdd]))
          intro rr w7 E7 _
          rw [hVk]
          have hpre : PreC cs s c limit g3 (4 * n + k) (.int .i64 ((cs (4 * n + k) : Nat) : Int)) w7 := ⟨by omega, rfl, by
            have hd : Tr.draws (4 * n + k + 1) = n + 1 := by unfold Tr.draws; omega
            rw [hd, ← hc']; exact Ct.ext E7⟩
          refine L_yield rfl rfl rfl (hY _ _ w7 (JE _ _ _ hj E7) hpre) ?_
          rintro e w8 (⟨rfl, hj8, hk8⟩ | ⟨rfl, hjx⟩)
          · refine ⟨.bool true, rfl, ?_⟩
            (refine Ls (X_not rfl) ?_; refine L_nil ?_; refine tn ?_; refine W_condF rfl ?_; refine W_skip ?_; refine bn ?_; refine tn ?_; refine W_region ?_; refine Ls (X_addi rfl rfl (by omega)) ?_; refine Ls (X_move (v := .int _ _) rfl) ?_; refine L_nil ?_; refine tn ?_)
            refine ⟨4 - (k + 1), by omega, k + 1, rfl, by omega, hj8, ⟨hk8.rng (hw6.ext E7).k (by omega) hgk, hk8.rng (hw6.ext E7).i (by omega) hgi⟩, hk8.blk (C1.ext E7) h19 (fun h => absurd h (by decide)), hk8.blk (C2.ext E7) h29 (fun h => absurd h (by decide)), hk8.blk (C3.ext E7) h99 (fun _ => hb3), hk8.blk (Ct.ext E7) h39 (fun h => absurd h (by decide)), hk8.blk (C6.ext E7) (by omega) (fun h => absurd h (by decide)), by have := hk8.size; have := E7.size; omega, rfl, rfl, rfl, rfl, rfl, rfl, rfl⟩
          · refine ⟨.bool false, rfl, ?_⟩
            (refine Ls (X_not rfl) ?_; refine L_nil ?_; refine tn ?_; refine W_condT rfl ?_; refine W_ret ?_; refine br ?_; refine tr ?_; refine tr ?_; refine br ?_; refine br ?_; refine tr ?_; refine tr ?_; refine br ?_; refine tr ?_)
            refine endQ_ret0 rfl rfl ?_
            exact ⟨⟨_, rfl⟩, .inr hjx⟩
        · obtain rfl : k = 4 := by omega
          (refine W_exit ?_; refine te ?_; refine te ?_; refine bx ?_; refine bn ?_; refine tn ?_; refine W_region ?_; refine Ls (X_addi rfl rfl (by omega)) ?_; refine Ls (X_move (v := .int _ _) rfl) ?_; refine L_nil ?_; refine tn ?_)
          exact ⟨4096 - (n + 1), by omega, n + 1, rfl, by omega, hj, hw6, C1, C2, C3, by rw [← hc']; exact Ct, hz6, rfl, rfl, rfl, rfl, rfl⟩
    · obtain rfl : n = 4096 := by omega
      (refine W_exit ?_; refine te ?_; refine te ?_; refine bx ?_; refine tn ?_; refine W_seq ?_; refine W_region ?_; refine Ls (X_ld rfl C3 rfl) ?_; refine Ls (X_move (v := .int _ _) rfl) ?_; refine L_nil ?_; refine tn ?_; refine W_block ?_)
      refine W_loop (fun q f w' => ∃ x, q = limit - x ∧ x ≤ limit ∧ J (16384 + x) w' ∧ Blk w' g3 34 (trC s ((c + 4096) % 18446744073709551616)) ∧ w.heap.size ≤ w'.heap.size ∧
        f 0 = yieldV l ∧ f 37 = .int .i64 (limit : Nat) ∧ f 38 = .int .i64 (x : Nat)) limit ?_ ?_
      · exact ⟨0, rfl, by omega, hj, Ct, hz2, rfl, rfl, rfl⟩
      · clear f0 f1 f2 f3 f9 C1 C2 C3 Ct hw2 hj
        rintro q f w6 ⟨x, rfl, hx, hj, Ct, hz6, f0, f37, f38⟩
        rw [fold f0, fold f37, fold f38]
        (refine W_seq ?_; refine W_region ?_; refine Ls (X_lss rfl rfl) ?_; refine L_nil ?_; refine tn ?_; refine W_seq ?_)
        refine W_condp rfl (fun hx4 => ?_) (fun hx4 => ?_)
        · have hcx : cs (16384 + x) = x := by rw [hcs]; exact Tr.cand_tail x
          (refine W_skip ?_; refine tn ?_; refine W_seq ?_; refine W_block ?_; refine W_seq ?_; refine W_region ?_; refine Ls (X_move (v := .int _ _) rfl) ?_; refine Ls (X_assign (v := .int _ _) rfl) ?_; refine L_nil ?_; refine tn ?_; refine W_seq ?_; refine W_region ?_; refine Ls (X_move (v := .func _ _ _) rfl) ?_; refine Ls (X_move (v := .int _ _) rfl) ?_)
          have hpre : PreC cs s c limit g3 (16384 + x) (.int .i64 ((x : Nat) : Int)) w6 := ⟨by omega, by rw [hcx], by
            have hd : Tr.draws (16384 + x + 1) = 4096 := by unfold Tr.draws; omega
            rw [hd]; exact Ct⟩
          refine L_yield rfl rfl rfl (hY _ _ w6 hj hpre) ?_
          rintro e w8 (⟨rfl, hj8, hk8⟩ | ⟨rfl, hjx⟩)
          · refine ⟨.bool true, rfl, ?_⟩
            (refine Ls (X_not rfl) ?_; refine L_nil ?_; refine tn ?_; refine W_condF rfl ?_; refine W_skip ?_; refine bn ?_; refine tn ?_; refine W_region ?_; refine Ls (X_addi rfl rfl (by omega)) ?_; refine Ls (X_move (v := .int _ _) rfl) ?_; refine L_nil ?_; refine tn ?_)
            exact ⟨limit - (x + 1), by omega, x + 1, rfl, by omega, hj8, hk8.blk Ct h39 (fun h => absurd h (by decide)), by have := hk8.size; omega, rfl, rfl, rfl⟩
          · refine ⟨.bool false, rfl, ?_⟩
            (refine Ls (X_not rfl) ?_; refine L_nil ?_; refine tn ?_; refine W_condT rfl ?_; refine W_ret ?_; refine br ?_; refine tr ?_; refine tr ?_; refine br ?_)
            refine endQ_ret0 rfl rfl ?_
            exact ⟨⟨_, rfl⟩, .inr hjx⟩
        · obtain rfl : x = limit := by omega
          (refine W_exit ?_; refine te ?_; refine te ?_; refine bx ?_)
          refine endQ_end0 rfl rfl ?_
          exact ⟨⟨_, rfl⟩, .inl ⟨_, rfl, hj⟩⟩
end Go.Proofs.YtemodkjmdalmlaaDoor

/- The contract of the library's sort at ints, over this program: laid by the kit's tools (lay-shelf.mjs, lay-plain.mjs). -/
namespace Go.Proofs
open Go.Shelf
def Tryd.lays189_ren : Go.Shelf.Ren := ⟨fun | 189 => 40 | 125 => 58 | 257 => 57 | 128 => 75 | 129 => 76 | 294 => 66 | 295 => 67 | 296 => 68 | 297 => 69 | 298 => 70 | 299 => 71 | 216 => 72 | 300 => 73 | 301 => 74 | 328 => 81 | 329 => 82 | 330 => 83 | 331 => 84 | 332 => 85 | 215 => 86 | 343 => 87 | n => n, fun | 28 => 37 | 3 => 3 | 46 => 50 | 0 => 0 | 51 => 82 | 53 => 25 | 4 => 4 | 183 => 105 | 182 => 104 | 131 => 110 | 5 => 5 | 9 => 9 | 218 => 118 | 222 => 122 | 228 => 124 | 229 => 125 | n => n, fun | n => n⟩
theorem Tryd.lays189 : Go.Proofs.Lays.n189 Tryd.prog Tryd.lays189_ren := {
  mixed := by kernel_rfl
  f125 := Tryd.func58.trans (congrArg some (by kernel_rfl))
  f128 := Tryd.func75.trans (congrArg some (by kernel_rfl))
  f129 := Tryd.func76.trans (congrArg some (by kernel_rfl))
  f189 := Tryd.func40.trans (congrArg some (by kernel_rfl))
  f215 := Tryd.func86.trans (congrArg some (by kernel_rfl))
  f216 := Tryd.func72.trans (congrArg some (by kernel_rfl))
  f257 := Tryd.func57.trans (congrArg some (by kernel_rfl))
  f294 := Tryd.func66.trans (congrArg some (by kernel_rfl))
  f295 := Tryd.func67.trans (congrArg some (by kernel_rfl))
  f296 := Tryd.func68.trans (congrArg some (by kernel_rfl))
  f297 := Tryd.func69.trans (congrArg some (by kernel_rfl))
  f298 := Tryd.func70.trans (congrArg some (by kernel_rfl))
  f299 := Tryd.func71.trans (congrArg some (by kernel_rfl))
  f300 := Tryd.func73.trans (congrArg some (by kernel_rfl))
  f301 := Tryd.func74.trans (congrArg some (by kernel_rfl))
  f328 := Tryd.func81.trans (congrArg some (by kernel_rfl))
  f329 := Tryd.func82.trans (congrArg some (by kernel_rfl))
  f330 := Tryd.func83.trans (congrArg some (by kernel_rfl))
  f331 := Tryd.func84.trans (congrArg some (by kernel_rfl))
  f332 := Tryd.func85.trans (congrArg some (by kernel_rfl))
  f343 := Tryd.func87.trans (congrArg some (by kernel_rfl))
  t0 := Tryd.underlying0
  a0 := Tryd.isAgg0
  z0 := Tryd.sizeOf0
  v0 := Tryd.zeroValue0
  t3 := Tryd.underlying3
  a3 := Tryd.isAgg3
  z3 := Tryd.sizeOf3
  v3 := Tryd.zeroValue3
  t4 := Tryd.underlying4
  a4 := Tryd.isAgg4
  z4 := Tryd.sizeOf4
  v4 := Tryd.zeroValue4
  t5 := Tryd.underlying5
  a5 := Tryd.isAgg5
  z5 := Tryd.sizeOf5
  v5 := Tryd.zeroValue5
  t9 := Tryd.underlying9
  a9 := Tryd.isAgg9
  z9 := Tryd.sizeOf9
  v9 := Tryd.zeroValue9
  t28 := Tryd.underlying37
  a28 := Tryd.isAgg37
  z28 := Tryd.sizeOf37
  v28 := Tryd.zeroValue37
  t46 := Tryd.underlying50
  a46 := Tryd.isAgg50
  z46 := Tryd.sizeOf50
  v46 := Tryd.zeroValue50
  t51 := Tryd.underlying82
  a51 := Tryd.isAgg82
  z51 := Tryd.sizeOf82
  v51 := Tryd.zeroValue82
  t53 := Tryd.underlying25
  a53 := Tryd.isAgg25
  z53 := Tryd.sizeOf25
  v53 := Tryd.zeroValue25
  t131 := Tryd.underlying110
  a131 := Tryd.isAgg110
  z131 := Tryd.sizeOf110
  v131 := Tryd.zeroValue110
  t182 := Tryd.underlying104
  a182 := Tryd.isAgg104
  z182 := Tryd.sizeOf104
  v182 := Tryd.zeroValue104
  t183 := Tryd.underlying105
  a183 := Tryd.isAgg105
  z183 := Tryd.sizeOf105
  v183 := Tryd.zeroValue105
  t218 := Tryd.underlying118
  a218 := Tryd.isAgg118
  z218 := Tryd.sizeOf118
  v218 := Tryd.zeroValue118
  t222 := Tryd.underlying122
  a222 := Tryd.isAgg122
  z222 := Tryd.sizeOf122
  v222 := Tryd.zeroValue122
  t228 := Tryd.underlying124
  a228 := Tryd.isAgg124
  z228 := Tryd.sizeOf124
  v228 := Tryd.zeroValue124
  t229 := Tryd.underlying125
  a229 := Tryd.isAgg125
  z229 := Tryd.sizeOf125
  v229 := Tryd.zeroValue125 }
open Go.Sort Go.RowKit in
theorem Tryd.slices_Sort_int (blk off cap : Nat) (zs : List Int) (w : World) (hH : Holds (Value.int .i64) w blk off zs.toArray) (hblk : blk < w.heap.size) (hsz : zs.length < 4611686018427387904) :
    Calls Tryd.prog 40 #[.slice (some ⟨blk, off, none⟩) zs.length cap] w fun e w' =>
      e = .returned (.tuple #[]) ∧ ∃ n os, w' = grow (putRow (Value.int .i64) (Sort.ahead w n) blk off (zs.mergeSort fun x y => decide (x ≤ y)).toArray) os := Any.slices_Sort_int Tryd.lays189 blk off cap zs w hH hblk hsz
end Go.Proofs

/- The library's sort, over a slice of the function's own. -/
namespace Go.Proofs.YtemodkjmdalmlaaDoor
open Go.RowKit Go.Proofs.K

theorem ints_i64 (l : List Nat) : ints .i64 l = (l.map Int.ofNat).map (Value.int .i64) := by simp [ints]
theorem gsort (l : List Nat) (base : Nat) (v : Value) (hl : l.length ≤ 1000000) (h0 : 0 < l.length) (w : World) (hown : w.ownsRow base 3 1 v l.length (ints .i64 l)) :
    Calls Tryd.prog 40 #[v] w fun e w' => e = .returned (.tuple #[]) ∧ ∃ r : List Nat, r.Pairwise (· ≤ ·) ∧ r.Perm l ∧ w'.ownsRow base 3 1 v l.length (ints .i64 r) ∧ w.grownBy w' v.ownBlock := by
  obtain ⟨hl1, ⟨_, hn⟩ | ⟨g, cap, cur, rfl, hb, hc, h1, h2, h3, h4⟩⟩ := hown
  · omega
  have hz : (l.map Int.ofNat).length = l.length := by simp
  have hc' := Tryd.slices_Sort_int g 0 cap (l.map Int.ofNat) w (holds_of_blockI hc (by rw [hz, ← ints_i64, ← h4, Nat.mul_one])) (Array.getElem?_eq_some_iff.1 hc).1 (by rw [hz]; omega)
  rw [hz] at hc'
  refine hc'.mono fun e w' ⟨he, nn, os, hw⟩ => ⟨he, ?_⟩
  subst hw
  obtain ⟨ts, hts⟩ : ∃ ts, ts = (l.map Int.ofNat).mergeSort fun x y => decide (x ≤ y) := ⟨_, rfl⟩
  rw [← hts]
  have hperm : ts.Perm (l.map Int.ofNat) := by rw [hts]; exact List.mergeSort_perm _ _
  have hsort : ts.Pairwise (· ≤ ·) := by
    have := List.pairwise_mergeSort (le := fun (x y : Int) => decide (x ≤ y)) (fun a b c h1 h2 => by simp at *; omega) (fun a b => by simp; omega) (l.map Int.ofNat)
    rw [← hts] at this
    exact this.imp fun h => by simpa using h
  have hr : (ts.map Int.toNat).map Int.ofNat = ts := by
    rw [List.map_map]
    conv => rhs; rw [← List.map_id ts]
    refine List.map_congr_left fun x hx => ?_
    obtain ⟨y, _, rfl⟩ := List.mem_map.1 (hperm.mem_iff.1 hx)
    simp
  have hpos : ∀ x ∈ ts, 0 ≤ x := fun x hx => by
    obtain ⟨y, _, rfl⟩ := List.mem_map.1 (hperm.mem_iff.1 hx)
    simp
  have hlen : ts.length = (l.map Int.ofNat).length := hperm.length_eq
  refine ⟨ts.map Int.toNat, ?_, ?_, ?_, grownBy_sortedI _⟩
  · rw [List.pairwise_map]
    exact hsort.imp fun h => by omega
  · have := hperm.map Int.toNat
    rw [List.map_map] at this
    have e : l.map (Int.toNat ∘ Int.ofNat) = l := by
      conv => rhs; rw [← List.map_id l]
      exact List.map_congr_left fun x _ => by simp
    rwa [e] at this
  · rw [ints_i64, hr]
    have := ownsRow_sortedI (n := nn) (os := os) (ss := l.map Int.ofNat) hlen hb hc (by rw [hz]; exact h1) h2 h3
    rw [hz] at this
    exact this
end Go.Proofs.YtemodkjmdalmlaaDoor

/- The program's Indices. -/
namespace Go.Proofs.YtemodkjmdalmlaaDoor
open Go.RowKit Go.Proofs.K Go.Shelf

theorem KpI.of_ext {B g9 : Nat} {a b : World} (E : Ext a b) : KpI B g9 a b := ⟨E.size, fun k _ _ _ _ _ e => (E.block k (Array.getElem?_eq_some_iff.1 e).1 (by simp)).trans e⟩
theorem KpI.then {B g9 g : Nat} {a x y : World} (h : KpI B g9 a x) (hg : x.grownBy y (some g)) (hr : ∀ cs t fz, a.heap[g]? = some (.cells cs t fz) → g = g9 ∨ (t = 3 ∧ B ≤ g)) : KpI B g9 a y :=
  ⟨Nat.le_trans h.size hg.size, fun k cs t fz h1 h2 e => by
    have hx := h.same k cs t fz h1 h2 e
    refine (hg.block k (Array.getElem?_eq_some_iff.1 hx).1 fun eg => ?_).trans hx
    injection eg with eg
    subst eg
    rcases hr cs t fz e with h3 | ⟨h3, h4⟩
    · exact h1 h3
    · have := h2 h3; omega⟩
theorem KpI.thenE {B g9 : Nat} {a x y : World} (h : KpI B g9 a x) (E : Ext x y) : KpI B g9 a y := h.trans (KpI.of_ext E)
theorem kf_ext {B : Nat} {a b : World} (E : Ext a b) : KeepsFrom B a b := KeepsFrom.of_grownBy E (fun _ h => by cases h)
theorem kf_then {B g : Nat} {a x y : World} (h : KeepsFrom B a x) (hg : x.grownBy y (some g)) (hr : ∀ o, B ≤ g → x.heap[g]? = some o → o.isCells = true) : KeepsFrom B a y :=
  ⟨Nat.le_trans h.size hg.size, fun k o hB hk ho => by
    have hx := h.same k o hB hk ho
    refine (hg.block k (Array.getElem?_eq_some_iff.1 hx).1 fun eg => ?_).trans hx
    injection eg with eg
    subst eg
    have := hr o hB hx
    rw [ho] at this; cases this⟩
theorem Blk.isCells {w : World} {g : Nat} {T : TypeId} {cs : List Value} {o : Obj} (h : Blk w g T cs) (e : w.heap[g]? = some o) : o.isCells = true := by
  unfold Blk at h; rw [h] at e; injection e with e; subst e; rfl
theorem own_cells {w : World} {base size m g : Nat} {e : TypeId} {v : Value} {xs : List Value} {o : Obj} (h : w.ownsRow base e size v m xs) (hg : v.ownBlock = some g) (ho : w.heap[g]? = some o) : ∃ cs fz, o = .cells cs e fz := by
  rcases h.2 with ⟨hn, _⟩ | ⟨g', cap, cur, hv, _, hc, _⟩
  · rw [hn] at hg; cases hg
  · rw [hv] at hg
    have : g' = g := by injection hg
    subst this
    rw [hc] at ho; injection ho with ho
    exact ⟨_, _, ho.symm⟩

set_option maxHeartbeats 8000000 in
theorem gindices (s : List Nat) (c : Nat) (hs : s.length = 32) (hs8 : ∀ x ∈ s, x < 256) (hc : c < 18446744073709551616) (lab : ByteArray) (hl : lab.size ≤ 100000000) (L C : Int) (w : World) (hw : Tabs w) :
    Calls Tryd.prog 13 #[.agg (trC s c).toArray, .string lab, .agg [.int .i64 L, .int .i64 C].toArray] w fun e w' => ∃ c' r q, e = .returned (.tuple #[.agg (trC s c').toArray, q]) ∧ Ext w w' ∧ IRow w' q r ∧ Tr.IxR s c (sb lab) L C c' r := by
  refine calls_T Tryd.func13 rfl Tryd.ntmps13 rfl ?_
  refine T_seq ?_
  (refine W_region ?_)
  refine L_box rfl ?_
  intro g3 w1 B3 hg3 E1 hs1
  refine L_box rfl ?_
  intro g5 w2 B5 hg5 E2 hs2
  refine L_alloc ?_
  intro g6 w3 B6 hg6 E3 hs3
  obtain ⟨z6, hz6, B6⟩ : ∃ z : List Value, z.length = 33 ∧ Blk w3 g6 34 z := ⟨_, rfl, B6⟩
  have C3 := (B3.ext E2).ext E3
  have C5 := B5.ext E3
  have Ea := (E1.trans E2).trans E3
  (refine Ls (X_assign (v := .slice _ _ _) rfl) ?_; refine L_nil ?_; refine tn ?_)
  refine T_seq ?_
  by_cases hbad : Tr.BadDraw L C
  · have hcases : (L < 1) ∨ (¬ L < 1 ∧ 65536 < L) ∨ (¬ L < 1 ∧ ¬ 65536 < L ∧ C < 0) ∨ (¬ L < 1 ∧ ¬ 65536 < L ∧ ¬ C < 0 ∧ (if (64 : Int) < L then (64 : Int) else L) < C) := by
      unfold Tr.BadDraw at hbad
      split <;> omega
    rcases hcases with h | h | h | h
    all_goals
      repeat (first | (with_reducible refine tn ?_) | (with_reducible refine W_seq ?_) | (with_reducible refine W_region ?_) | (with_reducible refine L_nil ?_) | ((with_reducible refine i_move ?_); ((with_reducible refine i_ng ?_); refine Ls (X_move (v := .bool _) rfl) ?_)) | ((with_reducible refine i_lss ?_); (first | ((with_reducible refine i_ng ?_); (first | refine Ls (X_lssT rfl rfl (by omega)) ?_ | refine Ls (X_lssF rfl rfl (by omega)) ?_)) | ((with_reducible refine i_gd ?_); (first | refine Lg2 rfl rfl rfl (X_lssT rfl rfl (by omega)) ?_ | refine Lg2 rfl rfl rfl (X_lssF rfl rfl (by omega)) ?_)))) | ((with_reducible refine i_gtr ?_); ((with_reducible refine i_gd ?_); (first | refine Lg2 rfl rfl rfl (X_gtrT rfl rfl (by omega)) ?_ | refine Lg2 rfl rfl rfl (X_gtrF rfl rfl (by omega)) ?_))) | ((with_reducible refine i_min ?_); ((with_reducible refine i_gd ?_); refine Lg2 rfl rfl rfl (X_min rfl rfl) ?_)) | ((with_reducible refine i_fld ?_); (first | ((with_reducible refine i_ng ?_); refine Ls (X_fld rfl) ?_) | ((with_reducible refine i_gd ?_); refine Lg2 rfl rfl rfl (X_fld rfl) ?_))) | ((with_reducible refine i_pick ?_); ((with_reducible refine i_ng ?_); (first | refine Ls (X_pickT (v := .bool _) rfl rfl) ?_ | refine Ls (X_pickF (v := .bool _) rfl rfl) ?_))) | ((with_reducible refine i_load ?_); (first | ((with_reducible refine i_ng ?_); (first | refine Ls (X_ld rfl C5 rfl) ?_ | refine Ls (X_ldW rfl C3 (trC_len hs)) ?_)) | ((with_reducible refine i_gd ?_); refine Lg2 rfl rfl rfl (X_ld rfl C5 rfl) ?_))) | ((with_reducible refine i_gd ?_); refine Lo2 rfl rfl rfl rfl ?_) | (with_reducible refine W_condT rfl ?_))
      refine L_storeW rfl rfl (trC_len hs) trC_cell B6 hz6 ?_
      intro w5 B7 hg7 hs7
      (refine Ls (X_assign (v := .slice _ _ _) rfl) ?_; refine L_nil ?_; refine tn ?_; refine W_ret ?_; refine tr ?_)
      refine endQ_res rfl rfl (Res.cellA inferInstance rfl (B7.range (fun j u h => by simpa using h)) (trC_len hs) (Res.tmp (v := .slice none 0 0) rfl .nil)) ?_
      exact ⟨c, [], _, rfl, Ea.then hg7 (fun g h => by cases h; omega), ⟨0, 0, Nat.zero_le _, Row.nil _ _ _ _⟩, .inl ⟨hbad, rfl, rfl⟩⟩
  · obtain ⟨limit, hL⟩ : ∃ limit : Nat, L = (limit : Int) := ⟨L.toNat, by unfold Tr.BadDraw at hbad; omega⟩
    obtain ⟨m, hC⟩ : ∃ m : Nat, C = (m : Int) := ⟨C.toNat, by unfold Tr.BadDraw at hbad; omega⟩
    subst hL; subst hC
    have hgood : 1 ≤ limit ∧ limit ≤ 65536 ∧ m ≤ 64 ∧ m ≤ limit := by unfold Tr.BadDraw at hbad; omega
    obtain ⟨h1, h2, h3, h4⟩ := hgood
    clear hbad
    have hmin : ¬ (if (64 : Int) < (limit : Int) then (64 : Int) else (limit : Int)) < (m : Int) := by split <;> omega
    (refine W_seq ?_; refine W_region ?_; refine Ls (X_fld rfl) ?_; refine Ls (X_ld rfl C5 rfl) ?_; refine Ls (X_lssF rfl rfl (by omega)) ?_; refine Ls (X_move (v := .bool _) rfl) ?_; refine Lg2 rfl rfl rfl (X_fld rfl) ?_; refine Lg2 rfl rfl rfl (X_ld rfl C5 rfl) ?_; refine Lg2 rfl rfl rfl (X_gtrF rfl rfl (by omega)) ?_; refine Ls (X_pickF (v := .bool _) rfl rfl) ?_; refine Ls (X_move (v := .bool _) rfl) ?_; refine Lg2 rfl rfl rfl (X_fld rfl) ?_; refine Lg2 rfl rfl rfl (X_ld rfl C5 rfl) ?_; refine Lg2 rfl rfl rfl (X_lssF rfl rfl (by omega)) ?_; refine Ls (X_pickF (v := .bool _) rfl rfl) ?_; refine Ls (X_move (v := .bool _) rfl) ?_; refine Lg2 rfl rfl rfl (X_fld rfl) ?_; refine Lg2 rfl rfl rfl (X_ld rfl C5 rfl) ?_; refine Lg2 rfl rfl rfl (X_fld rfl) ?_; refine Lg2 rfl rfl rfl (X_ld rfl C5 rfl) ?_; refine Lg2 rfl rfl rfl (X_min rfl rfl) ?_; refine Lg2 rfl rfl rfl (X_gtrF rfl rfl (by omega)) ?_; refine Ls (X_pickF (v := .bool _) rfl rfl) ?_; refine L_nil ?_; refine tn ?_; refine W_condF rfl ?_; refine W_skip ?_; refine tn ?_)
    refine T_seq ?_
    by_cases hm0 : m = 0
    · subst hm0
      (refine W_seq ?_; refine W_region ?_; refine Ls (X_fld rfl) ?_; refine Ls (X_ld rfl C5 rfl) ?_; refine Ls (X_eqlT rfl rfl (by omega)) ?_; refine L_nil ?_; refine tn ?_; refine W_condT rfl ?_; refine W_seq ?_; refine W_region ?_; refine Ls (X_ldW rfl C3 (trC_len hs)) ?_)
      refine L_storeW rfl rfl (trC_len hs) trC_cell B6 hz6 ?_
      intro w5 B7 hg7 hs7
      (refine Ls (X_assign (v := .slice _ _ _) rfl) ?_; refine L_nil ?_; refine tn ?_; refine W_ret ?_; refine tr ?_)
      refine endQ_res rfl rfl (Res.cellA inferInstance rfl (B7.range (fun j u h => by simpa using h)) (trC_len hs) (Res.tmp (v := .slice none 0 0) rfl .nil)) ?_
      refine ⟨c, [], _, rfl, Ea.then hg7 (fun g h => by cases h; omega), ⟨0, 0, Nat.zero_le _, Row.nil _ _ _ _⟩, .inr ⟨limit, 0, rfl, rfl, h1, h2, h3, h4, 0, ⟨rfl, fun j hj => absurd hj (Nat.not_lt_zero j)⟩, Nat.zero_le _, ?_, Tr.Sorted.zero _⟩⟩
      unfold Tr.draws; omega
    · (refine W_seq ?_; refine W_region ?_; refine Ls (X_fld rfl) ?_; refine Ls (X_ld rfl C5 rfl) ?_; refine Ls (X_eqlF rfl rfl (by omega)) ?_; refine L_nil ?_; refine tn ?_; refine W_condF rfl ?_; refine W_skip ?_; refine tn ?_)
      refine T_seq ?_
      (refine W_region ?_)
      refine L_makeSet (kt := 3) ?_
      intro w4 S4 E4 hs4
      obtain ⟨gm, hgm⟩ : ∃ gm, gm = w3.heap.size := ⟨_, rfl⟩
      rw [← hgm] at S4 ⊢
      refine L_alloc ?_
      intro g8 w5 B8 hg8 E5 hs5
      refine L_store1 (v := .map (some gm)) rfl rfl rfl B8 (by simp) ?_
      intro w6 B8' hgr6 hs6
      (refine L_nil ?_; refine tn ?_)
      refine T_seq ?_
      (refine W_region ?_)
      refine L_alloc ?_
      intro g9 w7 B9 hg9 E7 hs7
      (refine L_nil ?_; refine tn ?_)
      have D3 := (((C3.ext E4).ext E5).grown hgr6 (by simp; omega)).ext E7
      have D5 := (((C5.ext E4).ext E5).grown hgr6 (by simp; omega)).ext E7
      have D6 := (((B6.ext E4).ext E5).grown hgr6 (by simp; omega)).ext E7
      have D8 := B8'.ext E7
      have S7 := ((S4.kept (E5.row (some g8)) (by simp; omega)).kept hgr6 (by simp; omega)).kept (E7.row (some g9)) (by simp; omega)
      have Eb : Ext w w7 := (((Ea.trans E4).trans E5).then hgr6 (fun g h => by cases h; omega)).trans E7
      refine T_seq2 ?_
      (refine W_region ?_; refine Ls (X_move (v := .string _) rfl) ?_; refine Ls (X_fld rfl) ?_; refine Ls (X_ld rfl D5 rfl) ?_)
      refine L_fo rfl (gcandMk _ lab limit w7) ?_
      rintro q w8 ⟨b1, b2, b3, rfl, E8, K1, K2, K3, hb1, hb2, hb3⟩
      (refine L_nil ?_; refine tn ?_)
      have hz8 := E8.size
      have hglob : 1 < w.heap.size ∧ 0 < w.heap.size := ⟨hw.k.lt (by decide), hw.i.lt (by decide)⟩
      have hlt9 := B9.lt
      have Ec := Eb.trans E8
      obtain ⟨cs, hcs⟩ : ∃ cs, cs = Tr.cand s c (sb lab) limit := ⟨_, rfl⟩
      have Bt8 : Blk w8 g3 34 (trC s (c % 18446744073709551616)) := by rw [Nat.mod_eq_of_lt hc]; exact D3.ext E8
      have hB0 : g9 < w8.heap.size := by omega
      have hS9 := B9.ext E8
      have hS8 := D8.ext E8
      have hS6 := D6.ext E8
      have hS5 := D5.ext E8
      have hSm := S7.kept (E8.row none) (by simp)
      have h00 : ∀ j, j ≤ 0 → (Tr.found cs j).length < m := fun j hj => by
        obtain rfl : j = 0 := by omega
        simp [Tr.found]; omega
      have hit := gcand s c hs hs8 lab hl limit h1 h2 g3 g9 b1 b2 b3 w8 (hw.ext Ec) K1 K2 K3 (by omega) (by omega) (by omega) (by omega) (by omega) (by omega) (by omega) (by omega) (by omega) (by omega) (by omega) (by omega) Bt8 cs hcs
      refine T_range (Kp := KpI w8.heap.size g9) (It := fun a b => a.grownBy b (some g3)) (Ix := Ext) rfl (enters_of Tryd.func56 (by kernel_rfl) rfl) hit (fun _ _ _ h k => h.trans k) (fun _ _ _ o' _ h hc => KpI.put o' h hc)
        (fun _ _ E => KeepsFrom.of_grownBy E (fun j h => by cases h; omega)) (fun _ _ E => KeepsFrom.of_grownBy E (fun j h => by cases h))
        (fun i b => ∃ v, Ext w b ∧ Blk b g5 29 [.int .i64 (limit : Nat), .int .i64 (m : Nat)] ∧ Blk b g6 34 z6 ∧ Blk b g8 68 [.map (some gm)] ∧ Blk b g9 37 [v] ∧
          b.ownsRow w8.heap.size 3 1 v (Tr.found cs i).length (ints .i64 (Tr.found cs i)) ∧ IsSet Tryd.prog 3 b gm (Tr.found cs i) ∧ (∀ j, j ≤ i → (Tr.found cs j).length < m) ∧ w8.heap.size ≤ b.heap.size)
        (fun b => ∃ i v, Ext w b ∧ Blk b g6 34 z6 ∧ Blk b g9 37 [v] ∧ b.ownsRow w8.heap.size 3 1 v (Tr.found cs i).length (ints .i64 (Tr.found cs i)) ∧ Tr.Stops cs m i ∧ i ≤ 16384 + limit ∧ Blk b g3 34 (trC s ((c + Tr.draws i) % 18446744073709551616)) ∧ w8.heap.size ≤ b.heap.size)
        (fun i x y h hg => ?_) (fun i x y h hb => ?_) (fun x y h E => ?_) (fun x y h hb => ?_) (fun i u x y h hb => ?_) (fun _ _ _ h _ => h) ⟨.slice none 0 0, Ec, hS5, hS6, hS8, hS9, ⟨rfl, .inl ⟨rfl, rfl⟩⟩, hSm, h00, Nat.le_refl _⟩ (fun F u => upd (upd F 44 u) 10 u) (fun l u x => ?_) (fun l i u x hx hu => ?_) (fun D b hD hdn hbD => ?_)
      · obtain ⟨v, e, c5, c6, c8, c9, o, st, hn, hz⟩ := h
        exact ⟨v, e.then hg (fun g h => by cases h; omega), c5.grown hg (by simp; omega), c6.grown hg (by simp; omega), c8.grown hg (by simp; omega), c9.grown hg (by simp; omega), own_grown o hg (fun g h => by cases h; omega), st.kept hg (by simp; omega), hn, Nat.le_trans hz hg.size⟩
      · obtain ⟨v, e, c5, c6, c8, c9, o, st, hn, hz⟩ := h
        obtain ⟨row, hg, hr⟩ := id hb
        exact ⟨v, e.then hg (fun r h => by have := (hr r h).1; omega), (hb.keep (g := g9 + 1)).blk c5 (by omega), (hb.keep (g := g9 + 1)).blk c6 (by omega), (hb.keep (g := g9 + 1)).blk c8 (by omega), (hb.keep (g := g9 + 1)).blk c9 (by omega), (hb.keep (g := g9)).own o (by omega), st.kept hg (fun h => by have := (hr gm h.symm).1; omega), hn, Nat.le_trans hz hg.size⟩
      · obtain ⟨i, v, e, c6, c9, o, hst, hi, c3, hz⟩ := h
        exact ⟨i, v, e.trans E, c6.ext E, c9.ext E, own_ext o E, hst, hi, c3.ext E, Nat.le_trans hz E.size⟩
      · obtain ⟨i, v, e, c6, c9, o, hst, hi, c3, hz⟩ := h
        obtain ⟨row, hg, hr⟩ := id hb
        exact ⟨i, v, e.then hg (fun r h => by have := (hr r h).1; omega), (hb.keep (g := g9 + 1)).blk c6 (by omega), (hb.keep (g := g9 + 1)).blk c9 (by omega), (hb.keep (g := g9)).own o (by omega), hst, hi, (hb.keep (g := g9 + 1)).blk c3 (by omega), Nat.le_trans hz hg.size⟩
      · exact ⟨h.1, h.2.1, (hb.keep (g := g9 + 1)).blk h.2.2 (by omega)⟩
      · (refine W_region ?_; refine Ls (X_assign (v := u) rfl) ?_; refine L_nil ?_)
        exact ⟨rfl, rfl, rfl⟩
      · obtain ⟨v, e, c5, c6, c8, c9, o, st, hn, hz⟩ := hx
        obtain ⟨hiN, rfl, c3⟩ := hu
        have hci : cs i < 65536 := by rw [hcs]; exact Nat.lt_of_lt_of_le (Tr.cand_lt (by omega) hiN) h2
        have hfi := hn i (Nat.le_refl _)
        (refine W_block ?_; refine W_seq ?_; refine W_seq ?_; refine W_region ?_; refine Ls (X_ld rfl c8 rfl) ?_; refine Ls (X_move (v := .int _ _) rfl) ?_)
        refine Ls (X_lookSet (kt := 3) (e := 72) (by kernel_rfl) rfl rfl st (by omega)) ?_
        (refine Ls (X_move (v := .tuple _) rfl) ?_; refine Ls (X_extract rfl rfl) ?_; refine Ls (X_extract rfl rfl) ?_)
        refine L_alloc ?_
        intro g11 y1 A1 hg11 F1 hy1
        refine L_storeW (l := []) (size := 0) rfl rfl rfl (by simp) A1 rfl ?_
        intro y2 A2 hy2g hy2
        have F2 : Ext x y2 := F1.then hy2g (fun g h => by cases h; omega)
        (refine Ls (X_assign (v := .bool _) rfl) ?_; refine L_nil ?_; refine tn ?_; refine W_seq ?_; refine W_region ?_; refine Ls (X_move (v := .bool _) rfl) ?_; refine L_nil ?_; refine tn ?_)
        by_cases hin : cs i ∈ Tr.found cs i
        · have hfs : Tr.found cs (i + 1) = Tr.found cs i := by
            have e : Tr.found cs (i + 1) = if cs i ∈ Tr.found cs i then Tr.found cs i else Tr.found cs i ++ [cs i] := rfl
            rw [e, if_pos hin]
          refine W_condT (by rw [decide_eq_true hin]; rfl) ?_
          (refine W_exit ?_; refine te ?_; refine bx ?_)
          refine ⟨kf_ext F2, KpI.of_ext F2, v, e.trans F2, c5.ext F2, c6.ext F2, c8.ext F2, c9.ext F2, by rw [hfs]; exact own_ext o F2, by rw [hfs]; exact st.kept (F2.row none) (by simp), fun j hj => ?_, Nat.le_trans hz F2.size⟩
          by_cases hji : j = i + 1
          · subst hji; rw [hfs]; exact hfi
          · exact hn j (by omega)
        · have hfs : Tr.found cs (i + 1) = Tr.found cs i ++ [cs i] := by
            have e : Tr.found cs (i + 1) = if cs i ∈ Tr.found cs i then Tr.found cs i else Tr.found cs i ++ [cs i] := rfl
            rw [e, if_neg hin]
          refine W_condF (by rw [decide_eq_false hin]; rfl) ?_
          have st2 := st.kept (F2.row none) (by simp)
          have c8' := c8.ext F2
          (refine W_skip ?_; refine tn ?_; refine W_seq ?_; refine W_region ?_; refine Ls (X_ld rfl c8' rfl) ?_; refine Ls (X_move (v := .int _ _) rfl) ?_)
          refine Ls (X_build (zs := []) (zs' := []) (r := []) (Parts.nil _)) ?_
          refine L_putSet (kt := 3) (e := 72) rfl rfl rfl st2 (by omega) (by unfold maxLen; omega) ?_
          intro y3 st3 hg3' hy3
          have hx8 := F2.size
          have o2 := own_ext o F2
          have o3 : y3.ownsRow w8.heap.size 3 1 v (Tr.found cs i).length (ints .i64 (Tr.found cs i)) := own_grown o2 hg3' (fun g h => by cases h; omega)
          have c5' := (c5.ext F2).grown hg3' (by simp; omega)
          have c6' := (c6.ext F2).grown hg3' (by simp; omega)
          have c8'' := c8'.grown hg3' (by simp; omega)
          have c9' := (c9.ext F2).grown hg3' (by simp; omega)
          have c3' := (c3.ext F2).grown hg3' (by simp; omega)
          have kp3 : KpI w8.heap.size g9 x y3 := (KpI.of_ext F2).then hg3' (fun cs t fz h => absurd h (st.notCells cs t fz))
          have kf3 : KeepsFrom w8.heap.size x y3 := (kf_ext F2).trans (KeepsFrom.of_grownBy hg3' (fun j h => by cases h; omega))
          (refine L_nil ?_; refine tn ?_; refine W_seq ?_; refine W_region ?_; refine Ls (X_ld rfl c9' rfl) ?_; refine Ls (X_move (v := .int _ _) rfl) ?_)
          refine L_lit1 (v := .int _ _) rfl rfl ?_
          intro u y4 ru F4 hy4 _
          refine L_append (v := v) (u := u) rfl rfl (own_ext o3 F4) ru (by simp [Value.oneCell']) (by omega) (by omega) (by have := F4.size; omega) ?_
          intro v' y5 o5 hg5' hvb
          have kp4 := kp3.thenE F4
          have kf4 := kf3.trans (kf_ext F4)
          have ho4 := own_ext o3 F4
          have hvg : ∀ g, v.ownBlock = some g → w8.heap.size ≤ g ∧ g < x.heap.size := fun g h => o.lt g h
          have c5b := (c5'.ext F4).grown hg5' (fun h => by have := (hvg _ h).1; omega)
          have c6b := (c6'.ext F4).grown hg5' (fun h => by have := (hvg _ h).1; omega)
          have c8b := (c8''.ext F4).grown hg5' (fun h => by have := (hvg _ h).1; omega)
          have c9b := (c9'.ext F4).grown hg5' (fun h => by have := (hvg _ h).1; omega)
          have c3b := (c3'.ext F4).grown hg5' (fun h => by have := (hvg _ h).1; omega)
          have stb := (st3.kept (F4.row none) (by simp)).kept hg5' (fun h => by have := (hvg _ h.symm).1; omega)
          have kp5 : KpI w8.heap.size g9 x y5 := by
            cases hvo : v.ownBlock with
            | none => rw [hvo] at hg5'; exact kp4.thenE hg5'
            | some g =>
              rw [hvo] at hg5'
              refine kp4.then hg5' fun cs' t' fz' h => .inr ⟨?_, (hvg g hvo).1⟩
              obtain ⟨_, _, e'⟩ := own_cells o hvo h
              cases e'; rfl
          have kf5 : KeepsFrom w8.heap.size x y5 := by
            cases hvo : v.ownBlock with
            | none => rw [hvo] at hg5'; exact kf4.trans (kf_ext hg5')
            | some g =>
              rw [hvo] at hg5'
              refine kf_then kf4 hg5' fun o' _ h => ?_
              obtain ⟨_, _, e'⟩ := own_cells ho4 hvo h
              subst e'; rfl
          have hz5 := hg5'.size
          have hz4 := F4.size
          have e5 : Ext w y5 := (((e.trans F2).then hg3' (fun g h => by cases h; omega)).trans F4).then hg5' (fun g h => by have := (hvg g h).1; omega)
          refine L_store1 (v := v') rfl rfl (own_cell o5) c9b (by simp) ?_
          intro y6 c9c hg6' hy6
          have c5c := c5b.grown hg6' (by simp; omega)
          have c6c := c6b.grown hg6' (by simp; omega)
          have c8c := c8b.grown hg6' (by simp; omega)
          have c3c := c3b.grown hg6' (by simp; omega)
          have stc := stb.kept hg6' (by simp; omega)
          have o6 : y6.ownsRow w8.heap.size 3 1 v' ((Tr.found cs i).length + 1) (ints .i64 (Tr.found cs i) ++ [.int .i64 ((cs i : Nat) : Int)]) := own_grown o5 hg6' (fun g h => by cases h; omega)
          have kp6 : KpI w8.heap.size g9 x y6 := kp5.then hg6' (fun _ _ _ _ => .inl rfl)
          have kf6 : KeepsFrom w8.heap.size x y6 := kf5.trans (KeepsFrom.of_grownBy hg6' (fun j h => by cases h; omega))
          have e6 : Ext w y6 := e5.then hg6' (fun g h => by cases h; omega)
          have hol : (Tr.found cs (i + 1)).length = (Tr.found cs i).length + 1 := by rw [hfs]; simp
          have o6' : y6.ownsRow w8.heap.size 3 1 v' (Tr.found cs (i + 1)).length (ints .i64 (Tr.found cs (i + 1))) := by
            rw [hol, hfs, ints_app]; exact o6
          have c9d : Blk y6 g9 37 [v'] := c9c
          (refine L_nil ?_; refine tn ?_; refine W_seq ?_; refine W_region ?_; refine Ls (X_ld rfl c9d rfl) ?_; refine Ls (X_lenRow (v := v') rfl (Row.of_own o6')) ?_; refine Ls (X_fld rfl) ?_; refine Ls (X_ld rfl c5c rfl) ?_; refine Ls (X_eql rfl rfl) ?_; refine L_nil ?_; refine tn ?_)
          refine W_condp rfl (fun heq => ?_) (fun heq => ?_)
          · (refine W_exit ?_; refine bo ?_ rfl)
            exact ⟨rfl, kf6, i + 1, v', e6, c6c, c9d, o6', ⟨by omega, fun j hj => hn j (by omega)⟩, by omega, c3c, by omega⟩
          · (refine W_skip ?_; refine bn ?_)
            refine ⟨kf6, kp6, v', e6, c5c, c6c, c8c, c9d, o6', by rw [hfs]; exact stc, fun j hj => ?_, by omega⟩
            by_cases hji : j = i + 1
            · subst hji; omega
            · exact hn j (by omega)
      · obtain ⟨i, v, e, c6, c9, o, hst, hi, c3, hz⟩ : ∃ i v, Ext w b ∧ Blk b g6 34 z6 ∧ Blk b g9 37 [v] ∧ b.ownsRow w8.heap.size 3 1 v (Tr.found cs i).length (ints .i64 (Tr.found cs i)) ∧ Tr.Stops cs m i ∧ i ≤ 16384 + limit ∧ Blk b g3 34 (trC s ((c + Tr.draws i) % 18446744073709551616)) ∧ w8.heap.size ≤ b.heap.size := by
          refine hdn.elim (fun ⟨i, hi, v, _, _, _, _, _, _, _, hn, _⟩ => ?_) id
          subst hi
          have h5 := Tr.found_all (cs := cs) (n := 16384) (limit := limit) (fun x _ => by rw [hcs]; exact Tr.cand_tail x)
          have := hn (16384 + limit) (Nat.le_refl _)
          omega
        have hDb : D < b.heap.size := (Array.getElem?_eq_some_iff.1 hbD).1
        refine T_of_W ?_
        (refine W_seq ?_; refine W_region ?_; refine Ls (X_ld rfl c9 rfl) ?_)
        refine L_fn (gsort (Tr.found cs i) w8.heap.size v (by have := hst.1; omega) (by have := hst.1; omega) b o) rfl ?_
        rintro e1 y1 ⟨rfl, r, hr1, hr2, o1, hg1⟩
        refine ⟨_, rfl, ?_⟩
        have hvg : ∀ g, v.ownBlock = some g → w8.heap.size ≤ g ∧ g < b.heap.size := fun g h => o.lt g h
        have hD1 : y1.heap[D]? = some (.deferred (some [])) := (hg1.block D hDb (fun h => by
          obtain ⟨_, _, e'⟩ := own_cells o h.symm hbD
          cases e')).trans hbD
        have d3 := c3.grown hg1 (fun h => by have := (hvg _ h).1; omega)
        have d6 := c6.grown hg1 (fun h => by have := (hvg _ h).1; omega)
        have d9 := c9.grown hg1 (fun h => by have := (hvg _ h).1; omega)
        have e1 : Ext w y1 := e.then hg1 (fun g h => by have := (hvg g h).1; omega)
        have hup : r.Pairwise (· < ·) := by
          have hnd : r.Nodup := hr2.nodup_iff.2 (Tr.found_nodup cs i)
          exact (hr1.and hnd).imp fun h => by omega
        have hsort : Tr.Sorted cs i r := ⟨hup, fun x => hr2.mem_iff⟩
        have hrl : r.length = (Tr.found cs i).length := hr2.length_eq
        (refine L_nil ?_; refine tn ?_; refine W_seq ?_)
        apply W_dagR (R := RB g6 34 _ _) (AB g6 34 _ (trC s ((c + Tr.draws i) % 18446744073709551616)) y1) 3 (by kernel_rfl) (RB.refl _ _ _ _) (AB.new d6) AB.step
        (apply DW_x (fun r w hA hH => (X_ldW rfl (d3.grown hA.1 (by simp; omega)) (trC_len hs)).trans rfl); apply DW_x (fun r w hA hH => (X_ld rfl (d9.grown hA.1 (by simp; omega)) rfl).trans rfl))
        apply DW_store (fun _ => rfl) (fun _ => rfl) hz6 (trC_len hs) trC_cell
        ((with_reducible exact D_end); (exact rfl); (repeat (first | exact trivial | (refine And.intro ?_ ?_) | exact .inr (.inr (fun _ _ => rfl)) | exact .inl (by decide) | exact .inr (.inl rfl))); (try dsimp only [Nat.reduceAdd]))
        intro rr y2 A2 H2
        have d6' : Blk y2 g6 34 (trC s ((c + Tr.draws i) % 18446744073709551616)) := H2 2
        have hz2 := A2.1.size
        have hz1 := hg1.size
        have hD2 : y2.heap[D]? = some (.deferred (some [])) := (A2.1.block D (by omega) (by simp; omega)).trans hD1
        have o2 := own_grown o1 A2.1 (fun g h => by cases h; omega)
        have e2 : Ext w y2 := e1.then A2.1 (fun g h => by cases h; omega)
        (refine Ls (X_assign (v := v) rfl) ?_; refine L_nil ?_; refine tn ?_; refine W_ret ?_)
        have d6'' := (KeepBut.put (g := g6 + 1) (.deferred none) hD2 rfl).blk d6' (by omega)
        have o3 := (KeepBut.put (g := g6) (.deferred none) hD2 rfl).own o2 (by omega)
        refine endQ_resD rfl rfl hD2 (Res.cellA inferInstance rfl (d6''.range (fun j u h => by simpa using h)) (trC_len hs) (Res.tmp (v := v) rfl .nil)) ?_
        refine ⟨_, r, v, rfl, e2.then (grownBy_putObj' y2 D _) (fun g h => by cases h; omega), ARow.own (m := (Tr.found cs i).length) o3 hrl.symm (Nat.zero_le _), .inr ⟨limit, m, rfl, rfl, h1, h2, h3, h4, i, ?_, hi, rfl, ?_⟩⟩
        · rw [← hcs]; exact hst
        · rw [← hcs]; exact hsort
end Go.Proofs.YtemodkjmdalmlaaDoor

/- The fixed examples: hashes computed by the kernel. -/
namespace Go.Proofs.Tr
open Go.Proofs Go.Proofs.K Go.Proofs.YtemodkjmdalmlaaDoor
def T0 : List Nat := [0xd4,0x1f,0x37,0xb3,0x21,0x0b,0x39,0x5d,0xb0,0x32,0x99,0xbd,0x53,0x74,0xda,0x35,0x8b,0xd3,0xb3,0x3c,0xdd,0xdb,0x0d,0xdc,0x79,0x22,0x47,0x18,0x84,0xe1,0xa5,0xeb]
theorem new0 : new (sb ⟨#[]⟩) = T0 := by decide +kernel
theorem T0_len : T0.length = 32 := rfl
theorem T0_lt : ∀ x ∈ T0, x < 256 := by decide
theorem hex0 : strB (hexOf T0) = ⟨#[100, 52, 49, 102, 51, 55, 98, 51, 50, 49, 48, 98, 51, 57, 53, 100, 98, 48, 51, 50, 57, 57, 98, 100, 53, 51, 55, 52, 100, 97, 51, 53, 56, 98, 100, 51, 98, 51, 51, 99, 100, 100, 100, 98, 48, 100, 100, 99, 55, 57, 50, 50, 52, 55, 49, 56, 56, 52, 101, 49, 97, 53, 101, 98]⟩ := by decide +kernel
theorem abs0 : absorb T0 (sb ⟨#[109]⟩) [7] ≠ T0 := by decide +kernel
theorem chal0 : ¬ (valAt (output T0 0 2 (sb ⟨#[97]⟩)) 0 % pr = valAt (output T0 ((0 + 1) % 18446744073709551616) 2 (sb ⟨#[97]⟩)) 0 % pr ∧ valAt (output T0 0 2 (sb ⟨#[97]⟩)) 8 % pr = valAt (output T0 ((0 + 1) % 18446744073709551616) 2 (sb ⟨#[97]⟩)) 8 % pr) := by decide +kernel
theorem IxR.good {s lab : List Nat} {c limit m c1 : Nat} {r : List Nat} (h : IxR s c lab (limit : Int) (m : Int) c1 r) (h1 : 1 ≤ limit ∧ limit ≤ 65536 ∧ m ≤ 64 ∧ m ≤ limit) : Ixs s c lab limit m c1 r := by
  rcases h with ⟨hb, _⟩ | ⟨l, k, e1, e2, _, _, _, _, hx⟩
  · unfold BadDraw at hb; omega
  · obtain rfl : limit = l := by omega
    obtain rfl : m = k := by omega
    exact hx
theorem IxR.bad {s lab : List Nat} {c c1 : Nat} {L C : Int} {r : List Nat} (h : IxR s c lab L C c1 r) (hb : BadDraw L C) : c1 = c ∧ r = [] := by
  rcases h with ⟨_, h⟩ | ⟨l, k, rfl, rfl, h1, h2, h3, h4, _⟩
  · exact h
  · unfold BadDraw at hb; omega
theorem Ixs.none {s lab : List Nat} {c limit c1 : Nat} {r : List Nat} (h : Ixs s c lab limit 0 c1 r) (hc : c < 18446744073709551616) : c1 = c ∧ r = [] := by
  have hl := h.len
  obtain ⟨i, hs, _, rfl, _⟩ := h
  have hi : i = 0 := by
    rcases Nat.eq_zero_or_pos i with h | h
    · exact h
    · have := hs.2 0 h; omega
  subst hi
  refine ⟨?_, List.eq_nil_of_length_eq_zero hl⟩
  unfold draws; omega
end Go.Proofs.Tr
