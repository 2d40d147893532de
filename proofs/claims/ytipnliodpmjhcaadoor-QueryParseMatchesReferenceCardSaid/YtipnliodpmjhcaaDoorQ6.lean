/- YP, ZB, ZC, ZD, ZE, ZF, ZG, YR. -/
import Derived.Test.YtipnliodpmjhcaaDoorQ5
/- The reference's Match and the canonical text. -/
namespace Go.Proofs.YtipnliodpmjhcaaDoor
open Go.RowKit Go.Proofs.K

theorem val_int {k : IntKind} {v : Value} {a b : Int} (h : v = .int k a) (e : a = b) : v = .int k b := by rw [h, e]
theorem mt_false {rd : Qy.Rd} {l : List Qy.Cnd} {i : Nat} {c : Qy.Cnd} (h : l[i]? = some c) (hc : Qy.mt1 rd c = false) : Qy.mt rd l = false := by
  unfold Qy.mt; rw [List.all_eq_false]; exact ⟨c, List.mem_of_getElem? h, by simp [hc]⟩
theorem all_take {α : Type} {p : α → Bool} {l : List α} {i : Nat} {c : α} (h : l[i]? = some c) (h1 : (l.take i).all p = true) (h2 : p c = true) : (l.take (i + 1)).all p = true := by
  rw [List.take_add_one, h, List.all_append, h1]; simp [h2]
theorem liC_get {l : List Qy.Cnd} {i : Nat} {c : Qy.Cnd} (h : l[i]? = some c) : (l.map Qy.liC)[i]? = some (Qy.liC c) := by simp [h]
theorem row_cell {w : World} {lo hi size m : Nat} {v : Value} {xs : List Value} (h : Row w lo hi size v m xs) : v.oneCell' = true := by obtain ⟨_, A, c, rfl, _⟩ := h; rfl
theorem rmatch (lo hi : Nat) (v : Value) (l : List Qy.Cnd) (rd : Qy.Rd) (hl : l.length ≤ 1000) (hc : ∀ c ∈ l, c.1 < 4) (w : World) (hr : Row w lo hi 3 v l.length (cndsI (l.map Qy.liC))) :
    Calls Tryd.prog 17 #[v, .agg (rdC rd).toArray] w fun e w' => e = .returned (.bool (Qy.mt rd l)) ∧ Ext w w' := by
  refine calls_W Tryd.func17 rfl Tryd.ntmps17 rfl ?_
  have hvc := row_cell hr
  (refine W_seq ?_; refine W_region ?_)
  refine L_box (l := rdC rd) rfl ?_
  intro g3 w1 B3 hg3 E1 hs1
  (refine Ls (X_assign (v := .bool _) rfl) ?_; refine L_nil ?_; refine tn ?_; refine W_seq ?_; refine W_seq ?_; refine W_region ?_; refine Ls (X_assign (v := .int _ _) rfl) ?_; refine L_nil ?_; refine tn ?_; refine W_block ?_)
  refine W_loop (fun z f w' => ∃ i, z = l.length - i ∧ i ≤ l.length ∧ (l.take i).all (Qy.mt1 rd) = true ∧ Ext w1 w' ∧ f 0 = v ∧ f 3 = .pointer (some ⟨g3, 0, none⟩) ∧ f 5 = .int .i64 (i : Nat)) l.length ?_ ?_
  · exact ⟨0, rfl, by omega, rfl, Ext.refl _, rfl, rfl, rfl⟩
  · rintro z f w2 ⟨i, rfl, hi', hall, E2, f0, f3, f5⟩
    rw [fold f0, fold f3, fold f5]
    have hr2 := (hr.ext E1).ext E2
    have D3 := B3.ext E2
    by_cases hlt : i < l.length
    · obtain ⟨c, hci⟩ : ∃ c, l[i]? = some c := ⟨l[i], List.getElem?_eq_getElem hlt⟩
      have hcI := liC_get hci
      have hc4 := hc c (List.mem_of_getElem? hci)
      obtain ⟨b0, o0, c0, rfl, _, _, _, hcell⟩ := hr2.at hlt
      have R3 := Rng3 hcell hcI
      (refine W_seq ?_; refine W_seq ?_; refine W_region ?_; refine Ls (X_move (v := .int _ _) rfl) ?_; refine Ls (X_move (v := .slice _ _ _) rfl) ?_; refine Ls (X_lenRow rfl hr2) ?_; refine Ls (X_lssT rfl rfl (by omega)) ?_; refine L_nil ?_; refine tn ?_; refine W_condT rfl ?_; refine W_skip ?_; refine tn ?_; refine W_seq ?_; refine W_block ?_; refine W_seq ?_)
      apply W_dagE 6 (by kernel_rfl)
      (apply DW_x (fun r w hA hH => (X_ldW (size := 4) rfl (D3.ext hA) rfl).trans rfl); apply DW_x (fun r w hA hH => (X_move (v := .slice _ _ _) rfl).trans rfl); apply DW_x (fun r w hA hH => (X_move (v := .int _ _) rfl).trans rfl); apply DW_x (fun r w hA hH => (X_indexSn rfl rfl (by omega)).trans rfl); apply DW_x (fun r w hA hH => (X_fld rfl).trans rfl); apply DW_x (fun r w hA hH => (X_ldR (j := 0) rfl (hA.range R3) rfl rfl).trans rfl))
      ((with_reducible exact D_end); (exact rfl); (repeat (first | exact .inr (.inr (fun _ _ => by with_reducible rfl)) | (refine And.intro ?_ ?_) | exact .inr (.inl rfl) | exact .inl (by decide +kernel) | exact trivial | exact .inr (.inr (fun _ _ => rfl)))); (try dsimp only [Nat.reduceAdd]))
      intro r w3 E3 _
      have R3' := E3.range R3
      have hv := rvalue rd c.1 hc4 w3
      obtain ⟨x, hx⟩ : ∃ x, x = rd c.1 := ⟨_, rfl⟩
      rw [← hx] at hv
      refine L_fv rfl (hv) ?_
      intro w4 E4
      have R4 := E4.range R3'
      have E24 := E3.trans E4
      by_cases h1 : x < c.2.1
      · have hf : Qy.mt1 rd c = false := by unfold Qy.mt1; rw [← hx, Bool.eq_false_iff]; simp; omega
        (refine Ls (X_assign (v := .int _ _) rfl) ?_; refine L_nil ?_; refine tn ?_; refine W_seq ?_; refine W_region ?_; refine Ls (X_move (v := .int _ _) rfl) ?_; refine Ls (X_move (v := .slice _ _ _) rfl) ?_; refine Ls (X_move (v := .int _ _) rfl) ?_; refine Ls (X_indexSn rfl rfl (by omega)) ?_; refine Ls (X_fld rfl) ?_; refine Ls (X_ldR (j := 1) (v := .int .i64 (c.2.1 : Nat)) rfl R4 (by omega) rfl) ?_; refine Ls (X_lssT rfl rfl (by omega)) ?_; refine Ls (X_move (v := .bool _) rfl) ?_; refine Lo2 rfl rfl rfl rfl ?_; refine Lo2 rfl rfl rfl rfl ?_; refine Lo2 rfl rfl rfl rfl ?_; refine Lo2 rfl rfl rfl rfl ?_; refine Lo2 rfl rfl rfl rfl ?_; refine Lo2 rfl rfl rfl rfl ?_; refine Lo2 rfl rfl rfl rfl ?_; refine Ls (X_pickT (v := .bool _) rfl rfl) ?_; refine L_nil ?_; refine tn ?_; refine W_condT rfl ?_; refine W_seq ?_; refine W_region ?_; refine Ls (X_assign (v := .bool _) rfl) ?_; refine L_nil ?_; refine tn ?_; refine W_ret ?_; refine br ?_; refine tr ?_; refine tr ?_; refine br ?_; refine tr ?_)
        refine endQ_ret1 rfl rfl (v := .bool false) rfl ⟨?_, (E1.trans E2).trans E24⟩
        rw [mt_false hci hf]
      · by_cases h2 : c.2.2 < x
        · have hf : Qy.mt1 rd c = false := by unfold Qy.mt1; rw [← hx, Bool.eq_false_iff]; simp; omega
          (refine Ls (X_assign (v := .int _ _) rfl) ?_; refine L_nil ?_; refine tn ?_; refine W_seq ?_; refine W_region ?_; refine Ls (X_move (v := .int _ _) rfl) ?_; refine Ls (X_move (v := .slice _ _ _) rfl) ?_; refine Ls (X_move (v := .int _ _) rfl) ?_; refine Ls (X_indexSn rfl rfl (by omega)) ?_; refine Ls (X_fld rfl) ?_; refine Ls (X_ldR (j := 1) (v := .int .i64 (c.2.1 : Nat)) rfl R4 (by omega) rfl) ?_; refine Ls (X_lssF rfl rfl (by omega)) ?_; refine Ls (X_move (v := .bool _) rfl) ?_; refine Lg2 rfl rfl rfl (X_move (v := .int _ _) rfl) ?_; refine Lg2 rfl rfl rfl (X_move (v := .slice _ _ _) rfl) ?_; refine Lg2 rfl rfl rfl (X_move (v := .int _ _) rfl) ?_; refine Lg2 rfl rfl rfl (X_indexSn rfl rfl (by omega)) ?_; refine Lg2 rfl rfl rfl (X_fld rfl) ?_; refine Lg2 rfl rfl rfl (X_ldR (j := 2) (v := .int .i64 (c.2.2 : Nat)) rfl R4 (by omega) rfl) ?_; refine Lg2 rfl rfl rfl (X_gtrT rfl rfl (by omega)) ?_; refine Ls (X_pickF (v := .bool _) rfl rfl) ?_; refine L_nil ?_; refine tn ?_; refine W_condT rfl ?_; refine W_seq ?_; refine W_region ?_; refine Ls (X_assign (v := .bool _) rfl) ?_; refine L_nil ?_; refine tn ?_; refine W_ret ?_; refine br ?_; refine tr ?_; refine tr ?_; refine br ?_; refine tr ?_)
          refine endQ_ret1 rfl rfl (v := .bool false) rfl ⟨?_, (E1.trans E2).trans E24⟩
          rw [mt_false hci hf]
        · have hf : Qy.mt1 rd c = true := by unfold Qy.mt1; rw [← hx]; simp; omega
          (refine Ls (X_assign (v := .int _ _) rfl) ?_; refine L_nil ?_; refine tn ?_; refine W_seq ?_; refine W_region ?_; refine Ls (X_move (v := .int _ _) rfl) ?_; refine Ls (X_move (v := .slice _ _ _) rfl) ?_; refine Ls (X_move (v := .int _ _) rfl) ?_; refine Ls (X_indexSn rfl rfl (by omega)) ?_; refine Ls (X_fld rfl) ?_; refine Ls (X_ldR (j := 1) (v := .int .i64 (c.2.1 : Nat)) rfl R4 (by omega) rfl) ?_; refine Ls (X_lssF rfl rfl (by omega)) ?_; refine Ls (X_move (v := .bool _) rfl) ?_; refine Lg2 rfl rfl rfl (X_move (v := .int _ _) rfl) ?_; refine Lg2 rfl rfl rfl (X_move (v := .slice _ _ _) rfl) ?_; refine Lg2 rfl rfl rfl (X_move (v := .int _ _) rfl) ?_; refine Lg2 rfl rfl rfl (X_indexSn rfl rfl (by omega)) ?_; refine Lg2 rfl rfl rfl (X_fld rfl) ?_; refine Lg2 rfl rfl rfl (X_ldR (j := 2) (v := .int .i64 (c.2.2 : Nat)) rfl R4 (by omega) rfl) ?_; refine Lg2 rfl rfl rfl (X_gtrF rfl rfl (by omega)) ?_; refine Ls (X_pickF (v := .bool _) rfl rfl) ?_; refine L_nil ?_; refine tn ?_; refine W_condF rfl ?_; refine W_skip ?_; refine bn ?_; refine tn ?_; refine W_region ?_; refine Ls (X_move (v := .int _ _) rfl) ?_; refine Ls (X_addi rfl rfl (by omega)) ?_; refine Ls (X_assign (v := .int _ _) rfl) ?_; refine L_nil ?_; refine tn ?_)
          exact ⟨l.length - (i + 1), by omega, i + 1, rfl, by omega, all_take hci hall hf, E2.trans E24, rfl, rfl, rfl⟩
    · obtain rfl : i = l.length := by omega
      (refine W_seq ?_; refine W_seq ?_; refine W_region ?_; refine Ls (X_move (v := .int _ _) rfl) ?_; refine Ls (X_move (v := v) rfl) ?_; refine Ls (X_lenRow (v := v) rfl hr2) ?_; refine Ls (X_lssF rfl rfl (by omega)) ?_; refine L_nil ?_; refine tn ?_; refine W_condF rfl ?_; refine W_exit ?_; refine te ?_; refine te ?_; refine bx ?_; refine tn ?_; refine W_seq ?_; refine W_region ?_; refine Ls (X_assign (v := .bool _) rfl) ?_; refine L_nil ?_; refine tn ?_; refine W_ret ?_)
      refine endQ_ret1 rfl rfl (v := .bool true) rfl ⟨?_, E1.trans E2⟩
      rw [List.take_length] at hall
      rw [show Qy.mt rd l = true from hall]

theorem fFil_snoc : ∀ (l : List Qy.Cnd) (b : Bool) (c : Qy.Cnd), Qy.fFil b (l ++ [c]) = Qy.fFil b l ++ ([32] ++ (bif (bif l.isEmpty then b else false) then Qy.tWhere else Qy.tAnd) ++ [32] ++ Qy.fCond c)
  | [], b, c => by simp [Qy.fFil]
  | d :: l, b, c => by
    show [32] ++ _ ++ [32] ++ Qy.fCond d ++ Qy.fFil false (l ++ [c]) = [32] ++ _ ++ [32] ++ Qy.fCond d ++ Qy.fFil false l ++ _
    rw [fFil_snoc l false c]
    cases l <;> simp
theorem take_emp {α : Type} {l : List α} {i : Nat} (h : i < l.length) : (l.take i).isEmpty = (i == 0) := by
  cases i with
  | zero => rfl
  | succ i => cases l with
    | nil => simp at h
    | cons a l => rfl
theorem rfmtf (lo hi : Nat) (v : Value) (l : List Qy.Cnd) (hf : Qy.okF l) (w : World) (hr : Row w lo hi 3 v l.length (cndsI (l.map Qy.liC))) :
    Calls Tryd.prog 43 #[v] w fun e w' => e = .returned (.string (strB (Qy.fFil true l))) ∧ Ext w w' := by
  refine calls_W Tryd.func43 rfl Tryd.ntmps43 rfl ?_
  have hvc := row_cell hr
  have hl3 := hf.1
  (refine W_seq ?_; refine W_region ?_; refine Ls (X_assign (v := .string _) rfl) ?_; refine L_nil ?_; refine tn ?_; refine W_seq ?_; refine W_region ?_; refine Ls (X_assign (v := .string _) rfl) ?_; refine L_nil ?_; refine tn ?_; refine W_seq ?_; refine W_seq ?_; refine W_region ?_; refine Ls (X_assign (v := .int _ _) rfl) ?_; refine L_nil ?_; refine tn ?_; refine W_block ?_)
  refine W_loop (fun z f w' => ∃ i, z = l.length - i ∧ i ≤ l.length ∧ Ext w w' ∧ f 0 = v ∧ f 3 = .string (strB (Qy.fFil true (l.take i))) ∧ f 4 = .int .i64 (i : Nat)) l.length ?_ ?_
  · exact ⟨0, rfl, by omega, Ext.refl _, rfl, rfl, rfl⟩
  · rintro z f w1 ⟨i, rfl, hi', E1, f0, f3, f4⟩
    rw [fold f0, fold f3, fold f4]
    have hr1 := hr.ext E1
    by_cases hlt : i < l.length
    · obtain ⟨⟨c, a, b⟩, hci⟩ : ∃ c, l[i]? = some c := ⟨l[i], List.getElem?_eq_getElem hlt⟩
      have hcI := liC_get hci
      have hok := hf.2 _ (List.mem_of_getElem? hci)
      have hcm := Qy.cmax_le c
      obtain ⟨hc4, hab, hbm⟩ : c < 4 ∧ a ≤ b ∧ b ≤ Qy.cmax c := hok
      have hsn := fFil_snoc (l.take i) true (c, a, b)
      rw [take_emp hlt] at hsn
      have htk : l.take (i + 1) = l.take i ++ [(c, a, b)] := by rw [List.take_add_one, hci]; rfl
      rw [← htk] at hsn
      have hFl : (Qy.fFil true (l.take i)).length ≤ 100 := by
        have h1 := Qy.fFil_len true (l.take i) fun d hd => hf.2 d (List.mem_of_mem_take hd)
        have h2 : (l.take i).length ≤ 3 := by rw [List.length_take]; omega
        omega
      obtain ⟨F, hF⟩ : ∃ F, F = Qy.fFil true (l.take i) := ⟨_, rfl⟩
      rw [← hF] at hsn hFl ⊢
      obtain ⟨b0, o0, c0, rfl, _, _, _, hcell⟩ := hr1.at hlt
      have R1 : w1.rangeAt b0 (o0 + i * 3) (cndI (Qy.liC (c, a, b))) := Rng3 hcell hcI
      have n1 := Qy.name_len c
      have n2 := dig_len (a + 1) a (by omega)
      have n3 := dig_len (b + 1) b (by omega)
      obtain ⟨jt, hjt, hj⟩ : ∃ jt, jt = (bif (i == 0) then [32] ++ Qy.tWhere ++ [32] else [32] ++ Qy.tAnd ++ [32] : List Nat) ∧ jt.length ≤ 7 := ⟨_, rfl, by cases (i == 0) <;> decide⟩
      have hsn2 : Qy.fFil true (l.take (i + 1)) = ((((((F ++ jt) ++ Qy.name c) ++ ([32] ++ Qy.tIn ++ [32])) ++ Qy.dig a) ++ Qy.tDots) ++ Qy.dig b) := by
        rw [hsn, hjt]; cases (i == 0) <;> simp [Qy.fCond]
      clear hF hsn
      (refine W_seq ?_; refine W_seq ?_; refine W_region ?_; refine Ls (X_move (v := .int _ _) rfl) ?_; refine Ls (X_move (v := .slice _ _ _) rfl) ?_; refine Ls (X_lenRow rfl hr1) ?_; refine Ls (X_lssT rfl rfl (by omega)) ?_; refine L_nil ?_; refine tn ?_; refine W_condT rfl ?_; refine W_skip ?_; refine tn ?_; refine W_seq ?_; refine W_block ?_; refine W_seq ?_; refine W_region ?_; refine Ls (X_assign (v := .string _) rfl) ?_; refine L_nil ?_; refine tn ?_; refine W_seq ?_; refine W_seq ?_; refine W_region ?_; refine Ls (X_move (v := .int _ _) rfl) ?_; refine Ls (X_gtr rfl rfl) ?_; refine L_nil ?_; refine tn ?_)
      refine W_mono (Q := fun e f w' => e = .normal ∧ w' = w1 ∧ f 0 = .slice (some ⟨b0, o0, none⟩) l.length c0 ∧ f 3 = .string (strB F) ∧ f 4 = .int .i64 (i : Nat) ∧ f 5 = .string (strB jt)) ?_ ?_
      · by_cases h0 : i = 0
        · have e0 : (i == 0) = true := by simp [h0]
          rw [hjt, e0]
          refine W_condp rfl (fun h => by omega) (fun _ => ?_)
          (refine W_skip ?_)
          exact ⟨rfl, rfl, rfl, rfl, rfl, rfl⟩
        · have e0 : (i == 0) = false := by simp [h0]
          rw [hjt, e0]
          refine W_condp rfl (fun _ => ?_) (fun h => by omega)
          (refine W_region ?_; refine Ls (X_assign (v := .string _) rfl) ?_; refine L_nil ?_)
          exact ⟨rfl, rfl, rfl, rfl, rfl, rfl⟩
      · rintro e f w' ⟨rfl, rfl, f0, f3, f4, f5⟩
        rw [fold f0, fold f3, fold f4, fold f5]
        (refine tn ?_)
        apply W_dagE 25 (by kernel_rfl)
        (apply DW_x (fun r w hA hH => (X_move (v := .string _) rfl).trans rfl); apply DW_x (fun r w hA hH => (X_move (v := .string _) rfl).trans rfl))
        ((with_reducible apply DW_x); (exact fun r w hA hH => (X_addSL (b := jt) rfl rfl rfl (by omega)).trans rfl))
        (apply DW_x (fun r w hA hH => (X_move (v := .slice _ _ _) rfl).trans rfl); apply DW_x (fun r w hA hH => (X_move (v := .int _ _) rfl).trans rfl); apply DW_x (fun r w hA hH => (X_indexSn rfl rfl (by omega)).trans rfl); apply DW_x (fun r w hA hH => (X_fld rfl).trans rfl); apply DW_x (fun r w hA hH => (X_ldR (j := 0) (v := .int .i64 (c : Nat)) rfl (hA.range R1) rfl rfl).trans rfl))
        ((with_reducible apply DW_fn); (exact fun _ => rfl); (exact fun _ => rfl); (exact fun r w hA hH => rcolumn c hc4 w))
        ((with_reducible apply DW_x); (exact fun r w hA hH => (X_addSL (b := Qy.name c) rfl rfl rfl (by rw [List.length_append]; omega)).trans rfl))
        ((with_reducible apply DW_x); (exact fun r w hA hH => (X_addSL (b := [32] ++ Qy.tIn ++ [32]) rfl rfl rfl (by simp only [List.length_append, Qy.tIn, List.length_cons, List.length_nil]; omega)).trans rfl))
        (apply DW_x (fun r w hA hH => (X_move (v := .slice _ _ _) rfl).trans rfl); apply DW_x (fun r w hA hH => (X_move (v := .int _ _) rfl).trans rfl); apply DW_x (fun r w hA hH => (X_indexSn rfl rfl (by omega)).trans rfl); apply DW_x (fun r w hA hH => (X_fld rfl).trans rfl); apply DW_x (fun r w hA hH => (X_ldR (j := 1) (v := .int .i64 (a : Nat)) rfl (hA.range R1) rfl rfl).trans rfl))
        ((with_reducible apply DW_fn); (exact fun _ => rfl); (exact fun _ => rfl); (exact fun r w hA hH => rdig a (by omega) w))
        ((with_reducible apply DW_x); (exact fun r w hA hH => (X_addSL (b := Qy.dig a) rfl rfl rfl (by simp only [List.length_append, Qy.tIn, List.length_cons, List.length_nil]; omega)).trans rfl))
        ((with_reducible apply DW_x); (exact fun r w hA hH => (X_addSL (b := Qy.tDots) rfl rfl rfl (by simp only [List.length_append, Qy.tIn, Qy.tDots, List.length_cons, List.length_nil]; omega)).trans rfl))
        (apply DW_x (fun r w hA hH => (X_move (v := .slice _ _ _) rfl).trans rfl); apply DW_x (fun r w hA hH => (X_move (v := .int _ _) rfl).trans rfl); apply DW_x (fun r w hA hH => (X_indexSn rfl rfl (by omega)).trans rfl); apply DW_x (fun r w hA hH => (X_fld rfl).trans rfl); apply DW_x (fun r w hA hH => (X_ldR (j := 2) (v := .int .i64 (b : Nat)) rfl (hA.range R1) rfl rfl).trans rfl))
        ((with_reducible apply DW_fn); (exact fun _ => rfl); (exact fun _ => rfl); (exact fun r w hA hH => rdig b (by omega) w))
        ((with_reducible exact D_end); (exact rfl); (repeat (first | exact .inr (.inr (fun _ _ => by with_reducible rfl)) | (refine And.intro ?_ ?_) | exact .inr (.inl rfl) | exact .inl (by decide +kernel) | exact trivial | exact .inr (.inr (fun _ _ => rfl)))); (try dsimp only [Nat.reduceAdd]))
        intro r w3 E3 _
        (refine Ls (X_addSL (b := Qy.dig b) rfl rfl rfl (by simp only [List.length_append, Qy.tIn, Qy.tDots, List.length_cons, List.length_nil]; omega)) ?_; refine Ls (X_assign (v := .string _) rfl) ?_; refine L_nil ?_; refine bn ?_; refine tn ?_; refine W_region ?_; refine Ls (X_move (v := .int _ _) rfl) ?_; refine Ls (X_addi rfl rfl (by omega)) ?_; refine Ls (X_assign (v := .int _ _) rfl) ?_; refine L_nil ?_; refine tn ?_)
        exact ⟨l.length - (i + 1), by omega, i + 1, rfl, by omega, E1.trans E3, rfl, by rw [hsn2]; rfl, rfl⟩
    · obtain rfl : i = l.length := by omega
      (refine W_seq ?_; refine W_seq ?_; refine W_region ?_; refine Ls (X_move (v := .int _ _) rfl) ?_; refine Ls (X_move (v := v) rfl) ?_; refine Ls (X_lenRow (v := v) rfl hr1) ?_; refine Ls (X_lssF rfl rfl (by omega)) ?_; refine L_nil ?_; refine tn ?_; refine W_condF rfl ?_; refine W_exit ?_; refine te ?_; refine te ?_; refine bx ?_; refine tn ?_; refine W_seq ?_; refine W_region ?_; refine Ls (X_move (v := .string _) rfl) ?_; refine Ls (X_assign (v := .string _) rfl) ?_; refine L_nil ?_; refine tn ?_; refine W_ret ?_)
      refine endQ_ret1 rfl rfl (v := .string _) rfl ⟨?_, E1⟩
      rw [List.take_length]

set_option maxRecDepth 100000 in
/-- the canonical text of a valid query -/
theorem rformat (q : Qy.Q) (hq : Qy.Ok q) (v : Value) (lo hi : Nat) (w : World) (hF : FilsI w lo hi v (filC q.fs)) :
    Calls Tryd.prog 19 #[.agg (qry q v).toArray] w fun e w' => e = .returned (.string (strB (Qy.format q))) ∧ Ext w w' := by
  refine calls_W Tryd.func19 rfl Tryd.ntmps19 rfl ?_
  have hvc := hF.cell
  have hlen := Qy.format_len hq
  have hk7 := hq.k7
  have hk1 := hq.k1
  have hc4 := hq.c
  have hn0 := hq.n0
  have hfl := hq.fl
  have hff := hq.f
  obtain ⟨k, c, n, fs⟩ := q
  dsimp only at hF hvc hk7 hk1 hc4 hn0 hfl hff
  have hmk := Qy.maxK_le k
  (refine W_seq ?_; refine W_region ?_)
  refine L_box (l := qC (k : Nat) (c : Nat) (n : Nat) v) rfl ?_
  intro g1 w1 B1 hg1 E1 hs1
  (refine Ls (X_assign (v := .string _) rfl) ?_; refine L_nil ?_; refine tn ?_; refine W_seq ?_; refine W_region ?_; refine Ls (X_fld rfl) ?_; refine Ls (X_ld (v := .int .i64 (k : Nat)) rfl B1 rfl) ?_)
  refine L_fv rfl (rkeyword k hk1 hk7 w1) ?_
  intro w2 E2
  have B2 := B1.ext E2
  have kl := Qy.keyword_len k
  have nl := Qy.name_len c
  have dl := dig_len (n + 1) n (by omega)
  (refine Ls (X_assign (v := .string _) rfl) ?_; refine L_nil ?_; refine tn ?_; refine W_seq ?_; refine W_seq ?_; refine W_region ?_; refine Ls (X_fld rfl) ?_; refine Ls (X_ld (v := .int .i64 (k : Nat)) rfl B2 rfl) ?_)
  refine L_fv rfl (rhascol k w2) ?_
  intro w3 E3
  have B3 := B2.ext E3
  (refine L_nil ?_; refine tn ?_)
  obtain ⟨s1, hs1'⟩ : ∃ s1, s1 = Qy.keyword k ++ (bif Qy.hasCol k then [32] ++ Qy.name c else []) := ⟨_, rfl⟩
  have l1 : s1.length ≤ 20 := by rw [hs1', List.length_append]; cases Qy.hasCol k <;> simp <;> omega
  refine W_mono (Q := fun e f w' => e = .normal ∧ Ext w3 w' ∧ f 1 = .pointer (some ⟨g1, 0, none⟩) ∧ f 3 = .string (strB s1)) ?_ ?_
  · rw [hs1']
    cases hh : Qy.hasCol k
    · (refine W_condF rfl ?_; refine W_skip ?_)
      refine ⟨rfl, Ext.refl _, rfl, ?_⟩
      rw [show (bif false then [32] ++ Qy.name c else []) = ([] : List Nat) from rfl, List.append_nil]; rfl
    · (refine W_condT rfl ?_; refine W_region ?_; refine Ls (X_move (v := .string _) rfl) ?_; refine Ls (X_addSL (b := [32]) rfl rfl rfl (by simp; omega)) ?_; refine Ls (X_fld rfl) ?_; refine Ls (X_ld (v := .int .i64 (c : Nat)) rfl B3 rfl) ?_)
      refine L_fv rfl (rcolumn c hc4 w3) ?_
      intro w4 E4
      (refine Ls (X_addSL (b := Qy.name c) rfl rfl rfl (by simp; omega)) ?_; refine Ls (X_assign (v := .string _) rfl) ?_; refine L_nil ?_)
      refine ⟨rfl, E4, rfl, ?_⟩
      show Value.string _ = _
      rw [List.append_assoc]; rfl
  rintro e f w4 ⟨rfl, E4, f1, f3⟩
  rw [fold f1, fold f3]
  have B4 := B3.ext E4
  (refine tn ?_; refine W_seq ?_; refine W_seq ?_; refine W_region ?_; refine Ls (X_fld rfl) ?_; refine Ls (X_ld (v := .int .i64 (k : Nat)) rfl B4 rfl) ?_)
  refine L_fv rfl (rmaxK k w4) ?_
  intro w5 E5
  have B5 := B4.ext E5
  (refine Ls (X_gtr rfl rfl) ?_; refine L_nil ?_; refine tn ?_)
  obtain ⟨s2, hs2'⟩ : ∃ s2, s2 = s1 ++ (bif Nat.ble 1 (Qy.maxK k) then [32] ++ Qy.dig n else []) := ⟨_, rfl⟩
  have l2 : s2.length ≤ 100000 := by rw [hs2', List.length_append]; cases Nat.ble 1 (Qy.maxK k) <;> simp <;> omega
  have hfmt : Qy.format ⟨k, c, n, fs⟩ = s2 ++ Qy.fFils fs := by unfold Qy.format; rw [hs2', hs1']
  refine W_mono (Q := fun e f w' => e = .normal ∧ Ext w5 w' ∧ f 1 = .pointer (some ⟨g1, 0, none⟩) ∧ f 3 = .string (strB s2)) ?_ ?_
  · rw [hs2']
    by_cases hm : 0 < Qy.maxK k
    · refine W_condp rfl (fun _ => ?_) (fun h => (h (by omega)).elim)
      rw [Nat.ble_eq_true_of_le hm]
      (refine W_region ?_; refine Ls (X_move (v := .string _) rfl) ?_; refine Ls (X_addSL (b := [32]) rfl rfl rfl (by simp; omega)) ?_; refine Ls (X_fld rfl) ?_; refine Ls (X_ld (v := .int .i64 (n : Nat)) rfl B5 rfl) ?_)
      refine L_fv rfl (rdig n (by omega) w5) ?_
      intro w6 E6
      (refine Ls (X_addSL (b := Qy.dig n) rfl rfl rfl (by simp; omega)) ?_; refine Ls (X_assign (v := .string _) rfl) ?_; refine L_nil ?_)
      refine ⟨rfl, E6, rfl, ?_⟩
      show Value.string _ = _
      rw [List.append_assoc]; rfl
    · refine W_condp rfl (fun h => (hm (by omega)).elim) (fun _ => ?_)
      have hb0 : Nat.ble 1 (Qy.maxK k) = false := by
        cases hb : Nat.ble 1 (Qy.maxK k)
        · rfl
        · exact (hm (Nat.le_of_ble_eq_true hb)).elim
      rw [hb0]
      (refine W_skip ?_)
      refine ⟨rfl, Ext.refl _, rfl, ?_⟩
      rw [show (bif false then [32] ++ Qy.dig n else []) = ([] : List Nat) from rfl, List.append_nil]; rfl
  clear hs2' hs1'
  rintro e f w6 ⟨rfl, E6, f1, f3⟩
  rw [fold f1, fold f3]
  have B6 := B5.ext E6
  have E06 := ((((E1.trans E2).trans E3).trans E4).trans E5).trans E6
  obtain ⟨us, hul, hvr, hus⟩ := hF.ext E06
  obtain ⟨a, fr, rfl⟩ : ∃ a fr, fs = a :: fr := by
    cases fs with
    | nil => unfold Qy.nfil at hfl; cases hb : (k == 7) <;> rw [hb] at hfl <;> simp at hfl
    | cons a fr => exact ⟨_, _, rfl⟩
  obtain ⟨ua, ur, rfl⟩ : ∃ a fr, us = a :: fr := by
    cases us with
    | nil => simp [filC] at hul
    | cons a fr => exact ⟨_, _, rfl⟩
  have ra : Row w6 lo hi 3 ua a.length (cndsI (a.map Qy.liC)) := (hus 0 ua (a.map Qy.liC) rfl rfl).re (by simp) rfl
  have hao := hff a (by simp)
  have la := Qy.fFil_len true a hao.2
  have la3 := hao.1
  have hvr0 := hvr
  obtain ⟨bv, ov, cv, rfl, _, _, _, hcv⟩ := hvr.at (k := 0) (by simp [filC])
  have hac := row_cell ra
  (refine tn ?_; refine W_seq ?_; refine W_region ?_; refine Ls (X_move (v := .string _) rfl) ?_; refine Ls (X_fld rfl) ?_; refine Ls (X_ld (v := .slice (some ⟨bv, ov, none⟩) (filC (a :: fr)).length cv) rfl B6 rfl) ?_; refine Ls (X_indexSn (i := 0) rfl rfl (by simp [filC])) ?_; refine Ls (X_ldR (j := 0) (v := ua) rfl hcv (by omega) rfl) ?_)
  refine L_fv rfl (rfmtf lo hi ua a hao w6 ra) ?_
  intro w7 E7
  have B7 := B6.ext E7
  by_cases h7 : k = 7
  · subst h7
    obtain ⟨b, rfl⟩ : ∃ b, fr = [b] := by
      match fr, hfl with
      | [b], _ => exact ⟨b, rfl⟩
    obtain ⟨ub, rfl⟩ : ∃ b, ur = [b] := by
      match ur, hul with
      | [b], _ => exact ⟨b, rfl⟩
    have rb : Row w7 lo hi 3 ub b.length (cndsI (b.map Qy.liC)) := ((hus 1 ub (b.map Qy.liC) rfl rfl).re (by simp) rfl).ext E7
    have hbo := hff b (by simp)
    have lb := Qy.fFil_len true b hbo.2
    have lb3 := hbo.1
    have hbc := row_cell rb
    refine Ls (X_addSL (b := Qy.fFil true a) rfl rfl rfl (by omega)) ?_
    (refine Ls (X_assign (v := .string _) rfl) ?_; refine L_nil ?_; refine tn ?_; refine W_seq ?_; refine W_seq ?_; refine W_region ?_; refine Ls (X_fld rfl) ?_; refine Ls (X_ld (v := .int .i64 (7 : Nat)) rfl B7 rfl) ?_; refine Ls (X_eqlT rfl rfl (by omega)) ?_; refine L_nil ?_; refine tn ?_; refine W_condT rfl ?_; refine W_region ?_; refine Ls (X_move (v := .string _) rfl) ?_)
    refine Ls (X_addSL (b := [32] ++ Qy.tWith) rfl rfl rfl (by simp only [List.length_append, Qy.tWith, List.length_cons, List.length_nil]; omega)) ?_
    (refine Ls (X_fld rfl) ?_; refine Ls (X_ld (v := .slice (some ⟨bv, ov, none⟩) (filC [a, b]).length cv) rfl B7 rfl) ?_; refine Ls (X_indexSn (i := 1) rfl rfl (by simp [filC])) ?_; refine Ls (X_ldR (j := 1) (v := ub) rfl (E7.range hcv) (by omega) rfl) ?_)
    refine L_fv rfl (rfmtf lo hi ub b hbo w7 rb) ?_
    intro w8 E8
    refine Ls (X_addSL (b := Qy.fFil true b) rfl rfl rfl (by simp only [List.length_append, Qy.tWith, List.length_cons, List.length_nil]; omega)) ?_
    (refine Ls (X_assign (v := .string _) rfl) ?_; refine L_nil ?_; refine tn ?_; refine W_seq ?_; refine W_region ?_; refine Ls (X_move (v := .string _) rfl) ?_; refine Ls (X_assign (v := .string _) rfl) ?_; refine L_nil ?_; refine tn ?_; refine W_ret ?_)
    refine endQ_ret1 rfl rfl (v := .string _) rfl ⟨?_, (E06.trans E7).trans E8⟩
    rw [hfmt]
    simp [Qy.fFils]
  · obtain rfl : fr = [] := by
      have e7 : (k == 7) = false := by simp [h7]
      unfold Qy.nfil at hfl; rw [e7] at hfl
      simpa using hfl
    (refine Ls (X_addSL (b := Qy.fFil true a) rfl rfl rfl (by omega)) ?_; refine Ls (X_assign (v := .string _) rfl) ?_; refine L_nil ?_; refine tn ?_; refine W_seq ?_; refine W_seq ?_; refine W_region ?_; refine Ls (X_fld rfl) ?_; refine Ls (X_ld (v := .int .i64 (k : Nat)) rfl B7 rfl) ?_; refine Ls (X_eqlF rfl rfl (by omega)) ?_; refine L_nil ?_; refine tn ?_; refine W_condF rfl ?_; refine W_skip ?_; refine tn ?_; refine W_seq ?_; refine W_region ?_; refine Ls (X_move (v := .string _) rfl) ?_; refine Ls (X_assign (v := .string _) rfl) ?_; refine L_nil ?_; refine tn ?_; refine W_ret ?_)
    refine endQ_ret1 rfl rfl (v := .string _) rfl ⟨?_, E06.trans E7⟩
    rw [hfmt]; rfl
end Go.Proofs.YtipnliodpmjhcaaDoor

/- The reference's scanner. -/
namespace Go.Proofs.YtipnliodpmjhcaaDoor
open Go.RowKit Go.Proofs.K

/-- a token of the reference, as cells -/
def tkR (t : Qy.Tok) : List Value := [.int .i64 (t.kind : Nat), .string (strB t.text), .int .i64 (t.off : Nat)]
theorem tkR_cell {t : Qy.Tok} : ∀ v ∈ tkR t, v.oneCell' = true := by intro v hv; simp [tkR] at hv; rcases hv with rfl | rfl | rfl <;> rfl
theorem scanR_cons (c : Nat) (r : List Nat) (i : Nat) : Qy.scanR (c :: r) i = bif Qy.isLo c then ⟨1, (c :: r).takeWhile Qy.isLo, i⟩ else bif Qy.isDi c then ⟨2, (c :: r).takeWhile Qy.isDi, i⟩ else bif c == 61 then ⟨3, [61], i⟩ else bif c == 46 && r.head? == some 46 then ⟨3, [46, 46], i⟩ else ⟨4, [], i⟩ := rfl
theorem runs_in (q : Nat → Bool) (s : ByteArray) {pos k : Nat} (h1 : pos ≤ k) (h2 : k < pos + (((sb s).drop pos).takeWhile q).length) : q ((sb s).getD k 0) = true := by
  have := tw_in q ((sb s).drop pos) (k - pos) (by omega)
  rwa [getD_drop, show pos + (k - pos) = k by omega] at this
theorem run_le (q : Nat → Bool) (s : ByteArray) {pos : Nat} (h : pos ≤ s.size) : pos + (((sb s).drop pos).takeWhile q).length ≤ s.size := by
  have := Qy.tw_len q ((sb s).drop pos)
  rw [List.length_drop, sb_len] at this; omega
theorem run_out (q : Nat → Bool) (s : ByteArray) {pos : Nat} (h2 : pos + (((sb s).drop pos).takeWhile q).length < s.size) : q ((sb s).getD (pos + (((sb s).drop pos).takeWhile q).length) 0) = false := by
  have := tw_out q ((sb s).drop pos) (by rw [List.length_drop, sb_len]; omega)
  rwa [getD_drop] at this
theorem X_mkTkR {n : NN} {f : Fr} {w : World} {d : Option Tmp} {t : TypeId} {pos : String} {af : Array Edge} {g : Option (Nat × Bool)} {x y z : Operand} (tk : Qy.Tok) {B : ByteArray} (hx : ev n f x = .int .i64 (tk.kind : Nat)) (hy : ev n f y = .string B) (hz : ev n f z = .int .i64 (tk.off : Nat)) (hb : strB tk.text = B) :
    X Tryd.prog n ⟨d, .build 84 #[(0, x), (1, y), (2, z)], t, pos, af, g⟩ f w = .ok (.value (.agg (tkR tk).toArray)) w := by
  subst hb
  have := X_build (P := Tryd.prog) (ty := 84) (n := n) (f := f) (w := w) (d := d) (t := t) (pos := pos) (af := af) (g := g) (Parts.cons (i := 0) (z := [.int .i64 0]) hx rfl rfl rfl (Parts.cons (i := 1) (z := [.string ByteArray.empty]) hy rfl rfl rfl (Parts.cons (i := 2) (z := [.int .i64 0]) hz rfl rfl rfl (Parts.nil _))))
  simpa [tkR] using this
set_option maxHeartbeats 8000000 in
theorem rscan (s : ByteArray) (hs : s.size ≤ 1000000) (i : Nat) (hi : i ≤ s.size) (w : World) :
    Calls Tryd.prog 69 #[.string s, .int .i64 (i : Nat)] w fun e w' => e = .returned (.agg (tkR (Qy.scan ((sb s).drop i) i)).toArray) ∧ Ext w w' := by
  refine calls_W Tryd.func69 rfl Tryd.ntmps69 rfl ?_
  obtain ⟨p, hpe⟩ : ∃ p, p = i + (((sb s).drop i).takeWhile Qy.isWs).length := ⟨_, rfl⟩
  have hin : ∀ k, i ≤ k → k < p → Qy.isWs ((sb s).getD k 0) = true := fun k h1 h2 => runs_in _ s h1 (by rw [← hpe]; exact h2)
  have hps : p ≤ s.size := by rw [hpe]; exact run_le _ s hi
  have hout : p < s.size → Qy.isWs ((sb s).getD p 0) = false := fun h => by rw [hpe] at h ⊢; exact run_out _ s h
  have hip : i ≤ p := by omega
  have hscan : Qy.scan ((sb s).drop i) i = Qy.scanR ((sb s).drop p) p := by
    unfold Qy.scan
    rw [Qy.drop_ws, List.drop_drop, show i + Qy.ws ((sb s).drop i) = p from hpe.symm]
  rw [hscan]
  clear hpe hscan
  (refine W_seq ?_; refine W_region ?_)
  refine L_alloc ?_
  intro g4 w1 B4 hg4 E1 hs1
  (refine L_nil ?_; refine tn ?_; refine W_seq ?_; refine W_block ?_)
  refine W_mono (Q := fun e f w' => e = .exit 0 ∧ w' = w1 ∧ f 0 = .string s ∧ f 1 = .int .i64 (p : Nat) ∧ f 4 = .pointer (some ⟨g4, 0, none⟩)) ?_ ?_
  · refine W_loop (fun z f w' => ∃ k, z = p - k ∧ i ≤ k ∧ k ≤ p ∧ w' = w1 ∧ f 0 = .string s ∧ f 1 = .int .i64 (k : Nat) ∧ f 4 = .pointer (some ⟨g4, 0, none⟩)) (p - i) ?_ ?_
    · exact ⟨i, rfl, by omega, hip, rfl, rfl, rfl, rfl⟩
    · rintro z f w' ⟨k, rfl, hik, hkp, rfl, f0, f1, f4⟩
      rw [fold f0, fold f1, fold f4]
      clear f0 f1 f4
      obtain ⟨ch, hch⟩ : ∃ ch, (sb s).getD k 0 = ch := ⟨_, rfl⟩
      by_cases hlt : k < p
      · have hw := hin k hik hlt
        rw [hch, Qy.isWs_iff] at hw
        rcases hw with h | h | h | h
        all_goals
          repeat (first | (with_reducible refine tn ?_) | (with_reducible refine bn ?_) | (with_reducible refine W_seq ?_) | (with_reducible refine W_region ?_) | (with_reducible refine W_block ?_) | (with_reducible refine W_skip ?_) | (with_reducible refine L_nil ?_) | ((with_reducible refine i_move ?_); (first | ((with_reducible refine i_ng ?_); (first | refine Ls (X_move (v := .int _ _) rfl) ?_ | refine Ls (X_move (v := .bool _) rfl) ?_ | refine Ls (X_move (v := .string _) rfl) ?_)) | ((with_reducible refine i_gd ?_); (first | refine Lg2 rfl rfl rfl (X_move (v := .int _ _) rfl) ?_ | refine Lg2 rfl rfl rfl (X_move (v := .bool _) rfl) ?_ | refine Lg2 rfl rfl rfl (X_move (v := .string _) rfl) ?_)))) | ((with_reducible refine i_assign ?_); ((with_reducible refine i_ng ?_); refine Ls (X_assign (v := .int _ _) rfl) ?_)) | ((with_reducible refine i_add ?_); ((with_reducible refine i_ng ?_); refine Ls (X_addi rfl rfl (by omega)) ?_)) | ((with_reducible refine i_lss ?_); ((with_reducible refine i_ng ?_); refine Ls (X_lssT rfl rfl (by omega)) ?_)) | ((with_reducible refine i_eql ?_); ((with_reducible refine i_gd ?_); (first | refine Lg2 rfl rfl rfl (X_eqlT rfl rfl (by omega)) ?_ | refine Lg2 rfl rfl rfl (X_eqlF rfl rfl (by omega)) ?_))) | ((with_reducible refine i_len ?_); ((with_reducible refine i_ng ?_); refine Ls (X_lenStr rfl) ?_)) | ((with_reducible refine i_pick ?_); (first | ((with_reducible refine i_ng ?_); refine Ls (X_pickT (v := .bool _) rfl rfl) ?_) | ((with_reducible refine i_gd ?_); (first | refine Lg2 rfl rfl rfl (X_pickT (v := .bool _) rfl rfl) ?_ | refine Lg2 rfl rfl rfl (X_pickF (v := .bool _) rfl rfl) ?_)))) | ((with_reducible refine i_index ?_); ((with_reducible refine i_gd ?_); refine Lg2 rfl rfl rfl ((X_idxS (i := k) rfl rfl (by omega)).trans (by rw [hch])) ?_)) | ((with_reducible refine i_gd ?_); refine Lo2 rfl rfl rfl rfl ?_) | (with_reducible refine W_condT rfl ?_))
          exact ⟨p - (k + 1), by omega, k + 1, rfl, by omega, by omega, rfl, rfl, val_int rfl (by omega), rfl⟩
      · obtain rfl : k = p := by omega
        by_cases he : k = s.size
        · (refine W_seq ?_; refine W_seq ?_; refine W_region ?_; refine Ls (X_move (v := .int _ _) rfl) ?_; refine Ls (X_move (v := .string _) rfl) ?_; refine Ls (X_lenStr rfl) ?_; refine Ls (X_lssF rfl rfl (by omega)) ?_; refine Ls (X_move (v := .bool _) rfl) ?_; refine Lo2 rfl rfl rfl rfl ?_; refine Lo2 rfl rfl rfl rfl ?_; refine Lo2 rfl rfl rfl rfl ?_; refine Lo2 rfl rfl rfl rfl ?_; refine Lo2 rfl rfl rfl rfl ?_; refine Lo3 rfl rfl rfl ?_; refine Lo3 rfl rfl rfl ?_; refine Lo3 rfl rfl rfl ?_; refine Lo3 rfl rfl rfl ?_; refine Lo2 rfl rfl rfl rfl ?_; refine Lo2 rfl rfl rfl rfl ?_; refine Lo3 rfl rfl rfl ?_; refine Lo3 rfl rfl rfl ?_; refine Lo3 rfl rfl rfl ?_; refine Lo3 rfl rfl rfl ?_; refine Lo2 rfl rfl rfl rfl ?_; refine Lo2 rfl rfl rfl rfl ?_; refine Lo3 rfl rfl rfl ?_; refine Lo3 rfl rfl rfl ?_; refine Lo3 rfl rfl rfl ?_; refine Lo3 rfl rfl rfl ?_; refine Lo2 rfl rfl rfl rfl ?_; refine Ls (X_pickF (v := .bool _) rfl rfl) ?_; refine L_nil ?_; refine tn ?_; refine W_condF rfl ?_; refine W_exit ?_; refine te ?_; refine te ?_)
          exact ⟨rfl, rfl, rfl, rfl, rfl⟩
        · have hw := hout (by omega)
          rw [hch, Bool.eq_false_iff, ne_eq, Qy.isWs_iff] at hw
          (refine W_seq ?_; refine W_seq ?_; refine W_region ?_; refine Ls (X_move (v := .int _ _) rfl) ?_; refine Ls (X_move (v := .string _) rfl) ?_; refine Ls (X_lenStr rfl) ?_; refine Ls (X_lssT rfl rfl (by omega)) ?_; refine Ls (X_move (v := .bool _) rfl) ?_; refine Lg2 rfl rfl rfl (X_move (v := .string _) rfl) ?_; refine Lg2 rfl rfl rfl (X_move (v := .int _ _) rfl) ?_; refine Lg2 rfl rfl rfl ((X_idxS (i := k) rfl rfl (by omega)).trans (by rw [hch])) ?_; refine Lg2 rfl rfl rfl (X_eqlF rfl rfl (by omega)) ?_; refine Lg2 rfl rfl rfl (X_move (v := .bool _) rfl) ?_; refine Lg2 rfl rfl rfl (X_move (v := .string _) rfl) ?_; refine Lg2 rfl rfl rfl (X_move (v := .int _ _) rfl) ?_; refine Lg2 rfl rfl rfl ((X_idxS (i := k) rfl rfl (by omega)).trans (by rw [hch])) ?_; refine Lg2 rfl rfl rfl (X_eqlF rfl rfl (by omega)) ?_; refine Lg2 rfl rfl rfl (X_pickF (v := .bool _) rfl rfl) ?_; refine Lg2 rfl rfl rfl (X_move (v := .bool _) rfl) ?_; refine Lg2 rfl rfl rfl (X_move (v := .string _) rfl) ?_; refine Lg2 rfl rfl rfl (X_move (v := .int _ _) rfl) ?_; refine Lg2 rfl rfl rfl ((X_idxS (i := k) rfl rfl (by omega)).trans (by rw [hch])) ?_; refine Lg2 rfl rfl rfl (X_eqlF rfl rfl (by omega)) ?_; refine Lg2 rfl rfl rfl (X_pickF (v := .bool _) rfl rfl) ?_; refine Lg2 rfl rfl rfl (X_move (v := .bool _) rfl) ?_; refine Lg2 rfl rfl rfl (X_move (v := .string _) rfl) ?_; refine Lg2 rfl rfl rfl (X_move (v := .int _ _) rfl) ?_; refine Lg2 rfl rfl rfl ((X_idxS (i := k) rfl rfl (by omega)).trans (by rw [hch])) ?_; refine Lg2 rfl rfl rfl (X_eqlF rfl rfl (by omega)) ?_; refine Lg2 rfl rfl rfl (X_pickF (v := .bool _) rfl rfl) ?_; refine Ls (X_pickT (v := .bool _) rfl rfl) ?_; refine L_nil ?_; refine tn ?_; refine W_condF rfl ?_; refine W_exit ?_; refine te ?_; refine te ?_)
          exact ⟨rfl, rfl, rfl, rfl, rfl⟩
  clear hin hout
  rintro e f w' ⟨rfl, rfl, f0, f1, f4⟩
  rw [fold f0, fold f1, fold f4]
  clear f0 f1 f4
  by_cases hend : p = s.size
  · have hdr : (sb s).drop p = [] := List.drop_eq_nil_of_le (by rw [sb_len]; omega)
    rw [hdr, show Qy.scanR [] p = ⟨0, [], p⟩ from rfl]
    (refine bx ?_; refine tn ?_; refine W_seq ?_; refine W_seq ?_; refine W_region ?_; refine Ls (X_move (v := .int _ _) rfl) ?_; refine Ls (X_move (v := .string _) rfl) ?_; refine Ls (X_lenStr rfl) ?_; refine Ls (X_eqlT rfl rfl (by omega)) ?_; refine L_nil ?_; refine tn ?_; refine W_condT rfl ?_; refine W_seq ?_; refine W_region ?_; refine Ls (X_move (v := .int _ _) rfl) ?_)
    refine Ls (X_mkTkR ⟨0, [], p⟩ rfl rfl rfl rfl) ?_
    refine L_storeW (size := 3) (l := tkR ⟨0, [], p⟩) rfl rfl rfl tkR_cell B4 rfl ?_
    intro w3 B3 hg3 hs3
    (refine L_nil ?_; refine tn ?_; refine W_ret ?_; refine tr ?_)
    refine endQ_res rfl rfl (Res.cellA (cs := tkR ⟨0, [], p⟩) inferInstance rfl (B3.range (fun j u h => by rw [Nat.zero_add]; exact h)) rfl .nil) ?_
    exact ⟨rfl, E1.then hg3 (fun g h => by cases h; omega)⟩
  · obtain ⟨c, r, hdr⟩ : ∃ c r, (sb s).drop p = c :: r := by
      cases h : (sb s).drop p with
      | nil => have := congrArg List.length h; rw [List.length_drop, sb_len, List.length_nil] at this; omega
      | cons c r => exact ⟨c, r, rfl⟩
    have hc0 : (sb s).getD p 0 = c := by
      have := getD_drop (sb s) p 0
      rw [hdr, Nat.add_zero] at this
      exact this.symm
    have hr0 : (sb s).getD (p + 1) 0 = r.getD 0 0 := by
      have := getD_drop (sb s) p 1
      rw [hdr] at this
      rw [← this]; rfl
    have hrl : r.length = s.size - p - 1 := by
      have := congrArg List.length hdr
      rw [List.length_drop, sb_len, List.length_cons] at this; omega
    obtain ⟨A, hA⟩ : ∃ A, A = (((sb s).drop p).takeWhile Qy.isLo).length := ⟨_, rfl⟩
    obtain ⟨D, hD⟩ : ∃ D, D = (((sb s).drop p).takeWhile Qy.isDi).length := ⟨_, rfl⟩
    have hinA : ∀ k, p ≤ k → k < p + A → 97 ≤ (sb s).getD k 0 ∧ (sb s).getD k 0 ≤ 122 := fun k h1 h2 => by rw [← Qy.isLo_iff]; exact runs_in _ s h1 (by rw [← hA]; exact h2)
    have houtA : p + A < s.size → ¬ (97 ≤ (sb s).getD (p + A) 0 ∧ (sb s).getD (p + A) 0 ≤ 122) := fun h => by rw [← Qy.isLo_iff, ← ne_eq, ← Bool.eq_false_iff] ; rw [hA] at h ⊢; exact run_out _ s h
    have hinD : ∀ k, p ≤ k → k < p + D → 48 ≤ (sb s).getD k 0 ∧ (sb s).getD k 0 ≤ 57 := fun k h1 h2 => by rw [← Qy.isDi_iff]; exact runs_in _ s h1 (by rw [← hD]; exact h2)
    have houtD : p + D < s.size → ¬ (48 ≤ (sb s).getD (p + D) 0 ∧ (sb s).getD (p + D) 0 ≤ 57) := fun h => by rw [← Qy.isDi_iff, ← ne_eq, ← Bool.eq_false_iff] ; rw [hD] at h ⊢; exact run_out _ s h
    have hAs : p + A ≤ s.size := by rw [hA]; exact run_le _ s hps
    have hDs : p + D ≤ s.size := by rw [hD]; exact run_le _ s hps
    have htA : ((sb s).drop p).take (p + A - p) = (c :: r).takeWhile Qy.isLo := by rw [show p + A - p = A by omega, hA, take_tw, hdr]
    have htD : ((sb s).drop p).take (p + D - p) = (c :: r).takeWhile Qy.isDi := by rw [show p + D - p = D by omega, hD, take_tw, hdr]
    have hA0 : A = 0 ↔ Qy.isLo c = false := by
      rw [hA, hdr]
      cases h : Qy.isLo c <;> simp [h]
    have hD0 : D = 0 ↔ Qy.isDi c = false := by
      rw [hD, hdr]
      cases h : Qy.isDi c <;> simp [h]
    rw [hdr]
    clear hdr hA hD
    (refine bx ?_; refine tn ?_; refine W_seq ?_; refine W_seq ?_; refine W_region ?_; refine Ls (X_move (v := .int _ _) rfl) ?_; refine Ls (X_move (v := .string _) rfl) ?_; refine Ls (X_lenStr rfl) ?_; refine Ls (X_eqlF rfl rfl (by omega)) ?_; refine L_nil ?_; refine tn ?_; refine W_condF rfl ?_; refine W_skip ?_; refine tn ?_; refine W_seq ?_; refine W_region ?_; refine Ls (X_move (v := .int _ _) rfl) ?_; refine Ls (X_assign (v := .int _ _) rfl) ?_; refine L_nil ?_; refine tn ?_; refine W_seq ?_; refine W_block ?_)
    refine W_mono (Q := fun e f w'' => e = .exit 2 ∧ w'' = w' ∧ f 0 = .string s ∧ f 1 = .int .i64 (p : Nat) ∧ f 4 = .pointer (some ⟨g4, 0, none⟩) ∧ f 5 = .int .i64 ((p + A : Nat) : Int)) ?_ ?_
    · refine W_loop (fun z f w'' => ∃ k, z = p + A - k ∧ p ≤ k ∧ k ≤ p + A ∧ w'' = w' ∧ f 0 = .string s ∧ f 1 = .int .i64 (p : Nat) ∧ f 4 = .pointer (some ⟨g4, 0, none⟩) ∧ f 5 = .int .i64 (k : Nat)) (p + A - p) ?_ ?_
      · exact ⟨p, rfl, by omega, by omega, rfl, rfl, rfl, rfl, rfl⟩
      · rintro z f w'' ⟨k, rfl, hik, hkp, rfl, f0, f1, f4, f5⟩
        rw [fold f0, fold f1, fold f4, fold f5]
        clear f0 f1 f4 f5
        obtain ⟨ch, hch⟩ : ∃ ch, (sb s).getD k 0 = ch := ⟨_, rfl⟩
        by_cases hlt : k < p + A
        · have hw := hinA k hik hlt
          rw [hch] at hw
          (refine W_seq ?_; refine W_seq ?_; refine W_region ?_; refine Ls (X_move (v := .int _ _) rfl) ?_; refine Ls (X_move (v := .string _) rfl) ?_; refine Ls (X_lenStr rfl) ?_; refine Ls (X_lssT rfl rfl (by omega)) ?_; refine Ls (X_move (v := .bool _) rfl) ?_; refine Lg2 rfl rfl rfl (X_move (v := .string _) rfl) ?_; refine Lg2 rfl rfl rfl (X_move (v := .int _ _) rfl) ?_; refine Lg2 rfl rfl rfl ((X_idxS (i := k) rfl rfl (by omega)).trans (by rw [hch])) ?_; refine Lg2 rfl rfl rfl (X_geqT rfl rfl (by omega)) ?_; refine Ls (X_pickT (v := .bool _) rfl rfl) ?_; refine Ls (X_move (v := .bool _) rfl) ?_; refine Lg2 rfl rfl rfl (X_move (v := .string _) rfl) ?_; refine Lg2 rfl rfl rfl (X_move (v := .int _ _) rfl) ?_; refine Lg2 rfl rfl rfl ((X_idxS (i := k) rfl rfl (by omega)).trans (by rw [hch])) ?_; refine Lg2 rfl rfl rfl (X_leqT rfl rfl (by omega)) ?_; refine Ls (X_pickT (v := .bool _) rfl rfl) ?_; refine L_nil ?_; refine tn ?_; refine W_condT rfl ?_; refine W_skip ?_; refine tn ?_; refine W_block ?_; refine W_region ?_; refine Ls (X_move (v := .int _ _) rfl) ?_; refine Ls (X_addi rfl rfl (by omega)) ?_; refine Ls (X_assign (v := .int _ _) rfl) ?_; refine L_nil ?_; refine bn ?_; refine tn ?_)
          exact ⟨p + A - (k + 1), by omega, k + 1, rfl, by omega, by omega, rfl, rfl, rfl, rfl, val_int rfl (by omega)⟩
        · obtain rfl : k = p + A := by omega
          by_cases he : p + A = s.size
          · (refine W_seq ?_; refine W_seq ?_; refine W_region ?_; refine Ls (X_move (v := .int _ _) rfl) ?_; refine Ls (X_move (v := .string _) rfl) ?_; refine Ls (X_lenStr rfl) ?_; refine Ls (X_lssF rfl rfl (by omega)) ?_; refine Ls (X_move (v := .bool _) rfl) ?_; refine Lo2 rfl rfl rfl rfl ?_; refine Lo2 rfl rfl rfl rfl ?_; refine Lo2 rfl rfl rfl rfl ?_; refine Lo2 rfl rfl rfl rfl ?_; refine Ls (X_pickF (v := .bool _) rfl rfl) ?_; refine Ls (X_move (v := .bool _) rfl) ?_; refine Lo2 rfl rfl rfl rfl ?_; refine Lo2 rfl rfl rfl rfl ?_; refine Lo2 rfl rfl rfl rfl ?_; refine Lo2 rfl rfl rfl rfl ?_; refine Ls (X_pickF (v := .bool _) rfl rfl) ?_; refine L_nil ?_; refine tn ?_; refine W_condF rfl ?_; refine W_exit ?_; refine te ?_; refine te ?_)
            exact ⟨rfl, rfl, rfl, rfl, rfl, rfl⟩
          · have hw := houtA (by omega)
            rw [hch] at hw
            by_cases h97 : ch < 97
            · (refine W_seq ?_; refine W_seq ?_; refine W_region ?_; refine Ls (X_move (v := .int _ _) rfl) ?_; refine Ls (X_move (v := .string _) rfl) ?_; refine Ls (X_lenStr rfl) ?_; refine Ls (X_lssT rfl rfl (by omega)) ?_; refine Ls (X_move (v := .bool _) rfl) ?_; refine Lg2 rfl rfl rfl (X_move (v := .string _) rfl) ?_; refine Lg2 rfl rfl rfl (X_move (v := .int _ _) rfl) ?_; refine Lg2 rfl rfl rfl ((X_idxS (i := p + A) rfl rfl (by omega)).trans (by rw [hch])) ?_; refine Lg2 rfl rfl rfl (X_geqF rfl rfl (by omega)) ?_; refine Ls (X_pickT (v := .bool _) rfl rfl) ?_; refine Ls (X_move (v := .bool _) rfl) ?_; refine Lo2 rfl rfl rfl rfl ?_; refine Lo2 rfl rfl rfl rfl ?_; refine Lo2 rfl rfl rfl rfl ?_; refine Lo2 rfl rfl rfl rfl ?_; refine Ls (X_pickF (v := .bool _) rfl rfl) ?_; refine L_nil ?_; refine tn ?_; refine W_condF rfl ?_; refine W_exit ?_; refine te ?_; refine te ?_)
              exact ⟨rfl, rfl, rfl, rfl, rfl, rfl⟩
            · (refine W_seq ?_; refine W_seq ?_; refine W_region ?_; refine Ls (X_move (v := .int _ _) rfl) ?_; refine Ls (X_move (v := .string _) rfl) ?_; refine Ls (X_lenStr rfl) ?_; refine Ls (X_lssT rfl rfl (by omega)) ?_; refine Ls (X_move (v := .bool _) rfl) ?_; refine Lg2 rfl rfl rfl (X_move (v := .string _) rfl) ?_; refine Lg2 rfl rfl rfl (X_move (v := .int _ _) rfl) ?_; refine Lg2 rfl rfl rfl ((X_idxS (i := p + A) rfl rfl (by omega)).trans (by rw [hch])) ?_; refine Lg2 rfl rfl rfl (X_geqT rfl rfl (by omega)) ?_; refine Ls (X_pickT (v := .bool _) rfl rfl) ?_; refine Ls (X_move (v := .bool _) rfl) ?_; refine Lg2 rfl rfl rfl (X_move (v := .string _) rfl) ?_; refine Lg2 rfl rfl rfl (X_move (v := .int _ _) rfl) ?_; refine Lg2 rfl rfl rfl ((X_idxS (i := p + A) rfl rfl (by omega)).trans (by rw [hch])) ?_; refine Lg2 rfl rfl rfl (X_leqF rfl rfl (by omega)) ?_; refine Ls (X_pickT (v := .bool _) rfl rfl) ?_; refine L_nil ?_; refine tn ?_; refine W_condF rfl ?_; refine W_exit ?_; refine te ?_; refine te ?_)
              exact ⟨rfl, rfl, rfl, rfl, rfl, rfl⟩
    clear hinA houtA
    rintro e f w'' ⟨rfl, rfl, f0, f1, f4, f5⟩
    rw [fold f0, fold f1, fold f4, fold f5]
    clear f0 f1 f4 f5
    by_cases hAz : A = 0
    · have hlo := hA0.1 hAz
      subst hAz
      clear htA hA0 hAs
      (refine bx ?_; refine tn ?_; refine W_seq ?_; refine W_seq ?_; refine W_region ?_; refine Ls (X_move (v := .int _ _) rfl) ?_; refine Ls (X_move (v := .int _ _) rfl) ?_; refine Ls (X_gtrF rfl rfl (by omega)) ?_; refine L_nil ?_; refine tn ?_; refine W_condF rfl ?_; refine W_skip ?_; refine tn ?_; refine W_seq ?_; refine W_block ?_)
      refine W_mono (Q := fun e f w' => e = .exit 4 ∧ w' = w'' ∧ f 0 = .string s ∧ f 1 = .int .i64 (p : Nat) ∧ f 4 = .pointer (some ⟨g4, 0, none⟩) ∧ f 5 = .int .i64 ((p + D : Nat) : Int)) ?_ ?_
      · refine W_loop (fun z f w' => ∃ k, z = p + D - k ∧ p ≤ k ∧ k ≤ p + D ∧ w' = w'' ∧ f 0 = .string s ∧ f 1 = .int .i64 (p : Nat) ∧ f 4 = .pointer (some ⟨g4, 0, none⟩) ∧ f 5 = .int .i64 (k : Nat)) (p + D - p) ?_ ?_
        · exact ⟨p, rfl, by omega, by omega, rfl, rfl, rfl, rfl, rfl⟩
        · rintro z f w' ⟨k, rfl, hik, hkp, rfl, f0, f1, f4, f5⟩
          rw [fold f0, fold f1, fold f4, fold f5]
          clear f0 f1 f4 f5
          obtain ⟨ch, hch⟩ : ∃ ch, (sb s).getD k 0 = ch := ⟨_, rfl⟩
          by_cases hlt : k < p + D
          · have hw := hinD k hik hlt
            rw [hch] at hw
            (refine W_seq ?_; refine W_seq ?_; refine W_region ?_; refine Ls (X_move (v := .int _ _) rfl) ?_; refine Ls (X_move (v := .string _) rfl) ?_; refine Ls (X_lenStr rfl) ?_; refine Ls (X_lssT rfl rfl (by omega)) ?_; refine Ls (X_move (v := .bool _) rfl) ?_; refine Lg2 rfl rfl rfl (X_move (v := .string _) rfl) ?_; refine Lg2 rfl rfl rfl (X_move (v := .int _ _) rfl) ?_; refine Lg2 rfl rfl rfl ((X_idxS (i := k) rfl rfl (by omega)).trans (by rw [hch])) ?_; refine Lg2 rfl rfl rfl (X_geqT rfl rfl (by omega)) ?_; refine Ls (X_pickT (v := .bool _) rfl rfl) ?_; refine Ls (X_move (v := .bool _) rfl) ?_; refine Lg2 rfl rfl rfl (X_move (v := .string _) rfl) ?_; refine Lg2 rfl rfl rfl (X_move (v := .int _ _) rfl) ?_; refine Lg2 rfl rfl rfl ((X_idxS (i := k) rfl rfl (by omega)).trans (by rw [hch])) ?_; refine Lg2 rfl rfl rfl (X_leqT rfl rfl (by omega)) ?_; refine Ls (X_pickT (v := .bool _) rfl rfl) ?_; refine L_nil ?_; refine tn ?_; refine W_condT rfl ?_; refine W_skip ?_; refine tn ?_; refine W_block ?_; refine W_region ?_; refine Ls (X_move (v := .int _ _) rfl) ?_; refine Ls (X_addi rfl rfl (by omega)) ?_; refine Ls (X_assign (v := .int _ _) rfl) ?_; refine L_nil ?_; refine bn ?_; refine tn ?_)
            exact ⟨p + D - (k + 1), by omega, k + 1, rfl, by omega, by omega, rfl, rfl, rfl, rfl, val_int rfl (by omega)⟩
          · obtain rfl : k = p + D := by omega
            by_cases he : p + D = s.size
            · (refine W_seq ?_; refine W_seq ?_; refine W_region ?_; refine Ls (X_move (v := .int _ _) rfl) ?_; refine Ls (X_move (v := .string _) rfl) ?_; refine Ls (X_lenStr rfl) ?_; refine Ls (X_lssF rfl rfl (by omega)) ?_; refine Ls (X_move (v := .bool _) rfl) ?_; refine Lo2 rfl rfl rfl rfl ?_; refine Lo2 rfl rfl rfl rfl ?_; refine Lo2 rfl rfl rfl rfl ?_; refine Lo2 rfl rfl rfl rfl ?_; refine Ls (X_pickF (v := .bool _) rfl rfl) ?_; refine Ls (X_move (v := .bool _) rfl) ?_; refine Lo2 rfl rfl rfl rfl ?_; refine Lo2 rfl rfl rfl rfl ?_; refine Lo2 rfl rfl rfl rfl ?_; refine Lo2 rfl rfl rfl rfl ?_; refine Ls (X_pickF (v := .bool _) rfl rfl) ?_; refine L_nil ?_; refine tn ?_; refine W_condF rfl ?_; refine W_exit ?_; refine te ?_; refine te ?_)
              exact ⟨rfl, rfl, rfl, rfl, rfl, rfl⟩
            · have hw := houtD (by omega)
              rw [hch] at hw
              by_cases h48 : ch < 48
              · (refine W_seq ?_; refine W_seq ?_; refine W_region ?_; refine Ls (X_move (v := .int _ _) rfl) ?_; refine Ls (X_move (v := .string _) rfl) ?_; refine Ls (X_lenStr rfl) ?_; refine Ls (X_lssT rfl rfl (by omega)) ?_; refine Ls (X_move (v := .bool _) rfl) ?_; refine Lg2 rfl rfl rfl (X_move (v := .string _) rfl) ?_; refine Lg2 rfl rfl rfl (X_move (v := .int _ _) rfl) ?_; refine Lg2 rfl rfl rfl ((X_idxS (i := p + D) rfl rfl (by omega)).trans (by rw [hch])) ?_; refine Lg2 rfl rfl rfl (X_geqF rfl rfl (by omega)) ?_; refine Ls (X_pickT (v := .bool _) rfl rfl) ?_; refine Ls (X_move (v := .bool _) rfl) ?_; refine Lo2 rfl rfl rfl rfl ?_; refine Lo2 rfl rfl rfl rfl ?_; refine Lo2 rfl rfl rfl rfl ?_; refine Lo2 rfl rfl rfl rfl ?_; refine Ls (X_pickF (v := .bool _) rfl rfl) ?_; refine L_nil ?_; refine tn ?_; refine W_condF rfl ?_; refine W_exit ?_; refine te ?_; refine te ?_)
                exact ⟨rfl, rfl, rfl, rfl, rfl, rfl⟩
              · (refine W_seq ?_; refine W_seq ?_; refine W_region ?_; refine Ls (X_move (v := .int _ _) rfl) ?_; refine Ls (X_move (v := .string _) rfl) ?_; refine Ls (X_lenStr rfl) ?_; refine Ls (X_lssT rfl rfl (by omega)) ?_; refine Ls (X_move (v := .bool _) rfl) ?_; refine Lg2 rfl rfl rfl (X_move (v := .string _) rfl) ?_; refine Lg2 rfl rfl rfl (X_move (v := .int _ _) rfl) ?_; refine Lg2 rfl rfl rfl ((X_idxS (i := p + D) rfl rfl (by omega)).trans (by rw [hch])) ?_; refine Lg2 rfl rfl rfl (X_geqT rfl rfl (by omega)) ?_; refine Ls (X_pickT (v := .bool _) rfl rfl) ?_; refine Ls (X_move (v := .bool _) rfl) ?_; refine Lg2 rfl rfl rfl (X_move (v := .string _) rfl) ?_; refine Lg2 rfl rfl rfl (X_move (v := .int _ _) rfl) ?_; refine Lg2 rfl rfl rfl ((X_idxS (i := p + D) rfl rfl (by omega)).trans (by rw [hch])) ?_; refine Lg2 rfl rfl rfl (X_leqF rfl rfl (by omega)) ?_; refine Ls (X_pickT (v := .bool _) rfl rfl) ?_; refine L_nil ?_; refine tn ?_; refine W_condF rfl ?_; refine W_exit ?_; refine te ?_; refine te ?_)
                exact ⟨rfl, rfl, rfl, rfl, rfl, rfl⟩
      clear hinD houtD
      rintro e f w' ⟨rfl, rfl, f0, f1, f4, f5⟩
      rw [fold f0, fold f1, fold f4, fold f5]
      clear f0 f1 f4 f5
      by_cases hDz : D = 0
      · have hdi := hD0.1 hDz
        subst hDz
        clear htD hD0 hDs
        by_cases h61 : c = 61
        · have hsc : Qy.scanR (c :: r) p = ⟨3, [61], p⟩ := by rw [scanR_cons, hlo, hdi, h61]; rfl
          rw [hsc]
          (refine bx ?_; refine tn ?_; refine W_seq ?_; refine W_seq ?_; refine W_region ?_; refine Ls (X_move (v := .int _ _) rfl) ?_; refine Ls (X_move (v := .int _ _) rfl) ?_; refine Ls (X_gtrF rfl rfl (by omega)) ?_; refine L_nil ?_; refine tn ?_; refine W_condF rfl ?_; refine W_skip ?_; refine tn ?_; refine W_seq ?_; refine W_seq ?_; refine W_region ?_; refine Ls (X_move (v := .string _) rfl) ?_; refine Ls (X_move (v := .int _ _) rfl) ?_; refine Ls ((X_idxS (i := p) rfl rfl (by omega)).trans (by rw [hc0])) ?_; refine Ls (X_eqlT rfl rfl (by omega)) ?_; refine L_nil ?_; refine tn ?_; refine W_condT rfl ?_; refine W_seq ?_; refine W_region ?_; refine Ls (X_move (v := .int _ _) rfl) ?_)
          refine Ls (X_mkTkR ⟨3, [61], p⟩ rfl rfl rfl rfl) ?_
          refine L_storeW (size := 3) (l := tkR ⟨3, [61], p⟩) rfl rfl rfl tkR_cell B4 rfl ?_
          intro w3 B3 hg3 hs3
          (refine L_nil ?_; refine tn ?_; refine W_ret ?_; refine tr ?_)
          refine endQ_res rfl rfl (Res.cellA (cs := tkR ⟨3, [61], p⟩) inferInstance rfl (B3.range (fun j u h => by rw [Nat.zero_add]; exact h)) rfl .nil) ?_
          exact ⟨rfl, E1.then hg3 (fun g h => by cases h; omega)⟩
        · have e61 : (c == 61) = false := by simp [h61]
          by_cases h46 : c = 46
          · have e46 : (c == 46) = true := by simp [h46]
            by_cases hrn : p + 1 < s.size
            · obtain ⟨d, r', rfl⟩ : ∃ d r', r = d :: r' := by
                cases r with
                | nil => simp at hrl; omega
                | cons d r' => exact ⟨d, r', rfl⟩
              have hr0 : (sb s).getD (p + 1) 0 = d := hr0
              by_cases hd46 : d = 46
              · have hsc : Qy.scanR (c :: d :: r') p = ⟨3, [46, 46], p⟩ := by rw [scanR_cons, hlo, hdi, e61, e46, hd46]; rfl
                rw [hsc]
                (refine bx ?_; refine tn ?_; refine W_seq ?_; refine W_seq ?_; refine W_region ?_; refine Ls (X_move (v := .int _ _) rfl) ?_; refine Ls (X_move (v := .int _ _) rfl) ?_; refine Ls (X_gtrF rfl rfl (by omega)) ?_; refine L_nil ?_; refine tn ?_; refine W_condF rfl ?_; refine W_skip ?_; refine tn ?_; refine W_seq ?_; refine W_seq ?_; refine W_region ?_; refine Ls (X_move (v := .string _) rfl) ?_; refine Ls (X_move (v := .int _ _) rfl) ?_; refine Ls ((X_idxS (i := p) rfl rfl (by omega)).trans (by rw [hc0])) ?_; refine Ls (X_eqlF rfl rfl (by omega)) ?_; refine L_nil ?_; refine tn ?_; refine W_condF rfl ?_; refine W_skip ?_; refine tn ?_; refine W_seq ?_; refine W_seq ?_; refine W_region ?_; refine Ls (X_move (v := .string _) rfl) ?_; refine Ls (X_move (v := .int _ _) rfl) ?_; refine Ls ((X_idxS (i := p) rfl rfl (by omega)).trans (by rw [hc0])) ?_; refine Ls (X_eqlT rfl rfl (by omega)) ?_; refine Ls (X_move (v := .bool _) rfl) ?_; refine Lg2 rfl rfl rfl (X_move (v := .int _ _) rfl) ?_; refine Lg2 rfl rfl rfl (X_addi rfl rfl (by omega)) ?_; refine Lg2 rfl rfl rfl (X_move (v := .string _) rfl) ?_; refine Lg2 rfl rfl rfl (X_lenStr rfl) ?_; refine Lg2 rfl rfl rfl (X_lssT rfl rfl (by omega)) ?_; refine Ls (X_pickT (v := .bool _) rfl rfl) ?_; refine Ls (X_move (v := .bool _) rfl) ?_; refine Lg2 rfl rfl rfl (X_move (v := .string _) rfl) ?_; refine Lg2 rfl rfl rfl (X_move (v := .int _ _) rfl) ?_; refine Lg2 rfl rfl rfl (X_addi rfl rfl (by omega)) ?_; refine Lg2 rfl rfl rfl ((X_idxS (i := p + 1) rfl rfl (by omega)).trans (by rw [hr0])) ?_; refine Lg2 rfl rfl rfl (X_eqlT rfl rfl (by omega)) ?_; refine Ls (X_pickT (v := .bool _) rfl rfl) ?_; refine L_nil ?_; refine tn ?_; refine W_condT rfl ?_; refine W_seq ?_; refine W_region ?_; refine Ls (X_move (v := .int _ _) rfl) ?_)
                refine Ls (X_mkTkR ⟨3, [46, 46], p⟩ rfl rfl rfl rfl) ?_
                refine L_storeW (size := 3) (l := tkR ⟨3, [46, 46], p⟩) rfl rfl rfl tkR_cell B4 rfl ?_
                intro w3 B3 hg3 hs3
                (refine L_nil ?_; refine tn ?_; refine W_ret ?_; refine tr ?_)
                refine endQ_res rfl rfl (Res.cellA (cs := tkR ⟨3, [46, 46], p⟩) inferInstance rfl (B3.range (fun j u h => by rw [Nat.zero_add]; exact h)) rfl .nil) ?_
                exact ⟨rfl, E1.then hg3 (fun g h => by cases h; omega)⟩
              · have hsc : Qy.scanR (c :: d :: r') p = ⟨4, [], p⟩ := by
                  rw [scanR_cons, hlo, hdi, e61, e46]
                  have : ((d :: r').head? == some 46) = false := by simp [hd46]
                  rw [this]; rfl
                rw [hsc]
                (refine bx ?_; refine tn ?_; refine W_seq ?_; refine W_seq ?_; refine W_region ?_; refine Ls (X_move (v := .int _ _) rfl) ?_; refine Ls (X_move (v := .int _ _) rfl) ?_; refine Ls (X_gtrF rfl rfl (by omega)) ?_; refine L_nil ?_; refine tn ?_; refine W_condF rfl ?_; refine W_skip ?_; refine tn ?_; refine W_seq ?_; refine W_seq ?_; refine W_region ?_; refine Ls (X_move (v := .string _) rfl) ?_; refine Ls (X_move (v := .int _ _) rfl) ?_; refine Ls ((X_idxS (i := p) rfl rfl (by omega)).trans (by rw [hc0])) ?_; refine Ls (X_eqlF rfl rfl (by omega)) ?_; refine L_nil ?_; refine tn ?_; refine W_condF rfl ?_; refine W_skip ?_; refine tn ?_; refine W_seq ?_; refine W_seq ?_; refine W_region ?_; refine Ls (X_move (v := .string _) rfl) ?_; refine Ls (X_move (v := .int _ _) rfl) ?_; refine Ls ((X_idxS (i := p) rfl rfl (by omega)).trans (by rw [hc0])) ?_; refine Ls (X_eqlT rfl rfl (by omega)) ?_; refine Ls (X_move (v := .bool _) rfl) ?_; refine Lg2 rfl rfl rfl (X_move (v := .int _ _) rfl) ?_; refine Lg2 rfl rfl rfl (X_addi rfl rfl (by omega)) ?_; refine Lg2 rfl rfl rfl (X_move (v := .string _) rfl) ?_; refine Lg2 rfl rfl rfl (X_lenStr rfl) ?_; refine Lg2 rfl rfl rfl (X_lssT rfl rfl (by omega)) ?_; refine Ls (X_pickT (v := .bool _) rfl rfl) ?_; refine Ls (X_move (v := .bool _) rfl) ?_; refine Lg2 rfl rfl rfl (X_move (v := .string _) rfl) ?_; refine Lg2 rfl rfl rfl (X_move (v := .int _ _) rfl) ?_; refine Lg2 rfl rfl rfl (X_addi rfl rfl (by omega)) ?_; refine Lg2 rfl rfl rfl ((X_idxS (i := p + 1) rfl rfl (by omega)).trans (by rw [hr0])) ?_; refine Lg2 rfl rfl rfl (X_eqlF rfl rfl (by omega)) ?_; refine Ls (X_pickT (v := .bool _) rfl rfl) ?_; refine L_nil ?_; refine tn ?_; refine W_condF rfl ?_; refine W_skip ?_; refine tn ?_; refine W_seq ?_; refine W_region ?_; refine Ls (X_move (v := .int _ _) rfl) ?_)
                refine Ls (X_mkTkR ⟨4, [], p⟩ rfl rfl rfl rfl) ?_
                refine L_storeW (size := 3) (l := tkR ⟨4, [], p⟩) rfl rfl rfl tkR_cell B4 rfl ?_
                intro w3 B3 hg3 hs3
                (refine L_nil ?_; refine tn ?_; refine W_ret ?_)
                refine endQ_res rfl rfl (Res.cellA (cs := tkR ⟨4, [], p⟩) inferInstance rfl (B3.range (fun j u h => by rw [Nat.zero_add]; exact h)) rfl .nil) ?_
                exact ⟨rfl, E1.then hg3 (fun g h => by cases h; omega)⟩
            · obtain rfl : r = [] := List.eq_nil_of_length_eq_zero (by omega)
              have hsc : Qy.scanR [c] p = ⟨4, [], p⟩ := by rw [scanR_cons, hlo, hdi, e61, e46]; rfl
              rw [hsc]
              (refine bx ?_; refine tn ?_; refine W_seq ?_; refine W_seq ?_; refine W_region ?_; refine Ls (X_move (v := .int _ _) rfl) ?_; refine Ls (X_move (v := .int _ _) rfl) ?_; refine Ls (X_gtrF rfl rfl (by omega)) ?_; refine L_nil ?_; refine tn ?_; refine W_condF rfl ?_; refine W_skip ?_; refine tn ?_; refine W_seq ?_; refine W_seq ?_; refine W_region ?_; refine Ls (X_move (v := .string _) rfl) ?_; refine Ls (X_move (v := .int _ _) rfl) ?_; refine Ls ((X_idxS (i := p) rfl rfl (by omega)).trans (by rw [hc0])) ?_; refine Ls (X_eqlF rfl rfl (by omega)) ?_; refine L_nil ?_; refine tn ?_; refine W_condF rfl ?_; refine W_skip ?_; refine tn ?_; refine W_seq ?_; refine W_seq ?_; refine W_region ?_; refine Ls (X_move (v := .string _) rfl) ?_; refine Ls (X_move (v := .int _ _) rfl) ?_; refine Ls ((X_idxS (i := p) rfl rfl (by omega)).trans (by rw [hc0])) ?_; refine Ls (X_eqlT rfl rfl (by omega)) ?_; refine Ls (X_move (v := .bool _) rfl) ?_; refine Lg2 rfl rfl rfl (X_move (v := .int _ _) rfl) ?_; refine Lg2 rfl rfl rfl (X_addi rfl rfl (by omega)) ?_; refine Lg2 rfl rfl rfl (X_move (v := .string _) rfl) ?_; refine Lg2 rfl rfl rfl (X_lenStr rfl) ?_; refine Lg2 rfl rfl rfl (X_lssF rfl rfl (by omega)) ?_; refine Ls (X_pickT (v := .bool _) rfl rfl) ?_; refine Ls (X_move (v := .bool _) rfl) ?_; refine Lo2 rfl rfl rfl rfl ?_; refine Lo2 rfl rfl rfl rfl ?_; refine Lo2 rfl rfl rfl rfl ?_; refine Lo2 rfl rfl rfl rfl ?_; refine Lo2 rfl rfl rfl rfl ?_; refine Ls (X_pickF (v := .bool _) rfl rfl) ?_; refine L_nil ?_; refine tn ?_; refine W_condF rfl ?_; refine W_skip ?_; refine tn ?_; refine W_seq ?_; refine W_region ?_; refine Ls (X_move (v := .int _ _) rfl) ?_)
              refine Ls (X_mkTkR ⟨4, [], p⟩ rfl rfl rfl rfl) ?_
              refine L_storeW (size := 3) (l := tkR ⟨4, [], p⟩) rfl rfl rfl tkR_cell B4 rfl ?_
              intro w3 B3 hg3 hs3
              (refine L_nil ?_; refine tn ?_; refine W_ret ?_)
              refine endQ_res rfl rfl (Res.cellA (cs := tkR ⟨4, [], p⟩) inferInstance rfl (B3.range (fun j u h => by rw [Nat.zero_add]; exact h)) rfl .nil) ?_
              exact ⟨rfl, E1.then hg3 (fun g h => by cases h; omega)⟩
          · have e46 : (c == 46) = false := by simp [h46]
            have hsc : Qy.scanR (c :: r) p = ⟨4, [], p⟩ := by rw [scanR_cons, hlo, hdi, e61, e46]; rfl
            rw [hsc]
            (refine bx ?_; refine tn ?_; refine W_seq ?_; refine W_seq ?_; refine W_region ?_; refine Ls (X_move (v := .int _ _) rfl) ?_; refine Ls (X_move (v := .int _ _) rfl) ?_; refine Ls (X_gtrF rfl rfl (by omega)) ?_; refine L_nil ?_; refine tn ?_; refine W_condF rfl ?_; refine W_skip ?_; refine tn ?_; refine W_seq ?_; refine W_seq ?_; refine W_region ?_; refine Ls (X_move (v := .string _) rfl) ?_; refine Ls (X_move (v := .int _ _) rfl) ?_; refine Ls ((X_idxS (i := p) rfl rfl (by omega)).trans (by rw [hc0])) ?_; refine Ls (X_eqlF rfl rfl (by omega)) ?_; refine L_nil ?_; refine tn ?_; refine W_condF rfl ?_; refine W_skip ?_; refine tn ?_; refine W_seq ?_; refine W_seq ?_; refine W_region ?_; refine Ls (X_move (v := .string _) rfl) ?_; refine Ls (X_move (v := .int _ _) rfl) ?_; refine Ls ((X_idxS (i := p) rfl rfl (by omega)).trans (by rw [hc0])) ?_; refine Ls (X_eqlF rfl rfl (by omega)) ?_; refine Ls (X_move (v := .bool _) rfl) ?_; refine Lo2 rfl rfl rfl rfl ?_; refine Lo2 rfl rfl rfl rfl ?_; refine Lo2 rfl rfl rfl rfl ?_; refine Lo2 rfl rfl rfl rfl ?_; refine Lo2 rfl rfl rfl rfl ?_; refine Ls (X_pickF (v := .bool _) rfl rfl) ?_; refine Ls (X_move (v := .bool _) rfl) ?_; refine Lo2 rfl rfl rfl rfl ?_; refine Lo2 rfl rfl rfl rfl ?_; refine Lo2 rfl rfl rfl rfl ?_; refine Lo2 rfl rfl rfl rfl ?_; refine Lo2 rfl rfl rfl rfl ?_; refine Ls (X_pickF (v := .bool _) rfl rfl) ?_; refine L_nil ?_; refine tn ?_; refine W_condF rfl ?_; refine W_skip ?_; refine tn ?_; refine W_seq ?_; refine W_region ?_; refine Ls (X_move (v := .int _ _) rfl) ?_)
            refine Ls (X_mkTkR ⟨4, [], p⟩ rfl rfl rfl rfl) ?_
            refine L_storeW (size := 3) (l := tkR ⟨4, [], p⟩) rfl rfl rfl tkR_cell B4 rfl ?_
            intro w3 B3 hg3 hs3
            (refine L_nil ?_; refine tn ?_; refine W_ret ?_)
            refine endQ_res rfl rfl (Res.cellA (cs := tkR ⟨4, [], p⟩) inferInstance rfl (B3.range (fun j u h => by rw [Nat.zero_add]; exact h)) rfl .nil) ?_
            exact ⟨rfl, E1.then hg3 (fun g h => by cases h; omega)⟩
      · have hdi : Qy.isDi c = true := by
          cases h : Qy.isDi c
          · exact (hDz (hD0.2 h)).elim
          · rfl
        have hsc : Qy.scanR (c :: r) p = ⟨2, (c :: r).takeWhile Qy.isDi, p⟩ := by rw [scanR_cons, hlo, hdi]; rfl
        rw [hsc]
        (refine bx ?_; refine tn ?_; refine W_seq ?_; refine W_seq ?_; refine W_region ?_; refine Ls (X_move (v := .int _ _) rfl) ?_; refine Ls (X_move (v := .int _ _) rfl) ?_; refine Ls (X_gtrT rfl rfl (by omega)) ?_; refine L_nil ?_; refine tn ?_; refine W_condT rfl ?_; refine W_seq ?_; refine W_region ?_; refine Ls (X_move (v := .string _) rfl) ?_; refine Ls (X_move (v := .int _ _) rfl) ?_; refine Ls (X_move (v := .int _ _) rfl) ?_)
        refine Ls (X_slcAB p (p + D) rfl rfl rfl (by omega) (by omega) htD) ?_
        (refine Ls (X_move (v := .int _ _) rfl) ?_)
        refine Ls (X_mkTkR ⟨2, (c :: r).takeWhile Qy.isDi, p⟩ rfl rfl rfl rfl) ?_
        refine L_storeW (size := 3) (l := tkR ⟨2, (c :: r).takeWhile Qy.isDi, p⟩) rfl rfl rfl tkR_cell B4 rfl ?_
        intro w3 B3 hg3 hs3
        (refine L_nil ?_; refine tn ?_; refine W_ret ?_; refine tr ?_)
        refine endQ_res rfl rfl (Res.cellA (cs := tkR ⟨2, (c :: r).takeWhile Qy.isDi, p⟩) inferInstance rfl (B3.range (fun j u h => by rw [Nat.zero_add]; exact h)) rfl .nil) ?_
        exact ⟨rfl, E1.then hg3 (fun g h => by cases h; omega)⟩
    · have hlo : Qy.isLo c = true := by
        cases h : Qy.isLo c
        · exact (hAz (hA0.2 h)).elim
        · rfl
      have hsc : Qy.scanR (c :: r) p = ⟨1, (c :: r).takeWhile Qy.isLo, p⟩ := by rw [scanR_cons, hlo]; rfl
      rw [hsc]
      (refine bx ?_; refine tn ?_; refine W_seq ?_; refine W_seq ?_; refine W_region ?_; refine Ls (X_move (v := .int _ _) rfl) ?_; refine Ls (X_move (v := .int _ _) rfl) ?_; refine Ls (X_gtrT rfl rfl (by omega)) ?_; refine L_nil ?_; refine tn ?_; refine W_condT rfl ?_; refine W_seq ?_; refine W_region ?_; refine Ls (X_move (v := .string _) rfl) ?_; refine Ls (X_move (v := .int _ _) rfl) ?_; refine Ls (X_move (v := .int _ _) rfl) ?_)
      refine Ls (X_slcAB p (p + A) rfl rfl rfl (by omega) (by omega) htA) ?_
      (refine Ls (X_move (v := .int _ _) rfl) ?_)
      refine Ls (X_mkTkR ⟨1, (c :: r).takeWhile Qy.isLo, p⟩ rfl rfl rfl rfl) ?_
      refine L_storeW (size := 3) (l := tkR ⟨1, (c :: r).takeWhile Qy.isLo, p⟩) rfl rfl rfl tkR_cell B4 rfl ?_
      intro w3 B3 hg3 hs3
      (refine L_nil ?_; refine tn ?_; refine W_ret ?_; refine tr ?_)
      refine endQ_res rfl rfl (Res.cellA (cs := tkR ⟨1, (c :: r).takeWhile Qy.isLo, p⟩) inferInstance rfl (B3.range (fun j u h => by rw [Nat.zero_add]; exact h)) rfl .nil) ?_
      exact ⟨rfl, E1.then hg3 (fun g h => by cases h; omega)⟩
end Go.Proofs.YtipnliodpmjhcaaDoor

/- The reference's list of tokens. -/
namespace Go.Proofs.YtipnliodpmjhcaaDoor
open Go.RowKit Go.Proofs.K

def toksC (l : List Qy.Tok) : List Value := (l.map tkR).flatten
theorem toksC_app (a b : List Qy.Tok) : toksC (a ++ b) = toksC a ++ toksC b := by simp [toksC]
theorem toksC_len (l : List Qy.Tok) : (toksC l).length = l.length * 3 := by
  induction l with
  | nil => rfl
  | cons t l ih => show (tkR t ++ toksC l).length = _; rw [List.length_append, ih, List.length_cons, show (tkR t).length = 3 from rfl]; omega
theorem toksC_one (t : Qy.Tok) : toksC [t] = tkR t := by simp [toksC]
theorem rtokens (s : ByteArray) (hs : s.size ≤ 1000000) (w : World) :
    Calls Tryd.prog 47 #[.string s] w fun e w' => ∃ v, e = .returned v ∧ Ext w w' ∧ w'.ownsRow w.heap.size 84 3 v (Qy.toks (sb s) 0).length (toksC (Qy.toks (sb s) 0)) := by
  refine calls_W Tryd.func47 rfl Tryd.ntmps47 rfl ?_
  (refine W_seq ?_; refine W_region ?_; refine Ls (X_assign (v := .slice _ _ _) rfl) ?_; refine L_nil ?_; refine tn ?_; refine W_seq ?_; refine W_region ?_)
  refine L_lit0 (size := 3) ?_
  intro q w1 E1 hs1 o1
  (refine Ls (X_assign (v := q) rfl) ?_; refine Ls (X_assign (v := .int _ _) rfl) ?_; refine L_nil ?_; refine tn ?_; refine W_block ?_)
  refine W_loop (fun z f w' => ∃ (i : Nat) (pre : List Qy.Tok) (v3 : Value), z = s.size + 1 - i ∧ i ≤ s.size ∧ pre.length ≤ i ∧ Qy.toks (sb s) 0 = pre ++ Qy.toks ((sb s).drop i) i ∧ Ext w w' ∧ w'.ownsRow w.heap.size 84 3 v3 pre.length (toksC pre) ∧
    f 0 = .string s ∧ f 3 = v3 ∧ f 4 = .int .i64 (i : Nat)) (s.size + 1) ?_ ?_
  · exact ⟨0, [], q, rfl, by omega, Nat.le_refl _, rfl, E1, o1, rfl, rfl, rfl⟩
  · clear o1 E1
    rintro z f w1 ⟨i, pre, v3, rfl, hi, hpl, hT, E1, o1, f0, f3, f4⟩
    rw [fold f0, fold f3, fold f4]
    clear f0 f3 f4
    have hv3 := own_cell3 o1
    have hsc := rscan s hs i hi w1
    have hfit := Qy.scan_fits ((sb s).drop i) i
    have hpos := Qy.scan_pos ((sb s).drop i) i
    have heq := Qy.toks_eq ((sb s).drop i) i
    have hoff := Qy.scan_off ((sb s).drop i) i
    rw [List.length_drop, sb_len] at hfit
    rw [List.drop_drop] at heq
    obtain ⟨t, ht⟩ : ∃ t, t = Qy.scan ((sb s).drop i) i := ⟨_, rfl⟩
    obtain ⟨u, hu⟩ : ∃ u, u = Qy.ws ((sb s).drop i) := ⟨_, rfl⟩
    rw [← ht] at hsc hpos
    rw [← ht, ← hu] at hfit hoff heq
    clear ht hu
    (refine W_block ?_; refine W_seq ?_; refine W_region ?_; refine Ls (X_move (v := .string _) rfl) ?_; refine Ls (X_move (v := .int _ _) rfl) ?_)
    refine L_fv rfl (hsc) ?_
    intro w2 E2
    refine L_alloc ?_
    intro g5 w3 B5 hg5 E3 hs3
    refine L_storeW (size := 3) (l := tkR t) rfl rfl rfl tkR_cell B5 rfl ?_
    intro w4 C5 hg6 hs4
    have E24 : Ext w2 w4 := E3.then hg6 (fun g h => by cases h; omega)
    have E14 := E2.trans E24
    (refine L_nil ?_; refine tn ?_; refine W_seq ?_; refine W_region ?_; refine Ls (X_move (v := v3) rfl) ?_; refine Ls (X_ldW (size := 3) rfl C5 rfl) ?_)
    refine L_lits (zs' := [tkR t]) (cs := tkR t) (Parts.cons (c := tkR t) (z := [.int .i64 0, .string ByteArray.empty, .int .i64 0]) rfl rfl rfl rfl (Parts.nil _)) rfl (by simp) rfl rfl ?_
    intro q5 w5 r5 E5 hs5 _ _
    have hz5 := (E14.trans E5).size
    have hz1 := E1.size
    refine L_append (v := v3) (u := q5) rfl rfl (own_ext o1 (E14.trans E5)) r5 tkR_cell (by omega) (by omega) (by omega) ?_
    intro v6 w6 o6 hg6' _
    have E6 : Ext w w6 := (E1.trans (E14.trans E5)).then hg6' (fun g h => (o1.lt g h).1)
    have o6 : w6.ownsRow w.heap.size 84 3 v6 (pre ++ [t]).length (toksC (pre ++ [t])) := by
      rw [toksC_app, toksC_one, List.length_append]; exact o6
    have hv6 := own_cell3 o6
    have hne : v3.ownBlock ≠ some g5 := fun h => by
      have := (o1.lt g5 h).2
      have := E2.size
      omega
    have C6 := (C5.ext E5).grown hg6' hne
    by_cases h0 : t.kind = 0
    · have hk : ((t.kind == 0) || (t.kind == 4)) = true := by simp [h0]
      rw [hk] at heq
      (refine Ls (X_assign (v := v6) rfl) ?_; refine L_nil ?_; refine tn ?_; refine W_seq ?_; refine W_seq ?_; refine W_region ?_; refine Ls (X_fld rfl) ?_; refine Ls (X_ld (v := .int .i64 (t.kind : Nat)) rfl C6 rfl) ?_; refine Ls (X_eqlT rfl rfl (by omega)) ?_; refine Ls (X_move (v := .bool _) rfl) ?_; refine Lo2 rfl rfl rfl rfl ?_; refine Lo2 rfl rfl rfl rfl ?_; refine Lo2 rfl rfl rfl rfl ?_; refine Ls (X_pickT (v := .bool _) rfl rfl) ?_; refine L_nil ?_; refine tn ?_; refine W_condT rfl ?_; refine W_seq ?_; refine W_region ?_; refine Ls (X_move (v := v6) rfl) ?_; refine Ls (X_assign (v := v6) rfl) ?_; refine L_nil ?_; refine tn ?_; refine W_ret ?_; refine tr ?_; refine br ?_; refine tr ?_; refine br ?_)
      refine endQ_ret1 rfl rfl (v := v6) rfl ⟨v6, rfl, E6, ?_⟩
      rw [hT, heq]; exact o6
    · by_cases h4 : t.kind = 4
      · have hk : ((t.kind == 0) || (t.kind == 4)) = true := by simp [h4]
        rw [hk] at heq
        (refine Ls (X_assign (v := v6) rfl) ?_; refine L_nil ?_; refine tn ?_; refine W_seq ?_; refine W_seq ?_; refine W_region ?_; refine Ls (X_fld rfl) ?_; refine Ls (X_ld (v := .int .i64 (t.kind : Nat)) rfl C6 rfl) ?_; refine Ls (X_eqlF rfl rfl (by omega)) ?_; refine Ls (X_move (v := .bool _) rfl) ?_; refine Lg2 rfl rfl rfl (X_fld rfl) ?_; refine Lg2 rfl rfl rfl (X_ld (v := .int .i64 (t.kind : Nat)) rfl C6 rfl) ?_; refine Lg2 rfl rfl rfl (X_eqlT rfl rfl (by omega)) ?_; refine Ls (X_pickF (v := .bool _) rfl rfl) ?_; refine L_nil ?_; refine tn ?_; refine W_condT rfl ?_; refine W_seq ?_; refine W_region ?_; refine Ls (X_move (v := v6) rfl) ?_; refine Ls (X_assign (v := v6) rfl) ?_; refine L_nil ?_; refine tn ?_; refine W_ret ?_; refine tr ?_; refine br ?_; refine tr ?_; refine br ?_)
        refine endQ_ret1 rfl rfl (v := v6) rfl ⟨v6, rfl, E6, ?_⟩
        rw [hT, heq]; exact o6
      · have hk : ((t.kind == 0) || (t.kind == 4)) = false := by simp [h0, h4]
        have hp := hpos hk
        rw [hk] at heq
        have heq : Qy.toks ((sb s).drop i) i = t :: Qy.toks ((sb s).drop (i + (u + t.text.length))) (i + u + t.text.length) := heq
        (refine Ls (X_assign (v := v6) rfl) ?_; refine L_nil ?_; refine tn ?_; refine W_seq ?_; refine W_seq ?_; refine W_region ?_; refine Ls (X_fld rfl) ?_; refine Ls (X_ld (v := .int .i64 (t.kind : Nat)) rfl C6 rfl) ?_; refine Ls (X_eqlF rfl rfl (by omega)) ?_; refine Ls (X_move (v := .bool _) rfl) ?_; refine Lg2 rfl rfl rfl (X_fld rfl) ?_; refine Lg2 rfl rfl rfl (X_ld (v := .int .i64 (t.kind : Nat)) rfl C6 rfl) ?_; refine Lg2 rfl rfl rfl (X_eqlF rfl rfl (by omega)) ?_; refine Ls (X_pickF (v := .bool _) rfl rfl) ?_; refine L_nil ?_; refine tn ?_; refine W_condF rfl ?_; refine W_skip ?_; refine tn ?_; refine W_region ?_; refine Ls (X_fld rfl) ?_; refine Ls (X_ld (v := .int .i64 (t.off : Nat)) rfl C6 rfl) ?_; refine Ls (X_fld rfl) ?_; refine Ls (X_ld (v := .string (strB t.text)) rfl C6 rfl) ?_; refine Ls ((X_lenStr rfl).trans (by rw [strB_size])) ?_; refine Ls (X_addi rfl rfl (by omega)) ?_; refine Ls (X_assign (v := .int _ _) rfl) ?_; refine L_nil ?_; refine bn ?_; refine tn ?_)
        refine ⟨s.size + 1 - (i + u + t.text.length), by omega, i + u + t.text.length, pre ++ [t], v6, rfl, by omega, by simp; omega, ?_, E6, o6, rfl, rfl, val_int rfl (by omega)⟩
        rw [hT, heq, Nat.add_assoc]; simp
end Go.Proofs.YtipnliodpmjhcaaDoor

/- The reference's parser: its state, accept, fail, unexpected, expect. -/
namespace Go.Proofs.YtipnliodpmjhcaaDoor
open Go.RowKit Go.Proofs.K

structure TokOk (t : Qy.Tok) : Prop where
  b : ∀ c ∈ t.text, c < 256
  d : t.kind = 2 → ∀ c ∈ t.text, Qy.isDi c = true
  l : t.text.length ≤ 1000000
  k : t.kind ≤ 4
theorem scan_tokOk {l : List Nat} (hb : ∀ c ∈ l, c < 256) (hl : l.length ≤ 1000000) (i : Nat) : TokOk (Qy.scan l i) := by
  refine ⟨tok_b hb i, fun h2 => ?_, ?_, ?_⟩
  · have := Qy.scan_kinds l i
    rcases this with ⟨k, _⟩ | ⟨k, _⟩ | ⟨_, k, _⟩ | ⟨k, _⟩ | ⟨k, _⟩
    · omega
    · omega
    · exact k
    · omega
    · omega
  · have := Qy.scan_fits l i
    omega
  · have := Qy.scan_kinds l i
    rcases this with ⟨k, _⟩ | ⟨k, _⟩ | ⟨k, _⟩ | ⟨k, _⟩ | ⟨k, _⟩ <;> omega
theorem toksF_tokOk : ∀ (n : Nat) (l : List Nat) (i : Nat), (∀ c ∈ l, c < 256) → l.length ≤ 1000000 → ∀ t ∈ Qy.toksF n l i, TokOk t
  | 0, _, _, _, _ => fun t h => by cases h
  | n + 1, l, i, hb, hl => by
    intro t ht
    unfold Qy.toksF at ht
    cases hk : ((Qy.scan l i).kind == 0 || (Qy.scan l i).kind == 4)
    · rw [hk] at ht
      rcases List.mem_cons.1 ht with rfl | ht
      · exact scan_tokOk hb hl i
      · rw [Qy.drop_ws, List.drop_drop] at ht
        exact toksF_tokOk n _ _ (fun c hc => hb c (List.mem_of_mem_drop hc)) (by rw [List.length_drop]; omega) t ht
    · rw [hk] at ht
      simp at ht
      rw [ht]; exact scan_tokOk hb hl i
theorem toks_tokOk {l : List Nat} (hb : ∀ c ∈ l, c < 256) (hl : l.length ≤ 1000000) (i : Nat) : ∀ t ∈ Qy.toks l i, TokOk t := toksF_tokOk _ l i hb hl
/-- a parser's cells -/
def rpC (v : Value) (off err : Nat) : List Value := [v, .int .i64 (off : Nat), .int .i64 (err : Nat)]
/-- what a parser's block holds: the tokens' row lies below it -/
def RSt (w : World) (g lo hi N : Nat) (st : PS) : Prop :=
  ∃ (v : Value) (l : List Qy.Tok) (off err : Nat), Blk w g 78 (rpC v off err) ∧ Row w lo hi 3 v l.length (toksC l) ∧ hi ≤ g ∧ Qy.EW N l ∧ (∀ t ∈ l, TokOk t) ∧ match st with
    | .ok m => off = 0 ∧ err = 0 ∧ l = m
    | .error e => off = e.1 ∧ err = e.2 ∧ e.2 ≠ 0
theorem RSt.lt {w : World} {g lo hi N : Nat} {st : PS} (h : RSt w g lo hi N st) : g < w.heap.size := by obtain ⟨_, _, _, _, h, _⟩ := h; exact h.lt
theorem RSt.ext {w w' : World} {g lo hi N : Nat} {st : PS} (h : RSt w g lo hi N st) (E : Ext w w') : RSt w' g lo hi N st := by
  obtain ⟨v, l, off, err, h1, h2, h3⟩ := h
  exact ⟨v, l, off, err, h1.ext E, h2.ext E, h3⟩
/-- a write to a block made later -/
theorem RSt.above {w w' : World} {g lo hi N g' : Nat} {st : PS} (h : RSt w g lo hi N st) (hg : w.grownBy w' (some g')) (hgg : g < g') : RSt w' g lo hi N st := by
  obtain ⟨v, l, off, err, h1, h2, h3, h4⟩ := h
  exact ⟨v, l, off, err, h1.grown hg (by simp; omega), h2.grown hg (fun q e => by cases e; exact .inr (by omega)), h3, h4⟩
section
variable {P : Program} {n : NN} {f : Fr} {w : World} {d : Option Tmp} {t ty ty' e : TypeId} {pos : String} {af : Array Edge} {g : Option (Nat × Bool)} {x y : Operand}
theorem X_neqSB {a b : ByteArray} {q : Bool} (hx : ev n f x = .string a) (hy : ev n f y = .string b) (h : (!decide (a = b)) = q) : X P n ⟨d, .binOp .neq ty x y ty', t, pos, af, g⟩ f w = .ok (.value (.bool q)) w := by
  subst h
  have e : (binOp .neq ty (.string a) (.string b)).run P w = .ok (.bool (!decide (a = b))) w := by
    have h : (a.toList == b.toList) = decide (a = b) := by
      rw [Bool.eq_iff_iff, beq_iff_eq, decide_eq_true_iff]
      simp [ByteArray.toList_eq, ByteArray.ext_iff]
    simp [binOp, Op.stringOp, h]
  simp [X, execOp, hx, hy, eqGuard_at_string, e, Result.andThen]
end
theorem toksC_first {t : Qy.Tok} {r : List Qy.Tok} : (toksC (t :: r))[0]? = some (.int .i64 (t.kind : Nat)) ∧ (toksC (t :: r))[1]? = some (.string (strB t.text)) ∧ (toksC (t :: r))[2]? = some (.int .i64 (t.off : Nat)) := ⟨rfl, rfl, rfl⟩
theorem toksC_tail {t : Qy.Tok} {r : List Qy.Tok} : ((toksC (t :: r)).drop (1 * 3)).take (((t :: r).length - 1) * 3) = toksC r := by
  rw [show (toksC (t :: r)).drop (1 * 3) = toksC r from rfl, List.length_cons, Nat.add_sub_cancel]
  exact List.take_of_length_le (by rw [toksC_len]; exact Nat.le_refl _)
theorem rpC_cell {v : Value} {off err : Nat} (h : v.oneCell' = true) : ∀ u ∈ rpC v off err, u.oneCell' = true := by
  intro u hu; simp [rpC] at hu; rcases hu with rfl | rfl | rfl
  · exact h
  · rfl
  · rfl
theorem raccept (g lo hi N : Nat) (st : PS) (x : List Nat) (hx : x ≠ []) (hb : ∀ c ∈ x, c < 256) (w : World) (h : RSt w g lo hi N st) :
    Calls Tryd.prog 48 #[.pointer (some ⟨g, 0, none⟩), .string (strB x)] w fun e w' => ∃ b : Bool, e = .returned (.bool b) ∧ w.grownBy w' (some g) ∧
      (b = true ∧ (∃ l r, st = .ok l ∧ Qy.acc x l = some r ∧ RSt w' g lo hi N (.ok r)) ∨ b = false ∧ RSt w' g lo hi N st ∧ ∀ l, st = .ok l → Qy.acc x l = none) := by
  refine calls_W Tryd.func48 rfl Tryd.ntmps48 rfl ?_
  obtain ⟨v, l, off, err, hB, hr, hg, hE, hT, hst⟩ := id h
  have hG0 : w.grownBy w (some g) := (Ext.refl w).row _
  cases st with
  | error e =>
    obtain ⟨h1, h2, h3⟩ := hst
    have he : err ≠ 0 := by omega
    (refine W_seq ?_; refine W_region ?_; refine Ls (X_assign (v := .bool _) rfl) ?_; refine L_nil ?_; refine tn ?_; refine W_seq ?_; refine W_seq ?_; refine W_region ?_; refine Ls (X_move (v := .pointer _) rfl) ?_; refine Ls (X_nil rfl) ?_; refine Ls (X_fld rfl) ?_; refine Ls (X_ld (v := .int .i64 (err : Nat)) rfl hB rfl) ?_; refine Ls (X_neqT rfl rfl (by omega)) ?_; refine Ls (X_move (v := .bool _) rfl) ?_; refine Lo2 rfl rfl rfl rfl ?_; refine Lo2 rfl rfl rfl rfl ?_; refine Lo2 rfl rfl rfl rfl ?_; refine Lo2 rfl rfl rfl rfl ?_; refine Lo2 rfl rfl rfl rfl ?_; refine Lo2 rfl rfl rfl rfl ?_; refine Lo2 rfl rfl rfl rfl ?_; refine Lo2 rfl rfl rfl rfl ?_; refine Lo2 rfl rfl rfl rfl ?_; refine Ls (X_pickT (v := .bool _) rfl rfl) ?_; refine L_nil ?_; refine tn ?_; refine W_condT rfl ?_; refine W_seq ?_; refine W_region ?_; refine Ls (X_assign (v := .bool _) rfl) ?_; refine L_nil ?_; refine tn ?_; refine W_ret ?_; refine tr ?_)
    exact endQ_ret1 rfl rfl (v := .bool false) rfl ⟨false, rfl, hG0, .inr ⟨rfl, h, fun l hl => by cases hl⟩⟩
  | ok m =>
    obtain ⟨rfl, rfl, rfl⟩ := hst
    obtain ⟨t, r, rfl⟩ := hE.ne
    have htb := (hT t (by simp)).b
    obtain ⟨b0, o0, c0, rfl, hc0, _, _, hcell⟩ := hr.at (k := 0) (by simp)
    obtain ⟨k0, k1, k2⟩ := toksC_first (t := t) (r := r)
    by_cases ht : t.text = x
    · have hq : (!decide (strB t.text = strB x)) = false := by rw [ht]; simp
      (refine W_seq ?_; refine W_region ?_; refine Ls (X_assign (v := .bool _) rfl) ?_; refine L_nil ?_; refine tn ?_; refine W_seq ?_; refine W_seq ?_; refine W_region ?_; refine Ls (X_move (v := .pointer _) rfl) ?_; refine Ls (X_nil rfl) ?_; refine Ls (X_fld rfl) ?_; refine Ls (X_ld (v := .int .i64 (0 : Nat)) rfl hB rfl) ?_; refine Ls (X_neqF rfl rfl (by omega)) ?_; refine Ls (X_move (v := .bool _) rfl) ?_; refine Lg2 rfl rfl rfl (X_move (v := .pointer _) rfl) ?_; refine Lg2 rfl rfl rfl (X_nil rfl) ?_; refine Lg2 rfl rfl rfl (X_fld rfl) ?_; refine Lg2 rfl rfl rfl (X_ld (v := .slice (some ⟨b0, o0, none⟩) (t :: r).length c0) rfl hB rfl) ?_; refine Lg2 rfl rfl rfl (X_indexSn (i := 0) rfl rfl (by simp)) ?_; refine Lg2 rfl rfl rfl (X_fld rfl) ?_; refine Lg2 rfl rfl rfl (X_ldR (j := 1) (v := .string (strB t.text)) rfl hcell rfl k1) ?_; refine Lg2 rfl rfl rfl (X_move (v := .string _) rfl) ?_; refine Lg2 rfl rfl rfl (X_neqSB rfl rfl hq) ?_; refine Ls (X_pickF (v := .bool _) rfl rfl) ?_; refine L_nil ?_; refine tn ?_; refine W_condF rfl ?_; refine W_skip ?_; refine tn ?_; refine W_seq ?_; refine W_region ?_; refine Ls (X_move (v := .pointer _) rfl) ?_; refine Ls (X_move (v := .pointer _) rfl) ?_; refine Ls (X_nil rfl) ?_; refine Ls (X_fld rfl) ?_; refine Ls (X_ld (v := .slice (some ⟨b0, o0, none⟩) (t :: r).length c0) rfl hB rfl) ?_)
      refine Ls (X_sliceA 1 rfl rfl rfl (by simp) hc0) ?_
      have hsl := Row.slice hr rfl (i := 1) (j := (t :: r).length) (by simp) (Nat.le_refl _)
      rw [toksC_tail] at hsl
      obtain ⟨v2, hv2⟩ : ∃ v2, v2 = Value.slice (if c0 = 1 then some (⟨b0, o0, none⟩ : Addr) else Option.map (fun x : Addr => x.add (1 * 3)) (some (⟨b0, o0, none⟩ : Addr))) ((t :: r).length - 1) (c0 - 1) := ⟨_, rfl⟩
      rw [← hv2] at hsl ⊢
      have hsl : Row w lo hi 3 v2 r.length (toksC r) := hsl.re (by simp) rfl
      have hv2c := row_cell hsl
      clear hv2
      (refine Ls (X_nil rfl) ?_; refine Ls (X_fld rfl) ?_)
      refine L_store1 rfl (v := v2) rfl hv2c hB (by simp [rpC]) ?_
      intro w2 B2 hg2 hs2
      (refine L_nil ?_; refine tn ?_; refine W_seq ?_; refine W_region ?_; refine Ls (X_assign (v := .bool _) rfl) ?_; refine L_nil ?_; refine tn ?_; refine W_ret ?_)
      refine endQ_ret1 rfl rfl (v := .bool true) rfl ⟨true, rfl, hg2, .inl ⟨rfl, t :: r, r, rfl, ?_, v2, r, 0, 0, B2, hsl.grown hg2 (fun q e => by cases e; exact .inr hg), hg, hE.tail (.inl (by rw [ht]; exact hx)), fun q hq => hT q (by simp [hq]), rfl, rfl, rfl⟩⟩
      show (if t.text = x then some r else none) = some r
      rw [if_pos ht]
    · have hq : (!decide (strB t.text = strB x)) = true := by
        rw [decide_eq_false]
        · rfl
        · intro h
          have := congrArg sb h
          rw [sb_strB htb, sb_strB hb] at this
          exact ht this
      (refine W_seq ?_; refine W_region ?_; refine Ls (X_assign (v := .bool _) rfl) ?_; refine L_nil ?_; refine tn ?_; refine W_seq ?_; refine W_seq ?_; refine W_region ?_; refine Ls (X_move (v := .pointer _) rfl) ?_; refine Ls (X_nil rfl) ?_; refine Ls (X_fld rfl) ?_; refine Ls (X_ld (v := .int .i64 (0 : Nat)) rfl hB rfl) ?_; refine Ls (X_neqF rfl rfl (by omega)) ?_; refine Ls (X_move (v := .bool _) rfl) ?_; refine Lg2 rfl rfl rfl (X_move (v := .pointer _) rfl) ?_; refine Lg2 rfl rfl rfl (X_nil rfl) ?_; refine Lg2 rfl rfl rfl (X_fld rfl) ?_; refine Lg2 rfl rfl rfl (X_ld (v := .slice (some ⟨b0, o0, none⟩) (t :: r).length c0) rfl hB rfl) ?_; refine Lg2 rfl rfl rfl (X_indexSn (i := 0) rfl rfl (by simp)) ?_; refine Lg2 rfl rfl rfl (X_fld rfl) ?_; refine Lg2 rfl rfl rfl (X_ldR (j := 1) (v := .string (strB t.text)) rfl hcell rfl k1) ?_; refine Lg2 rfl rfl rfl (X_move (v := .string _) rfl) ?_; refine Lg2 rfl rfl rfl (X_neqSB rfl rfl hq) ?_; refine Ls (X_pickF (v := .bool _) rfl rfl) ?_; refine L_nil ?_; refine tn ?_; refine W_condT rfl ?_; refine W_seq ?_; refine W_region ?_; refine Ls (X_assign (v := .bool _) rfl) ?_; refine L_nil ?_; refine tn ?_; refine W_ret ?_; refine tr ?_)
      refine endQ_ret1 rfl rfl (v := .bool false) rfl ⟨false, rfl, hG0, .inr ⟨rfl, h, fun l hl => ?_⟩⟩
      cases hl
      show (if t.text = x then some r else none) = none
      rw [if_neg ht]
theorem rfail (g lo hi N : Nat) (st : PS) (er : Nat) (he : er ≠ 0) (w : World) (h : RSt w g lo hi N st) :
    Calls Tryd.prog 70 #[.pointer (some ⟨g, 0, none⟩), .int .i64 (er : Nat)] w fun e w' => e = .returned (.tuple #[]) ∧ w.grownBy w' (some g) ∧
      (∀ t r, st = .ok (t :: r) → RSt w' g lo hi N (.error (t.off, er))) ∧ (∀ x, st = .error x → RSt w' g lo hi N st) := by
  refine calls_W Tryd.func70 rfl Tryd.ntmps70 rfl ?_
  obtain ⟨v, l, off, err, hB, hr, hg, hE, hT, hst⟩ := id h
  have hG0 : w.grownBy w (some g) := (Ext.refl w).row _
  cases st with
  | error e =>
    obtain ⟨h1, h2, h3⟩ := hst
    have he : err ≠ 0 := by omega
    (refine W_seq ?_; refine W_region ?_; refine Ls (X_move (v := .pointer _) rfl) ?_; refine Ls (X_nil rfl) ?_; refine Ls (X_fld rfl) ?_; refine Ls (X_ld (v := .int .i64 (err : Nat)) rfl hB rfl) ?_; refine Ls (X_eqlF rfl rfl (by omega)) ?_; refine L_nil ?_; refine tn ?_; refine W_condF rfl ?_; refine W_skip ?_)
    exact endQ_end0 rfl rfl ⟨rfl, hG0, fun _ _ h => (by cases h), fun _ _ => h⟩
  | ok m =>
    obtain ⟨rfl, rfl, rfl⟩ := hst
    obtain ⟨t, r, rfl⟩ := hE.ne
    obtain ⟨b0, o0, c0, rfl, hc0, _, hbh, hcell⟩ := hr.at (k := 0) (by simp)
    obtain ⟨k0, k1, k2⟩ := toksC_first (t := t) (r := r)
    (refine W_seq ?_; refine W_region ?_; refine Ls (X_move (v := .pointer _) rfl) ?_; refine Ls (X_nil rfl) ?_; refine Ls (X_fld rfl) ?_; refine Ls (X_ld (v := .int .i64 (0 : Nat)) rfl hB rfl) ?_; refine Ls (X_eqlT rfl rfl (by omega)) ?_; refine L_nil ?_; refine tn ?_; refine W_condT rfl ?_; refine W_seq ?_; refine W_region ?_; refine Ls (X_move (v := .pointer _) rfl) ?_; refine Ls (X_move (v := .int _ _) rfl) ?_; refine Ls (X_nil rfl) ?_; refine Ls (X_fld rfl) ?_)
    refine L_store1 rfl (v := .int .i64 (er : Nat)) rfl rfl hB (by simp [rpC]) ?_
    intro w2 B2 hg2 hs2
    have hr2 := hr.grown hg2 (fun q e => by cases e; exact .inr hg)
    have hcell2 : w2.rangeAt b0 o0 (toksC (t :: r)) := fun j u hu => World.grownBy.cell hg2 (hcell j u hu) (by simp; omega)
    (refine L_nil ?_; refine tn ?_; refine W_region ?_; refine Ls (X_move (v := .pointer _) rfl) ?_; refine Ls (X_move (v := .pointer _) rfl) ?_; refine Ls (X_nil rfl) ?_; refine Ls (X_fld rfl) ?_; refine Ls (X_ld (v := .slice (some ⟨b0, o0, none⟩) (t :: r).length c0) rfl B2 rfl) ?_; refine Ls (X_indexSn (i := 0) rfl rfl (by simp)) ?_; refine Ls (X_fld rfl) ?_; refine Ls (X_ldR (j := 2) (v := .int .i64 (t.off : Nat)) rfl hcell2 rfl k2) ?_; refine Ls (X_nil rfl) ?_; refine Ls (X_fld rfl) ?_)
    refine L_store1 rfl (v := .int .i64 (t.off : Nat)) rfl rfl B2 (by simp [rpC]) ?_
    intro w3 B3 hg3 hs3
    (refine L_nil ?_)
    refine endQ_end0 rfl rfl ⟨rfl, grown_trans' hg2 hg3 (fun g h => .inl h), fun t' r' h => ?_, fun _ h => by cases h⟩
    cases h
    exact ⟨_, t :: r, t.off, er, B3, hr2.grown hg3 (fun q e => by cases e; exact .inr hg), hg, hE, hT, rfl, rfl, he⟩
theorem runexpected (g lo hi N : Nat) (st : PS) (w : World) (h : RSt w g lo hi N st) :
    Calls Tryd.prog 49 #[.pointer (some ⟨g, 0, none⟩)] w fun e w' => e = .returned (.tuple #[]) ∧ w.grownBy w' (some g) ∧ RSt w' g lo hi N (unx st) := by
  refine calls_W Tryd.func49 rfl Tryd.ntmps49 rfl ?_
  obtain ⟨v, l, off, err, hB, hr, hg, hE, hT, hst⟩ := id h
  obtain ⟨t, r, rfl⟩ := hE.ne
  obtain ⟨b0, o0, c0, rfl, hc0, _, hbh, hcell⟩ := hr.at (k := 0) (by simp)
  obtain ⟨k0, k1, k2⟩ := toksC_first (t := t) (r := r)
  have fin : ∀ (er : Nat) (w' : World), (er = 131 ∧ t.kind = 0 ∨ er = 130 ∧ t.kind ≠ 0) → (∀ t r, st = .ok (t :: r) → RSt w' g lo hi N (.error (t.off, er))) → (∀ x, st = .error x → RSt w' g lo hi N st) → RSt w' g lo hi N (unx st) := fun er w' her h1 h2 => by
    cases st with
    | error x => exact h2 x rfl
    | ok m =>
      obtain ⟨_, _, rfl⟩ := hst
      have hu : Qy.unexp (t :: r) = (t.off, er) := by
        rcases her with ⟨h1, h2⟩ | ⟨h1, h2⟩
        · simp [Qy.unexp, h1, h2]
        · have : (t.kind == 0) = false := by simp [h2]
          simp [Qy.unexp, h1, this]
      show RSt w' g lo hi N (.error (Qy.unexp (t :: r)))
      rw [hu]
      exact h1 t r rfl
  by_cases hk : t.kind = 0
  · (refine W_seq ?_; refine W_region ?_; refine Ls (X_move (v := .pointer _) rfl) ?_; refine Ls (X_nil rfl) ?_; refine Ls (X_fld rfl) ?_; refine Ls (X_ld (v := .slice (some ⟨b0, o0, none⟩) (t :: r).length c0) rfl hB rfl) ?_; refine Ls (X_indexSn (i := 0) rfl rfl (by simp)) ?_; refine Ls (X_fld rfl) ?_; refine Ls (X_ldR (j := 0) (v := .int .i64 (t.kind : Nat)) rfl hcell rfl k0) ?_; refine Ls (X_eqlT rfl rfl (by omega)) ?_; refine L_nil ?_; refine tn ?_; refine W_condT rfl ?_; refine W_region ?_; refine Ls (X_move (v := .pointer _) rfl) ?_)
    refine L_fn (rfail g lo hi N st 131 (by decide) w h) rfl ?_
    rintro e w4 ⟨rfl, G4, h1, h2⟩
    refine ⟨_, rfl, ?_⟩
    (refine L_nil ?_)
    exact endQ_end0 rfl rfl ⟨rfl, G4, fin 131 w4 (.inl ⟨rfl, hk⟩) h1 h2⟩
  · (refine W_seq ?_; refine W_region ?_; refine Ls (X_move (v := .pointer _) rfl) ?_; refine Ls (X_nil rfl) ?_; refine Ls (X_fld rfl) ?_; refine Ls (X_ld (v := .slice (some ⟨b0, o0, none⟩) (t :: r).length c0) rfl hB rfl) ?_; refine Ls (X_indexSn (i := 0) rfl rfl (by simp)) ?_; refine Ls (X_fld rfl) ?_; refine Ls (X_ldR (j := 0) (v := .int .i64 (t.kind : Nat)) rfl hcell rfl k0) ?_; refine Ls (X_eqlF rfl rfl (by omega)) ?_; refine L_nil ?_; refine tn ?_; refine W_condF rfl ?_; refine W_region ?_; refine Ls (X_move (v := .pointer _) rfl) ?_)
    refine L_fn (rfail g lo hi N st 130 (by decide) w h) rfl ?_
    rintro e w4 ⟨rfl, G4, h1, h2⟩
    refine ⟨_, rfl, ?_⟩
    (refine L_nil ?_)
    exact endQ_end0 rfl rfl ⟨rfl, G4, fin 130 w4 (.inr ⟨rfl, hk⟩) h1 h2⟩
theorem rexpect (g lo hi N : Nat) (st : PS) (x : List Nat) (hx : x ≠ []) (hb : ∀ c ∈ x, c < 256) (w : World) (h : RSt w g lo hi N st) :
    Calls Tryd.prog 53 #[.pointer (some ⟨g, 0, none⟩), .string (strB x)] w fun e w' => e = .returned (.tuple #[]) ∧ w.grownBy w' (some g) ∧ RSt w' g lo hi N (after st (Qy.expect x)) := by
  refine calls_W Tryd.func53 rfl Tryd.ntmps53 rfl ?_
  (refine W_seq ?_; refine W_region ?_; refine Ls (X_move (v := .pointer _) rfl) ?_; refine Ls (X_move (v := .string _) rfl) ?_)
  refine L_fn (raccept g lo hi N st x hx hb w h) rfl ?_
  rintro e w1 ⟨b, rfl, G1, hb1⟩
  refine ⟨_, rfl, ?_⟩
  rcases hb1 with ⟨rfl, l, r, rfl, ha, h1⟩ | ⟨rfl, h1, hno⟩
  · (refine Ls (X_not rfl) ?_; refine L_nil ?_; refine tn ?_; refine W_condF rfl ?_; refine W_skip ?_)
    refine endQ_end0 rfl rfl ⟨rfl, G1, ?_⟩
    have e : Qy.expect x l = .ok ((), r) := by unfold Qy.expect; rw [ha]
    have e2 : after (.ok l) (Qy.expect x) = .ok r := by unfold after; simp only [e]
    rw [e2]; exact h1
  · (refine Ls (X_not rfl) ?_; refine L_nil ?_; refine tn ?_; refine W_condT rfl ?_; refine W_region ?_; refine Ls (X_move (v := .pointer _) rfl) ?_)
    refine L_fn (runexpected g lo hi N st w1 h1) rfl ?_
    rintro e w2 ⟨rfl, G2, h2⟩
    refine ⟨_, rfl, ?_⟩
    (refine L_nil ?_)
    refine endQ_end0 rfl rfl ⟨rfl, grown_trans' G1 G2 (fun g h => .inl h), ?_⟩
    cases st with
    | error e => exact h2
    | ok l =>
      have e : Qy.expect x l = .error (Qy.unexp l) := by unfold Qy.expect; rw [hno l rfl]
      have e2 : after (.ok l) (Qy.expect x) = .error (Qy.unexp l) := by unfold after; simp only [e]
      rw [e2]; exact h2
end Go.Proofs.YtipnliodpmjhcaaDoor

/- The reference's parser: number, column, condition. -/
namespace Go.Proofs.YtipnliodpmjhcaaDoor
open Go.RowKit Go.Proofs.K

section
variable {P : Program} {n : NN} {f : Fr} {w : World} {d : Option Tmp} {t ty ty' : TypeId} {pos : String} {af : Array Edge} {g : Option (Nat × Bool)} {x y : Operand}
theorem X_subU8 {a b : Nat} (hx : ev n f x = .int .u8 (a : Nat)) (hy : ev n f y = .int .u8 (b : Nat)) (h : b ≤ a ∧ a < 256) : X P n ⟨d, .binOp .sub ty x y ty', t, pos, af, g⟩ f w = .ok (.value (.int .u8 ((a - b : Nat) : Int))) w := by
  rw [X_sub hx hy, show IntKind.u8.wrap ((a : Int) - (b : Int)) = ((a - b : Nat) : Int) from (by rw [IntKind.wrap_u8]; omega)]
theorem X_convI64n {k' : IntKind} [hs : TInt P ty k'] [ht : TInt P ty' .i64] {k0 : IntKind} {a : Nat} (hx : ev n f x = .int k0 (a : Nat)) (h : a < 9223372036854775808) : X P n ⟨d, .convert ty ty' x, t, pos, af, g⟩ f w = .ok (.value (.int .i64 (a : Nat))) w := by
  rw [X_conv hx, IntWalk.i64_in _ (by omega)]
end
theorem num_cons (a b : Nat) (t : Qy.Tok) (r : List Qy.Tok) : Qy.num a b (t :: r) = bif t.kind == 2 then (bif Nat.ble a (Qy.val t.text) && Nat.ble (Qy.val t.text) b then .ok (Qy.val t.text, r) else .error (t.off, 1)) else .error (Qy.unexp (t :: r)) := rfl
theorem RSt.pop {w : World} {g lo hi N : Nat} {t : Qy.Tok} {r : List Qy.Tok} {b0 o0 c0 : Nat} (hr : Row w lo hi 3 (.slice (some ⟨b0, o0, none⟩) (t :: r).length c0) (t :: r).length (toksC (t :: r))) (hg : hi ≤ g) (hE : Qy.EW N (t :: r)) (hT : ∀ q ∈ t :: r, TokOk q) (ht : t.text ≠ [] ∨ t.kind = 2) :
    ∃ v2, v2 = Value.slice (if c0 = 1 then some (⟨b0, o0, none⟩ : Addr) else Option.map (fun x : Addr => x.add (1 * 3)) (some (⟨b0, o0, none⟩ : Addr))) ((t :: r).length - 1) (c0 - 1) ∧ v2.oneCell' = true ∧ ∀ w', w.grownBy w' (some g) → Blk w' g 78 (rpC v2 0 0) → RSt w' g lo hi N (.ok r) := by
  have hsl := Row.slice hr rfl (i := 1) (j := (t :: r).length) (by simp) (Nat.le_refl _)
  rw [toksC_tail] at hsl
  refine ⟨_, rfl, rfl, fun w' hw' hB' => ⟨_, r, 0, 0, hB', ?_, hg, hE.tail ht, fun q hq => hT q (by simp [hq]), rfl, rfl, rfl⟩⟩
  exact (hsl.re (m' := r.length) (by simp) rfl).grown hw' (fun q e => by cases e; exact .inr hg)
theorem val_take {l : List Nat} {j c : Nat} (h : l[j]? = some c) : Qy.val (l.take (j + 1)) = Qy.val (l.take j) * 10 + (c - 48) := by
  rw [List.take_add_one, h]; exact Qy.val_snoc _ _
set_option maxHeartbeats 8000000 in
theorem rnumber (g lo hi N : Nat) (st : PS) (a b : Nat) (ha : a ≤ 1000000) (hb : b ≤ 65536) (w : World) (h : RSt w g lo hi N st) :
    Calls Tryd.prog 51 #[.pointer (some ⟨g, 0, none⟩), .int .i64 (a : Nat), .int .i64 (b : Nat)] w fun e w' => ∃ n : Nat, e = .returned (.int .i64 (n : Nat)) ∧ n ≤ 1000000 ∧ w.grownBy w' (some g) ∧
      RSt w' g lo hi N (after st (Qy.num a b)) ∧ Gives st (Qy.num a b) n := by
  refine calls_W Tryd.func51 rfl Tryd.ntmps51 rfl ?_
  obtain ⟨v, l, off, err, hB, hr, hg, hE, hT, hst⟩ := id h
  obtain ⟨t, rs, rfl⟩ := hE.ne
  obtain ⟨b0, o0, c0, rfl, hc0, _, hbh, hcell⟩ := hr.at (k := 0) (by simp)
  obtain ⟨k0, k1, k2⟩ := toksC_first (t := t) (r := rs)
  have hto := hT t (by simp)
  have hsl : ∀ m, st = .ok m → m = t :: rs ∧ err = 0 ∧ off = 0 := fun m hm => by
    subst hm
    exact ⟨hst.2.2.symm, hst.2.1, hst.1⟩
  have hse : ∀ x, st = .error x → err ≠ 0 := fun x hx => by
    subst hx
    obtain ⟨_, h2, h3⟩ := hst
    omega
  by_cases hk : t.kind = 2
  · have hd := hto.d hk
    have htl := hto.l
    have hsb : sb (strB t.text) = t.text := sb_strB hto.b
    (refine W_seq ?_; refine W_region ?_; refine Ls (X_assign (v := .int _ _) rfl) ?_; refine L_nil ?_; refine tn ?_; refine W_seq ?_; refine W_seq ?_; refine W_region ?_; refine Ls (X_move (v := .pointer _) rfl) ?_; refine Ls (X_nil rfl) ?_; refine Ls (X_fld rfl) ?_; refine Ls (X_ld (v := .slice (some ⟨b0, o0, none⟩) (t :: rs).length c0) rfl hB rfl) ?_; refine Ls (X_indexSn (i := 0) rfl rfl (by simp)) ?_; refine Ls (X_fld rfl) ?_; refine Ls (X_ldR (j := 0) (v := .int .i64 (t.kind : Nat)) rfl hcell rfl k0) ?_; refine Ls (X_neqF rfl rfl (by omega)) ?_; refine L_nil ?_; refine tn ?_; refine W_condF rfl ?_; refine W_skip ?_; refine tn ?_; refine W_seq ?_)
    apply W_dagE 9 (by kernel_rfl)
    (apply DW_x (fun r w hA hH => (X_move (v := .pointer _) rfl).trans rfl); apply DW_x (fun r w hA hH => (X_nil rfl).trans rfl); apply DW_x (fun r w hA hH => (X_fld rfl).trans rfl); apply DW_x (fun r w hA hH => (X_ld (v := .slice (some ⟨b0, o0, none⟩) (t :: rs).length c0) rfl (hB.ext hA) rfl).trans rfl); apply DW_x (fun r w hA hH => (X_indexSn (i := 0) rfl rfl (by simp)).trans rfl); apply DW_x (fun r w hA hH => (X_fld rfl).trans rfl); apply DW_x (fun r w hA hH => (X_ldR (j := 1) (v := .string (strB t.text)) rfl (hA.range hcell) rfl k1).trans rfl); apply DW_x (fun r w hA hH => (X_assign (v := .int _ _) rfl).trans rfl); apply DW_x (fun r w hA hH => (X_assign (v := .string _) rfl).trans rfl))
    ((with_reducible exact D_end); (exact rfl); (repeat (first | exact .inr (.inr (fun _ _ => by with_reducible rfl)) | (refine And.intro ?_ ?_) | exact .inr (.inl rfl) | exact .inl (by decide +kernel) | exact trivial | exact .inr (.inr (fun _ _ => rfl)))); (try dsimp only [Nat.reduceAdd]))
    intro r0 w1 E1 _
    (refine L_nil ?_; refine tn ?_; refine W_seq ?_; refine W_seq ?_; refine W_region ?_; refine Ls (X_assign (v := .int _ _) rfl) ?_; refine L_nil ?_; refine tn ?_; refine W_block ?_)
    refine W_mono (Q := fun e f w' => e = .exit 0 ∧ w' = w1 ∧ f 0 = .pointer (some ⟨g, 0, none⟩) ∧ f 1 = .int .i64 (a : Nat) ∧ f 2 = .int .i64 (b : Nat) ∧ f 7 = .int .i64 (min (Qy.val t.text) 1000000 : Nat)) ?_ ?_
    · refine W_loop (fun z f w' => ∃ j, z = t.text.length - j ∧ j ≤ t.text.length ∧ w' = w1 ∧ f 0 = .pointer (some ⟨g, 0, none⟩) ∧ f 1 = .int .i64 (a : Nat) ∧ f 2 = .int .i64 (b : Nat) ∧ f 7 = .int .i64 (min (Qy.val (t.text.take j)) 1000000 : Nat) ∧ f 8 = .string (strB t.text) ∧ f 9 = .int .i64 (j : Nat)) t.text.length ?_ ?_
      · exact ⟨0, rfl, by omega, rfl, rfl, rfl, rfl, rfl, rfl, rfl⟩
      · rintro z f w' ⟨j, rfl, hj, rfl, f0, f1, f2, f7, f8, f9⟩
        rw [fold f0, fold f1, fold f2, fold f7, fold f8, fold f9]
        clear f0 f1 f2 f7 f8 f9
        by_cases hlt : j < t.text.length
        · obtain ⟨c, hc⟩ : ∃ c, t.text[j]? = some c := ⟨t.text[j], List.getElem?_eq_getElem hlt⟩
          have hcd := hd c (List.mem_of_getElem? hc)
          rw [Qy.isDi_iff] at hcd
          have hgd : t.text.getD j 0 = c := by rw [List.getD_eq_getElem?_getD, hc]; rfl
          have hvt := val_take hc
          obtain ⟨V, hV⟩ : ∃ V, V = Qy.val (t.text.take j) := ⟨_, rfl⟩
          obtain ⟨V', hV'⟩ : ∃ V', V' = Qy.val (t.text.take (j + 1)) := ⟨_, rfl⟩
          rw [← hV, ← hV'] at hvt
          rw [← hV]
          obtain ⟨m, hm⟩ : ∃ m, m = min V 1000000 := ⟨_, rfl⟩
          have hm2 : m ≤ 1000000 := by omega
          have hmin : (if (1000000 : Int) < (m : Nat) * 10 + ((c - 48 : Nat) : Int) then (1000000 : Int) else (m : Nat) * 10 + ((c - 48 : Nat) : Int)) = ((min V' 1000000 : Nat) : Int) := by split <;> omega
          rw [← hm]
          (refine W_seq ?_; refine W_seq ?_; refine W_region ?_; refine Ls (X_move (v := .int _ _) rfl) ?_; refine Ls (X_move (v := .string _) rfl) ?_; refine Ls ((X_lenStr rfl).trans (by rw [strB_size])) ?_; refine Ls (X_lssT rfl rfl (by omega)) ?_; refine L_nil ?_; refine tn ?_; refine W_condT rfl ?_; refine W_skip ?_; refine tn ?_; refine W_seq ?_; refine W_block ?_; refine W_region ?_; refine Ls (X_move (v := .int _ _) rfl) ?_; refine Ls (X_muli rfl rfl (by omega)) ?_; refine Ls (X_move (v := .string _) rfl) ?_; refine Ls (X_move (v := .int _ _) rfl) ?_; refine Ls ((X_idxS (i := j) rfl rfl (by rw [strB_size]; omega)).trans (by rw [hsb, hgd])) ?_; refine Ls (X_subU8 (a := c) (b := 48) rfl rfl (by omega)) ?_; refine Ls (X_convI64n (a := c - 48) rfl (by omega)) ?_; refine Ls (X_addi rfl rfl (by omega)) ?_; refine Ls (X_minE rfl rfl hmin) ?_; refine Ls (X_assign (v := .int _ _) rfl) ?_; refine L_nil ?_; refine bn ?_; refine tn ?_; refine W_region ?_; refine Ls (X_move (v := .int _ _) rfl) ?_; refine Ls (X_addi rfl rfl (by omega)) ?_; refine Ls (X_assign (v := .int _ _) rfl) ?_; refine L_nil ?_; refine tn ?_)
          exact ⟨t.text.length - (j + 1), by omega, j + 1, rfl, by omega, rfl, rfl, rfl, rfl, by rw [← hV']; rfl, rfl, rfl⟩
        · obtain rfl : j = t.text.length := by omega
          rw [List.take_length]
          (refine W_seq ?_; refine W_seq ?_; refine W_region ?_; refine Ls (X_move (v := .int _ _) rfl) ?_; refine Ls (X_move (v := .string _) rfl) ?_; refine Ls ((X_lenStr rfl).trans (by rw [strB_size])) ?_; refine Ls (X_lssF rfl rfl (by omega)) ?_; refine L_nil ?_; refine tn ?_; refine W_condF rfl ?_; refine W_exit ?_; refine te ?_; refine te ?_)
          exact ⟨rfl, rfl, rfl, rfl, rfl, rfl⟩
    rintro e f w' ⟨rfl, rfl, f0, f1, f2, f7⟩
    rw [fold f0, fold f1, fold f2, fold f7]
    clear f0 f1 f2 f7
    have h1 := h.ext E1
    have B1 := hB.ext E1
    have r1 := hr.ext E1
    obtain ⟨V, hV⟩ : ∃ V, V = Qy.val t.text := ⟨_, rfl⟩
    rw [← hV]
    obtain ⟨m, hm⟩ : ∃ m, m = min V 1000000 := ⟨_, rfl⟩
    rw [← hm]
    have hG1 : w.grownBy w' (some g) := E1.row _
    have hnum : Qy.num a b (t :: rs) = bif Nat.ble a V && Nat.ble V b then .ok (V, rs) else .error (t.off, 1) := by
      rw [hV]
      have : (t.kind == 2) = true := by simp [hk]
      rw [num_cons, this]; rfl
    by_cases hin : a ≤ V ∧ V ≤ b
    · have hb1 : (Nat.ble a V && Nat.ble V b) = true := by simp; omega
      rw [hb1] at hnum
      have hnum : Qy.num a b (t :: rs) = .ok (V, rs) := hnum
      obtain rfl : m = V := by omega
      cases st with
      | error x =>
        have he := hse x rfl
        (refine bx ?_; refine tn ?_; refine W_seq ?_; refine W_seq ?_; refine W_region ?_; refine Ls (X_move (v := .int _ _) rfl) ?_; refine Ls (X_move (v := .int _ _) rfl) ?_; refine Ls (X_lssF rfl rfl (by omega)) ?_; refine Ls (X_move (v := .bool _) rfl) ?_; refine Lg2 rfl rfl rfl (X_move (v := .int _ _) rfl) ?_; refine Lg2 rfl rfl rfl (X_move (v := .int _ _) rfl) ?_; refine Lg2 rfl rfl rfl (X_gtrF rfl rfl (by omega)) ?_; refine Ls (X_pickF (v := .bool _) rfl rfl) ?_; refine L_nil ?_; refine tn ?_; refine W_condF rfl ?_; refine W_skip ?_; refine tn ?_; refine W_seq ?_; refine W_seq ?_; refine W_region ?_; refine Ls (X_move (v := .pointer _) rfl) ?_; refine Ls (X_nil rfl) ?_; refine Ls (X_fld rfl) ?_; refine Ls (X_ld (v := .int .i64 (err : Nat)) rfl B1 rfl) ?_; refine Ls (X_eqlF rfl rfl (by omega)) ?_; refine L_nil ?_; refine tn ?_; refine W_condF rfl ?_; refine W_skip ?_; refine tn ?_; refine W_seq ?_; refine W_region ?_; refine Ls (X_move (v := .int _ _) rfl) ?_; refine Ls (X_assign (v := .int _ _) rfl) ?_; refine L_nil ?_; refine tn ?_; refine W_ret ?_)
        exact endQ_ret1 rfl rfl (v := .int _ _) rfl ⟨m, rfl, by omega, hG1, h1, fun l hl => by cases hl⟩
      | ok q =>
        obtain ⟨rfl, rfl, rfl⟩ := hsl q rfl
        obtain ⟨v2, hv2, v2c, hpop⟩ := RSt.pop r1 hg hE hT (.inr hk)
        (refine bx ?_; refine tn ?_; refine W_seq ?_; refine W_seq ?_; refine W_region ?_; refine Ls (X_move (v := .int _ _) rfl) ?_; refine Ls (X_move (v := .int _ _) rfl) ?_; refine Ls (X_lssF rfl rfl (by omega)) ?_; refine Ls (X_move (v := .bool _) rfl) ?_; refine Lg2 rfl rfl rfl (X_move (v := .int _ _) rfl) ?_; refine Lg2 rfl rfl rfl (X_move (v := .int _ _) rfl) ?_; refine Lg2 rfl rfl rfl (X_gtrF rfl rfl (by omega)) ?_; refine Ls (X_pickF (v := .bool _) rfl rfl) ?_; refine L_nil ?_; refine tn ?_; refine W_condF rfl ?_; refine W_skip ?_; refine tn ?_; refine W_seq ?_; refine W_seq ?_; refine W_region ?_; refine Ls (X_move (v := .pointer _) rfl) ?_; refine Ls (X_nil rfl) ?_; refine Ls (X_fld rfl) ?_; refine Ls (X_ld (v := .int .i64 (0 : Nat)) rfl B1 rfl) ?_; refine Ls (X_eqlT rfl rfl (by omega)) ?_; refine L_nil ?_; refine tn ?_; refine W_condT rfl ?_; refine W_region ?_; refine Ls (X_move (v := .pointer _) rfl) ?_; refine Ls (X_move (v := .pointer _) rfl) ?_; refine Ls (X_nil rfl) ?_; refine Ls (X_fld rfl) ?_; refine Ls (X_ld (v := .slice (some ⟨b0, o0, none⟩) (t :: rs).length c0) rfl B1 rfl) ?_)
        refine Ls (X_sliceA 1 rfl rfl rfl (by simp) hc0) ?_
        rw [← hv2]
        (refine Ls (X_nil rfl) ?_; refine Ls (X_fld rfl) ?_)
        refine L_store1 rfl (v := v2) rfl v2c B1 (by simp [rpC]) ?_
        intro w2 B2 hg2 hs2
        (refine L_nil ?_; refine tn ?_; refine W_seq ?_; refine W_region ?_; refine Ls (X_move (v := .int _ _) rfl) ?_; refine Ls (X_assign (v := .int _ _) rfl) ?_; refine L_nil ?_; refine tn ?_; refine W_ret ?_)
        refine endQ_ret1 rfl rfl (v := .int _ _) rfl ⟨m, rfl, by omega, grown_trans' hG1 hg2 (fun g h => .inl h), ?_, fun l hl x q' hq => ?_⟩
        · have e2 : after (.ok (t :: rs)) (Qy.num a b) = .ok rs := by unfold after; simp only [hnum]
          rw [e2]
          exact hpop w2 hg2 B2
        · cases hl
          rw [hnum] at hq
          cases hq; rfl
    · have hb1 : (Nat.ble a V && Nat.ble V b) = false := by rw [Bool.eq_false_iff]; simp; omega
      rw [hb1] at hnum
      have hnum : Qy.num a b (t :: rs) = .error (t.off, 1) := hnum
      have hex : ∃ σ, σ = after st (Qy.num a b) ∧ (∃ x, σ = .error x) ∧ Gives st (Qy.num a b) m ∧ ∀ w2, ((∀ t' r', st = .ok (t' :: r') → RSt w2 g lo hi N (.error (t'.off, 1))) ∧ (∀ x, st = .error x → RSt w2 g lo hi N st)) → RSt w2 g lo hi N σ := by
        cases st with
        | error x => exact ⟨_, rfl, ⟨x, rfl⟩, (fun l hl => by cases hl), fun w2 ⟨_, k⟩ => k x rfl⟩
        | ok q =>
          obtain ⟨rfl, _, _⟩ := hsl q rfl
          have e2 : after (.ok (t :: rs)) (Qy.num a b) = .error (t.off, 1) := by unfold after; simp only [hnum]
          exact ⟨_, rfl, ⟨_, e2⟩, (fun l hl x q' hq => by cases hl; rw [hnum] at hq; cases hq), fun w2 ⟨k, _⟩ => by rw [e2]; exact k t rs rfl⟩
      obtain ⟨σ, hσ, ⟨x, hx⟩, hgv, hfin⟩ := hex
      rw [← hσ]
      have hout : m < a ∨ (¬ m < a ∧ b < m) := by omega
      rcases hout with ho | ⟨ho, ho2⟩
      all_goals
        repeat (first | (with_reducible refine tn ?_) | (with_reducible refine bx ?_) | (with_reducible refine W_seq ?_) | (with_reducible refine W_region ?_) | (with_reducible refine L_nil ?_) | ((with_reducible refine i_move ?_); (first | ((with_reducible refine i_ng ?_); (first | refine Ls (X_move (v := .int _ _) rfl) ?_ | refine Ls (X_move (v := .bool _) rfl) ?_ | refine Ls (X_move (v := .pointer _) rfl) ?_)) | ((with_reducible refine i_gd ?_); refine Lg2 rfl rfl rfl (X_move (v := .int _ _) rfl) ?_))) | ((with_reducible refine i_lss ?_); ((with_reducible refine i_ng ?_); (first | refine Ls (X_lssT rfl rfl (by omega)) ?_ | refine Ls (X_lssF rfl rfl (by omega)) ?_))) | ((with_reducible refine i_gtr ?_); ((with_reducible refine i_gd ?_); refine Lg2 rfl rfl rfl (X_gtrT rfl rfl (by omega)) ?_)) | ((with_reducible refine i_pick ?_); ((with_reducible refine i_ng ?_); (first | refine Ls (X_pickT (v := .bool _) rfl rfl) ?_ | refine Ls (X_pickF (v := .bool _) rfl rfl) ?_))) | ((with_reducible refine i_gd ?_); refine Lo2 rfl rfl rfl rfl ?_) | (with_reducible refine W_condT rfl ?_))
        refine L_fn (rfail g lo hi N st 1 (by decide) w' h1) rfl ?_
        rintro e w2 ⟨rfl, G2, k⟩
        refine ⟨_, rfl, ?_⟩
        have h2 := hfin w2 k
        obtain ⟨v2, l2, off2, err2, B2, _, _, _, _, hst2⟩ := id h2
        have he2 : err2 ≠ 0 := by
          rw [hx] at hst2
          obtain ⟨_, q2, q3⟩ := hst2
          omega
        (refine L_nil ?_; refine tn ?_; refine W_seq ?_; refine W_seq ?_; refine W_region ?_; refine Ls (X_move (v := .pointer _) rfl) ?_; refine Ls (X_nil rfl) ?_; refine Ls (X_fld rfl) ?_; refine Ls (X_ld (v := .int .i64 (err2 : Nat)) rfl B2 rfl) ?_; refine Ls (X_eqlF rfl rfl (by omega)) ?_; refine L_nil ?_; refine tn ?_; refine W_condF rfl ?_; refine W_skip ?_; refine tn ?_; refine W_seq ?_; refine W_region ?_; refine Ls (X_move (v := .int _ _) rfl) ?_; refine Ls (X_assign (v := .int _ _) rfl) ?_; refine L_nil ?_; refine tn ?_; refine W_ret ?_)
        exact endQ_ret1 rfl rfl (v := .int _ _) rfl ⟨m, rfl, by omega, grown_trans' hG1 G2 (fun g h => .inl h), h2, hgv⟩
  · (refine W_seq ?_; refine W_region ?_; refine Ls (X_assign (v := .int _ _) rfl) ?_; refine L_nil ?_; refine tn ?_; refine W_seq ?_; refine W_seq ?_; refine W_region ?_; refine Ls (X_move (v := .pointer _) rfl) ?_; refine Ls (X_nil rfl) ?_; refine Ls (X_fld rfl) ?_; refine Ls (X_ld (v := .slice (some ⟨b0, o0, none⟩) (t :: rs).length c0) rfl hB rfl) ?_; refine Ls (X_indexSn (i := 0) rfl rfl (by simp)) ?_; refine Ls (X_fld rfl) ?_; refine Ls (X_ldR (j := 0) (v := .int .i64 (t.kind : Nat)) rfl hcell rfl k0) ?_; refine Ls (X_neqT rfl rfl (by omega)) ?_; refine L_nil ?_; refine tn ?_; refine W_condT rfl ?_; refine W_seq ?_; refine W_region ?_; refine Ls (X_move (v := .pointer _) rfl) ?_)
    refine L_fn (runexpected g lo hi N st w h) rfl ?_
    rintro e w1 ⟨rfl, G1, h1⟩
    refine ⟨_, rfl, ?_⟩
    (refine L_nil ?_; refine tn ?_; refine W_seq ?_; refine W_region ?_; refine Ls (X_assign (v := .int _ _) rfl) ?_; refine L_nil ?_; refine tn ?_; refine W_ret ?_; refine tr ?_)
    refine endQ_ret1 rfl rfl (v := .int .i64 (0 : Nat)) rfl ⟨0, rfl, by omega, G1, ?_, ?_⟩
    all_goals
      cases st with
      | error x => first | exact h1 | exact fun l hl => by cases hl
      | ok q =>
        obtain ⟨rfl, _, _⟩ := hsl q rfl
        have : (t.kind == 2) = false := by simp [hk]
        have hnum : Qy.num a b (t :: rs) = .error (Qy.unexp (t :: rs)) := by rw [num_cons, this]; rfl
        first
        | (have e2 : after (.ok (t :: rs)) (Qy.num a b) = .error (Qy.unexp (t :: rs)) := by unfold after; simp only [hnum]
           rw [e2]; exact h1)
        | exact fun l hl x q' hq => by cases hl; rw [hnum] at hq; cases hq
end Go.Proofs.YtipnliodpmjhcaaDoor

/- The reference's parser: column, condition, filter. -/
namespace Go.Proofs.YtipnliodpmjhcaaDoor
open Go.RowKit Go.Proofs.K

theorem pcolumn (g lo hi N : Nat) (st : PS) (w : World) (h : RSt w g lo hi N st) :
    Calls Tryd.prog 50 #[.pointer (some ⟨g, 0, none⟩)] w fun e w' => ∃ c : Nat, e = .returned (.int .i64 (c : Nat)) ∧ c < 4 ∧ w.grownBy w' (some g) ∧ RSt w' g lo hi N (after st Qy.col) ∧ Gives st Qy.col c := by
  refine calls_W Tryd.func50 rfl Tryd.ntmps50 rfl ?_
  have hg0 := h.lt
  (refine W_seq ?_; refine W_region ?_; refine Ls (X_assign (v := .int _ _) rfl) ?_; refine L_nil ?_; refine tn ?_; refine W_seq ?_; refine W_region ?_)
  refine L_lits (zs' := (strs names4).map fun x => [x]) (cs := strs names4) ?_ rfl rfl rfl rfl ?_
  · repeat (first | exact Parts.nil _ | refine Parts.cons rfl rfl rfl rfl ?_)
  intro q w1 r1 E1 hs1 _ _
  have hP1 := h.ext E1
  obtain ⟨b0, o0, c0, rfl, _, hb0, hb1, hc0⟩ := r1.at (k := 0) (by omega)
  (refine Ls (X_assign (v := .slice _ _ _) rfl) ?_; refine L_nil ?_; refine tn ?_; refine W_seq ?_; refine W_seq ?_; refine W_region ?_; refine Ls (X_assign (v := .int _ _) rfl) ?_; refine L_nil ?_; refine tn ?_; refine W_block ?_)
  refine W_loop (fun z f w' => ∃ k, z = 4 - k ∧ k ≤ 4 ∧ w1.grownBy w' (some g) ∧ RSt w' g lo hi N st ∧ (∀ l, st = .ok l → Qy.col l = Qy.colF (4 - k) k l) ∧ f 0 = .pointer (some ⟨g, 0, none⟩) ∧ f 3 = .slice (some ⟨b0, o0, none⟩) 4 c0 ∧ f 4 = .int .i64 (k : Nat)) 4 ?_ ?_
  · exact ⟨0, rfl, by omega, (Ext.refl _).row _, hP1, fun _ _ => rfl, rfl, rfl, rfl⟩
  · rintro z f w2 ⟨k, rfl, hk, G2, hP2, hcol, f0, f3, f4⟩
    rw [fold f0, fold f3, fold f4]
    have hc2 : w2.rangeAt b0 o0 (strs names4) := fun j u hu => World.grownBy.cell G2 (hc0 j u hu) (by simp; omega)
    have G02 := grown_trans' (E1.row (some g)) G2 (fun g h => .inl h)
    by_cases hk4 : k < 4
    · (refine W_seq ?_; refine W_seq ?_; refine W_region ?_; refine Ls (X_move (v := .int _ _) rfl) ?_; refine Ls (X_lssT rfl rfl (by omega)) ?_; refine L_nil ?_; refine tn ?_; refine W_condT rfl ?_; refine W_skip ?_; refine tn ?_; refine W_seq ?_; refine W_block ?_; refine W_seq ?_; refine W_region ?_; refine Ls (X_move (v := .pointer _) rfl) ?_; refine Ls (X_move (v := .slice _ _ _) rfl) ?_; refine Ls (X_move (v := .int _ _) rfl) ?_; refine Ls (X_indexSn rfl rfl (by omega)) ?_; refine Ls (X_ldR (j := k) (v := .string (strB (Qy.name k))) rfl hc2 (by omega) (names4_get hk4)) ?_)
      refine L_fn (raccept g lo hi N st (Qy.name k) (Qy.name_ne k) (tokX_name k).b w2 hP2) rfl ?_
      rintro e w3 ⟨b, rfl, G3, hb⟩
      refine ⟨_, rfl, ?_⟩
      rcases hb with ⟨rfl, l, r, rfl, ha, hP3⟩ | ⟨rfl, hP3, hno⟩
      · have hcl : Qy.col l = .ok (k, r) := by
          rw [hcol l rfl, show 4 - k = (3 - k) + 1 by omega]
          simp only [Qy.colF, ha]
        (refine L_nil ?_; refine tn ?_; refine W_condT rfl ?_; refine W_seq ?_; refine W_region ?_; refine Ls (X_move (v := .int _ _) rfl) ?_; refine Ls (X_assign (v := .int _ _) rfl) ?_; refine L_nil ?_; refine tn ?_; refine W_ret ?_; refine br ?_; refine tr ?_; refine tr ?_; refine br ?_; refine tr ?_)
        refine endQ_ret1 rfl rfl (v := .int _ _) rfl ⟨k, rfl, hk4, grown_trans' G02 G3 (fun g h => .inl h), ?_, ?_⟩
        · simpa [after, hcl] using hP3
        · intro l' hl' a m ha'
          injection hl' with hl'
          subst hl'
          rw [hcl] at ha'
          injection ha' with ha'
          injection ha' with ha' _
          exact ha'.symm
      · (refine L_nil ?_; refine tn ?_; refine W_condF rfl ?_; refine W_skip ?_; refine bn ?_; refine tn ?_; refine W_region ?_; refine Ls (X_move (v := .int _ _) rfl) ?_; refine Ls (X_addi rfl rfl (by omega)) ?_; refine Ls (X_assign (v := .int _ _) rfl) ?_; refine L_nil ?_; refine tn ?_)
        refine ⟨4 - (k + 1), by omega, k + 1, rfl, by omega, grown_trans' G2 G3 (fun g h => .inl h), hP3, fun l hl => ?_, rfl, rfl, rfl⟩
        rw [hcol l hl, show 4 - k = (4 - (k + 1)) + 1 by omega]
        simp only [Qy.colF, hno l hl]
    · obtain rfl : k = 4 := by omega
      (refine W_seq ?_; refine W_seq ?_; refine W_region ?_; refine Ls (X_move (v := .int _ _) rfl) ?_; refine Ls (X_lssF rfl rfl (by omega)) ?_; refine L_nil ?_; refine tn ?_; refine W_condF rfl ?_; refine W_exit ?_; refine te ?_; refine te ?_; refine bx ?_; refine tn ?_; refine W_seq ?_; refine W_region ?_; refine Ls (X_move (v := .pointer _) rfl) ?_)
      refine L_fn (runexpected g lo hi N st w2 hP2) rfl ?_
      rintro e w3 ⟨rfl, G3, hP3⟩
      refine ⟨_, rfl, ?_⟩
      (refine L_nil ?_; refine tn ?_; refine W_seq ?_; refine W_region ?_; refine Ls (X_assign (v := .int _ _) rfl) ?_; refine L_nil ?_; refine tn ?_; refine W_ret ?_)
      refine endQ_ret1 rfl rfl (v := .int _ _) rfl ⟨0, rfl, by omega, grown_trans' G02 G3 (fun g h => .inl h), ?_, ?_⟩
      · cases st with
        | error e => exact hP3
        | ok l => simpa [after, unx, hcol l rfl, Qy.colF] using hP3
      · intro l hl a m ha
        rw [hcol l hl] at ha
        simp [Qy.colF] at ha
set_option maxRecDepth 100000 in
set_option maxHeartbeats 8000000 in
theorem pcond (g lo hi N : Nat) (st : PS) (w : World) (h : RSt w g lo hi N st) :
    Calls Tryd.prog 71 #[.pointer (some ⟨g, 0, none⟩)] w fun e w' => ∃ c : Qy.Cnd, e = .returned (.agg (cndI (Qy.liC c)).toArray) ∧ w.grownBy w' (some g) ∧ RSt w' g lo hi N (after st Qy.cond) ∧ Gives st Qy.cond c := by
  refine calls_W Tryd.func71 rfl Tryd.ntmps71 rfl ?_
  have hg0 := h.lt
  (refine W_seq ?_; refine W_region ?_)
  refine L_alloc ?_
  intro g2 w1 B2 hg2 E1 hs1
  (refine L_nil ?_; refine tn ?_; refine W_seq ?_; refine W_region ?_; refine Ls (X_move (v := .pointer _) rfl) ?_)
  refine L_fn (pcolumn g lo hi N st w1 (h.ext E1)) rfl ?_
  rintro e w2 ⟨c, rfl, hc4, G2, hP2, hv2⟩
  refine ⟨_, rfl, ?_⟩
  refine Ls (X_mkCond1 rfl) ?_
  refine L_alloc ?_
  intro g3 w3 B3 hg3 E3 hs3
  have hz2 := G2.size
  refine L_storeW (size := 3) rfl rfl rfl cndI_cell B3 rfl ?_
  intro w4 B4 hg4 hs4
  have C2 := ((B2.grown G2 (by simp; omega)).ext E3).grown hg4 (by simp; omega)
  have hP4 := (hP2.ext E3).above hg4 (by omega)
  have G4 : w.grownBy w4 (some g) := grown_trans' (grown_trans' (grown_trans' (E1.row (some g)) G2 (fun g h => .inl h)) E3 (fun _ h => by cases h)) hg4 (fun g h => by cases h; exact .inr (by omega))
  have hcb := Qy.cmax_le c
  (refine L_nil ?_; refine tn ?_; refine W_seq ?_; refine W_seq ?_; refine W_region ?_; refine Ls (X_move (v := .pointer _) rfl) ?_)
  refine L_fn (raccept g lo hi N (after st Qy.col) Qy.tEq (by decide) (by decide) w4 hP4) rfl ?_
  rintro e w6 ⟨b, rfl, G6, hb⟩
  refine ⟨_, rfl, ?_⟩
  have F2 := C2.grown G6 (by simp; omega)
  have F3 := B4.grown G6 (by simp; omega)
  have G06 := grown_trans' G4 G6 (fun g h => .inl h)
  have ab := after_bind (k := Qy.cond1) hv2
  have gb := fun {u} => gives_bind (k := Qy.cond1) (u := u) hv2
  have e0 : (fun l => Qy.bind (Qy.col l) Qy.cond1) = Qy.cond := rfl
  rw [e0] at ab
  simp only [e0] at gb
  rw [ab]
  generalize after st Qy.col = s1 at *
  clear ab e0 hv2 hP2 hP4 B2 B3 B4 C2
  rcases hb with ⟨rfl, l, r, rfl, ha, hP6⟩ | ⟨rfl, hP6, hno⟩
  · have hr : Qy.cond1 c l = Qy.bind (Qy.num 0 (Qy.cmax c) r) fun n r => .ok ((c, n, n), r) := by simp only [Qy.cond1, ha]
    (refine L_nil ?_; refine tn ?_; refine W_condT rfl ?_; refine W_seq ?_; refine W_region ?_; refine Ls (X_move (v := .pointer _) rfl) ?_; refine Ls (X_fld rfl) ?_; refine Ls (X_ld (v := .int .i64 (c : Nat)) rfl F3 rfl) ?_)
    refine L_fv rfl (rmaxN c w6) ?_
    intro w5 E5
    have F2 := F2.ext E5
    have F3 := F3.ext E5
    have G06 := grown_trans' G06 E5 (fun _ h => by cases h)
    refine L_fn (rnumber g lo hi N (.ok r) 0 (Qy.cmax c) (by omega) (by omega) w5 (hP6.ext E5)) rfl ?_
    rintro e w7 ⟨n, rfl, _, G7, hP7, hv7⟩
    refine ⟨_, rfl, ?_⟩
    (refine Ls (X_fld rfl) ?_)
    refine L_store1 rfl (v := .int _ _) rfl rfl (F3.grown G7 (by simp; omega)) (by simp [cndI]) ?_
    intro w8 B8 hg8 hs8
    (refine L_nil ?_; refine tn ?_; refine W_seq ?_; refine W_region ?_; refine Ls (X_fld rfl) ?_; refine Ls (X_ld rfl B8 rfl) ?_; refine Ls (X_fld rfl) ?_)
    refine L_store1 rfl (v := .int _ _) rfl rfl B8 (by simp [cndI]) ?_
    intro w9 B9 hg9 hs9
    have hz7 := G7.size
    have hz6 := G6.size
    have hz5 := E5.size
    (refine L_nil ?_; refine tn ?_; refine W_seq ?_; refine W_region ?_; refine Ls (X_ldW (size := 3) rfl B9 rfl) ?_)
    refine L_storeW (size := 3) (l := cndI (Qy.liC (c, n, n))) rfl rfl rfl cndI_cell (((F2.grown G7 (by simp; omega)).grown hg8 (by simp; omega)).grown hg9 (by simp; omega)) rfl ?_
    intro w10 B10 hg10 hs10
    (refine L_nil ?_; refine tn ?_; refine W_ret ?_; refine tr ?_)
    refine endQ_res rfl rfl (Res.cellA (cs := cndI (Qy.liC (c, n, n))) inferInstance rfl (B10.range (fun j u h => by rw [Nat.zero_add]; exact h)) rfl .nil) ?_
    refine ⟨(c, n, n), rfl, grown_trans' (grown_trans' (grown_trans' (grown_trans' G06 G7 (fun g h => .inl h)) hg8 (fun g h => by cases h; exact .inr (by omega))) hg9 (fun g h => by cases h; exact .inr (by omega))) hg10 (fun g h => by cases h; exact .inr (by omega)), ?_, ?_⟩
    · rw [after_acc (m := r) (r' := fun r => Qy.bind (Qy.num 0 (Qy.cmax c) r) fun n r => .ok ((c, n, n), r)) hr, after_bind hv7, after_ok]
      exact ((hP7.above hg8 (by omega)).above hg9 (by omega)).above hg10 (by omega)
    · exact gb (gives_acc (m := r) (r' := fun r => Qy.bind (Qy.num 0 (Qy.cmax c) r) fun n r => .ok ((c, n, n), r)) hr (gives_bind hv7 (gives_ok _ _)))
  · have hr : ∀ l, s1 = .ok l → Qy.cond1 c l = (fun l => Qy.bind (Qy.expect Qy.tIn l) fun _ r => Qy.bind (Qy.num 0 (Qy.cmax c) r) fun lo r => Qy.bind (Qy.expect Qy.tDots r) fun _ r => Qy.bind (Qy.num lo (Qy.cmax c) r) fun hi r => .ok ((c, lo, hi), r)) l := fun l hl => by simp only [Qy.cond1, hno l hl]
    have gu : ∀ (st : PS) (x : List Nat), Gives st (Qy.expect x) () := fun _ _ _ _ _ _ _ => rfl
    (refine L_nil ?_; refine tn ?_; refine W_condF rfl ?_; refine W_skip ?_; refine tn ?_; refine W_seq ?_; refine W_region ?_; refine Ls (X_move (v := .pointer _) rfl) ?_)
    refine L_fn (rexpect g lo hi N s1 Qy.tIn (by decide) (by decide) w6 hP6) rfl ?_
    rintro e w7 ⟨rfl, G7, hP7⟩
    refine ⟨_, rfl, ?_⟩
    have F2 := F2.grown G7 (by simp; omega)
    have F3 := F3.grown G7 (by simp; omega)
    have hz6 := G6.size
    have hz7 := G7.size
    (refine L_nil ?_; refine tn ?_; refine W_seq ?_; refine W_region ?_; refine Ls (X_move (v := .pointer _) rfl) ?_; refine Ls (X_fld rfl) ?_; refine Ls (X_ld (v := .int .i64 (c : Nat)) rfl F3 rfl) ?_)
    refine L_fv rfl (rmaxN c w7) ?_
    intro w5 E5
    have hz5 := E5.size
    have F2 := F2.ext E5
    have F3 := F3.ext E5
    refine L_fn (rnumber g lo hi N _ 0 (Qy.cmax c) (by omega) (by omega) w5 (hP7.ext E5)) rfl ?_
    rintro e w8 ⟨n, rfl, hn, G8, hP8, hv8⟩
    refine ⟨_, rfl, ?_⟩
    have H3 := F3.grown G8 (by simp; omega)
    have H2 := F2.grown G8 (by simp; omega)
    have hz8 := G8.size
    (refine Ls (X_fld rfl) ?_)
    refine L_store1 rfl (v := .int _ _) rfl rfl H3 (by simp [cndI]) ?_
    intro w9 B9 hg9 hs9
    have hP9 := hP8.above hg9 (by omega)
    have H2 := H2.grown hg9 (by simp; omega)
    have G09 := grown_trans' (grown_trans' (grown_trans' (grown_trans' G06 G7 (fun g h => .inl h)) E5 (fun _ h => by cases h)) G8 (fun g h => .inl h)) hg9 (fun g h => by cases h; exact .inr (by omega))
    (refine L_nil ?_; refine tn ?_; refine W_seq ?_; refine W_region ?_; refine Ls (X_move (v := .pointer _) rfl) ?_)
    refine L_fn (rexpect g lo hi N _ Qy.tDots (by decide) (by decide) w9 hP9) rfl ?_
    rintro e w10 ⟨rfl, G10, hP10⟩
    refine ⟨_, rfl, ?_⟩
    have G010 := grown_trans' G09 G10 (fun g h => .inl h)
    have H3 := B9.grown G10 (by simp; omega)
    have H2 := H2.grown G10 (by simp; omega)
    have hz10 := G10.size
    (refine L_nil ?_; refine tn ?_; refine W_seq ?_)
    apply W_dagE 6 (by kernel_rfl)
    (apply DW_x (fun r w hA hH => (X_move (v := .pointer _) rfl).trans rfl); apply DW_x (fun r w hA hH => (X_fld rfl).trans rfl); apply DW_x (fun r w hA hH => (X_ld (v := .int .i64 (n : Nat)) rfl (H3.ext hA) rfl).trans rfl); apply DW_x (fun r w hA hH => (X_fld rfl).trans rfl); apply DW_x (fun r w hA hH => (X_ld (v := .int .i64 (c : Nat)) rfl (H3.ext hA) rfl).trans rfl))
    ((with_reducible apply DW_fn); (exact fun _ => rfl); (exact fun _ => rfl); (exact fun r w hA hH => rmaxN c w))
    ((with_reducible exact D_end); (exact rfl); (repeat (first | exact .inr (.inr (fun _ _ => by with_reducible rfl)) | (refine And.intro ?_ ?_) | exact .inr (.inl rfl) | exact .inl (by decide +kernel) | exact trivial | exact .inr (.inr (fun _ _ => rfl)))); (try dsimp only [Nat.reduceAdd]))
    intro r w14 E14 _
    have hz14 := E14.size
    have H3 := H3.ext E14
    have H2 := H2.ext E14
    refine L_fn (rnumber g lo hi N _ n (Qy.cmax c) hn (by omega) w14 (hP10.ext E14)) rfl ?_
    rintro e w11 ⟨n2, rfl, _, G11, hP11, hv11⟩
    refine ⟨_, rfl, ?_⟩
    have H3 := H3.grown G11 (by simp; omega)
    have H2 := H2.grown G11 (by simp; omega)
    (refine Ls (X_fld rfl) ?_)
    refine L_store1 rfl (v := .int _ _) rfl rfl H3 (by simp [cndI]) ?_
    intro w12 B12 hg12 hs12
    have hP12 := hP11.above hg12 (by omega)
    have H2 := H2.grown hg12 (by simp; omega)
    have hz11 := G11.size
    (refine L_nil ?_; refine tn ?_; refine W_seq ?_; refine W_region ?_; refine Ls (X_ldW (size := 3) rfl B12 rfl) ?_)
    refine L_storeW (size := 3) (l := cndI (Qy.liC (c, n, n2))) rfl rfl rfl cndI_cell H2 rfl ?_
    intro w13 B13 hg13 hs13
    (refine L_nil ?_; refine tn ?_; refine W_ret ?_)
    refine endQ_res rfl rfl (Res.cellA (cs := cndI (Qy.liC (c, n, n2))) inferInstance rfl (B13.range (fun j u h => by rw [Nat.zero_add]; exact h)) rfl .nil) ?_
    refine ⟨(c, n, n2), rfl, grown_trans' (grown_trans' (grown_trans' (grown_trans' G010 E14 (fun _ h => by cases h)) G11 (fun g h => .inl h)) hg12 (fun g h => by cases h; exact .inr (by omega))) hg13 (fun g h => by cases h; exact .inr (by omega)), ?_, ?_⟩
    · rw [after_congr hr, after_bind (gu _ _), after_bind hv8, after_bind (gu _ _), after_bind hv11, after_ok]
      exact hP12.above hg13 (by omega)
    · exact gb (gives_congr hr (gives_bind (gu _ _) (gives_bind hv8 (gives_bind (gu _ _) (gives_bind hv11 (gives_ok _ _))))))
end Go.Proofs.YtipnliodpmjhcaaDoor

/- The reference's parser: filter. -/
namespace Go.Proofs.YtipnliodpmjhcaaDoor
open Go.RowKit Go.Proofs.K

theorem RSt.up {w w' : World} {g lo hi N : Nat} {st : PS} {row : Option Nat} (h : RSt w g lo hi N st) (hg : w.grownBy w' row) (hr : ∀ q, row = some q → g < q) : RSt w' g lo hi N st := by
  obtain ⟨v, l, off, err, h1, h2, h3, h4⟩ := h
  exact ⟨v, l, off, err, h1.grown hg (fun e => by have := hr g e; omega), h2.grown hg (fun q e => .inr (by have := hr q e; omega)), h3, h4⟩
/-- what follows k conditions -/
def Hf (k : Nat) (pre : List Qy.Cnd) : List Qy.Tok → Qy.R (List Qy.Cnd) := fun r => if k = 3 then .ok (pre, r) else match Qy.acc Qy.tAnd r with
  | none => .ok (pre, r)
  | some r => Ff k pre r
theorem Ff_Hf {k : Nat} (hk : k < 3) (pre : List Qy.Cnd) (m : List Qy.Tok) : Ff k pre m = Qy.bind (Qy.cond m) fun c r => Hf (k + 1) (pre ++ [c]) r := by
  rw [Ff_step hk]
  congr 1
  funext c r
  unfold Hf
  by_cases h : k = 2
  · rw [if_pos h, if_pos (by omega)]
  · rw [if_neg h, if_neg (by omega)]
    cases Qy.acc Qy.tAnd r <;> rfl
set_option maxHeartbeats 8000000 in
theorem pfilter (g lo hi N : Nat) (st : PS) (w : World) (h : RSt w g lo hi N st) :
    Calls Tryd.prog 52 #[.pointer (some ⟨g, 0, none⟩)] w fun e w' => ∃ (v : Value) (l : List Qy.Cnd), e = .returned v ∧ w.grownBy w' (some g) ∧ RSt w' g lo hi N (after st Qy.filt) ∧ Gives st Qy.filt l ∧ l.length ≤ 3 ∧
      w'.ownsRow w.heap.size 46 3 v l.length (cndsI (l.map Qy.liC)) := by
  refine calls_W Tryd.func52 rfl Tryd.ntmps52 rfl ?_
  have hg0 := h.lt
  (refine W_seq ?_; refine W_region ?_; refine Ls (X_assign (v := .slice _ _ _) rfl) ?_; refine L_nil ?_; refine tn ?_; refine W_seq ?_; refine W_region ?_)
  refine L_lit0 (size := 3) ?_
  intro q1 w1 E1 hs1 o1
  (refine Ls (X_assign (v := q1) rfl) ?_; refine L_nil ?_; refine tn ?_; refine W_seq ?_; refine W_seq ?_; refine W_region ?_; refine Ls (X_move (v := .pointer _) rfl) ?_)
  refine L_fn (raccept g lo hi N st Qy.tWhere (by decide) (by decide) w1 (h.ext E1)) rfl ?_
  rintro e w2 ⟨b, rfl, G2, hb⟩
  refine ⟨_, rfl, ?_⟩
  have G02 := grown_trans' (E1.row (some g)) G2 (fun g h => .inl h)
  have o2 := own_grown o1 G2 (fun g' h => by cases h; exact hg0)
  have hq1 := own_cell3 o1
  rcases hb with ⟨rfl, l, r, rfl, ha, hP2⟩ | ⟨rfl, hP2, hno⟩
  · have hr : Qy.filt l = Ff 0 [] r := by
      unfold Qy.filt Ff
      rw [ha]
      show Qy.conds 3 r = Qy.bind (Qy.conds 3 r) _
      cases Qy.conds 3 r with
      | error e => rfl
      | ok p => obtain ⟨a, b⟩ := p; rfl
    have hr : Qy.filt l = (fun m => Qy.bind (Qy.cond m) fun c r => Hf 1 [c] r) r := hr.trans (Ff_Hf (by decide) [] r)
    (refine Ls (X_not rfl) ?_; refine L_nil ?_; refine tn ?_; refine W_condF rfl ?_; refine W_skip ?_; refine tn ?_; refine W_seq ?_; refine W_region ?_; refine Ls (X_move (v := q1) rfl) ?_; refine Ls (X_move (v := .pointer _) rfl) ?_)
    refine L_fn (pcond g lo hi N (.ok r) w2 hP2) rfl ?_
    rintro e w3 ⟨c, rfl, G3, hP3, hv3⟩
    refine ⟨_, rfl, ?_⟩
    have o3 := own_grown o2 G3 (fun g' h => by cases h; exact hg0)
    have G03 := grown_trans' G02 G3 (fun g h => .inl h)
    have hz3 := G03.size
    refine L_lits (zs' := [cndI (Qy.liC c)]) (cs := cndI (Qy.liC c)) (Parts.cons (c := cndI (Qy.liC c)) (z := [.int .i64 0, .int .i64 0, .int .i64 0]) rfl rfl rfl rfl (Parts.nil _)) rfl (by simp) rfl rfl ?_
    intro q5 w5 r5 E5 hs5 _ _
    refine L_append (v := q1) (u := q5) rfl rfl (own_ext o3 E5) r5 cndI_cell (by omega) (by omega) (by omega) ?_
    intro v6 w6 o6 hg6 _
    have hvb : ∀ g', q1.ownBlock = some g' → w.heap.size ≤ g' := fun g' h => (o1.lt g' h).1
    have hP6 := (hP3.ext E5).up hg6 (fun q e => by have := hvb q e; omega)
    have G6 : w.grownBy w6 (some g) := grown_trans' (grown_trans' G03 E5 (fun _ h => by cases h)) hg6 (fun g' h => .inr (hvb g' h))
    have o6 : w6.ownsRow w.heap.size 46 3 v6 [c].length (cndsI ([c].map Qy.liC)) := o6
    have ha1 : after (.ok l) Qy.filt = after (after (.ok r) Qy.cond) (Hf 1 [c]) := by rw [after_acc (m := r) (r' := fun m => Qy.bind (Qy.cond m) fun c r => Hf 1 [c] r) hr, after_bind hv3]
    have hg1 : ∀ v, Gives (after (.ok r) Qy.cond) (Hf 1 [c]) v → Gives (.ok l) Qy.filt v := fun v hv => gives_acc (m := r) (r' := fun m => Qy.bind (Qy.cond m) fun c r => Hf 1 [c] r) hr (gives_bind hv3 hv)
    generalize after (.ok r) Qy.cond = σ0 at *
    generalize (Except.ok l : PS) = st at *
    (refine Ls (X_assign (v := v6) rfl) ?_; refine L_nil ?_; refine tn ?_; refine W_seq ?_; refine W_block ?_)
    refine W_loop (fun z f w' => ∃ (pre : List Qy.Cnd) (σ : PS) (v : Value), z = 3 - pre.length ∧ pre.length ≤ 3 ∧ w.grownBy w' (some g) ∧ RSt w' g lo hi N σ ∧ w'.ownsRow w.heap.size 46 3 v pre.length (cndsI (pre.map Qy.liC)) ∧
      after st Qy.filt = after σ (Hf pre.length pre) ∧ (∀ v, Gives σ (Hf pre.length pre) v → Gives st Qy.filt v) ∧ f 0 = .pointer (some ⟨g, 0, none⟩) ∧ f 3 = v) 2 ?_ ?_
    · exact ⟨[c], σ0, v6, rfl, by simp, G6, hP6, o6, ha1, hg1, rfl, rfl⟩
    · clear ha1 hg1 o6 G6 hP6 hP3 o3 o2 o1 hP2 hv3 hr r5 hg6 hvb
      rintro z f w3 ⟨pre, σ, v, rfl, hk3, G3, hP3, o3, ha, hg, f0, f3⟩
      rw [fold f0, fold f3]
      clear f0 f3
      have hvc := own_cell3 o3
      have hz3 := G3.size
      have r3 := Row.of_own o3
      have hvb : ∀ g', v.ownBlock = some g' → w.heap.size ≤ g' := fun g' h => (o3.lt g' h).1
      by_cases hk : pre.length < 3
      · (refine W_seq ?_; refine W_seq ?_; refine W_region ?_; refine Ls (X_move (v := v) rfl) ?_; refine Ls (X_lenRow (v := v) rfl r3) ?_; refine Ls (X_lssT rfl rfl (by omega)) ?_; refine Ls (X_move (v := .bool _) rfl) ?_; refine Lg2 rfl rfl rfl (X_move (v := .pointer _) rfl) ?_)
        refine L_strip rfl rfl rfl ?_
        refine L_fn (raccept g lo hi N σ Qy.tAnd (by decide) (by decide) w3 hP3) rfl ?_
        rintro e w7 ⟨b, rfl, G7, hb⟩
        refine ⟨_, rfl, ?_⟩
        have G07 := grown_trans' G3 G7 (fun g h => .inl h)
        have o7 := own_grown o3 G7 (fun g' h => by cases h; exact hg0)
        rcases hb with ⟨rfl, l, r, rfl, hac, hP7⟩ | ⟨rfl, hP7, hno⟩
        · have hr : Hf pre.length pre l = (fun m => Qy.bind (Qy.cond m) fun c r => Hf (pre.length + 1) (pre ++ [c]) r) r := by
            unfold Hf
            rw [if_neg (by omega), hac]
            exact Ff_Hf hk pre r
          (refine Ls (X_pickT (v := .bool _) rfl rfl) ?_; refine L_nil ?_; refine tn ?_; refine W_condT rfl ?_; refine W_skip ?_; refine tn ?_; refine W_block ?_; refine W_region ?_; refine Ls (X_move (v := v) rfl) ?_; refine Ls (X_move (v := .pointer _) rfl) ?_)
          refine L_fn (pcond g lo hi N (.ok r) w7 hP7) rfl ?_
          rintro e w8 ⟨c, rfl, G8, hP8, hv8⟩
          refine ⟨_, rfl, ?_⟩
          have o8 := own_grown o7 G8 (fun g' h => by cases h; exact hg0)
          have G08 := grown_trans' G07 G8 (fun g h => .inl h)
          have hz8 := G08.size
          refine L_lits (zs' := [cndI (Qy.liC c)]) (cs := cndI (Qy.liC c)) (Parts.cons (c := cndI (Qy.liC c)) (z := [.int .i64 0, .int .i64 0, .int .i64 0]) rfl rfl rfl rfl (Parts.nil _)) rfl (by simp) rfl rfl ?_
          intro q9 w9 r9 E9 hs9 _ _
          refine L_append (v := v) (u := q9) rfl rfl (own_ext o8 E9) r9 cndI_cell (by omega) (by omega) (by omega) ?_
          intro v10 w10 o10 hg10 _
          have hlen : (pre ++ [c]).length = pre.length + 1 := by simp
          rw [← cndsI_snoc, ← hlen] at o10
          (refine Ls (X_assign (v := v10) rfl) ?_; refine L_nil ?_; refine bn ?_; refine tn ?_)
          refine ⟨_, by simp; omega, pre ++ [c], _, v10, rfl, by simp; omega, grown_trans' (grown_trans' G08 E9 (fun _ h => by cases h)) hg10 (fun g' h => .inr (hvb g' h)), (hP8.ext E9).up hg10 (fun q e => by have := hvb q e; omega), o10, ?_, ?_, rfl, rfl⟩
          · rw [ha, after_acc (m := r) (r' := fun m => Qy.bind (Qy.cond m) fun c r => Hf (pre.length + 1) (pre ++ [c]) r) hr, after_bind hv8, hlen]
          · intro u hu
            rw [hlen] at hu
            exact hg u (gives_acc (m := r) (r' := fun m => Qy.bind (Qy.cond m) fun c r => Hf (pre.length + 1) (pre ++ [c]) r) hr (gives_bind hv8 hu))
        · have hr : ∀ l, σ = .ok l → Hf pre.length pre l = (fun l => .ok (pre, l)) l := fun l hl => by unfold Hf; rw [if_neg (by omega), hno l hl]
          rw [after_congr hr, after_ok] at ha
          (refine Ls (X_pickT (v := .bool _) rfl rfl) ?_; refine L_nil ?_; refine tn ?_; refine W_condF rfl ?_; refine W_exit ?_; refine te ?_; refine te ?_; refine bx ?_; refine tn ?_; refine W_seq ?_; refine W_region ?_; refine Ls (X_move (v := v) rfl) ?_; refine Ls (X_assign (v := v) rfl) ?_; refine L_nil ?_; refine tn ?_; refine W_ret ?_)
          exact endQ_ret1 rfl rfl (v := v) rfl ⟨v, pre, rfl, G07, by rw [ha]; exact hP7, hg _ (gives_congr hr (gives_ok _ _)), hk3, o7⟩
      · have hr : ∀ l, σ = .ok l → Hf pre.length pre l = (fun l => .ok (pre, l)) l := fun l hl => by unfold Hf; rw [if_pos (by omega)]
        rw [after_congr hr, after_ok] at ha
        (refine W_seq ?_; refine W_seq ?_; refine W_region ?_; refine Ls (X_move (v := v) rfl) ?_; refine Ls (X_lenRow (v := v) rfl r3) ?_; refine Ls (X_lssF rfl rfl (by omega)) ?_; refine Ls (X_move (v := .bool _) rfl) ?_; refine Lo2 rfl rfl rfl rfl ?_; refine Lo2 rfl rfl rfl rfl ?_; refine Ls (X_pickF (v := .bool _) rfl rfl) ?_; refine L_nil ?_; refine tn ?_; refine W_condF rfl ?_; refine W_exit ?_; refine te ?_; refine te ?_; refine bx ?_; refine tn ?_; refine W_seq ?_; refine W_region ?_; refine Ls (X_move (v := v) rfl) ?_; refine Ls (X_assign (v := v) rfl) ?_; refine L_nil ?_; refine tn ?_; refine W_ret ?_)
        exact endQ_ret1 rfl rfl (v := v) rfl ⟨v, pre, rfl, G3, by rw [ha]; exact hP3, hg _ (gives_congr hr (gives_ok _ _)), hk3, o3⟩
  · have hr : ∀ l, st = .ok l → Qy.filt l = (fun l => .ok ([], l)) l := fun l hl => by unfold Qy.filt; rw [hno l hl]
    (refine Ls (X_not rfl) ?_; refine L_nil ?_; refine tn ?_; refine W_condT rfl ?_; refine W_seq ?_; refine W_region ?_; refine Ls (X_move (v := q1) rfl) ?_; refine Ls (X_assign (v := q1) rfl) ?_; refine L_nil ?_; refine tn ?_; refine W_ret ?_; refine tr ?_)
    exact endQ_ret1 rfl rfl (v := q1) rfl ⟨q1, [], rfl, G02, by rw [after_congr hr, after_ok]; exact hP2, gives_congr hr (gives_ok _ _), by decide, o2⟩
end Go.Proofs.YtipnliodpmjhcaaDoor

/- The reference's Made: the valid query of a raw one. -/
namespace Go.Proofs.YtipnliodpmjhcaaDoor
open Go.RowKit Go.Proofs.K

theorem own_ne2 {w : World} {base base' size size' m m' : Nat} {e e' : TypeId} {v v' : Value} {xs xs' : List Value} (h : w.ownsRow base e size v m xs) (h' : w.ownsRow base' e' size' v' m' xs') (hne : e ≠ e') : ∀ g, v.ownBlock = some g → v'.ownBlock ≠ some g := by
  intro g hg hg'
  obtain ⟨_, hnil | ⟨gq, cap, cur, hv, _, hcur, _⟩⟩ := h
  · rw [hnil.1] at hg; cases hg
  · obtain ⟨_, hnil | ⟨gq', cap', cur', hv', _, hcur', _⟩⟩ := h'
    · rw [hnil.1] at hg'; cases hg'
    · rw [hv] at hg; rw [hv'] at hg'
      have e1 : gq = g := by injection hg
      have e2 : gq' = g := by injection hg'
      rw [e1] at hcur; rw [e2, hcur] at hcur'
      injection hcur' with h1
      injection h1 with _ h2 _
      exact hne h2
/-- filters that the call has made -/
def MadeAt (b : Nat) (w : World) (v : Value) (fs : List (List Qy.Cnd)) : Prop :=
  ∃ us : List Value, us.length = fs.length ∧ w.ownsRow b 28 1 v fs.length us ∧ ∀ (j : Nat) (u : Value) (f : List Qy.Cnd), us[j]? = some u → fs[j]? = some f → w.ownsRow b 46 3 u f.length (cndsI (f.map Qy.liC))
theorem MadeAt.nil (b : Nat) (w : World) : MadeAt b w (.slice none 0 0) [] := ⟨[], rfl, own_empty _ _ _ _, fun j u f hu _ => by simp at hu⟩
theorem MadeAt.grown {b : Nat} {w w' : World} {v : Value} {fs : List (List Qy.Cnd)} {row : Option Nat} (h : MadeAt b w v fs) (hg : w.grownBy w' row) (hr : ∀ g, row = some g → g < b) : MadeAt b w' v fs := by
  obtain ⟨us, h1, h2, h3⟩ := h
  exact ⟨us, h1, own_grown h2 hg hr, fun j u f hu hf => own_grown (h3 j u f hu hf) hg hr⟩
theorem MadeAt.ext {b : Nat} {w w' : World} {v : Value} {fs : List (List Qy.Cnd)} (h : MadeAt b w v fs) (E : Ext w w') : MadeAt b w' v fs := h.grown E (fun _ h => by cases h)
theorem MadeAt.cell {b : Nat} {w : World} {v : Value} {fs : List (List Qy.Cnd)} (h : MadeAt b w v fs) : v.oneCell' = true := by obtain ⟨us, h1, h2, h3⟩ := h; exact own_cell3 h2
theorem MadeAt.base {b b' : Nat} {w : World} {v : Value} {fs : List (List Qy.Cnd)} (h : MadeAt b w v fs) (hb : b' ≤ b) : MadeAt b' w v fs := by
  obtain ⟨us, h1, h2, h3⟩ := h
  exact ⟨us, h1, own_base h2 hb, fun j u f hu hf => own_base (h3 j u f hu hf) hb⟩
/-- a store into a variable of another type -/
theorem MadeAt.store {b g : Nat} {w w' : World} {v : Value} {fs : List (List Qy.Cnd)} {T : TypeId} {cs : List Value} (h : MadeAt b w v fs) (hB : Blk w g T cs) (h1 : T ≠ 46) (h2 : T ≠ 28) (hg : w.grownBy w' (some g)) : MadeAt b w' v fs := by
  obtain ⟨us, k1, k2, k3⟩ := h
  exact ⟨us, k1, own_other k2 hg (fun g' h e => own_ne k2 hB h2 (by injection e with e; subst e; exact h)), fun j u f hu hf => own_other (k3 j u f hu hf) hg (fun g' h e => own_ne (k3 j u f hu hf) hB h1 (by injection e with e; subst e; exact h))⟩
theorem MadeAt.snoc {b : Nat} {w w' : World} {v v' u : Value} {fs : List (List Qy.Cnd)} {us : List Value} {f : List Qy.Cnd} (h1 : us.length = fs.length) (h2 : w.ownsRow b 28 1 v fs.length us) (h3 : ∀ (j : Nat) (u : Value) (f : List Qy.Cnd), us[j]? = some u → fs[j]? = some f → w.ownsRow b 46 3 u f.length (cndsI (f.map Qy.liC)))
    (hu : w.ownsRow b 46 3 u f.length (cndsI (f.map Qy.liC))) (hg : w.grownBy w' v.ownBlock) (ho : w'.ownsRow b 28 1 v' (fs.length + 1) (us ++ [u])) : MadeAt b w' v' (fs ++ [f]) := by
  have hk : ∀ {u' : Value} {f' : List Qy.Cnd}, w.ownsRow b 46 3 u' f'.length (cndsI (f'.map Qy.liC)) → w'.ownsRow b 46 3 u' f'.length (cndsI (f'.map Qy.liC)) := fun hu' => own_other hu' hg (fun g hg' e => own_ne2 h2 hu' (by decide) g e hg')
  refine ⟨us ++ [u], by simp [h1], by rw [List.length_append]; exact ho, fun j u' f' hu' hf' => ?_⟩
  by_cases hj : j < us.length
  · rw [List.getElem?_append_left hj] at hu'
    rw [List.getElem?_append_left (by omega)] at hf'
    exact hk (h3 j u' f' hu' hf')
  · rw [List.getElem?_append_right (by omega)] at hu'
    rw [List.getElem?_append_right (by omega)] at hf'
    have : j - us.length = 0 := by
      cases hq : j - us.length with
      | zero => rfl
      | succ q => rw [hq] at hu'; simp at hu'
    rw [this] at hu'
    rw [← h1, this] at hf'
    simp at hu' hf'
    subst hu' hf'
    exact hk hu
theorem MadeAt.fils {b : Nat} {w : World} {v : Value} {fs : List (List Qy.Cnd)} (h : MadeAt b w v fs) : FilsI w b w.heap.size v (filC fs) := by
  obtain ⟨us, h1, h2, h3⟩ := h
  refine ⟨us, by simp [filC, h1], (Row.of_own h2).re (by simp [filC]) rfl, fun i u f hu hf => ?_⟩
  obtain ⟨f', hf', rfl⟩ : ∃ f', fs[i]? = some f' ∧ f = f'.map Qy.liC := by
    unfold filC at hf
    rw [List.getElem?_map] at hf
    cases hq : fs[i]? with
    | none => rw [hq] at hf; cases hf
    | some f' => rw [hq] at hf; exact ⟨f', rfl, (Option.some.inj hf).symm⟩
  exact (Row.of_own (h3 i u f' hu hf')).re (by simp) rfl
theorem mF_take {l : List Qy.CndI} {k : Nat} {c : Qy.CndI} (h : l[k]? = some c) (hk : k < 3) : (Qy.mF l).take (k + 1) = (Qy.mF l).take k ++ [Qy.mC c] := by
  rw [List.take_add_one]
  have : (Qy.mF l)[k]? = some (Qy.mC c) := by unfold Qy.mF; rw [List.getElem?_map, List.getElem?_take, if_pos hk, h]; rfl
  rw [this]; rfl
theorem mF_len (l : List Qy.CndI) : (Qy.mF l).length = min 3 l.length := by unfold Qy.mF; simp
theorem rmadeM (q : Qy.QI) (v : Value) (lo hi : Nat) (w : World) (hF : FilsI w lo hi v q.fs) :
    Calls Tryd.prog 14 #[.agg (qC q.kind q.col q.k v).toArray] w fun e w' => ∃ u, e = .returned (.agg (qry (Qy.mQ q) u).toArray) ∧ Ext w w' ∧ MadeAt w.heap.size w' u (Qy.mQ q).fs := by
  refine calls_W Tryd.func14 rfl Tryd.ntmps14 rfl ?_
  obtain ⟨kind, col, kk, fs⟩ := q
  dsimp only at hF ⊢
  have hvc := hF.cell
  obtain ⟨x, hx⟩ : ∃ x, x = (kind % 256).toNat % 7 := ⟨_, rfl⟩
  obtain ⟨k, hk⟩ : ∃ k, k = Qy.mK kind := ⟨_, rfl⟩
  have hkx : (1 : Int) + (x : Int) = ((k : Nat) : Int) := by rw [hk, hx]; unfold Qy.mK; omega
  have hk17 : 1 ≤ k ∧ k ≤ 7 := by omega
  obtain ⟨cc, hcc⟩ : ∃ cc, cc = (bif Qy.hasCol k then (col % 4).toNat else 0) := ⟨_, rfl⟩
  obtain ⟨nn, hnn⟩ : ∃ nn, nn = (bif Nat.ble 1 (Qy.maxK k) then 1 + (kk % 65536).toNat % Qy.maxK k else 0) := ⟨_, rfl⟩
  have hmQ : Qy.mQ ⟨kind, col, kk, fs⟩ = ⟨k, cc, nn, (List.range (Qy.nfil k)).map fun i => Qy.mF (fs.getD i [])⟩ := by unfold Qy.mQ; dsimp only; rw [← hk, ← hcc, ← hnn]
  rw [hmQ]
  clear hmQ hk
  have hmk := Qy.maxK_le k
  (refine W_seq ?_; refine W_region ?_)
  refine L_box (l := qC kind col kk v) rfl ?_
  intro g1 w1 B1 hg1 E1 hs1
  refine L_alloc ?_
  intro g2 w2 B2 hg2 E2 hs2
  have C1 := B1.ext E2
  have F2 := hF.ext (E1.trans E2)
  (refine L_nil ?_; refine tn ?_; refine W_seq ?_; refine W_region ?_; refine Ls (X_fld rfl) ?_; refine Ls (X_ld (v := .int .i64 kind) rfl C1 rfl) ?_; refine Ls (X_andE rfl rfl (and255 kind)) ?_; refine Ls ((X_remn (a := (kind % 256).toNat) (b := 7) rfl rfl (by omega)).trans (by rw [← hx])) ?_; refine Ls ((X_addi (b := (x : Nat)) rfl rfl (by omega)).trans (by rw [hkx])) ?_)
  refine Ls (X_mkQ rfl) ?_
  refine L_alloc ?_
  intro g3 w3 B3 hg3 E3 hs3
  refine L_storeW (size := 4) (l := qC (k : Nat) 0 0 (.slice none 0 0)) rfl rfl rfl (qC_cell rfl) B3 rfl ?_
  intro w4 C3 hg4 hs4
  have E24 : Ext w2 w4 := E3.then hg4 (fun g h => by cases h; omega)
  (refine L_nil ?_; refine tn ?_; refine W_seq ?_; refine W_seq ?_; refine W_region ?_; refine Ls (X_fld rfl) ?_; refine Ls (X_ld (v := .int .i64 (k : Nat)) rfl C3 rfl) ?_)
  refine L_fv rfl (rhascol k w4) ?_
  intro w5 E5
  (refine L_nil ?_; refine tn ?_)
  refine W_mono (Q := fun e f w' => e = .normal ∧ Ext w2 w' ∧ w4.heap.size ≤ w'.heap.size ∧ Blk w' g3 24 (qC (k : Nat) (cc : Nat) 0 (.slice none 0 0)) ∧ f 1 = .pointer (some ⟨g1, 0, none⟩) ∧ f 2 = .pointer (some ⟨g2, 0, none⟩) ∧ f 3 = .pointer (some ⟨g3, 0, none⟩)) ?_ ?_
  · rw [hcc]
    have hz5 := E5.size
    cases hh : Qy.hasCol k
    · (refine W_condF rfl ?_; refine W_skip ?_)
      exact ⟨rfl, E24.trans E5, hz5, C3.ext E5, rfl, rfl, rfl⟩
    · (refine W_condT rfl ?_; refine W_region ?_; refine Ls (X_fld rfl) ?_; refine Ls (X_ld (v := .int .i64 col) rfl ((C1.ext E24).ext E5) rfl) ?_; refine Ls (X_andE rfl rfl (and3 col)) ?_; refine Ls (X_fld rfl) ?_)
      refine L_store1 rfl (v := .int .i64 ((col % 4).toNat : Nat)) rfl rfl (C3.ext E5) (by simp [qC]) ?_
      intro w6 B6 hg6 hs6
      (refine L_nil ?_)
      exact ⟨rfl, (E24.trans E5).then hg6 (fun g h => by cases h; omega), by omega, B6, rfl, rfl, rfl⟩
  clear hcc C3 E24 E5
  rintro e f w6 ⟨rfl, E26, hz6, C3, f1, f2, f3⟩
  rw [fold f1, fold f2, fold f3]
  (refine tn ?_; refine W_seq ?_; refine W_seq ?_; refine W_region ?_; refine Ls (X_fld rfl) ?_; refine Ls (X_ld (v := .int .i64 (k : Nat)) rfl C3 rfl) ?_)
  refine L_fv rfl (rmaxK k w6) ?_
  intro w7 E7
  have hz7 := E7.size
  (refine Ls (X_gtr rfl rfl) ?_; refine L_nil ?_; refine tn ?_)
  refine W_mono (Q := fun e f w' => e = .normal ∧ Ext w2 w' ∧ w4.heap.size ≤ w'.heap.size ∧ Blk w' g3 24 (qC (k : Nat) (cc : Nat) (nn : Nat) (.slice none 0 0)) ∧ f 1 = .pointer (some ⟨g1, 0, none⟩) ∧ f 2 = .pointer (some ⟨g2, 0, none⟩) ∧ f 3 = .pointer (some ⟨g3, 0, none⟩)) ?_ ?_
  · by_cases hm : 0 < Qy.maxK k
    · refine W_condp rfl (fun _ => ?_) (fun h => (h (by omega)).elim)
      rw [Nat.ble_eq_true_of_le hm] at hnn
      have hnn : nn = 1 + (kk % 65536).toNat % Qy.maxK k := hnn
      obtain ⟨y, hy⟩ : ∃ y, y = (kk % 65536).toNat % Qy.maxK k := ⟨_, rfl⟩
      have hny : (1 : Int) + (y : Int) = ((nn : Nat) : Int) := by rw [hnn, ← hy]; omega
      have hy2 : y < Qy.maxK k := by rw [hy]; exact Nat.mod_lt _ hm
      skip
      apply W_dagE 6 (by kernel_rfl)
      (apply DW_x (fun r w hA hH => (X_fld rfl).trans rfl); apply DW_x (fun r w hA hH => (X_ld (v := .int .i64 kk) rfl ((C1.ext (E26.trans E7)).ext hA) rfl).trans rfl); apply DW_x (fun r w hA hH => (X_andE rfl rfl (and65535 kk)).trans rfl); apply DW_x (fun r w hA hH => (X_fld rfl).trans rfl); apply DW_x (fun r w hA hH => (X_ld (v := .int .i64 (k : Nat)) rfl ((C3.ext E7).ext hA) rfl).trans rfl))
      ((with_reducible apply DW_fn); (exact fun _ => rfl); (exact fun _ => rfl); (exact fun r w hA hH => rmaxK k w))
      ((with_reducible exact D_end); (exact rfl); (repeat (first | exact .inr (.inr (fun _ _ => by with_reducible rfl)) | (refine And.intro ?_ ?_) | exact .inr (.inl rfl) | exact .inl (by decide +kernel) | exact trivial | exact .inr (.inr (fun _ _ => rfl)))); (try dsimp only [Nat.reduceAdd]))
      intro r w8 E8 _
      have hz8 := E8.size
      (refine Ls ((X_remn (a := (kk % 65536).toNat) (b := Qy.maxK k) rfl rfl hm).trans (by rw [← hy])) ?_; refine Ls ((X_addi (b := (y : Nat)) rfl rfl (by omega)).trans (by rw [hny])) ?_; refine Ls (X_fld rfl) ?_)
      refine L_store1 rfl (v := .int .i64 (nn : Nat)) rfl rfl ((C3.ext E7).ext E8) (by simp [qC]) ?_
      intro w9 B9 hg9 hs9
      (refine L_nil ?_)
      exact ⟨rfl, ((E26.trans E7).trans E8).then hg9 (fun g h => by cases h; omega), by omega, B9, rfl, rfl, rfl⟩
    · refine W_condp rfl (fun h => (hm (by omega)).elim) (fun _ => ?_)
      have hb0 : Nat.ble 1 (Qy.maxK k) = false := by
        cases hb : Nat.ble 1 (Qy.maxK k)
        · rfl
        · exact (hm (Nat.le_of_ble_eq_true hb)).elim
      rw [hb0] at hnn
      have hnn : nn = 0 := hnn
      subst hnn
      (refine W_skip ?_)
      exact ⟨rfl, E26.trans E7, by omega, C3.ext E7, rfl, rfl, rfl⟩
  clear hnn C3 E26 E7 f1 f2 f3 hz6 hz7
  rintro e f w6 ⟨rfl, E26, hz6, C3, f1, f2, f3⟩
  rw [fold f1, fold f2, fold f3]
  obtain ⟨n, hn⟩ : ∃ n, n = Qy.nfil k := ⟨_, rfl⟩
  have hn2 : n ≤ 2 := by rw [hn]; unfold Qy.nfil; cases (k == 7) <;> decide
  rw [← hn]
  (refine tn ?_; refine W_seq ?_; refine W_region ?_; refine Ls (X_assign (v := .int _ _) rfl) ?_; refine L_nil ?_; refine tn ?_; refine W_seq ?_; refine W_seq ?_; refine W_region ?_; refine Ls (X_fld rfl) ?_; refine Ls (X_ld (v := .int .i64 (k : Nat)) rfl C3 rfl) ?_; refine Ls (X_eql rfl rfl) ?_; refine L_nil ?_; refine tn ?_)
  refine W_mono (Q := fun e f w' => e = .normal ∧ w' = w6 ∧ f 1 = .pointer (some ⟨g1, 0, none⟩) ∧ f 2 = .pointer (some ⟨g2, 0, none⟩) ∧ f 3 = .pointer (some ⟨g3, 0, none⟩) ∧ f 4 = .int .i64 (n : Nat)) ?_ ?_
  · by_cases h7 : k = 7
    · have : n = 2 := by rw [hn, h7]; rfl
      subst this
      refine W_condp rfl (fun _ => ?_) (fun h => (h (by omega)).elim)
      (refine W_region ?_; refine Ls (X_assign (v := .int _ _) rfl) ?_; refine L_nil ?_)
      exact ⟨rfl, rfl, rfl, rfl, rfl, rfl⟩
    · have : n = 1 := by rw [hn]; unfold Qy.nfil; rw [beq_false_of_ne h7]; rfl
      subst this
      refine W_condp rfl (fun h => (h7 (by omega)).elim) (fun _ => ?_)
      (refine W_skip ?_)
      exact ⟨rfl, rfl, rfl, rfl, rfl, rfl⟩
  clear hn
  rintro e f w7 ⟨rfl, rfl, f1, f2, f3, f4⟩
  rw [fold f1, fold f2, fold f3, fold f4]
  clear f1 f2 f3 f4
  (refine tn ?_; refine W_seq ?_; refine W_seq ?_; refine W_region ?_; refine Ls (X_assign (v := .int _ _) rfl) ?_; refine L_nil ?_; refine tn ?_; refine W_block ?_)
  refine W_loop (fun z f w' => ∃ (i : Nat) (v' : Value), z = n - i ∧ i ≤ n ∧ Ext w2 w' ∧ w4.heap.size ≤ w'.heap.size ∧ Blk w' g3 24 (qC (k : Nat) (cc : Nat) (nn : Nat) v') ∧ MadeAt w4.heap.size w' v' ((List.range i).map fun i => Qy.mF (fs.getD i [])) ∧
    f 1 = .pointer (some ⟨g1, 0, none⟩) ∧ f 2 = .pointer (some ⟨g2, 0, none⟩) ∧ f 3 = .pointer (some ⟨g3, 0, none⟩) ∧ f 4 = .int .i64 (n : Nat) ∧ f 5 = .int .i64 (i : Nat)) n ?_ ?_
  · exact ⟨0, _, rfl, by omega, E26, hz6, C3, MadeAt.nil _ _, rfl, rfl, rfl, rfl, rfl⟩
  · clear C3 E26 hz6
    rintro z f w7 ⟨i, v', rfl, hi', E7, hz7, C3, M7, f1, f2, f3, f4, f5⟩
    rw [fold f1, fold f2, fold f3, fold f4, fold f5]
    clear f1 f2 f3 f4 f5
    have hlt3 : g3 < w4.heap.size := by omega
    by_cases hin : i < n
    · (refine W_seq ?_; refine W_seq ?_; refine W_region ?_; refine Ls (X_move (v := .int _ _) rfl) ?_; refine Ls (X_move (v := .int _ _) rfl) ?_; refine Ls (X_lssT rfl rfl (by omega)) ?_; refine L_nil ?_; refine tn ?_; refine W_condT rfl ?_; refine W_skip ?_; refine tn ?_; refine W_seq ?_; refine W_block ?_; refine W_seq ?_; refine W_region ?_)
      refine L_lit0 (size := 3) ?_
      intro q6 w8 E8 hs8 o8
      (refine Ls (X_assign (v := q6) rfl) ?_; refine L_nil ?_; refine tn ?_; refine W_seq ?_; refine W_seq ?_; refine W_region ?_; refine Ls (X_assign (v := .int _ _) rfl) ?_; refine L_nil ?_; refine tn ?_; refine W_block ?_)
      obtain ⟨fj, hfj⟩ : ∃ fj, fj = fs.getD i [] := ⟨_, rfl⟩
      refine W_loop (fun z f w' => ∃ (p : Nat) (v6 : Value), z = 3 - p ∧ p ≤ 3 ∧ p ≤ fj.length ∧ Ext w7 w' ∧ w'.ownsRow w7.heap.size 46 3 v6 p (cndsI (((Qy.mF fj).take p).map Qy.liC)) ∧
        f 1 = .pointer (some ⟨g1, 0, none⟩) ∧ f 2 = .pointer (some ⟨g2, 0, none⟩) ∧ f 3 = .pointer (some ⟨g3, 0, none⟩) ∧ f 4 = .int .i64 (n : Nat) ∧ f 5 = .int .i64 (i : Nat) ∧ f 6 = v6 ∧ f 7 = .int .i64 (p : Nat)) 3 ?_ ?_
      · exact ⟨0, q6, rfl, by omega, by omega, E8, o8, rfl, rfl, rfl, rfl, rfl, rfl, rfl⟩
      · clear o8
        rintro z f w9 ⟨p, v6, rfl, hp3, hpl, E9, o9, f1, f2, f3, f4, f5, f6, f7⟩
        rw [fold f1, fold f2, fold f3, fold f4, fold f5, fold f6, fold f7]
        clear f1 f2 f3 f4 f5 f6 f7
        have E29 := E7.trans E9
        have hv6c := own_cell3 o9
        have D1 := C1.ext E29
        obtain ⟨us, hul, hvr, hus⟩ := F2.ext E29
        have hz9 := E9.size
        have hpos : i < fs.length → ∃ u bv ov cv, fs[i]? = some fj ∧ us[i]? = some u ∧ v = .slice (some ⟨bv, ov, none⟩) fs.length cv ∧ w9.rangeAt bv ov us ∧ Row w9 lo hi 3 u fj.length (cndsI fj) := fun hil => by
          have hfi : fs[i]? = some fj := by rw [hfj, List.getD_eq_getElem?_getD, List.getElem?_eq_getElem hil]; rfl
          obtain ⟨u, hu⟩ : ∃ u, us[i]? = some u := ⟨us[i]'(by omega), List.getElem?_eq_getElem (by omega)⟩
          obtain ⟨bv, ov, cv, h, _, _, _, hcv⟩ := hvr.at (k := i) hil
          exact ⟨u, bv, ov, cv, hfi, hu, h, hcv, hus i u fj hu hfi⟩
        have hml := mF_len fj
        have hneg : ¬ i < fs.length → fj.length = 0 := fun h => by rw [hfj, List.getD_eq_getElem?_getD, List.getElem?_eq_none (by omega)]; rfl
        have hz7' : w7.heap.size ≤ w9.heap.size := hz9
        have h4 : (i < fs.length ∧ p < fj.length ∧ p < 3) ∨ (¬ i < fs.length) ∨ (i < fs.length ∧ ¬ p < fj.length) ∨ (i < fs.length ∧ p < fj.length ∧ ¬ p < 3) := by omega
        rcases h4 with ⟨hil, hpf, hp⟩ | hil | ⟨hil, hpf⟩ | ⟨hil, hpf, hp⟩
        case inl =>
          obtain ⟨u, bv, ov, cv, hfi, hu, rfl, hcv, hur⟩ := hpos hil
          obtain ⟨c, hc⟩ : ∃ c, fj[p]? = some c := ⟨fj[p], List.getElem?_eq_getElem hpf⟩
          obtain ⟨bx, ox, cx, rfl, _, _, _, hcx⟩ := hur.at (k := p) hpf
          (refine W_seq ?_; refine W_seq ?_; refine W_region ?_; refine Ls (X_move (v := .int _ _) rfl) ?_; refine Ls (X_fld rfl) ?_; refine Ls (X_ld (v := .slice (some ⟨bv, ov, none⟩) fs.length cv) rfl D1 rfl) ?_; refine Ls (X_lenRow rfl hvr) ?_; refine Ls (X_lssT rfl rfl (by omega)) ?_; refine Ls (X_move (v := .bool _) rfl) ?_; refine Lg2 rfl rfl rfl (X_move (v := .int _ _) rfl) ?_; refine Lg2 rfl rfl rfl (X_fld rfl) ?_; refine Lg2 rfl rfl rfl (X_ld (v := .slice (some ⟨bv, ov, none⟩) fs.length cv) rfl D1 rfl) ?_; refine Lg2 rfl rfl rfl (X_move (v := .int _ _) rfl) ?_; refine Lg2 rfl rfl rfl (X_indexSn rfl rfl (by omega)) ?_; refine Lg2 rfl rfl rfl (X_ldR (j := i) (v := .slice (some ⟨bx, ox, none⟩) fj.length cx) rfl hcv (by omega) hu) ?_; refine Lg2 rfl rfl rfl (X_lenSlice rfl) ?_; refine Lg2 rfl rfl rfl (X_lssT rfl rfl (by omega)) ?_; refine Ls (X_pickT (v := .bool _) rfl rfl) ?_; refine Ls (X_move (v := .bool _) rfl) ?_; refine Lg2 rfl rfl rfl (X_move (v := .int _ _) rfl) ?_; refine Lg2 rfl rfl rfl (X_lssT rfl rfl (by omega)) ?_; refine Ls (X_pickT (v := .bool _) rfl rfl) ?_; refine L_nil ?_; refine tn ?_; refine W_condT rfl ?_; refine W_skip ?_; refine tn ?_; refine W_seq ?_; refine W_block ?_; refine W_region ?_; refine Ls (X_move (v := v6) rfl) ?_; refine Ls (X_fld rfl) ?_; refine Ls (X_ld (v := .slice (some ⟨bv, ov, none⟩) fs.length cv) rfl D1 rfl) ?_; refine Ls (X_move (v := .int _ _) rfl) ?_; refine Ls (X_indexSn rfl rfl (by omega)) ?_; refine Ls (X_ldR (j := i) (v := .slice (some ⟨bx, ox, none⟩) fj.length cx) rfl hcv (by omega) hu) ?_; refine Ls (X_move (v := .int _ _) rfl) ?_; refine Ls (X_indexSn rfl rfl (by omega)) ?_; refine Ls (X_loadA (size := 3) (cs := cndI c) rfl (by exact Rng3 hcx hc) rfl) ?_)
          refine L_fv rfl (rmadeC c w9) ?_
          intro w10 E10
          refine L_lits (zs' := [cndI (Qy.liC (Qy.mC c))]) (cs := cndI (Qy.liC (Qy.mC c))) (Parts.cons (c := cndI (Qy.liC (Qy.mC c))) (z := [.int .i64 0, .int .i64 0, .int .i64 0]) rfl rfl rfl rfl (Parts.nil _)) rfl (by simp) rfl rfl ?_
          intro q11 w11 r11 E11 hs11 _ _
          refine L_append (v := v6) (u := q11) rfl rfl (own_ext o9 (E10.trans E11)) r11 cndI_cell (by omega) (by omega) (by have := E10.size; omega) ?_
          intro v12 w12 o12 hg12 _
          (refine Ls (X_assign (v := v12) rfl) ?_; refine L_nil ?_; refine bn ?_; refine tn ?_; refine W_region ?_; refine Ls (X_move (v := .int _ _) rfl) ?_; refine Ls (X_addi rfl rfl (by omega)) ?_; refine Ls (X_assign (v := .int _ _) rfl) ?_; refine L_nil ?_; refine tn ?_)
          refine ⟨3 - (p + 1), by omega, p + 1, v12, rfl, by omega, by omega, ((E9.trans E10).trans E11).then hg12 (fun g h => (o9.lt g h).1), ?_, rfl, rfl, rfl, rfl, rfl, rfl, rfl⟩
          rw [mF_take hc hp, cndsI_snoc]; exact o12
        case' inr.inl =>
          have hpe : (Qy.mF fj).take p = Qy.mF fj ∧ p = (Qy.mF fj).length := by
            have := hneg hil
            exact ⟨List.take_of_length_le (by omega), by omega⟩
          (refine W_seq ?_; refine W_seq ?_; refine W_region ?_; refine Ls (X_move (v := .int _ _) rfl) ?_; refine Ls (X_fld rfl) ?_; refine Ls (X_ld (v := v) rfl D1 rfl) ?_; refine Ls (X_lenRow (v := v) rfl hvr) ?_; refine Ls (X_lssF rfl rfl (by omega)) ?_; refine Ls (X_move (v := .bool _) rfl) ?_; refine Lo2 rfl rfl rfl rfl ?_; refine Lo2 rfl rfl rfl rfl ?_; refine Lo2 rfl rfl rfl rfl ?_; refine Lo2 rfl rfl rfl rfl ?_; refine Lo2 rfl rfl rfl rfl ?_; refine Lo2 rfl rfl rfl rfl ?_; refine Lo2 rfl rfl rfl rfl ?_; refine Lo2 rfl rfl rfl rfl ?_; refine Ls (X_pickF (v := .bool _) rfl rfl) ?_; refine Ls (X_move (v := .bool _) rfl) ?_; refine Lo2 rfl rfl rfl rfl ?_; refine Lo2 rfl rfl rfl rfl ?_; refine Ls (X_pickF (v := .bool _) rfl rfl) ?_; refine L_nil ?_; refine tn ?_; refine W_condF rfl ?_; refine W_exit ?_; refine te ?_; refine te ?_; refine bx ?_; refine tn ?_; refine W_region ?_; refine Ls (X_fld rfl) ?_)
        case' inr.inr.inl =>
          have hpe : (Qy.mF fj).take p = Qy.mF fj ∧ p = (Qy.mF fj).length := ⟨List.take_of_length_le (by omega), by omega⟩
          obtain ⟨u, bv, ov, cv, hfi, hu, rfl, hcv, hur⟩ := hpos hil
          have huc := row_cell hur
          (refine W_seq ?_; refine W_seq ?_; refine W_region ?_; refine Ls (X_move (v := .int _ _) rfl) ?_; refine Ls (X_fld rfl) ?_; refine Ls (X_ld (v := .slice (some ⟨bv, ov, none⟩) fs.length cv) rfl D1 rfl) ?_; refine Ls (X_lenRow rfl hvr) ?_; refine Ls (X_lssT rfl rfl (by omega)) ?_; refine Ls (X_move (v := .bool _) rfl) ?_; refine Lg2 rfl rfl rfl (X_move (v := .int _ _) rfl) ?_; refine Lg2 rfl rfl rfl (X_fld rfl) ?_; refine Lg2 rfl rfl rfl (X_ld (v := .slice (some ⟨bv, ov, none⟩) fs.length cv) rfl D1 rfl) ?_; refine Lg2 rfl rfl rfl (X_move (v := .int _ _) rfl) ?_; refine Lg2 rfl rfl rfl (X_indexSn rfl rfl (by omega)) ?_; refine Lg2 rfl rfl rfl (X_ldR (j := i) (v := u) rfl hcv (by omega) hu) ?_; refine Lg2 rfl rfl rfl (X_lenRow (v := u) rfl hur) ?_; refine Lg2 rfl rfl rfl (X_lssF rfl rfl (by omega)) ?_; refine Ls (X_pickT (v := .bool _) rfl rfl) ?_; refine Ls (X_move (v := .bool _) rfl) ?_; refine Lo2 rfl rfl rfl rfl ?_; refine Lo2 rfl rfl rfl rfl ?_; refine Ls (X_pickF (v := .bool _) rfl rfl) ?_; refine L_nil ?_; refine tn ?_; refine W_condF rfl ?_; refine W_exit ?_; refine te ?_; refine te ?_; refine bx ?_; refine tn ?_; refine W_region ?_; refine Ls (X_fld rfl) ?_)
        case' inr.inr.inr =>
          have hpe : (Qy.mF fj).take p = Qy.mF fj ∧ p = (Qy.mF fj).length := ⟨List.take_of_length_le (by omega), by omega⟩
          obtain ⟨u, bv, ov, cv, hfi, hu, rfl, hcv, hur⟩ := hpos hil
          have huc := row_cell hur
          (refine W_seq ?_; refine W_seq ?_; refine W_region ?_; refine Ls (X_move (v := .int _ _) rfl) ?_; refine Ls (X_fld rfl) ?_; refine Ls (X_ld (v := .slice (some ⟨bv, ov, none⟩) fs.length cv) rfl D1 rfl) ?_; refine Ls (X_lenRow rfl hvr) ?_; refine Ls (X_lssT rfl rfl (by omega)) ?_; refine Ls (X_move (v := .bool _) rfl) ?_; refine Lg2 rfl rfl rfl (X_move (v := .int _ _) rfl) ?_; refine Lg2 rfl rfl rfl (X_fld rfl) ?_; refine Lg2 rfl rfl rfl (X_ld (v := .slice (some ⟨bv, ov, none⟩) fs.length cv) rfl D1 rfl) ?_; refine Lg2 rfl rfl rfl (X_move (v := .int _ _) rfl) ?_; refine Lg2 rfl rfl rfl (X_indexSn rfl rfl (by omega)) ?_; refine Lg2 rfl rfl rfl (X_ldR (j := i) (v := u) rfl hcv (by omega) hu) ?_; refine Lg2 rfl rfl rfl (X_lenRow (v := u) rfl hur) ?_; refine Lg2 rfl rfl rfl (X_lssT rfl rfl (by omega)) ?_; refine Ls (X_pickT (v := .bool _) rfl rfl) ?_; refine Ls (X_move (v := .bool _) rfl) ?_; refine Lg2 rfl rfl rfl (X_move (v := .int _ _) rfl) ?_; refine Lg2 rfl rfl rfl (X_lssF rfl rfl (by omega)) ?_; refine Ls (X_pickT (v := .bool _) rfl rfl) ?_; refine L_nil ?_; refine tn ?_; refine W_condF rfl ?_; refine W_exit ?_; refine te ?_; refine te ?_; refine bx ?_; refine tn ?_; refine W_region ?_; refine Ls (X_fld rfl) ?_)
        all_goals
          obtain ⟨hpe, hpn⟩ := hpe
          rw [hpe, hpn] at o9
          have C9 := C3.ext E9
          have M9 := M7.ext E9
          have hvc' := M7.cell
          (refine Ls (X_ld (v := v') rfl C9 rfl) ?_; refine Ls (X_move (v := v6) rfl) ?_)
          refine L_lit1 (v := v6) rfl hv6c ?_
          intro q10 w10 r10 E10 hs10 _
          obtain ⟨us', hul', ho', hus'⟩ := M9.ext E10
          have hlr : ((List.range i).map fun i => Qy.mF (fs.getD i [])).length = i := by simp
          refine L_append (v := v') (u := q10) rfl rfl ho' r10 (by intro q hq; simp at hq; rw [hq]; exact hv6c) (by omega) (by omega) (by omega) ?_
          intro v11 w11 o11 hg11 _
          have M11 := MadeAt.snoc hul' ho' hus' (own_base (own_ext o9 E10) hz7) hg11 o11
          have C11 := (C9.ext E10).grown hg11 (own_ne ho' (C9.ext E10) (by decide))
          have hv11c := own_cell3 o11
          (refine Ls (X_fld rfl) ?_)
          refine L_store1 rfl (v := v11) rfl hv11c C11 (by simp [qC]) ?_
          intro w12 B12 hg12 hs12
          have hge : ∀ g, v'.ownBlock = some g → w4.heap.size ≤ g := fun g h => (ho'.lt g h).1
          have hz11 := hg11.size
          (refine L_nil ?_; refine bn ?_; refine tn ?_; refine W_region ?_; refine Ls (X_move (v := .int _ _) rfl) ?_; refine Ls (X_addi rfl rfl (by omega)) ?_; refine Ls (X_assign (v := .int _ _) rfl) ?_; refine L_nil ?_; refine tn ?_)
          refine ⟨n - (i + 1), by omega, i + 1, v11, rfl, by omega, (((E7.trans E9).trans E10).then hg11 (fun g h => by have := hge g h; omega)).then hg12 (fun g h => by cases h; omega), by omega, B12, ?_, rfl, rfl, rfl, rfl, rfl⟩
          rw [List.range_succ, List.map_append]
          have := M11.grown hg12 (fun g h => by cases h; omega)
          rw [hfj] at this
          exact this
    · obtain rfl : i = n := by omega
      (refine W_seq ?_; refine W_seq ?_; refine W_region ?_; refine Ls (X_move (v := .int _ _) rfl) ?_; refine Ls (X_move (v := .int _ _) rfl) ?_; refine Ls (X_lssF rfl rfl (by omega)) ?_; refine L_nil ?_; refine tn ?_; refine W_condF rfl ?_; refine W_exit ?_; refine te ?_; refine te ?_; refine bx ?_; refine tn ?_; refine W_seq ?_; refine W_region ?_; refine Ls (X_ldW (size := 4) rfl C3 rfl) ?_)
      refine L_storeW (size := 4) (l := qC (k : Nat) (cc : Nat) (nn : Nat) v') rfl rfl rfl (qC_cell M7.cell) (B2.ext E7) rfl ?_
      intro w8 B8 hg8 hs8
      (refine L_nil ?_; refine tn ?_; refine W_ret ?_)
      have M8 := M7.grown hg8 (fun g h => by cases h; omega)
      refine endQ_res rfl rfl (Res.cellA (cs := qC (k : Nat) (cc : Nat) (nn : Nat) v') inferInstance rfl (B8.range (fun j u h => by rw [Nat.zero_add]; exact h)) rfl .nil) ?_
      exact ⟨v', rfl, ((E1.trans E2).trans E7).then hg8 (fun g h => by cases h; omega), M8.base (by omega)⟩
theorem rmade (q : Qy.QI) (v : Value) (lo hi : Nat) (w : World) (hF : FilsI w lo hi v q.fs) :
    Calls Tryd.prog 14 #[.agg (qC q.kind q.col q.k v).toArray] w fun e w' => ∃ u, e = .returned (.agg (qry (Qy.mQ q) u).toArray) ∧ Ext w w' ∧ FilsI w' w.heap.size w'.heap.size u (filC (Qy.mQ q).fs) :=
  (rmadeM q v lo hi w hF).mono fun _ _ ⟨u, h1, h2, h3⟩ => ⟨u, h1, h2, h3.fils⟩
end Go.Proofs.YtipnliodpmjhcaaDoor
