/- YP, YR, YT, YS, YW, YX, YQ. -/
import Derived.Test.YtipnliodpmjhcaaDoorQ5
/- The reference's Match and the canonical text. -/
namespace Go.Proofs.YtipnliodpmjhcaaDoor
open Go.RowKit Go.Proofs.K

theorem val_int {k : IntKind} {v : Value} {a b : Int} (h : v = .int k a) (e : a = b) : v = .int k b := by rw [h, e]
theorem mt_false {rd : Qy.Rd} {l : List Qy.Cnd} {i : Nat} {c : Qy.Cnd} (h : l[i]? = some c) (hc : Qy.mt1 rd c = false) : Qy.mt rd l = false := by
  unfold Qy.mt; rw [List.all_eq_false]; exact ⟨c, List.mem_of_getElem? h, by simp [hc]⟩
theorem all_take {α : Type} {p : α → Bool} {l : List α} {i : Nat} {c : α} (h : l[i]? = some c) (h1 : (l.take i).all p = true) (h2 : p c = true) : (l.take (i + 1)).all p = true := by
  rw [List.take_add_one, h, List.all_append, h1]; simp [h2]
theorem liC_get {l : List Qy.Cnd} {i : Nat} {c : Qy.Cnd} (h : l[i]? = some c) : (l.map Qy.liC)[i]? = some (Qy.liC c) := by simp [h]
theorem row_cell {w : World} {lo hi size m : Nat} {v : Value} {xs : List Value} (h : Row w lo hi size v m xs) : v.oneCell' = true := by obtain ⟨_, A, c, rfl, _⟩ := h; rfl
theorem rmatch (lo hi : Nat) (v : Value) (l : List Qy.Cnd) (rd : Qy.Rd) (hl : l.length ≤ 1000) (hc : ∀ c ∈ l, c.1 < 4) (w : World) (hr : Row w lo hi 3 v l.length (cndsI (l.map Qy.liC))) :
    Calls Tryd.prog 17 #[v, .agg (rdC rd).toArray] w fun e w' => e = .returned (.bool (Qy.mt rd l)) ∧ Ext w w' := by
  refine calls_W Tryd.func17 rfl Tryd.ntmps17 rfl ?_
  have hvc := row_cell hr
  (refine W_seq ?_; refine W_region ?_)
  refine L_box (l := rdC rd) rfl ?_
  intro g3 w1 B3 hg3 E1 hs1
  (refine Ls (X_assign (v := .bool _) rfl) ?_; refine L_nil ?_; refine tn ?_; refine W_seq ?_; refine W_seq ?_; refine W_region ?_; refine Ls (X_assign (v := .int _ _) rfl) ?_; refine L_nil ?_; refine tn ?_; refine W_block ?_)
  refine W_loop (fun z f w' => ∃ i, z = l.length - i ∧ i ≤ l.length ∧ (l.take i).all (Qy.mt1 rd) = true ∧ Ext w1 w' ∧ f 0 = v ∧ f 3 = .pointer (some ⟨g3, 0, none⟩) ∧ f 5 = .int .i64 (i : Nat)) l.length ?_ ?_
  · exact ⟨0, rfl, by omega, rfl, Ext.refl _, rfl, rfl, rfl⟩
  · rintro z f w2 ⟨i, rfl, hi', hall, E2, f0, f3, f5⟩
    rw [fold f0, fold f3, fold f5]
    have hr2 := (hr.ext E1).ext E2
    have D3 := B3.ext E2
    by_cases hlt : i < l.length
    · obtain ⟨c, hci⟩ : ∃ c, l[i]? = some c := ⟨l[i], List.getElem?_eq_getElem hlt⟩
      have hcI := liC_get hci
      have hc4 := hc c (List.mem_of_getElem? hci)
      obtain ⟨b0, o0, c0, rfl, _, _, _, hcell⟩ := hr2.at hlt
      have R3 := Rng3 hcell hcI
      (refine W_seq ?_; refine W_seq ?_; refine W_region ?_; refine Ls (X_move (v := .int _ _) rfl) ?_; refine Ls (X_move (v := .slice _ _ _) rfl) ?_; refine Ls (X_lenRow rfl hr2) ?_; refine Ls (X_lssT rfl rfl (by omega)) ?_; refine L_nil ?_; refine tn ?_; refine W_condT rfl ?_; refine W_skip ?_; refine tn ?_; refine W_seq ?_; refine W_block ?_; refine W_seq ?_)
      apply W_dagE 6 (by kernel_rfl)
      (apply DW_x (fun r w hA hH => (X_ldW (size := 4) rfl (D3.ext hA) rfl).trans rfl); apply DW_x (fun r w hA hH => (X_move (v := .slice _ _ _) rfl).trans rfl); apply DW_x (fun r w hA hH => (X_move (v := .int _ _) rfl).trans rfl); apply DW_x (fun r w hA hH => (X_indexSn rfl rfl (by omega)).trans rfl); apply DW_x (fun r w hA hH => (X_fld rfl).trans rfl); apply DW_x (fun r w hA hH => (X_ldR (j := 0) rfl (hA.range R3) rfl rfl).trans rfl))
      ((with_reducible exact D_end); (exact rfl); (repeat (first | exact .inr (.inr (fun _ _ => by with_reducible rfl)) | (refine And.intro ?_ ?_) | exact .inr (.inl rfl) | exact .inl (by decide +kernel) | exact trivial | exact .inr (.inr (fun _ _ => rfl)))); (try dsimp only [Nat.reduceAdd]))
      intro r w3 E3 _
      have R3' := E3.range R3
      have hv := rvalue rd c.1 hc4 w3
      obtain ⟨x, hx⟩ : ∃ x, x = rd c.1 := ⟨_, rfl⟩
      rw [← hx] at hv
      refine L_fv rfl (hv) ?_
      intro w4 E4
      have R4 := E4.range R3'
      have E24 := E3.trans E4
      by_cases h1 : x < c.2.1
      · have hf : Qy.mt1 rd c = false := by unfold Qy.mt1; rw [← hx, Bool.eq_false_iff]; simp; omega
        (refine Ls (X_assign (v := .int _ _) rfl) ?_; refine L_nil ?_; refine tn ?_; refine W_seq ?_; refine W_region ?_; refine Ls (X_move (v := .int _ _) rfl) ?_; refine Ls (X_move (v := .slice _ _ _) rfl) ?_; refine Ls (X_move (v := .int _ _) rfl) ?_; refine Ls (X_indexSn rfl rfl (by omega)) ?_; refine Ls (X_fld rfl) ?_; refine Ls (X_ldR (j := 1) (v := .int .i64 (c.2.1 : Nat)) rfl R4 (by omega) rfl) ?_; refine Ls (X_lssT rfl rfl (by omega)) ?_; refine Ls (X_move (v := .bool _) rfl) ?_; refine Lo2 rfl rfl rfl rfl ?_; refine Lo2 rfl rfl rfl rfl ?_; refine Lo2 rfl rfl rfl rfl ?_; refine Lo2 rfl rfl rfl rfl ?_; refine Lo2 rfl rfl rfl rfl ?_; refine Lo2 rfl rfl rfl rfl ?_; refine Lo2 rfl rfl rfl rfl ?_; refine Ls (X_pickT (v := .bool _) rfl rfl) ?_; refine L_nil ?_; refine tn ?_; refine W_condT rfl ?_; refine W_seq ?_; refine W_region ?_; refine Ls (X_assign (v := .bool _) rfl) ?_; refine L_nil ?_; refine tn ?_; refine W_ret ?_; refine br ?_; refine tr ?_; refine tr ?_; refine br ?_; refine tr ?_)
        refine endQ_ret1 rfl rfl (v := .bool false) rfl ⟨?_, (E1.trans E2).trans E24⟩
        rw [mt_false hci hf]
      · by_cases h2 : c.2.2 < x
        · have hf : Qy.mt1 rd c = false := by unfold Qy.mt1; rw [← hx, Bool.eq_false_iff]; simp; omega
          (refine Ls (X_assign (v := .int _ _) rfl) ?_; refine L_nil ?_; refine tn ?_; refine W_seq ?_; refine W_region ?_; refine Ls (X_move (v := .int _ _) rfl) ?_; refine Ls (X_move (v := .slice _ _ _) rfl) ?_; refine Ls (X_move (v := .int _ _) rfl) ?_; refine Ls (X_indexSn rfl rfl (by omega)) ?_; refine Ls (X_fld rfl) ?_; refine Ls (X_ldR (j := 1) (v := .int .i64 (c.2.1 : Nat)) rfl R4 (by omega) rfl) ?_; refine Ls (X_lssF rfl rfl (by omega)) ?_; refine Ls (X_move (v := .bool _) rfl) ?_; refine Lg2 rfl rfl rfl (X_move (v := .int _ _) rfl) ?_; refine Lg2 rfl rfl rfl (X_move (v := .slice _ _ _) rfl) ?_; refine Lg2 rfl rfl rfl (X_move (v := .int _ _) rfl) ?_; refine Lg2 rfl rfl rfl (X_indexSn rfl rfl (by omega)) ?_; refine Lg2 rfl rfl rfl (X_fld rfl) ?_; refine Lg2 rfl rfl rfl (X_ldR (j := 2) (v := .int .i64 (c.2.2 : Nat)) rfl R4 (by omega) rfl) ?_; refine Lg2 rfl rfl rfl (X_gtrT rfl rfl (by omega)) ?_; refine Ls (X_pickF (v := .bool _) rfl rfl) ?_; refine L_nil ?_; refine tn ?_; refine W_condT rfl ?_; refine W_seq ?_; refine W_region ?_; refine Ls (X_assign (v := .bool _) rfl) ?_; refine L_nil ?_; refine tn ?_; refine W_ret ?_; refine br ?_; refine tr ?_; refine tr ?_; refine br ?_; refine tr ?_)
          refine endQ_ret1 rfl rfl (v := .bool false) rfl ⟨?_, (E1.trans E2).trans E24⟩
          rw [mt_false hci hf]
        · have hf : Qy.mt1 rd c = true := by unfold Qy.mt1; rw [← hx]; simp; omega
          (refine Ls (X_assign (v := .int _ _) rfl) ?_; refine L_nil ?_; refine tn ?_; refine W_seq ?_; refine W_region ?_; refine Ls (X_move (v := .int _ _) rfl) ?_; refine Ls (X_move (v := .slice _ _ _) rfl) ?_; refine Ls (X_move (v := .int _ _) rfl) ?_; refine Ls (X_indexSn rfl rfl (by omega)) ?_; refine Ls (X_fld rfl) ?_; refine Ls (X_ldR (j := 1) (v := .int .i64 (c.2.1 : Nat)) rfl R4 (by omega) rfl) ?_; refine Ls (X_lssF rfl rfl (by omega)) ?_; refine Ls (X_move (v := .bool _) rfl) ?_; refine Lg2 rfl rfl rfl (X_move (v := .int _ _) rfl) ?_; refine Lg2 rfl rfl rfl (X_move (v := .slice _ _ _) rfl) ?_; refine Lg2 rfl rfl rfl (X_move (v := .int _ _) rfl) ?_; refine Lg2 rfl rfl rfl (X_indexSn rfl rfl (by omega)) ?_; refine Lg2 rfl rfl rfl (X_fld rfl) ?_; refine Lg2 rfl rfl rfl (X_ldR (j := 2) (v := .int .i64 (c.2.2 : Nat)) rfl R4 (by omega) rfl) ?_; refine Lg2 rfl rfl rfl (X_gtrF rfl rfl (by omega)) ?_; refine Ls (X_pickF (v := .bool _) rfl rfl) ?_; refine L_nil ?_; refine tn ?_; refine W_condF rfl ?_; refine W_skip ?_; refine bn ?_; refine tn ?_; refine W_region ?_; refine Ls (X_move (v := .int _ _) rfl) ?_; refine Ls (X_addi rfl rfl (by omega)) ?_; refine Ls (X_assign (v := .int _ _) rfl) ?_; refine L_nil ?_; refine tn ?_)
          exact ⟨l.length - (i + 1), by omega, i + 1, rfl, by omega, all_take hci hall hf, E2.trans E24, rfl, rfl, rfl⟩
    · obtain rfl : i = l.length := by omega
      (refine W_seq ?_; refine W_seq ?_; refine W_region ?_; refine Ls (X_move (v := .int _ _) rfl) ?_; refine Ls (X_move (v := v) rfl) ?_; refine Ls (X_lenRow (v := v) rfl hr2) ?_; refine Ls (X_lssF rfl rfl (by omega)) ?_; refine L_nil ?_; refine tn ?_; refine W_condF rfl ?_; refine W_exit ?_; refine te ?_; refine te ?_; refine bx ?_; refine tn ?_; refine W_seq ?_; refine W_region ?_; refine Ls (X_assign (v := .bool _) rfl) ?_; refine L_nil ?_; refine tn ?_; refine W_ret ?_)
      refine endQ_ret1 rfl rfl (v := .bool true) rfl ⟨?_, E1.trans E2⟩
      rw [List.take_length] at hall
      rw [show Qy.mt rd l = true from hall]

theorem fFil_snoc : ∀ (l : List Qy.Cnd) (b : Bool) (c : Qy.Cnd), Qy.fFil b (l ++ [c]) = Qy.fFil b l ++ ([32] ++ (bif (bif l.isEmpty then b else false) then Qy.tWhere else Qy.tAnd) ++ [32] ++ Qy.fCond c)
  | [], b, c => by simp [Qy.fFil]
  | d :: l, b, c => by
    show [32] ++ _ ++ [32] ++ Qy.fCond d ++ Qy.fFil false (l ++ [c]) = [32] ++ _ ++ [32] ++ Qy.fCond d ++ Qy.fFil false l ++ _
    rw [fFil_snoc l false c]
    cases l <;> simp
theorem take_emp {α : Type} {l : List α} {i : Nat} (h : i < l.length) : (l.take i).isEmpty = (i == 0) := by
  cases i with
  | zero => rfl
  | succ i => cases l with
    | nil => simp at h
    | cons a l => rfl
theorem rfmtf (lo hi : Nat) (v : Value) (l : List Qy.Cnd) (hf : Qy.okF l) (w : World) (hr : Row w lo hi 3 v l.length (cndsI (l.map Qy.liC))) :
    Calls Tryd.prog 43 #[v] w fun e w' => e = .returned (.string (strB (Qy.fFil true l))) ∧ Ext w w' := by
  refine calls_W Tryd.func43 rfl Tryd.ntmps43 rfl ?_
  have hvc := row_cell hr
  have hl3 := hf.1
  (refine W_seq ?_; refine W_region ?_; refine Ls (X_assign (v := .string _) rfl) ?_; refine L_nil ?_; refine tn ?_; refine W_seq ?_; refine W_region ?_; refine Ls (X_assign (v := .string _) rfl) ?_; refine L_nil ?_; refine tn ?_; refine W_seq ?_; refine W_seq ?_; refine W_region ?_; refine Ls (X_assign (v := .int _ _) rfl) ?_; refine L_nil ?_; refine tn ?_; refine W_block ?_)
  refine W_loop (fun z f w' => ∃ i, z = l.length - i ∧ i ≤ l.length ∧ Ext w w' ∧ f 0 = v ∧ f 3 = .string (strB (Qy.fFil true (l.take i))) ∧ f 4 = .int .i64 (i : Nat)) l.length ?_ ?_
  · exact ⟨0, rfl, by omega, Ext.refl _, rfl, rfl, rfl⟩
  · rintro z f w1 ⟨i, rfl, hi', E1, f0, f3, f4⟩
    rw [fold f0, fold f3, fold f4]
    have hr1 := hr.ext E1
    by_cases hlt : i < l.length
    · obtain ⟨⟨c, a, b⟩, hci⟩ : ∃ c, l[i]? = some c := ⟨l[i], List.getElem?_eq_getElem hlt⟩
      have hcI := liC_get hci
      have hok := hf.2 _ (List.mem_of_getElem? hci)
      have hcm := Qy.cmax_le c
      obtain ⟨hc4, hab, hbm⟩ : c < 4 ∧ a ≤ b ∧ b ≤ Qy.cmax c := hok
      have hsn := fFil_snoc (l.take i) true (c, a, b)
      rw [take_emp hlt] at hsn
      have htk : l.take (i + 1) = l.take i ++ [(c, a, b)] := by rw [List.take_add_one, hci]; rfl
      rw [← htk] at hsn
      have hFl : (Qy.fFil true (l.take i)).length ≤ 100 := by
        have h1 := Qy.fFil_len true (l.take i) fun d hd => hf.2 d (List.mem_of_mem_take hd)
        have h2 : (l.take i).length ≤ 3 := by rw [List.length_take]; omega
        omega
      obtain ⟨F, hF⟩ : ∃ F, F = Qy.fFil true (l.take i) := ⟨_, rfl⟩
      rw [← hF] at hsn hFl ⊢
      obtain ⟨b0, o0, c0, rfl, _, _, _, hcell⟩ := hr1.at hlt
      have R1 : w1.rangeAt b0 (o0 + i * 3) (cndI (Qy.liC (c, a, b))) := Rng3 hcell hcI
      have n1 := Qy.name_len c
      have n2 := dig_len (a + 1) a (by omega)
      have n3 := dig_len (b + 1) b (by omega)
      obtain ⟨jt, hjt, hj⟩ : ∃ jt, jt = (bif (i == 0) then [32] ++ Qy.tWhere ++ [32] else [32] ++ Qy.tAnd ++ [32] : List Nat) ∧ jt.length ≤ 7 := ⟨_, rfl, by cases (i == 0) <;> decide⟩
      have hsn2 : Qy.fFil true (l.take (i + 1)) = ((((((F ++ jt) ++ Qy.name c) ++ ([32] ++ Qy.tIn ++ [32])) ++ Qy.dig a) ++ Qy.tDots) ++ Qy.dig b) := by
        rw [hsn, hjt]; cases (i == 0) <;> simp [Qy.fCond]
      clear hF hsn
      (refine W_seq ?_; refine W_seq ?_; refine W_region ?_; refine Ls (X_move (v := .int _ _) rfl) ?_; refine Ls (X_move (v := .slice _ _ _) rfl) ?_; refine Ls (X_lenRow rfl hr1) ?_; refine Ls (X_lssT rfl rfl (by omega)) ?_; refine L_nil ?_; refine tn ?_; refine W_condT rfl ?_; refine W_skip ?_; refine tn ?_; refine W_seq ?_; refine W_block ?_; refine W_seq ?_; refine W_region ?_; refine Ls (X_assign (v := .string _) rfl) ?_; refine L_nil ?_; refine tn ?_; refine W_seq ?_; refine W_seq ?_; refine W_region ?_; refine Ls (X_move (v := .int _ _) rfl) ?_; refine Ls (X_gtr rfl rfl) ?_; refine L_nil ?_; refine tn ?_)
      refine W_mono (Q := fun e f w' => e = .normal ∧ w' = w1 ∧ f 0 = .slice (some ⟨b0, o0, none⟩) l.length c0 ∧ f 3 = .string (strB F) ∧ f 4 = .int .i64 (i : Nat) ∧ f 5 = .string (strB jt)) ?_ ?_
      · by_cases h0 : i = 0
        · have e0 : (i == 0) = true := by simp [h0]
          rw [hjt, e0]
          refine W_condp rfl (fun h => by omega) (fun _ => ?_)
          (refine W_skip ?_)
          exact ⟨rfl, rfl, rfl, rfl, rfl, rfl⟩
        · have e0 : (i == 0) = false := by simp [h0]
          rw [hjt, e0]
          refine W_condp rfl (fun _ => ?_) (fun h => by omega)
          (refine W_region ?_; refine Ls (X_assign (v := .string _) rfl) ?_; refine L_nil ?_)
          exact ⟨rfl, rfl, rfl, rfl, rfl, rfl⟩
      · rintro e f w' ⟨rfl, rfl, f0, f3, f4, f5⟩
        rw [fold f0, fold f3, fold f4, fold f5]
        (refine tn ?_)
        apply W_dagE 25 (by kernel_rfl)
        (apply DW_x (fun r w hA hH => (X_move (v := .string _) rfl).trans rfl); apply DW_x (fun r w hA hH => (X_move (v := .string _) rfl).trans rfl))
        ((with_reducible apply DW_x); (exact fun r w hA hH => (X_addSL (b := jt) rfl rfl rfl (by omega)).trans rfl))
        (apply DW_x (fun r w hA hH => (X_move (v := .slice _ _ _) rfl).trans rfl); apply DW_x (fun r w hA hH => (X_move (v := .int _ _) rfl).trans rfl); apply DW_x (fun r w hA hH => (X_indexSn rfl rfl (by omega)).trans rfl); apply DW_x (fun r w hA hH => (X_fld rfl).trans rfl); apply DW_x (fun r w hA hH => (X_ldR (j := 0) (v := .int .i64 (c : Nat)) rfl (hA.range R1) rfl rfl).trans rfl))
        ((with_reducible apply DW_fn); (exact fun _ => rfl); (exact fun _ => rfl); (exact fun r w hA hH => rcolumn c hc4 w))
        ((with_reducible apply DW_x); (exact fun r w hA hH => (X_addSL (b := Qy.name c) rfl rfl rfl (by rw [List.length_append]; omega)).trans rfl))
        ((with_reducible apply DW_x); (exact fun r w hA hH => (X_addSL (b := [32] ++ Qy.tIn ++ [32]) rfl rfl rfl (by simp only [List.length_append, Qy.tIn, List.length_cons, List.length_nil]; omega)).trans rfl))
        (apply DW_x (fun r w hA hH => (X_move (v := .slice _ _ _) rfl).trans rfl); apply DW_x (fun r w hA hH => (X_move (v := .int _ _) rfl).trans rfl); apply DW_x (fun r w hA hH => (X_indexSn rfl rfl (by omega)).trans rfl); apply DW_x (fun r w hA hH => (X_fld rfl).trans rfl); apply DW_x (fun r w hA hH => (X_ldR (j := 1) (v := .int .i64 (a : Nat)) rfl (hA.range R1) rfl rfl).trans rfl))
        ((with_reducible apply DW_fn); (exact fun _ => rfl); (exact fun _ => rfl); (exact fun r w hA hH => rdig a (by omega) w))
        ((with_reducible apply DW_x); (exact fun r w hA hH => (X_addSL (b := Qy.dig a) rfl rfl rfl (by simp only [List.length_append, Qy.tIn, List.length_cons, List.length_nil]; omega)).trans rfl))
        ((with_reducible apply DW_x); (exact fun r w hA hH => (X_addSL (b := Qy.tDots) rfl rfl rfl (by simp only [List.length_append, Qy.tIn, Qy.tDots, List.length_cons, List.length_nil]; omega)).trans rfl))
        (apply DW_x (fun r w hA hH => (X_move (v := .slice _ _ _) rfl).trans rfl); apply DW_x (fun r w hA hH => (X_move (v := .int _ _) rfl).trans rfl); apply DW_x (fun r w hA hH => (X_indexSn rfl rfl (by omega)).trans rfl); apply DW_x (fun r w hA hH => (X_fld rfl).trans rfl); apply DW_x (fun r w hA hH => (X_ldR (j := 2) (v := .int .i64 (b : Nat)) rfl (hA.range R1) rfl rfl).trans rfl))
        ((with_reducible apply DW_fn); (exact fun _ => rfl); (exact fun _ => rfl); (exact fun r w hA hH => rdig b (by omega) w))
        ((with_reducible exact D_end); (exact rfl); (repeat (first | exact .inr (.inr (fun _ _ => by with_reducible rfl)) | (refine And.intro ?_ ?_) | exact .inr (.inl rfl) | exact .inl (by decide +kernel) | exact trivial | exact .inr (.inr (fun _ _ => rfl)))); (try dsimp only [Nat.reduceAdd]))
        intro r w3 E3 _
        (refine Ls (X_addSL (b := Qy.dig b) rfl rfl rfl (by simp only [List.length_append, Qy.tIn, Qy.tDots, List.length_cons, List.length_nil]; omega)) ?_; refine Ls (X_assign (v := .string _) rfl) ?_; refine L_nil ?_; refine bn ?_; refine tn ?_; refine W_region ?_; refine Ls (X_move (v := .int _ _) rfl) ?_; refine Ls (X_addi rfl rfl (by omega)) ?_; refine Ls (X_assign (v := .int _ _) rfl) ?_; refine L_nil ?_; refine tn ?_)
        exact ⟨l.length - (i + 1), by omega, i + 1, rfl, by omega, E1.trans E3, rfl, by rw [hsn2]; rfl, rfl⟩
    · obtain rfl : i = l.length := by omega
      (refine W_seq ?_; refine W_seq ?_; refine W_region ?_; refine Ls (X_move (v := .int _ _) rfl) ?_; refine Ls (X_move (v := v) rfl) ?_; refine Ls (X_lenRow (v := v) rfl hr1) ?_; refine Ls (X_lssF rfl rfl (by omega)) ?_; refine L_nil ?_; refine tn ?_; refine W_condF rfl ?_; refine W_exit ?_; refine te ?_; refine te ?_; refine bx ?_; refine tn ?_; refine W_seq ?_; refine W_region ?_; refine Ls (X_move (v := .string _) rfl) ?_; refine Ls (X_assign (v := .string _) rfl) ?_; refine L_nil ?_; refine tn ?_; refine W_ret ?_)
      refine endQ_ret1 rfl rfl (v := .string _) rfl ⟨?_, E1⟩
      rw [List.take_length]

set_option maxRecDepth 100000 in
/-- the canonical text of a valid query -/
theorem rformat (q : Qy.Q) (hq : Qy.Ok q) (v : Value) (lo hi : Nat) (w : World) (hF : FilsI w lo hi v (filC q.fs)) :
    Calls Tryd.prog 19 #[.agg (qry q v).toArray] w fun e w' => e = .returned (.string (strB (Qy.format q))) ∧ Ext w w' := by
  refine calls_W Tryd.func19 rfl Tryd.ntmps19 rfl ?_
  have hvc := hF.cell
  have hlen := Qy.format_len hq
  have hk7 := hq.k7
  have hk1 := hq.k1
  have hc4 := hq.c
  have hn0 := hq.n0
  have hfl := hq.fl
  have hff := hq.f
  obtain ⟨k, c, n, fs⟩ := q
  dsimp only at hF hvc hk7 hk1 hc4 hn0 hfl hff
  have hmk := Qy.maxK_le k
  (refine W_seq ?_; refine W_region ?_)
  refine L_box (l := qC (k : Nat) (c : Nat) (n : Nat) v) rfl ?_
  intro g1 w1 B1 hg1 E1 hs1
  (refine Ls (X_assign (v := .string _) rfl) ?_; refine L_nil ?_; refine tn ?_; refine W_seq ?_; refine W_region ?_; refine Ls (X_fld rfl) ?_; refine Ls (X_ld (v := .int .i64 (k : Nat)) rfl B1 rfl) ?_)
  refine L_fv rfl (rkeyword k hk1 hk7 w1) ?_
  intro w2 E2
  have B2 := B1.ext E2
  have kl := Qy.keyword_len k
  have nl := Qy.name_len c
  have dl := dig_len (n + 1) n (by omega)
  (refine Ls (X_assign (v := .string _) rfl) ?_; refine L_nil ?_; refine tn ?_; refine W_seq ?_; refine W_seq ?_; refine W_region ?_; refine Ls (X_fld rfl) ?_; refine Ls (X_ld (v := .int .i64 (k : Nat)) rfl B2 rfl) ?_)
  refine L_fv rfl (rhascol k w2) ?_
  intro w3 E3
  have B3 := B2.ext E3
  (refine L_nil ?_; refine tn ?_)
  obtain ⟨s1, hs1'⟩ : ∃ s1, s1 = Qy.keyword k ++ (bif Qy.hasCol k then [32] ++ Qy.name c else []) := ⟨_, rfl⟩
  have l1 : s1.length ≤ 20 := by rw [hs1', List.length_append]; cases Qy.hasCol k <;> simp <;> omega
  refine W_mono (Q := fun e f w' => e = .normal ∧ Ext w3 w' ∧ f 1 = .pointer (some ⟨g1, 0, none⟩) ∧ f 3 = .string (strB s1)) ?_ ?_
  · rw [hs1']
    cases hh : Qy.hasCol k
    · (refine W_condF rfl ?_; refine W_skip ?_)
      refine ⟨rfl, Ext.refl _, rfl, ?_⟩
      rw [show (bif false then [32] ++ Qy.name c else []) = ([] : List Nat) from rfl, List.append_nil]; rfl
    · (refine W_condT rfl ?_; refine W_region ?_; refine Ls (X_move (v := .string _) rfl) ?_; refine Ls (X_addSL (b := [32]) rfl rfl rfl (by simp; omega)) ?_; refine Ls (X_fld rfl) ?_; refine Ls (X_ld (v := .int .i64 (c : Nat)) rfl B3 rfl) ?_)
      refine L_fv rfl (rcolumn c hc4 w3) ?_
      intro w4 E4
      (refine Ls (X_addSL (b := Qy.name c) rfl rfl rfl (by simp; omega)) ?_; refine Ls (X_assign (v := .string _) rfl) ?_; refine L_nil ?_)
      refine ⟨rfl, E4, rfl, ?_⟩
      show Value.string _ = _
      rw [List.append_assoc]; rfl
  rintro e f w4 ⟨rfl, E4, f1, f3⟩
  rw [fold f1, fold f3]
  have B4 := B3.ext E4
  (refine tn ?_; refine W_seq ?_; refine W_seq ?_; refine W_region ?_; refine Ls (X_fld rfl) ?_; refine Ls (X_ld (v := .int .i64 (k : Nat)) rfl B4 rfl) ?_)
  refine L_fv rfl (rmaxK k w4) ?_
  intro w5 E5
  have B5 := B4.ext E5
  (refine Ls (X_gtr rfl rfl) ?_; refine L_nil ?_; refine tn ?_)
  obtain ⟨s2, hs2'⟩ : ∃ s2, s2 = s1 ++ (bif Nat.ble 1 (Qy.maxK k) then [32] ++ Qy.dig n else []) := ⟨_, rfl⟩
  have l2 : s2.length ≤ 100000 := by rw [hs2', List.length_append]; cases Nat.ble 1 (Qy.maxK k) <;> simp <;> omega
  have hfmt : Qy.format ⟨k, c, n, fs⟩ = s2 ++ Qy.fFils fs := by unfold Qy.format; rw [hs2', hs1']
  refine W_mono (Q := fun e f w' => e = .normal ∧ Ext w5 w' ∧ f 1 = .pointer (some ⟨g1, 0, none⟩) ∧ f 3 = .string (strB s2)) ?_ ?_
  · rw [hs2']
    by_cases hm : 0 < Qy.maxK k
    · refine W_condp rfl (fun _ => ?_) (fun h => (h (by omega)).elim)
      rw [Nat.ble_eq_true_of_le hm]
      (refine W_region ?_; refine Ls (X_move (v := .string _) rfl) ?_; refine Ls (X_addSL (b := [32]) rfl rfl rfl (by simp; omega)) ?_; refine Ls (X_fld rfl) ?_; refine Ls (X_ld (v := .int .i64 (n : Nat)) rfl B5 rfl) ?_)
      refine L_fv rfl (rdig n (by omega) w5) ?_
      intro w6 E6
      (refine Ls (X_addSL (b := Qy.dig n) rfl rfl rfl (by simp; omega)) ?_; refine Ls (X_assign (v := .string _) rfl) ?_; refine L_nil ?_)
      refine ⟨rfl, E6, rfl, ?_⟩
      show Value.string _ = _
      rw [List.append_assoc]; rfl
    · refine W_condp rfl (fun h => (hm (by omega)).elim) (fun _ => ?_)
      have hb0 : Nat.ble 1 (Qy.maxK k) = false := by
        cases hb : Nat.ble 1 (Qy.maxK k)
        · rfl
        · exact (hm (Nat.le_of_ble_eq_true hb)).elim
      rw [hb0]
      (refine W_skip ?_)
      refine ⟨rfl, Ext.refl _, rfl, ?_⟩
      rw [show (bif false then [32] ++ Qy.dig n else []) = ([] : List Nat) from rfl, List.append_nil]; rfl
  clear hs2' hs1'
  rintro e f w6 ⟨rfl, E6, f1, f3⟩
  rw [fold f1, fold f3]
  have B6 := B5.ext E6
  have E06 := ((((E1.trans E2).trans E3).trans E4).trans E5).trans E6
  obtain ⟨us, hul, hvr, hus⟩ := hF.ext E06
  obtain ⟨a, fr, rfl⟩ : ∃ a fr, fs = a :: fr := by
    cases fs with
    | nil => unfold Qy.nfil at hfl; cases hb : (k == 7) <;> rw [hb] at hfl <;> simp at hfl
    | cons a fr => exact ⟨_, _, rfl⟩
  obtain ⟨ua, ur, rfl⟩ : ∃ a fr, us = a :: fr := by
    cases us with
    | nil => simp [filC] at hul
    | cons a fr => exact ⟨_, _, rfl⟩
  have ra : Row w6 lo hi 3 ua a.length (cndsI (a.map Qy.liC)) := (hus 0 ua (a.map Qy.liC) rfl rfl).re (by simp) rfl
  have hao := hff a (by simp)
  have la := Qy.fFil_len true a hao.2
  have la3 := hao.1
  have hvr0 := hvr
  obtain ⟨bv, ov, cv, rfl, _, _, _, hcv⟩ := hvr.at (k := 0) (by simp [filC])
  have hac := row_cell ra
  (refine tn ?_; refine W_seq ?_; refine W_region ?_; refine Ls (X_move (v := .string _) rfl) ?_; refine Ls (X_fld rfl) ?_; refine Ls (X_ld (v := .slice (some ⟨bv, ov, none⟩) (filC (a :: fr)).length cv) rfl B6 rfl) ?_; refine Ls (X_indexSn (i := 0) rfl rfl (by simp [filC])) ?_; refine Ls (X_ldR (j := 0) (v := ua) rfl hcv (by omega) rfl) ?_)
  refine L_fv rfl (rfmtf lo hi ua a hao w6 ra) ?_
  intro w7 E7
  have B7 := B6.ext E7
  by_cases h7 : k = 7
  · subst h7
    obtain ⟨b, rfl⟩ : ∃ b, fr = [b] := by
      match fr, hfl with
      | [b], _ => exact ⟨b, rfl⟩
    obtain ⟨ub, rfl⟩ : ∃ b, ur = [b] := by
      match ur, hul with
      | [b], _ => exact ⟨b, rfl⟩
    have rb : Row w7 lo hi 3 ub b.length (cndsI (b.map Qy.liC)) := ((hus 1 ub (b.map Qy.liC) rfl rfl).re (by simp) rfl).ext E7
    have hbo := hff b (by simp)
    have lb := Qy.fFil_len true b hbo.2
    have lb3 := hbo.1
    have hbc := row_cell rb
    refine Ls (X_addSL (b := Qy.fFil true a) rfl rfl rfl (by omega)) ?_
    (refine Ls (X_assign (v := .string _) rfl) ?_; refine L_nil ?_; refine tn ?_; refine W_seq ?_; refine W_seq ?_; refine W_region ?_; refine Ls (X_fld rfl) ?_; refine Ls (X_ld (v := .int .i64 (7 : Nat)) rfl B7 rfl) ?_; refine Ls (X_eqlT rfl rfl (by omega)) ?_; refine L_nil ?_; refine tn ?_; refine W_condT rfl ?_; refine W_region ?_; refine Ls (X_move (v := .string _) rfl) ?_)
    refine Ls (X_addSL (b := [32] ++ Qy.tWith) rfl rfl rfl (by simp only [List.length_append, Qy.tWith, List.length_cons, List.length_nil]; omega)) ?_
    (refine Ls (X_fld rfl) ?_; refine Ls (X_ld (v := .slice (some ⟨bv, ov, none⟩) (filC [a, b]).length cv) rfl B7 rfl) ?_; refine Ls (X_indexSn (i := 1) rfl rfl (by simp [filC])) ?_; refine Ls (X_ldR (j := 1) (v := ub) rfl (E7.range hcv) (by omega) rfl) ?_)
    refine L_fv rfl (rfmtf lo hi ub b hbo w7 rb) ?_
    intro w8 E8
    refine Ls (X_addSL (b := Qy.fFil true b) rfl rfl rfl (by simp only [List.length_append, Qy.tWith, List.length_cons, List.length_nil]; omega)) ?_
    (refine Ls (X_assign (v := .string _) rfl) ?_; refine L_nil ?_; refine tn ?_; refine W_seq ?_; refine W_region ?_; refine Ls (X_move (v := .string _) rfl) ?_; refine Ls (X_assign (v := .string _) rfl) ?_; refine L_nil ?_; refine tn ?_; refine W_ret ?_)
    refine endQ_ret1 rfl rfl (v := .string _) rfl ⟨?_, (E06.trans E7).trans E8⟩
    rw [hfmt]
    simp [Qy.fFils]
  · obtain rfl : fr = [] := by
      have e7 : (k == 7) = false := by simp [h7]
      unfold Qy.nfil at hfl; rw [e7] at hfl
      simpa using hfl
    (refine Ls (X_addSL (b := Qy.fFil true a) rfl rfl rfl (by omega)) ?_; refine Ls (X_assign (v := .string _) rfl) ?_; refine L_nil ?_; refine tn ?_; refine W_seq ?_; refine W_seq ?_; refine W_region ?_; refine Ls (X_fld rfl) ?_; refine Ls (X_ld (v := .int .i64 (k : Nat)) rfl B7 rfl) ?_; refine Ls (X_eqlF rfl rfl (by omega)) ?_; refine L_nil ?_; refine tn ?_; refine W_condF rfl ?_; refine W_skip ?_; refine tn ?_; refine W_seq ?_; refine W_region ?_; refine Ls (X_move (v := .string _) rfl) ?_; refine Ls (X_assign (v := .string _) rfl) ?_; refine L_nil ?_; refine tn ?_; refine W_ret ?_)
    refine endQ_ret1 rfl rfl (v := .string _) rfl ⟨?_, E06.trans E7⟩
    rw [hfmt]; rfl
end Go.Proofs.YtipnliodpmjhcaaDoor

/- The reference's Made: the valid query of a raw one. -/
namespace Go.Proofs.YtipnliodpmjhcaaDoor
open Go.RowKit Go.Proofs.K

theorem own_ne2 {w : World} {base base' size size' m m' : Nat} {e e' : TypeId} {v v' : Value} {xs xs' : List Value} (h : w.ownsRow base e size v m xs) (h' : w.ownsRow base' e' size' v' m' xs') (hne : e ≠ e') : ∀ g, v.ownBlock = some g → v'.ownBlock ≠ some g := by
  intro g hg hg'
  obtain ⟨_, hnil | ⟨gq, cap, cur, hv, _, hcur, _⟩⟩ := h
  · rw [hnil.1] at hg; cases hg
  · obtain ⟨_, hnil | ⟨gq', cap', cur', hv', _, hcur', _⟩⟩ := h'
    · rw [hnil.1] at hg'; cases hg'
    · rw [hv] at hg; rw [hv'] at hg'
      have e1 : gq = g := by injection hg
      have e2 : gq' = g := by injection hg'
      rw [e1] at hcur; rw [e2, hcur] at hcur'
      injection hcur' with h1
      injection h1 with _ h2 _
      exact hne h2
/-- filters that the call has made -/
def MadeAt (b : Nat) (w : World) (v : Value) (fs : List (List Qy.Cnd)) : Prop :=
  ∃ us : List Value, us.length = fs.length ∧ w.ownsRow b 28 1 v fs.length us ∧ ∀ (j : Nat) (u : Value) (f : List Qy.Cnd), us[j]? = some u → fs[j]? = some f → w.ownsRow b 46 3 u f.length (cndsI (f.map Qy.liC))
theorem MadeAt.nil (b : Nat) (w : World) : MadeAt b w (.slice none 0 0) [] := ⟨[], rfl, own_empty _ _ _ _, fun j u f hu _ => by simp at hu⟩
theorem MadeAt.grown {b : Nat} {w w' : World} {v : Value} {fs : List (List Qy.Cnd)} {row : Option Nat} (h : MadeAt b w v fs) (hg : w.grownBy w' row) (hr : ∀ g, row = some g → g < b) : MadeAt b w' v fs := by
  obtain ⟨us, h1, h2, h3⟩ := h
  exact ⟨us, h1, own_grown h2 hg hr, fun j u f hu hf => own_grown (h3 j u f hu hf) hg hr⟩
theorem MadeAt.ext {b : Nat} {w w' : World} {v : Value} {fs : List (List Qy.Cnd)} (h : MadeAt b w v fs) (E : Ext w w') : MadeAt b w' v fs := h.grown E (fun _ h => by cases h)
theorem MadeAt.cell {b : Nat} {w : World} {v : Value} {fs : List (List Qy.Cnd)} (h : MadeAt b w v fs) : v.oneCell' = true := by obtain ⟨us, h1, h2, h3⟩ := h; exact own_cell3 h2
theorem MadeAt.base {b b' : Nat} {w : World} {v : Value} {fs : List (List Qy.Cnd)} (h : MadeAt b w v fs) (hb : b' ≤ b) : MadeAt b' w v fs := by
  obtain ⟨us, h1, h2, h3⟩ := h
  exact ⟨us, h1, own_base h2 hb, fun j u f hu hf => own_base (h3 j u f hu hf) hb⟩
/-- a store into a variable of another type -/
theorem MadeAt.store {b g : Nat} {w w' : World} {v : Value} {fs : List (List Qy.Cnd)} {T : TypeId} {cs : List Value} (h : MadeAt b w v fs) (hB : Blk w g T cs) (h1 : T ≠ 46) (h2 : T ≠ 28) (hg : w.grownBy w' (some g)) : MadeAt b w' v fs := by
  obtain ⟨us, k1, k2, k3⟩ := h
  exact ⟨us, k1, own_other k2 hg (fun g' h e => own_ne k2 hB h2 (by injection e with e; subst e; exact h)), fun j u f hu hf => own_other (k3 j u f hu hf) hg (fun g' h e => own_ne (k3 j u f hu hf) hB h1 (by injection e with e; subst e; exact h))⟩
theorem MadeAt.snoc {b : Nat} {w w' : World} {v v' u : Value} {fs : List (List Qy.Cnd)} {us : List Value} {f : List Qy.Cnd} (h1 : us.length = fs.length) (h2 : w.ownsRow b 28 1 v fs.length us) (h3 : ∀ (j : Nat) (u : Value) (f : List Qy.Cnd), us[j]? = some u → fs[j]? = some f → w.ownsRow b 46 3 u f.length (cndsI (f.map Qy.liC)))
    (hu : w.ownsRow b 46 3 u f.length (cndsI (f.map Qy.liC))) (hg : w.grownBy w' v.ownBlock) (ho : w'.ownsRow b 28 1 v' (fs.length + 1) (us ++ [u])) : MadeAt b w' v' (fs ++ [f]) := by
  have hk : ∀ {u' : Value} {f' : List Qy.Cnd}, w.ownsRow b 46 3 u' f'.length (cndsI (f'.map Qy.liC)) → w'.ownsRow b 46 3 u' f'.length (cndsI (f'.map Qy.liC)) := fun hu' => own_other hu' hg (fun g hg' e => own_ne2 h2 hu' (by decide) g e hg')
  refine ⟨us ++ [u], by simp [h1], by rw [List.length_append]; exact ho, fun j u' f' hu' hf' => ?_⟩
  by_cases hj : j < us.length
  · rw [List.getElem?_append_left hj] at hu'
    rw [List.getElem?_append_left (by omega)] at hf'
    exact hk (h3 j u' f' hu' hf')
  · rw [List.getElem?_append_right (by omega)] at hu'
    rw [List.getElem?_append_right (by omega)] at hf'
    have : j - us.length = 0 := by
      cases hq : j - us.length with
      | zero => rfl
      | succ q => rw [hq] at hu'; simp at hu'
    rw [this] at hu'
    rw [← h1, this] at hf'
    simp at hu' hf'
    subst hu' hf'
    exact hk hu
theorem MadeAt.fils {b : Nat} {w : World} {v : Value} {fs : List (List Qy.Cnd)} (h : MadeAt b w v fs) : FilsI w b w.heap.size v (filC fs) := by
  obtain ⟨us, h1, h2, h3⟩ := h
  refine ⟨us, by simp [filC, h1], (Row.of_own h2).re (by simp [filC]) rfl, fun i u f hu hf => ?_⟩
  obtain ⟨f', hf', rfl⟩ : ∃ f', fs[i]? = some f' ∧ f = f'.map Qy.liC := by
    unfold filC at hf
    rw [List.getElem?_map] at hf
    cases hq : fs[i]? with
    | none => rw [hq] at hf; cases hf
    | some f' => rw [hq] at hf; exact ⟨f', rfl, (Option.some.inj hf).symm⟩
  exact (Row.of_own (h3 i u f' hu hf')).re (by simp) rfl
theorem mF_take {l : List Qy.CndI} {k : Nat} {c : Qy.CndI} (h : l[k]? = some c) (hk : k < 3) : (Qy.mF l).take (k + 1) = (Qy.mF l).take k ++ [Qy.mC c] := by
  rw [List.take_add_one]
  have : (Qy.mF l)[k]? = some (Qy.mC c) := by unfold Qy.mF; rw [List.getElem?_map, List.getElem?_take, if_pos hk, h]; rfl
  rw [this]; rfl
theorem mF_len (l : List Qy.CndI) : (Qy.mF l).length = min 3 l.length := by unfold Qy.mF; simp
theorem rmadeM (q : Qy.QI) (v : Value) (lo hi : Nat) (w : World) (hF : FilsI w lo hi v q.fs) :
    Calls Tryd.prog 14 #[.agg (qC q.kind q.col q.k v).toArray] w fun e w' => ∃ u, e = .returned (.agg (qry (Qy.mQ q) u).toArray) ∧ Ext w w' ∧ MadeAt w.heap.size w' u (Qy.mQ q).fs := by
  refine calls_W Tryd.func14 rfl Tryd.ntmps14 rfl ?_
  obtain ⟨kind, col, kk, fs⟩ := q
  dsimp only at hF ⊢
  have hvc := hF.cell
  obtain ⟨x, hx⟩ : ∃ x, x = (kind % 256).toNat % 7 := ⟨_, rfl⟩
  obtain ⟨k, hk⟩ : ∃ k, k = Qy.mK kind := ⟨_, rfl⟩
  have hkx : (1 : Int) + (x : Int) = ((k : Nat) : Int) := by rw [hk, hx]; unfold Qy.mK; omega
  have hk17 : 1 ≤ k ∧ k ≤ 7 := by omega
  obtain ⟨cc, hcc⟩ : ∃ cc, cc = (bif Qy.hasCol k then (col % 4).toNat else 0) := ⟨_, rfl⟩
  obtain ⟨nn, hnn⟩ : ∃ nn, nn = (bif Nat.ble 1 (Qy.maxK k) then 1 + (kk % 65536).toNat % Qy.maxK k else 0) := ⟨_, rfl⟩
  have hmQ : Qy.mQ ⟨kind, col, kk, fs⟩ = ⟨k, cc, nn, (List.range (Qy.nfil k)).map fun i => Qy.mF (fs.getD i [])⟩ := by unfold Qy.mQ; dsimp only; rw [← hk, ← hcc, ← hnn]
  rw [hmQ]
  clear hmQ hk
  have hmk := Qy.maxK_le k
  (refine W_seq ?_; refine W_region ?_)
  refine L_box (l := qC kind col kk v) rfl ?_
  intro g1 w1 B1 hg1 E1 hs1
  refine L_alloc ?_
  intro g2 w2 B2 hg2 E2 hs2
  have C1 := B1.ext E2
  have F2 := hF.ext (E1.trans E2)
  (refine L_nil ?_; refine tn ?_; refine W_seq ?_; refine W_region ?_; refine Ls (X_fld rfl) ?_; refine Ls (X_ld (v := .int .i64 kind) rfl C1 rfl) ?_; refine Ls (X_andE rfl rfl (and255 kind)) ?_; refine Ls ((X_remn (a := (kind % 256).toNat) (b := 7) rfl rfl (by omega)).trans (by rw [← hx])) ?_; refine Ls ((X_addi (b := (x : Nat)) rfl rfl (by omega)).trans (by rw [hkx])) ?_)
  refine Ls (X_mkQ rfl) ?_
  refine L_alloc ?_
  intro g3 w3 B3 hg3 E3 hs3
  refine L_storeW (size := 4) (l := qC (k : Nat) 0 0 (.slice none 0 0)) rfl rfl rfl (qC_cell rfl) B3 rfl ?_
  intro w4 C3 hg4 hs4
  have E24 : Ext w2 w4 := E3.then hg4 (fun g h => by cases h; omega)
  (refine L_nil ?_; refine tn ?_; refine W_seq ?_; refine W_seq ?_; refine W_region ?_; refine Ls (X_fld rfl) ?_; refine Ls (X_ld (v := .int .i64 (k : Nat)) rfl C3 rfl) ?_)
  refine L_fv rfl (rhascol k w4) ?_
  intro w5 E5
  (refine L_nil ?_; refine tn ?_)
  refine W_mono (Q := fun e f w' => e = .normal ∧ Ext w2 w' ∧ w4.heap.size ≤ w'.heap.size ∧ Blk w' g3 24 (qC (k : Nat) (cc : Nat) 0 (.slice none 0 0)) ∧ f 1 = .pointer (some ⟨g1, 0, none⟩) ∧ f 2 = .pointer (some ⟨g2, 0, none⟩) ∧ f 3 = .pointer (some ⟨g3, 0, none⟩)) ?_ ?_
  · rw [hcc]
    have hz5 := E5.size
    cases hh : Qy.hasCol k
    · (refine W_condF rfl ?_; refine W_skip ?_)
      exact ⟨rfl, E24.trans E5, hz5, C3.ext E5, rfl, rfl, rfl⟩
    · (refine W_condT rfl ?_; refine W_region ?_; refine Ls (X_fld rfl) ?_; refine Ls (X_ld (v := .int .i64 col) rfl ((C1.ext E24).ext E5) rfl) ?_; refine Ls (X_andE rfl rfl (and3 col)) ?_; refine Ls (X_fld rfl) ?_)
      refine L_store1 rfl (v := .int .i64 ((col % 4).toNat : Nat)) rfl rfl (C3.ext E5) (by simp [qC]) ?_
      intro w6 B6 hg6 hs6
      (refine L_nil ?_)
      exact ⟨rfl, (E24.trans E5).then hg6 (fun g h => by cases h; omega), by omega, B6, rfl, rfl, rfl⟩
  clear hcc C3 E24 E5
  rintro e f w6 ⟨rfl, E26, hz6, C3, f1, f2, f3⟩
  rw [fold f1, fold f2, fold f3]
  (refine tn ?_; refine W_seq ?_; refine W_seq ?_; refine W_region ?_; refine Ls (X_fld rfl) ?_; refine Ls (X_ld (v := .int .i64 (k : Nat)) rfl C3 rfl) ?_)
  refine L_fv rfl (rmaxK k w6) ?_
  intro w7 E7
  have hz7 := E7.size
  (refine Ls (X_gtr rfl rfl) ?_; refine L_nil ?_; refine tn ?_)
  refine W_mono (Q := fun e f w' => e = .normal ∧ Ext w2 w' ∧ w4.heap.size ≤ w'.heap.size ∧ Blk w' g3 24 (qC (k : Nat) (cc : Nat) (nn : Nat) (.slice none 0 0)) ∧ f 1 = .pointer (some ⟨g1, 0, none⟩) ∧ f 2 = .pointer (some ⟨g2, 0, none⟩) ∧ f 3 = .pointer (some ⟨g3, 0, none⟩)) ?_ ?_
  · by_cases hm : 0 < Qy.maxK k
    · refine W_condp rfl (fun _ => ?_) (fun h => (h (by omega)).elim)
      rw [Nat.ble_eq_true_of_le hm] at hnn
      have hnn : nn = 1 + (kk % 65536).toNat % Qy.maxK k := hnn
      obtain ⟨y, hy⟩ : ∃ y, y = (kk % 65536).toNat % Qy.maxK k := ⟨_, rfl⟩
      have hny : (1 : Int) + (y : Int) = ((nn : Nat) : Int) := by rw [hnn, ← hy]; omega
      have hy2 : y < Qy.maxK k := by rw [hy]; exact Nat.mod_lt _ hm
      skip
      apply W_dagE 6 (by kernel_rfl)
      (apply DW_x (fun r w hA hH => (X_fld rfl).trans rfl); apply DW_x (fun r w hA hH => (X_ld (v := .int .i64 kk) rfl ((C1.ext (E26.trans E7)).ext hA) rfl).trans rfl); apply DW_x (fun r w hA hH => (X_andE rfl rfl (and65535 kk)).trans rfl); apply DW_x (fun r w hA hH => (X_fld rfl).trans rfl); apply DW_x (fun r w hA hH => (X_ld (v := .int .i64 (k : Nat)) rfl ((C3.ext E7).ext hA) rfl).trans rfl))
      ((with_reducible apply DW_fn); (exact fun _ => rfl); (exact fun _ => rfl); (exact fun r w hA hH => rmaxK k w))
      ((with_reducible exact D_end); (exact rfl); (repeat (first | exact .inr (.inr (fun _ _ => by with_reducible rfl)) | (refine And.intro ?_ ?_) | exact .inr (.inl rfl) | exact .inl (by decide +kernel) | exact trivial | exact .inr (.inr (fun _ _ => rfl)))); (try dsimp only [Nat.reduceAdd]))
      intro r w8 E8 _
      have hz8 := E8.size
      (refine Ls ((X_remn (a := (kk % 65536).toNat) (b := Qy.maxK k) rfl rfl hm).trans (by rw [← hy])) ?_; refine Ls ((X_addi (b := (y : Nat)) rfl rfl (by omega)).trans (by rw [hny])) ?_; refine Ls (X_fld rfl) ?_)
      refine L_store1 rfl (v := .int .i64 (nn : Nat)) rfl rfl ((C3.ext E7).ext E8) (by simp [qC]) ?_
      intro w9 B9 hg9 hs9
      (refine L_nil ?_)
      exact ⟨rfl, ((E26.trans E7).trans E8).then hg9 (fun g h => by cases h; omega), by omega, B9, rfl, rfl, rfl⟩
    · refine W_condp rfl (fun h => (hm (by omega)).elim) (fun _ => ?_)
      have hb0 : Nat.ble 1 (Qy.maxK k) = false := by
        cases hb : Nat.ble 1 (Qy.maxK k)
        · rfl
        · exact (hm (Nat.le_of_ble_eq_true hb)).elim
      rw [hb0] at hnn
      have hnn : nn = 0 := hnn
      subst hnn
      (refine W_skip ?_)
      exact ⟨rfl, E26.trans E7, by omega, C3.ext E7, rfl, rfl, rfl⟩
  clear hnn C3 E26 E7 f1 f2 f3 hz6 hz7
  rintro e f w6 ⟨rfl, E26, hz6, C3, f1, f2, f3⟩
  rw [fold f1, fold f2, fold f3]
  obtain ⟨n, hn⟩ : ∃ n, n = Qy.nfil k := ⟨_, rfl⟩
  have hn2 : n ≤ 2 := by rw [hn]; unfold Qy.nfil; cases (k == 7) <;> decide
  rw [← hn]
  (refine tn ?_; refine W_seq ?_; refine W_region ?_; refine Ls (X_assign (v := .int _ _) rfl) ?_; refine L_nil ?_; refine tn ?_; refine W_seq ?_; refine W_seq ?_; refine W_region ?_; refine Ls (X_fld rfl) ?_; refine Ls (X_ld (v := .int .i64 (k : Nat)) rfl C3 rfl) ?_; refine Ls (X_eql rfl rfl) ?_; refine L_nil ?_; refine tn ?_)
  refine W_mono (Q := fun e f w' => e = .normal ∧ w' = w6 ∧ f 1 = .pointer (some ⟨g1, 0, none⟩) ∧ f 2 = .pointer (some ⟨g2, 0, none⟩) ∧ f 3 = .pointer (some ⟨g3, 0, none⟩) ∧ f 4 = .int .i64 (n : Nat)) ?_ ?_
  · by_cases h7 : k = 7
    · have : n = 2 := by rw [hn, h7]; rfl
      subst this
      refine W_condp rfl (fun _ => ?_) (fun h => (h (by omega)).elim)
      (refine W_region ?_; refine Ls (X_assign (v := .int _ _) rfl) ?_; refine L_nil ?_)
      exact ⟨rfl, rfl, rfl, rfl, rfl, rfl⟩
    · have : n = 1 := by rw [hn]; unfold Qy.nfil; rw [beq_false_of_ne h7]; rfl
      subst this
      refine W_condp rfl (fun h => (h7 (by omega)).elim) (fun _ => ?_)
      (refine W_skip ?_)
      exact ⟨rfl, rfl, rfl, rfl, rfl, rfl⟩
  clear hn
  rintro e f w7 ⟨rfl, rfl, f1, f2, f3, f4⟩
  rw [fold f1, fold f2, fold f3, fold f4]
  clear f1 f2 f3 f4
  (refine tn ?_; refine W_seq ?_; refine W_seq ?_; refine W_region ?_; refine Ls (X_assign (v := .int _ _) rfl) ?_; refine L_nil ?_; refine tn ?_; refine W_block ?_)
  refine W_loop (fun z f w' => ∃ (i : Nat) (v' : Value), z = n - i ∧ i ≤ n ∧ Ext w2 w' ∧ w4.heap.size ≤ w'.heap.size ∧ Blk w' g3 24 (qC (k : Nat) (cc : Nat) (nn : Nat) v') ∧ MadeAt w4.heap.size w' v' ((List.range i).map fun i => Qy.mF (fs.getD i [])) ∧
    f 1 = .pointer (some ⟨g1, 0, none⟩) ∧ f 2 = .pointer (some ⟨g2, 0, none⟩) ∧ f 3 = .pointer (some ⟨g3, 0, none⟩) ∧ f 4 = .int .i64 (n : Nat) ∧ f 5 = .int .i64 (i : Nat)) n ?_ ?_
  · exact ⟨0, _, rfl, by omega, E26, hz6, C3, MadeAt.nil _ _, rfl, rfl, rfl, rfl, rfl⟩
  · clear C3 E26 hz6
    rintro z f w7 ⟨i, v', rfl, hi', E7, hz7, C3, M7, f1, f2, f3, f4, f5⟩
    rw [fold f1, fold f2, fold f3, fold f4, fold f5]
    clear f1 f2 f3 f4 f5
    have hlt3 : g3 < w4.heap.size := by omega
    by_cases hin : i < n
    · (refine W_seq ?_; refine W_seq ?_; refine W_region ?_; refine Ls (X_move (v := .int _ _) rfl) ?_; refine Ls (X_move (v := .int _ _) rfl) ?_; refine Ls (X_lssT rfl rfl (by omega)) ?_; refine L_nil ?_; refine tn ?_; refine W_condT rfl ?_; refine W_skip ?_; refine tn ?_; refine W_seq ?_; refine W_block ?_; refine W_seq ?_; refine W_region ?_)
      refine L_lit0 (size := 3) ?_
      intro q6 w8 E8 hs8 o8
      (refine Ls (X_assign (v := q6) rfl) ?_; refine L_nil ?_; refine tn ?_; refine W_seq ?_; refine W_seq ?_; refine W_region ?_; refine Ls (X_assign (v := .int _ _) rfl) ?_; refine L_nil ?_; refine tn ?_; refine W_block ?_)
      obtain ⟨fj, hfj⟩ : ∃ fj, fj = fs.getD i [] := ⟨_, rfl⟩
      refine W_loop (fun z f w' => ∃ (p : Nat) (v6 : Value), z = 3 - p ∧ p ≤ 3 ∧ p ≤ fj.length ∧ Ext w7 w' ∧ w'.ownsRow w7.heap.size 46 3 v6 p (cndsI (((Qy.mF fj).take p).map Qy.liC)) ∧
        f 1 = .pointer (some ⟨g1, 0, none⟩) ∧ f 2 = .pointer (some ⟨g2, 0, none⟩) ∧ f 3 = .pointer (some ⟨g3, 0, none⟩) ∧ f 4 = .int .i64 (n : Nat) ∧ f 5 = .int .i64 (i : Nat) ∧ f 6 = v6 ∧ f 7 = .int .i64 (p : Nat)) 3 ?_ ?_
      · exact ⟨0, q6, rfl, by omega, by omega, E8, o8, rfl, rfl, rfl, rfl, rfl, rfl, rfl⟩
      · clear o8
        rintro z f w9 ⟨p, v6, rfl, hp3, hpl, E9, o9, f1, f2, f3, f4, f5, f6, f7⟩
        rw [fold f1, fold f2, fold f3, fold f4, fold f5, fold f6, fold f7]
        clear f1 f2 f3 f4 f5 f6 f7
        have E29 := E7.trans E9
        have hv6c := own_cell3 o9
        have D1 := C1.ext E29
        obtain ⟨us, hul, hvr, hus⟩ := F2.ext E29
        have hz9 := E9.size
        have hpos : i < fs.length → ∃ u bv ov cv, fs[i]? = some fj ∧ us[i]? = some u ∧ v = .slice (some ⟨bv, ov, none⟩) fs.length cv ∧ w9.rangeAt bv ov us ∧ Row w9 lo hi 3 u fj.length (cndsI fj) := fun hil => by
          have hfi : fs[i]? = some fj := by rw [hfj, List.getD_eq_getElem?_getD, List.getElem?_eq_getElem hil]; rfl
          obtain ⟨u, hu⟩ : ∃ u, us[i]? = some u := ⟨us[i]'(by omega), List.getElem?_eq_getElem (by omega)⟩
          obtain ⟨bv, ov, cv, h, _, _, _, hcv⟩ := hvr.at (k := i) hil
          exact ⟨u, bv, ov, cv, hfi, hu, h, hcv, hus i u fj hu hfi⟩
        have hml := mF_len fj
        have hneg : ¬ i < fs.length → fj.length = 0 := fun h => by rw [hfj, List.getD_eq_getElem?_getD, List.getElem?_eq_none (by omega)]; rfl
        have hz7' : w7.heap.size ≤ w9.heap.size := hz9
        have h4 : (i < fs.length ∧ p < fj.length ∧ p < 3) ∨ (¬ i < fs.length) ∨ (i < fs.length ∧ ¬ p < fj.length) ∨ (i < fs.length ∧ p < fj.length ∧ ¬ p < 3) := by omega
        rcases h4 with ⟨hil, hpf, hp⟩ | hil | ⟨hil, hpf⟩ | ⟨hil, hpf, hp⟩
        case inl =>
          obtain ⟨u, bv, ov, cv, hfi, hu, rfl, hcv, hur⟩ := hpos hil
          obtain ⟨c, hc⟩ : ∃ c, fj[p]? = some c := ⟨fj[p], List.getElem?_eq_getElem hpf⟩
          obtain ⟨bx, ox, cx, rfl, _, _, _, hcx⟩ := hur.at (k := p) hpf
          (refine W_seq ?_; refine W_seq ?_; refine W_region ?_; refine Ls (X_move (v := .int _ _) rfl) ?_; refine Ls (X_fld rfl) ?_; refine Ls (X_ld (v := .slice (some ⟨bv, ov, none⟩) fs.length cv) rfl D1 rfl) ?_; refine Ls (X_lenRow rfl hvr) ?_; refine Ls (X_lssT rfl rfl (by omega)) ?_; refine Ls (X_move (v := .bool _) rfl) ?_; refine Lg2 rfl rfl rfl (X_move (v := .int _ _) rfl) ?_; refine Lg2 rfl rfl rfl (X_fld rfl) ?_; refine Lg2 rfl rfl rfl (X_ld (v := .slice (some ⟨bv, ov, none⟩) fs.length cv) rfl D1 rfl) ?_; refine Lg2 rfl rfl rfl (X_move (v := .int _ _) rfl) ?_; refine Lg2 rfl rfl rfl (X_indexSn rfl rfl (by omega)) ?_; refine Lg2 rfl rfl rfl (X_ldR (j := i) (v := .slice (some ⟨bx, ox, none⟩) fj.length cx) rfl hcv (by omega) hu) ?_; refine Lg2 rfl rfl rfl (X_lenSlice rfl) ?_; refine Lg2 rfl rfl rfl (X_lssT rfl rfl (by omega)) ?_; refine Ls (X_pickT (v := .bool _) rfl rfl) ?_; refine Ls (X_move (v := .bool _) rfl) ?_; refine Lg2 rfl rfl rfl (X_move (v := .int _ _) rfl) ?_; refine Lg2 rfl rfl rfl (X_lssT rfl rfl (by omega)) ?_; refine Ls (X_pickT (v := .bool _) rfl rfl) ?_; refine L_nil ?_; refine tn ?_; refine W_condT rfl ?_; refine W_skip ?_; refine tn ?_; refine W_seq ?_; refine W_block ?_; refine W_region ?_; refine Ls (X_move (v := v6) rfl) ?_; refine Ls (X_fld rfl) ?_; refine Ls (X_ld (v := .slice (some ⟨bv, ov, none⟩) fs.length cv) rfl D1 rfl) ?_; refine Ls (X_move (v := .int _ _) rfl) ?_; refine Ls (X_indexSn rfl rfl (by omega)) ?_; refine Ls (X_ldR (j := i) (v := .slice (some ⟨bx, ox, none⟩) fj.length cx) rfl hcv (by omega) hu) ?_; refine Ls (X_move (v := .int _ _) rfl) ?_; refine Ls (X_indexSn rfl rfl (by omega)) ?_; refine Ls (X_loadA (size := 3) (cs := cndI c) rfl (by exact Rng3 hcx hc) rfl) ?_)
          refine L_fv rfl (rmadeC c w9) ?_
          intro w10 E10
          refine L_lits (zs' := [cndI (Qy.liC (Qy.mC c))]) (cs := cndI (Qy.liC (Qy.mC c))) (Parts.cons (c := cndI (Qy.liC (Qy.mC c))) (z := [.int .i64 0, .int .i64 0, .int .i64 0]) rfl rfl rfl rfl (Parts.nil _)) rfl (by simp) rfl rfl ?_
          intro q11 w11 r11 E11 hs11 _ _
          refine L_append (v := v6) (u := q11) rfl rfl (own_ext o9 (E10.trans E11)) r11 cndI_cell (by omega) (by omega) (by have := E10.size; omega) ?_
          intro v12 w12 o12 hg12 _
          (refine Ls (X_assign (v := v12) rfl) ?_; refine L_nil ?_; refine bn ?_; refine tn ?_; refine W_region ?_; refine Ls (X_move (v := .int _ _) rfl) ?_; refine Ls (X_addi rfl rfl (by omega)) ?_; refine Ls (X_assign (v := .int _ _) rfl) ?_; refine L_nil ?_; refine tn ?_)
          refine ⟨3 - (p + 1), by omega, p + 1, v12, rfl, by omega, by omega, ((E9.trans E10).trans E11).then hg12 (fun g h => (o9.lt g h).1), ?_, rfl, rfl, rfl, rfl, rfl, rfl, rfl⟩
          rw [mF_take hc hp, cndsI_snoc]; exact o12
        case' inr.inl =>
          have hpe : (Qy.mF fj).take p = Qy.mF fj ∧ p = (Qy.mF fj).length := by
            have := hneg hil
            exact ⟨List.take_of_length_le (by omega), by omega⟩
          (refine W_seq ?_; refine W_seq ?_; refine W_region ?_; refine Ls (X_move (v := .int _ _) rfl) ?_; refine Ls (X_fld rfl) ?_; refine Ls (X_ld (v := v) rfl D1 rfl) ?_; refine Ls (X_lenRow (v := v) rfl hvr) ?_; refine Ls (X_lssF rfl rfl (by omega)) ?_; refine Ls (X_move (v := .bool _) rfl) ?_; refine Lo2 rfl rfl rfl rfl ?_; refine Lo2 rfl rfl rfl rfl ?_; refine Lo2 rfl rfl rfl rfl ?_; refine Lo2 rfl rfl rfl rfl ?_; refine Lo2 rfl rfl rfl rfl ?_; refine Lo2 rfl rfl rfl rfl ?_; refine Lo2 rfl rfl rfl rfl ?_; refine Lo2 rfl rfl rfl rfl ?_; refine Ls (X_pickF (v := .bool _) rfl rfl) ?_; refine Ls (X_move (v := .bool _) rfl) ?_; refine Lo2 rfl rfl rfl rfl ?_; refine Lo2 rfl rfl rfl rfl ?_; refine Ls (X_pickF (v := .bool _) rfl rfl) ?_; refine L_nil ?_; refine tn ?_; refine W_condF rfl ?_; refine W_exit ?_; refine te ?_; refine te ?_; refine bx ?_; refine tn ?_; refine W_region ?_; refine Ls (X_fld rfl) ?_)
        case' inr.inr.inl =>
          have hpe : (Qy.mF fj).take p = Qy.mF fj ∧ p = (Qy.mF fj).length := ⟨List.take_of_length_le (by omega), by omega⟩
          obtain ⟨u, bv, ov, cv, hfi, hu, rfl, hcv, hur⟩ := hpos hil
          have huc := row_cell hur
          (refine W_seq ?_; refine W_seq ?_; refine W_region ?_; refine Ls (X_move (v := .int _ _) rfl) ?_; refine Ls (X_fld rfl) ?_; refine Ls (X_ld (v := .slice (some ⟨bv, ov, none⟩) fs.length cv) rfl D1 rfl) ?_; refine Ls (X_lenRow rfl hvr) ?_; refine Ls (X_lssT rfl rfl (by omega)) ?_; refine Ls (X_move (v := .bool _) rfl) ?_; refine Lg2 rfl rfl rfl (X_move (v := .int _ _) rfl) ?_; refine Lg2 rfl rfl rfl (X_fld rfl) ?_; refine Lg2 rfl rfl rfl (X_ld (v := .slice (some ⟨bv, ov, none⟩) fs.length cv) rfl D1 rfl) ?_; refine Lg2 rfl rfl rfl (X_move (v := .int _ _) rfl) ?_; refine Lg2 rfl rfl rfl (X_indexSn rfl rfl (by omega)) ?_; refine Lg2 rfl rfl rfl (X_ldR (j := i) (v := u) rfl hcv (by omega) hu) ?_; refine Lg2 rfl rfl rfl (X_lenRow (v := u) rfl hur) ?_; refine Lg2 rfl rfl rfl (X_lssF rfl rfl (by omega)) ?_; refine Ls (X_pickT (v := .bool _) rfl rfl) ?_; refine Ls (X_move (v := .bool _) rfl) ?_; refine Lo2 rfl rfl rfl rfl ?_; refine Lo2 rfl rfl rfl rfl ?_; refine Ls (X_pickF (v := .bool _) rfl rfl) ?_; refine L_nil ?_; refine tn ?_; refine W_condF rfl ?_; refine W_exit ?_; refine te ?_; refine te ?_; refine bx ?_; refine tn ?_; refine W_region ?_; refine Ls (X_fld rfl) ?_)
        case' inr.inr.inr =>
          have hpe : (Qy.mF fj).take p = Qy.mF fj ∧ p = (Qy.mF fj).length := ⟨List.take_of_length_le (by omega), by omega⟩
          obtain ⟨u, bv, ov, cv, hfi, hu, rfl, hcv, hur⟩ := hpos hil
          have huc := row_cell hur
          (refine W_seq ?_; refine W_seq ?_; refine W_region ?_; refine Ls (X_move (v := .int _ _) rfl) ?_; refine Ls (X_fld rfl) ?_; refine Ls (X_ld (v := .slice (some ⟨bv, ov, none⟩) fs.length cv) rfl D1 rfl) ?_; refine Ls (X_lenRow rfl hvr) ?_; refine Ls (X_lssT rfl rfl (by omega)) ?_; refine Ls (X_move (v := .bool _) rfl) ?_; refine Lg2 rfl rfl rfl (X_move (v := .int _ _) rfl) ?_; refine Lg2 rfl rfl rfl (X_fld rfl) ?_; refine Lg2 rfl rfl rfl (X_ld (v := .slice (some ⟨bv, ov, none⟩) fs.length cv) rfl D1 rfl) ?_; refine Lg2 rfl rfl rfl (X_move (v := .int _ _) rfl) ?_; refine Lg2 rfl rfl rfl (X_indexSn rfl rfl (by omega)) ?_; refine Lg2 rfl rfl rfl (X_ldR (j := i) (v := u) rfl hcv (by omega) hu) ?_; refine Lg2 rfl rfl rfl (X_lenRow (v := u) rfl hur) ?_; refine Lg2 rfl rfl rfl (X_lssT rfl rfl (by omega)) ?_; refine Ls (X_pickT (v := .bool _) rfl rfl) ?_; refine Ls (X_move (v := .bool _) rfl) ?_; refine Lg2 rfl rfl rfl (X_move (v := .int _ _) rfl) ?_; refine Lg2 rfl rfl rfl (X_lssF rfl rfl (by omega)) ?_; refine Ls (X_pickT (v := .bool _) rfl rfl) ?_; refine L_nil ?_; refine tn ?_; refine W_condF rfl ?_; refine W_exit ?_; refine te ?_; refine te ?_; refine bx ?_; refine tn ?_; refine W_region ?_; refine Ls (X_fld rfl) ?_)
        all_goals
          obtain ⟨hpe, hpn⟩ := hpe
          rw [hpe, hpn] at o9
          have C9 := C3.ext E9
          have M9 := M7.ext E9
          have hvc' := M7.cell
          (refine Ls (X_ld (v := v') rfl C9 rfl) ?_; refine Ls (X_move (v := v6) rfl) ?_)
          refine L_lit1 (v := v6) rfl hv6c ?_
          intro q10 w10 r10 E10 hs10 _
          obtain ⟨us', hul', ho', hus'⟩ := M9.ext E10
          have hlr : ((List.range i).map fun i => Qy.mF (fs.getD i [])).length = i := by simp
          refine L_append (v := v') (u := q10) rfl rfl ho' r10 (by intro q hq; simp at hq; rw [hq]; exact hv6c) (by omega) (by omega) (by omega) ?_
          intro v11 w11 o11 hg11 _
          have M11 := MadeAt.snoc hul' ho' hus' (own_base (own_ext o9 E10) hz7) hg11 o11
          have C11 := (C9.ext E10).grown hg11 (own_ne ho' (C9.ext E10) (by decide))
          have hv11c := own_cell3 o11
          (refine Ls (X_fld rfl) ?_)
          refine L_store1 rfl (v := v11) rfl hv11c C11 (by simp [qC]) ?_
          intro w12 B12 hg12 hs12
          have hge : ∀ g, v'.ownBlock = some g → w4.heap.size ≤ g := fun g h => (ho'.lt g h).1
          have hz11 := hg11.size
          (refine L_nil ?_; refine bn ?_; refine tn ?_; refine W_region ?_; refine Ls (X_move (v := .int _ _) rfl) ?_; refine Ls (X_addi rfl rfl (by omega)) ?_; refine Ls (X_assign (v := .int _ _) rfl) ?_; refine L_nil ?_; refine tn ?_)
          refine ⟨n - (i + 1), by omega, i + 1, v11, rfl, by omega, (((E7.trans E9).trans E10).then hg11 (fun g h => by have := hge g h; omega)).then hg12 (fun g h => by cases h; omega), by omega, B12, ?_, rfl, rfl, rfl, rfl, rfl⟩
          rw [List.range_succ, List.map_append]
          have := M11.grown hg12 (fun g h => by cases h; omega)
          rw [hfj] at this
          exact this
    · obtain rfl : i = n := by omega
      (refine W_seq ?_; refine W_seq ?_; refine W_region ?_; refine Ls (X_move (v := .int _ _) rfl) ?_; refine Ls (X_move (v := .int _ _) rfl) ?_; refine Ls (X_lssF rfl rfl (by omega)) ?_; refine L_nil ?_; refine tn ?_; refine W_condF rfl ?_; refine W_exit ?_; refine te ?_; refine te ?_; refine bx ?_; refine tn ?_; refine W_seq ?_; refine W_region ?_; refine Ls (X_ldW (size := 4) rfl C3 rfl) ?_)
      refine L_storeW (size := 4) (l := qC (k : Nat) (cc : Nat) (nn : Nat) v') rfl rfl rfl (qC_cell M7.cell) (B2.ext E7) rfl ?_
      intro w8 B8 hg8 hs8
      (refine L_nil ?_; refine tn ?_; refine W_ret ?_)
      have M8 := M7.grown hg8 (fun g h => by cases h; omega)
      refine endQ_res rfl rfl (Res.cellA (cs := qC (k : Nat) (cc : Nat) (nn : Nat) v') inferInstance rfl (B8.range (fun j u h => by rw [Nat.zero_add]; exact h)) rfl .nil) ?_
      exact ⟨v', rfl, ((E1.trans E2).trans E7).then hg8 (fun g h => by cases h; omega), M8.base (by omega)⟩
theorem rmade (q : Qy.QI) (v : Value) (lo hi : Nat) (w : World) (hF : FilsI w lo hi v q.fs) :
    Calls Tryd.prog 14 #[.agg (qC q.kind q.col q.k v).toArray] w fun e w' => ∃ u, e = .returned (.agg (qry (Qy.mQ q) u).toArray) ∧ Ext w w' ∧ FilsI w' w.heap.size w'.heap.size u (filC (Qy.mQ q).fs) :=
  (rmadeM q v lo hi w hF).mono fun _ _ ⟨u, h1, h2, h3⟩ => ⟨u, h1, h2, h3.fils⟩
end Go.Proofs.YtipnliodpmjhcaaDoor

/- The law on filters. -/
namespace Go.Proofs.YtipnliodpmjhcaaDoor
open Go.RowKit Go.Proofs.K

theorem own_blk {w : World} {base size m : Nat} {e : TypeId} {v : Value} {xs : List Value} (h : w.ownsRow base e size v m xs) (h0 : 0 < m) :
    ∃ g cap cs, v = .slice (some ⟨g, 0, none⟩) m cap ∧ base ≤ g ∧ Blk w g e cs ∧ m ≤ cap ∧ cap ≤ maxLen ∧ cs.length = cap * size ∧ cs.take (m * size) = xs := by
  obtain ⟨_, hnil | ⟨gq, cap, cur, hv, hb, hcur, hc, hm, hs, ht⟩⟩ := h
  · omega
  · exact ⟨gq, cap, cur.toList, hv, hb, hcur, hc, hm, by simpa using hs, ht⟩
theorem own_of_blk {w : World} {base size m g cap : Nat} {e : TypeId} {cs xs : List Value} (hb : base ≤ g) (hB : Blk w g e cs) (hc : m ≤ cap) (hm : cap ≤ maxLen) (hs : cs.length = cap * size) (ht : cs.take (m * size) = xs) : w.ownsRow base e size (.slice (some ⟨g, 0, none⟩) m cap) m xs := by
  refine ⟨?_, .inr ⟨g, cap, cs.toArray, rfl, hb, hB, hc, hm, by simpa using hs, ht⟩⟩
  rw [← ht, List.length_take, hs]
  have := Nat.mul_le_mul_right size hc
  omega
theorem take_snoc {α : Type} {l : List α} {i : Nat} {c : α} (h : l[i]? = some c) : l.take (i + 1) = l.take i ++ [c] := by rw [List.take_add_one, h]; rfl
def nar : List Qy.Cnd → List Qy.Cnd
  | [] => []
  | c :: r => if c.2.1 < c.2.2 then (c.1, c.2.1 + 1, c.2.2) :: r else c :: r
theorem nar_cons (c : Qy.Cnd) (r : List Qy.Cnd) : nar (c :: r) = if c.2.1 < c.2.2 then (c.1, c.2.1 + 1, c.2.2) :: r else c :: r := rfl
theorem mt_rev (rd : Qy.Rd) (M : List Qy.Cnd) : Qy.mt rd M.reverse = Qy.mt rd M := by unfold Qy.mt; simp
theorem mt_more {rd : Qy.Rd} {M : List Qy.Cnd} (h : Qy.mt rd M = false) (e : Qy.Cnd) : Qy.mt rd (M ++ [e]) = false := by
  unfold Qy.mt at h ⊢; rw [List.all_append, h]; rfl
theorem mt_nar {rd : Qy.Rd} {M : List Qy.Cnd} (h : Qy.mt rd M = false) : Qy.mt rd (nar M) = false := by
  cases M with
  | nil => exact h
  | cons c r =>
    rw [nar_cons]
    by_cases hc : c.2.1 < c.2.2
    · rw [if_pos hc]
      unfold Qy.mt at h ⊢
      rw [List.all_cons] at h ⊢
      rw [Bool.and_eq_false_iff] at h ⊢
      refine h.imp (fun h => ?_) id
      unfold Qy.mt1 at h ⊢
      rw [Bool.eq_false_iff] at h ⊢
      simp at h ⊢
      omega
    · rw [if_neg hc]; exact h
theorem nar_len (M : List Qy.Cnd) : (nar M).length = M.length := by
  cases M with
  | nil => rfl
  | cons c r => rw [nar_cons]; split <;> rfl
theorem nar_c {M : List Qy.Cnd} (h : ∀ c ∈ M, c.1 < 4) : ∀ c ∈ nar M, c.1 < 4 := by
  cases M with
  | nil => exact h
  | cons c r =>
    rw [nar_cons]
    by_cases hc : c.2.1 < c.2.2
    · rw [if_pos hc]
      intro d hd
      rcases List.mem_cons.1 hd with rfl | hd
      · exact h c (by simp)
      · exact h d (by simp [hd])
    · rw [if_neg hc]; exact h
theorem gmatchB (v : Value) (l : List Qy.Cnd) (rd : Qy.Rd) (b : Bool) (hb : Qy.mt rd l = b) (m : Nat) (hm : m = l.length) (hl : m ≤ 1000) (hc : ∀ c ∈ l, c.1 < 4) {lo hi : Nat} (w : World) (hr : Row w lo hi 3 v m (cndsI (l.map Qy.liC))) :
    Calls Tryd.prog 16 #[v, .agg (rdC rd).toArray] w fun e w' => e = .returned (.bool b) ∧ Ext w w' := by
  subst hm hb
  exact gmatch lo hi v l rd hl hc w hr
set_option maxRecDepth 100000 in
set_option maxHeartbeats 8000000 in
theorem lfilters (v : Value) (l : List Qy.CndI) (lo hi : Nat) (cx : Qy.CndI) (a b c d : Int) (w : World) (hw : Tabs w) (hr : Row w lo hi 3 v l.length (cndsI l)) :
    Calls Tryd.prog 9 #[v, .agg (cndI cx).toArray, .agg #[.int .i64 a, .int .i64 b, .int .i64 c, .int .i64 d]] w fun e w' => e = .returned (.bool true) ∧ Ext w w' := by
  refine calls_W Tryd.func9 rfl Tryd.ntmps9 rfl ?_
  have hvc := row_cell hr
  (refine W_seq ?_; refine W_region ?_)
  refine L_box (l := cndI cx) rfl ?_
  intro g4 w1 B4 hg4 E1 hs1
  refine L_box (l := [.int .i64 a, .int .i64 b, .int .i64 c, .int .i64 d]) rfl ?_
  intro g5 w2 B5 hg5 E2 hs2
  (refine Ls (X_assign (v := .bool _) rfl) ?_; refine L_nil ?_; refine tn ?_; refine W_seq ?_; refine W_region ?_)
  refine L_fv rfl (gsanity w2 (hw.ext (E1.trans E2))) ?_
  intro w3 E3
  (refine Ls (X_assign (v := .bool _) rfl) ?_; refine L_nil ?_; refine tn ?_; refine W_seq ?_; refine W_region ?_; refine Ls (X_ldW (size := 4) rfl (B5.ext E3) rfl) ?_)
  refine L_fv rfl (rmadeR a b c d w3) ?_
  intro w4 E4
  generalize Qy.mR a b c d = rd
  have E04 := ((E1.trans E2).trans E3).trans E4
  have D4 := ((B4.ext E2).ext E3).ext E4
  have hr4 := hr.ext E04
  refine L_lit0 (size := 3) ?_
  intro q20 w5 E5 hs5 o5
  refine L_lit0 (size := 3) ?_
  intro q21 w6 E6 hs6 o6
  refine L_alloc ?_
  intro g8 w7 B8 hg8 E7 hs7
  refine L_storeW (size := 4) (l := rdC rd) rfl rfl rfl rdC_cell B8 rfl ?_
  intro w8 C8 hg9 hs8
  have E68 : Ext w6 w8 := E7.then hg9 (fun g h => by cases h; omega)
  have E48 := (E5.trans E6).trans E68
  have o20 := own_ext o5 (E6.trans E68)
  have o21 := own_base (own_ext o6 E68) (show w4.heap.size ≤ w5.heap.size by omega)
  have hd0 : ∀ g, q20.ownBlock = some g → q21.ownBlock ≠ some g := fun g h h' => by
    have h1 := (o5.lt g h).2
    have h2 := (o6.lt g h').1
    omega
  clear o5 o6 B4 B5 B8 hg9
  (refine Ls (X_assign (v := q20) rfl) ?_; refine Ls (X_assign (v := q21) rfl) ?_; refine L_nil ?_; refine tn ?_; refine W_seq ?_; refine W_seq ?_; refine W_region ?_; refine Ls (X_assign (v := .int _ _) rfl) ?_; refine L_nil ?_; refine tn ?_; refine W_block ?_)
  obtain ⟨M, hM⟩ : ∃ M, M = (l.take 2).map Qy.mC := ⟨_, rfl⟩
  have hMl : M.length = min 2 l.length := by rw [hM]; simp
  have hMc : ∀ c ∈ M, c.1 < 4 := by
    rw [hM]
    intro c hc
    obtain ⟨d, _, rfl⟩ := List.mem_map.1 hc
    exact (Qy.mC_ok d).1
  have hM255 : ∀ c ∈ M, c.2.2 ≤ 255 := by
    rw [hM]
    intro c hc
    obtain ⟨d, _, rfl⟩ := List.mem_map.1 hc
    have h1 := (Qy.mC_ok d).2.2
    have h2 := Qy.cmax_le (Qy.mC d).1
    omega
  refine W_loop (fun z f w' => ∃ (i : Nat) (v9 : Value), z = 2 - i ∧ i ≤ 2 ∧ i ≤ l.length ∧ Ext w4 w' ∧ w8.heap.size ≤ w'.heap.size ∧ Blk w' g8 26 (rdC rd) ∧
    w'.ownsRow w4.heap.size 46 3 v9 i (cndsI ((M.take i).map Qy.liC)) ∧ w'.ownsRow w4.heap.size 46 3 q21 0 [] ∧ (∀ g, v9.ownBlock = some g → q21.ownBlock ≠ some g) ∧
    f 0 = v ∧ f 4 = .pointer (some ⟨g4, 0, none⟩) ∧ f 7 = .bool true ∧ f 8 = .pointer (some ⟨g8, 0, none⟩) ∧ f 9 = v9 ∧ f 10 = q21 ∧ f 11 = .int .i64 (i : Nat)) 2 ?_ ?_
  · exact ⟨0, q20, rfl, by omega, by omega, E48, Nat.le_refl _, C8, o20, o21, hd0, rfl, rfl, rfl, rfl, rfl, rfl, rfl⟩
  · clear o20 o21 C8 hd0
    rintro z f w9 ⟨i, v9, rfl, hi2, hil, E9, hz9, C8, o9, o21, hd, f0, f4, f7, f8, f9, f10, f11⟩
    rw [fold f0, fold f4, fold f7, fold f8, fold f9, fold f10, fold f11]
    clear f0 f4 f7 f8 f9 f10 f11
    have hr9 := hr4.ext E9
    have hv9c := own_cell3 o9
    have hv21c := own_cell3 o21
    have h3 : (i < l.length ∧ i < 2) ∨ (¬ i < l.length) ∨ (i < l.length ∧ ¬ i < 2) := by omega
    rcases h3 with ⟨h1, h2⟩ | h1 | ⟨h1, h2⟩
    case inl =>
      obtain ⟨ci, hci⟩ : ∃ c, l[i]? = some c := ⟨l[i], List.getElem?_eq_getElem h1⟩
      have hMi : M[i]? = some (Qy.mC ci) := by rw [hM, List.getElem?_map, List.getElem?_take, if_pos h2, hci]; rfl
      obtain ⟨bv, ov, cv, rfl, _, _, _, hcv⟩ := hr9.at (k := i) h1
      (refine W_seq ?_; refine W_seq ?_; refine W_region ?_; refine Ls (X_move (v := .int _ _) rfl) ?_; refine Ls (X_move (v := .slice _ _ _) rfl) ?_; refine Ls (X_lenRow rfl hr9) ?_; refine Ls (X_lssT rfl rfl (by omega)) ?_; refine Ls (X_move (v := .bool _) rfl) ?_; refine Lg2 rfl rfl rfl (X_move (v := .int _ _) rfl) ?_; refine Lg2 rfl rfl rfl (X_lssT rfl rfl (by omega)) ?_; refine Ls (X_pickT (v := .bool _) rfl rfl) ?_; refine L_nil ?_; refine tn ?_; refine W_condT rfl ?_; refine W_skip ?_; refine tn ?_; refine W_seq ?_; refine W_block ?_; refine W_region ?_; refine Ls (X_move (v := v9) rfl) ?_; refine Ls (X_move (v := .slice _ _ _) rfl) ?_; refine Ls (X_move (v := .int _ _) rfl) ?_; refine Ls (X_indexSn rfl rfl (by omega)) ?_; refine Ls (X_loadA (size := 3) (cs := cndI ci) rfl (by exact Rng3 hcv hci) rfl) ?_)
      refine L_fv rfl (rmadeC ci w9) ?_
      intro w10 E10
      refine L_lits (zs' := [cndI (Qy.liC (Qy.mC ci))]) (cs := cndI (Qy.liC (Qy.mC ci))) (Parts.cons (c := cndI (Qy.liC (Qy.mC ci))) (z := z3) rfl rfl rfl rfl (Parts.nil _)) rfl (by simp) rfl rfl ?_
      intro q11 w11 r11 E11 hs11 _ _
      have E911 := E10.trans E11
      have hz11 := E911.size
      refine L_append (v := v9) (u := q11) rfl rfl (own_ext o9 E911) r11 cndI_cell (by omega) (by omega) (by have := E9.size; omega) ?_
      intro v12 w12 o12 hg12 hb12
      have hge : ∀ g, v9.ownBlock = some g → w4.heap.size ≤ g ∧ g < w9.heap.size := fun g h => o9.lt g h
      have hz12 := hg12.size
      (refine Ls (X_assign (v := v12) rfl) ?_; refine L_nil ?_; refine bn ?_; refine tn ?_; refine W_region ?_; refine Ls (X_move (v := .int _ _) rfl) ?_; refine Ls (X_addi rfl rfl (by omega)) ?_; refine Ls (X_assign (v := .int _ _) rfl) ?_; refine L_nil ?_; refine tn ?_)
      refine ⟨2 - (i + 1), by omega, i + 1, v12, rfl, by omega, by omega, (E9.trans E911).then hg12 (fun g h => (hge g h).1), by omega, (C8.ext E911).grown hg12 (own_ne o9 C8 (by decide)), ?_, own_other (own_ext o21 E911) hg12 (fun g h h' => hd g h' h), fun g h h' => ?_, rfl, rfl, rfl, rfl, rfl, rfl, rfl⟩
      · rw [take_snoc hMi, cndsI_snoc]; exact o12
      · have h21 := (o21.lt g h').2
        rcases hb12 with hb | hb
        · exact hd g (hb ▸ h) h'
        · rw [hb] at h; injection h with h; omega
    case' inr.inl => (refine W_seq ?_; refine W_seq ?_; refine W_region ?_; refine Ls (X_move (v := .int _ _) rfl) ?_; refine Ls (X_move (v := v) rfl) ?_; refine Ls (X_lenRow (v := v) rfl hr9) ?_; refine Ls (X_lssF rfl rfl (by omega)) ?_; refine Ls (X_move (v := .bool _) rfl) ?_; refine Lo2 rfl rfl rfl rfl ?_; refine Lo2 rfl rfl rfl rfl ?_; refine Ls (X_pickF (v := .bool _) rfl rfl) ?_; refine L_nil ?_; refine tn ?_; refine W_condF rfl ?_; refine W_exit ?_; refine te ?_; refine te ?_; refine bx ?_; refine tn ?_; refine W_seq ?_; refine W_region ?_; refine Ls (X_assign (v := .bool _) rfl) ?_; refine L_nil ?_; refine tn ?_; refine W_seq ?_; refine W_seq ?_; refine W_region ?_; refine Ls (X_assign (v := .int _ _) rfl) ?_; refine L_nil ?_; refine tn ?_; refine W_block ?_)
    case' inr.inr => (refine W_seq ?_; refine W_seq ?_; refine W_region ?_; refine Ls (X_move (v := .int _ _) rfl) ?_; refine Ls (X_move (v := v) rfl) ?_; refine Ls (X_lenRow (v := v) rfl hr9) ?_; refine Ls (X_lssT rfl rfl (by omega)) ?_; refine Ls (X_move (v := .bool _) rfl) ?_; refine Lg2 rfl rfl rfl (X_move (v := .int _ _) rfl) ?_; refine Lg2 rfl rfl rfl (X_lssF rfl rfl (by omega)) ?_; refine Ls (X_pickT (v := .bool _) rfl rfl) ?_; refine L_nil ?_; refine tn ?_; refine W_condF rfl ?_; refine W_exit ?_; refine te ?_; refine te ?_; refine bx ?_; refine tn ?_; refine W_seq ?_; refine W_region ?_; refine Ls (X_assign (v := .bool _) rfl) ?_; refine L_nil ?_; refine tn ?_; refine W_seq ?_; refine W_seq ?_; refine W_region ?_; refine Ls (X_assign (v := .int _ _) rfl) ?_; refine L_nil ?_; refine tn ?_; refine W_block ?_)
    all_goals
      have hMe : M.take i = M ∧ i = M.length := ⟨List.take_of_length_le (by omega), by omega⟩
      obtain ⟨hMt, hMi⟩ := hMe
      rw [hMt, hMi] at o9
      have hM2 : M.length ≤ 2 := by omega
      clear hMt hMi hMl
      refine W_loop (fun z f w' => ∃ (i : Nat) (v10 : Value), z = M.length - i ∧ i ≤ M.length ∧ Ext w4 w' ∧ w8.heap.size ≤ w'.heap.size ∧ Blk w' g8 26 (rdC rd) ∧
        w'.ownsRow w4.heap.size 46 3 v9 M.length (cndsI (M.map Qy.liC)) ∧ w'.ownsRow w4.heap.size 46 3 v10 i (cndsI ((M.reverse.take i).map Qy.liC)) ∧ (∀ g, v9.ownBlock = some g → v10.ownBlock ≠ some g) ∧
        f 4 = .pointer (some ⟨g4, 0, none⟩) ∧ f 7 = .bool true ∧ f 8 = .pointer (some ⟨g8, 0, none⟩) ∧ f 9 = v9 ∧ f 10 = v10 ∧ f 12 = .bool ((M.take i).all (Qy.mt1 rd)) ∧ f 13 = .int .i64 (i : Nat)) M.length ?_ ?_
      · exact ⟨0, q21, rfl, by omega, E9, hz9, C8, o9, o21, hd, rfl, rfl, rfl, rfl, rfl, rfl, rfl⟩
      · clear o9 o21 C8 hd E9 hz9 hr9 h1
        rintro z f w9 ⟨i, v10, rfl, hi', E9, hz9, C8, o9, o10, hd, f4, f7, f8, f9, f10, f12, f13⟩
        rw [fold f4, fold f7, fold f8, fold f9, fold f10, fold f12, fold f13]
        clear f4 f7 f8 f9 f10 f12 f13
        have hv10c := own_cell3 o10
        have r9 := Row.of_own o9
        by_cases hin : i < M.length
        · obtain ⟨ci, hci⟩ : ∃ c, M[i]? = some c := ⟨M[i], List.getElem?_eq_getElem hin⟩
          obtain ⟨ri, hri⟩ : ∃ c, M[M.length - 1 - i]? = some c := ⟨M[M.length - 1 - i]'(by omega), List.getElem?_eq_getElem (by omega)⟩
          have hrr : M.reverse[i]? = some ri := by rw [List.getElem?_reverse hin, hri]
          have hc4 := hMc ci (List.mem_of_getElem? hci)
          obtain ⟨bv, ov, cv, rfl, _, _, _, hcv⟩ := r9.at (k := i) hin
          have Rc : w9.rangeAt bv (ov + i * 3) (cndI (Qy.liC ci)) := Rng3 hcv (liC_get hci)
          have hat : (M.take (i + 1)).all (Qy.mt1 rd) = ((M.take i).all (Qy.mt1 rd) && Qy.mt1 rd ci) := by rw [take_snoc hci, List.all_append]; simp
          (refine W_seq ?_; refine W_seq ?_; refine W_region ?_; refine Ls (X_move (v := .int _ _) rfl) ?_; refine Ls (X_move (v := .slice _ _ _) rfl) ?_; refine Ls (X_lenRow rfl r9) ?_; refine Ls (X_lssT rfl rfl (by omega)) ?_; refine L_nil ?_; refine tn ?_; refine W_condT rfl ?_; refine W_skip ?_; refine tn ?_; refine W_seq ?_; refine W_block ?_; refine W_seq ?_)
          refine W_mono (Q := fun e f w' => e = .normal ∧ Ext w9 w' ∧ f 4 = .pointer (some ⟨g4, 0, none⟩) ∧ f 7 = .bool true ∧ f 8 = .pointer (some ⟨g8, 0, none⟩) ∧ f 9 = .slice (some ⟨bv, ov, none⟩) M.length cv ∧ f 10 = v10 ∧ f 12 = .bool ((M.take (i + 1)).all (Qy.mt1 rd)) ∧ f 13 = .int .i64 (i : Nat)) ?_ ?_
          · rw [hat]
            obtain ⟨al, hal⟩ : ∃ al, al = (M.take i).all (Qy.mt1 rd) := ⟨_, rfl⟩
            rw [← hal]
            cases al
            · apply W_dagE 11 (by kernel_rfl)
              (apply DW_x (fun r w hA hH => (X_move (v := .bool _) rfl).trans rfl); apply DW_x (fun r w hA hH => (X_move (v := .bool _) rfl).trans rfl); apply DW_off2 rfl rfl (fun _ => rfl) rfl; apply DW_off2 rfl rfl (fun _ => rfl) rfl; apply DW_off2 rfl rfl (fun _ => rfl) rfl; apply DW_off2 rfl rfl (fun _ => rfl) rfl; apply DW_off2 rfl rfl (fun _ => rfl) rfl; apply DW_off2 rfl rfl (fun _ => rfl) rfl; apply DW_off2 rfl rfl (fun _ => rfl) rfl; apply DW_x (fun r w hA hH => (X_pickF (v := .bool _) rfl rfl).trans rfl); apply DW_x (fun r w hA hH => (X_assign (v := .bool _) rfl).trans rfl))
              ((with_reducible exact D_end); (exact rfl); (repeat (first | exact .inr (.inr (fun _ _ => by with_reducible rfl)) | (refine And.intro ?_ ?_) | exact .inr (.inl rfl) | exact .inl (by decide +kernel) | exact trivial | exact .inr (.inr (fun _ _ => rfl)))); (try dsimp only [Nat.reduceAdd]))
              intro r w10 E10 _
              (refine L_nil ?_)
              exact ⟨rfl, E10, rfl, rfl, rfl, rfl, rfl, rfl, rfl⟩
            · apply W_dagE 8 (by kernel_rfl)
              (apply DW_x (fun r w hA hH => (X_move (v := .bool _) rfl).trans rfl); apply DW_x (fun r w hA hH => (X_move (v := .bool _) rfl).trans rfl); apply DW_on2 rfl rfl (fun _ => rfl) (fun r w hA hH => (X_move (v := .slice _ _ _) rfl).trans rfl); apply DW_on2 rfl rfl (fun _ => rfl) (fun r w hA hH => (X_move (v := .int _ _) rfl).trans rfl); apply DW_on2 rfl rfl (fun _ => rfl) (fun r w hA hH => (X_indexSn rfl rfl (by omega)).trans rfl); apply DW_on2 rfl rfl (fun _ => rfl) (fun r w hA hH => (X_loadA (size := 3) (cs := cndI (Qy.liC ci)) rfl (by exact hA.range Rc) rfl).trans rfl))
              ((with_reducible apply DW_dg (F := fun _ u w => RowF w9 3 u 1 (cndsI [Qy.liC ci]) w)); (exact rfl); (exact rfl); (exact fun _ => rfl); (exact fun r w hA hH => X_lcnd rfl w9 hA.size); (exact fun _ _ u w w' _ _ hR h => RowF.ext hR h); (exact fun _ _ => rfl))
              (apply DW_on2 rfl rfl (fun _ => rfl) (fun r w hA hH => (X_ldW (size := 4) rfl (C8.ext hA) rfl).trans rfl))
              ((with_reducible exact D_end); (exact rfl); (repeat (first | exact .inr (.inr (fun _ _ => by with_reducible rfl)) | (refine And.intro ?_ ?_) | exact .inr (.inl rfl) | exact .inl (by decide +kernel) | exact trivial | exact .inr (.inr (fun _ _ => rfl)))); (try dsimp only [Nat.reduceAdd]))
              intro r w10 E10 H10
              have H6 : RowF w9 3 (r 6) 1 (cndsI [Qy.liC ci]) w10 := H10 6
              refine L_strip rfl rfl rfl ?_
              refine L_fv rfl (gmatch1c ci rd (Qy.mt1 rd ci) hc4 rfl rfl H6) ?_
              intro w11 E11
              (refine Ls (X_pickT (v := .bool _) rfl rfl) ?_; refine Ls (X_assign (v := .bool _) rfl) ?_; refine L_nil ?_)
              exact ⟨rfl, E10.trans E11, rfl, rfl, rfl, rfl, rfl, rfl, rfl⟩
          · rintro e f w10 ⟨rfl, E10, f4, f7, f8, f9, f10, f12, f13⟩
            rw [fold f4, fold f7, fold f8, fold f9, fold f10, fold f12, fold f13]
            clear f4 f7 f8 f9 f10 f12 f13
            have Rr : w10.rangeAt bv (ov + ((M.length : Int) - 1 - (i : Int)).toNat * 3) (cndI (Qy.liC ri)) := by
              rw [show ((M.length : Int) - 1 - (i : Int)).toNat = M.length - 1 - i by omega]
              exact Rng3 (E10.range hcv) (liC_get hri)
            (refine tn ?_; refine W_region ?_; refine Ls (X_move (v := v10) rfl) ?_; refine Ls (X_move (v := .slice _ _ _) rfl) ?_; refine Ls (X_move (v := .slice _ _ _) rfl) ?_; refine Ls (X_lenRow rfl r9) ?_; refine Ls (X_subi rfl rfl (by omega)) ?_; refine Ls (X_move (v := .int _ _) rfl) ?_; refine Ls (X_subi rfl rfl (by omega)) ?_; refine Ls (X_indexS rfl rfl (by omega)) ?_; refine Ls (X_loadA (size := 3) (cs := cndI (Qy.liC ri)) rfl Rr rfl) ?_)
            refine L_lits (zs' := [cndI (Qy.liC ri)]) (cs := cndI (Qy.liC ri)) (Parts.cons (c := cndI (Qy.liC ri)) (z := z3) rfl rfl rfl rfl (Parts.nil _)) rfl (by simp) rfl rfl ?_
            intro q11 w11 r11 E11 hs11 _ _
            have E911 := E10.trans E11
            have hz11 := E911.size
            refine L_append (v := v10) (u := q11) rfl rfl (own_ext o10 E911) r11 cndI_cell (by omega) (by omega) (by have := E9.size; omega) ?_
            intro v12 w12 o12 hg12 hb12
            have hge : ∀ g, v10.ownBlock = some g → w4.heap.size ≤ g ∧ g < w9.heap.size := fun g h => o10.lt g h
            have hz12 := hg12.size
            (refine Ls (X_assign (v := v12) rfl) ?_; refine L_nil ?_; refine bn ?_; refine tn ?_; refine W_region ?_; refine Ls (X_move (v := .int _ _) rfl) ?_; refine Ls (X_addi rfl rfl (by omega)) ?_; refine Ls (X_assign (v := .int _ _) rfl) ?_; refine L_nil ?_; refine tn ?_)
            refine ⟨M.length - (i + 1), by omega, i + 1, v12, rfl, by omega, (E9.trans E911).then hg12 (fun g h => (hge g h).1), by omega, (C8.ext E911).grown hg12 (own_ne o10 C8 (by decide)), own_other (own_ext o9 E911) hg12 (fun g h h' => hd g h h'), ?_, fun g h h' => ?_, rfl, rfl, rfl, rfl, rfl, rfl, rfl⟩
            · rw [take_snoc hrr, cndsI_snoc]; exact o12
            · have h9 := (o9.lt g h).2
              rcases hb12 with hb | hb
              · exact hd g h (hb ▸ h')
              · rw [hb] at h'; injection h' with h'; omega
        · obtain rfl : i = M.length := by omega
          rw [List.take_length]
          rw [List.take_of_length_le (show M.reverse.length ≤ M.length by simp)] at o10
          obtain ⟨mb, hmb⟩ : ∃ mb, mb = Qy.mt rd M := ⟨_, rfl⟩
          rw [show M.all (Qy.mt1 rd) = mb from hmb.symm]
          have hv9c := own_cell3 o9
          have r10 : Row w9 w4.heap.size w9.heap.size 3 v10 M.length (cndsI (M.reverse.map Qy.liC)) := Row.of_own o10
          (refine W_seq ?_; refine W_seq ?_; refine W_region ?_; refine Ls (X_move (v := .int _ _) rfl) ?_; refine Ls (X_move (v := v9) rfl) ?_; refine Ls (X_lenRow (v := v9) rfl r9) ?_; refine Ls (X_lssF rfl rfl (by omega)) ?_; refine L_nil ?_; refine tn ?_; refine W_condF rfl ?_; refine W_exit ?_; refine te ?_; refine te ?_; refine bx ?_; refine tn ?_; refine W_seq ?_; refine W_region ?_)
          refine L_lit0 (size := 3) ?_
          intro q67 wA EA hsA oA
          (refine Ls (X_move (v := v9) rfl) ?_)
          refine L_append (v := q67) (u := v9) rfl rfl oA (r9.ext EA) cndsI_cell (by omega) (by omega) (by omega) ?_
          intro v14 wB oB hgB _
          have EB : Ext w9 wB := EA.then hgB (fun g h => (oA.lt g h).1)
          have hzB := EB.size
          have hv14c := own_cell3 oB
          (refine Ls (X_assign (v := v14) rfl) ?_; refine L_nil ?_; refine tn ?_; refine W_seq ?_; refine W_region ?_; refine Ls (X_move (v := v14) rfl) ?_; refine Ls (X_ldW (size := 3) rfl (D4.ext (E9.trans EB)) rfl) ?_)
          refine L_fv rfl (rmadeC cx wB) ?_
          intro wC EC
          refine L_lits (zs' := [cndI (Qy.liC (Qy.mC cx))]) (cs := cndI (Qy.liC (Qy.mC cx))) (Parts.cons (c := cndI (Qy.liC (Qy.mC cx))) (z := z3) rfl rfl rfl rfl (Parts.nil _)) rfl (by simp) rfl rfl ?_
          intro q73 wD rD ED hsD _ _
          have hzC := EC.size
          have hzD := ED.size
          refine L_append (v := v14) (u := q73) rfl rfl (own_ext oB (EC.trans ED)) rD cndI_cell (by omega) (by omega) (by omega) ?_
          intro v16 wE oE hgE _
          have EE : Ext w9 wE := ((EB.trans EC).trans ED).then hgE (fun g h => (oB.lt g h).1)
          have hv16c := own_cell3 oE
          have rE : Row wE w9.heap.size wE.heap.size 3 v16 (M.length + 1) (cndsI ((M ++ [Qy.mC cx]).map Qy.liC)) := (Row.of_own oE).re (by omega) (by rw [cndsI_snoc]; rfl)
          (refine Ls (X_assign (v := v16) rfl) ?_; refine L_nil ?_; refine tn ?_; refine W_seq ?_; refine W_region ?_)
          refine L_lit0 (size := 3) ?_
          intro q75 wF EF hsF oF
          have hzE := EE.size
          (refine Ls (X_move (v := v9) rfl) ?_)
          refine L_append (v := q75) (u := v9) rfl rfl oF (r9.ext (EE.trans EF)) cndsI_cell (by omega) (by omega) (by omega) ?_
          intro v15 wG oG hgG _
          have EG : Ext wE wG := EF.then hgG (fun g h => (oF.lt g h).1)
          have oG : wG.ownsRow wE.heap.size 46 3 v15 M.length (cndsI (M.map Qy.liC)) := by
            have h1 : 0 + M.length = M.length := by omega
            rw [h1] at oG; exact oG
          have hv15c := own_cell3 oG
          have rG := Row.of_own oG
          have E9G := EE.trans EG
          clear oA oB oE oF hgB hgE hgG rD
          (refine Ls (X_assign (v := v15) rfl) ?_; refine L_nil ?_; refine tn ?_; refine W_seq ?_; refine W_seq ?_)
          have hcs : (M = []) ∨ (∃ c0 r, M = c0 :: r ∧ c0.2.1 < c0.2.2) ∨ (∃ c0 r, M = c0 :: r ∧ ¬ c0.2.1 < c0.2.2) := by
            cases M with
            | nil => exact .inl rfl
            | cons c0 r =>
              by_cases h : c0.2.1 < c0.2.2
              · exact .inr (.inl ⟨c0, r, rfl, h⟩)
              · exact .inr (.inr ⟨c0, r, rfl, h⟩)
          rcases hcs with hM0 | ⟨c0, rM, hM0, hlt⟩ | ⟨c0, rM, hM0, hlt⟩
          case' inl =>
            have hMl0 : M.length = 0 := by rw [hM0]; rfl
            have hN : nar M = M := by rw [hM0]; rfl
            apply W_dagE 14 (by kernel_rfl)
            (apply DW_x (fun r w hA hH => (X_move (v := v15) rfl).trans rfl); apply DW_x (fun r w hA hH => (X_lenRow (v := v15) rfl rG).trans rfl); apply DW_x (fun r w hA hH => (X_gtrF rfl rfl (by omega)).trans rfl); apply DW_x (fun r w hA hH => (X_move (v := .bool _) rfl).trans rfl); apply DW_off2 rfl rfl (fun _ => rfl) rfl; apply DW_off2 rfl rfl (fun _ => rfl) rfl; apply DW_off2 rfl rfl (fun _ => rfl) rfl; apply DW_off2 rfl rfl (fun _ => rfl) rfl; apply DW_off2 rfl rfl (fun _ => rfl) rfl; apply DW_off2 rfl rfl (fun _ => rfl) rfl; apply DW_off2 rfl rfl (fun _ => rfl) rfl; apply DW_off2 rfl rfl (fun _ => rfl) rfl; apply DW_off2 rfl rfl (fun _ => rfl) rfl; apply DW_x (fun r w hA hH => (X_pickF (v := .bool _) rfl rfl).trans rfl))
            ((with_reducible exact D_end); (exact rfl); (repeat (first | exact .inr (.inr (fun _ _ => by with_reducible rfl)) | (refine And.intro ?_ ?_) | exact .inr (.inl rfl) | exact .inl (by decide +kernel) | exact trivial | exact .inr (.inr (fun _ _ => rfl)))); (try dsimp only [Nat.reduceAdd]))
            intro r wJ EH _
            (refine L_nil ?_; refine tn ?_; refine W_condF rfl ?_; refine W_skip ?_; refine tn ?_; refine W_seq ?_; refine W_region ?_)
            have rN : Row wJ wE.heap.size wG.heap.size 3 v15 M.length (cndsI ((nar M).map Qy.liC)) := by rw [hN]; exact rG.ext EH
            have EN : Ext wE wJ := EG.trans EH
          case' inr.inl =>
            have hM1 : 0 < M.length := by rw [hM0]; simp
            have h255 := hM255 c0 (by rw [hM0]; simp)
            obtain ⟨g15, cap, cs, rfl, hge, hB, hcap, hcm, hcl, hct⟩ := own_blk oG hM1
            have hci : (M.map Qy.liC)[0]? = some (Qy.liC c0) := by rw [hM0]; rfl
            have hcell : wG.rangeAt g15 0 (cndsI (M.map Qy.liC)) := hB.range fun j u hu => by
              rw [← hct] at hu
              rw [Nat.zero_add, ← List.getElem?_take_of_lt (show j < M.length * 3 from by have := (List.getElem?_eq_some_iff.1 hu).1; rw [List.length_take] at this; omega)]
              exact hu
            have R0 := Rng3 hcell hci
            apply W_dagE 14 (by kernel_rfl)
            (apply DW_x (fun r w hA hH => (X_move (v := .slice _ _ _) rfl).trans rfl); apply DW_x (fun r w hA hH => (X_lenRow rfl rG).trans rfl); apply DW_x (fun r w hA hH => (X_gtrT rfl rfl (by omega)).trans rfl); apply DW_x (fun r w hA hH => (X_move (v := .bool _) rfl).trans rfl); apply DW_on2 rfl rfl (fun _ => rfl) (fun r w hA hH => (X_move (v := .slice _ _ _) rfl).trans rfl); apply DW_on2 rfl rfl (fun _ => rfl) (fun r w hA hH => (X_indexSn rfl rfl (by omega)).trans rfl); apply DW_on2 rfl rfl (fun _ => rfl) (fun r w hA hH => (X_fld rfl).trans rfl); apply DW_on2 rfl rfl (fun _ => rfl) (fun r w hA hH => (X_ldR (j := 1) (v := .int .i64 (c0.2.1 : Nat)) rfl (hA.range R0) rfl rfl).trans rfl); apply DW_on2 rfl rfl (fun _ => rfl) (fun r w hA hH => (X_move (v := .slice _ _ _) rfl).trans rfl); apply DW_on2 rfl rfl (fun _ => rfl) (fun r w hA hH => (X_indexSn rfl rfl (by omega)).trans rfl); apply DW_on2 rfl rfl (fun _ => rfl) (fun r w hA hH => (X_fld rfl).trans rfl); apply DW_on2 rfl rfl (fun _ => rfl) (fun r w hA hH => (X_ldR (j := 2) (v := .int .i64 (c0.2.2 : Nat)) rfl (hA.range R0) rfl rfl).trans rfl); apply DW_on2 rfl rfl (fun _ => rfl) (fun r w hA hH => (X_lssT rfl rfl (by omega)).trans rfl); apply DW_x (fun r w hA hH => (X_pickT (v := .bool _) rfl rfl).trans rfl))
            ((with_reducible exact D_end); (exact rfl); (repeat (first | exact .inr (.inr (fun _ _ => by with_reducible rfl)) | (refine And.intro ?_ ?_) | exact .inr (.inl rfl) | exact .inl (by decide +kernel) | exact trivial | exact .inr (.inr (fun _ _ => rfl)))); (try dsimp only [Nat.reduceAdd]))
            intro r wH EH _
            (refine L_nil ?_; refine tn ?_; refine W_condT rfl ?_; refine W_region ?_; refine Ls (X_move (v := .slice _ _ _) rfl) ?_; refine Ls (X_move (v := .slice _ _ _) rfl) ?_; refine Ls (X_indexSn rfl rfl (by omega)) ?_; refine Ls (X_fld rfl) ?_; refine Ls (X_ldR (j := 1) (v := .int .i64 (c0.2.1 : Nat)) rfl (EH.range R0) rfl rfl) ?_; refine Ls (X_addi rfl rfl (by omega)) ?_; refine Ls (X_indexSn rfl rfl (by omega)) ?_; refine Ls (X_fld rfl) ?_)
            refine L_store1 rfl (v := .int .i64 ((c0.2.1 : Nat) + 1)) rfl rfl (hB.ext EH) (show 1 < cs.length by omega) ?_
            intro wJ BJ hgJ hsJ
            (refine L_nil ?_; refine tn ?_; refine W_seq ?_; refine W_region ?_)
            have EHJ : Ext wE wJ := (EG.trans EH).then hgJ (fun g h => by cases h; exact hge)
            have rN : Row wJ wE.heap.size wJ.heap.size 3 (.slice (some ⟨g15, 0, none⟩) M.length cap) M.length (cndsI ((nar M).map Qy.liC)) := by
              have ht : (cs.set 1 (.int .i64 ((c0.2.1 : Nat) + 1))).take (M.length * 3) = cndsI ((nar M).map Qy.liC) := by
                rw [List.take_set, hct, hM0, nar_cons, if_pos hlt]; rfl
              exact Row.of_own (own_of_blk hge BJ hcap hcm (by rw [List.length_set]; exact hcl) ht)
            have EN : Ext wE wJ := EHJ
          case' inr.inr =>
            have hM1 : 0 < M.length := by rw [hM0]; simp
            obtain ⟨g15, cap, cs, rfl, hge, hB, hcap, hcm, hcl, hct⟩ := own_blk oG hM1
            have hci : (M.map Qy.liC)[0]? = some (Qy.liC c0) := by rw [hM0]; rfl
            have hcell : wG.rangeAt g15 0 (cndsI (M.map Qy.liC)) := hB.range fun j u hu => by
              rw [← hct] at hu
              rw [Nat.zero_add, ← List.getElem?_take_of_lt (show j < M.length * 3 from by have := (List.getElem?_eq_some_iff.1 hu).1; rw [List.length_take] at this; omega)]
              exact hu
            have R0 := Rng3 hcell hci
            apply W_dagE 14 (by kernel_rfl)
            (apply DW_x (fun r w hA hH => (X_move (v := .slice _ _ _) rfl).trans rfl); apply DW_x (fun r w hA hH => (X_lenRow rfl rG).trans rfl); apply DW_x (fun r w hA hH => (X_gtrT rfl rfl (by omega)).trans rfl); apply DW_x (fun r w hA hH => (X_move (v := .bool _) rfl).trans rfl); apply DW_on2 rfl rfl (fun _ => rfl) (fun r w hA hH => (X_move (v := .slice _ _ _) rfl).trans rfl); apply DW_on2 rfl rfl (fun _ => rfl) (fun r w hA hH => (X_indexSn rfl rfl (by omega)).trans rfl); apply DW_on2 rfl rfl (fun _ => rfl) (fun r w hA hH => (X_fld rfl).trans rfl); apply DW_on2 rfl rfl (fun _ => rfl) (fun r w hA hH => (X_ldR (j := 1) (v := .int .i64 (c0.2.1 : Nat)) rfl (hA.range R0) rfl rfl).trans rfl); apply DW_on2 rfl rfl (fun _ => rfl) (fun r w hA hH => (X_move (v := .slice _ _ _) rfl).trans rfl); apply DW_on2 rfl rfl (fun _ => rfl) (fun r w hA hH => (X_indexSn rfl rfl (by omega)).trans rfl); apply DW_on2 rfl rfl (fun _ => rfl) (fun r w hA hH => (X_fld rfl).trans rfl); apply DW_on2 rfl rfl (fun _ => rfl) (fun r w hA hH => (X_ldR (j := 2) (v := .int .i64 (c0.2.2 : Nat)) rfl (hA.range R0) rfl rfl).trans rfl); apply DW_on2 rfl rfl (fun _ => rfl) (fun r w hA hH => (X_lssF rfl rfl (by omega)).trans rfl); apply DW_x (fun r w hA hH => (X_pickT (v := .bool _) rfl rfl).trans rfl))
            ((with_reducible exact D_end); (exact rfl); (repeat (first | exact .inr (.inr (fun _ _ => by with_reducible rfl)) | (refine And.intro ?_ ?_) | exact .inr (.inl rfl) | exact .inl (by decide +kernel) | exact trivial | exact .inr (.inr (fun _ _ => rfl)))); (try dsimp only [Nat.reduceAdd]))
            intro r wJ EJ _
            (refine L_nil ?_; refine tn ?_; refine W_condF rfl ?_; refine W_skip ?_; refine tn ?_; refine W_seq ?_; refine W_region ?_)
            have hN : nar M = M := by rw [hM0, nar_cons, if_neg hlt]
            have rN : Row wJ wE.heap.size wG.heap.size 3 (.slice (some ⟨g15, 0, none⟩) M.length cap) M.length (cndsI ((nar M).map Qy.liC)) := by rw [hN]; exact rG.ext EJ
            have EN : Ext wE wJ := EG.trans EJ
          all_goals
            have r9N := r9.ext (EE.trans EN)
            have r10N := r10.ext (EE.trans EN)
            have rEN := rE.ext EN
            have C8N := C8.ext (EE.trans EN)
            have hM3 : mb = false → 0 < M.length := fun h => by
              cases M with
              | nil => rw [hmb] at h; cases h
              | cons _ _ => simp
            have hcN := nar_c hMc
            have hcE : ∀ c ∈ M ++ [Qy.mC cx], c.1 < 4 := fun c hc => by
              rcases List.mem_append.1 hc with hc | hc
              · exact hMc c hc
              · simp at hc; rw [hc]; exact (Qy.mC_ok cx).1
            (refine Ls (X_move (v := v9) rfl) ?_; refine Ls (X_ldW (size := 4) rfl C8N rfl) ?_)
            refine L_fv rfl (gmatchB v9 M rd mb hmb.symm M.length rfl (by omega) hMc _ r9N) ?_
            intro wK EK
            cases mb
            · have hMp := hM3 rfl
              (refine Ls (X_assign (v := .bool _) rfl) ?_; refine L_nil ?_; refine tn ?_; refine W_seq ?_; refine W_region ?_; refine Ls (X_move (v := .bool _) rfl) ?_; refine Ls (X_move (v := .bool _) rfl) ?_; refine Ls (X_eqlBo rfl rfl rfl rfl) ?_; refine Ls (X_move (v := .bool _) rfl) ?_; refine Lg2 rfl rfl rfl (X_move (v := v10) rfl) ?_; refine Lg2 rfl rfl rfl (X_ldW (size := 4) rfl (C8N.ext EK) rfl) ?_)
              refine L_strip rfl rfl rfl ?_
              refine L_fv rfl (gmatchB v10 M.reverse rd false (by rw [mt_rev]; exact hmb.symm) M.length (by simp) (by omega) (fun c hc => hMc c (by simpa using hc)) wK (r10N.ext EK)) ?_
              intro wL EL
              have EKL := EK.trans EL
              (refine Lg2 rfl rfl rfl (X_move (v := .bool _) rfl) ?_; refine Lg2 rfl rfl rfl (X_eqlBo rfl rfl rfl rfl) ?_; refine Ls (X_pickT (v := .bool _) rfl rfl) ?_; refine Ls (X_move (v := .bool _) rfl) ?_; refine Lg2 rfl rfl rfl (X_move (v := .bool _) rfl) ?_; refine Lg2 rfl rfl rfl (X_move (v := .bool _) rfl) ?_; refine Lg2 rfl rfl rfl (X_move (v := v16) rfl) ?_; refine Lg2 rfl rfl rfl (X_ldW (size := 4) rfl (C8N.ext EKL) rfl) ?_)
              refine L_strip rfl rfl rfl ?_
              refine L_fv rfl (gmatchB v16 (M ++ [Qy.mC cx]) rd false (mt_more hmb.symm _) (M.length + 1) (by simp) (by omega) hcE wL (rEN.ext EKL)) ?_
              intro wP EP
              have EKP := EKL.trans EP
              repeat (first | ((with_reducible refine i_move ?_); ((with_reducible refine i_gd ?_); (first | refine Lg2 rfl rfl rfl (X_move (v := .slice _ _ _) rfl) ?_ | refine Lg2 rfl rfl rfl (X_move (v := .bool _) rfl) ?_ | refine Lg2 rfl rfl rfl (X_move (v := v15) rfl) ?_))) | ((with_reducible refine i_unot ?_); ((with_reducible refine i_gd ?_); refine Lg2 rfl rfl rfl (X_not rfl) ?_)) | ((with_reducible refine i_load ?_); ((with_reducible refine i_gd ?_); refine Lg2 rfl rfl rfl (X_ldW (size := 4) rfl (C8N.ext EKP) rfl) ?_)))
              refine L_strip rfl rfl rfl ?_
              refine L_fv rfl (gmatchB _ (nar M) rd false (mt_nar hmb.symm) M.length (nar_len M).symm (by omega) hcN wP (rN.ext EKP)) ?_
              intro wQ EQ
              (refine Lg2 rfl rfl rfl (X_not rfl) ?_; refine Lg2 rfl rfl rfl (X_pickT (v := .bool _) rfl rfl) ?_; refine Lg2 rfl rfl rfl (X_pickF (v := .bool _) rfl rfl) ?_; refine Ls (X_pickT (v := .bool _) rfl rfl) ?_; refine Ls (X_move (v := .bool _) rfl) ?_; refine Lg2 rfl rfl rfl (X_move (v := v9) rfl) ?_; refine Lg2 rfl rfl rfl (X_lenRow (v := v9) rfl r9N) ?_; refine Lg2 rfl rfl rfl (X_gtrT rfl rfl (by omega)) ?_; refine Lg2 rfl rfl rfl (X_move (v := .bool _) rfl) ?_; refine Lo2 rfl rfl rfl rfl ?_; refine Lg2 rfl rfl rfl (X_pickT (v := .bool _) rfl rfl) ?_; refine Ls (X_pickT (v := .bool _) rfl rfl) ?_; refine Ls (X_move (v := .bool _) rfl) ?_; refine Lg2 rfl rfl rfl (X_move (v := .bool _) rfl) ?_; refine Ls (X_pickT (v := .bool _) rfl rfl) ?_; refine Ls (X_assign (v := .bool _) rfl) ?_; refine L_nil ?_; refine tn ?_; refine W_ret ?_)
              exact endQ_ret1 rfl rfl (v := .bool true) rfl ⟨rfl, (((E04.trans E9).trans (EE.trans EN)).trans EKP).trans EQ⟩
            · (refine Ls (X_assign (v := .bool _) rfl) ?_; refine L_nil ?_; refine tn ?_; refine W_seq ?_; refine W_region ?_; refine Ls (X_move (v := .bool _) rfl) ?_; refine Ls (X_move (v := .bool _) rfl) ?_; refine Ls (X_eqlBo rfl rfl rfl rfl) ?_; refine Ls (X_move (v := .bool _) rfl) ?_; refine Lg2 rfl rfl rfl (X_move (v := v10) rfl) ?_; refine Lg2 rfl rfl rfl (X_ldW (size := 4) rfl (C8N.ext EK) rfl) ?_)
              refine L_strip rfl rfl rfl ?_
              refine L_fv rfl (gmatchB v10 M.reverse rd true (by rw [mt_rev]; exact hmb.symm) M.length (by simp) (by omega) (fun c hc => hMc c (by simpa using hc)) wK (r10N.ext EK)) ?_
              intro wL EL
              by_cases hp : 0 < M.length
              · (refine Lg2 rfl rfl rfl (X_move (v := .bool _) rfl) ?_; refine Lg2 rfl rfl rfl (X_eqlBo rfl rfl rfl rfl) ?_; refine Ls (X_pickT (v := .bool _) rfl rfl) ?_; refine Ls (X_move (v := .bool _) rfl) ?_; refine Lg2 rfl rfl rfl (X_move (v := .bool _) rfl) ?_; refine Lg2 rfl rfl rfl (X_move (v := .bool _) rfl) ?_; refine Lo2 rfl rfl rfl rfl ?_; refine Lo2 rfl rfl rfl rfl ?_; refine Lo2 rfl rfl rfl rfl ?_; refine Lo2 rfl rfl rfl rfl ?_; refine Lo2 rfl rfl rfl rfl ?_; refine Lo3 rfl rfl rfl ?_; refine Lo3 rfl rfl rfl ?_; refine Lo3 rfl rfl rfl ?_; refine Lo3 rfl rfl rfl ?_; refine Lo2 rfl rfl rfl rfl ?_; refine Lg2 rfl rfl rfl (X_pickT (v := .bool _) rfl rfl) ?_; refine Ls (X_pickT (v := .bool _) rfl rfl) ?_; refine Ls (X_move (v := .bool _) rfl) ?_; refine Lg2 rfl rfl rfl (X_move (v := v9) rfl) ?_; refine Lg2 rfl rfl rfl (X_lenRow (v := v9) rfl r9N) ?_; refine Lg2 rfl rfl rfl (X_gtrT rfl rfl (by omega)) ?_; refine Lg2 rfl rfl rfl (X_move (v := .bool _) rfl) ?_; refine Lo2 rfl rfl rfl rfl ?_; refine Lg2 rfl rfl rfl (X_pickT (v := .bool _) rfl rfl) ?_; refine Ls (X_pickT (v := .bool _) rfl rfl) ?_; refine Ls (X_move (v := .bool _) rfl) ?_; refine Lg2 rfl rfl rfl (X_move (v := .bool _) rfl) ?_; refine Ls (X_pickT (v := .bool _) rfl rfl) ?_; refine Ls (X_assign (v := .bool _) rfl) ?_; refine L_nil ?_; refine tn ?_; refine W_ret ?_)
                exact endQ_ret1 rfl rfl (v := .bool true) rfl ⟨rfl, (((E04.trans E9).trans (EE.trans EN)).trans EK).trans EL⟩
              · repeat (first | (with_reducible refine tn ?_) | (with_reducible refine W_ret ?_) | (with_reducible refine L_nil ?_) | ((with_reducible refine i_move ?_); (first | ((with_reducible refine i_ng ?_); refine Ls (X_move (v := .bool _) rfl) ?_) | ((with_reducible refine i_gd ?_); (first | refine Lg2 rfl rfl rfl (X_move (v := .bool _) rfl) ?_ | refine Lg2 rfl rfl rfl (X_move (v := v9) rfl) ?_)))) | ((with_reducible refine i_assign ?_); ((with_reducible refine i_ng ?_); refine Ls (X_assign (v := .bool _) rfl) ?_)) | ((with_reducible refine i_gtr ?_); ((with_reducible refine i_gd ?_); (first | refine Lg2 rfl rfl rfl (X_gtrT rfl rfl (by omega)) ?_ | refine Lg2 rfl rfl rfl (X_gtrF rfl rfl (by omega)) ?_))) | ((with_reducible refine i_eql ?_); ((with_reducible refine i_gd ?_); refine Lg2 rfl rfl rfl (X_eqlBo rfl rfl rfl rfl) ?_)) | ((with_reducible refine i_len ?_); ((with_reducible refine i_gd ?_); refine Lg2 rfl rfl rfl (X_lenRow (v := v9) rfl r9N) ?_)) | ((with_reducible refine i_pick ?_); (first | ((with_reducible refine i_ng ?_); refine Ls (X_pickT (v := .bool _) rfl rfl) ?_) | ((with_reducible refine i_gd ?_); (first | refine Lg2 rfl rfl rfl (X_pickT (v := .bool _) rfl rfl) ?_ | refine Lg2 rfl rfl rfl (X_pickF (v := .bool _) rfl rfl) ?_)))) | ((with_reducible refine i_gd ?_); (first | refine Lo2 rfl rfl rfl rfl ?_ | refine Lo3 rfl rfl rfl ?_)))
                exact endQ_ret1 rfl rfl (v := .bool true) rfl ⟨rfl, (((E04.trans E9).trans (EE.trans EN)).trans EK).trans EL⟩
end Go.Proofs.YtipnliodpmjhcaaDoor

/- The law on the round trip. -/
namespace Go.Proofs.YtipnliodpmjhcaaDoor
open Go.RowKit Go.Proofs.K

theorem dig_b (n : Nat) : ∀ x ∈ Qy.dig n, x < 256 := fun x hx => by
  have := Qy.digF_ok (n + 1) n x hx
  rw [Qy.isDi_iff] at this; omega
theorem lo_b {l : List Nat} (h : ∀ c ∈ l, Qy.isLo c = true) : ∀ x ∈ l, x < 256 := fun x hx => by
  have := h x hx
  rw [Qy.isLo_iff] at this; omega
theorem app_b {a b : List Nat} (ha : ∀ x ∈ a, x < 256) (hb : ∀ x ∈ b, x < 256) : ∀ x ∈ a ++ b, x < 256 := fun x hx => by
  rcases List.mem_append.1 hx with h | h
  · exact ha x h
  · exact hb x h
theorem fFil_b : ∀ (b : Bool) (l : List Qy.Cnd), ∀ x ∈ Qy.fFil b l, x < 256
  | _, [] => fun x h => by cases h
  | b, c :: l => by
    unfold Qy.fFil Qy.fCond
    exact app_b (app_b (app_b (app_b (by decide) (by cases b <;> decide)) (by decide)) (app_b (app_b (app_b (app_b (app_b (app_b (lo_b (Qy.name_lo _)) (by decide)) (by decide)) (by decide)) (dig_b _)) (by decide)) (dig_b _))) (fFil_b false l)
theorem fFils_b : ∀ (l : List (List Qy.Cnd)), ∀ x ∈ Qy.fFils l, x < 256
  | [] => fun x h => by cases h
  | [a] => fFil_b true a
  | a :: b :: l => app_b (app_b (app_b (fFil_b true a) (by decide)) (by decide)) (fFils_b (b :: l))
theorem format_b (q : Qy.Q) : ∀ x ∈ Qy.format q, x < 256 := by
  unfold Qy.format
  refine app_b (app_b (app_b (lo_b (Qy.keyword_lo _)) ?_) ?_) (fFils_b _)
  · cases Qy.hasCol q.kind
    · intro x h; cases h
    · exact app_b (by decide) (lo_b (Qy.name_lo _))
  · cases Nat.ble 1 (Qy.maxK q.kind)
    · intro x h; cases h
    · exact app_b (by decide) (dig_b _)
theorem parse_fmt {q : Qy.Q} (h : Qy.Ok q) : Qy.parse (sb (strB (Qy.format q))) = (q, 0, 0) := by rw [sb_strB (format_b q)]; exact Qy.parse_format h
theorem fmt_size {q : Qy.Q} (h : Qy.Ok q) : (strB (Qy.format q)).size ≤ 100000 := by rw [strB_size]; have := Qy.format_len h; omega
theorem lround (q : Qy.QI) (v : Value) (lo hi : Nat) (w : World) (hw : Tabs w) (hF : FilsI w lo hi v q.fs) :
    Calls Tryd.prog 5 #[.agg (qC q.kind q.col q.k v).toArray] w fun e w' => e = .returned (.bool true) ∧ Ext w w' := by
  refine calls_W Tryd.func5 rfl Tryd.ntmps5 rfl ?_
  have hmk := rmade q v lo hi
  have hok := Qy.mQ_ok q
  generalize Qy.mQ q = m at *
  (refine W_seq ?_; refine W_region ?_)
  refine L_box (l := qC q.kind q.col q.k v) rfl ?_
  intro g1 w1 B1 hg1 E1 hs1
  (refine Ls (X_assign (v := .bool _) rfl) ?_; refine L_nil ?_; refine tn ?_; refine W_seq ?_; refine W_region ?_)
  refine L_fv rfl (gsanity w1 (hw.ext E1)) ?_
  intro w2 E2
  (refine Ls (X_assign (v := .bool _) rfl) ?_; refine L_nil ?_; refine tn ?_; refine W_seq ?_; refine W_region ?_; refine Ls (X_ldW (size := 4) rfl (B1.ext E2) rfl) ?_)
  refine L_fn (hmk w2 ((hF.ext E1).ext E2)) rfl ?_
  rintro e w3 ⟨u, rfl, E3, F3⟩
  refine ⟨_, rfl, ?_⟩
  have huc := F3.cell
  refine L_alloc ?_
  intro g4 w4 B4 hg4 E4 hs4
  refine L_storeW (size := 4) (l := qry m u) rfl rfl rfl (qC_cell huc) B4 rfl ?_
  intro w5 C4 hg5 hs5
  have E35 : Ext w3 w5 := E4.then hg5 (fun g h => by cases h; omega)
  have E05 := ((E1.trans E2).trans E3).trans E35
  have F5 := F3.ext E35
  clear B4 hg5
  (refine L_nil ?_; refine tn ?_; refine W_seq ?_; refine W_region ?_; refine Ls (X_ldW (size := 4) rfl C4 rfl) ?_)
  refine L_fv rfl (gformat m hok u _ _ w5 (hw.ext E05) F5) ?_
  intro w6 E6
  refine L_fn (gparseV (parse_fmt hok) (fmt_size hok) w6 (hw.ext (E05.trans E6))) rfl ?_
  rintro e w7 ⟨v7, rfl, E7, F7⟩
  refine ⟨_, rfl, ?_⟩
  have hvc := F7.cell
  (refine Ls (X_move (v := .tuple _) rfl) ?_; refine Ls (X_extract rfl rfl) ?_; refine Ls (X_extract rfl rfl) ?_; refine Ls (X_extract rfl rfl) ?_)
  refine L_alloc ?_
  intro g8 w8 B8 hg8 E8 hs8
  refine L_storeW (size := 4) (l := qry m v7) rfl rfl rfl (qC_cell hvc) B8 rfl ?_
  intro w9 C8 hg9 hs9
  have E79 : Ext w7 w9 := E8.then hg9 (fun g h => by cases h; omega)
  have E59 := (E6.trans E7).trans E79
  (refine Ls (X_assign (v := .int _ _) rfl) ?_; refine Ls (X_assign (v := .int _ _) rfl) ?_; refine L_nil ?_; refine tn ?_; refine W_seq ?_; refine W_region ?_; refine Ls (X_ldW (size := 4) rfl C8 rfl) ?_; refine Ls (X_ldW (size := 4) rfl (C4.ext E59) rfl) ?_)
  refine L_fv rfl (gsame m (Qy_small hok) v7 u _ _ _ _ w9 (F7.ext E79) (F5.ext E59)) ?_
  intro w10 E10
  (refine Ls (X_move (v := .bool _) rfl) ?_; refine Lg2 rfl rfl rfl (X_move (v := .int _ _) rfl) ?_; refine Lg2 rfl rfl rfl (X_eqlT rfl rfl (by omega)) ?_; refine Ls (X_pickT (v := .bool _) rfl rfl) ?_; refine Ls (X_move (v := .bool _) rfl) ?_; refine Lg2 rfl rfl rfl (X_move (v := .int _ _) rfl) ?_; refine Lg2 rfl rfl rfl (X_eqlT rfl rfl (by omega)) ?_; refine Ls (X_pickT (v := .bool _) rfl rfl) ?_; refine Ls (X_move (v := .bool _) rfl) ?_; refine Lg2 rfl rfl rfl (X_move (v := .bool _) rfl) ?_; refine Ls (X_pickT (v := .bool _) rfl rfl) ?_; refine Ls (X_assign (v := .bool _) rfl) ?_; refine L_nil ?_; refine tn ?_; refine W_ret ?_)
  exact endQ_ret1 rfl rfl (v := .bool true) rfl ⟨rfl, (E05.trans E59).trans E10⟩
end Go.Proofs.YtipnliodpmjhcaaDoor

/- The reference's Valid, for raw queries. -/
namespace Go.Proofs.YtipnliodpmjhcaaDoor
open Go.RowKit Go.Proofs.K

set_option maxHeartbeats 8000000 in
theorem rvfil (lo hi : Nat) (v : Value) (l : List Qy.CndI) (w : World) (hr : Row w lo hi 3 v l.length (cndsI l)) :
    Calls Tryd.prog 36 #[v] w fun e w' => e = .returned (.bool (decide (Qy.okFI l))) ∧ Ext w w' := by
  refine calls_W Tryd.func36 rfl Tryd.ntmps36 rfl ?_
  have hvc := row_cell hr
  by_cases h3 : l.length ≤ 3
  · (refine W_seq ?_; refine W_region ?_; refine Ls (X_assign (v := .bool _) rfl) ?_; refine L_nil ?_; refine tn ?_; refine W_seq ?_; refine W_seq ?_; refine W_region ?_; refine Ls (X_move (v := v) rfl) ?_; refine Ls (X_lenRow (v := v) rfl hr) ?_; refine Ls (X_gtrF rfl rfl (by omega)) ?_; refine L_nil ?_; refine tn ?_; refine W_condF rfl ?_; refine W_skip ?_; refine tn ?_; refine W_seq ?_; refine W_seq ?_; refine W_region ?_; refine Ls (X_assign (v := .int _ _) rfl) ?_; refine L_nil ?_; refine tn ?_; refine W_block ?_)
    refine W_loop (fun z f w' => ∃ i, z = l.length - i ∧ i ≤ l.length ∧ (∀ c ∈ l.take i, Qy.okCI c) ∧ Ext w w' ∧ f 0 = v ∧ f 3 = .int .i64 (i : Nat)) l.length ?_ ?_
    · exact ⟨0, rfl, by omega, (by intro c h; simp at h), Ext.refl _, rfl, rfl⟩
    · rintro z f w1 ⟨i, rfl, hi', hall, E1, f0, f3⟩
      rw [fold f0, fold f3]
      clear f0 f3
      have hr1 := hr.ext E1
      by_cases hlt : i < l.length
      · obtain ⟨⟨a, x, y⟩, hci⟩ : ∃ c, l[i]? = some c := ⟨l[i], List.getElem?_eq_getElem hlt⟩
        have hmem := List.mem_of_getElem? hci
        obtain ⟨b0, o0, c0, rfl, _, _, _, hcell⟩ := hr1.at hlt
        have R1 : w1.rangeAt b0 (o0 + i * 3) (cndI (a, x, y)) := Rng3 hcell hci
        obtain ⟨m, hm⟩ : ∃ m, m = Qy.cmaxI a := ⟨_, rfl⟩
        have hok : Qy.okCI (a, x, y) ↔ (0 ≤ a ∧ a < 4 ∧ 0 ≤ x ∧ x ≤ y ∧ y ≤ m) := by unfold Qy.okCI; rw [hm]
        have hno : ¬ (0 ≤ a ∧ a < 4 ∧ 0 ≤ x ∧ x ≤ y ∧ y ≤ m) → decide (Qy.okFI l) = false := fun h => decide_eq_false fun hf => h (hok.1 (hf.2 _ hmem))
        have hmx := rmax a
        rw [← hm] at hmx
        clear hm
        (refine W_seq ?_; refine W_seq ?_; refine W_region ?_; refine Ls (X_move (v := .int _ _) rfl) ?_; refine Ls (X_move (v := .slice _ _ _) rfl) ?_; refine Ls (X_lenRow rfl hr1) ?_; refine Ls (X_lssT rfl rfl (by omega)) ?_; refine L_nil ?_; refine tn ?_; refine W_condT rfl ?_; refine W_skip ?_; refine tn ?_; refine W_seq ?_; refine W_block ?_; refine W_seq ?_)
        have h6 : a < 0 ∨ (0 ≤ a ∧ 3 < a) ∨ (0 ≤ a ∧ a ≤ 3 ∧ x < 0) ∨ (0 ≤ a ∧ a ≤ 3 ∧ 0 ≤ x ∧ y < x) ∨ (0 ≤ a ∧ a ≤ 3 ∧ 0 ≤ x ∧ x ≤ y ∧ m < y) ∨ (0 ≤ a ∧ a ≤ 3 ∧ 0 ≤ x ∧ x ≤ y ∧ y ≤ m) := by omega
        rcases h6 with h | h | h | h | h | h
        · apply W_dagE 49 (by kernel_rfl)
          repeat (first | ((with_reducible apply d_move); ((with_reducible apply d_ng); (first | apply DW_x (fun r w hA hH => (X_move (v := .int _ _) rfl).trans rfl) | apply DW_x (fun r w hA hH => (X_move (v := .slice _ _ _) rfl).trans rfl) | apply DW_x (fun r w hA hH => (X_move (v := .bool _) rfl).trans rfl)))) | ((with_reducible apply d_lss); ((with_reducible apply d_ng); apply DW_x (fun r w hA hH => (X_lssT rfl rfl (by omega)).trans rfl))) | ((with_reducible apply d_fld); ((with_reducible apply d_ng); apply DW_x (fun r w hA hH => (X_fld rfl).trans rfl))) | ((with_reducible apply d_pick); ((with_reducible apply d_ng); apply DW_x (fun r w hA hH => (X_pickT (v := .bool _) rfl rfl).trans rfl))) | ((with_reducible apply d_load); ((with_reducible apply d_ng); apply DW_x (fun r w hA hH => (X_ldR (j := 0) (v := .int .i64 a) rfl (hA.range R1) rfl rfl).trans rfl))) | ((with_reducible apply d_idx); ((with_reducible apply d_ng); apply DW_x (fun r w hA hH => (X_indexSn rfl rfl (by omega)).trans rfl))) | ((with_reducible apply d_gd); apply DW_off2 rfl rfl (fun _ => rfl) rfl))
          ((with_reducible exact D_end); (exact rfl); (repeat (first | exact .inr (.inr (fun _ _ => by with_reducible rfl)) | (refine And.intro ?_ ?_) | exact .inr (.inl rfl) | exact .inl (by decide +kernel) | exact trivial | exact .inr (.inr (fun _ _ => rfl)))); (try dsimp only [Nat.reduceAdd]))
          intro r w2 E2 _
          (refine L_nil ?_; refine tn ?_; refine W_condT rfl ?_; refine W_seq ?_; refine W_region ?_; refine Ls (X_assign (v := .bool _) rfl) ?_; refine L_nil ?_; refine tn ?_; refine W_ret ?_; refine br ?_; refine tr ?_; refine tr ?_; refine br ?_; refine tr ?_)
          refine endQ_ret1 rfl rfl (v := .bool false) rfl ⟨?_, E1.trans E2⟩
          rw [hno (by omega)]
        · apply W_dagE 49 (by kernel_rfl)
          repeat (first | ((with_reducible apply d_move); (first | ((with_reducible apply d_ng); (first | apply DW_x (fun r w hA hH => (X_move (v := .int _ _) rfl).trans rfl) | apply DW_x (fun r w hA hH => (X_move (v := .slice _ _ _) rfl).trans rfl) | apply DW_x (fun r w hA hH => (X_move (v := .bool _) rfl).trans rfl))) | ((with_reducible apply d_gd); (first | apply DW_on2 rfl rfl (fun _ => rfl) (fun r w hA hH => (X_move (v := .int _ _) rfl).trans rfl) | apply DW_on2 rfl rfl (fun _ => rfl) (fun r w hA hH => (X_move (v := .slice _ _ _) rfl).trans rfl))))) | ((with_reducible apply d_lss); ((with_reducible apply d_ng); apply DW_x (fun r w hA hH => (X_lssF rfl rfl (by omega)).trans rfl))) | ((with_reducible apply d_gtr); ((with_reducible apply d_gd); apply DW_on2 rfl rfl (fun _ => rfl) (fun r w hA hH => (X_gtrT rfl rfl (by omega)).trans rfl))) | ((with_reducible apply d_fld); (first | ((with_reducible apply d_ng); apply DW_x (fun r w hA hH => (X_fld rfl).trans rfl)) | ((with_reducible apply d_gd); apply DW_on2 rfl rfl (fun _ => rfl) (fun r w hA hH => (X_fld rfl).trans rfl)))) | ((with_reducible apply d_pick); ((with_reducible apply d_ng); (first | apply DW_x (fun r w hA hH => (X_pickT (v := .bool _) rfl rfl).trans rfl) | apply DW_x (fun r w hA hH => (X_pickF (v := .bool _) rfl rfl).trans rfl)))) | ((with_reducible apply d_load); (first | ((with_reducible apply d_ng); apply DW_x (fun r w hA hH => (X_ldR (j := 0) (v := .int .i64 a) rfl (hA.range R1) rfl rfl).trans rfl)) | ((with_reducible apply d_gd); apply DW_on2 rfl rfl (fun _ => rfl) (fun r w hA hH => (X_ldR (j := 0) (v := .int .i64 a) rfl (hA.range R1) rfl rfl).trans rfl)))) | ((with_reducible apply d_idx); (first | ((with_reducible apply d_ng); apply DW_x (fun r w hA hH => (X_indexSn rfl rfl (by omega)).trans rfl)) | ((with_reducible apply d_gd); apply DW_on2 rfl rfl (fun _ => rfl) (fun r w hA hH => (X_indexSn rfl rfl (by omega)).trans rfl)))) | ((with_reducible apply d_gd); apply DW_off2 rfl rfl (fun _ => rfl) rfl))
          ((with_reducible exact D_end); (exact rfl); (repeat (first | exact .inr (.inr (fun _ _ => by with_reducible rfl)) | (refine And.intro ?_ ?_) | exact .inr (.inl rfl) | exact .inl (by decide +kernel) | exact trivial | exact .inr (.inr (fun _ _ => rfl)))); (try dsimp only [Nat.reduceAdd]))
          intro r w2 E2 _
          (refine L_nil ?_; refine tn ?_; refine W_condT rfl ?_; refine W_seq ?_; refine W_region ?_; refine Ls (X_assign (v := .bool _) rfl) ?_; refine L_nil ?_; refine tn ?_; refine W_ret ?_; refine br ?_; refine tr ?_; refine tr ?_; refine br ?_; refine tr ?_)
          refine endQ_ret1 rfl rfl (v := .bool false) rfl ⟨?_, E1.trans E2⟩
          rw [hno (by omega)]
        · apply W_dagE 49 (by kernel_rfl)
          repeat (first | ((with_reducible apply d_move); (first | ((with_reducible apply d_ng); (first | apply DW_x (fun r w hA hH => (X_move (v := .int _ _) rfl).trans rfl) | apply DW_x (fun r w hA hH => (X_move (v := .slice _ _ _) rfl).trans rfl) | apply DW_x (fun r w hA hH => (X_move (v := .bool _) rfl).trans rfl))) | ((with_reducible apply d_gd); (first | apply DW_on2 rfl rfl (fun _ => rfl) (fun r w hA hH => (X_move (v := .int _ _) rfl).trans rfl) | apply DW_on2 rfl rfl (fun _ => rfl) (fun r w hA hH => (X_move (v := .slice _ _ _) rfl).trans rfl))))) | ((with_reducible apply d_lss); (first | ((with_reducible apply d_ng); apply DW_x (fun r w hA hH => (X_lssF rfl rfl (by omega)).trans rfl)) | ((with_reducible apply d_gd); apply DW_on2 rfl rfl (fun _ => rfl) (fun r w hA hH => (X_lssT rfl rfl (by omega)).trans rfl)))) | ((with_reducible apply d_gtr); ((with_reducible apply d_gd); apply DW_on2 rfl rfl (fun _ => rfl) (fun r w hA hH => (X_gtrF rfl rfl (by omega)).trans rfl))) | ((with_reducible apply d_fld); (first | ((with_reducible apply d_ng); apply DW_x (fun r w hA hH => (X_fld rfl).trans rfl)) | ((with_reducible apply d_gd); apply DW_on2 rfl rfl (fun _ => rfl) (fun r w hA hH => (X_fld rfl).trans rfl)))) | ((with_reducible apply d_pick); ((with_reducible apply d_ng); (first | apply DW_x (fun r w hA hH => (X_pickT (v := .bool _) rfl rfl).trans rfl) | apply DW_x (fun r w hA hH => (X_pickF (v := .bool _) rfl rfl).trans rfl)))) | ((with_reducible apply d_load); (first | ((with_reducible apply d_ng); apply DW_x (fun r w hA hH => (X_ldR (j := 0) (v := .int .i64 a) rfl (hA.range R1) rfl rfl).trans rfl)) | ((with_reducible apply d_gd); (first | apply DW_on2 rfl rfl (fun _ => rfl) (fun r w hA hH => (X_ldR (j := 0) (v := .int .i64 a) rfl (hA.range R1) rfl rfl).trans rfl) | apply DW_on2 rfl rfl (fun _ => rfl) (fun r w hA hH => (X_ldR (j := 1) (v := .int .i64 x) rfl (hA.range R1) rfl rfl).trans rfl))))) | ((with_reducible apply d_idx); (first | ((with_reducible apply d_ng); apply DW_x (fun r w hA hH => (X_indexSn rfl rfl (by omega)).trans rfl)) | ((with_reducible apply d_gd); apply DW_on2 rfl rfl (fun _ => rfl) (fun r w hA hH => (X_indexSn rfl rfl (by omega)).trans rfl)))) | ((with_reducible apply d_gd); apply DW_off2 rfl rfl (fun _ => rfl) rfl))
          ((with_reducible exact D_end); (exact rfl); (repeat (first | exact .inr (.inr (fun _ _ => by with_reducible rfl)) | (refine And.intro ?_ ?_) | exact .inr (.inl rfl) | exact .inl (by decide +kernel) | exact trivial | exact .inr (.inr (fun _ _ => rfl)))); (try dsimp only [Nat.reduceAdd]))
          intro r w2 E2 _
          (refine L_nil ?_; refine tn ?_; refine W_condT rfl ?_; refine W_seq ?_; refine W_region ?_; refine Ls (X_assign (v := .bool _) rfl) ?_; refine L_nil ?_; refine tn ?_; refine W_ret ?_; refine br ?_; refine tr ?_; refine tr ?_; refine br ?_; refine tr ?_)
          refine endQ_ret1 rfl rfl (v := .bool false) rfl ⟨?_, E1.trans E2⟩
          rw [hno (by omega)]
        · apply W_dagE 49 (by kernel_rfl)
          repeat (first | ((with_reducible apply d_move); (first | ((with_reducible apply d_ng); (first | apply DW_x (fun r w hA hH => (X_move (v := .int _ _) rfl).trans rfl) | apply DW_x (fun r w hA hH => (X_move (v := .slice _ _ _) rfl).trans rfl) | apply DW_x (fun r w hA hH => (X_move (v := .bool _) rfl).trans rfl))) | ((with_reducible apply d_gd); (first | apply DW_on2 rfl rfl (fun _ => rfl) (fun r w hA hH => (X_move (v := .int _ _) rfl).trans rfl) | apply DW_on2 rfl rfl (fun _ => rfl) (fun r w hA hH => (X_move (v := .slice _ _ _) rfl).trans rfl))))) | ((with_reducible apply d_lss); (first | ((with_reducible apply d_ng); apply DW_x (fun r w hA hH => (X_lssF rfl rfl (by omega)).trans rfl)) | ((with_reducible apply d_gd); (first | apply DW_on2 rfl rfl (fun _ => rfl) (fun r w hA hH => (X_lssT rfl rfl (by omega)).trans rfl) | apply DW_on2 rfl rfl (fun _ => rfl) (fun r w hA hH => (X_lssF rfl rfl (by omega)).trans rfl))))) | ((with_reducible apply d_gtr); ((with_reducible apply d_gd); apply DW_on2 rfl rfl (fun _ => rfl) (fun r w hA hH => (X_gtrF rfl rfl (by omega)).trans rfl))) | ((with_reducible apply d_fld); (first | ((with_reducible apply d_ng); apply DW_x (fun r w hA hH => (X_fld rfl).trans rfl)) | ((with_reducible apply d_gd); apply DW_on2 rfl rfl (fun _ => rfl) (fun r w hA hH => (X_fld rfl).trans rfl)))) | ((with_reducible apply d_pick); ((with_reducible apply d_ng); (first | apply DW_x (fun r w hA hH => (X_pickT (v := .bool _) rfl rfl).trans rfl) | apply DW_x (fun r w hA hH => (X_pickF (v := .bool _) rfl rfl).trans rfl)))) | ((with_reducible apply d_load); (first | ((with_reducible apply d_ng); apply DW_x (fun r w hA hH => (X_ldR (j := 0) (v := .int .i64 a) rfl (hA.range R1) rfl rfl).trans rfl)) | ((with_reducible apply d_gd); (first | apply DW_on2 rfl rfl (fun _ => rfl) (fun r w hA hH => (X_ldR (j := 0) (v := .int .i64 a) rfl (hA.range R1) rfl rfl).trans rfl) | apply DW_on2 rfl rfl (fun _ => rfl) (fun r w hA hH => (X_ldR (j := 1) (v := .int .i64 x) rfl (hA.range R1) rfl rfl).trans rfl) | apply DW_on2 rfl rfl (fun _ => rfl) (fun r w hA hH => (X_ldR (j := 2) (v := .int .i64 y) rfl (hA.range R1) rfl rfl).trans rfl))))) | ((with_reducible apply d_idx); (first | ((with_reducible apply d_ng); apply DW_x (fun r w hA hH => (X_indexSn rfl rfl (by omega)).trans rfl)) | ((with_reducible apply d_gd); apply DW_on2 rfl rfl (fun _ => rfl) (fun r w hA hH => (X_indexSn rfl rfl (by omega)).trans rfl)))) | ((with_reducible apply d_gd); apply DW_off2 rfl rfl (fun _ => rfl) rfl))
          ((with_reducible exact D_end); (exact rfl); (repeat (first | exact .inr (.inr (fun _ _ => by with_reducible rfl)) | (refine And.intro ?_ ?_) | exact .inr (.inl rfl) | exact .inl (by decide +kernel) | exact trivial | exact .inr (.inr (fun _ _ => rfl)))); (try dsimp only [Nat.reduceAdd]))
          intro r w2 E2 _
          (refine L_nil ?_; refine tn ?_; refine W_condT rfl ?_; refine W_seq ?_; refine W_region ?_; refine Ls (X_assign (v := .bool _) rfl) ?_; refine L_nil ?_; refine tn ?_; refine W_ret ?_; refine br ?_; refine tr ?_; refine tr ?_; refine br ?_; refine tr ?_)
          refine endQ_ret1 rfl rfl (v := .bool false) rfl ⟨?_, E1.trans E2⟩
          rw [hno (by omega)]
        · apply W_dagE 47 (by kernel_rfl)
          repeat (first | ((with_reducible apply d_move); (first | ((with_reducible apply d_ng); (first | apply DW_x (fun r w hA hH => (X_move (v := .int _ _) rfl).trans rfl) | apply DW_x (fun r w hA hH => (X_move (v := .slice _ _ _) rfl).trans rfl) | apply DW_x (fun r w hA hH => (X_move (v := .bool _) rfl).trans rfl))) | ((with_reducible apply d_gd); (first | apply DW_on2 rfl rfl (fun _ => rfl) (fun r w hA hH => (X_move (v := .int _ _) rfl).trans rfl) | apply DW_on2 rfl rfl (fun _ => rfl) (fun r w hA hH => (X_move (v := .slice _ _ _) rfl).trans rfl))))) | ((with_reducible apply d_lss); (first | ((with_reducible apply d_ng); apply DW_x (fun r w hA hH => (X_lssF rfl rfl (by omega)).trans rfl)) | ((with_reducible apply d_gd); apply DW_on2 rfl rfl (fun _ => rfl) (fun r w hA hH => (X_lssF rfl rfl (by omega)).trans rfl)))) | ((with_reducible apply d_gtr); ((with_reducible apply d_gd); apply DW_on2 rfl rfl (fun _ => rfl) (fun r w hA hH => (X_gtrF rfl rfl (by omega)).trans rfl))) | ((with_reducible apply d_fld); (first | ((with_reducible apply d_ng); apply DW_x (fun r w hA hH => (X_fld rfl).trans rfl)) | ((with_reducible apply d_gd); apply DW_on2 rfl rfl (fun _ => rfl) (fun r w hA hH => (X_fld rfl).trans rfl)))) | ((with_reducible apply d_pick); ((with_reducible apply d_ng); apply DW_x (fun r w hA hH => (X_pickF (v := .bool _) rfl rfl).trans rfl))) | ((with_reducible apply d_load); (first | ((with_reducible apply d_ng); apply DW_x (fun r w hA hH => (X_ldR (j := 0) (v := .int .i64 a) rfl (hA.range R1) rfl rfl).trans rfl)) | ((with_reducible apply d_gd); (first | apply DW_on2 rfl rfl (fun _ => rfl) (fun r w hA hH => (X_ldR (j := 0) (v := .int .i64 a) rfl (hA.range R1) rfl rfl).trans rfl) | apply DW_on2 rfl rfl (fun _ => rfl) (fun r w hA hH => (X_ldR (j := 1) (v := .int .i64 x) rfl (hA.range R1) rfl rfl).trans rfl) | apply DW_on2 rfl rfl (fun _ => rfl) (fun r w hA hH => (X_ldR (j := 2) (v := .int .i64 y) rfl (hA.range R1) rfl rfl).trans rfl))))) | ((with_reducible apply d_idx); (first | ((with_reducible apply d_ng); apply DW_x (fun r w hA hH => (X_indexSn rfl rfl (by omega)).trans rfl)) | ((with_reducible apply d_gd); apply DW_on2 rfl rfl (fun _ => rfl) (fun r w hA hH => (X_indexSn rfl rfl (by omega)).trans rfl)))))
          ((with_reducible apply DW_fn2); (exact rfl); (exact rfl); (exact fun _ => rfl); (exact fun _ => rfl); (exact fun r w hA hH => hmx w))
          ((with_reducible exact D_end); (exact rfl); (repeat (first | exact .inr (.inr (fun _ _ => by with_reducible rfl)) | (refine And.intro ?_ ?_) | exact .inr (.inl rfl) | exact .inl (by decide +kernel) | exact trivial | exact .inr (.inr (fun _ _ => rfl)))); (try dsimp only [Nat.reduceAdd]))
          intro r w2 E2 _
          (refine Lg2 rfl rfl rfl (X_gtrT rfl rfl (by omega)) ?_; refine Ls (X_pickF (v := .bool _) rfl rfl) ?_; refine L_nil ?_; refine tn ?_; refine W_condT rfl ?_; refine W_seq ?_; refine W_region ?_; refine Ls (X_assign (v := .bool _) rfl) ?_; refine L_nil ?_; refine tn ?_; refine W_ret ?_; refine br ?_; refine tr ?_; refine tr ?_; refine br ?_; refine tr ?_)
          refine endQ_ret1 rfl rfl (v := .bool false) rfl ⟨?_, E1.trans E2⟩
          rw [hno (by omega)]
        · apply W_dagE 47 (by kernel_rfl)
          repeat (first | ((with_reducible apply d_move); (first | ((with_reducible apply d_ng); (first | apply DW_x (fun r w hA hH => (X_move (v := .int _ _) rfl).trans rfl) | apply DW_x (fun r w hA hH => (X_move (v := .slice _ _ _) rfl).trans rfl) | apply DW_x (fun r w hA hH => (X_move (v := .bool _) rfl).trans rfl))) | ((with_reducible apply d_gd); (first | apply DW_on2 rfl rfl (fun _ => rfl) (fun r w hA hH => (X_move (v := .int _ _) rfl).trans rfl) | apply DW_on2 rfl rfl (fun _ => rfl) (fun r w hA hH => (X_move (v := .slice _ _ _) rfl).trans rfl))))) | ((with_reducible apply d_lss); (first | ((with_reducible apply d_ng); apply DW_x (fun r w hA hH => (X_lssF rfl rfl (by omega)).trans rfl)) | ((with_reducible apply d_gd); apply DW_on2 rfl rfl (fun _ => rfl) (fun r w hA hH => (X_lssF rfl rfl (by omega)).trans rfl)))) | ((with_reducible apply d_gtr); ((with_reducible apply d_gd); apply DW_on2 rfl rfl (fun _ => rfl) (fun r w hA hH => (X_gtrF rfl rfl (by omega)).trans rfl))) | ((with_reducible apply d_fld); (first | ((with_reducible apply d_ng); apply DW_x (fun r w hA hH => (X_fld rfl).trans rfl)) | ((with_reducible apply d_gd); apply DW_on2 rfl rfl (fun _ => rfl) (fun r w hA hH => (X_fld rfl).trans rfl)))) | ((with_reducible apply d_pick); ((with_reducible apply d_ng); apply DW_x (fun r w hA hH => (X_pickF (v := .bool _) rfl rfl).trans rfl))) | ((with_reducible apply d_load); (first | ((with_reducible apply d_ng); apply DW_x (fun r w hA hH => (X_ldR (j := 0) (v := .int .i64 a) rfl (hA.range R1) rfl rfl).trans rfl)) | ((with_reducible apply d_gd); (first | apply DW_on2 rfl rfl (fun _ => rfl) (fun r w hA hH => (X_ldR (j := 0) (v := .int .i64 a) rfl (hA.range R1) rfl rfl).trans rfl) | apply DW_on2 rfl rfl (fun _ => rfl) (fun r w hA hH => (X_ldR (j := 1) (v := .int .i64 x) rfl (hA.range R1) rfl rfl).trans rfl) | apply DW_on2 rfl rfl (fun _ => rfl) (fun r w hA hH => (X_ldR (j := 2) (v := .int .i64 y) rfl (hA.range R1) rfl rfl).trans rfl))))) | ((with_reducible apply d_idx); (first | ((with_reducible apply d_ng); apply DW_x (fun r w hA hH => (X_indexSn rfl rfl (by omega)).trans rfl)) | ((with_reducible apply d_gd); apply DW_on2 rfl rfl (fun _ => rfl) (fun r w hA hH => (X_indexSn rfl rfl (by omega)).trans rfl)))))
          ((with_reducible apply DW_fn2); (exact rfl); (exact rfl); (exact fun _ => rfl); (exact fun _ => rfl); (exact fun r w hA hH => hmx w))
          ((with_reducible exact D_end); (exact rfl); (repeat (first | exact .inr (.inr (fun _ _ => by with_reducible rfl)) | (refine And.intro ?_ ?_) | exact .inr (.inl rfl) | exact .inl (by decide +kernel) | exact trivial | exact .inr (.inr (fun _ _ => rfl)))); (try dsimp only [Nat.reduceAdd]))
          intro r w2 E2 _
          (refine Lg2 rfl rfl rfl (X_gtrF rfl rfl (by omega)) ?_; refine Ls (X_pickF (v := .bool _) rfl rfl) ?_; refine L_nil ?_; refine tn ?_; refine W_condF rfl ?_; refine W_skip ?_; refine bn ?_; refine tn ?_; refine W_region ?_; refine Ls (X_move (v := .int _ _) rfl) ?_; refine Ls (X_addi rfl rfl (by omega)) ?_; refine Ls (X_assign (v := .int _ _) rfl) ?_; refine L_nil ?_; refine tn ?_)
          refine ⟨l.length - (i + 1), by omega, i + 1, rfl, by omega, fun c hc => ?_, E1.trans E2, rfl, rfl⟩
          rw [List.take_add_one, hci] at hc
          rcases List.mem_append.1 hc with hc | hc
          · exact hall c hc
          · simp at hc; rw [hc]; exact hok.2 ⟨h.1, by omega, h.2.2⟩
      · obtain rfl : i = l.length := by omega
        (refine W_seq ?_; refine W_seq ?_; refine W_region ?_; refine Ls (X_move (v := .int _ _) rfl) ?_; refine Ls (X_move (v := v) rfl) ?_; refine Ls (X_lenRow (v := v) rfl hr1) ?_; refine Ls (X_lssF rfl rfl (by omega)) ?_; refine L_nil ?_; refine tn ?_; refine W_condF rfl ?_; refine W_exit ?_; refine te ?_; refine te ?_; refine bx ?_; refine tn ?_; refine W_seq ?_; refine W_region ?_; refine Ls (X_assign (v := .bool _) rfl) ?_; refine L_nil ?_; refine tn ?_; refine W_ret ?_)
        refine endQ_ret1 rfl rfl (v := .bool true) rfl ⟨?_, E1⟩
        rw [List.take_length] at hall
        rw [decide_eq_true (show Qy.okFI l from ⟨h3, hall⟩)]
  · rw [decide_eq_false (fun h => h3 h.1)]
    (refine W_seq ?_; refine W_region ?_; refine Ls (X_assign (v := .bool _) rfl) ?_; refine L_nil ?_; refine tn ?_; refine W_seq ?_; refine W_seq ?_; refine W_region ?_; refine Ls (X_move (v := v) rfl) ?_; refine Ls (X_lenRow (v := v) rfl hr) ?_; refine Ls (X_gtrT rfl rfl (by omega)) ?_; refine L_nil ?_; refine tn ?_; refine W_condT rfl ?_; refine W_seq ?_; refine W_region ?_; refine Ls (X_assign (v := .bool _) rfl) ?_; refine L_nil ?_; refine tn ?_; refine W_ret ?_; refine tr ?_)
    exact endQ_ret1 rfl rfl (v := .bool false) rfl ⟨rfl, Ext.refl _⟩
set_option maxHeartbeats 8000000 in
theorem rvalid (q : Qy.QI) (v : Value) (lo hi : Nat) (w : World) (hF : FilsI w lo hi v q.fs) :
    Calls Tryd.prog 13 #[.agg (qC q.kind q.col q.k v).toArray] w fun e w' => e = .returned (.bool (decide (Qy.OkI q))) ∧ Ext w w' := by
  refine calls_W Tryd.func13 rfl Tryd.ntmps13 rfl ?_
  obtain ⟨kind, col, kk, fs⟩ := q
  dsimp only at hF ⊢
  have hvc := hF.cell
  (refine W_seq ?_; refine W_region ?_)
  refine L_box (l := qC kind col kk v) rfl ?_
  intro g1 w1 B1 hg1 E1 hs1
  have F1 := hF.ext E1
  by_cases h17 : 1 ≤ kind ∧ kind ≤ 7
  · obtain ⟨k, rfl⟩ : ∃ k : Nat, kind = k := ⟨kind.toNat, by omega⟩
    have hok := OkI_k (k := k) (by omega) (by omega) col kk fs
    obtain ⟨hc, hhc⟩ : ∃ hc, hc = Qy.hasCol k := ⟨_, rfl⟩
    obtain ⟨mk, hmk⟩ : ∃ mk, mk = Qy.maxK k := ⟨_, rfl⟩
    obtain ⟨nf, hnf⟩ : ∃ nf, nf = Qy.nfil k := ⟨_, rfl⟩
    have hwant : (k = 7 ∧ nf = 2) ∨ (k ≠ 7 ∧ nf = 1) := by
      by_cases h7 : k = 7
      · exact .inl ⟨h7, by rw [hnf, h7]; rfl⟩
      · exact .inr ⟨h7, by rw [hnf]; unfold Qy.nfil; rw [beq_false_of_ne h7]; rfl⟩
    have hhx := rhascol k
    have hmx := rmaxK k
    rw [← hhc] at hhx
    rw [← hmk] at hmx
    rw [← hhc, ← hmk, ← hnf] at hok
    clear hhc hmk hnf
    rw [show decide (Qy.OkI ⟨k, col, kk, fs⟩) = decide (_) from decide_eq_decide.2 hok]
    clear hok
    obtain ⟨us, hul, hvr, hus⟩ := id F1
    by_cases hD : 0 ≤ col ∧ col < 4 ∧ (hc = false → col = 0)
    · by_cases hK : 0 ≤ kk ∧ kk ≤ (mk : Nat) ∧ (0 < (mk : Nat) → 0 < kk)
      · rw [show decide (_ ∧ _ ∧ fs.length = nf ∧ ∀ l ∈ fs, Qy.okFI l) = decide (fs.length = nf ∧ ∀ l ∈ fs, Qy.okFI l) from decide_eq_decide.2 ⟨fun h => h.2.2, fun h => ⟨hD, hK, h⟩⟩]
        by_cases hcol : col = 0
        case' pos =>
          obtain ⟨w2, e2, E2⟩ : ∃ w2, w2 = w1 ∧ Ext w1 w2 := ⟨_, rfl, Ext.refl _⟩
          (refine Ls (X_assign (v := .bool _) rfl) ?_; refine L_nil ?_; refine tn ?_; refine W_seq ?_; refine W_seq ?_; refine W_region ?_; refine Ls (X_fld rfl) ?_; refine Ls (X_ld (v := .int .i64 (k : Nat)) rfl B1 rfl) ?_; refine Ls (X_lssF rfl rfl (by omega)) ?_; refine Ls (X_move (v := .bool _) rfl) ?_; refine Lg2 rfl rfl rfl (X_fld rfl) ?_; refine Lg2 rfl rfl rfl (X_ld (v := .int .i64 (k : Nat)) rfl B1 rfl) ?_; refine Lg2 rfl rfl rfl (X_gtrF rfl rfl (by omega)) ?_; refine Ls (X_pickF (v := .bool _) rfl rfl) ?_; refine Ls (X_move (v := .bool _) rfl) ?_; refine Lg2 rfl rfl rfl (X_fld rfl) ?_; refine Lg2 rfl rfl rfl (X_ld (v := .int .i64 col) rfl B1 rfl) ?_; refine Lg2 rfl rfl rfl (X_lssF rfl rfl (by omega)) ?_; refine Ls (X_pickF (v := .bool _) rfl rfl) ?_; refine Ls (X_move (v := .bool _) rfl) ?_; refine Lg2 rfl rfl rfl (X_fld rfl) ?_; refine Lg2 rfl rfl rfl (X_ld (v := .int .i64 col) rfl B1 rfl) ?_; refine Lg2 rfl rfl rfl (X_gtrF rfl rfl (by omega)) ?_; refine Ls (X_pickF (v := .bool _) rfl rfl) ?_; refine Ls (X_move (v := .bool _) rfl) ?_; refine Lg2 rfl rfl rfl (X_fld rfl) ?_; refine Lg2 rfl rfl rfl (X_ld (v := .int .i64 col) rfl B1 rfl) ?_; refine Lg2 rfl rfl rfl (X_neqF rfl rfl (by omega)) ?_; refine Lg2 rfl rfl rfl (X_move (v := .bool _) rfl) ?_; refine Lo2 rfl rfl rfl rfl ?_; refine Lo2 rfl rfl rfl rfl ?_; refine Lo2 rfl rfl rfl rfl ?_; refine Lo2 rfl rfl rfl rfl ?_; refine Lg2 rfl rfl rfl (X_pickF (v := .bool _) rfl rfl) ?_; refine Ls (X_pickF (v := .bool _) rfl rfl) ?_; refine L_nil ?_; refine tn ?_; refine W_condF rfl ?_; refine W_skip ?_; refine tn ?_; refine W_seq ?_; refine W_seq ?_)
          rw [← e2]
        case' neg =>
          have hct : hc = true := by
            cases hc
            · exact (hcol (hD.2.2 rfl)).elim
            · rfl
          subst hct
          (refine Ls (X_assign (v := .bool _) rfl) ?_; refine L_nil ?_; refine tn ?_; refine W_seq ?_; refine W_seq ?_; refine W_region ?_; refine Ls (X_fld rfl) ?_; refine Ls (X_ld (v := .int .i64 (k : Nat)) rfl B1 rfl) ?_; refine Ls (X_lssF rfl rfl (by omega)) ?_; refine Ls (X_move (v := .bool _) rfl) ?_; refine Lg2 rfl rfl rfl (X_fld rfl) ?_; refine Lg2 rfl rfl rfl (X_ld (v := .int .i64 (k : Nat)) rfl B1 rfl) ?_; refine Lg2 rfl rfl rfl (X_gtrF rfl rfl (by omega)) ?_; refine Ls (X_pickF (v := .bool _) rfl rfl) ?_; refine Ls (X_move (v := .bool _) rfl) ?_; refine Lg2 rfl rfl rfl (X_fld rfl) ?_; refine Lg2 rfl rfl rfl (X_ld (v := .int .i64 col) rfl B1 rfl) ?_; refine Lg2 rfl rfl rfl (X_lssF rfl rfl (by omega)) ?_; refine Ls (X_pickF (v := .bool _) rfl rfl) ?_; refine Ls (X_move (v := .bool _) rfl) ?_; refine Lg2 rfl rfl rfl (X_fld rfl) ?_; refine Lg2 rfl rfl rfl (X_ld (v := .int .i64 col) rfl B1 rfl) ?_; refine Lg2 rfl rfl rfl (X_gtrF rfl rfl (by omega)) ?_; refine Ls (X_pickF (v := .bool _) rfl rfl) ?_; refine Ls (X_move (v := .bool _) rfl) ?_; refine Lg2 rfl rfl rfl (X_fld rfl) ?_; refine Lg2 rfl rfl rfl (X_ld (v := .int .i64 col) rfl B1 rfl) ?_; refine Lg2 rfl rfl rfl (X_neqT rfl rfl (by omega)) ?_; refine Lg2 rfl rfl rfl (X_move (v := .bool _) rfl) ?_; refine Lg2 rfl rfl rfl (X_fld rfl) ?_; refine Lg2 rfl rfl rfl (X_ld (v := .int .i64 (k : Nat)) rfl B1 rfl) ?_)
          refine L_strip rfl rfl rfl ?_
          refine L_fv rfl (hhx w1) ?_
          intro w2 E2
          (refine Lg2 rfl rfl rfl (X_not rfl) ?_; refine Lg2 rfl rfl rfl (X_pickT (v := .bool _) rfl rfl) ?_; refine Ls (X_pickF (v := .bool _) rfl rfl) ?_; refine L_nil ?_; refine tn ?_; refine W_condF rfl ?_; refine W_skip ?_; refine tn ?_; refine W_seq ?_; refine W_seq ?_)
        all_goals
          have D1 := B1.ext E2
          apply W_dagE 9 (by kernel_rfl)
          (apply DW_x (fun r w hA hH => (X_fld rfl).trans rfl); apply DW_x (fun r w hA hH => (X_ld (v := .int .i64 kk) rfl (D1.ext hA) rfl).trans rfl); apply DW_x (fun r w hA hH => (X_lssF rfl rfl (by omega)).trans rfl); apply DW_x (fun r w hA hH => (X_move (v := .bool _) rfl).trans rfl); apply DW_on2 rfl rfl (fun _ => rfl) (fun r w hA hH => (X_fld rfl).trans rfl); apply DW_on2 rfl rfl (fun _ => rfl) (fun r w hA hH => (X_ld (v := .int .i64 kk) rfl (D1.ext hA) rfl).trans rfl); apply DW_on2 rfl rfl (fun _ => rfl) (fun r w hA hH => (X_fld rfl).trans rfl); apply DW_on2 rfl rfl (fun _ => rfl) (fun r w hA hH => (X_ld (v := .int .i64 (k : Nat)) rfl (D1.ext hA) rfl).trans rfl))
          ((with_reducible apply DW_fn2); (exact rfl); (exact rfl); (exact fun _ => rfl); (exact fun _ => rfl); (exact fun r w hA hH => hmx w))
          ((with_reducible exact D_end); (exact rfl); (repeat (first | exact .inr (.inr (fun _ _ => by with_reducible rfl)) | (refine And.intro ?_ ?_) | exact .inr (.inl rfl) | exact .inl (by decide +kernel) | exact trivial | exact .inr (.inr (fun _ _ => rfl)))); (try dsimp only [Nat.reduceAdd]))
          intro r w3 E3 _
          (refine Lg2 rfl rfl rfl (X_gtrF rfl rfl (by omega)) ?_; refine Ls (X_pickF (v := .bool _) rfl rfl) ?_; refine Ls (X_move (v := .bool _) rfl) ?_; refine Lg2 rfl rfl rfl (X_fld rfl) ?_; refine Lg2 rfl rfl rfl (X_ld (v := .int .i64 (k : Nat)) rfl (D1.ext E3) rfl) ?_)
          refine L_strip rfl rfl rfl ?_
          refine L_fv rfl (hmx w3) ?_
          intro w4 E4
          have D4 := (D1.ext E3).ext E4
          have E14 := (E2.trans E3).trans E4
          by_cases hm0 : mk = 0
          case' pos => (refine Lg2 rfl rfl rfl (X_gtrF rfl rfl (by omega)) ?_; refine Lg2 rfl rfl rfl (X_move (v := .bool _) rfl) ?_; refine Lo2 rfl rfl rfl rfl ?_; refine Lo2 rfl rfl rfl rfl ?_; refine Lo2 rfl rfl rfl rfl ?_; refine Lg2 rfl rfl rfl (X_pickF (v := .bool _) rfl rfl) ?_; refine Ls (X_pickF (v := .bool _) rfl rfl) ?_; refine L_nil ?_; refine tn ?_; refine W_condF rfl ?_; refine W_skip ?_; refine tn ?_; refine W_seq ?_; refine W_region ?_; refine Ls (X_assign (v := .int _ _) rfl) ?_; refine L_nil ?_; refine tn ?_; refine W_seq ?_; refine W_seq ?_; refine W_region ?_; refine Ls (X_fld rfl) ?_; refine Ls (X_ld (v := .int .i64 (k : Nat)) rfl D4 rfl) ?_; refine Ls (X_eql rfl rfl) ?_; refine L_nil ?_; refine tn ?_)
          case' neg => (refine Lg2 rfl rfl rfl (X_gtrT rfl rfl (by omega)) ?_; refine Lg2 rfl rfl rfl (X_move (v := .bool _) rfl) ?_; refine Lg2 rfl rfl rfl (X_fld rfl) ?_; refine Lg2 rfl rfl rfl (X_ld (v := .int .i64 kk) rfl D4 rfl) ?_; refine Lg2 rfl rfl rfl (X_eqlF rfl rfl (by omega)) ?_; refine Lg2 rfl rfl rfl (X_pickT (v := .bool _) rfl rfl) ?_; refine Ls (X_pickF (v := .bool _) rfl rfl) ?_; refine L_nil ?_; refine tn ?_; refine W_condF rfl ?_; refine W_skip ?_; refine tn ?_; refine W_seq ?_; refine W_region ?_; refine Ls (X_assign (v := .int _ _) rfl) ?_; refine L_nil ?_; refine tn ?_; refine W_seq ?_; refine W_seq ?_; refine W_region ?_; refine Ls (X_fld rfl) ?_; refine Ls (X_ld (v := .int .i64 (k : Nat)) rfl D4 rfl) ?_; refine Ls (X_eql rfl rfl) ?_; refine L_nil ?_; refine tn ?_)
          all_goals
            refine W_mono (Q := fun e f w' => e = .normal ∧ w' = w4 ∧ f 1 = .pointer (some ⟨g1, 0, none⟩) ∧ f 3 = .int .i64 (nf : Nat)) ?_ ?_
            · rcases hwant with ⟨h7, hn⟩ | ⟨h7, hn⟩
              · rw [hn]
                refine W_condp rfl (fun _ => ?_) (fun h => (h (by omega)).elim)
                (refine W_region ?_; refine Ls (X_assign (v := .int _ _) rfl) ?_; refine L_nil ?_)
                exact ⟨rfl, rfl, rfl, rfl⟩
              · rw [hn]
                refine W_condp rfl (fun h => (h7 (by omega)).elim) (fun _ => ?_)
                (refine W_skip ?_)
                exact ⟨rfl, rfl, rfl, rfl⟩
            · rintro e f w' ⟨rfl, rfl, f1, f3⟩
              rw [fold f1, fold f3]
              clear f1 f3
              have hnf2 : nf ≤ 2 := by omega
              clear hwant
              by_cases hA : fs.length = nf
              · rw [show decide (fs.length = nf ∧ ∀ l ∈ fs, Qy.okFI l) = decide (∀ l ∈ fs, Qy.okFI l) from decide_eq_decide.2 ⟨fun h => h.2, fun h => ⟨hA, h⟩⟩]
                (refine tn ?_; refine W_seq ?_; refine W_seq ?_; refine W_region ?_; refine Ls (X_fld rfl) ?_; refine Ls (X_ld (v := v) rfl D4 rfl) ?_; refine Ls (X_lenRow (v := v) rfl hvr) ?_; refine Ls (X_move (v := .int _ _) rfl) ?_; refine Ls (X_neqF rfl rfl (by omega)) ?_; refine L_nil ?_; refine tn ?_; refine W_condF rfl ?_; refine W_skip ?_; refine tn ?_; refine W_seq ?_; refine W_seq ?_; refine W_region ?_; refine Ls (X_assign (v := .int _ _) rfl) ?_; refine L_nil ?_; refine tn ?_; refine W_block ?_)
                refine W_loop (fun q f w'' => ∃ i, q = fs.length - i ∧ i ≤ fs.length ∧ Ext w' w'' ∧ (∀ l ∈ fs.take i, Qy.okFI l) ∧ f 1 = .pointer (some ⟨g1, 0, none⟩) ∧ f 3 = .int .i64 (nf : Nat) ∧ f 4 = .int .i64 (i : Nat)) fs.length ?_ ?_
                · exact ⟨0, rfl, by omega, Ext.refl _, (by intro l h; simp at h), rfl, rfl, rfl⟩
                · rintro q f w5 ⟨i, rfl, hil, E5, hpre, f1, f3, f4⟩
                  rw [fold f1, fold f3, fold f4]
                  clear f1 f3 f4
                  have E15 := E14.trans E5
                  by_cases hi' : i < fs.length
                  · obtain ⟨l, hl⟩ : ∃ l, fs[i]? = some l := ⟨fs[i], List.getElem?_eq_getElem hi'⟩
                    obtain ⟨u, hu⟩ : ∃ u, us[i]? = some u := ⟨us[i]'(by omega), List.getElem?_eq_getElem (by omega)⟩
                    have hlr := (hus i u l hu hl).ext E15
                    obtain ⟨b0, o0, c0, rfl, _, _, _, hc0⟩ := hvr.at (k := i) hi'
                    have huc := row_cell hlr
                    have hsu : fs.take (i + 1) = fs.take i ++ [l] := by rw [List.take_add_one, hl]; rfl
                    (refine W_seq ?_; refine W_seq ?_; refine W_region ?_; refine Ls (X_move (v := .int _ _) rfl) ?_; refine Ls (X_move (v := .int _ _) rfl) ?_; refine Ls (X_lssT rfl rfl (by omega)) ?_; refine L_nil ?_; refine tn ?_; refine W_condT rfl ?_; refine W_skip ?_; refine tn ?_; refine W_seq ?_; refine W_block ?_; refine W_seq ?_; refine W_region ?_; refine Ls (X_fld rfl) ?_; refine Ls (X_ld (v := .slice (some ⟨b0, o0, none⟩) fs.length c0) rfl (D4.ext E5) rfl) ?_; refine Ls (X_move (v := .int _ _) rfl) ?_; refine Ls (X_indexSn rfl rfl (by omega)) ?_; refine Ls (X_ldR (j := i) (v := u) rfl (Ext.range E15 hc0) (by omega) hu) ?_)
                    refine L_fv rfl (rvfil lo hi u l w5 hlr) ?_
                    intro w6 E6
                    by_cases hf : Qy.okFI l
                    · rw [decide_eq_true hf]
                      (refine Ls (X_not rfl) ?_; refine L_nil ?_; refine tn ?_; refine W_condF rfl ?_; refine W_skip ?_; refine bn ?_; refine tn ?_; refine W_region ?_; refine Ls (X_move (v := .int _ _) rfl) ?_; refine Ls (X_addi rfl rfl (by omega)) ?_; refine Ls (X_assign (v := .int _ _) rfl) ?_; refine L_nil ?_; refine tn ?_)
                      refine ⟨fs.length - (i + 1), by omega, i + 1, rfl, by omega, E5.trans E6, ?_, rfl, rfl, rfl⟩
                      rw [hsu]
                      intro m hm
                      rcases List.mem_append.1 hm with hm | hm
                      · exact hpre m hm
                      · simp at hm; rw [hm]; exact hf
                    · rw [decide_eq_false hf]
                      (refine Ls (X_not rfl) ?_; refine L_nil ?_; refine tn ?_; refine W_condT rfl ?_; refine W_seq ?_; refine W_region ?_; refine Ls (X_assign (v := .bool _) rfl) ?_; refine L_nil ?_; refine tn ?_; refine W_ret ?_; refine br ?_; refine tr ?_; refine tr ?_; refine br ?_; refine tr ?_)
                      refine endQ_ret1 rfl rfl (v := .bool false) rfl ⟨?_, E1.trans (E15.trans E6)⟩
                      rw [decide_eq_false (fun h => hf (h l (List.mem_of_getElem? hl)))]
                  · obtain rfl : i = fs.length := by omega
                    (refine W_seq ?_; refine W_seq ?_; refine W_region ?_; refine Ls (X_move (v := .int _ _) rfl) ?_; refine Ls (X_move (v := .int _ _) rfl) ?_; refine Ls (X_lssF rfl rfl (by omega)) ?_; refine L_nil ?_; refine tn ?_; refine W_condF rfl ?_; refine W_exit ?_; refine te ?_; refine te ?_; refine bx ?_; refine tn ?_; refine W_seq ?_; refine W_region ?_; refine Ls (X_assign (v := .bool _) rfl) ?_; refine L_nil ?_; refine tn ?_; refine W_ret ?_)
                    refine endQ_ret1 rfl rfl (v := .bool true) rfl ⟨?_, E1.trans E15⟩
                    rw [List.take_length] at hpre
                    rw [decide_eq_true hpre]
              · rw [decide_eq_false (fun h => hA h.1)]
                (refine tn ?_; refine W_seq ?_; refine W_seq ?_; refine W_region ?_; refine Ls (X_fld rfl) ?_; refine Ls (X_ld (v := v) rfl D4 rfl) ?_; refine Ls (X_lenRow (v := v) rfl hvr) ?_; refine Ls (X_move (v := .int _ _) rfl) ?_; refine Ls (X_neqT rfl rfl (by omega)) ?_; refine L_nil ?_; refine tn ?_; refine W_condT rfl ?_; refine W_seq ?_; refine W_region ?_; refine Ls (X_assign (v := .bool _) rfl) ?_; refine L_nil ?_; refine tn ?_; refine W_ret ?_; refine tr ?_)
                exact endQ_ret1 rfl rfl (v := .bool false) rfl ⟨rfl, E1.trans E14⟩
      · rw [decide_eq_false (fun h => hK h.2.1)]
        have h3 : kk < 0 ∨ (0 ≤ kk ∧ (mk : Nat) < kk) ∨ (kk = 0 ∧ 0 < mk) := by omega
        clear hK
        by_cases hcol : col = 0
        case' pos =>
          obtain ⟨w2, e2, E2⟩ : ∃ w2, w2 = w1 ∧ Ext w1 w2 := ⟨_, rfl, Ext.refl _⟩
          (refine Ls (X_assign (v := .bool _) rfl) ?_; refine L_nil ?_; refine tn ?_; refine W_seq ?_; refine W_seq ?_; refine W_region ?_; refine Ls (X_fld rfl) ?_; refine Ls (X_ld (v := .int .i64 (k : Nat)) rfl B1 rfl) ?_; refine Ls (X_lssF rfl rfl (by omega)) ?_; refine Ls (X_move (v := .bool _) rfl) ?_; refine Lg2 rfl rfl rfl (X_fld rfl) ?_; refine Lg2 rfl rfl rfl (X_ld (v := .int .i64 (k : Nat)) rfl B1 rfl) ?_; refine Lg2 rfl rfl rfl (X_gtrF rfl rfl (by omega)) ?_; refine Ls (X_pickF (v := .bool _) rfl rfl) ?_; refine Ls (X_move (v := .bool _) rfl) ?_; refine Lg2 rfl rfl rfl (X_fld rfl) ?_; refine Lg2 rfl rfl rfl (X_ld (v := .int .i64 col) rfl B1 rfl) ?_; refine Lg2 rfl rfl rfl (X_lssF rfl rfl (by omega)) ?_; refine Ls (X_pickF (v := .bool _) rfl rfl) ?_; refine Ls (X_move (v := .bool _) rfl) ?_; refine Lg2 rfl rfl rfl (X_fld rfl) ?_; refine Lg2 rfl rfl rfl (X_ld (v := .int .i64 col) rfl B1 rfl) ?_; refine Lg2 rfl rfl rfl (X_gtrF rfl rfl (by omega)) ?_; refine Ls (X_pickF (v := .bool _) rfl rfl) ?_; refine Ls (X_move (v := .bool _) rfl) ?_; refine Lg2 rfl rfl rfl (X_fld rfl) ?_; refine Lg2 rfl rfl rfl (X_ld (v := .int .i64 col) rfl B1 rfl) ?_; refine Lg2 rfl rfl rfl (X_neqF rfl rfl (by omega)) ?_; refine Lg2 rfl rfl rfl (X_move (v := .bool _) rfl) ?_; refine Lo2 rfl rfl rfl rfl ?_; refine Lo2 rfl rfl rfl rfl ?_; refine Lo2 rfl rfl rfl rfl ?_; refine Lo2 rfl rfl rfl rfl ?_; refine Lg2 rfl rfl rfl (X_pickF (v := .bool _) rfl rfl) ?_; refine Ls (X_pickF (v := .bool _) rfl rfl) ?_; refine L_nil ?_; refine tn ?_; refine W_condF rfl ?_; refine W_skip ?_; refine tn ?_; refine W_seq ?_; refine W_seq ?_)
          rw [← e2]
        case' neg =>
          have hct : hc = true := by
            cases hc
            · exact (hcol (hD.2.2 rfl)).elim
            · rfl
          subst hct
          (refine Ls (X_assign (v := .bool _) rfl) ?_; refine L_nil ?_; refine tn ?_; refine W_seq ?_; refine W_seq ?_; refine W_region ?_; refine Ls (X_fld rfl) ?_; refine Ls (X_ld (v := .int .i64 (k : Nat)) rfl B1 rfl) ?_; refine Ls (X_lssF rfl rfl (by omega)) ?_; refine Ls (X_move (v := .bool _) rfl) ?_; refine Lg2 rfl rfl rfl (X_fld rfl) ?_; refine Lg2 rfl rfl rfl (X_ld (v := .int .i64 (k : Nat)) rfl B1 rfl) ?_; refine Lg2 rfl rfl rfl (X_gtrF rfl rfl (by omega)) ?_; refine Ls (X_pickF (v := .bool _) rfl rfl) ?_; refine Ls (X_move (v := .bool _) rfl) ?_; refine Lg2 rfl rfl rfl (X_fld rfl) ?_; refine Lg2 rfl rfl rfl (X_ld (v := .int .i64 col) rfl B1 rfl) ?_; refine Lg2 rfl rfl rfl (X_lssF rfl rfl (by omega)) ?_; refine Ls (X_pickF (v := .bool _) rfl rfl) ?_; refine Ls (X_move (v := .bool _) rfl) ?_; refine Lg2 rfl rfl rfl (X_fld rfl) ?_; refine Lg2 rfl rfl rfl (X_ld (v := .int .i64 col) rfl B1 rfl) ?_; refine Lg2 rfl rfl rfl (X_gtrF rfl rfl (by omega)) ?_; refine Ls (X_pickF (v := .bool _) rfl rfl) ?_; refine Ls (X_move (v := .bool _) rfl) ?_; refine Lg2 rfl rfl rfl (X_fld rfl) ?_; refine Lg2 rfl rfl rfl (X_ld (v := .int .i64 col) rfl B1 rfl) ?_; refine Lg2 rfl rfl rfl (X_neqT rfl rfl (by omega)) ?_; refine Lg2 rfl rfl rfl (X_move (v := .bool _) rfl) ?_; refine Lg2 rfl rfl rfl (X_fld rfl) ?_; refine Lg2 rfl rfl rfl (X_ld (v := .int .i64 (k : Nat)) rfl B1 rfl) ?_)
          refine L_strip rfl rfl rfl ?_
          refine L_fv rfl (hhx w1) ?_
          intro w2 E2
          (refine Lg2 rfl rfl rfl (X_not rfl) ?_; refine Lg2 rfl rfl rfl (X_pickT (v := .bool _) rfl rfl) ?_; refine Ls (X_pickF (v := .bool _) rfl rfl) ?_; refine L_nil ?_; refine tn ?_; refine W_condF rfl ?_; refine W_skip ?_; refine tn ?_; refine W_seq ?_; refine W_seq ?_)
        all_goals
          have D1 := B1.ext E2
          rcases h3 with h | ⟨h, h'⟩ | ⟨h, h'⟩
          · apply W_dagE 22 (by kernel_rfl)
            (apply DW_x (fun r w hA hH => (X_fld rfl).trans rfl); apply DW_x (fun r w hA hH => (X_ld (v := .int .i64 kk) rfl (D1.ext hA) rfl).trans rfl); apply DW_x (fun r w hA hH => (X_lssT rfl rfl (by omega)).trans rfl); apply DW_x (fun r w hA hH => (X_move (v := .bool _) rfl).trans rfl); apply DW_off2 rfl rfl (fun _ => rfl) rfl; apply DW_off2 rfl rfl (fun _ => rfl) rfl; apply DW_off2 rfl rfl (fun _ => rfl) rfl; apply DW_off2 rfl rfl (fun _ => rfl) rfl; apply DW_off2 rfl rfl (fun _ => rfl) rfl; apply DW_off2 rfl rfl (fun _ => rfl) rfl; apply DW_x (fun r w hA hH => (X_pickT (v := .bool _) rfl rfl).trans rfl); apply DW_x (fun r w hA hH => (X_move (v := .bool _) rfl).trans rfl); apply DW_off2 rfl rfl (fun _ => rfl) rfl; apply DW_off2 rfl rfl (fun _ => rfl) rfl; apply DW_off2 rfl rfl (fun _ => rfl) rfl; apply DW_off2 rfl rfl (fun _ => rfl) rfl; apply DW_off2 rfl rfl (fun _ => rfl) rfl; apply DW_off3 rfl rfl (fun _ => rfl); apply DW_off3 rfl rfl (fun _ => rfl); apply DW_off3 rfl rfl (fun _ => rfl); apply DW_off2 rfl rfl (fun _ => rfl) rfl; apply DW_x (fun r w hA hH => (X_pickT (v := .bool _) rfl rfl).trans rfl))
            ((with_reducible exact D_end); (exact rfl); (repeat (first | exact .inr (.inr (fun _ _ => by with_reducible rfl)) | (refine And.intro ?_ ?_) | exact .inr (.inl rfl) | exact .inl (by decide +kernel) | exact trivial | exact .inr (.inr (fun _ _ => rfl)))); (try dsimp only [Nat.reduceAdd]))
            intro r w3 E3 _
            (refine L_nil ?_; refine tn ?_; refine W_condT rfl ?_; refine W_seq ?_; refine W_region ?_; refine Ls (X_assign (v := .bool _) rfl) ?_; refine L_nil ?_; refine tn ?_; refine W_ret ?_; refine tr ?_)
            exact endQ_ret1 rfl rfl (v := .bool false) rfl ⟨rfl, (E1.trans E2).trans E3⟩
          · apply W_dagE 9 (by kernel_rfl)
            (apply DW_x (fun r w hA hH => (X_fld rfl).trans rfl); apply DW_x (fun r w hA hH => (X_ld (v := .int .i64 kk) rfl (D1.ext hA) rfl).trans rfl); apply DW_x (fun r w hA hH => (X_lssF rfl rfl (by omega)).trans rfl); apply DW_x (fun r w hA hH => (X_move (v := .bool _) rfl).trans rfl); apply DW_on2 rfl rfl (fun _ => rfl) (fun r w hA hH => (X_fld rfl).trans rfl); apply DW_on2 rfl rfl (fun _ => rfl) (fun r w hA hH => (X_ld (v := .int .i64 kk) rfl (D1.ext hA) rfl).trans rfl); apply DW_on2 rfl rfl (fun _ => rfl) (fun r w hA hH => (X_fld rfl).trans rfl); apply DW_on2 rfl rfl (fun _ => rfl) (fun r w hA hH => (X_ld (v := .int .i64 (k : Nat)) rfl (D1.ext hA) rfl).trans rfl))
            ((with_reducible apply DW_fn2); (exact rfl); (exact rfl); (exact fun _ => rfl); (exact fun _ => rfl); (exact fun r w hA hH => hmx w))
            ((with_reducible exact D_end); (exact rfl); (repeat (first | exact .inr (.inr (fun _ _ => by with_reducible rfl)) | (refine And.intro ?_ ?_) | exact .inr (.inl rfl) | exact .inl (by decide +kernel) | exact trivial | exact .inr (.inr (fun _ _ => rfl)))); (try dsimp only [Nat.reduceAdd]))
            intro r w3 E3 _
            (refine Lg2 rfl rfl rfl (X_gtrT rfl rfl (by omega)) ?_; refine Ls (X_pickF (v := .bool _) rfl rfl) ?_; refine Ls (X_move (v := .bool _) rfl) ?_; refine Lo2 rfl rfl rfl rfl ?_; refine Lo2 rfl rfl rfl rfl ?_; refine Lo2 rfl rfl rfl rfl ?_; refine Lo2 rfl rfl rfl rfl ?_; refine Lo2 rfl rfl rfl rfl ?_; refine Lo3 rfl rfl rfl ?_; refine Lo3 rfl rfl rfl ?_; refine Lo3 rfl rfl rfl ?_; refine Lo2 rfl rfl rfl rfl ?_; refine Ls (X_pickT (v := .bool _) rfl rfl) ?_; refine L_nil ?_; refine tn ?_; refine W_condT rfl ?_; refine W_seq ?_; refine W_region ?_; refine Ls (X_assign (v := .bool _) rfl) ?_; refine L_nil ?_; refine tn ?_; refine W_ret ?_; refine tr ?_)
            exact endQ_ret1 rfl rfl (v := .bool false) rfl ⟨rfl, (E1.trans E2).trans E3⟩
          · apply W_dagE 9 (by kernel_rfl)
            (apply DW_x (fun r w hA hH => (X_fld rfl).trans rfl); apply DW_x (fun r w hA hH => (X_ld (v := .int .i64 kk) rfl (D1.ext hA) rfl).trans rfl); apply DW_x (fun r w hA hH => (X_lssF rfl rfl (by omega)).trans rfl); apply DW_x (fun r w hA hH => (X_move (v := .bool _) rfl).trans rfl); apply DW_on2 rfl rfl (fun _ => rfl) (fun r w hA hH => (X_fld rfl).trans rfl); apply DW_on2 rfl rfl (fun _ => rfl) (fun r w hA hH => (X_ld (v := .int .i64 kk) rfl (D1.ext hA) rfl).trans rfl); apply DW_on2 rfl rfl (fun _ => rfl) (fun r w hA hH => (X_fld rfl).trans rfl); apply DW_on2 rfl rfl (fun _ => rfl) (fun r w hA hH => (X_ld (v := .int .i64 (k : Nat)) rfl (D1.ext hA) rfl).trans rfl))
            ((with_reducible apply DW_fn2); (exact rfl); (exact rfl); (exact fun _ => rfl); (exact fun _ => rfl); (exact fun r w hA hH => hmx w))
            ((with_reducible exact D_end); (exact rfl); (repeat (first | exact .inr (.inr (fun _ _ => by with_reducible rfl)) | (refine And.intro ?_ ?_) | exact .inr (.inl rfl) | exact .inl (by decide +kernel) | exact trivial | exact .inr (.inr (fun _ _ => rfl)))); (try dsimp only [Nat.reduceAdd]))
            intro r w3 E3 _
            (refine Lg2 rfl rfl rfl (X_gtrF rfl rfl (by omega)) ?_; refine Ls (X_pickF (v := .bool _) rfl rfl) ?_; refine Ls (X_move (v := .bool _) rfl) ?_; refine Lg2 rfl rfl rfl (X_fld rfl) ?_; refine Lg2 rfl rfl rfl (X_ld (v := .int .i64 (k : Nat)) rfl (D1.ext E3) rfl) ?_)
            refine L_strip rfl rfl rfl ?_
            refine L_fv rfl (hmx w3) ?_
            intro w4 E4
            (refine Lg2 rfl rfl rfl (X_gtrT rfl rfl (by omega)) ?_; refine Lg2 rfl rfl rfl (X_move (v := .bool _) rfl) ?_; refine Lg2 rfl rfl rfl (X_fld rfl) ?_; refine Lg2 rfl rfl rfl (X_ld (v := .int .i64 kk) rfl ((D1.ext E3).ext E4) rfl) ?_; refine Lg2 rfl rfl rfl (X_eqlT rfl rfl (by omega)) ?_; refine Lg2 rfl rfl rfl (X_pickT (v := .bool _) rfl rfl) ?_; refine Ls (X_pickF (v := .bool _) rfl rfl) ?_; refine L_nil ?_; refine tn ?_; refine W_condT rfl ?_; refine W_seq ?_; refine W_region ?_; refine Ls (X_assign (v := .bool _) rfl) ?_; refine L_nil ?_; refine tn ?_; refine W_ret ?_; refine tr ?_)
            exact endQ_ret1 rfl rfl (v := .bool false) rfl ⟨rfl, ((E1.trans E2).trans E3).trans E4⟩
    · rw [decide_eq_false (fun h => hD h.1)]
      by_cases h0 : col < 0
      · (refine Ls (X_assign (v := .bool _) rfl) ?_; refine L_nil ?_; refine tn ?_; refine W_seq ?_; refine W_seq ?_; refine W_region ?_; refine Ls (X_fld rfl) ?_; refine Ls (X_ld (v := .int .i64 (k : Nat)) rfl B1 rfl) ?_; refine Ls (X_lssF rfl rfl (by omega)) ?_; refine Ls (X_move (v := .bool _) rfl) ?_; refine Lg2 rfl rfl rfl (X_fld rfl) ?_; refine Lg2 rfl rfl rfl (X_ld (v := .int .i64 (k : Nat)) rfl B1 rfl) ?_; refine Lg2 rfl rfl rfl (X_gtrF rfl rfl (by omega)) ?_; refine Ls (X_pickF (v := .bool _) rfl rfl) ?_; refine Ls (X_move (v := .bool _) rfl) ?_; refine Lg2 rfl rfl rfl (X_fld rfl) ?_; refine Lg2 rfl rfl rfl (X_ld (v := .int .i64 col) rfl B1 rfl) ?_; refine Lg2 rfl rfl rfl (X_lssT rfl rfl (by omega)) ?_; refine Ls (X_pickF (v := .bool _) rfl rfl) ?_; refine Ls (X_move (v := .bool _) rfl) ?_; refine Lo2 rfl rfl rfl rfl ?_; refine Lo2 rfl rfl rfl rfl ?_; refine Lo2 rfl rfl rfl rfl ?_; refine Ls (X_pickT (v := .bool _) rfl rfl) ?_; refine Ls (X_move (v := .bool _) rfl) ?_; refine Lo2 rfl rfl rfl rfl ?_; refine Lo2 rfl rfl rfl rfl ?_; refine Lo2 rfl rfl rfl rfl ?_; refine Lo2 rfl rfl rfl rfl ?_; refine Lo3 rfl rfl rfl ?_; refine Lo3 rfl rfl rfl ?_; refine Lo3 rfl rfl rfl ?_; refine Lo3 rfl rfl rfl ?_; refine Lo2 rfl rfl rfl rfl ?_; refine Ls (X_pickT (v := .bool _) rfl rfl) ?_; refine L_nil ?_; refine tn ?_; refine W_condT rfl ?_; refine W_seq ?_; refine W_region ?_; refine Ls (X_assign (v := .bool _) rfl) ?_; refine L_nil ?_; refine tn ?_; refine W_ret ?_; refine tr ?_)
        exact endQ_ret1 rfl rfl (v := .bool false) rfl ⟨rfl, E1⟩
      · by_cases h3 : 3 < col
        · (refine Ls (X_assign (v := .bool _) rfl) ?_; refine L_nil ?_; refine tn ?_; refine W_seq ?_; refine W_seq ?_; refine W_region ?_; refine Ls (X_fld rfl) ?_; refine Ls (X_ld (v := .int .i64 (k : Nat)) rfl B1 rfl) ?_; refine Ls (X_lssF rfl rfl (by omega)) ?_; refine Ls (X_move (v := .bool _) rfl) ?_; refine Lg2 rfl rfl rfl (X_fld rfl) ?_; refine Lg2 rfl rfl rfl (X_ld (v := .int .i64 (k : Nat)) rfl B1 rfl) ?_; refine Lg2 rfl rfl rfl (X_gtrF rfl rfl (by omega)) ?_; refine Ls (X_pickF (v := .bool _) rfl rfl) ?_; refine Ls (X_move (v := .bool _) rfl) ?_; refine Lg2 rfl rfl rfl (X_fld rfl) ?_; refine Lg2 rfl rfl rfl (X_ld (v := .int .i64 col) rfl B1 rfl) ?_; refine Lg2 rfl rfl rfl (X_lssF rfl rfl (by omega)) ?_; refine Ls (X_pickF (v := .bool _) rfl rfl) ?_; refine Ls (X_move (v := .bool _) rfl) ?_; refine Lg2 rfl rfl rfl (X_fld rfl) ?_; refine Lg2 rfl rfl rfl (X_ld (v := .int .i64 col) rfl B1 rfl) ?_; refine Lg2 rfl rfl rfl (X_gtrT rfl rfl (by omega)) ?_; refine Ls (X_pickF (v := .bool _) rfl rfl) ?_; refine Ls (X_move (v := .bool _) rfl) ?_; refine Lo2 rfl rfl rfl rfl ?_; refine Lo2 rfl rfl rfl rfl ?_; refine Lo2 rfl rfl rfl rfl ?_; refine Lo2 rfl rfl rfl rfl ?_; refine Lo3 rfl rfl rfl ?_; refine Lo3 rfl rfl rfl ?_; refine Lo3 rfl rfl rfl ?_; refine Lo3 rfl rfl rfl ?_; refine Lo2 rfl rfl rfl rfl ?_; refine Ls (X_pickT (v := .bool _) rfl rfl) ?_; refine L_nil ?_; refine tn ?_; refine W_condT rfl ?_; refine W_seq ?_; refine W_region ?_; refine Ls (X_assign (v := .bool _) rfl) ?_; refine L_nil ?_; refine tn ?_; refine W_ret ?_; refine tr ?_)
          exact endQ_ret1 rfl rfl (v := .bool false) rfl ⟨rfl, E1⟩
        · cases hc
          · have hcol : ¬ col = 0 := fun h => hD ⟨by omega, by omega, fun _ => h⟩
            (refine Ls (X_assign (v := .bool _) rfl) ?_; refine L_nil ?_; refine tn ?_; refine W_seq ?_; refine W_seq ?_; refine W_region ?_; refine Ls (X_fld rfl) ?_; refine Ls (X_ld (v := .int .i64 (k : Nat)) rfl B1 rfl) ?_; refine Ls (X_lssF rfl rfl (by omega)) ?_; refine Ls (X_move (v := .bool _) rfl) ?_; refine Lg2 rfl rfl rfl (X_fld rfl) ?_; refine Lg2 rfl rfl rfl (X_ld (v := .int .i64 (k : Nat)) rfl B1 rfl) ?_; refine Lg2 rfl rfl rfl (X_gtrF rfl rfl (by omega)) ?_; refine Ls (X_pickF (v := .bool _) rfl rfl) ?_; refine Ls (X_move (v := .bool _) rfl) ?_; refine Lg2 rfl rfl rfl (X_fld rfl) ?_; refine Lg2 rfl rfl rfl (X_ld (v := .int .i64 col) rfl B1 rfl) ?_; refine Lg2 rfl rfl rfl (X_lssF rfl rfl (by omega)) ?_; refine Ls (X_pickF (v := .bool _) rfl rfl) ?_; refine Ls (X_move (v := .bool _) rfl) ?_; refine Lg2 rfl rfl rfl (X_fld rfl) ?_; refine Lg2 rfl rfl rfl (X_ld (v := .int .i64 col) rfl B1 rfl) ?_; refine Lg2 rfl rfl rfl (X_gtrF rfl rfl (by omega)) ?_; refine Ls (X_pickF (v := .bool _) rfl rfl) ?_; refine Ls (X_move (v := .bool _) rfl) ?_; refine Lg2 rfl rfl rfl (X_fld rfl) ?_; refine Lg2 rfl rfl rfl (X_ld (v := .int .i64 col) rfl B1 rfl) ?_; refine Lg2 rfl rfl rfl (X_neqT rfl rfl (by omega)) ?_; refine Lg2 rfl rfl rfl (X_move (v := .bool _) rfl) ?_; refine Lg2 rfl rfl rfl (X_fld rfl) ?_; refine Lg2 rfl rfl rfl (X_ld (v := .int .i64 (k : Nat)) rfl B1 rfl) ?_)
            refine L_strip rfl rfl rfl ?_
            refine L_fv rfl (hhx w1) ?_
            intro w2 E2
            (refine Lg2 rfl rfl rfl (X_not rfl) ?_; refine Lg2 rfl rfl rfl (X_pickT (v := .bool _) rfl rfl) ?_; refine Ls (X_pickF (v := .bool _) rfl rfl) ?_; refine L_nil ?_; refine tn ?_; refine W_condT rfl ?_; refine W_seq ?_; refine W_region ?_; refine Ls (X_assign (v := .bool _) rfl) ?_; refine L_nil ?_; refine tn ?_; refine W_ret ?_; refine tr ?_)
            exact endQ_ret1 rfl rfl (v := .bool false) rfl ⟨rfl, E1.trans E2⟩
          · exact (hD ⟨by omega, by omega, fun h => by cases h⟩).elim
  · rw [decide_eq_false (show ¬ Qy.OkI ⟨kind, col, kk, fs⟩ from fun h => h17 ⟨h.1.1, h.1.2.1⟩)]
    by_cases h1 : kind < 1
    · (refine Ls (X_assign (v := .bool _) rfl) ?_; refine L_nil ?_; refine tn ?_; refine W_seq ?_; refine W_seq ?_; refine W_region ?_; refine Ls (X_fld rfl) ?_; refine Ls (X_ld (v := .int .i64 kind) rfl B1 rfl) ?_; refine Ls (X_lssT rfl rfl (by omega)) ?_; refine Ls (X_move (v := .bool _) rfl) ?_; refine Lo2 rfl rfl rfl rfl ?_; refine Lo2 rfl rfl rfl rfl ?_; refine Lo2 rfl rfl rfl rfl ?_; refine Ls (X_pickT (v := .bool _) rfl rfl) ?_; refine Ls (X_move (v := .bool _) rfl) ?_; refine Lo2 rfl rfl rfl rfl ?_; refine Lo2 rfl rfl rfl rfl ?_; refine Lo2 rfl rfl rfl rfl ?_; refine Ls (X_pickT (v := .bool _) rfl rfl) ?_; refine Ls (X_move (v := .bool _) rfl) ?_; refine Lo2 rfl rfl rfl rfl ?_; refine Lo2 rfl rfl rfl rfl ?_; refine Lo2 rfl rfl rfl rfl ?_; refine Ls (X_pickT (v := .bool _) rfl rfl) ?_; refine Ls (X_move (v := .bool _) rfl) ?_; refine Lo2 rfl rfl rfl rfl ?_; refine Lo2 rfl rfl rfl rfl ?_; refine Lo2 rfl rfl rfl rfl ?_; refine Lo2 rfl rfl rfl rfl ?_; refine Lo3 rfl rfl rfl ?_; refine Lo3 rfl rfl rfl ?_; refine Lo3 rfl rfl rfl ?_; refine Lo3 rfl rfl rfl ?_; refine Lo2 rfl rfl rfl rfl ?_; refine Ls (X_pickT (v := .bool _) rfl rfl) ?_; refine L_nil ?_; refine tn ?_; refine W_condT rfl ?_; refine W_seq ?_; refine W_region ?_; refine Ls (X_assign (v := .bool _) rfl) ?_; refine L_nil ?_; refine tn ?_; refine W_ret ?_; refine tr ?_)
      exact endQ_ret1 rfl rfl (v := .bool false) rfl ⟨rfl, E1⟩
    · (refine Ls (X_assign (v := .bool _) rfl) ?_; refine L_nil ?_; refine tn ?_; refine W_seq ?_; refine W_seq ?_; refine W_region ?_; refine Ls (X_fld rfl) ?_; refine Ls (X_ld (v := .int .i64 kind) rfl B1 rfl) ?_; refine Ls (X_lssF rfl rfl (by omega)) ?_; refine Ls (X_move (v := .bool _) rfl) ?_; refine Lg2 rfl rfl rfl (X_fld rfl) ?_; refine Lg2 rfl rfl rfl (X_ld (v := .int .i64 kind) rfl B1 rfl) ?_; refine Lg2 rfl rfl rfl (X_gtrT rfl rfl (by omega)) ?_; refine Ls (X_pickF (v := .bool _) rfl rfl) ?_; refine Ls (X_move (v := .bool _) rfl) ?_; refine Lo2 rfl rfl rfl rfl ?_; refine Lo2 rfl rfl rfl rfl ?_; refine Lo2 rfl rfl rfl rfl ?_; refine Ls (X_pickT (v := .bool _) rfl rfl) ?_; refine Ls (X_move (v := .bool _) rfl) ?_; refine Lo2 rfl rfl rfl rfl ?_; refine Lo2 rfl rfl rfl rfl ?_; refine Lo2 rfl rfl rfl rfl ?_; refine Ls (X_pickT (v := .bool _) rfl rfl) ?_; refine Ls (X_move (v := .bool _) rfl) ?_; refine Lo2 rfl rfl rfl rfl ?_; refine Lo2 rfl rfl rfl rfl ?_; refine Lo2 rfl rfl rfl rfl ?_; refine Lo2 rfl rfl rfl rfl ?_; refine Lo3 rfl rfl rfl ?_; refine Lo3 rfl rfl rfl ?_; refine Lo3 rfl rfl rfl ?_; refine Lo3 rfl rfl rfl ?_; refine Lo2 rfl rfl rfl rfl ?_; refine Ls (X_pickT (v := .bool _) rfl rfl) ?_; refine L_nil ?_; refine tn ?_; refine W_condT rfl ?_; refine W_seq ?_; refine W_region ?_; refine Ls (X_assign (v := .bool _) rfl) ?_; refine L_nil ?_; refine tn ?_; refine W_ret ?_; refine tr ?_)
      exact endQ_ret1 rfl rfl (v := .bool false) rfl ⟨rfl, E1⟩
end Go.Proofs.YtipnliodpmjhcaaDoor

/- The law on parsed queries. -/
namespace Go.Proofs.YtipnliodpmjhcaaDoor
open Go.RowKit Go.Proofs.K

theorem rvalidB (q : Qy.QI) (b : Bool) (hb : decide (Qy.OkI q) = b) (v : Value) (lo hi : Nat) (w : World) (hF : FilsI w lo hi v q.fs) :
    Calls Tryd.prog 13 #[.agg (qC q.kind q.col q.k v).toArray] w fun e w' => e = .returned (.bool b) ∧ Ext w w' := by
  subst hb; exact rvalid q v lo hi w hF
theorem rvalidQ (q : Qy.Q) (hq : Qy.Ok q) (v : Value) (lo hi : Nat) (w : World) (hF : FilsI w lo hi v (filC q.fs)) :
    Calls Tryd.prog 13 #[.agg (qry q v).toArray] w fun e w' => e = .returned (.bool true) ∧ Ext w w' :=
  rvalidB (Qy.liQ q) true (decide_eq_true ((Qy.OkI_nat q).2 hq)) v lo hi w hF
theorem take_b (s : ByteArray) (n : Nat) : ∀ x ∈ (sb s).take n, x < 256 := fun x hx => sb_lt s x (List.mem_of_mem_take hx)
theorem FilsI_nil0 (w : World) (lo hi : Nat) : FilsI w lo hi (.slice none 0 0) [] := ⟨[], rfl, Row.nil _ _ _ _, fun i u f hu hf => by simp at hu⟩
set_option maxRecDepth 100000 in
set_option maxHeartbeats 8000000 in
theorem lpvalid (s : ByteArray) (w : World) (hw : Tabs w) :
    Calls Tryd.prog 6 #[.string s] w fun e w' => e = .returned (.bool true) ∧ Ext w w' := by
  refine calls_W Tryd.func6 rfl Tryd.ntmps6 rfl ?_
  obtain ⟨n, hn⟩ : ∃ n, n = min s.size 450 := ⟨_, rfl⟩
  have hmin : (if (450 : Int) < ((s.size : Nat) : Int) then (450 : Int) else ((s.size : Nat) : Int)) = ((n : Nat) : Int) := by split <;> omega
  obtain ⟨S, hS⟩ : ∃ S, (sb s).take n = S := ⟨_, rfl⟩
  have hSl : S.length = n := by rw [← hS, List.length_take, sb_len]; omega
  have hSb : ∀ x ∈ S, x < 256 := by rw [← hS]; exact take_b s n
  have hsb : sb (strB S) = S := sb_strB hSb
  have hsz : (strB S).size ≤ 100000 := by rw [strB_size]; omega
  (refine W_seq ?_; refine W_region ?_; refine Ls (X_assign (v := .bool _) rfl) ?_; refine L_nil ?_; refine tn ?_; refine W_seq ?_; refine W_region ?_)
  refine L_fv rfl (gsanity w hw) ?_
  intro w1 E1
  (refine Ls (X_assign (v := .bool _) rfl) ?_; refine L_nil ?_; refine tn ?_; refine W_seq ?_; refine W_region ?_; refine Ls (X_move (v := .string _) rfl) ?_; refine Ls (X_move (v := .string _) rfl) ?_; refine Ls (X_lenStr rfl) ?_; refine Ls (X_minE rfl rfl hmin) ?_)
  refine Ls (X_slcS (lo := none) (hi := some _) 0 n rfl rfl ⟨.i64, rfl⟩ (by omega) (by omega) (l := S) (by rw [List.drop_zero, Nat.sub_zero, hS])) ?_
  (refine Ls (X_assign (v := .string _) rfl) ?_; refine L_nil ?_; refine tn ?_; refine W_seq ?_; refine W_region ?_; refine Ls (X_move (v := .string _) rfl) ?_)
  have hw1 := hw.ext E1
  clear hmin hS
  rcases Qy.parse_says S with ⟨q, hp, hok, h400⟩ | ⟨o, e, hp, hoe⟩
  · have hp' : Qy.parse (sb (strB S)) = (q, 0, 0) := by rw [hsb]; exact hp
    refine L_fn (gparseV hp' hsz w1 hw1) rfl ?_
    rintro e w2 ⟨va, rfl, E2, F2⟩
    refine ⟨_, rfl, ?_⟩
    have vac := F2.cell
    (refine Ls (X_move (v := .tuple _) rfl) ?_; refine Ls (X_extract rfl rfl) ?_; refine Ls (X_extract rfl rfl) ?_; refine Ls (X_extract rfl rfl) ?_)
    refine L_alloc ?_
    intro g4 w3 B4 hg4 E3 hs3
    refine L_storeW (size := 4) (l := qry q va) rfl rfl rfl (qC_cell vac) B4 rfl ?_
    intro w4 C4 hg5 hs4
    have E24 : Ext w2 w4 := E3.then hg5 (fun g h => by cases h; omega)
    have F4 := F2.ext E24
    have E04 := (E1.trans E2).trans E24
    clear B4 hg5
    (refine Ls (X_assign (v := .int _ _) rfl) ?_; refine Ls (X_assign (v := .int _ _) rfl) ?_; refine L_nil ?_; refine tn ?_; refine W_seq ?_; refine W_seq ?_; refine W_region ?_; refine Ls (X_move (v := .int _ _) rfl) ?_; refine Ls (X_neqF rfl rfl (by omega)) ?_; refine L_nil ?_; refine tn ?_; refine W_condF rfl ?_; refine W_skip ?_; refine tn ?_; refine W_seq ?_; refine W_seq ?_; refine W_region ?_; refine Ls (X_ldW (size := 4) rfl C4 rfl) ?_)
    refine L_fv rfl (rvalidQ q hok va _ _ w4 F4) ?_
    intro w5 E5
    (refine Ls (X_not rfl) ?_; refine L_nil ?_; refine tn ?_; refine W_condF rfl ?_; refine W_skip ?_; refine tn ?_; refine W_seq ?_; refine W_region ?_; refine Ls (X_ldW (size := 4) rfl (C4.ext E5) rfl) ?_)
    refine L_fv rfl (gformat q hok va _ _ w5 (hw.ext (E04.trans E5)) (F4.ext E5)) ?_
    intro w6 E6
    refine L_fn (gparseV (parse_fmt hok) (fmt_size hok) w6 (hw.ext ((E04.trans E5).trans E6))) rfl ?_
    rintro e w7 ⟨vb, rfl, E7, F7⟩
    refine ⟨_, rfl, ?_⟩
    have vbc := F7.cell
    (refine Ls (X_move (v := .tuple _) rfl) ?_; refine Ls (X_extract rfl rfl) ?_; refine Ls (X_extract rfl rfl) ?_; refine Ls (X_extract rfl rfl) ?_)
    refine L_alloc ?_
    intro g8 w8 B8 hg8 E8 hs8
    refine L_storeW (size := 4) (l := qry q vb) rfl rfl rfl (qC_cell vbc) B8 rfl ?_
    intro w9 C8 hg9 hs9
    have E79 : Ext w7 w9 := E8.then hg9 (fun g h => by cases h; omega)
    have E49 := ((E5.trans E6).trans E7).trans E79
    (refine Ls (X_assign (v := .int _ _) rfl) ?_; refine Ls (X_assign (v := .int _ _) rfl) ?_; refine L_nil ?_; refine tn ?_; refine W_seq ?_; refine W_region ?_; refine Ls (X_move (v := .int _ _) rfl) ?_; refine Ls (X_eqlT rfl rfl (by omega)) ?_; refine Ls (X_move (v := .bool _) rfl) ?_; refine Lg2 rfl rfl rfl (X_move (v := .string _) rfl) ?_; refine Lg2 rfl rfl rfl ((X_lenStr rfl).trans (by rw [strB_size])) ?_; refine Lg2 rfl rfl rfl (X_leqT rfl rfl (by omega)) ?_; refine Ls (X_pickT (v := .bool _) rfl rfl) ?_; refine Ls (X_move (v := .bool _) rfl) ?_; refine Lg2 rfl rfl rfl (X_move (v := .int _ _) rfl) ?_; refine Lg2 rfl rfl rfl (X_eqlT rfl rfl (by omega)) ?_; refine Ls (X_pickT (v := .bool _) rfl rfl) ?_; refine Ls (X_move (v := .bool _) rfl) ?_; refine Lg2 rfl rfl rfl (X_ldW (size := 4) rfl C8 rfl) ?_; refine Lg2 rfl rfl rfl (X_ldW (size := 4) rfl (C4.ext E49) rfl) ?_)
    refine L_strip rfl rfl rfl ?_
    refine L_fv rfl (gsame q (Qy_small hok) vb va _ _ _ _ w9 (F7.ext E79) (F4.ext E49)) ?_
    intro w10 E10
    (refine Ls (X_pickT (v := .bool _) rfl rfl) ?_; refine Ls (X_move (v := .bool _) rfl) ?_; refine Lg2 rfl rfl rfl (X_move (v := .bool _) rfl) ?_; refine Ls (X_pickT (v := .bool _) rfl rfl) ?_; refine Ls (X_assign (v := .bool _) rfl) ?_; refine L_nil ?_; refine tn ?_; refine W_ret ?_)
    exact endQ_ret1 rfl rfl (v := .bool true) rfl ⟨rfl, (E04.trans E49).trans E10⟩
  · have hp' : Qy.parse (sb (strB S)) = (Qy.q0, o, e) := by rw [hsb]; exact hp
    refine L_fn (gparseV hp' hsz w1 hw1) rfl ?_
    rintro e' w2 ⟨va, rfl, E2, F2⟩
    refine ⟨_, rfl, ?_⟩
    have vac := F2.cell
    (refine Ls (X_move (v := .tuple _) rfl) ?_; refine Ls (X_extract rfl rfl) ?_; refine Ls (X_extract rfl rfl) ?_; refine Ls (X_extract rfl rfl) ?_)
    refine L_alloc ?_
    intro g4 w3 B4 hg4 E3 hs3
    refine L_storeW (size := 4) (l := qry Qy.q0 va) rfl rfl rfl (qC_cell vac) B4 rfl ?_
    intro w4 C4 hg5 hs4
    have E24 : Ext w2 w4 := E3.then hg5 (fun g h => by cases h; omega)
    have F4 := F2.ext E24
    have E04 := (E1.trans E2).trans E24
    clear B4 hg5
    have h4 : (e = 130 ∧ o < S.length) ∨ (e = 1 ∧ o < S.length) ∨ (e = 131 ∧ o = S.length) ∨ (e = 2 ∧ o = 0 ∧ 400 < S.length) := by
      rcases hoe with ⟨_, h⟩ | ⟨h1, h2, h3⟩
      · rcases h with ⟨h | h, h2⟩ | ⟨h, h2⟩
        · exact .inl ⟨h, h2⟩
        · exact .inr (.inl ⟨h, h2⟩)
        · exact .inr (.inr (.inl ⟨h, h2⟩))
      · exact .inr (.inr (.inr ⟨h3, h2, h1⟩))
    clear hoe hp hp'
    rcases h4 with ⟨he, ho⟩ | ⟨he, ho⟩ | ⟨he, ho⟩ | ⟨he, ho, h400⟩
    all_goals
      repeat (first | (with_reducible refine tn ?_) | (with_reducible refine W_seq ?_) | (with_reducible refine W_region ?_) | (with_reducible refine L_nil ?_) | ((with_reducible refine i_move ?_); (first | ((with_reducible refine i_ng ?_); (first | refine Ls (X_move (v := .int _ _) rfl) ?_ | refine Ls (X_move (v := .bool _) rfl) ?_)) | ((with_reducible refine i_gd ?_); (first | refine Lg2 rfl rfl rfl (X_move (v := .int _ _) rfl) ?_ | refine Lg2 rfl rfl rfl (X_move (v := .bool _) rfl) ?_ | refine Lg2 rfl rfl rfl (X_move (v := .string _) rfl) ?_)))) | ((with_reducible refine i_assign ?_); ((with_reducible refine i_ng ?_); (first | refine Ls (X_assign (v := .int _ _) rfl) ?_ | refine Ls (X_assign (v := .bool _) rfl) ?_))) | ((with_reducible refine i_lss ?_); ((with_reducible refine i_gd ?_); refine Lg2 rfl rfl rfl (X_lssT rfl rfl (by omega)) ?_)) | ((with_reducible refine i_gtr ?_); ((with_reducible refine i_gd ?_); refine Lg2 rfl rfl rfl (X_gtrT rfl rfl (by omega)) ?_)) | ((with_reducible refine i_geq ?_); ((with_reducible refine i_gd ?_); refine Lg2 rfl rfl rfl (X_geqT rfl rfl (by omega)) ?_)) | ((with_reducible refine i_eql ?_); (first | ((with_reducible refine i_ng ?_); (first | refine Ls (X_eqlT rfl rfl (by omega)) ?_ | refine Ls (X_eqlF rfl rfl (by omega)) ?_)) | ((with_reducible refine i_gd ?_); (first | refine Lg2 rfl rfl rfl (X_eqlT rfl rfl (by omega)) ?_ | refine Lg2 rfl rfl rfl (X_eqlF rfl rfl (by omega)) ?_)))) | ((with_reducible refine i_neq ?_); ((with_reducible refine i_ng ?_); refine Ls (X_neqT rfl rfl (by omega)) ?_)) | ((with_reducible refine i_len ?_); ((with_reducible refine i_gd ?_); refine Lg2 rfl rfl rfl ((X_lenStr rfl).trans (by rw [strB_size])) ?_)) | ((with_reducible refine i_pick ?_); (first | ((with_reducible refine i_ng ?_); (first | refine Ls (X_pickT (v := .bool _) rfl rfl) ?_ | refine Ls (X_pickF (v := .bool _) rfl rfl) ?_)) | ((with_reducible refine i_gd ?_); (first | refine Lg2 rfl rfl rfl (X_pickT (v := .bool _) rfl rfl) ?_ | refine Lg2 rfl rfl rfl (X_pickF (v := .bool _) rfl rfl) ?_)))) | ((with_reducible refine i_load ?_); ((with_reducible refine i_gd ?_); refine Lg2 rfl rfl rfl (X_ldW (size := 4) rfl C4 rfl) ?_)) | ((with_reducible refine i_gd ?_); refine Lo2 rfl rfl rfl rfl ?_) | (with_reducible refine W_condT rfl ?_) | ((with_reducible refine i_gd ?_); refine Lo3 rfl rfl rfl ?_))
      refine L_strip rfl rfl rfl ?_
      refine Ls X_mkQ0 ?_
      refine L_strip rfl rfl rfl ?_
      refine L_fv rfl (gsame Qy.q0 q0_small va (.slice none 0 0) _ _ 0 0 w4 F4 (FilsI_nil0 _ _ _)) ?_
      intro w5 E5
      (refine Ls (X_pickT (v := .bool _) rfl rfl) ?_; refine Ls (X_move (v := .bool _) rfl) ?_; refine Lg2 rfl rfl rfl (X_move (v := .bool _) rfl) ?_; refine Ls (X_pickT (v := .bool _) rfl rfl) ?_; refine Ls (X_assign (v := .bool _) rfl) ?_; refine L_nil ?_; refine tn ?_; refine W_ret ?_; refine tr ?_)
      exact endQ_ret1 rfl rfl (v := .bool true) rfl ⟨rfl, E04.trans E5⟩
end Go.Proofs.YtipnliodpmjhcaaDoor

/- The law on the reference: Valid, Format, Match. -/
namespace Go.Proofs.YtipnliodpmjhcaaDoor
open Go.RowKit Go.Proofs.K

theorem max_le : maxLen ≤ 9223372036854775807 := by decide
theorem row_le {w : World} {lo hi size m : Nat} {v : Value} {xs : List Value} (h : Row w lo hi size v m xs) : m ≤ 9223372036854775807 := by
  obtain ⟨_, A, c, _, h1, h2, _⟩ := h
  have := max_le; omega
set_option maxRecDepth 100000 in
set_option maxHeartbeats 8000000 in
theorem lqref (q : Qy.QI) (v : Value) (lo hi : Nat) (a b c d : Int) (w : World) (hw : Tabs w) (hF : FilsI w lo hi v q.fs) (hk : (Lit.int .i64 q.kind).wf = true) :
    Calls Tryd.prog 3 #[.agg (qC q.kind q.col q.k v).toArray, .agg #[.int .i64 a, .int .i64 b, .int .i64 c, .int .i64 d]] w fun e w' => e = .returned (.bool true) ∧ Ext w w' := by
  refine calls_W Tryd.func3 rfl Tryd.ntmps3 rfl ?_
  have hmk := rmadeM q v lo hi
  have hok := Qy.mQ_ok q
  generalize Qy.mQ q = m at *
  (refine W_seq ?_; refine W_region ?_)
  refine L_box (l := qC q.kind q.col q.k v) rfl ?_
  intro g2 w1 B2 hg2 E1 hs1
  refine L_box (l := [.int .i64 a, .int .i64 b, .int .i64 c, .int .i64 d]) rfl ?_
  intro g3 w2 B3 hg3 E2 hs2
  (refine Ls (X_assign (v := .bool _) rfl) ?_; refine L_nil ?_; refine tn ?_; refine W_seq ?_; refine W_region ?_)
  have E02 := E1.trans E2
  refine L_fv rfl (gsanity w2 (hw.ext E02)) ?_
  intro w3 E3
  have C2 := (B2.ext E2).ext E3
  have C3 := B3.ext E3
  have E03 := E02.trans E3
  have F3 := hF.ext E03
  obtain ⟨us, hul, hvr, hus⟩ := id F3
  have hvc := row_cell hvr
  have hle := row_le hvr
  clear B2 B3
  obtain ⟨s0, hs0⟩ : ∃ s0 : Bool, decide ((q.fs.length : Int) ≤ 5) = s0 := ⟨_, rfl⟩
  (refine Ls (X_assign (v := .bool _) rfl) ?_; refine L_nil ?_; refine tn ?_; refine W_seq ?_; refine W_region ?_; refine Ls (X_fld rfl) ?_; refine Ls (X_ld (v := v) rfl C2 rfl) ?_; refine Ls (X_lenRow (v := v) rfl hvr) ?_; refine Ls (X_leq rfl rfl) ?_; refine Ls (X_assign (v := .bool _) rfl) ?_; refine L_nil ?_; refine tn ?_; refine W_seq ?_; refine W_seq ?_; refine W_region ?_; refine Ls (X_assign (v := .int _ _) rfl) ?_; refine L_nil ?_; refine tn ?_; refine W_block ?_)
  rw [hs0]
  refine W_loop (fun z f w' => ∃ (i : Nat) (sm : Bool), z = q.fs.length - i ∧ i ≤ q.fs.length ∧ w' = w3 ∧ f 2 = .pointer (some ⟨g2, 0, none⟩) ∧ f 3 = .pointer (some ⟨g3, 0, none⟩) ∧ f 5 = .bool true ∧ f 6 = .bool sm ∧ f 7 = .int .i64 (i : Nat)) q.fs.length ?_ ?_
  · exact ⟨0, s0, rfl, by omega, rfl, rfl, rfl, rfl, rfl, rfl⟩
  · clear hs0
    rintro z f w' ⟨i, sm, rfl, hi', rfl, f2, f3, f5, f6, f7⟩
    rw [fold f2, fold f3, fold f5, fold f6, fold f7]
    clear f2 f3 f5 f6 f7
    have h3 : (i < q.fs.length ∧ sm = true) ∨ ¬ i < q.fs.length ∨ (i < q.fs.length ∧ sm = false) := by
      cases sm
      · by_cases h : i < q.fs.length
        · exact .inr (.inr ⟨h, rfl⟩)
        · exact .inr (.inl h)
      · by_cases h : i < q.fs.length
        · exact .inl ⟨h, rfl⟩
        · exact .inr (.inl h)
    rcases h3 with ⟨hlt, rfl⟩ | hlt | ⟨hlt, rfl⟩
    case inl =>
      obtain ⟨l, hl⟩ : ∃ l, q.fs[i]? = some l := ⟨q.fs[i], List.getElem?_eq_getElem hlt⟩
      obtain ⟨u, hu⟩ : ∃ u, us[i]? = some u := ⟨us[i]'(by omega), List.getElem?_eq_getElem (by omega)⟩
      have hlr := hus i u l hu hl
      have huc := row_cell hlr
      obtain ⟨b0, o0, c0, rfl, _, _, _, hc0⟩ := hvr.at (k := i) hlt
      (refine W_seq ?_; refine W_seq ?_; refine W_region ?_; refine Ls (X_move (v := .int _ _) rfl) ?_; refine Ls (X_fld rfl) ?_; refine Ls (X_ld (v := .slice (some ⟨b0, o0, none⟩) q.fs.length c0) rfl C2 rfl) ?_; refine Ls (X_lenRow (v := .slice (some ⟨b0, o0, none⟩) q.fs.length c0) rfl hvr) ?_; refine Ls (X_lssT rfl rfl (by omega)) ?_; refine Ls (X_move (v := .bool _) rfl) ?_; refine Lg2 rfl rfl rfl (X_move (v := .bool _) rfl) ?_; refine Ls (X_pickT (v := .bool _) rfl rfl) ?_; refine L_nil ?_; refine tn ?_; refine W_condT rfl ?_; refine W_skip ?_; refine tn ?_; refine W_seq ?_; refine W_block ?_; refine W_region ?_; refine Ls (X_fld rfl) ?_; refine Ls (X_ld (v := .slice (some ⟨b0, o0, none⟩) q.fs.length c0) rfl C2 rfl) ?_; refine Ls (X_move (v := .int _ _) rfl) ?_; refine Ls (X_indexSn rfl rfl (by omega)) ?_; refine Ls (X_ldR (j := i) (v := u) rfl hc0 (by omega) hu) ?_; refine Ls (X_lenRow (v := u) rfl hlr) ?_; refine Ls (X_leq rfl rfl) ?_; refine Ls (X_assign (v := .bool _) rfl) ?_; refine L_nil ?_; refine bn ?_; refine tn ?_; refine W_region ?_; refine Ls (X_move (v := .int _ _) rfl) ?_; refine Ls (X_addi rfl rfl (by omega)) ?_; refine Ls (X_assign (v := .int _ _) rfl) ?_; refine L_nil ?_; refine tn ?_)
      exact ⟨q.fs.length - (i + 1), by omega, i + 1, _, rfl, by omega, rfl, rfl, rfl, rfl, rfl, rfl⟩
    case' inr.inl => cases sm
    case' inr.inl.false =>
      (refine W_seq ?_; refine W_seq ?_; refine W_region ?_; refine Ls (X_move (v := .int _ _) rfl) ?_; refine Ls (X_fld rfl) ?_; refine Ls (X_ld (v := v) rfl C2 rfl) ?_; refine Ls (X_lenRow (v := v) rfl hvr) ?_; refine Ls (X_lssF rfl rfl (by omega)) ?_; refine Ls (X_move (v := .bool _) rfl) ?_; refine Lo2 rfl rfl rfl rfl ?_; refine Ls (X_pickF (v := .bool _) rfl rfl) ?_; refine L_nil ?_; refine tn ?_; refine W_condF rfl ?_; refine W_exit ?_; refine te ?_; refine te ?_; refine bx ?_; refine tn ?_; refine W_seq ?_; refine W_seq ?_)
      refine W_mono (Q := fun e f w'' => e = .normal ∧ Ext w' w'' ∧ f 2 = .pointer (some ⟨g2, 0, none⟩) ∧ f 3 = .pointer (some ⟨g3, 0, none⟩) ∧ f 5 = .bool true ∧ f 40 = .bool false) ?_ ?_
      · apply W_dagE 8 (by kernel_rfl)
        (apply DW_x (fun r w hA hH => (X_move (v := .bool _) rfl).trans rfl); apply DW_x (fun r w hA hH => (X_move (v := .bool _) rfl).trans rfl); apply DW_off2 rfl rfl (fun _ => rfl) rfl; apply DW_off2 rfl rfl (fun _ => rfl) rfl; apply DW_off2 rfl rfl (fun _ => rfl) rfl; apply DW_off2 rfl rfl (fun _ => rfl) rfl; apply DW_off2 rfl rfl (fun _ => rfl) rfl; apply DW_x (fun r w hA hH => (X_pickF (v := .bool _) rfl rfl).trans rfl))
        ((with_reducible exact D_end); (exact rfl); (repeat (first | exact .inr (.inr (fun _ _ => by with_reducible rfl)) | (refine And.intro ?_ ?_) | exact .inr (.inl rfl) | exact .inl (by decide +kernel) | exact trivial | exact .inr (.inr (fun _ _ => rfl)))); (try dsimp only [Nat.reduceAdd]))
        intro r w4 E4 _
        (refine L_nil ?_)
        exact ⟨rfl, E4, rfl, rfl, rfl, rfl⟩
    case' inr.inl.true =>
      (refine W_seq ?_; refine W_seq ?_; refine W_region ?_; refine Ls (X_move (v := .int _ _) rfl) ?_; refine Ls (X_fld rfl) ?_; refine Ls (X_ld (v := v) rfl C2 rfl) ?_; refine Ls (X_lenRow (v := v) rfl hvr) ?_; refine Ls (X_lssF rfl rfl (by omega)) ?_; refine Ls (X_move (v := .bool _) rfl) ?_; refine Lo2 rfl rfl rfl rfl ?_; refine Ls (X_pickF (v := .bool _) rfl rfl) ?_; refine L_nil ?_; refine tn ?_; refine W_condF rfl ?_; refine W_exit ?_; refine te ?_; refine te ?_; refine bx ?_; refine tn ?_; refine W_seq ?_; refine W_seq ?_)
      refine W_mono (Q := fun e f w'' => e = .normal ∧ Ext w' w'' ∧ f 2 = .pointer (some ⟨g2, 0, none⟩) ∧ f 3 = .pointer (some ⟨g3, 0, none⟩) ∧ f 5 = .bool true ∧ f 40 = .bool false) ?_ ?_
      · obtain ⟨b1, hb1⟩ : ∃ b1, decide (Qy.OkI q) = b1 := ⟨_, rfl⟩
        apply W_dagE 5 (by kernel_rfl)
        (apply DW_x (fun r w hA hH => (X_move (v := .bool _) rfl).trans rfl); apply DW_x (fun r w hA hH => (X_move (v := .bool _) rfl).trans rfl); apply DW_on2 rfl rfl (fun _ => rfl) (fun r w hA hH => (X_ldW (size := 4) rfl (C2.ext hA) rfl).trans rfl))
        ((with_reducible apply DW_fn2); (exact rfl); (exact rfl); (exact fun _ => rfl); (exact fun _ => rfl); (exact fun r w hA hH => gvalidB q b1 hb1 v lo hi w (F3.ext hA) hk))
        (apply DW_on2 rfl rfl (fun _ => rfl) (fun r w hA hH => (X_ldW (size := 4) rfl (C2.ext hA) rfl).trans rfl))
        ((with_reducible exact D_end); (exact rfl); (repeat (first | exact .inr (.inr (fun _ _ => by with_reducible rfl)) | (refine And.intro ?_ ?_) | exact .inr (.inl rfl) | exact .inl (by decide +kernel) | exact trivial | exact .inr (.inr (fun _ _ => rfl)))); (try dsimp only [Nat.reduceAdd]))
        intro r w4 E4 _
        refine L_strip rfl rfl rfl ?_
        refine L_fv rfl (rvalidB q b1 hb1 v lo hi w4 (F3.ext E4)) ?_
        intro w5 E5
        (refine Lg2 rfl rfl rfl (X_neqBo (r := false) rfl rfl rfl (by simp)) ?_; refine Ls (X_pickT (v := .bool _) rfl rfl) ?_; refine L_nil ?_)
        exact ⟨rfl, E4.trans E5, rfl, rfl, rfl, rfl⟩
    case' inr.inr =>
      (refine W_seq ?_; refine W_seq ?_; refine W_region ?_; refine Ls (X_move (v := .int _ _) rfl) ?_; refine Ls (X_fld rfl) ?_; refine Ls (X_ld (v := v) rfl C2 rfl) ?_; refine Ls (X_lenRow (v := v) rfl hvr) ?_; refine Ls (X_lssT rfl rfl (by omega)) ?_; refine Ls (X_move (v := .bool _) rfl) ?_; refine Lg2 rfl rfl rfl (X_move (v := .bool _) rfl) ?_; refine Ls (X_pickT (v := .bool _) rfl rfl) ?_; refine L_nil ?_; refine tn ?_; refine W_condF rfl ?_; refine W_exit ?_; refine te ?_; refine te ?_; refine bx ?_; refine tn ?_; refine W_seq ?_; refine W_seq ?_)
      refine W_mono (Q := fun e f w'' => e = .normal ∧ Ext w' w'' ∧ f 2 = .pointer (some ⟨g2, 0, none⟩) ∧ f 3 = .pointer (some ⟨g3, 0, none⟩) ∧ f 5 = .bool true ∧ f 40 = .bool false) ?_ ?_
      · apply W_dagE 8 (by kernel_rfl)
        (apply DW_x (fun r w hA hH => (X_move (v := .bool _) rfl).trans rfl); apply DW_x (fun r w hA hH => (X_move (v := .bool _) rfl).trans rfl); apply DW_off2 rfl rfl (fun _ => rfl) rfl; apply DW_off2 rfl rfl (fun _ => rfl) rfl; apply DW_off2 rfl rfl (fun _ => rfl) rfl; apply DW_off2 rfl rfl (fun _ => rfl) rfl; apply DW_off2 rfl rfl (fun _ => rfl) rfl; apply DW_x (fun r w hA hH => (X_pickF (v := .bool _) rfl rfl).trans rfl))
        ((with_reducible exact D_end); (exact rfl); (repeat (first | exact .inr (.inr (fun _ _ => by with_reducible rfl)) | (refine And.intro ?_ ?_) | exact .inr (.inl rfl) | exact .inl (by decide +kernel) | exact trivial | exact .inr (.inr (fun _ _ => rfl)))); (try dsimp only [Nat.reduceAdd]))
        intro r w4 E4 _
        (refine L_nil ?_)
        exact ⟨rfl, E4, rfl, rfl, rfl, rfl⟩
    all_goals
      clear hlt
      rintro e f w4 ⟨rfl, E4, f2, f3, f5, f40⟩
      rw [fold f2, fold f3, fold f5, fold f40]
      clear f2 f3 f5 f40
      have D2 := C2.ext E4
      have D3 := C3.ext E4
      have F4 := F3.ext E4
      have E04 := E03.trans E4
      (refine tn ?_; refine W_condF rfl ?_; refine W_skip ?_; refine tn ?_; refine W_seq ?_)
      apply W_dagE 6 (by kernel_rfl)
      (apply DW_x (fun r w hA hH => (X_ldW (size := 4) rfl (D2.ext hA) rfl).trans rfl))
      ((with_reducible apply DW_fo (F := fun u w' => ∃ x, u = .agg (qry m x).toArray ∧ MadeAt w4.heap.size w' x m.fs)); (exact fun _ => rfl); (exact fun _ => rfl); (exact fun r w hA hH => (hmk w (F4.ext hA)).mono fun e w' ⟨u, h1, h2, h3⟩ => ⟨_, h1, h2, u, rfl, h3.base hA.size⟩); (exact fun i u w w' hi ht hR h => (by obtain ⟨x, h1, h2⟩ := h; exact ⟨x, h1, h2.ext hR⟩)))
      (apply DW_x (fun r w hA hH => (X_ldW (size := 4) rfl (D3.ext hA) rfl).trans rfl))
      ((with_reducible apply DW_fn); (exact fun _ => rfl); (exact fun _ => rfl); (exact fun r w hA hH => rmadeR a b c d w))
      apply DW_alloc (w0 := w4) (fun w hA => hA.size)
      apply DW_alloc (w0 := w4) (fun w hA => hA.size)
      ((with_reducible exact D_end); (exact rfl); (repeat (first | exact .inr (.inr (fun _ _ => by with_reducible rfl)) | (refine And.intro ?_ ?_) | exact .inr (.inl rfl) | exact .inl (by decide +kernel) | exact trivial | exact .inr (.inr (fun _ _ => rfl)))); (try dsimp only [Nat.reduceAdd]))
      intro r w5 E5 H5
      obtain ⟨x, hr1, M5⟩ : ∃ x, r 1 = .agg (qry m x).toArray ∧ MadeAt w4.heap.size w5 x m.fs := H5 1
      obtain ⟨g8, hr8, hg8, B8⟩ : NewF w4 24 (qC 0 0 0 (.slice none 0 0)) (r 4) w5 := H5 4
      obtain ⟨g9, hr9, hg9, B9⟩ : NewF w4 26 [.int .i64 0, .int .i64 0, .int .i64 0, .int .i64 0] (r 5) w5 := H5 5
      rw [hr1, hr8, hr9]
      clear H5 hr1 hr8 hr9
      have hxc := M5.cell
      have hne : g9 ≠ g8 := B9.ne_ B8 (by decide)
      generalize Qy.mR a b c d = rd
      refine L_storeW (size := 4) (l := qry m x) rfl rfl rfl (qC_cell hxc) B8 rfl ?_
      intro w6 C8 hg8' hs6
      have M6 := M5.store B8 (by decide) (by decide) hg8'
      have B9' := B9.grown hg8' (by simp; omega)
      refine L_storeW (size := 4) (l := rdC rd) rfl rfl rfl rdC_cell B9' rfl ?_
      intro w7 C9 hg9' hs7
      have M7 := M6.store B9' (by decide) (by decide) hg9'
      have D8 := C8.grown hg9' (by simp; omega)
      have E47 : Ext w4 w7 := (E5.then hg8' (fun g h => by cases h; exact hg8)).then hg9' (fun g h => by cases h; exact hg9)
      have E07 := E04.trans E47
      have F7 := M7.fils
      clear M5 M6 M7 B8 B9 B9' C8 hg8' hg9' D2 D3 F4
      obtain ⟨ux, huxl, hxr, hux⟩ := id F7
      have hxr : Row w7 w4.heap.size w7.heap.size 1 x m.fs.length ux := hxr.re (by simp [filC]) rfl
      have huxl : ux.length = m.fs.length := by rw [huxl]; simp [filC]
      have hfl2 : m.fs.length ≤ 2 := by rw [hok.fl]; unfold Qy.nfil; cases (m.kind == 7) <;> decide
      (refine L_nil ?_; refine tn ?_; refine W_seq ?_; refine W_seq ?_; refine W_region ?_; refine Ls (X_assign (v := .int _ _) rfl) ?_; refine L_nil ?_; refine tn ?_; refine W_block ?_)
      refine W_loop (fun z f w' => ∃ i, z = m.fs.length - i ∧ i ≤ m.fs.length ∧ Ext w7 w' ∧ f 5 = .bool true ∧ f 8 = .pointer (some ⟨g8, 0, none⟩) ∧ f 9 = .pointer (some ⟨g9, 0, none⟩) ∧ f 10 = .int .i64 (i : Nat)) m.fs.length ?_ ?_
      · exact ⟨0, rfl, by omega, Ext.refl _, rfl, rfl, rfl, rfl⟩
      · rintro z f w8 ⟨j, rfl, hj', E8, f5, f8, f9, f10⟩
        rw [fold f5, fold f8, fold f9, fold f10]
        clear f5 f8 f9 f10
        have G8 := D8.ext E8
        have G9 := C9.ext E8
        by_cases hlt : j < m.fs.length
        · obtain ⟨l, hl⟩ : ∃ l, m.fs[j]? = some l := ⟨m.fs[j], List.getElem?_eq_getElem hlt⟩
          obtain ⟨u, hu⟩ : ∃ u, ux[j]? = some u := ⟨ux[j]'(by omega), List.getElem?_eq_getElem (by omega)⟩
          have hlr := ((hux j u _ hu (filC_get hl)).re (show (l.map Qy.liC).length = l.length by simp) rfl).ext E8
          have huc := row_cell hlr
          have hlok := hok.f l (List.mem_of_getElem? hl)
          have hl3 := hlok.1
          have hl4 : ∀ c ∈ l, c.1 < 4 := fun c hc => (hlok.2 c hc).1
          obtain ⟨b0, o0, c0, rfl, _, _, _, hc0⟩ := hxr.at (k := j) hlt
          have hc8 := E8.range hc0
          (refine W_seq ?_; refine W_seq ?_; refine W_region ?_; refine Ls (X_move (v := .int _ _) rfl) ?_; refine Ls (X_fld rfl) ?_; refine Ls (X_ld (v := .slice (some ⟨b0, o0, none⟩) m.fs.length c0) rfl G8 rfl) ?_; refine Ls (X_lenRow rfl hxr) ?_; refine Ls (X_lssT rfl rfl (by omega)) ?_; refine L_nil ?_; refine tn ?_; refine W_condT rfl ?_; refine W_skip ?_; refine tn ?_; refine W_seq ?_; refine W_block ?_; refine W_seq ?_)
          apply W_dagE 13 (by kernel_rfl)
          (apply DW_x (fun r w hA hH => (X_fld rfl).trans rfl); apply DW_x (fun r w hA hH => (X_ld (v := .slice (some ⟨b0, o0, none⟩) m.fs.length c0) rfl (G8.ext hA) rfl).trans rfl); apply DW_x (fun r w hA hH => (X_move (v := .int _ _) rfl).trans rfl); apply DW_x (fun r w hA hH => (X_indexSn rfl rfl (by omega)).trans rfl); apply DW_x (fun r w hA hH => (X_ldR (j := j) (v := u) rfl (hA.range hc8) (by omega) hu).trans rfl); apply DW_x (fun r w hA hH => (X_ldW (size := 4) rfl (G9.ext hA) rfl).trans rfl))
          ((with_reducible apply DW_fn); (exact fun _ => rfl); (exact fun _ => rfl); (exact fun r w hA hH => gmatchB u l rd (Qy.mt rd l) rfl l.length rfl (by omega) hl4 w (hlr.ext hA)))
          (apply DW_x (fun r w hA hH => (X_fld rfl).trans rfl); apply DW_x (fun r w hA hH => (X_ld (v := .slice (some ⟨b0, o0, none⟩) m.fs.length c0) rfl (G8.ext hA) rfl).trans rfl); apply DW_x (fun r w hA hH => (X_move (v := .int _ _) rfl).trans rfl); apply DW_x (fun r w hA hH => (X_indexSn rfl rfl (by omega)).trans rfl); apply DW_x (fun r w hA hH => (X_ldR (j := j) (v := u) rfl (hA.range hc8) (by omega) hu).trans rfl); apply DW_x (fun r w hA hH => (X_ldW (size := 4) rfl (G9.ext hA) rfl).trans rfl))
          ((with_reducible exact D_end); (exact rfl); (repeat (first | exact .inr (.inr (fun _ _ => by with_reducible rfl)) | (refine And.intro ?_ ?_) | exact .inr (.inl rfl) | exact .inl (by decide +kernel) | exact trivial | exact .inr (.inr (fun _ _ => rfl)))); (try dsimp only [Nat.reduceAdd]))
          intro r w9 E9 _
          refine L_fv rfl (rmatch _ _ u l rd (by omega) hl4 w9 (hlr.ext E9)) ?_
          intro w10 E10
          (refine Ls (X_neqBo (r := false) rfl rfl rfl (by simp)) ?_; refine L_nil ?_; refine tn ?_; refine W_condF rfl ?_; refine W_skip ?_; refine bn ?_; refine tn ?_; refine W_region ?_; refine Ls (X_move (v := .int _ _) rfl) ?_; refine Ls (X_addi rfl rfl (by omega)) ?_; refine Ls (X_assign (v := .int _ _) rfl) ?_; refine L_nil ?_; refine tn ?_)
          exact ⟨m.fs.length - (j + 1), by omega, j + 1, rfl, by omega, (E8.trans E9).trans E10, rfl, rfl, rfl, rfl⟩
        · obtain rfl : j = m.fs.length := by omega
          have F8 := F7.ext E8
          (refine W_seq ?_; refine W_seq ?_; refine W_region ?_; refine Ls (X_move (v := .int _ _) rfl) ?_; refine Ls (X_fld rfl) ?_; refine Ls (X_ld (v := x) rfl G8 rfl) ?_; refine Ls (X_lenRow (v := x) rfl hxr) ?_; refine Ls (X_lssF rfl rfl (by omega)) ?_; refine L_nil ?_; refine tn ?_; refine W_condF rfl ?_; refine W_exit ?_; refine te ?_; refine te ?_; refine bx ?_; refine tn ?_; refine W_seq ?_)
          apply W_dagE 6 (by kernel_rfl)
          (apply DW_x (fun r w hA hH => (X_ldW (size := 4) rfl (G8.ext hA) rfl).trans rfl))
          ((with_reducible apply DW_fn); (exact fun _ => rfl); (exact fun _ => rfl); (exact fun r w hA hH => gvalidQ m hok x _ _ w (F8.ext hA)))
          (apply DW_x (fun r w hA hH => (X_move (v := .bool _) rfl).trans rfl); apply DW_on2 rfl rfl (fun _ => rfl) (fun r w hA hH => (X_ldW (size := 4) rfl (G8.ext hA) rfl).trans rfl))
          ((with_reducible apply DW_fn2); (exact rfl); (exact rfl); (exact fun _ => rfl); (exact fun _ => rfl); (exact fun r w hA hH => gformat m hok x _ _ w (hw.ext ((E07.trans E8).trans hA)) (F8.ext hA)))
          (apply DW_on2 rfl rfl (fun _ => rfl) (fun r w hA hH => (X_ldW (size := 4) rfl (G8.ext hA) rfl).trans rfl))
          ((with_reducible exact D_end); (exact rfl); (repeat (first | exact .inr (.inr (fun _ _ => by with_reducible rfl)) | (refine And.intro ?_ ?_) | exact .inr (.inl rfl) | exact .inl (by decide +kernel) | exact trivial | exact .inr (.inr (fun _ _ => rfl)))); (try dsimp only [Nat.reduceAdd]))
          intro r w9 E9 _
          refine L_strip rfl rfl rfl ?_
          refine L_fv rfl (rformat m hok x _ _ w9 (F8.ext E9)) ?_
          intro w10 E10
          (refine Lg2 rfl rfl rfl (X_eqlS rfl rfl rfl) ?_; refine Ls (X_pickT (v := .bool _) rfl rfl) ?_; refine Ls (X_move (v := .bool _) rfl) ?_; refine Lg2 rfl rfl rfl (X_move (v := .bool _) rfl) ?_; refine Ls (X_pickT (v := .bool _) rfl rfl) ?_; refine Ls (X_assign (v := .bool _) rfl) ?_; refine L_nil ?_; refine tn ?_; refine W_ret ?_)
          exact endQ_ret1 rfl rfl (v := .bool true) rfl ⟨rfl, ((E07.trans E8).trans E9).trans E10⟩
end Go.Proofs.YtipnliodpmjhcaaDoor
