/- IE, IF, IG, IH, II, IJ, IK, IL. -/
import Derived.Test.YtpohjepbmgeplaaGreatDoorQ5
/- Commitments: rows and codewords. -/
namespace Go.Proofs.YtpohjepbmgeplaaGreatDoor
open Go.RowKit Go.Proofs.K
open _root_.Fd (K E pw root trow enc)
open _root_.Cm (Sh)

theorem SOk.sh {R C B T log : Int} (h : SOk R C B T log) : ∃ s : Sh, s.Ok ∧ R = ((s.R : Nat) : Int) ∧ C = ((s.C : Nat) : Int) ∧ B = ((s.B : Nat) : Int) ∧ T = ((s.t : Nat) : Int) ∧ log = ((s.a + s.c : Nat) : Int) := by
  obtain ⟨a, ha, hRa⟩ := lgI_of h.r
  obtain ⟨c, hc, hCc⟩ := lgI_of h.c
  have hs := h.s
  rw [ha, hc] at hs
  have hl := h.l16
  obtain ⟨b, hb1, hb4, hBb⟩ : ∃ b : Nat, 1 ≤ b ∧ b ≤ 4 ∧ B = ((2 ^ b : Nat) : Int) := by
    rcases h.b with e | e | e | e
    · exact ⟨1, by omega, by omega, e⟩
    · exact ⟨2, by omega, by omega, e⟩
    · exact ⟨3, by omega, by omega, e⟩
    · exact ⟨4, by omega, by omega, e⟩
  have hn := h.n
  have hBC : B * C = ((2 ^ (c + b) : Nat) : Int) := by rw [hBb, hCc, Nat.add_comm, Nat.pow_add, Int.natCast_mul]
  have ht1 := h.t1
  have ht64 := h.t64
  have htn := h.tn
  rw [hBC] at hn htn
  have hcb : c + b ≤ 16 := by
    rcases Nat.lt_or_ge 16 (c + b) with h1 | h1
    · have : 2 ^ 17 ≤ 2 ^ (c + b) := Nat.pow_le_pow_right (by decide) h1
      generalize 2 ^ (c + b) = z at *
      omega
    · exact h1
  refine ⟨⟨a, c, b, T.toNat⟩, ⟨by show a + c ≤ 16; omega, hb1, hb4, hcb, by show 1 ≤ T.toNat; omega, by show T.toNat ≤ 64; omega, ?_⟩, hRa, hCc, hBb, by show T = ((T.toNat : Nat) : Int); omega, by show log = ((a + c : Nat) : Int); omega⟩
  show T.toNat ≤ 2 ^ (c + b)
  generalize 2 ^ (c + b) = z at *
  omega
theorem sh_ok {s : Sh} (h : s.Ok) : SOk (s.R : Nat) (s.C : Nat) (s.B : Nat) (s.t : Nat) ((s.a + s.c : Nat) : Int) := by
  have p1 : lgI ((s.R : Nat) : Int) = s.a := lgI_pow s.a
  have p2 : lgI ((s.C : Nat) : Int) = s.c := lgI_pow s.c
  have hac := h.ac
  have hBC : ((s.B : Nat) : Int) * ((s.C : Nat) : Int) = ((s.n : Nat) : Int) := by rw [← Int.natCast_mul, Cm.Sh.BC]
  have hn : s.n ≤ 65536 := (pow_le16 h.cb).2
  have ht : s.t ≤ s.n := h.tn
  refine ⟨by omega, by omega, by omega, by omega, by omega, ?_, by rw [hBC]; omega, by have := h.t1; omega, by have := h.t64; omega, by rw [hBC]; omega⟩
  have b1 := h.b1
  have b4 := h.b4
  unfold Cm.Sh.B
  have hb : s.b = 1 ∨ s.b = 2 ∨ s.b = 3 ∨ s.b = 4 := by omega
  rcases hb with e | e | e | e <;> rw [e] <;> simp
theorem IterS.imp {P : Program} {gf : FuncId} {lb : Array Value} {w : World} {S : Nat → Prop} {Pre Pre' : Nat → List Value → World → Prop} {Fin : Nat → Prop} (h : IterS P gf lb w S Pre Fin) (hp : ∀ i vs a, Pre i vs a → Pre' i vs a) : IterS P gf lb w S Pre' Fin :=
  fun l J Jx w1 E hJ hJx hY h0 => h l J Jx w1 E hJ hJx (fun i v a hj hq => hY i v a hj (hp i v a hq)) h0
theorem vals_at {t : List K} {i : Nat} {x : K} (h : t[i]? = some x) : (vals t)[i]? = some x.val := by unfold vals; rw [List.getElem?_map, h]; rfl
/-- a chunk of a table is a row of it -/
theorem chk_row {w : World} {lo hi b o n c R C r : Nat} {t : List K} (hr : Row w lo hi 1 (.slice (some ⟨b, o, none⟩) n c) n (ints .u64 (vals t))) (hl : t.length = n) (hn : n = R * C) (hrR : r < R) (hC : 1 ≤ C) : Row w lo hi 1 (chk b o C r) C (ints .u64 (vals (trow t C r))) := by
  have hz : r * C + C ≤ n := by rw [hn, ← Nat.succ_mul]; exact Nat.mul_le_mul_right _ hrR
  obtain ⟨b', o', c', e, hc, h1, h2, h3⟩ := hr.at (k := 0) (by omega)
  cases e
  have hcm : c ≤ maxLen := by
    obtain ⟨_, A, c', e, _, h, _⟩ := hr
    cases e; exact h
  refine ⟨by rw [ints_len, vals_len, Fd.trow_len, Nat.mul_one], _, C, rfl, Nat.le_refl _, by omega, fun _ => ⟨b, _, rfl, h1, h2, rangeAt_mid h3 fun j u hu => ?_⟩⟩
  have hj : j < C := by
    have := (List.getElem?_eq_some_iff.1 hu).1
    rw [ints_len, vals_len, Fd.trow_len] at this
    exact this
  have hin : j + C * r < t.length := by rw [hl, Nat.mul_comm]; omega
  have e1 : (trow t C r)[j]? = some t[j + C * r] := by
    unfold Fd.trow
    rw [List.getElem?_map, List.getElem?_range hj]
    show some (t.getD (j + C * r) 0) = _
    rw [List.getD_eq_getElem?_getD, List.getElem?_eq_getElem hin]; rfl
  rw [ints_at (vals_at e1)] at hu
  rw [← hu, Nat.mul_one, show r * C + j = j + C * r by rw [Nat.mul_comm]; omega]
  exact ints_at (vals_at (List.getElem?_eq_getElem hin))
/-- the condition of an element of the field -/
theorem cond_valid (l : List Nat) (w : World) : CondAt Tryz.prog 101 #[] (ints .u64 l) (fun i => decide (l.getD i 0 < Fd.pr)) w := by
  intro i x w' E hx
  have hi : i < l.length := by
    have := (List.getElem?_eq_some_iff.1 hx).1
    rwa [ints_len] at this
  have hg : l[i]? = some (l.getD i 0) := by rw [List.getD_eq_getElem?_getD, List.getElem?_eq_getElem hi]; rfl
  rw [ints_at hg] at hx
  cases hx
  exact gvalid (l.getD i 0) w'
theorem vals_lt (t : List K) : decide (∀ i, i < (ints .u64 (vals t)).length → decide ((vals t).getD i 0 < Fd.pr) = true) = true := by
  rw [decide_eq_true_eq]
  intro i hi
  rw [ints_len, vals_len] at hi
  rw [decide_eq_true_eq, List.getD_eq_getElem?_getD, vals_at (List.getElem?_eq_getElem hi)]
  exact (t[i]).isLt
/-- the rows of a table, chunk by chunk -/
def RowsAt (w0 w : World) (lo hi : Nat) (q : Value) (t : List K) (R C : Nat) : Prop :=
  ∃ xs : List Value, w.ownsRow w0.heap.size 22 1 q R xs ∧ ∀ r x, xs[r]? = some x → Row w lo hi 1 x C (ints .u64 (vals (trow t C r)))
set_option maxRecDepth 100000 in
set_option maxHeartbeats 2000000 in
theorem grows (lo hi : Nat) (v : Value) (t : List K) (ht : t.length ≤ 1000000) (R C B T : Int) (hR : I64 R) (hC : I64 C) (hB : I64 B) (hT : I64 T) (w : World) (hr : Row w lo hi 1 v t.length (ints .u64 (vals t))) :
    Calls Tryz.prog 50 #[v, .agg (shC R C B T).toArray] w fun e w' => Ext w w' ∧ ((SOk R C B T (lgI (t.length : Nat)) ∧ ∃ q, e = .returned (.tuple #[q, .bool true]) ∧ RowsAt w w' lo hi q t R.toNat C.toNat) ∨ (¬ SOk R C B T (lgI (t.length : Nat)) ∧ e = .returned (.tuple #[.slice none 0 0, .bool false]))) := by
  obtain ⟨A, c, rfl⟩ : ∃ A c, v = .slice A t.length c := by
    obtain ⟨_, A, c, rfl, _⟩ := hr
    exact ⟨A, c, rfl⟩
  have hlb := lgI_bd (n := ((t.length : Nat) : Int)) (by omega)
  refine calls_W Tryz.func50 rfl Tryz.ntmps50 rfl ?_
  (refine W_seq ?_; refine W_region ?_)
  refine L_box rfl ?_
  intro g3 w1 B3 hg3 E1 hs1
  (refine Ls (X_assign (v := .slice _ _ _) rfl) ?_; refine Ls (X_assign (v := .bool _) rfl) ?_; refine L_nil ?_; refine tn ?_; refine W_seq ?_; refine W_seq ?_)
  apply W_dagE 4 (by kernel_rfl)
  (apply DW_x (fun r w hA hH => (X_ldW (cs := shC R C B T) rfl (B3.ext hA) rfl).trans rfl); apply DW_x (fun r w hA hH => (X_move (v := .slice _ _ _) rfl).trans rfl); apply DW_x (fun r w hA hH => (X_lenSlice rfl).trans rfl))
  ((with_reducible apply DW_fn); (exact fun _ => rfl); (exact fun _ => rfl); (exact fun r w hA hH => gcpow ((t.length : Nat) : Int) (by omega) (by omega) w))
  ((with_reducible exact D_end); (exact rfl); (repeat (first | exact .inr (.inr (fun _ _ => by with_reducible rfl)) | (refine And.intro ?_ ?_) | exact .inr (.inl rfl) | exact .inl (by decide +kernel) | exact trivial | exact .inr (.inr (fun _ _ => rfl)))); (try dsimp only [Nat.reduceAdd]))
  intro r0 w2 E2 _
  have C3 := B3.ext E2
  refine L_fo (F := fun u w' => ∃ b : Bool, u = .bool b ∧ (b = true ↔ SOk R C B T (lgI (t.length : Nat))) ∧ Ext w2 w') rfl ((gcvalid R C B T (lgI (t.length : Nat)) hR hC hB hT ⟨by omega, by omega⟩ w2).mono fun e w' ⟨b, h1, h2, h3⟩ => ⟨_, h1, b, rfl, h2, h3⟩) ?_
  rintro _ w3 ⟨b, rfl, hb, E3⟩
  have C3 := C3.ext E3
  have E13 := E1.trans (E2.trans E3)
  cases b with
  | false =>
    (refine Ls (X_not rfl) ?_; refine Ls (X_move (v := .bool _) rfl) ?_; refine Lo2 rfl rfl rfl rfl ?_; refine Lo2 rfl rfl rfl rfl ?_; refine Lo2 rfl rfl rfl rfl ?_; refine Ls (X_pickT (v := .bool _) rfl rfl) ?_; refine L_nil ?_; refine tn ?_; refine W_condT rfl ?_; refine W_seq ?_; refine W_region ?_; refine Ls (X_assign (v := .slice _ _ _) rfl) ?_; refine Ls (X_assign (v := .bool _) rfl) ?_; refine L_nil ?_; refine tn ?_; refine W_ret ?_; refine tr ?_)
    exact endQ_ret2 rfl rfl (v := .slice none 0 0) (x := .bool _) rfl rfl ⟨E13, .inr ⟨fun h => (by have := hb.2 h; cases this), rfl⟩⟩
  | true =>
    have hok := hb.1 rfl
    obtain ⟨s, hs, rfl, rfl, rfl, rfl, hlog⟩ := hok.sh
    have hn : t.length = s.R * s.C := by
      have h0 : 0 ≤ lgI ((t.length : Nat) : Int) := by rw [hlog]; omega
      obtain ⟨a, h1, h2⟩ := lgI_of h0
      rw [h1] at hlog
      rw [Cm.Sh.RC, show s.a + s.c = a by omega]
      exact Int.ofNat.inj h2
    have hC1 : 1 ≤ s.C := Nat.pow_pos (by decide)
    have hR1 : 1 ≤ s.R := Nat.pow_pos (by decide)
    have hR16 : s.R ≤ 65536 := (pow_le16 (a := s.a) (by have := hs.ac; omega)).2
    have ht1 : 1 ≤ t.length := by rw [hn]; exact Nat.mul_pos hR1 hC1
    obtain ⟨b0, o0, c0, e, hmc, h1, h2, h3⟩ := hr.at (k := 0) (by omega)
    cases e
    (refine Ls (X_not rfl) ?_; refine Ls (X_move (v := .bool _) rfl) ?_; refine Lg2 rfl rfl rfl (X_move (v := .slice _ _ _) rfl) ?_)
    refine L_strip rfl rfl rfl ?_
    refine L_fv rfl (gval_u lo hi _ (ints .u64 (vals t)) (by rw [ints_len, vals_len]; omega) w3 ((hr.ext E13).re (by rw [ints_len, vals_len]) rfl) ints_cell (fun i => decide ((vals t).getD i 0 < Fd.pr)) 101 #[] (cond_valid (vals t) w3)) ?_
    intro w4 E4
    rw [vals_lt]
    have C3 := C3.ext E4
    (refine Lg2 rfl rfl rfl (X_not rfl) ?_; refine Ls (X_pickF (v := .bool _) rfl rfl) ?_; refine L_nil ?_; refine tn ?_; refine W_condF rfl ?_; refine W_skip ?_; refine tn ?_; refine W_seq ?_; refine W_region ?_; refine Ls (X_move (v := .slice _ _ _) rfl) ?_; refine Ls (X_fld rfl) ?_; refine Ls (X_ld (cs := shC (s.R : Nat) (s.C : Nat) (s.B : Nat) (s.t : Nat)) rfl C3 rfl) ?_)
    refine L_fo rfl (gchunkMk (.slice (some ⟨b0, o0, none⟩) t.length c) rfl s.C hC1 w4) ?_
    rintro q w5 ⟨g1, g2, rfl, E5, D1, D2⟩
    obtain ⟨xs, hxs⟩ : ∃ xs, xs = (List.range s.R).map (chk b0 o0 s.C) := ⟨_, rfl⟩
    have hxl : xs.length = s.R := by rw [hxs]; simp
    have hxg : ∀ r x, xs[r]? = some x → r < s.R ∧ x = chk b0 o0 s.C r := fun r x h => by
      have hr := (List.getElem?_eq_some_iff.1 h).1
      rw [hxl] at hr
      rw [hxs, List.getElem?_map, List.getElem?_range hr] at h
      exact ⟨hr, (Option.some.inj h).symm⟩
    have hE5 := E13.trans (E4.trans E5)
    refine L_fo rfl (gcollect 148 #[.pointer (some ⟨g1, 0, none⟩), .pointer (some ⟨g2, 0, none⟩)] (enters_of Tryz.func148 (by kernel_rfl) rfl) xs (fun x hx => by
      obtain ⟨r, hr⟩ := List.mem_iff_getElem?.1 hx
      rw [(hxg r x hr).2]; rfl) (by omega) w5 (fun y E => by
      have hh := gchunk (fun k => w5.heap.size ≤ k) g1 g2 b0 o0 t.length c s.R s.C hC1 hn hmc (by omega) y (D1.ext E) (D2.ext E) (by have := D1.lt; show ¬ (w5.heap.size ≤ g1); omega) (by have := D2.lt; show ¬ (w5.heap.size ≤ g2); omega)
      rw [hxl]
      refine IterS.imp hh fun i vs a hp => ⟨chk b0 o0 s.C i, ?_, hp.2⟩
      rw [hxs, List.getElem?_map, List.getElem?_range hp.1]; rfl)) ?_
    rintro q6 w6 ⟨E6, o6⟩
    have hq6 := row_cell1 (Row.of_own o6)
    (refine Ls (X_assign (v := q6) rfl) ?_; refine Ls (X_assign (v := .bool _) rfl) ?_; refine L_nil ?_; refine tn ?_; refine W_ret ?_)
    refine endQ_ret2 rfl rfl (v := q6) (x := .bool _) rfl rfl ⟨hE5.trans E6, .inl ⟨hok, q6, rfl, xs, ?_, fun r x h => ?_⟩⟩
    · rw [Int.toNat_natCast, ← hxl]
      exact own_base o6 hE5.size
    · obtain ⟨h4, rfl⟩ := hxg r x h
      rw [Int.toNat_natCast]
      exact chk_row (hr.ext (hE5.trans E6)) rfl hn h4 hC1
/-- the codewords of a table, as numbers -/
def cws (t : List K) (s : Sh) : List (List Nat) := (List.range s.R).map fun r => vals (enc (trow t s.C r) (s.c + s.b))
theorem cws_len (t : List K) (s : Sh) : (cws t s).length = s.R := by unfold cws; simp
set_option maxRecDepth 100000 in
set_option maxHeartbeats 4000000 in
theorem gcodewords (lo hi : Nat) (v : Value) (t : List K) (ht : t.length ≤ 1000000) (R C B T : Int) (hR : I64 R) (hC : I64 C) (hB : I64 B) (hT : I64 T) (w : World) (hw : Tb w) (hr : Row w lo hi 1 v t.length (ints .u64 (vals t))) :
    Calls Tryz.prog 12 #[v, .agg (shC R C B T).toArray] w fun e w' => Ext w w' ∧ ((∃ s : Sh, s.Ok ∧ R = ((s.R : Nat) : Int) ∧ C = ((s.C : Nat) : Int) ∧ B = ((s.B : Nat) : Int) ∧ T = ((s.t : Nat) : Int) ∧ lgI (t.length : Nat) = ((s.a + s.c : Nat) : Int) ∧ t.length = s.R * s.C ∧ ∃ q, e = .returned (.tuple #[q, .int .i64 0]) ∧ PartN (fun k => w.heap.size ≤ k ∧ k < w'.heap.size) w' .u64 q (cws t s)) ∨ (¬ SOk R C B T (lgI (t.length : Nat)) ∧ e = .returned (.tuple #[.slice none 0 0, .int .i64 1]))) := by
  have hv1 := row_cell1 hr
  have hr := hr.tightN (by decide)
  refine calls_W Tryz.func12 rfl Tryz.ntmps12 rfl ?_
  (refine W_seq ?_; refine W_region ?_)
  refine L_box rfl ?_
  intro g3 w1 B3 hg3 E1 hs1
  (refine Ls (X_assign (v := .slice _ _ _) rfl) ?_; refine Ls (X_assign (v := .int _ _) rfl) ?_; refine L_nil ?_; refine tn ?_; refine W_seq ?_; refine W_region ?_; refine Ls (X_move (v := v) rfl) ?_; refine Ls (X_ldW (cs := shC R C B T) rfl B3 rfl) ?_)
  refine L_fo (F := fun u w' => Ext w1 w' ∧ ((SOk R C B T (lgI (t.length : Nat)) ∧ ∃ q, u = .tuple #[q, .bool true] ∧ RowsAt w1 w' lo w.heap.size q t R.toNat C.toNat) ∨ (¬ SOk R C B T (lgI (t.length : Nat)) ∧ u = .tuple #[.slice none 0 0, .bool false]))) rfl ((grows lo w.heap.size v t ht R C B T hR hC hB hT w1 (hr.ext E1)).mono fun e w' ⟨h1, h2⟩ => by
    rcases h2 with ⟨h2, q, h3, h4⟩ | ⟨h2, h3⟩
    · exact ⟨_, h3, h1, .inl ⟨h2, q, rfl, h4⟩⟩
    · exact ⟨_, h3, h1, .inr ⟨h2, rfl⟩⟩) ?_
  rintro _ w2 ⟨E2, ⟨hok, q, rfl, xs, o2, hx2⟩ | ⟨hno, rfl⟩⟩
  · obtain ⟨s, hs, rfl, rfl, rfl, rfl, hlog⟩ := hok.sh
    have hn : t.length = s.R * s.C := by
      have h0 : 0 ≤ lgI ((t.length : Nat) : Int) := by rw [hlog]; omega
      obtain ⟨a, h1, h2⟩ := lgI_of h0
      rw [h1] at hlog
      rw [Cm.Sh.RC, show s.a + s.c = a by omega]
      exact Int.ofNat.inj h2
    rw [Int.toNat_natCast] at o2 hx2
    have hR1 : 1 ≤ s.R := Nat.pow_pos (by decide)
    have hR16 : s.R ≤ 65536 := (pow_le16 (a := s.a) (by have := hs.ac; omega)).2
    have hxl : xs.length = s.R := by rw [o2.1, Nat.mul_one]
    obtain ⟨gq, cq, rfl, hgq1, hgq2, hgq3, hgq4⟩ := own_form o2 hR1
    have E12 := E1.trans E2
    have C3 := B3.ext E2
    have hz1 := E1.size
    have hl3 := B3.lt
    have hgB : w1.heap.size ≤ gq := hgq1
    (refine Ls (X_move (v := .tuple _) rfl) ?_; refine Ls (X_extract rfl rfl) ?_; refine Ls (X_extract rfl rfl) ?_; refine Ls (X_assign (v := .slice _ _ _) rfl) ?_; refine Ls (X_assign (v := .bool _) rfl) ?_; refine L_nil ?_; refine tn ?_; refine W_seq ?_; refine W_seq ?_; refine W_region ?_; refine Ls (X_move (v := .bool _) rfl) ?_; refine Ls (X_not rfl) ?_; refine L_nil ?_; refine tn ?_)
    refine W_condF rfl ?_
    (refine W_skip ?_; refine tn ?_; refine W_seq ?_; refine W_seq ?_; refine W_region ?_; refine Ls (X_move (v := .slice _ _ _) rfl) ?_; refine Ls (X_lenSlice rfl) ?_; refine Ls (X_move (v := .int _ _) rfl) ?_; refine L_nil ?_; refine tn ?_; refine W_block ?_)
    refine W_loop (fun q f w' => ∃ i zs, q = s.R - i ∧ i ≤ s.R ∧ f 3 = .pointer (some ⟨g3, 0, none⟩) ∧ f 6 = .slice (some ⟨gq, 0, none⟩) s.R cq ∧ f 18 = .slice (some ⟨gq, 0, none⟩) s.R cq ∧ f 19 = .int .i64 (s.R : Nat) ∧ f 20 = .int .i64 (i : Nat) ∧ Blk w' g3 28 (shC (s.R : Nat) (s.C : Nat) (s.B : Nat) (s.t : Nat)) ∧
      w'.ownsRow w1.heap.size 22 1 (.slice (some ⟨gq, 0, none⟩) s.R cq) s.R zs ∧ (∀ r x, i ≤ r → zs[r]? = some x → xs[r]? = some x) ∧ (∀ r x, r < i → zs[r]? = some x → w'.ownsRow w.heap.size 29 1 x (s.B * s.C) (ints .u64 (vals (enc (trow t s.C r) (s.c + s.b))))) ∧ Ext w w' ∧ w2.heap.size ≤ w'.heap.size ∧ w2.grownBy w' (some gq)) s.R ?_ ?_
    · exact ⟨0, xs, rfl, by omega, rfl, rfl, rfl, rfl, rfl, C3, o2, fun _ _ _ h => h, fun _ _ h => by omega, E12, Nat.le_refl _, (Ext.refl w2).row _⟩
    · rintro q f wr ⟨i, zs, hq, hi', f3, f6, f18, f19, f20, D3, oz, hz1', hz2', hE, hsz, hG⟩
      rw [fold f3, fold f6, fold f18, fold f19, fold f20]
      (refine W_seq ?_; refine W_region ?_; refine Ls (X_lss rfl rfl) ?_; refine L_nil ?_; refine tn ?_; refine W_seq ?_)
      refine W_condp rfl (fun h => ?_) (fun h => ?_)
      · have hlt : i < s.R := by omega
        have hzl : zs.length = s.R := by rw [oz.1, Nat.mul_one]
        obtain ⟨x, hx⟩ : ∃ x, zs[i]? = some x := ⟨_, List.getElem?_eq_getElem (by omega)⟩
        have hxx := hz1' i x (Nat.le_refl _) hx
        have hrx := hx2 i x hxx
        have hx1 := row_cell1 hrx
        have hRz := own_range oz
        have hrw : Row wr lo w.heap.size 1 x s.C (ints .u64 (vals (trow t s.C i))) := hrx.grown hG (fun g h => by cases h; right; omega)
        have hEs := hE.size
        have hl3' := D3.lt
        (refine W_skip ?_; refine tn ?_; refine W_seq ?_; refine W_block ?_; refine W_seq ?_; refine W_region ?_; refine Ls (X_move (v := .int _ _) rfl) ?_; refine Ls (X_indexSn rfl rfl (by omega)) ?_; refine Ls (X_ldR rfl hRz (j := i) (by omega) hx) ?_; refine Ls (X_assign (v := .int _ _) rfl) ?_; refine Ls (X_assign (v := x) rfl) ?_; refine L_nil ?_; refine tn ?_; refine W_region ?_; refine Ls (X_move (v := .slice _ _ _) rfl) ?_; refine Ls (X_move (v := .int _ _) rfl) ?_; refine Ls (X_move (v := x) rfl) ?_; refine Ls (X_fld rfl) ?_; refine Ls (X_ld (cs := shC (s.R : Nat) (s.C : Nat) (s.B : Nat) (s.t : Nat)) rfl D3 rfl) ?_)
        refine L_fo (F := fun u w' => ∃ y, u = .tuple #[y, .int .i64 0] ∧ Ext wr w' ∧ w'.ownsRow wr.heap.size 29 1 y (s.B * s.C) (ints .u64 (vals (enc (trow t s.C i) (s.c + s.b))))) rfl ((gencode (a := s.c) (b := s.b) (c := s.C) (m := s.B) hs.b1 hs.b4 hs.cb rfl rfl lo w.heap.size x (trow t s.C i) (Fd.trow_len _ _ _) wr (hw.ext hE) hrw).mono fun e w' ⟨y, h1, h2, h3⟩ => ⟨_, h1, y, rfl, h2, h3⟩) ?_
        rintro _ w4 ⟨y, rfl, E4, o4⟩
        have hy1 := row_cell1 (Row.of_own o4)
        (refine Ls (X_move (v := .tuple _) rfl) ?_; refine Ls (X_extract rfl rfl) ?_; refine Ls (X_extract rfl rfl) ?_; refine Ls (X_indexSn rfl rfl (by omega)) ?_)
        refine L_storeRow1 (i := i) (v := y) (own_ext oz E4) rfl rfl (by omega) hy1 hlt ?_
        intro w5 o5 hg5 hs5
        (refine L_nil ?_; refine bn ?_; refine tn ?_; refine W_region ?_; refine Ls (X_addi rfl rfl (by omega)) ?_; refine Ls (X_move (v := .int _ _) rfl) ?_; refine L_nil ?_; refine tn ?_)
        have hx5 : ∀ (z : Value) (m : Nat) (l : List Value), w4.ownsRow w.heap.size 29 1 z m l → w5.ownsRow w.heap.size 29 1 z m l := fun z m l h => own_other h hg5 (fun g hg e => by
          obtain rfl : gq = g := Option.some.inj e
          obtain ⟨_, cs, fz, e1⟩ := own_obj h gq hg
          obtain ⟨_, cs', fz', e2⟩ := own_obj (own_ext oz E4) gq rfl
          rw [e1] at e2
          cases e2)
        refine ⟨s.R - (i + 1), by omega, i + 1, zs.set i y, rfl, by omega, rfl, rfl, rfl, rfl, rfl, (D3.ext E4).grown hg5 (by simp; omega), o5, fun r z hr' hz => ?_, fun r z hr' hz => ?_, (hE.trans E4).then hg5 (fun g h => by cases h; omega), by have := E4.size; omega, grown_trans' (grown_trans' hG E4 (fun _ h => by cases h)) hg5 (fun g h => .inl h)⟩
        · rw [List.getElem?_set_ne (by omega)] at hz
          exact hz1' r z (by omega) hz
        · by_cases hri : r = i
          · subst hri
            rw [List.getElem?_set_self (by omega)] at hz
            cases hz
            exact hx5 _ _ _ (own_base o4 hEs)
          · rw [List.getElem?_set_ne (by omega)] at hz
            exact hx5 _ _ _ (own_ext (hz2' r z (by omega) hz) E4)
      · have hiR : i = s.R := by omega
        subst hiR
        have hzl : zs.length = s.R := by rw [oz.1, Nat.mul_one]
        (refine W_exit ?_; refine te ?_; refine te ?_; refine bx ?_; refine tn ?_; refine W_seq ?_; refine W_region ?_; refine Ls (X_move (v := .slice _ _ _) rfl) ?_; refine Ls (X_assign (v := .slice _ _ _) rfl) ?_; refine Ls (X_assign (v := .int _ _) rfl) ?_; refine L_nil ?_; refine tn ?_; refine W_ret ?_)
        refine endQ_ret2 rfl rfl (v := .slice _ _ _) (x := .int _ _) rfl rfl ⟨hE, .inl ⟨s, hs, rfl, rfl, rfl, rfl, hlog, hn, _, rfl, zs, by rw [cws_len]; exact hzl, ?_, fun r x y hx hy => ?_⟩⟩
        · rw [cws_len]
          refine (RowN.of_own oz).mono fun k hk => ⟨by omega, hk.2⟩
        · have hrl : r < s.R := by
            have := (List.getElem?_eq_some_iff.1 hx).1
            omega
          have hy' : y = vals (enc (trow t s.C r) (s.c + s.b)) := by
            unfold cws at hy
            rw [List.getElem?_map, List.getElem?_range hrl] at hy
            exact (Option.some.inj hy).symm
          rw [hy']
          have hh := RowN.of_own (hz2' r x hrl hx)
          exact hh.re (by rw [vals_len, Fd.enc_len, Cm.Sh.BC]; rfl) rfl
  · (refine Ls (X_move (v := .tuple _) rfl) ?_; refine Ls (X_extract rfl rfl) ?_; refine Ls (X_extract rfl rfl) ?_; refine Ls (X_assign (v := .slice _ _ _) rfl) ?_; refine Ls (X_assign (v := .bool _) rfl) ?_; refine L_nil ?_; refine tn ?_; refine W_seq ?_; refine W_seq ?_; refine W_region ?_; refine Ls (X_move (v := .bool _) rfl) ?_; refine Ls (X_not rfl) ?_; refine L_nil ?_; refine tn ?_)
    refine W_condT rfl ?_
    (refine W_seq ?_; refine W_region ?_; refine Ls (X_assign (v := .slice _ _ _) rfl) ?_; refine Ls (X_assign (v := .int _ _) rfl) ?_; refine L_nil ?_; refine tn ?_; refine W_ret ?_; refine tr ?_)
    exact endQ_ret2 rfl rfl (v := .slice none 0 0) (x := .int _ _) rfl rfl ⟨E1.trans E2, .inr ⟨hno, rfl⟩⟩
end Go.Proofs.YtpohjepbmgeplaaGreatDoor

/- Commitments: columns, their bytes, the root. -/
namespace Go.Proofs.YtpohjepbmgeplaaGreatDoor
open Go.RowKit Go.Proofs.K
open _root_.Fd (K E pw root trow enc ccol)
open _root_.Cm (Sh)

/-- a column of a matrix -/
def colM (M : List (List Nat)) (j : Nat) : List Nat := M.map fun r => r.getD j 0
theorem colM_len (M : List (List Nat)) (j : Nat) : (colM M j).length = M.length := by unfold colM; simp
theorem colM_get {M : List (List Nat)} {r j : Nat} {d : List Nat} (h : M[r]? = some d) : (colM M j)[r]? = some (d.getD j 0) := by unfold colM; rw [List.getElem?_map, h]; rfl
def PreCol (w0 : World) (M : List (List Nat)) (L : Nat) (i : Nat) (vs : List Value) (a : World) : Prop := i < L ∧ ∃ q, vs = [.int .i64 (i : Nat), q] ∧ a.ownsRow w0.heap.size 29 1 q M.length (ints .u64 (colM M i))
set_option maxRecDepth 100000 in
set_option maxHeartbeats 4000000 in
theorem gcols (S N : Nat → Prop) (g : Nat) (v : Value) (M : List (List Nat)) (L : Nat) (hL : ∀ r ∈ M, r.length = L) (hM1 : 1 ≤ M.length) (hM : M.length ≤ 65536) (hL6 : L ≤ 1000000) (w : World) (hB : Blk w g 38 [v]) (hP : PartN N w .u64 v M) (h1 : ¬ S g) (h2 : ∀ k, N k → ¬ S k) :
    IterS Tryz.prog 118 #[.pointer (some ⟨g, 0, none⟩)] w S (PreCol w M L) (fun i => i = L) := by
  intro lp J Jx w1 E1 hJ hJx hY h0
  obtain ⟨A, c, rfl, hmc, hcm⟩ := hP.form
  refine calls_W Tryz.func118 rfl Tryz.ntmps118 rfl ?_
  obtain ⟨d0, hd0⟩ : ∃ d, M[0]? = some d := ⟨_, List.getElem?_eq_getElem (by omega)⟩
  have hd0l := hL d0 (List.mem_of_getElem? hd0)
  obtain ⟨b0, o0, x0, rfl, _, _, _, _, hx0, hx01, hr0⟩ := partN_at (hP.ext E1) hd0
  obtain ⟨A0, c0, rfl, _⟩ := hr0.form
  (refine W_seq ?_; refine W_region ?_; refine Ls (X_ld rfl (hB.ext E1) rfl) ?_; refine Ls (X_indexSn (i := 0) rfl rfl (by omega)) ?_; refine Ls (X_load1 rfl hx0) ?_; refine Ls (X_lenSlice rfl) ?_; refine Ls (X_move (v := .int _ _) rfl) ?_; refine L_nil ?_; refine tn ?_; refine W_block ?_)
  rw [hd0l]
  refine W_loop (fun q f w' => ∃ j, q = L - j ∧ j ≤ L ∧ f 0 = yieldV lp ∧ f 1 = .pointer (some ⟨g, 0, none⟩) ∧ f 10 = .int .i64 (L : Nat) ∧ f 11 = .int .i64 (j : Nat) ∧ J j w' ∧ Blk w' g 38 [.slice (some ⟨b0, o0, none⟩) M.length c] ∧ PartN N w' .u64 (.slice (some ⟨b0, o0, none⟩) M.length c) M ∧ w.heap.size ≤ w'.heap.size) L ?_ ?_
  · exact ⟨0, rfl, by omega, rfl, rfl, rfl, rfl, h0, hB.ext E1, hP.ext E1, E1.size⟩
  · rintro q f wr ⟨j, hq, hj, f0, f1, f10, f11, hJj, C1, P1, hsz⟩
    rw [fold f0, fold f1, fold f10, fold f11]
    (refine W_seq ?_; refine W_region ?_; refine Ls (X_lss rfl rfl) ?_; refine L_nil ?_; refine tn ?_; refine W_seq ?_)
    refine W_condp rfl (fun h => ?_) (fun h => ?_)
    · have hlt : j < L := by omega
      (refine W_skip ?_; refine tn ?_; refine W_seq ?_; refine W_block ?_; refine W_seq ?_; refine W_region ?_; refine Ls (X_move (v := .int _ _) rfl) ?_; refine Ls (X_assign (v := .int _ _) rfl) ?_; refine L_nil ?_; refine tn ?_; refine W_seq ?_; refine W_region ?_; refine Ls (X_ld rfl C1 rfl) ?_; refine Ls (X_lenSlice rfl) ?_)
      refine L_make (z := [.int .u64 0]) M.length M.length rfl rfl rfl rfl (Nat.le_refl _) (by omega) (by omega) ?_
      intro gc w3 B3 hgc E3 hs3
      have C3 := C1.ext E3
      have P3 := P1.ext E3
      have hrep : (List.replicate M.length [Value.int .u64 0]).flatten = ints .u64 (List.replicate M.length 0) := ints_rep .u64 M.length 0
      rw [hrep] at B3
      have o3 : w3.ownsRow w.heap.size 29 1 (.slice (some ⟨gc, 0, none⟩) M.length M.length) M.length (ints .u64 ((colM M j).take 0 ++ List.replicate (M.length - 0) 0)) := own_of_blk B3 (by omega) (Nat.le_refl _) (by unfold maxLen; omega) (by rw [ints_len]; simp) (by rw [List.take_of_length_le (by rw [ints_len]; simp)]; rfl)
      have hJ3 := hJ _ _ _ hJj E3
      (refine Ls (X_assign (v := .slice _ _ _) rfl) ?_; refine L_nil ?_; refine tn ?_; refine W_seq ?_; refine W_seq ?_; refine W_region ?_; refine Ls (X_ld rfl C3 rfl) ?_; refine Ls (X_lenSlice rfl) ?_; refine Ls (X_move (v := .int _ _) rfl) ?_; refine L_nil ?_; refine tn ?_; refine W_block ?_)
      refine W_loop (fun q f w' => ∃ r, q = M.length - r ∧ r ≤ M.length ∧ f 0 = yieldV lp ∧ f 1 = .pointer (some ⟨g, 0, none⟩) ∧ f 3 = .int .i64 (j : Nat) ∧ f 4 = .slice (some ⟨gc, 0, none⟩) M.length M.length ∧ f 10 = .int .i64 (L : Nat) ∧ f 11 = .int .i64 (j : Nat) ∧ f 17 = .slice (some ⟨b0, o0, none⟩) M.length c ∧ f 18 = .int .i64 (M.length : Nat) ∧ f 19 = .int .i64 (r : Nat) ∧ Ext wr w' ∧ w'.ownsRow w.heap.size 29 1 (.slice (some ⟨gc, 0, none⟩) M.length M.length) M.length (ints .u64 ((colM M j).take r ++ List.replicate (M.length - r) 0))) M.length ?_ ?_
      · exact ⟨0, rfl, by omega, rfl, rfl, rfl, rfl, rfl, rfl, rfl, rfl, rfl, E3, o3⟩
      · rintro q f wi ⟨r, hq, hr, f0, f1, f3, f4, f10, f11, f17, f18, f19, hE, oc⟩
        rw [fold f0, fold f1, fold f3, fold f4, fold f10, fold f11, fold f17, fold f18, fold f19]
        (refine W_seq ?_; refine W_region ?_; refine Ls (X_lss rfl rfl) ?_; refine L_nil ?_; refine tn ?_; refine W_seq ?_)
        refine W_condp rfl (fun h => ?_) (fun h => ?_)
        · have hrl : r < M.length := by omega
          obtain ⟨d, hd⟩ : ∃ d, M[r]? = some d := ⟨_, List.getElem?_eq_getElem hrl⟩
          have hdl := hL d (List.mem_of_getElem? hd)
          obtain ⟨b1, o1, x, e1, _, _, _, _, hx, hx1, hrx⟩ := partN_at (P1.ext hE) hd
          cases e1
          obtain ⟨bx, ox, cx, rfl, hcx, _, _, hRx⟩ := hrx.at (k := j) (by omega)
          have hdj : d[j]? = some (d.getD j 0) := by rw [List.getD_eq_getElem?_getD, List.getElem?_eq_getElem (by omega)]; rfl
          (refine W_skip ?_; refine tn ?_; refine W_seq ?_; refine W_block ?_; refine W_seq ?_; refine W_region ?_; refine Ls (X_move (v := .int _ _) rfl) ?_; refine Ls (X_indexSn rfl rfl (by omega)) ?_; refine Ls (X_load1 rfl hx) ?_; refine Ls (X_assign (v := .int _ _) rfl) ?_; refine Ls (X_assign (v := .slice _ _ _) rfl) ?_; refine L_nil ?_; refine tn ?_; refine W_region ?_; refine Ls (X_move (v := .slice _ _ _) rfl) ?_; refine Ls (X_move (v := .int _ _) rfl) ?_; refine Ls (X_move (v := .slice _ _ _) rfl) ?_; refine Ls (X_move (v := .int _ _) rfl) ?_; refine Ls (X_indexSn rfl rfl (by omega)) ?_; refine Ls (X_ldR rfl hRx (j := j) (by omega) (ints_at hdj)) ?_; refine Ls (X_indexSn rfl rfl (by omega)) ?_)
          refine L_storeRow1 (i := r) (v := .int .u64 ((d.getD j 0 : Nat) : Int)) oc rfl rfl (by omega) rfl hrl ?_
          intro w5 o5 hg5 hs5
          (refine L_nil ?_; refine bn ?_; refine tn ?_; refine W_region ?_; refine Ls (X_addi rfl rfl (by omega)) ?_; refine Ls (X_move (v := .int _ _) rfl) ?_; refine L_nil ?_; refine tn ?_)
          refine ⟨M.length - (r + 1), by omega, r + 1, rfl, by omega, rfl, rfl, rfl, rfl, rfl, rfl, rfl, rfl, rfl, hE.then hg5 (fun g h => by cases h; omega), ?_⟩
          rw [ints_set, show M.length - r = M.length - (r + 1) + 1 by omega, tab_set _ _ _ _ (by rw [List.length_take, colM_len]; omega)] at o5
          rw [List.take_add_one, colM_get hd]
          exact o5
        · have hrM : r = M.length := by omega
          rw [hrM, Nat.sub_self, List.replicate_zero, List.append_nil, List.take_of_length_le (by rw [colM_len]; exact Nat.le_refl _)] at oc
          have CC := C1.ext hE
          have PP := P1.ext hE
          have hEs := hE.size
          (refine W_exit ?_; refine te ?_; refine te ?_; refine bx ?_; refine tn ?_; refine W_seq ?_; refine W_region ?_; refine Ls (X_move (v := .func _ _ _) rfl) ?_; refine Ls (X_move (v := .int _ _) rfl) ?_; refine Ls (X_move (v := .slice _ _ _) rfl) ?_)
          refine L_yield rfl rfl rfl (hY j [.int .i64 (j : Nat), .slice (some ⟨gc, 0, none⟩) M.length M.length] wi (hJ _ _ _ hJj hE) ⟨hlt, _, rfl, oc⟩) ?_
          rintro e w6 (⟨rfl, hj2, hk2⟩ | ⟨rfl, hjx⟩)
          · refine ⟨.bool true, rfl, ?_⟩
            (refine Ls (X_not rfl) ?_; refine L_nil ?_; refine tn ?_; refine W_condF rfl ?_; refine W_skip ?_; refine bn ?_; refine tn ?_; refine W_region ?_; refine Ls (X_addi rfl rfl (by omega)) ?_; refine Ls (X_move (v := .int _ _) rfl) ?_; refine L_nil ?_; refine tn ?_)
            exact ⟨L - (j + 1), by omega, j + 1, rfl, by omega, rfl, rfl, rfl, rfl, hj2, hk2.blk CC h1, PP.keepS hk2 h2, by have := hk2.size; omega⟩
          · refine ⟨.bool false, rfl, ?_⟩
            (refine Ls (X_not rfl) ?_; refine L_nil ?_; refine tn ?_; refine W_condT rfl ?_; refine W_ret ?_; refine br ?_; refine tr ?_; refine tr ?_; refine br ?_)
            refine endQ_ret0 rfl rfl ?_
            exact ⟨⟨_, rfl⟩, .inr hjx⟩
    · have hjL : j = L := by omega
      (refine W_exit ?_; refine te ?_; refine te ?_; refine bx ?_)
      refine endQ_end0 rfl rfl ?_
      exact ⟨⟨_, rfl⟩, .inl ⟨_, hjL, hJj⟩⟩
theorem gcolsMk (v : Value) (hv : v.oneCell' = true) (w : World) :
    Calls Tryz.prog 61 #[v] w fun e w' => ∃ q, e = .returned q ∧ ∃ b, q = .func (.func 118) #[] #[.pointer (some ⟨b, 0, none⟩)] ∧ Ext w w' ∧ Blk w' b 38 [v] ∧ w.heap.size = b := by
  refine calls_W Tryz.func61 rfl Tryz.ntmps61 rfl ?_
  (refine W_seq ?_; refine W_region ?_)
  refine L_box1 rfl hv ?_
  intro g1 w1 B1 hg1 E1 hs1
  (refine Ls (X_assign (v := Value.nilFunc) rfl) ?_; refine L_nil ?_; refine tn ?_; refine W_seq ?_; refine W_region ?_)
  refine Ls (X_mkFunc (vf := []) (vc := [.pointer (some ⟨g1, 0, none⟩)]) rfl rfl) ?_
  (refine Ls (X_assign (v := .func _ _ _) rfl) ?_; refine L_nil ?_; refine tn ?_; refine W_ret ?_)
  refine endQ_ret1 rfl rfl (v := .func _ _ _) rfl ⟨_, rfl, g1, rfl, E1, B1, hg1⟩
/-- the bytes of a column -/
def encB (l : List Nat) : List Nat := (l.map fun x => word x 8).flatten
theorem encB_app (a b : List Nat) : encB (a ++ b) = encB a ++ encB b := by unfold encB; rw [List.map_append, List.flatten_append]
theorem encB_one (x : Nat) : encB [x] = word x 8 := by unfold encB; simp
theorem encB_len (l : List Nat) : (encB l).length = l.length * 8 := by
  unfold encB
  induction l with
  | nil => rfl
  | cons x l ih => rw [List.map_cons, List.flatten_cons, List.length_append, ih, word_len, List.length_cons]; omega
theorem encB_ok (l : List Nat) : Sha.bytesOk (encB l) := by
  intro y hy
  obtain ⟨c, hc, hyc⟩ := List.mem_flatten.1 hy
  obtain ⟨x, _, rfl⟩ := List.mem_map.1 hc
  obtain ⟨k, _, rfl⟩ := List.mem_map.1 hyc
  unfold byteAt
  exact Nat.mod_lt _ (by decide)
set_option maxRecDepth 100000 in
set_option maxHeartbeats 2000000 in
theorem gencodeB (lo hi : Nat) (v : Value) (l : List Nat) (hl : l.length ≤ 1000000) (w : World) (hr : Row w lo hi 1 v l.length (ints .u64 l)) :
    Calls Tryz.prog 79 #[v] w fun e w' => ∃ q, e = .returned q ∧ Ext w w' ∧ w'.ownsRow w.heap.size 5 1 q (encB l).length (ints .u8 (encB l)) := by
  obtain ⟨A, c, rfl⟩ : ∃ A c, v = .slice A l.length c := by
    obtain ⟨_, A, c, rfl, _⟩ := hr
    exact ⟨A, c, rfl⟩
  refine calls_W Tryz.func79 rfl Tryz.ntmps79 rfl ?_
  (refine W_seq ?_; refine W_region ?_; refine Ls (X_assign (v := .slice _ _ _) rfl) ?_; refine L_nil ?_; refine tn ?_; refine W_seq ?_; refine W_region ?_; refine Ls (X_assign (v := .slice _ _ _) rfl) ?_; refine L_nil ?_; refine tn ?_; refine W_seq ?_; refine W_seq ?_; refine W_region ?_; refine Ls (X_move (v := .slice _ _ _) rfl) ?_; refine Ls (X_lenSlice rfl) ?_; refine Ls (X_move (v := .int _ _) rfl) ?_; refine L_nil ?_; refine tn ?_; refine W_block ?_)
  refine W_loop (fun q f w' => ∃ i u, q = l.length - i ∧ i ≤ l.length ∧ f 3 = u ∧ f 7 = .slice A l.length c ∧ f 8 = .int .i64 (l.length : Nat) ∧ f 9 = .int .i64 (i : Nat) ∧ Ext w w' ∧ w'.ownsRow w.heap.size 5 1 u (i * 8) (ints .u8 (encB (l.take i)))) l.length ?_ ?_
  · exact ⟨0, .slice none 0 0, rfl, by omega, rfl, rfl, rfl, rfl, Ext.refl _, ⟨rfl, .inl ⟨rfl, rfl⟩⟩⟩
  · rintro q f wr ⟨i, u, hq, hi', f3, f7, f8, f9, hE, ho⟩
    rw [fold f3, fold f7, fold f8, fold f9]
    have hu1 := row_cell1 (Row.of_own ho)
    (refine W_seq ?_; refine W_region ?_; refine Ls (X_lss rfl rfl) ?_; refine L_nil ?_; refine tn ?_; refine W_seq ?_)
    refine W_condp rfl (fun h => ?_) (fun h => ?_)
    · have hlt : i < l.length := by omega
      obtain ⟨x, hx⟩ : ∃ x, l[i]? = some x := ⟨_, List.getElem?_eq_getElem hlt⟩
      obtain ⟨b, o, c', e, _, _, _, hR⟩ := hr.at hlt
      cases e
      (refine W_skip ?_; refine tn ?_; refine W_seq ?_; refine W_block ?_; refine W_seq ?_; refine W_region ?_; refine Ls (X_indexSn rfl rfl (by omega)) ?_; refine Ls (X_ldR rfl (hE.range hR) (j := i) (by omega) (ints_at hx)) ?_; refine Ls (X_assign (v := .int _ _) rfl) ?_; refine L_nil ?_; refine tn ?_; refine W_seq ?_; refine W_region ?_; refine Ls (X_assign (v := .int _ _) rfl) ?_; refine L_nil ?_; refine tn ?_; refine W_block ?_)
      refine W_loop (fun q f w' => ∃ k u, q = 8 - k ∧ k ≤ 8 ∧ f 3 = u ∧ f 5 = .int .u64 (x : Nat) ∧ f 6 = .int .i64 ((8 : Int) * (k : Nat)) ∧ f 7 = .slice (some ⟨b, o, none⟩) l.length c ∧ f 8 = .int .i64 (l.length : Nat) ∧ f 9 = .int .i64 (i : Nat) ∧ Ext w w' ∧ w'.ownsRow w.heap.size 5 1 u (i * 8 + k) (ints .u8 (encB (l.take i) ++ word x k))) 8 ?_ ?_
      · exact ⟨0, u, rfl, by omega, rfl, rfl, rfl, rfl, rfl, rfl, hE, by rw [show word x 0 = [] from rfl, List.append_nil]; exact ho⟩
      · clear hu1 ho f3
        rintro q f wi ⟨k, u, hq, hk, f3, f5, f6, f7, f8, f9, hE, ho⟩
        rw [fold f3, fold f5, fold f6, fold f7, fold f8, fold f9]
        have hu1 := row_cell1 (Row.of_own ho)
        (refine W_seq ?_; refine W_seq ?_; refine W_region ?_; refine Ls (X_move (v := .int _ _) rfl) ?_; refine Ls (X_lss rfl rfl) ?_; refine L_nil ?_; refine tn ?_)
        refine W_condp rfl (fun h => ?_) (fun h => ?_)
        · have hk7 : k ≤ 7 := by omega
          (refine W_skip ?_; refine tn ?_; refine W_seq ?_; refine W_block ?_; refine W_region ?_; refine Ls (X_move (v := u) rfl) ?_; refine Ls (X_move (v := .int _ _) rfl) ?_; refine Ls (X_move (v := .int _ _) rfl) ?_; refine Ls (X_shr rfl rfl (by omega)) ?_; refine Ls ((X_conv rfl).trans (by rw [shr_byte x k hk7])) ?_)
          refine L_lit1 (v := .int .u8 _) rfl rfl ?_
          intro u2 w3 r3 E3 hs3 _
          refine L_append (v := u) (u := u2) rfl rfl (own_ext ho E3) r3 (fun q hq => by rw [List.mem_singleton.1 hq]; rfl) (by omega) (by omega) (by have := hE.size; have := E3.size; omega) ?_
          intro u4 w4 o4 hg4 _
          (refine Ls (X_assign (v := u4) rfl) ?_; refine L_nil ?_; refine bn ?_; refine tn ?_; refine W_region ?_; refine Ls (X_move (v := .int _ _) rfl) ?_; refine Ls (X_addi rfl rfl (by omega)) ?_; refine Ls (X_assign (v := .int _ _) rfl) ?_; refine L_nil ?_; refine tn ?_)
          refine ⟨8 - (k + 1), by omega, k + 1, u4, rfl, by omega, rfl, rfl, ?_, rfl, rfl, rfl, (hE.trans E3).then hg4 (fun q hq => (own_obj ho q hq).1), ?_⟩
          · rw [show (8 : Int) * ((k + 1 : Nat) : Int) = 8 * (k : Int) + 8 by omega]; rfl
          · rw [word_succ, ← List.append_assoc, ints_app]
            exact o4
        · have hk8 : k = 8 := by omega
          subst hk8
          (refine W_exit ?_; refine te ?_; refine te ?_; refine bx ?_; refine bn ?_; refine tn ?_; refine W_region ?_; refine Ls (X_addi rfl rfl (by omega)) ?_; refine Ls (X_move (v := .int _ _) rfl) ?_; refine L_nil ?_; refine tn ?_)
          refine ⟨l.length - (i + 1), by omega, i + 1, u, rfl, by omega, rfl, rfl, rfl, rfl, hE, ?_⟩
          rw [List.take_add_one, hx, encB_app, show (some x).toList = [x] from rfl, encB_one, Nat.succ_mul]
          exact ho
    · have hil : i = l.length := by omega
      rw [hil, List.take_length] at ho
      (refine W_exit ?_; refine te ?_; refine te ?_; refine bx ?_; refine tn ?_; refine W_seq ?_; refine W_region ?_; refine Ls (X_move (v := u) rfl) ?_; refine Ls (X_assign (v := u) rfl) ?_; refine L_nil ?_; refine tn ?_; refine W_ret ?_)
      exact endQ_ret1 rfl rfl (v := u) rfl ⟨u, rfl, hE, by rw [encB_len]; exact ho⟩
set_option maxRecDepth 100000 in
set_option maxHeartbeats 4000000 in
theorem gleaves (N : Nat → Prop) (v : Value) (M : List (List Nat)) (L : Nat) (hL : ∀ r ∈ M, r.length = L) (hM1 : 1 ≤ M.length) (hM : M.length ≤ 65536) (hL6 : L ≤ 65536) (w : World) (hP : PartN N w .u64 v M) :
    Calls Tryz.prog 55 #[v] w fun e w' => ∃ q, e = .returned q ∧ Ext w w' ∧ PartN (fun k => w.heap.size ≤ k) w' .u8 q ((List.range L).map fun j => encB (colM M j)) := by
  obtain ⟨A, c, rfl, _⟩ := hP.form
  have hP := hP.tight
  refine calls_T Tryz.func55 rfl Tryz.ntmps55 rfl ?_
  refine T_seq ?_
  (refine W_region ?_; refine Ls (X_assign (v := .slice _ _ _) rfl) ?_; refine L_nil ?_; refine tn ?_)
  refine T_seq ?_
  (refine W_region ?_)
  refine L_alloc ?_
  intro g3 w1 B3 hg3 E1 hs1
  (refine L_nil ?_; refine tn ?_)
  refine T_seq2 ?_
  (refine W_region ?_; refine Ls (X_move (v := .slice _ _ _) rfl) ?_)
  refine L_fo rfl (gcolsMk (.slice A M.length c) rfl w1) ?_
  rintro q w2 ⟨b, rfl, E2, Bb, hb⟩
  (refine L_nil ?_; refine tn ?_)
  have E12 := E1.trans E2
  have hlb := Bb.lt
  refine T_rangeM (ps := [8, 9]) (fun k => w.heap.size ≤ k ∧ k ≠ b) rfl (enters_of Tryz.func118 (by kernel_rfl) rfl) (fun i vs a h => by obtain ⟨_, _, rfl, _⟩ := h; rfl) (gcols (fun k => w.heap.size ≤ k ∧ k ≠ b) (fun k => N k ∧ k < w.heap.size) b _ M L hL hM1 hM (by omega) w2 Bb (hP.ext E12) (fun h => h.2 rfl) (fun k hk h => by omega))
    (fun i y => ∃ u xs, Blk y g3 102 [u] ∧ y.ownsRow w.heap.size 129 1 u i xs ∧ (∀ j x, xs[j]? = some x → y.ownsRow w.heap.size 5 1 x (encB (colM M j)).length (ints .u8 (encB (colM M j)))) ∧ (∀ q, u.ownBlock = some q → q ≠ b) ∧ i ≤ L) (fun _ => False)
    (fun i x y h C => by obtain ⟨u, xs, h1, h2, h3, h4, h5⟩ := h; exact ⟨u, xs, C.blk h1, C.own h2, fun j z hz => C.own (h3 j z hz), h4, h5⟩) (fun _ _ h _ => h) ⟨.slice none 0 0, [], B3.ext E2, ⟨rfl, .inl ⟨rfl, rfl⟩⟩, (fun _ _ h => by cases h), (fun _ h => by cases h), by omega⟩
    (fun i vs a f' y => i < L ∧ ∃ q, y = a ∧ a.ownsRow w2.heap.size 29 1 q M.length (ints .u64 (colM M i)) ∧ f' 3 = .pointer (some ⟨g3, 0, none⟩) ∧ f' 5 = q) (fun i vs a f' b h => by obtain ⟨_, _, rfl, _⟩ := h; exact Ext.refl _) (fun lp vs i y hi hM hp => ?_) (fun lp i vs a f' z y hi hMu hp hga hac hbc => ?_) (fun D y hD hdn hMu hbD => ?_)
  · obtain ⟨hiL, q, rfl, oq⟩ := hp
    have hq1 := row_cell1 (Row.of_own oq)
    (refine W_region ?_; refine Ls (X_assign (v := q) rfl) ?_; refine L_nil ?_)
    exact ⟨rfl, hiL, q, rfl, oq, rfl, rfl⟩
  · obtain ⟨u, xs, I1, I2, I3, I4, I5⟩ := hi
    obtain ⟨hiL, q, rfl, oq, f3, f5⟩ := hga
    have oq := hac.own oq
    have hq1 := row_cell1 (Row.of_own oq)
    have hu1 := row_cell1 (Row.of_own I2)
    have hMs := hMu.size
    have hlb' : b < y.heap.size := by omega
    have hcl := colM_len M i
    rw [fold f3, fold f5]
    (refine W_block ?_)
    apply W_dagE 4 (by kernel_rfl)
    (apply DW_x (fun r w hA hH => (X_ld rfl (I1.ext hA) rfl).trans rfl); apply DW_x (fun r w hA hH => (X_move (v := q) rfl).trans rfl))
    ((with_reducible apply DW_fo); (exact fun _ => rfl); (exact fun _ => rfl); (exact fun r w hA hH => calls_own hA (gencodeB _ _ q (colM M i) (by omega) w ((Row.of_own (own_ext oq hA)).re hcl.symm rfl))); (exact fun _ _ _ _ _ _ E h => OwnF.ext E h))
    apply DW_lit1 (w0 := y) (fun r => r 2) (fun r => rfl) (fun r w hA hH => (by obtain ⟨_, _, o⟩ := hH 2 rfl; exact row_cell1 (Row.of_own o))) (fun w hA => hA.size) (fun r v => rfl)
    ((with_reducible exact D_end); (exact rfl); (repeat (first | exact .inr (.inr (fun _ _ => by with_reducible rfl)) | (refine And.intro ?_ ?_) | exact .inr (.inl rfl) | exact .inl (by decide +kernel) | exact trivial | exact .inr (.inr (fun _ _ => rfl)))); (try dsimp only [Nat.reduceAdd]))
    intro r y1 F1 H1
    obtain ⟨bq, hbq, o2⟩ : OwnF y 5 1 (r 2) _ _ y1 := H1 2
    obtain ⟨l3, h3, hl3, r3⟩ : RowF y 1 (r 3) 1 [r 2] y1 := H1 3
    have hr2 := row_cell1 (Row.of_own o2)
    refine L_append (v := u) (u := r 3) rfl rfl (own_ext I2 F1) r3 (fun x hx => by rw [List.mem_singleton.1 hx]; exact hr2) (by omega) (by omega) (by have := F1.size; have := E12.size; omega) ?_
    intro u4 y4 o4 hg4 hb4
    have hu4 := row_cell1 (Row.of_own o4)
    have I2' := own_ext I2 F1
    have G3 := (I1.ext F1).grown hg4 (fun h => by
      obtain ⟨_, cs, fz, e⟩ := own_obj I2' g3 h
      exact blk_ty (I1.ext F1) e (by decide))
    have hxo : ∀ (x : Value) (m : Nat) (l : List Value) (bs : Nat), y1.ownsRow bs 5 1 x m l → y4.ownsRow bs 5 1 x m l := fun x m l bs h => own_other h hg4 (fun g hg e => by
      obtain ⟨_, cs, fz, e1⟩ := own_obj h g hg
      obtain ⟨_, cs', fz', e2⟩ := own_obj I2' g e
      rw [e1] at e2
      cases e2)
    have hub4 : ∀ q, u4.ownBlock = some q → q ≠ b := fun q hq => by
      rcases hb4 with h | h
      · rw [h] at hq; exact I4 q hq
      · rw [h] at hq
        have := Option.some.inj hq
        have := F1.size
        omega
    have M4 : Mut (fun k => w.heap.size ≤ k ∧ k ≠ b) y y4 := (Mut.of_ext F1).trans (Mut.app I2' hg4 (fun q hq => ⟨(own_obj I2' q hq).1, I4 q hq⟩))
    refine L_store1 (v := u4) rfl rfl hu4 G3 (by simp) ?_
    intro y5 G3' hg5 hs5
    (refine L_nil ?_; refine bn ?_)
    have hx5 : ∀ (x : Value) (m : Nat) (l : List Value) (bs : Nat), y4.ownsRow bs 5 1 x m l → y5.ownsRow bs 5 1 x m l := fun x m l bs h => own_other h hg5 (fun g hg e => by
      obtain rfl : g3 = g := Option.some.inj e
      obtain ⟨_, cs, fz, e1⟩ := own_obj h g3 hg
      exact blk_ty G3 e1 (by decide))
    have hil : xs.length = i := by rw [I2.1, Nat.mul_one]
    refine ⟨M4.trans (Mut.store G3 hg5 ⟨by omega, by omega⟩), u4, xs ++ [r 2], G3', own_other o4 hg5 (fun g hg e => by
      obtain rfl : g3 = g := Option.some.inj e
      obtain ⟨_, cs, fz, e1⟩ := own_obj o4 g3 hg
      exact blk_ty G3 e1 (by decide)), fun j x hx => ?_, hub4, by omega⟩
    rcases Nat.lt_or_ge j i with hji | hji
    · rw [List.getElem?_append_left (by omega)] at hx
      exact hx5 _ _ _ _ (hxo _ _ _ _ (own_ext (I3 j x hx) F1))
    · have hje : j = i := by
        have := (List.getElem?_eq_some_iff.1 hx).1
        rw [List.length_append, hil] at this
        simp at this
        omega
      subst hje
      rw [List.getElem?_append_right (by omega), hil, Nat.sub_self] at hx
      cases hx
      exact hx5 _ _ _ _ (hxo _ _ _ _ (own_base o2 (by have := E12.size; omega)))
  · obtain ⟨i, hfin, u, xs, I1, I2, I3, I4, I5⟩ : ∃ i, i = L ∧ ∃ u xs, Blk y g3 102 [u] ∧ y.ownsRow w.heap.size 129 1 u i xs ∧ (∀ j x, xs[j]? = some x → y.ownsRow w.heap.size 5 1 x (encB (colM M j)).length (ints .u8 (encB (colM M j)))) ∧ (∀ q, u.ownBlock = some q → q ≠ b) ∧ i ≤ L := hdn.elim id False.elim
    rw [hfin] at I2
    have hu1 := row_cell1 (Row.of_own I2)
    refine T_of_W ?_
    (refine W_seq ?_; refine W_region ?_; refine Ls (X_ld rfl I1 rfl) ?_; refine Ls (X_assign (v := u) rfl) ?_; refine L_nil ?_; refine tn ?_; refine W_ret ?_)
    refine endQ_marks w2.heap.size [D] rfl rfl (by simp) (fun D' h => ?_) (fun w' hc => ⟨Res.tmp (v := u) rfl .nil, u, rfl, ?_, xs, ?_, ?_, fun j x d hx hd => ?_⟩)
    · rw [List.mem_singleton.1 h]; exact ⟨by omega, hbD⟩
    · exact hc.toExt (hMu.toExt E12 (fun k h => h.1)) (by have := E12.size; omega)
    · rw [I2.1]; simp
    · rw [List.length_map, List.length_range]
      exact (RowN.of_own (hc.own I2)).mono fun k hk => hk.1
    · have hjL : j < L := by
        have := (List.getElem?_eq_some_iff.1 hd).1
        simpa using this
      rw [List.getElem?_map, List.getElem?_range hjL] at hd
      cases hd
      exact (RowN.of_own (hc.own (I3 j x hx))).mono fun k hk => hk.1
end Go.Proofs.YtpohjepbmgeplaaGreatDoor

/- Commitments: opening positions, weighted sums. -/
namespace Go.Proofs.YtpohjepbmgeplaaGreatDoor
open Go.RowKit Go.Proofs.K
open _root_.Fd (K E pw root trow enc ccol comb)
open _root_.Cm (Sh pws pwE)

/-- an opening position, in the machine -/
def waC (pv : Value) (rho : Nat × Nat) (iv : Value) : List Value := [pv, .int .u64 (rho.1 : Nat), .int .u64 (rho.2 : Nat), iv]
theorem waC_cell {pv iv : Value} {rho : Nat × Nat} (hp : pv.oneCell' = true) (hi : iv.oneCell' = true) : ∀ v ∈ waC pv rho iv, v.oneCell' = true := by
  intro v hv
  rcases List.mem_cons.1 hv with rfl | hv
  · exact hp
  · rcases List.mem_cons.1 hv with rfl | hv
    · rfl
    · rcases List.mem_cons.1 hv with rfl | hv
      · rfl
      · rcases List.mem_cons.1 hv with rfl | hv
        · exact hi
        · cases hv
def isE (p : Nat × Nat) : Prop := p.1 < Fd.pr ∧ p.2 < Fd.pr
/-- a valid opening position -/
structure PosOk (s : Sh) (P : List (Nat × Nat)) (rho : Nat × Nat) (I : List Int) : Prop where
  p : P.length = s.a + s.c
  i : I.length = s.t
  pv : ∀ x ∈ P, isE x
  rv : isE rho
  ix : ∀ i ∈ I, 0 ≤ i ∧ i < ((s.n : Nat) : Int)
  srt : I.Pairwise (· < ·)
/-- the condition of an element of the extension -/
theorem cond_validE (l : List (Nat × Nat)) (w : World) : CondAt Tryz.prog 77 #[] (l.map fun p => Value.agg (exC p.1 p.2).toArray) (fun i => decide ((l.getD i (0, 0)).1 < Fd.pr) && decide ((l.getD i (0, 0)).2 < Fd.pr)) w := by
  intro i x w' E hx
  rw [List.getElem?_map] at hx
  cases hp : l[i]? with
  | none => rw [hp] at hx; cases hx
  | some p =>
    rw [hp] at hx
    cases hx
    have : l.getD i (0, 0) = p := by rw [List.getD_eq_getElem?_getD, hp]; rfl
    show Calls _ _ _ _ fun e w'' => e = .returned (.bool (decide ((l.getD i (0, 0)).1 < Fd.pr) && decide ((l.getD i (0, 0)).2 < Fd.pr))) ∧ _
    rw [this]
    exact gexvalid p.1 p.2 w'
theorem allE_iff (l : List (Nat × Nat)) : decide (∀ i, i < (l.map fun p => Value.agg (exC p.1 p.2).toArray).length → (decide ((l.getD i (0, 0)).1 < Fd.pr) && decide ((l.getD i (0, 0)).2 < Fd.pr)) = true) = true ↔ ∀ x ∈ l, isE x := by
  rw [decide_eq_true_eq, List.length_map]
  constructor
  · intro h x hx
    obtain ⟨i, hi⟩ := List.mem_iff_getElem?.1 hx
    have := h i (List.getElem?_eq_some_iff.1 hi).1
    rw [List.getD_eq_getElem?_getD, hi] at this
    simpa [isE] using this
  · intro h i hi
    have := h l[i] (List.getElem_mem _)
    rw [List.getD_eq_getElem?_getD, List.getElem?_eq_getElem hi]
    simpa [isE] using this
set_option maxRecDepth 100000 in
set_option maxHeartbeats 4000000 in
theorem gpositioned (s : Sh) (hs : s.Ok) (pl ph il ih : Nat) (pv iv : Value) (P : List (Nat × Nat)) (rho : Nat × Nat) (I : List Int) (hPl : P.length ≤ 1000000) (hIl : I.length ≤ 1000000) (w : World) (hp : Row w pl ph 2 pv P.length (exs P)) (hi : Row w il ih 1 iv I.length (I.map (Value.int .i64))) :
    Calls Tryz.prog 58 #[.agg (shC (s.R : Nat) (s.C : Nat) (s.B : Nat) (s.t : Nat)).toArray, .int .i64 ((s.a + s.c : Nat) : Int), .agg (waC pv rho iv).toArray] w fun e w' => ∃ b : Bool, e = .returned (.bool b) ∧ (b = true ↔ PosOk s P rho I) ∧ Ext w w' := by
  obtain ⟨Ap, cp, rfl⟩ : ∃ A c, pv = .slice A P.length c := by
    obtain ⟨_, A, c, rfl, _⟩ := hp
    exact ⟨A, c, rfl⟩
  obtain ⟨Ai, ci, rfl⟩ : ∃ A c, iv = .slice A I.length c := by
    obtain ⟨_, A, c, rfl, _⟩ := hi
    exact ⟨A, c, rfl⟩
  have hBC : ((s.B : Nat) : Int) * ((s.C : Nat) : Int) = ((s.n : Nat) : Int) := by rw [← Int.natCast_mul, Cm.Sh.BC]
  have hn : s.n ≤ 65536 := (pow_le16 hs.cb).2
  have hac := hs.ac
  refine calls_W Tryz.func58 rfl Tryz.ntmps58 rfl ?_
  (refine W_seq ?_; refine W_region ?_)
  refine L_box rfl ?_
  intro g3 w1 B3 hg3 E1 hs1
  refine L_box rfl ?_
  intro g5 w2 B5 hg5 E2 hs2
  have C3 := B3.ext E2
  have E12 := E1.trans E2
  (refine Ls (X_assign (v := .bool _) rfl) ?_; refine L_nil ?_; refine tn ?_; refine W_seq ?_; refine W_region ?_; refine Ls (X_assign (v := .int _ _) rfl) ?_; refine L_nil ?_; refine tn ?_; refine W_seq ?_; refine W_seq ?_; refine W_region ?_; refine Ls (X_fld rfl) ?_; refine Ls (X_ld (cs := waC (.slice Ap P.length cp) rho (.slice Ai I.length ci)) rfl B5 rfl) ?_; refine Ls (X_lenSlice rfl) ?_; refine Ls (X_move (v := .int _ _) rfl) ?_; refine L_nil ?_; refine tn ?_; refine W_block ?_)
  refine W_loop (fun q f w' => ∃ (i : Nat) (z : Int), q = I.length - i ∧ i ≤ I.length ∧ f 1 = .int .i64 ((s.a + s.c : Nat) : Int) ∧ f 3 = .pointer (some ⟨g3, 0, none⟩) ∧ f 5 = .pointer (some ⟨g5, 0, none⟩) ∧ f 7 = .int .i64 z ∧ f 11 = .slice Ai I.length ci ∧ f 12 = .int .i64 (I.length : Nat) ∧ f 13 = .int .i64 (i : Nat) ∧ w' = w2 ∧
    ((i = 0 ∧ z = -1) ∨ ∃ j, i = j + 1 ∧ I[j]? = some z) ∧ (I.take i).Pairwise (· < ·) ∧ (∀ x ∈ I.take i, 0 ≤ x ∧ x < ((s.n : Nat) : Int)) ∧ (∀ x ∈ I.take i, x ≤ z) ∧ -1 ≤ z) I.length ?_ ?_
  · exact ⟨0, -1, rfl, by omega, rfl, rfl, rfl, rfl, rfl, rfl, rfl, rfl, .inl ⟨rfl, rfl⟩, by simp, by simp, by simp, by omega⟩
  · rintro q f wr ⟨i, z, hq, hil, f1, f3, f5, f7, f11, f12, f13, rfl, hz, hpw, hrg, hle, hz1⟩
    rw [fold f1, fold f3, fold f5, fold f7, fold f11, fold f12, fold f13]
    (refine W_seq ?_; refine W_region ?_; refine Ls (X_lss rfl rfl) ?_; refine L_nil ?_; refine tn ?_; refine W_seq ?_)
    refine W_condp rfl (fun h => ?_) (fun h => ?_)
    · have hlt : i < I.length := by omega
      obtain ⟨x, hx⟩ : ∃ x, I[i]? = some x := ⟨_, List.getElem?_eq_getElem hlt⟩
      have hxm := List.mem_of_getElem? hx
      obtain ⟨b, o, c', e, _, _, _, hR⟩ := (hi.ext E12).at hlt
      cases e
      have hxv : (I.map (Value.int .i64))[i]? = some (.int .i64 x) := by rw [List.getElem?_map, hx]; rfl
      by_cases h1 : x ≤ z
      · (refine W_skip ?_; refine tn ?_; refine W_seq ?_; refine W_block ?_; refine W_seq ?_; refine W_region ?_; refine Ls (X_indexSn rfl rfl (by omega)) ?_; refine Ls (X_ldR rfl hR (j := i) (by omega) hxv) ?_; refine Ls (X_assign (v := .int _ _) rfl) ?_; refine L_nil ?_; refine tn ?_; refine W_seq ?_; refine W_seq ?_; refine W_region ?_; refine Ls (X_move (v := .int _ _) rfl) ?_; refine Ls (X_move (v := .int _ _) rfl) ?_; refine Ls (X_leqT rfl rfl (by omega)) ?_; refine Ls (X_move (v := .bool _) rfl) ?_; refine Lo2 rfl rfl rfl rfl ?_; refine Lo2 rfl rfl rfl rfl ?_; refine Lo2 rfl rfl rfl rfl ?_; refine Lo2 rfl rfl rfl rfl ?_; refine Lo2 rfl rfl rfl rfl ?_; refine Lo2 rfl rfl rfl rfl ?_; refine Lo2 rfl rfl rfl rfl ?_; refine Ls (X_pickT (v := .bool _) rfl rfl) ?_; refine L_nil ?_; refine tn ?_; refine W_condT rfl ?_; refine W_seq ?_; refine W_region ?_; refine Ls (X_assign (v := .bool _) rfl) ?_; refine L_nil ?_; refine tn ?_; refine W_ret ?_; refine tr ?_; refine br ?_; refine tr ?_; refine tr ?_; refine br ?_; refine tr ?_)
        refine endQ_ret1 rfl rfl (v := .bool _) rfl ⟨false, rfl, ⟨(fun h => by cases h), fun hP => ?_⟩, E12⟩
        rcases hz with ⟨_, rfl⟩ | ⟨j, rfl, hj⟩
        · have := (hP.ix x hxm).1; omega
        · have := List.pairwise_iff_getElem.1 hP.srt j (j + 1) (List.getElem?_eq_some_iff.1 hj).1 hlt (by omega)
          rw [List.getElem?_eq_getElem hlt] at hx
          obtain ⟨h2, h3⟩ := List.getElem?_eq_some_iff.1 hj
          rw [h3, Option.some.inj hx] at this
          omega
      · by_cases h2 : ((s.n : Nat) : Int) ≤ x
        · (refine W_skip ?_; refine tn ?_; refine W_seq ?_; refine W_block ?_; refine W_seq ?_; refine W_region ?_; refine Ls (X_indexSn rfl rfl (by omega)) ?_; refine Ls (X_ldR rfl hR (j := i) (by omega) hxv) ?_; refine Ls (X_assign (v := .int _ _) rfl) ?_; refine L_nil ?_; refine tn ?_; refine W_seq ?_; refine W_seq ?_; refine W_region ?_; refine Ls (X_move (v := .int _ _) rfl) ?_; refine Ls (X_move (v := .int _ _) rfl) ?_; refine Ls (X_leqF rfl rfl (by omega)) ?_; refine Ls (X_move (v := .bool _) rfl) ?_; refine Lg2 rfl rfl rfl (X_move (v := .int _ _) rfl) ?_; refine Lg2 rfl rfl rfl (X_fld rfl) ?_; refine Lg2 rfl rfl rfl (X_ld (cs := shC (s.R : Nat) (s.C : Nat) (s.B : Nat) (s.t : Nat)) rfl C3 rfl) ?_; refine Lg2 rfl rfl rfl (X_fld rfl) ?_; refine Lg2 rfl rfl rfl (X_ld (cs := shC (s.R : Nat) (s.C : Nat) (s.B : Nat) (s.t : Nat)) rfl C3 rfl) ?_; refine Lg2 rfl rfl rfl ((X_muli rfl rfl ⟨by omega, by omega⟩).trans (by rw [hBC])) ?_; refine Lg2 rfl rfl rfl (X_geqT rfl rfl (by omega)) ?_; refine Ls (X_pickF (v := .bool _) rfl rfl) ?_; refine L_nil ?_; refine tn ?_; refine W_condT rfl ?_; refine W_seq ?_; refine W_region ?_; refine Ls (X_assign (v := .bool _) rfl) ?_; refine L_nil ?_; refine tn ?_; refine W_ret ?_; refine tr ?_; refine br ?_; refine tr ?_; refine tr ?_; refine br ?_; refine tr ?_)
          exact endQ_ret1 rfl rfl (v := .bool _) rfl ⟨false, rfl, ⟨(fun h => by cases h), fun h => by have := (h.ix x hxm).2; omega⟩, E12⟩
        · (refine W_skip ?_; refine tn ?_; refine W_seq ?_; refine W_block ?_; refine W_seq ?_; refine W_region ?_; refine Ls (X_indexSn rfl rfl (by omega)) ?_; refine Ls (X_ldR rfl hR (j := i) (by omega) hxv) ?_; refine Ls (X_assign (v := .int _ _) rfl) ?_; refine L_nil ?_; refine tn ?_; refine W_seq ?_; refine W_seq ?_; refine W_region ?_; refine Ls (X_move (v := .int _ _) rfl) ?_; refine Ls (X_move (v := .int _ _) rfl) ?_; refine Ls (X_leqF rfl rfl (by omega)) ?_; refine Ls (X_move (v := .bool _) rfl) ?_; refine Lg2 rfl rfl rfl (X_move (v := .int _ _) rfl) ?_; refine Lg2 rfl rfl rfl (X_fld rfl) ?_; refine Lg2 rfl rfl rfl (X_ld (cs := shC (s.R : Nat) (s.C : Nat) (s.B : Nat) (s.t : Nat)) rfl C3 rfl) ?_; refine Lg2 rfl rfl rfl (X_fld rfl) ?_; refine Lg2 rfl rfl rfl (X_ld (cs := shC (s.R : Nat) (s.C : Nat) (s.B : Nat) (s.t : Nat)) rfl C3 rfl) ?_; refine Lg2 rfl rfl rfl ((X_muli rfl rfl ⟨by omega, by omega⟩).trans (by rw [hBC])) ?_; refine Lg2 rfl rfl rfl (X_geqF rfl rfl (by omega)) ?_; refine Ls (X_pickF (v := .bool _) rfl rfl) ?_; refine L_nil ?_; refine tn ?_; refine W_condF rfl ?_; refine W_skip ?_; refine tn ?_; refine W_region ?_; refine Ls (X_move (v := .int _ _) rfl) ?_; refine Ls (X_assign (v := .int _ _) rfl) ?_; refine L_nil ?_; refine bn ?_; refine tn ?_; refine W_region ?_; refine Ls (X_addi rfl rfl (by omega)) ?_; refine Ls (X_move (v := .int _ _) rfl) ?_; refine L_nil ?_; refine tn ?_)
          have ht : I.take (i + 1) = I.take i ++ [x] := by rw [List.take_add_one, hx]; rfl
          refine ⟨I.length - (i + 1), by omega, i + 1, x, rfl, by omega, rfl, rfl, rfl, rfl, rfl, rfl, rfl, rfl, .inr ⟨i, rfl, hx⟩, ?_, fun y hy => ?_, fun y hy => ?_, by omega⟩
          · rw [ht, List.pairwise_append]
            refine ⟨hpw, by simp, fun a ha b hb => ?_⟩
            rw [List.mem_singleton.1 hb]
            have := hle a ha
            omega
          · rw [ht] at hy
            rcases List.mem_append.1 hy with hy | hy
            · exact hrg y hy
            · rw [List.mem_singleton.1 hy]
              omega
          · rw [ht] at hy
            rcases List.mem_append.1 hy with hy | hy
            · have := hle y hy; omega
            · rw [List.mem_singleton.1 hy]; omega
    · have hil' : i = I.length := by omega
      rw [hil', List.take_length] at hpw hrg
      by_cases h3 : I.length = s.t
      · by_cases h4 : P.length = s.a + s.c
        · (refine W_exit ?_; refine te ?_; refine te ?_; refine bx ?_; refine tn ?_; refine W_seq ?_; refine W_region ?_; refine Ls (X_fld rfl) ?_; refine Ls (X_ld (cs := waC (.slice Ap P.length cp) rho (.slice Ai I.length ci)) rfl B5 rfl) ?_; refine Ls (X_lenSlice rfl) ?_; refine Ls (X_fld rfl) ?_; refine Ls (X_ld (cs := shC (s.R : Nat) (s.C : Nat) (s.B : Nat) (s.t : Nat)) rfl C3 rfl) ?_; refine Ls (X_eqlT rfl rfl (by omega)) ?_; refine Ls (X_move (v := .bool _) rfl) ?_; refine Lg2 rfl rfl rfl (X_fld rfl) ?_; refine Lg2 rfl rfl rfl (X_ld (cs := waC (.slice Ap P.length cp) rho (.slice Ai I.length ci)) rfl B5 rfl) ?_; refine Lg2 rfl rfl rfl (X_lenSlice rfl) ?_; refine Lg2 rfl rfl rfl (X_move (v := .int _ _) rfl) ?_; refine Lg2 rfl rfl rfl (X_eqlT rfl rfl (by omega)) ?_; refine Ls (X_pickT (v := .bool _) rfl rfl) ?_; refine Ls (X_move (v := .bool _) rfl) ?_; refine Lg2 rfl rfl rfl (X_fld rfl) ?_; refine Lg2 rfl rfl rfl (X_ld (cs := waC (.slice Ap P.length cp) rho (.slice Ai I.length ci)) rfl B5 rfl) ?_)
          refine L_strip rfl rfl rfl ?_
          refine L_fv rfl (gval_e pl ph _ P (P.map fun p => Value.agg (exC p.1 p.2).toArray) rfl (by rw [List.length_map]; omega) wr ((hp.ext E12).re (by rw [List.length_map]) rfl) (fun i => decide ((P.getD i (0, 0)).1 < Fd.pr) && decide ((P.getD i (0, 0)).2 < Fd.pr)) 77 #[] (cond_validE P wr)) ?_
          intro w3 E3
          have hall := allE_iff P
          have C5 := B5.ext E3
          by_cases h5 : ∀ x ∈ P, isE x
          · rw [hall.2 h5]
            (refine Ls (X_pickT (v := .bool _) rfl rfl) ?_; refine Ls (X_move (v := .bool _) rfl) ?_; refine Lg2 rfl rfl rfl (X_fld rfl) ?_; refine Lg2 rfl rfl rfl (X_ldA (size := 2) (l := exC rho.1 rho.2) rfl C5 rfl rfl) ?_)
            refine L_strip rfl rfl rfl ?_
            refine L_fv rfl (gexvalid rho.1 rho.2 w3) ?_
            intro w4 E4
            (refine Ls (X_pickT (v := .bool _) rfl rfl) ?_; refine Ls (X_assign (v := .bool _) rfl) ?_; refine L_nil ?_; refine tn ?_; refine W_ret ?_)
            refine endQ_ret1 rfl rfl (v := .bool _) rfl ⟨_, rfl, ⟨fun h => ?_, fun h => ?_⟩, E12.trans (E3.trans E4)⟩
            · exact ⟨h4, h3, h5, by simpa [isE] using h, hrg, hpw⟩
            · have := h.rv
              simpa [isE] using this
          · have hf : decide (∀ i, i < (P.map fun p => Value.agg (exC p.1 p.2).toArray).length → (decide ((P.getD i (0, 0)).1 < Fd.pr) && decide ((P.getD i (0, 0)).2 < Fd.pr)) = true) = false := by
              cases hb : decide (∀ i, i < (P.map fun p => Value.agg (exC p.1 p.2).toArray).length → (decide ((P.getD i (0, 0)).1 < Fd.pr) && decide ((P.getD i (0, 0)).2 < Fd.pr)) = true) with
              | false => rfl
              | true => exact (h5 (hall.1 hb)).elim
            rw [hf]
            (refine Ls (X_pickT (v := .bool _) rfl rfl) ?_; refine Ls (X_move (v := .bool _) rfl) ?_; refine Lo2 rfl rfl rfl rfl ?_; refine Lo2 rfl rfl rfl rfl ?_; refine Lo2 rfl rfl rfl rfl ?_; refine Ls (X_pickF (v := .bool _) rfl rfl) ?_; refine Ls (X_assign (v := .bool _) rfl) ?_; refine L_nil ?_; refine tn ?_; refine W_ret ?_)
            exact endQ_ret1 rfl rfl (v := .bool _) rfl ⟨false, rfl, ⟨(fun h => by cases h), fun h => (h5 h.pv).elim⟩, E12.trans E3⟩
        · (refine W_exit ?_; refine te ?_; refine te ?_; refine bx ?_; refine tn ?_; refine W_seq ?_; refine W_region ?_; refine Ls (X_fld rfl) ?_; refine Ls (X_ld (cs := waC (.slice Ap P.length cp) rho (.slice Ai I.length ci)) rfl B5 rfl) ?_; refine Ls (X_lenSlice rfl) ?_; refine Ls (X_fld rfl) ?_; refine Ls (X_ld (cs := shC (s.R : Nat) (s.C : Nat) (s.B : Nat) (s.t : Nat)) rfl C3 rfl) ?_; refine Ls (X_eqlT rfl rfl (by omega)) ?_; refine Ls (X_move (v := .bool _) rfl) ?_; refine Lg2 rfl rfl rfl (X_fld rfl) ?_; refine Lg2 rfl rfl rfl (X_ld (cs := waC (.slice Ap P.length cp) rho (.slice Ai I.length ci)) rfl B5 rfl) ?_; refine Lg2 rfl rfl rfl (X_lenSlice rfl) ?_; refine Lg2 rfl rfl rfl (X_move (v := .int _ _) rfl) ?_; refine Lg2 rfl rfl rfl (X_eqlF rfl rfl (by omega)) ?_; refine Ls (X_pickT (v := .bool _) rfl rfl) ?_; refine Ls (X_move (v := .bool _) rfl) ?_; refine Lo2 rfl rfl rfl rfl ?_; refine Lo2 rfl rfl rfl rfl ?_; refine Lo2 rfl rfl rfl rfl ?_; refine Ls (X_pickF (v := .bool _) rfl rfl) ?_; refine Ls (X_move (v := .bool _) rfl) ?_; refine Lo2 rfl rfl rfl rfl ?_; refine Lo2 rfl rfl rfl rfl ?_; refine Lo2 rfl rfl rfl rfl ?_; refine Ls (X_pickF (v := .bool _) rfl rfl) ?_; refine Ls (X_assign (v := .bool _) rfl) ?_; refine L_nil ?_; refine tn ?_; refine W_ret ?_)
          exact endQ_ret1 rfl rfl (v := .bool _) rfl ⟨false, rfl, ⟨(fun h => by cases h), fun h => (h4 h.p).elim⟩, E12⟩
      · (refine W_exit ?_; refine te ?_; refine te ?_; refine bx ?_; refine tn ?_; refine W_seq ?_; refine W_region ?_; refine Ls (X_fld rfl) ?_; refine Ls (X_ld (cs := waC (.slice Ap P.length cp) rho (.slice Ai I.length ci)) rfl B5 rfl) ?_; refine Ls (X_lenSlice rfl) ?_; refine Ls (X_fld rfl) ?_; refine Ls (X_ld (cs := shC (s.R : Nat) (s.C : Nat) (s.B : Nat) (s.t : Nat)) rfl C3 rfl) ?_; refine Ls (X_eqlF rfl rfl (by omega)) ?_; refine Ls (X_move (v := .bool _) rfl) ?_; refine Lo2 rfl rfl rfl rfl ?_; refine Lo2 rfl rfl rfl rfl ?_; refine Lo2 rfl rfl rfl rfl ?_; refine Lo2 rfl rfl rfl rfl ?_; refine Lo2 rfl rfl rfl rfl ?_; refine Ls (X_pickF (v := .bool _) rfl rfl) ?_; refine Ls (X_move (v := .bool _) rfl) ?_; refine Lo2 rfl rfl rfl rfl ?_; refine Lo2 rfl rfl rfl rfl ?_; refine Lo2 rfl rfl rfl rfl ?_; refine Ls (X_pickF (v := .bool _) rfl rfl) ?_; refine Ls (X_move (v := .bool _) rfl) ?_; refine Lo2 rfl rfl rfl rfl ?_; refine Lo2 rfl rfl rfl rfl ?_; refine Lo2 rfl rfl rfl rfl ?_; refine Ls (X_pickF (v := .bool _) rfl rfl) ?_; refine Ls (X_assign (v := .bool _) rfl) ?_; refine L_nil ?_; refine tn ?_; refine W_ret ?_)
        exact endQ_ret1 rfl rfl (v := .bool _) rfl ⟨false, rfl, ⟨(fun h => by cases h), fun h => (h3 h.i).elim⟩, E12⟩
end Go.Proofs.YtpohjepbmgeplaaGreatDoor

/- Commitments: weighted sums, weights. -/
namespace Go.Proofs.YtpohjepbmgeplaaGreatDoor
open Go.RowKit Go.Proofs.K
open _root_.Fd (K E pw root trow enc ccol comb)
open _root_.Cm (Sh pws pwE)

theorem vals_getD {l : List K} {i : Nat} {x : K} (h : l[i]? = some x) : l.getD i 0 = x := by rw [List.getD_eq_getElem?_getD, h]; rfl
set_option maxRecDepth 100000 in
set_option maxHeartbeats 4000000 in
theorem gsumw (al ah bl bh : Nat) (u v : Value) (ws : List E) (l : List K) (hwl : l.length ≤ ws.length) (hl6 : ws.length ≤ 1000000) (w : World) (hu : Row w al ah 2 u ws.length (exs (raw ws))) (hv : Row w bl bh 1 v l.length (ints .u64 (vals l))) :
    Calls Tryz.prog 62 #[.agg mixC.toArray, u, v] w fun e w' => e = .returned (.agg (xc (comb ws l)).toArray) ∧ Ext w w' := by
  obtain ⟨Au, cu, rfl⟩ : ∃ A c, u = .slice A ws.length c := by
    obtain ⟨_, A, c, rfl, _⟩ := hu
    exact ⟨A, c, rfl⟩
  obtain ⟨Av, cv, rfl⟩ : ∃ A c, v = .slice A l.length c := by
    obtain ⟨_, A, c, rfl, _⟩ := hv
    exact ⟨A, c, rfl⟩
  refine calls_W Tryz.func62 rfl Tryz.ntmps62 rfl ?_
  (refine W_seq ?_; refine W_region ?_)
  refine L_box rfl ?_
  intro g3 w1 B3 hg3 E1 hs1
  refine L_alloc ?_
  intro g6 w2 B6 hg6 E2 hs2
  (refine L_nil ?_; refine tn ?_; refine W_seq ?_; refine W_region ?_)
  refine L_alloc ?_
  intro g7 w3 B7 hg7 E3 hs3
  have C3 := B3.ext (E2.trans E3)
  have C6 := B6.ext E3
  have E13 := E1.trans (E2.trans E3)
  have hn36 : g3 ≠ g7 := by have := (E2.trans E3).size; have := E2.size; omega
  have hn67 : g6 ≠ g7 := by have := E3.size; omega
  (refine L_nil ?_; refine tn ?_; refine W_seq ?_; refine W_seq ?_; refine W_region ?_; refine Ls (X_move (v := .slice _ _ _) rfl) ?_; refine Ls (X_lenSlice rfl) ?_; refine Ls (X_move (v := .int _ _) rfl) ?_; refine L_nil ?_; refine tn ?_; refine W_block ?_)
  refine W_loop (fun q f w' => ∃ i, q = l.length - i ∧ i ≤ l.length ∧ f 1 = .slice Au ws.length cu ∧ f 3 = .pointer (some ⟨g3, 0, none⟩) ∧ f 6 = .pointer (some ⟨g6, 0, none⟩) ∧ f 7 = .pointer (some ⟨g7, 0, none⟩) ∧ f 10 = .slice Av l.length cv ∧ f 11 = .int .i64 (l.length : Nat) ∧ f 12 = .int .i64 (i : Nat) ∧ Blk w' g3 112 mixC ∧ Blk w' g6 31 (exC 0 0) ∧ Blk w' g7 31 (xc (Fd.es i fun j => ws.getD j 0 * E.of (l.getD j 0))) ∧ Ext w w') l.length ?_ ?_
  · exact ⟨0, rfl, by omega, rfl, rfl, rfl, rfl, rfl, rfl, rfl, C3, C6, B7, E13⟩
  · rintro q f wr ⟨i, hq, hi, f1, f3, f6, f7, f10, f11, f12, D3, D6, D7, hE⟩
    rw [fold f1, fold f3, fold f6, fold f7, fold f10, fold f11, fold f12]
    (refine W_seq ?_; refine W_region ?_; refine Ls (X_lss rfl rfl) ?_; refine L_nil ?_; refine tn ?_; refine W_seq ?_)
    refine W_condp rfl (fun h => ?_) (fun h => ?_)
    · have hlt : i < l.length := by omega
      obtain ⟨x, hx⟩ : ∃ x, l[i]? = some x := ⟨_, List.getElem?_eq_getElem hlt⟩
      obtain ⟨y, hy⟩ : ∃ y, ws[i]? = some y := ⟨_, List.getElem?_eq_getElem (by omega)⟩
      obtain ⟨b1, o1, c1, e1, _, _, _, hRv⟩ := hv.at hlt
      cases e1
      have hu' := hu
      rw [← raw_len ws] at hu'
      obtain ⟨b2, o2, e2, _, _, _, _, _, hRu⟩ := ex_at hu' (raw_get hy)
      cases e2
      obtain ⟨acc, hacc⟩ : ∃ acc, acc = Fd.es i fun j => ws.getD j 0 * E.of (l.getD j 0) := ⟨_, rfl⟩
      rw [← hacc] at D7
      have hstep : acc + y * E.of x = Fd.es (i + 1) fun j => ws.getD j 0 * E.of (l.getD j 0) := by
        show _ = Fd.es i _ + ws.getD i 0 * E.of (l.getD i 0)
        rw [← hacc, vals_getD hx, List.getD_eq_getElem?_getD, hy]; rfl
      (refine W_skip ?_; refine tn ?_; refine W_seq ?_; refine W_block ?_; refine W_seq ?_; refine W_region ?_; refine Ls (X_move (v := .int _ _) rfl) ?_; refine Ls (X_indexSn rfl rfl (by omega)) ?_; refine Ls (X_ldR rfl (hE.range hRv) (j := i) (by omega) (ints_at (vals_at hx))) ?_; refine Ls (X_assign (v := .int _ _) rfl) ?_; refine Ls (X_assign (v := .int _ _) rfl) ?_; refine L_nil ?_; refine tn ?_)
      apply W_dagE 11 (by kernel_rfl)
      (apply DW_x (fun r w hA hH => (X_fld rfl).trans rfl); apply DW_x (fun r w hA hH => (X_ld (cs := mixC) rfl (D3.ext hA) rfl).trans rfl); apply DW_x (fun r w hA hH => (X_ldW rfl (D7.ext hA) rfl).trans rfl); apply DW_x (fun r w hA hH => (X_fld rfl).trans rfl); apply DW_x (fun r w hA hH => (X_ld (cs := mixC) rfl (D3.ext hA) rfl).trans rfl); apply DW_x (fun r w hA hH => (X_move (v := .int _ _) rfl).trans rfl); apply DW_x (fun r w hA hH => (X_move (v := .slice _ _ _) rfl).trans rfl); apply DW_x (fun r w hA hH => (X_move (v := .int _ _) rfl).trans rfl); apply DW_x (fun r w hA hH => (X_indexSn rfl rfl (by omega)).trans rfl); apply DW_x (fun r w hA hH => (X_loadA (size := 2) (cs := xc y) rfl ((hE.trans hA).range hRu) rfl).trans rfl))
      apply DW_fc (first := #[]) (cap := #[]) (vl := fun _ => [kv x, .agg (xc y).toArray]) (fun _ => rfl) (fun _ => rfl) (fun r w hA hH => gmixed y x w)
      ((with_reducible exact D_end); (exact rfl); (repeat (first | exact .inr (.inr (fun _ _ => by with_reducible rfl)) | (refine And.intro ?_ ?_) | exact .inr (.inl rfl) | exact .inl (by decide +kernel) | exact trivial | exact .inr (.inr (fun _ _ => rfl)))); (try dsimp only [Nat.reduceAdd]))
      intro r w4 E4 _
      refine L_clo (vl := [.agg (xc acc).toArray, .agg (xc (y * E.of x)).toArray]) rfl (gexadd acc (y * E.of x) w4) rfl (fun e w5 hq => ⟨_, hq.1, ?_⟩)
      have E5 := hq.2
      have E45 := E4.trans E5
      refine L_storeW (l := xc (acc + y * E.of x)) rfl rfl rfl exC_cell (D7.ext E45) rfl ?_
      intro w6 D7' hg6' hs6
      (refine L_nil ?_; refine bn ?_; refine tn ?_; refine W_region ?_; refine Ls (X_addi rfl rfl (by omega)) ?_; refine Ls (X_move (v := .int _ _) rfl) ?_; refine L_nil ?_; refine tn ?_)
      refine ⟨l.length - (i + 1), by omega, i + 1, rfl, by omega, rfl, rfl, rfl, rfl, rfl, rfl, rfl, (D3.ext E45).grown hg6' (by simp; omega), (D6.ext E45).grown hg6' (by simp; omega), by rw [← hstep]; exact D7', (hE.trans E45).then hg6' (fun g h => by cases h; have := (E1.trans E2).size; omega)⟩
    · have hil : i = l.length := by omega
      rw [hil] at D7
      (refine W_exit ?_; refine te ?_; refine te ?_; refine bx ?_; refine tn ?_; refine W_seq ?_; refine W_region ?_; refine Ls (X_ldW rfl D7 rfl) ?_)
      refine L_storeW (l := xc (comb ws l)) rfl rfl rfl exC_cell D6 rfl ?_
      intro w6 D6' hg6' hs6
      (refine L_nil ?_; refine tn ?_; refine W_ret ?_)
      refine endQ_res rfl rfl (Res.cellA inferInstance rfl (D6'.range (fun j u h => by simpa using h)) rfl .nil) ?_
      exact ⟨rfl, hE.then hg6' (fun g h => by cases h; have := E1.size; omega)⟩
theorem pws_len (x : E) (n : Nat) : (pws x n).length = n := by unfold pws; simp
theorem raw_drop {w : World} {lo hi m c : Nat} {A : Option Addr} {P : List E} (h : Row w lo hi 2 (.slice A m c) m (exs (raw P))) (hl : P.length = m) {i : Nat} (hi' : i ≤ m) :
    Row w lo hi 2 (.slice (if c = i then A else A.map (·.add (i * 2))) (m - i) (c - i)) (P.drop i).length (exs (raw (P.drop i))) := by
  have := h.slice (i := i) (j := m) rfl hi' (Nat.le_refl _)
  have e : ((exs (raw P)).drop (i * 2)).take ((m - i) * 2) = exs (raw (P.drop i)) := by
    have h1 : raw P = raw (P.take i) ++ raw (P.drop i) := by unfold raw; rw [← List.map_append, List.take_append_drop]
    have h2 : (exs (raw (P.take i))).length = i * 2 := by rw [exs_len, raw_len, List.length_take]; omega
    rw [h1, exs_app, ← h2, List.drop_left, List.take_of_length_le (by rw [exs_len, raw_len, List.length_drop]; omega)]
  rw [e] at this
  rw [List.length_drop, hl]
  exact this
theorem Run_ex {P : Program} {n : NN} {o : Oper} {f : Fr} {w : World} {K Φ : Value → World → Prop} (h : ∃ v w', X P n o f w = .ok (.value v) w' ∧ Φ v w') (hk : ∀ v w', Φ v w' → K v w') : Run P n o f w K := by
  obtain ⟨v, w', h1, h2⟩ := h
  exact Run_val h1 (hk v w' h2)
/-- the state of a region that makes a row and a variable of the same type, in whatever order -/
structure WJ (w2 : World) (g2 g3 R : Nat) (L : Nat → Bool) (f : Fr) (w : World) : Prop where
  e : Ext w2 w
  f2 : f 2 = .pointer (some ⟨g2, 0, none⟩)
  f3 : f 3 = .pointer (some ⟨g3, 0, none⟩)
  o0 : L 0 = true → f 9 = .pointer (some ⟨g2, 0 + 0, none⟩)
  o1 : L 1 = true → f 10 = .int .i64 (R : Nat)
  o2 : L 2 = true → ∃ k, f 11 = .slice (some ⟨k, 0, none⟩) R R ∧ w2.heap.size ≤ k ∧ k < w.heap.size ∧ Blk w k 31 (List.replicate R [Value.int .u64 0, .int .u64 0]).flatten ∧ (L 4 = true → ∀ q, f 7 = .pointer (some ⟨q, 0, none⟩) → q ≠ k)
  o3 : L 3 = true → f 12 = .agg (xc 1).toArray
  o4 : L 4 = true → ∃ q, f 7 = .pointer (some ⟨q, 0, none⟩) ∧ w2.heap.size ≤ q ∧ q < w.heap.size ∧ Blk w q 31 (if L 6 = true then xc 1 else exC 0 0)
  o5 : L 5 = true → f 6 = f 11
  d5 : L 5 = true → L 2 = true
  d6 : L 6 = true → L 4 = true
theorem WJ.step {w2 : World} {g2 g3 R : Nat} {L L' : Nat → Bool} {f f' : Fr} {w w' : World} (h : WJ w2 g2 g3 R L f w) (E : Ext w w')
    (h2 : f' 2 = f 2) (h3 : f' 3 = f 3) (o0 : L' 0 = true → L 0 = true ∧ f' 9 = f 9 ∨ f' 9 = .pointer (some ⟨g2, 0 + 0, none⟩)) (o1 : L' 1 = true → L 1 = true ∧ f' 10 = f 10 ∨ f' 10 = .int .i64 (R : Nat))
    (o3 : L' 3 = true → L 3 = true ∧ f' 12 = f 12 ∨ f' 12 = .agg (xc 1).toArray) (o2 : L' 2 = true → L 2 = true ∧ f' 11 = f 11) (o4 : L' 4 = L 4 ∧ f' 7 = f 7) (o6 : L' 6 = L 6) (o5 : L' 5 = true → L 5 = true ∧ f' 6 = f 6 ∧ f' 11 = f 11 ∨ f' 6 = f' 11) (d5 : L' 5 = true → L' 2 = true) : WJ w2 g2 g3 R L' f' w' := by
  refine ⟨h.e.trans E, h2.trans h.f2, h3.trans h.f3, fun q => ?_, fun q => ?_, fun q => ?_, fun q => ?_, fun q => ?_, fun q => ?_, d5, fun q => o4.1.symm ▸ h.d6 (o6 ▸ q)⟩
  · rcases o0 q with ⟨a, b⟩ | b
    · exact b.trans (h.o0 a)
    · exact b
  · rcases o1 q with ⟨a, b⟩ | b
    · exact b.trans (h.o1 a)
    · exact b
  · obtain ⟨a, b⟩ := o2 q
    obtain ⟨k, h1, h2, h3, h4, h5⟩ := h.o2 a
    have := E.size
    exact ⟨k, b.trans h1, h2, by omega, h4.ext E, fun r x hx => h5 (o4.1 ▸ r) x (o4.2 ▸ hx)⟩
  · rcases o3 q with ⟨a, b⟩ | b
    · exact b.trans (h.o3 a)
    · exact b
  · obtain ⟨k, h1, h2, h3, h4⟩ := h.o4 (o4.1 ▸ q)
    have := E.size
    exact ⟨k, o4.2.trans h1, h2, by omega, by rw [o6]; exact h4.ext E⟩
  · rcases o5 q with ⟨a, b, c⟩ | b
    · rw [b, c]; exact h.o5 a
    · exact b
set_option maxRecDepth 100000 in
set_option maxHeartbeats 4000000 in
theorem gcweights (s : Sh) (hs : s.Ok) (pl ph : Nat) (pv iv : Value) (hiv : iv.oneCell' = true) (P : List E) (rho : E) (hP : P.length = s.a + s.c) (w : World) (hw : Tb w) (hp : Row w pl ph 2 pv P.length (exs (raw P))) :
    Calls Tryz.prog 60 #[.agg (shC (s.R : Nat) (s.C : Nat) (s.B : Nat) (s.t : Nat)).toArray, .agg (waC pv (rho.a.val, rho.b.val) iv).toArray] w fun e w' => ∃ q1 q2, e = .returned (.tuple #[q1, q2]) ∧ Ext w w' ∧ w'.ownsRow w.heap.size 31 2 q1 s.R (exs (raw (Fd.eqT (P.drop s.c)))) ∧ w'.ownsRow w.heap.size 31 2 q2 s.R (exs (raw (pws rho s.R))) := by
  obtain ⟨Ap, cp, rfl, hcp⟩ : ∃ A c, pv = .slice A P.length c ∧ P.length ≤ c := by
    obtain ⟨_, A, c, rfl, h, _⟩ := hp
    exact ⟨A, c, rfl, h⟩
  have hac := hs.ac
  have hR16 : s.R ≤ 65536 := (pow_le16 (a := s.a) (by omega)).2
  have hR1 : 1 ≤ s.R := Nat.pow_pos (by decide)
  have hC16 : s.C ≤ 65536 := (pow_le16 (a := s.c) (by omega)).2
  have hlc : lgI ((s.C : Nat) : Int) = s.c := lgI_pow s.c
  refine calls_W Tryz.func60 rfl Tryz.ntmps60 rfl ?_
  (refine W_seq ?_; refine W_region ?_)
  refine L_box rfl ?_
  intro g2 w1 B2 hg2 E1 hs1
  refine L_box rfl ?_
  intro g3 w2 B3 hg3 E2 hs2
  have C2 := B2.ext E2
  have E12 := E1.trans E2
  (refine Ls (X_assign (v := .slice _ _ _) rfl) ?_; refine Ls (X_assign (v := .slice _ _ _) rfl) ?_; refine L_nil ?_; refine tn ?_; refine W_seq ?_)
  refine W_draw (WJ w2 g2 g3 s.R) (by kernel_rfl) ⟨Ext.drew w2, rfl, rfl, (fun h => by simp at h), (fun h => by simp at h), (fun h => by simp at h), (fun h => by simp at h), (fun h => by simp at h), (fun h => by simp at h), (fun h => by simp at h), (fun h => by simp at h)⟩ ?_ ?_
  · intro i o ho L f w hL hdep hJ
    have hsz := hJ.e.size
    have hg2l := C2.lt
    have hwn : ∀ {o : Oper} {ops : Array Oper} {K : Prop}, o.guard = none → wants ⟨35, [], none⟩ ops f o = false → K := fun hg h => by rw [wants_none hg] at h; cases h
    match i, ho with
    | 0, ho =>
      obtain rfl := Option.some.inj ho
      refine ⟨fun _ => Run_val ((X_fld (show ev ⟨35, [], none⟩ f (.tmp 2) = _ from hJ.f2)).trans rfl) ?_, hwn rfl⟩
      exact hJ.step (Ext.refl _) rfl rfl (fun _ => .inr rfl) (fun h => .inl ⟨h, rfl⟩) (fun h => .inl ⟨h, rfl⟩) (fun h => ⟨h, rfl⟩) ⟨rfl, rfl⟩ rfl (fun h => .inl ⟨h, rfl, rfl⟩) hJ.d5
    | 1, ho =>
      obtain rfl := Option.some.inj ho
      have h0 := hJ.o0 (hdep ⟨0, .data⟩ (by simp) rfl)
      refine ⟨fun _ => Run_val (X_ld (cs := shC (s.R : Nat) (s.C : Nat) (s.B : Nat) (s.t : Nat)) (show ev ⟨35, [], none⟩ f (.tmp 9) = _ from h0) (C2.ext hJ.e) rfl) ?_, hwn rfl⟩
      exact hJ.step (Ext.refl _) rfl rfl (fun h => .inl ⟨h, rfl⟩) (fun _ => .inr rfl) (fun h => .inl ⟨h, rfl⟩) (fun h => ⟨h, rfl⟩) ⟨rfl, rfl⟩ rfl (fun h => .inl ⟨h, rfl, rfl⟩) hJ.d5
    | 2, ho =>
      obtain rfl := Option.some.inj ho
      have h1 := hJ.o1 (hdep ⟨1, .data⟩ (by simp) rfl)
      refine ⟨fun _ => Run_ex (X_makeD (w0 := w) s.R s.R (show ev ⟨35, [], none⟩ f (.tmp 10) = _ from h1) (show ev ⟨35, [], none⟩ f (.tmp 10) = _ from h1) rfl rfl (Nat.le_refl _) (by omega) (by omega) (Nat.le_refl _)) ?_, hwn rfl⟩
      rintro v w' ⟨E, k, rfl, hk, hBk⟩
      refine ⟨hJ.e.trans E, hJ.f2, hJ.f3, hJ.o0, hJ.o1, fun _ => ⟨k, rfl, by omega, hBk.lt, hBk, fun h4 q hq => ?_⟩, hJ.o3, fun h4 => ?_, fun h5 => ?_, fun _ => rfl, hJ.d6⟩
      · obtain ⟨q', h1, _, h3, _⟩ := hJ.o4 h4
        have : f 7 = .pointer (some ⟨q, 0, none⟩) := hq
        rw [h1] at this
        cases this
        omega
      · obtain ⟨q', h1, h2, h3, h4⟩ := hJ.o4 h4
        exact ⟨q', h1, h2, by have := E.size; omega, h4.ext E⟩
      · exact absurd (hJ.d5 h5) (by rw [hL]; simp)
    | 3, ho =>
      obtain rfl := Option.some.inj ho
      refine ⟨fun _ => Run_call (X_fn (vl := [kv 1]) rfl) (gbase 1 w) fun e w' ⟨he, E⟩ => ⟨_, he, ?_⟩, hwn rfl⟩
      exact hJ.step E rfl rfl (fun h => .inl ⟨h, rfl⟩) (fun h => .inl ⟨h, rfl⟩) (fun _ => .inr rfl) (fun h => ⟨h, rfl⟩) ⟨rfl, rfl⟩ rfl (fun h => .inl ⟨h, rfl, rfl⟩) hJ.d5
    | 4, ho =>
      obtain rfl := Option.some.inj ho
      have hL6 : ¬ L 6 = true := fun h => by have := hJ.d6 h; rw [hL] at this; cases this
      refine ⟨fun _ => Run_ex (alloc_new (w0 := w) (z' := exC 0 0) (Nat.le_refl _)) ?_, hwn rfl⟩
      rintro v w' ⟨E, q, rfl, hq, hBq⟩
      refine ⟨hJ.e.trans E, hJ.f2, hJ.f3, hJ.o0, hJ.o1, fun h2 => ?_, hJ.o3, fun h4 => ⟨q, rfl, by omega, hBq.lt, ?_⟩, hJ.o5, hJ.d5, fun _ => rfl⟩
      · obtain ⟨k, h1, h2', h3, h4, _⟩ := hJ.o2 h2
        refine ⟨k, h1, h2', by have := E.size; omega, h4.ext E, fun _ x hx => ?_⟩
        have : (Value.pointer (some ⟨q, 0, none⟩)) = .pointer (some ⟨x, 0, none⟩) := hx
        cases this
        omega
      · show Blk w' q _ (if L 6 = true then xc 1 else exC 0 0)
        rw [if_neg hL6]; exact hBq
    | 5, ho =>
      obtain rfl := Option.some.inj ho
      refine ⟨fun _ => Run_val (X_assign (v := f 11) rfl) ?_, hwn rfl⟩
      exact hJ.step (Ext.refl _) rfl rfl (fun h => .inl ⟨h, rfl⟩) (fun h => .inl ⟨h, rfl⟩) (fun h => .inl ⟨h, rfl⟩) (fun h => ⟨h, rfl⟩) ⟨rfl, rfl⟩ rfl (fun _ => .inr rfl) (fun _ => hdep ⟨2, .data⟩ (by simp) rfl)
    | 6, ho =>
      obtain rfl := Option.some.inj ho
      have hd : ∀ j, j ≤ 5 → L j = true := fun j hj => by
        match j, hj with
        | 0, _ => exact hdep ⟨0, .phase⟩ (by simp) rfl
        | 1, _ => exact hdep ⟨1, .phase⟩ (by simp) rfl
        | 2, _ => exact hdep ⟨2, .phase⟩ (by simp) rfl
        | 3, _ => exact hdep ⟨3, .phase⟩ (by simp) rfl
        | 4, _ => exact hdep ⟨4, .phase⟩ (by simp) rfl
        | 5, _ => exact hdep ⟨5, .phase⟩ (by simp) rfl
      obtain ⟨q, h1, h2, h3, h4⟩ := hJ.o4 (hd 4 (by omega))
      rw [hL, if_neg (by simp)] at h4
      obtain ⟨k, k1, k2, k3, k4, k5⟩ := hJ.o2 (hd 2 (by omega))
      have hqk := k5 (hd 4 (by omega)) q h1
      have hX := fun t pos af => X_storeA (P := Tryz.prog) (n := ⟨35, [], none⟩) (f := f) (w := w) (d := none) (t := t) (ty := 31) (pos := pos) (af := af) (g := none) (size := 2) (x := .tmp 7) (y := .tmp 12) (show ev ⟨35, [], none⟩ f (.tmp 7) = _ from h1) (show ev ⟨35, [], none⟩ f (.tmp 12) = _ from hJ.o3 (hd 3 (by omega))) rfl exC_cell h4 (by decide)
      have hE := grown_setRow w q ((exC 0 0).take 0 ++ xc 1 ++ (exC 0 0).drop (0 + 2)).toArray
      refine ⟨fun _ => Run_skip (hX _ _ _) ⟨hJ.e.then hE (fun g h => by cases h; omega), hJ.f2, hJ.f3, hJ.o0, hJ.o1, fun _ => ⟨k, k1, k2, by have := hE.size; omega, k4.grown hE (by simp; omega), fun _ x hx => k5 (hd 4 (by omega)) x hx⟩, hJ.o3, fun _ => ⟨q, h1, h2, by have := hE.size; omega, ?_⟩, hJ.o5, hJ.d5, fun _ => hd 4 (by omega)⟩, hwn rfl⟩
      show Blk _ q _ (if (true : Bool) = true then xc 1 else exC 0 0)
      rw [if_pos rfl]
      exact h4.setRow _
    | i + 7, ho => simp at ho
  · intro L f w3 hall hJ
    have hall : ∀ i, i < 7 → L i = true := fun i hi => hall i hi
    obtain ⟨k, k1, k2, k3, k4, k5⟩ := hJ.o2 (hall 2 (by omega))
    obtain ⟨q, q1, q2, q3, q4⟩ := hJ.o4 (hall 4 (by omega))
    rw [if_pos (hall 6 (by omega))] at q4
    have hqk := k5 (hall 4 (by omega)) q q1
    have f6 : f 6 = .slice (some ⟨k, 0, none⟩) s.R s.R := (hJ.o5 (hall 5 (by omega))).trans k1
    have E3 := hJ.e
    have f2 := hJ.f2
    have f3 := hJ.f3
    clear k5 hJ
    have hz2 := E12.size
    have hz3 := E3.size
    have ok3 : w3.ownsRow w.heap.size 31 2 (.slice (some ⟨k, 0, none⟩) s.R s.R) s.R (exs (raw (tabE s.R fun j => if j < 0 then pwE rho j else 0))) := by
      rw [tabE_zero] at k4
      have e : tabE s.R (fun j => if j < 0 then pwE rho j else 0) = tabE s.R fun _ => 0 := tabE_congr fun j _ => by rw [if_neg (by omega)]
      rw [e]
      exact own_of_blk k4 (by omega) (Nat.le_refl _) (by unfold maxLen; omega) (by rw [exs_len, raw_len, tabE_len]) (by rw [List.take_of_length_le (by rw [exs_len, raw_len, tabE_len]; exact Nat.le_refl _)])
    rw [fold f2, fold f3, fold f6, fold q1]
    (refine tn ?_; refine W_seq ?_; refine W_seq ?_; refine W_region ?_; refine Ls (X_move (v := .slice _ _ _) rfl) ?_; refine Ls (X_lenSlice rfl) ?_; refine Ls (X_move (v := .int _ _) rfl) ?_; refine L_nil ?_; refine tn ?_; refine W_block ?_)
    refine W_loop (fun z f w' => ∃ i, z = s.R - i ∧ i ≤ s.R ∧ f 2 = .pointer (some ⟨g2, 0, none⟩) ∧ f 3 = .pointer (some ⟨g3, 0, none⟩) ∧ f 6 = .slice (some ⟨k, 0, none⟩) s.R s.R ∧ f 7 = .pointer (some ⟨q, 0, none⟩) ∧ f 14 = .int .i64 (s.R : Nat) ∧ f 15 = .int .i64 (i : Nat) ∧ Ext w2 w' ∧ Blk w' q 31 (xc (pwE rho i)) ∧ w'.ownsRow w.heap.size 31 2 (.slice (some ⟨k, 0, none⟩) s.R s.R) s.R (exs (raw (tabE s.R fun j => if j < i then pwE rho j else 0)))) s.R ?_ ?_
    · exact ⟨0, rfl, by omega, rfl, rfl, rfl, rfl, rfl, rfl, E3, q4, ok3⟩
    · rintro z f wr ⟨i, hz, hi, f2, f3, f6, f7, f14, f15, hE, D7, o6⟩
      rw [fold f2, fold f3, fold f6, fold f7, fold f14, fold f15]
      have hEs := hE.size
      (refine W_seq ?_; refine W_region ?_; refine Ls (X_lss rfl rfl) ?_; refine L_nil ?_; refine tn ?_; refine W_seq ?_)
      refine W_condp rfl (fun h => ?_) (fun h => ?_)
      · have hlt : i < s.R := by omega
        have D3 := B3.ext hE
        (refine W_skip ?_; refine tn ?_; refine W_seq ?_; refine W_block ?_; refine W_seq ?_; refine W_region ?_; refine Ls (X_move (v := .int _ _) rfl) ?_; refine Ls (X_assign (v := .int _ _) rfl) ?_; refine L_nil ?_; refine tn ?_)
        apply W_dagE 7 (by kernel_rfl)
        (apply DW_x (fun r w hA hH => (X_move (v := .slice _ _ _) rfl).trans rfl); apply DW_x (fun r w hA hH => (X_move (v := .int _ _) rfl).trans rfl); apply DW_x (fun r w hA hH => (X_ldW rfl (D7.ext hA) rfl).trans rfl); apply DW_x (fun r w hA hH => (X_ldW rfl (D7.ext hA) rfl).trans rfl); apply DW_x (fun r w hA hH => (X_fld rfl).trans rfl); apply DW_x (fun r w hA hH => (X_ldA (size := 2) (l := xc rho) rfl (D3.ext hA) rfl rfl).trans rfl))
        ((with_reducible apply DW_fn); (exact fun _ => rfl); (exact fun _ => rfl); (exact fun r w hA hH => gexmul (pwE rho i) rho w))
        ((with_reducible exact D_end); (exact rfl); (repeat (first | exact .inr (.inr (fun _ _ => by with_reducible rfl)) | (refine And.intro ?_ ?_) | exact .inr (.inl rfl) | exact .inl (by decide +kernel) | exact trivial | exact .inr (.inr (fun _ _ => rfl)))); (try dsimp only [Nat.reduceAdd]))
        intro r w4 E4 _
        (refine Ls (X_indexSn rfl rfl (by omega)) ?_)
        refine L_storeRow (i := i) (l := xc (pwE rho i)) (own_ext o6 E4) rfl rfl (by omega) rfl exC_cell hlt ?_
        intro w5 o5 hg5 hs5
        refine L_storeW (l := xc (pwE rho i * rho)) rfl rfl rfl exC_cell ((D7.ext E4).grown hg5 (by simp; omega)) rfl ?_
        intro w6 D7' hg6 hs6
        (refine L_nil ?_; refine bn ?_; refine tn ?_; refine W_region ?_; refine Ls (X_addi rfl rfl (by omega)) ?_; refine Ls (X_move (v := .int _ _) rfl) ?_; refine L_nil ?_; refine tn ?_)
        have o6' := own_other o5 hg6 (fun g hg e => by
          obtain rfl : k = g := Option.some.inj hg
          exact hqk (Option.some.inj e))
        refine ⟨s.R - (i + 1), by omega, i + 1, rfl, by omega, rfl, rfl, rfl, rfl, rfl, rfl, ((hE.trans E4).then hg5 (fun g h => by cases h; omega)).then hg6 (fun g h => by cases h; omega), D7', ?_⟩
        rw [tabE_cells _ _ _ hlt] at o6'
        rw [show tabE s.R (fun j => if j < i + 1 then pwE rho j else 0) = tabE s.R fun j => if j = i then pwE rho i else if j < i then pwE rho j else 0 from tabE_congr fun j _ => by
          by_cases e1 : j = i
          · rw [if_pos (by omega), if_pos e1, e1]
          · rw [if_neg e1]
            by_cases e2 : j < i
            · rw [if_pos e2, if_pos (by omega)]
            · rw [if_neg e2, if_neg (by omega)]]
        exact o6'
      · have hiR : i = s.R := by omega
        rw [hiR] at o6
        have E0 := E12.trans hE
        have D3 := B3.ext hE
        have D2 := C2.ext hE
        obtain ⟨x, hx⟩ : ∃ x : Value, x = .slice (if cp = s.c then Ap else Ap.map (·.add (s.c * 2))) (P.length - s.c) (cp - s.c) := ⟨_, rfl⟩
        have hrx := fun y (E : Ext w y) => raw_drop (hp.ext E) rfl (i := s.c) (by omega)
        rw [← hx] at hrx
        have hx1 : x.oneCell' = true := by rw [hx]; rfl
        (refine W_exit ?_; refine te ?_; refine te ?_; refine bx ?_; refine tn ?_; refine W_seq ?_)
        apply W_dagE 9 (by kernel_rfl)
        (apply DW_x (fun r w hA hH => (X_fld rfl).trans rfl); apply DW_x (fun r w hA hH => (X_ld (cs := waC (.slice Ap P.length cp) (rho.a.val, rho.b.val) iv) rfl (D3.ext hA) rfl).trans rfl); apply DW_x (fun r w hA hH => (X_fld rfl).trans rfl); apply DW_x (fun r w hA hH => (X_ld (cs := shC (s.R : Nat) (s.C : Nat) (s.B : Nat) (s.t : Nat)) rfl (D2.ext hA) rfl).trans rfl))
        ((with_reducible apply DW_fn); (exact fun _ => rfl); (exact fun _ => rfl); (exact fun r w hA hH => gcpow ((s.C : Nat) : Int) (by omega) (by omega) w))
        rw [hlc]
        ((with_reducible apply DW_x); (exact fun r w hA hH => ((X_slice (size := 2) (i := s.c) (j := P.length) rfl (by exact ⟨_, rfl⟩) (by exact rfl) (by omega) hcp).trans (by rw [← hx])).trans rfl))
        ((with_reducible apply DW_fo); (exact fun _ => rfl); (exact fun _ => rfl); (exact fun r w hA hH => calls_own hA (geqt pl ph x (P.drop s.c) (by rw [List.length_drop]; omega) w ((hw.ext E0).ext hA) (hrx w (E0.trans hA)))); (exact fun _ _ _ _ _ _ E h => OwnF.ext E h))
        (apply DW_x (fun r w hA hH => (X_move (v := .slice _ _ _) rfl).trans rfl))
        ((with_reducible apply DW_x); (exact fun r w hA hH => (X_assign (v := r 6) rfl).trans rfl))
        ((with_reducible exact D_end); (exact rfl); (repeat (first | exact .inr (.inr (fun _ _ => by with_reducible rfl)) | (refine And.intro ?_ ?_) | exact .inr (.inl rfl) | exact .inl (by decide +kernel) | exact trivial | exact .inr (.inr (fun _ _ => rfl)))); (try dsimp only [Nat.reduceAdd]))
        intro r w4 E4 H4
        obtain ⟨bq, hbq, oq⟩ : OwnF wr 31 2 (r 6) (2 ^ (P.drop s.c).length) (exs (raw (Fd.eqT (P.drop s.c)))) w4 := H4 6
        (refine Ls (X_assign (v := .slice _ _ _) rfl) ?_; refine L_nil ?_; refine tn ?_; refine W_ret ?_)
        refine endQ_ret2 rfl rfl (v := r 6) (x := .slice _ _ _) rfl rfl ⟨r 6, _, rfl, E0.trans E4, ?_, ?_⟩
        · rw [List.length_drop, hP, show s.a + s.c - s.c = s.a by omega] at oq
          exact own_base oq (by have := E0.size; omega)
        · have e : pws rho s.R = tabE s.R fun j => if j < s.R then pwE rho j else 0 := by
            show tabE s.R (pwE rho) = _
            exact tabE_congr fun j hj => by rw [if_pos hj]
          rw [e]
          exact own_ext o6 E4
end Go.Proofs.YtpohjepbmgeplaaGreatDoor

/- Commitments: openings. -/
namespace Go.Proofs.YtpohjepbmgeplaaGreatDoor
open Go.RowKit Go.Proofs.K
open _root_.Fd (K E pw root trow tcol enc ccol comb combR)
open _root_.Cm (Sh pws pwE rowH rndH colsH pathH lv)

/-- an opening, in the machine -/
def pxC (rv nv cv pv : Value) : List Value := [rv, nv, cv, pv]
theorem pxC_cell {rv nv cv pv : Value} (h1 : rv.oneCell' = true) (h2 : nv.oneCell' = true) (h3 : cv.oneCell' = true) (h4 : pv.oneCell' = true) : ∀ v ∈ pxC rv nv cv pv, v.oneCell' = true := by
  intro v hv
  rcases List.mem_cons.1 hv with rfl | hv
  · exact h1
  · rcases List.mem_cons.1 hv with rfl | hv
    · exact h2
    · rcases List.mem_cons.1 hv with rfl | hv
      · exact h3
      · rcases List.mem_cons.1 hv with rfl | hv
        · exact h4
        · cases hv
def toE (p : Nat × Nat) : E := ⟨Fd.k p.1, Fd.k p.2⟩
theorem raw_toE {P : List (Nat × Nat)} (h : ∀ x ∈ P, isE x) : raw (P.map toE) = P := by
  unfold raw
  rw [List.map_map]
  conv => rhs; rw [← List.map_id P]
  refine List.map_congr_left fun x hx => ?_
  obtain ⟨h1, h2⟩ := h x hx
  exact Prod.ext (Fd.k_of h1) (Fd.k_of h2)
theorem toE_val {p : Nat × Nat} (h : isE p) : ((toE p).a.val, (toE p).b.val) = p := Prod.ext (Fd.k_of h.1) (Fd.k_of h.2)
def toI (I : List Int) : List Nat := I.map Int.toNat
theorem toI_len (I : List Int) : (toI I).length = I.length := by unfold toI; simp
theorem toI_ints {I : List Int} (h : ∀ i ∈ I, 0 ≤ i) : I.map (Value.int .i64) = ints .i64 (toI I) := by
  unfold ints toI
  rw [List.map_map]
  refine List.map_congr_left fun i hi => ?_
  have := h i hi
  show Value.int .i64 i = .int .i64 ((i.toNat : Nat) : Int)
  rw [Int.toNat_of_nonneg this]
theorem toI_srt {I : List Int} (h : ∀ i ∈ I, 0 ≤ i) (hp : I.Pairwise (· < ·)) : (toI I).Pairwise (· < ·) := by
  unfold toI
  rw [List.pairwise_map]
  refine hp.imp_of_mem fun {a b} ha hb hab => ?_
  have := h a ha
  have := h b hb
  omega
theorem toI_lt {I : List Int} {n : Nat} (h : ∀ i ∈ I, 0 ≤ i ∧ i < (n : Int)) : ∀ i ∈ toI I, i < n := by
  intro i hi
  obtain ⟨x, hx, rfl⟩ := List.mem_map.1 hi
  have := h x hx
  omega
/-- the bytes of a column of the field -/
def by8 (l : List K) : List Nat := encB (vals l)
/-- the rows of a table, as numbers -/
def rowsM (t : List K) (s : Sh) : List (List Nat) := (List.range s.R).map fun r => vals (trow t s.C r)
theorem rowsM_len (t : List K) (s : Sh) : (rowsM t s).length = s.R := by unfold rowsM; simp
theorem colM_rows (t : List K) (s : Sh) {j : Nat} (h : j < s.C) : colM (rowsM t s) j = vals (tcol t s.R s.C j) := by
  unfold colM rowsM tcol vals
  rw [List.map_map, List.map_map]
  refine List.map_congr_left fun r hr => ?_
  show (((trow t s.C r).map fun x => x.val).getD j 0) = _
  unfold Fd.trow
  rw [List.map_map, Fd.rng_getD _ _ h]; rfl
theorem colM_cws (t : List K) (s : Sh) {j : Nat} (h : j < s.n) : colM (cws t s) j = vals (ccol t s.R s.C s.m j) := by
  unfold colM cws ccol vals
  rw [List.map_map, List.map_map]
  refine List.map_congr_left fun r hr => ?_
  show (((enc (trow t s.C r) (s.c + s.b)).map fun x => x.val).getD j 0) = _
  unfold Fd.enc
  have h' : j < 2 ^ (s.c + s.b) := h
  rw [List.map_map, Fd.rng_getD _ _ h']; rfl
theorem leaves_lv (t : List K) (s : Sh) : ((List.range s.n).map fun j => encB (colM (cws t s) j)) = lv by8 t s := by
  unfold Cm.lv
  refine List.map_congr_left fun j hj => ?_
  rw [colM_cws t s (List.mem_range.1 hj)]; rfl
theorem cws_row (t : List K) (s : Sh) : ∀ r ∈ cws t s, r.length = s.n := by
  intro r hr
  obtain ⟨x, _, rfl⟩ := List.mem_map.1 hr
  rw [vals_len, Fd.enc_len]; rfl
theorem rowsM_row (t : List K) (s : Sh) : ∀ r ∈ rowsM t s, r.length = s.C := by
  intro r hr
  obtain ⟨x, _, rfl⟩ := List.mem_map.1 hr
  rw [vals_len, Fd.trow_len]
theorem lv_ok (t : List K) (s : Sh) (hR : s.R ≤ 65536) : ∀ b ∈ lv by8 t s, Sha.bytesOk b ∧ b.length ≤ 100000000 := by
  intro b hb
  obtain ⟨j, _, rfl⟩ := List.mem_map.1 hb
  refine ⟨encB_ok _, ?_⟩
  show (encB (vals _)).length ≤ _
  rw [encB_len, vals_len, Fd.ccol_len]; omega
set_option maxRecDepth 100000 in
set_option maxHeartbeats 4000000 in
theorem gcroot (lo hi : Nat) (v : Value) (t : List K) (ht : t.length ≤ 1000000) (R C B T : Int) (hR : I64 R) (hC : I64 C) (hB : I64 B) (hT : I64 T) (w : World) (hw : Tb w) (hr : Row w lo hi 1 v t.length (ints .u64 (vals t))) :
    Calls Tryz.prog 14 #[v, .agg (shC R C B T).toArray] w fun e w' => Ext w w' ∧ ((∃ s : Sh, s.Ok ∧ R = ((s.R : Nat) : Int) ∧ C = ((s.C : Nat) : Int) ∧ B = ((s.B : Nat) : Int) ∧ T = ((s.t : Nat) : Int) ∧ lgI (t.length : Nat) = ((s.a + s.c : Nat) : Int) ∧ e = .returned (.tuple #[.agg (ints .u8 (Cm.rt lf nd by8 t s)).toArray, .int .i64 0])) ∨ (¬ SOk R C B T (lgI (t.length : Nat)) ∧ e = .returned (.tuple #[.agg (ints .u8 (List.replicate 32 0)).toArray, .int .i64 1]))) := by
  have hv1 := row_cell1 hr
  refine calls_W Tryz.func14 rfl Tryz.ntmps14 rfl ?_
  (refine W_seq ?_; refine W_region ?_)
  refine L_box rfl ?_
  intro g3 w1 B3 hg3 E1 hs1
  refine L_alloc ?_
  intro g4 w2 B4 hg4 E2 hs2
  have C3 := B3.ext E2
  have E12 := E1.trans E2
  (refine Ls (X_assign (v := .int _ _) rfl) ?_; refine L_nil ?_; refine tn ?_; refine W_seq ?_; refine W_region ?_; refine Ls (X_move (v := v) rfl) ?_; refine Ls (X_ldW (cs := shC R C B T) rfl C3 rfl) ?_)
  refine L_fo (F := fun u w' => Ext w2 w' ∧ ((∃ s : Sh, s.Ok ∧ R = ((s.R : Nat) : Int) ∧ C = ((s.C : Nat) : Int) ∧ B = ((s.B : Nat) : Int) ∧ T = ((s.t : Nat) : Int) ∧ lgI (t.length : Nat) = ((s.a + s.c : Nat) : Int) ∧ t.length = s.R * s.C ∧ ∃ q, u = .tuple #[q, .int .i64 0] ∧ PartN (fun k => w2.heap.size ≤ k ∧ k < w'.heap.size) w' .u64 q (cws t s)) ∨ (¬ SOk R C B T (lgI (t.length : Nat)) ∧ u = .tuple #[.slice none 0 0, .int .i64 1]))) rfl ((gcodewords lo hi v t ht R C B T hR hC hB hT w2 (hw.ext E12) (hr.ext E12)).mono fun e w' ⟨h1, h2⟩ => by
    rcases h2 with ⟨s, q1, q2, q3, q4, q5, q6, q7, q, h3, h4⟩ | ⟨h2, h3⟩
    · exact ⟨_, h3, h1, .inl ⟨s, q1, q2, q3, q4, q5, q6, q7, q, rfl, h4⟩⟩
    · exact ⟨_, h3, h1, .inr ⟨h2, rfl⟩⟩) ?_
  rintro _ w3 ⟨E3, ⟨s, hs, hsR, hsC, hsB, hsT, hlog, hn, q, rfl, hq⟩ | ⟨hno, rfl⟩⟩
  · have hR16 : s.R ≤ 65536 := (pow_le16 (a := s.a) (by have := hs.ac; omega)).2
    have hR1 : 1 ≤ s.R := Nat.pow_pos (by decide)
    have hn16 : s.n ≤ 65536 := (pow_le16 hs.cb).2
    have hn1 : 1 ≤ s.n := Nat.pow_pos (by decide)
    obtain ⟨Aq, cq, rfl, _⟩ := hq.form
    have D4 := B4.ext E3
    (refine Ls (X_move (v := .tuple _) rfl) ?_; refine Ls (X_extract rfl rfl) ?_; refine Ls (X_extract rfl rfl) ?_; refine Ls (X_assign (v := .slice _ _ _) rfl) ?_; refine Ls (X_assign (v := .int _ _) rfl) ?_; refine L_nil ?_; refine tn ?_; refine W_seq ?_; refine W_seq ?_; refine W_region ?_; refine Ls (X_move (v := .int _ _) rfl) ?_; refine Ls (X_neq rfl rfl) ?_; refine L_nil ?_; refine tn ?_)
    refine W_condF rfl ?_
    (refine W_skip ?_; refine tn ?_; refine W_seq ?_; refine W_region ?_; refine Ls (X_move (v := .slice _ _ _) rfl) ?_)
    refine L_fo rfl (gleaves _ _ (cws t s) s.n (cws_row t s) (by rw [cws_len]; exact hR1) (by rw [cws_len]; exact hR16) hn16 w3 hq) ?_
    rintro q4 w4 ⟨E4, P4⟩
    rw [leaves_lv] at P4
    obtain ⟨A4, c4, rfl, _⟩ := P4.form
    skip
    refine L_fv rfl (gmroot _ _ (lv by8 t s) (by rw [Cm.lv_len]; exact hn1) (by rw [Cm.lv_len]; exact hn16) (lv_ok t s hR16) w4 (hw.ext (E12.trans (E3.trans E4))) P4) ?_
    intro w5 E5
    have hroot : (Mk.root lf nd (lv by8 t s)).length = 32 := (tree_len _ (hash_ok _) (by rw [List.length_map, Cm.lv_len]; exact hn1)).1
    (refine Ls (X_extract rfl rfl) ?_; refine Ls (X_extract rfl rfl) ?_)
    refine L_storeW (size := 32) (l := ints .u8 (Mk.root lf nd (lv by8 t s))) rfl rfl (by rw [ints_len]; exact hroot) ints_cell (D4.ext (E4.trans E5)) rfl ?_
    intro w8 B8 hg8 _
    (refine Ls (X_assign (v := .int _ _) rfl) ?_; refine L_nil ?_; refine tn ?_; refine W_ret ?_)
    refine endQ_res rfl rfl (Res.cellA inferInstance rfl (B8.range (fun j u h => by simpa using h)) (by rw [ints_len]; exact hroot) (Res.tmp rfl .nil)) ?_
    exact ⟨(E12.trans (E3.trans (E4.trans E5))).then hg8 (fun g h => by cases h; have := E1.size; omega), .inl ⟨s, hs, hsR, hsC, hsB, hsT, hlog, rfl⟩⟩
  · (refine Ls (X_move (v := .tuple _) rfl) ?_; refine Ls (X_extract rfl rfl) ?_; refine Ls (X_extract rfl rfl) ?_; refine Ls (X_assign (v := .slice _ _ _) rfl) ?_; refine Ls (X_assign (v := .int _ _) rfl) ?_; refine L_nil ?_; refine tn ?_; refine W_seq ?_; refine W_seq ?_; refine W_region ?_; refine Ls (X_move (v := .int _ _) rfl) ?_; refine Ls (X_neq rfl rfl) ?_; refine L_nil ?_; refine tn ?_)
    refine W_condT rfl ?_
    (refine W_seq ?_; refine W_region ?_)
    refine Ls (X_arrZero (len := 32) (z := [.int .u8 0])) ?_
    (refine Ls (X_move (v := .int _ _) rfl) ?_)
    refine L_storeW (size := 32) (l := ints .u8 (List.replicate 32 0)) rfl rfl rfl ints_cell (B4.ext E3) rfl ?_
    intro w8 B8 hg8 _
    (refine Ls (X_assign (v := .int _ _) rfl) ?_; refine L_nil ?_; refine tn ?_; refine W_ret ?_; refine tr ?_)
    refine endQ_res rfl rfl (Res.cellA inferInstance rfl (B8.range (fun j u h => by simpa using h)) rfl (Res.tmp rfl .nil)) ?_
    exact ⟨(E12.trans E3).then hg8 (fun g h => by cases h; have := E1.size; omega), .inr ⟨hno, rfl⟩⟩
end Go.Proofs.YtpohjepbmgeplaaGreatDoor

/- Commitments: openings, the program's. -/
namespace Go.Proofs.YtpohjepbmgeplaaGreatDoor
open Go.RowKit Go.Proofs.K
open _root_.Fd (K E pw root trow tcol enc ccol comb combR)
open _root_.Cm (Sh pws pwE rowH rndH colsH pathH lv)

theorem sh_inj {s s' : Sh} (h1 : ((s.R : Nat) : Int) = ((s'.R : Nat) : Int)) (h2 : ((s.C : Nat) : Int) = ((s'.C : Nat) : Int)) (h3 : ((s.B : Nat) : Int) = ((s'.B : Nat) : Int)) (h4 : ((s.t : Nat) : Int) = ((s'.t : Nat) : Int)) : s = s' := by
  have i1 : s.a = s'.a := (Nat.pow_right_inj (by decide)).1 (Int.ofNat.inj h1)
  have i2 : s.c = s'.c := (Nat.pow_right_inj (by decide)).1 (Int.ofNat.inj h2)
  have i3 : s.b = s'.b := (Nat.pow_right_inj (by decide)).1 (Int.ofNat.inj h3)
  have i4 : s.t = s'.t := Int.ofNat.inj h4
  cases s; cases s'
  simp_all
/-- a shape and a position that are valid for a table of n numbers -/
def GOk (R C B T : Int) (n : Nat) (P : List (Nat × Nat)) (rho : Nat × Nat) (I : List Int) : Prop :=
  ∃ s : Sh, s.Ok ∧ R = ((s.R : Nat) : Int) ∧ C = ((s.C : Nat) : Int) ∧ B = ((s.B : Nat) : Int) ∧ T = ((s.t : Nat) : Int) ∧ lgI (n : Nat) = ((s.a + s.c : Nat) : Int) ∧ PosOk s P rho I
/-- an honest opening, in memory -/
def HonAt (w0 w : World) (t : List K) (s : Sh) (P : List (Nat × Nat)) (rho : Nat × Nat) (I : List Int) (rv nv cv qv : Value) : Prop :=
  w.ownsRow w0.heap.size 31 2 rv s.C (exs (raw (rowH t s (P.map toE)))) ∧ w.ownsRow w0.heap.size 31 2 nv s.C (exs (raw (rndH t s (toE rho)))) ∧
  PartN (fun k => w0.heap.size ≤ k) w .u64 cv ((colsH t s (toI I)).map vals) ∧ w.ownsRow w0.heap.size 43 32 qv (pathH lf nd by8 t s (toI I)).length (dgs (pathH lf nd by8 t s (toI I)))
/-- the loop that combines the rows -/
structure OpL (gx g11 g12 B0 : Nat) (q1 q2 : Value) (W1 W2 : List E) (C : Nat) (c1 c2 : Nat → E) (i j : Nat) (y : World) : Prop where
  st : ∃ v1 v2, Blk y gx 50 (pxC v1 v2 (.slice none 0 0) (.slice none 0 0)) ∧ y.ownsRow B0 31 2 v1 i (exs (raw ((List.range i).map c1))) ∧ y.ownsRow B0 31 2 v2 j (exs (raw ((List.range j).map c2))) ∧ (∀ q, v1.ownBlock = some q → v2.ownBlock ≠ some q)
  b1 : Blk y g11 23 [q1]
  b2 : Blk y g12 23 [q2]
  r1 : y.ownsRow 0 31 2 q1 W1.length (exs (raw W1)) ∧ ∀ g, q1.ownBlock = some g → g < B0
  r2 : y.ownsRow 0 31 2 q2 W2.length (exs (raw W2)) ∧ ∀ g, q2.ownBlock = some g → g < B0
  l : i ≤ C
theorem range_snoc {α : Type} (c : Nat → α) (i : Nat) : (List.range (i + 1)).map c = (List.range i).map c ++ [c i] := by rw [List.range_succ, List.map_append]; rfl
theorem OpL.calm {gx g11 g12 B0 : Nat} {q1 q2 : Value} {W1 W2 : List E} {C : Nat} {c1 c2 : Nat → E} {i j B : Nat} {x y : World} (h : OpL gx g11 g12 B0 q1 q2 W1 W2 C c1 c2 i j x) (K : K.Calm B x y) : OpL gx g11 g12 B0 q1 q2 W1 W2 C c1 c2 i j y := by
  obtain ⟨⟨v1, v2, h1, h2, h3, h4⟩, b1, b2, r1, r2, l⟩ := h
  exact ⟨⟨v1, v2, K.blk h1, K.own h2, K.own h3, h4⟩, K.blk b1, K.blk b2, ⟨K.own r1.1, r1.2⟩, ⟨K.own r2.1, r2.2⟩, l⟩
theorem keepS_grown {a b : World} {g : Nat} (h : a.grownBy b (some g)) : KeepS (fun k => k = g) a b := ⟨h.size, fun k o hk _ hne => (h.block k (lt_of_heap hk) (fun e => hne (Option.some.inj e))).trans hk⟩
def tupAt (v : Value) (i : Nat) : Value := match v with | .tuple a => a.getD i undef | _ => undef
def aggAt (v : Value) (i : Nat) : Value := match v with | .agg a => a.getD i undef | _ => undef
/-- the loop that takes the opened columns -/
structure OpC (gx Bl : Nat) (v1 v2 : Value) (L1 L2 : List E) (B1 : Nat) (I : List Nat) (R n : Nat) (cc : Nat → List K) (j : Nat) (y : World) : Prop where
  st : ∃ (v3 : Value) (xs : List Value), Blk y gx 50 (pxC v1 v2 v3 (.slice none 0 0)) ∧ y.ownsRow Bl 22 1 v3 (I.filter fun i => Nat.blt i j).length xs ∧ (∀ (k : Nat) (x : Value) (i : Nat), xs[k]? = some x → (I.filter fun i => Nat.blt i j)[k]? = some i → y.ownsRow Bl 29 1 x R (ints .u64 (vals (cc i))))
  o1 : y.ownsRow B1 31 2 v1 L1.length (exs (raw L1))
  o2 : y.ownsRow B1 31 2 v2 L2.length (exs (raw L2))
  l : j ≤ n
theorem OpC.calm {gx Bl : Nat} {v1 v2 : Value} {L1 L2 : List E} {B1 : Nat} {I : List Nat} {R n : Nat} {cc : Nat → List K} {j B : Nat} {x y : World} (h : OpC gx Bl v1 v2 L1 L2 B1 I R n cc j x) (K : K.Calm B x y) : OpC gx Bl v1 v2 L1 L2 B1 I R n cc j y := by
  obtain ⟨⟨v3, xs, h1, h2, h3⟩, o1, o2, l⟩ := h
  exact ⟨⟨v3, xs, K.blk h1, K.own h2, fun k x i a b => K.own (h3 k x i a b)⟩, K.own o1, K.own o2, l⟩
theorem filt_eq : ∀ {I : List Nat}, I.Pairwise (· ≠ ·) → ∀ (j : Nat), (I.filter fun i => i == j) = if j ∈ I then [j] else []
  | [], _, j => rfl
  | a :: I, h, j => by
    obtain ⟨h1, h2⟩ := List.pairwise_cons.1 h
    rw [List.filter_cons, filt_eq h2 j]
    by_cases e : a = j
    · subst e
      have hn : a ∉ I := fun hm => h1 a hm rfl
      simp [hn]
    · have e' : ¬ j = a := fun h => e h.symm
      simp [e, e']
theorem filt_succ {I : List Nat} (hp : I.Pairwise (· < ·)) (j : Nat) : (I.filter fun i => Nat.blt i (j + 1)) = (I.filter fun i => Nat.blt i j) ++ (if j ∈ I then [j] else []) := by
  have h1 := split_sorted j (I.filter fun i => Nat.blt i (j + 1)) (hp.filter _)
  rw [List.filter_filter, List.filter_filter] at h1
  rw [h1]
  congr 1
  · refine List.filter_congr fun i _ => ?_
    rw [Bool.eq_iff_iff]
    simp only [Bool.and_eq_true, Nat.blt_eq]
    omega
  · have h2 : (I.filter fun i => Nat.ble j i && Nat.blt i (j + 1)) = I.filter fun i => i == j := List.filter_congr fun i _ => by
      rw [Bool.eq_iff_iff]
      simp only [Bool.and_eq_true, Nat.blt_eq, Nat.ble_eq, beq_iff_eq]
      omega
    rw [h2]
    exact filt_eq (hp.imp fun h => Nat.ne_of_lt h) j
set_option maxRecDepth 100000 in
set_option maxHeartbeats 8000000 in
theorem gcopen (lo hi : Nat) (v : Value) (t : List K) (ht : t.length ≤ 1000000) (R C B T : Int) (hR : I64 R) (hC : I64 C) (hB : I64 B) (hT : I64 T) (pl ph il ih : Nat) (pv iv : Value) (P : List (Nat × Nat)) (rho : Nat × Nat) (I : List Int) (hPl : P.length ≤ 1000000) (hIl : I.length ≤ 1000000)
    (w : World) (hw : Tb w) (hr : Row w lo hi 1 v t.length (ints .u64 (vals t))) (hp : Row w pl ph 2 pv P.length (exs P)) (hi' : Row w il ih 1 iv I.length (I.map (Value.int .i64))) :
    Calls Tryz.prog 16 #[v, .agg (shC R C B T).toArray, .agg (waC pv rho iv).toArray] w fun e w' => Ext w w' ∧ ((∃ s : Sh, s.Ok ∧ R = ((s.R : Nat) : Int) ∧ C = ((s.C : Nat) : Int) ∧ B = ((s.B : Nat) : Int) ∧ T = ((s.t : Nat) : Int) ∧ lgI (t.length : Nat) = ((s.a + s.c : Nat) : Int) ∧ PosOk s P rho I ∧
      ∃ rv nv cv qv, e = .returned (.tuple #[.agg (pxC rv nv cv qv).toArray, .int .i64 0]) ∧ HonAt w w' t s P rho I rv nv cv qv) ∨ (¬ GOk R C B T t.length P rho I ∧ e = .returned (.tuple #[.agg (pxC (.slice none 0 0) (.slice none 0 0) (.slice none 0 0) (.slice none 0 0)).toArray, .int .i64 1]))) := by
  have hv1 := row_cell1 hr
  have hp1 := row_cell1 hp
  have hi1 := row_cell1 hi'
  have hr := hr.tightN (by decide)
  have hlb := lgI_bd (n := ((t.length : Nat) : Int)) (by omega)
  refine calls_T Tryz.func16 rfl Tryz.ntmps16 rfl ?_
  refine T_seq ?_
  (refine W_region ?_)
  refine L_box rfl ?_
  intro g4 w1 B4 hg4 E1 hs1
  refine L_box rfl ?_
  intro g5 w2 B5 hg5 E2 hs2
  refine L_alloc ?_
  intro g6 w3 B6 hg6 E3 hs3
  have C4 := B4.ext (E2.trans E3)
  have C5 := B5.ext E3
  have E13 := E1.trans (E2.trans E3)
  (refine Ls (X_assign (v := .int _ _) rfl) ?_; refine L_nil ?_; refine tn ?_)
  refine T_seq ?_
  (refine W_region ?_; refine Ls (X_move (v := v) rfl) ?_; refine Ls (X_ldW (cs := shC R C B T) rfl C4 rfl) ?_)
  refine L_fo (F := fun u w' => Ext w3 w' ∧ ((SOk R C B T (lgI (t.length : Nat)) ∧ ∃ q, u = .tuple #[q, .bool true] ∧ RowsAt w3 w' lo w.heap.size q t R.toNat C.toNat) ∨ (¬ SOk R C B T (lgI (t.length : Nat)) ∧ u = .tuple #[.slice none 0 0, .bool false]))) rfl ((grows lo w.heap.size v t ht R C B T hR hC hB hT w3 (hr.ext E13)).mono fun e w' ⟨h1, h2⟩ => by
    rcases h2 with ⟨h2, q, h3, h4⟩ | ⟨h2, h3⟩
    · exact ⟨_, h3, h1, .inl ⟨h2, q, rfl, h4⟩⟩
    · exact ⟨_, h3, h1, .inr ⟨h2, rfl⟩⟩) ?_
  rintro _ w4 ⟨E4, ⟨hok, q, rfl, xs, o4, hx4⟩ | ⟨hno, rfl⟩⟩
  · obtain ⟨s, hs, rfl, rfl, rfl, rfl, hlog⟩ := hok.sh
    rw [Int.toNat_natCast] at o4 hx4
    have hq1 := row_cell1 (Row.of_own o4)
    have C4 := C4.ext E4
    have C5 := C5.ext E4
    have C6 := B6.ext E4
    have E14 := E13.trans E4
    (refine Ls (X_move (v := .tuple _) rfl) ?_; refine Ls (X_extract rfl rfl) ?_; refine Ls (X_extract rfl rfl) ?_; refine Ls (X_assign (v := q) rfl) ?_; refine Ls (X_assign (v := .bool _) rfl) ?_; refine L_nil ?_; refine tn ?_)
    refine T_seq ?_
    (refine W_seq ?_)
    apply W_dagE 8 (by kernel_rfl)
    (apply DW_x (fun r w hA hH => (X_move (v := .bool _) rfl).trans rfl); apply DW_x (fun r w hA hH => (X_not rfl).trans rfl); apply DW_x (fun r w hA hH => (X_move (v := .bool _) rfl).trans rfl); apply DW_on2 rfl rfl (fun _ => rfl) (fun r w hA hH => (X_ldW (cs := shC (s.R : Nat) (s.C : Nat) (s.B : Nat) (s.t : Nat)) rfl (C4.ext hA) rfl).trans rfl); apply DW_on2 rfl rfl (fun _ => rfl) (fun r w hA hH => (X_move (v := v) rfl).trans rfl))
    (apply DW_on2 rfl rfl (fun _ => rfl) (fun r w hA hH => (X_lenRow (v := v) rfl hr).trans rfl))
    ((with_reducible apply DW_fn2); (exact rfl); (exact rfl); (exact fun _ => rfl); (exact fun _ => rfl); (exact fun r w hA hH => gcpow ((t.length : Nat) : Int) (by omega) (by omega) w))
    rw [hlog]
    (apply DW_on2 rfl rfl (fun _ => rfl) (fun r w hA hH => (X_ldW (cs := waC pv rho iv) rfl (C5.ext hA) rfl).trans rfl))
    ((with_reducible exact D_end); (exact rfl); (repeat (first | exact .inr (.inr (fun _ _ => by with_reducible rfl)) | (refine And.intro ?_ ?_) | exact .inr (.inl rfl) | exact .inl (by decide +kernel) | exact trivial | exact .inr (.inr (fun _ _ => rfl)))); (try dsimp only [Nat.reduceAdd]))
    intro r5 w5 E5 _
    have C4 := C4.ext E5
    have C5 := C5.ext E5
    have C6 := C6.ext E5
    have E15 := E14.trans E5
    refine L_strip rfl rfl rfl ?_
    by_cases hpos : PosOk s P rho I
    · refine L_fv rfl ((gpositioned s hs pl ph il ih pv iv P rho I hPl hIl w5 (hp.ext E15) (hi'.ext E15)).mono fun e w' ⟨b, h1, h2, h3⟩ => by have hb : b = true := h2.2 hpos; rw [hb] at h1; exact ⟨h1, h3⟩) ?_
      intro w6 E6
      have C4 := C4.ext E6
      have C5 := C5.ext E6
      have C6 := C6.ext E6
      have E16 := E15.trans E6
      have hPe := raw_toE hpos.pv
      have hPel : (P.map toE).length = s.a + s.c := by rw [List.length_map]; exact hpos.p
      have hrhoe := toE_val hpos.rv
      obtain ⟨W1, hW1⟩ : ∃ W1, W1 = Fd.eqT ((P.map toE).drop s.c) := ⟨_, rfl⟩
      obtain ⟨W2, hW2⟩ : ∃ W2, W2 = pws (toE rho) s.R := ⟨_, rfl⟩
      have hW1l : W1.length = s.R := by rw [hW1, Fd.eqT_len, List.length_drop, hPel, show s.a + s.c - s.c = s.a by omega]; rfl
      have hW2l : W2.length = s.R := by rw [hW2, pws_len]
      have hR16 : s.R ≤ 65536 := (pow_le16 (a := s.a) (by have := hs.ac; omega)).2
      have hC16 : s.C ≤ 65536 := (pow_le16 (a := s.c) (by have := hs.ac; omega)).2
      have hR1 : 1 ≤ s.R := Nat.pow_pos (by decide)
      have hcw := gcweights s hs pl ph pv iv hi1 (P.map toE) (toE rho) hPel
      rw [hrhoe, hPe, ← hW1, ← hW2] at hcw
      (refine Lg2 rfl rfl rfl (X_not rfl) ?_; refine Ls (X_pickF (v := .bool _) rfl rfl) ?_; refine L_nil ?_; refine tn ?_; refine W_condF rfl ?_; refine W_skip ?_; refine tn ?_)
      refine T_seq ?_
      (refine W_region ?_)
      refine L_alloc ?_
      intro gx w7 Bx hgx E7 hs7
      have E17 := E16.trans E7
      (refine L_nil ?_; refine tn ?_)
      refine T_seq ?_
      (refine W_region ?_; refine Ls (X_ldW (cs := shC (s.R : Nat) (s.C : Nat) (s.B : Nat) (s.t : Nat)) rfl (C4.ext E7) rfl) ?_; refine Ls (X_ldW (cs := waC pv rho iv) rfl (C5.ext E7) rfl) ?_)
      refine L_fo (F := fun u w' => ∃ q1 q2, u = .tuple #[q1, q2] ∧ Ext w7 w' ∧ w'.ownsRow w7.heap.size 31 2 q1 s.R (exs (raw W1)) ∧ w'.ownsRow w7.heap.size 31 2 q2 s.R (exs (raw W2))) rfl ((hcw w7 (hw.ext E17) ((hp.ext E17).re (by rw [List.length_map]) rfl)).mono fun e w' ⟨q1, q2, h1, h2⟩ => ⟨_, h1, q1, q2, rfl, h2⟩) ?_
      rintro _ w8 ⟨q1, q2, rfl, E8, oq1, oq2⟩
      have hq11 := row_cell1 (Row.of_own oq1)
      have hq21 := row_cell1 (Row.of_own oq2)
      (refine Ls (X_move (v := .tuple _) rfl) ?_; refine Ls (X_extract rfl rfl) ?_; refine Ls (X_extract rfl rfl) ?_)
      refine L_alloc ?_
      intro g11 w9 B11 hg11 E9 hs9
      refine L_alloc ?_
      intro g12 w10 B12 hg12 E10 hs10
      refine L_store1 (v := q1) rfl rfl hq11 (B11.ext E10) (by simp) ?_
      intro w11 D11 hg11' hs11
      refine L_store1 (v := q2) rfl rfl hq21 (B12.grown hg11' (by simp; omega)) (by simp) ?_
      intro w12 D12 hg12' hs12
      have D11 := D11.grown hg12' (by simp; omega)
      have hz8 := E8.size
      have E812 : Ext w8 w12 := ((E9.trans E10).then hg11' (fun g h => by cases h; omega)).then hg12' (fun g h => by cases h; omega)
      have E112 := E17.trans (E8.trans E812)
      (refine L_nil ?_; refine tn ?_)
      refine T_seq2 ?_
      (refine W_region ?_; refine Ls (X_move (v := q) rfl) ?_)
      refine L_fo rfl (gcolsMk q hq1 w12) ?_
      rintro qc wl ⟨b, rfl, El, Bb, hb⟩
      (refine L_nil ?_; refine tn ?_)
      have E1l := E112.trans El
      have hz7 := E7.size
      have hz17 := E17.size
      have hz46 : w4.heap.size ≤ w6.heap.size := (E5.trans E6).size
      have hzl := El.size
      have hz14 := E14.size
      have hz3' := E13.size
      have hz4' := E4.size
      have hz1' := (E1.trans E2).size
      have hz1'' := E3.size
      have hbl := Bb.lt
      have hxs : xs.length = s.R := by rw [o4.1, Nat.mul_one]
      have hPart : PartN (fun k => k < w4.heap.size) wl .u64 q (rowsM t s) := by
        have E4l : Ext w4 wl := E5.trans (E6.trans (E7.trans (E8.trans (E812.trans El))))
        refine (show PartN (fun k => k < w4.heap.size) w4 .u64 q (rowsM t s) from ⟨xs, by rw [rowsM_len]; exact hxs, ?_, fun r x y hx hy => ?_⟩).ext E4l
        · rw [rowsM_len]
          exact (RowN.of_own o4).mono fun k hk => hk.2
        · have hrl : r < s.R := by have := (List.getElem?_eq_some_iff.1 hx).1; omega
          unfold rowsM at hy
          rw [List.getElem?_map, List.getElem?_range hrl] at hy
          cases hy
          exact ((RowN.of (hx4 r x hx)).mono fun k hk => by show k < w4.heap.size; omega).re (by rw [vals_len, Fd.trow_len]) rfl
      obtain ⟨c1, hc1⟩ : ∃ c1 : Nat → E, c1 = fun c => comb W1 (tcol t s.R s.C c) := ⟨_, rfl⟩
      obtain ⟨c2, hc2⟩ : ∃ c2 : Nat → E, c2 = fun c => comb W2 (tcol t s.R s.C c) := ⟨_, rfl⟩
      refine T_rangeM (ps := [47, 48]) (fun k => wl.heap.size ≤ k ∨ k = gx) rfl (enters_of Tryz.func118 (by kernel_rfl) rfl) (fun i vs a h => by obtain ⟨_, _, rfl, _⟩ := h; rfl) (gcols (fun k => wl.heap.size ≤ k ∨ k = gx) (fun k => k < w4.heap.size) b q (rowsM t s) s.C (rowsM_row t s) (by rw [rowsM_len]; exact hR1) (by rw [rowsM_len]; exact hR16) (by omega) wl Bb hPart (by omega) (fun k hk => by omega))
        (fun i y => OpL gx g11 g12 wl.heap.size q1 q2 W1 W2 s.C c1 c2 i i y) (fun _ => False) (fun i x y h K => h.calm K) (fun _ _ h _ => h) ?_
        (fun i vs a f' y => y = a ∧ i < s.C ∧ ∃ cv, a.ownsRow wl.heap.size 29 1 cv s.R (ints .u64 (vals (tcol t s.R s.C i))) ∧ f' 10 = .pointer (some ⟨gx, 0, none⟩) ∧ f' 11 = .pointer (some ⟨g11, 0, none⟩) ∧ f' 12 = .pointer (some ⟨g12, 0, none⟩) ∧ f' 14 = cv) (fun i vs a f' b h => by rw [h.1]; exact Ext.refl _) (fun lp vs i y hi hM hp => ?_) (fun lp i vs a f' z y hi hMu hp hga hac hbc => ?_) (fun D1 y1 hD1 hdn1 hMu1 hyD1 => ?_)
      · refine ⟨⟨.slice none 0 0, .slice none 0 0, Bx.ext (E8.trans (E812.trans El)), ⟨rfl, .inl ⟨rfl, rfl⟩⟩, ⟨rfl, .inl ⟨rfl, rfl⟩⟩, (fun _ h => by cases h)⟩, D11.ext El, D12.ext El, ?_, ?_, by omega⟩
        · rw [hW1l]
          exact ⟨own_base (own_ext oq1 (E812.trans El)) (Nat.zero_le _), fun g hg => ((own_ext oq1 (E812.trans El)).lt g hg).2⟩
        · rw [hW2l]
          exact ⟨own_base (own_ext oq2 (E812.trans El)) (Nat.zero_le _), fun g hg => ((own_ext oq2 (E812.trans El)).lt g hg).2⟩
      · obtain ⟨hiC, cv, rfl, oc⟩ := hp
        rw [rowsM_len, colM_rows t s hiC] at oc
        have hcv1 := row_cell1 (Row.of_own oc)
        (refine W_region ?_; refine Ls (X_assign (v := cv) rfl) ?_; refine L_nil ?_)
        exact ⟨rfl, rfl, hiC, cv, oc, rfl, rfl, rfl, rfl⟩
      · obtain ⟨rfl, hiC, cv, oc, f10, f11, f12, f14⟩ := hga
        have oc := hac.own oc
        have hcv1 := row_cell1 (Row.of_own oc)
        obtain ⟨⟨v1, v2, I1, I2, I3, I4⟩, J1, J2, R1, R2, _⟩ := hi
        have hv11 := row_cell1 (Row.of_own I2)
        have hv21 := row_cell1 (Row.of_own I3)
        have hyl := hMu.size
        have hwy : Tb y := hw.ext (hMu.toExt E1l (by intro k hk; omega))
        have hEx1 : c1 i = comb W1 (tcol t s.R s.C i) := by rw [hc1]
        have hEx2 : c2 i = comb W2 (tcol t s.R s.C i) := by rw [hc2]
        have htl := Fd.tcol_len t s.R s.C i
        rw [fold f10, fold f11, fold f12, fold f14]
        (refine W_block ?_; refine W_seq ?_)
        apply W_dagE 7 (by kernel_rfl)
        (apply DW_x (fun r w hA hH => (X_fld rfl).trans rfl); apply DW_x (fun r w hA hH => (X_ld (cs := pxC v1 v2 (.slice none 0 0) (.slice none 0 0)) rfl (I1.ext hA) rfl).trans rfl); apply DW_x (fun r w hA hH => (X_ldWg (cs := mixC) rfl (hwy.ext hA).mix rfl).trans rfl); apply DW_x (fun r w hA hH => (X_ld rfl (J1.ext hA) rfl).trans rfl); apply DW_x (fun r w hA hH => (X_move (v := cv) rfl).trans rfl))
        ((with_reducible apply DW_fn); (exact fun _ => rfl); (exact fun _ => rfl); (exact fun r w hA hH => (by
          have h := gsumw _ _ _ _ q1 cv W1 (tcol t s.R s.C i) (by omega) (by omega) w (Row.of_own (own_ext R1.1 hA)) ((Row.of_own (own_ext oc hA)).re htl.symm rfl)
          rw [← hEx1] at h
          exact h)))
        ((with_reducible apply DW_d (F := fun r v w => RowF y 2 v 1 (xc (c1 i)) w)); (exact fun r w hA hH => X_litA (z := [.int .u64 0, .int .u64 0]) rfl rfl rfl hA.size); (exact fun _ _ u w w' _ _ hR h => RowF.ext hR h); (exact fun _ _ => rfl))
        ((with_reducible exact D_end); (exact rfl); (repeat (first | exact .inr (.inr (fun _ _ => by with_reducible rfl)) | (refine And.intro ?_ ?_) | exact .inr (.inl rfl) | exact .inl (by decide +kernel) | exact trivial | exact .inr (.inr (fun _ _ => rfl)))); (try dsimp only [Nat.reduceAdd]))
        intro r y2 F2 H2
        obtain ⟨l6, h6, hl6, r6⟩ : RowF y 2 (r 6) 1 (xc (c1 i)) y2 := H2 6
        have I2' := own_ext I2 F2
        refine L_append (v := v1) (u := r 6) rfl rfl I2' r6 exC_cell (by omega) (by omega) (by have := F2.size; omega) ?_
        intro v1' y3 o3 hg3 hb3
        have hv1' := row_cell1 (Row.of_own o3)
        have hI1 := (I1.ext F2).grown hg3 (fun h => by
          obtain ⟨_, cs, fz, e⟩ := own_obj I2' gx h
          exact blk_ty (I1.ext F2) e (by decide))
        have hJ1 := (J1.ext F2).grown hg3 (fun h => by
          obtain ⟨_, cs, fz, e⟩ := own_obj I2' g11 h
          exact blk_ty (J1.ext F2) e (by decide))
        have hJ2 := (J2.ext F2).grown hg3 (fun h => by
          obtain ⟨_, cs, fz, e⟩ := own_obj I2' g12 h
          exact blk_ty (J2.ext F2) e (by decide))
        have hR1 := own_other (own_ext R1.1 F2) hg3 (fun g hg h => by have := R1.2 g hg; have := (own_obj I2' g h).1; omega)
        have hR2 := own_other (own_ext R2.1 F2) hg3 (fun g hg h => by have := R2.2 g hg; have := (own_obj I2' g h).1; omega)
        have hR1b := R1.2
        have hR2b := R2.2
        have hI3 := own_other (own_ext I3 F2) hg3 (fun q hq h => I4 q h hq)
        have hoc := own_other (own_ext oc F2) hg3 (fun q hq h => by
          obtain ⟨_, cs, fz, e⟩ := own_obj I2' q h
          obtain ⟨_, cs', fz', e'⟩ := own_obj (own_ext oc F2) q hq
          rw [e] at e'; cases e')
        have hI4 : ∀ q, v1'.ownBlock = some q → v2.ownBlock ≠ some q := fun q hq h => by
          rcases hb3 with h3 | h3
          · rw [h3] at hq; exact I4 q hq h
          · rw [h3] at hq
            have := Option.some.inj hq
            have := (own_ext I3 F2).lt q h
            omega
        have M3 : Mut (fun k => wl.heap.size ≤ k ∨ k = gx) y y3 := (Mut.of_ext F2).trans (Mut.app I2' hg3 (fun q hq => .inl (own_obj I2' q hq).1))
        clear I1 I2 I3 I4 J1 J2 R1 R2 oc H2 r6 I2'
        (refine Ls (X_fld rfl) ?_)
        refine L_store1 (v := v1') rfl rfl hv1' hI1 (by simp [pxC]) ?_
        intro y4 I1 hg4 hs4
        have M4 := M3.trans (Mut.store hI1 hg4 (.inr rfl))
        have I1 : Blk y4 gx 50 (pxC v1' v2 (.slice none 0 0) (.slice none 0 0)) := I1
        have hne : ∀ (z : Value) (m : Nat) (l : List Value) (T : TypeId) (sz : Nat), T ≠ 50 → ∀ bs, y3.ownsRow bs T sz z m l → y4.ownsRow bs T sz z m l := fun z m l T sz hT bs h => own_other h hg4 (fun g hg e => by
          obtain rfl : gx = g := Option.some.inj e
          obtain ⟨_, cs, fz, e1⟩ := own_obj h gx hg
          exact blk_ty hI1 e1 (Ne.symm hT))
        have I2 := hne _ _ _ _ _ (by decide) _ o3
        have I3 := hne _ _ _ _ _ (by decide) _ hI3
        have oc := hne _ _ _ _ _ (by decide) _ hoc
        have J1 := hJ1.grown hg4 (by simp; omega)
        have J2 := hJ2.grown hg4 (by simp; omega)
        have R1 := hne _ _ _ _ _ (by decide) _ hR1
        have R2 := hne _ _ _ _ _ (by decide) _ hR2
        have hyl4 := M4.size
        have hwy4 : Tb y4 := hwy.mut M4 hw.below (fun k hk => by omega)
        (refine L_nil ?_; refine tn ?_)
        apply W_dagE 7 (by kernel_rfl)
        (apply DW_x (fun r w hA hH => (X_fld rfl).trans rfl); apply DW_x (fun r w hA hH => (X_ld (cs := pxC v1' v2 (.slice none 0 0) (.slice none 0 0)) rfl (I1.ext hA) rfl).trans rfl); apply DW_x (fun r w hA hH => (X_ldWg (cs := mixC) rfl (hwy4.ext hA).mix rfl).trans rfl); apply DW_x (fun r w hA hH => (X_ld rfl (J2.ext hA) rfl).trans rfl); apply DW_x (fun r w hA hH => (X_move (v := cv) rfl).trans rfl))
        ((with_reducible apply DW_fn); (exact fun _ => rfl); (exact fun _ => rfl); (exact fun r w hA hH => (by
          have h := gsumw _ _ _ _ q2 cv W2 (tcol t s.R s.C i) (by omega) (by omega) w (Row.of_own (own_ext R2 hA)) ((Row.of_own (own_ext oc hA)).re htl.symm rfl)
          rw [← hEx2] at h
          exact h)))
        ((with_reducible apply DW_d (F := fun r v w => RowF y4 2 v 1 (xc (c2 i)) w)); (exact fun r w hA hH => X_litA (z := [.int .u64 0, .int .u64 0]) rfl rfl rfl hA.size); (exact fun _ _ u w w' _ _ hR h => RowF.ext hR h); (exact fun _ _ => rfl))
        ((with_reducible exact D_end); (exact rfl); (repeat (first | exact .inr (.inr (fun _ _ => by with_reducible rfl)) | (refine And.intro ?_ ?_) | exact .inr (.inl rfl) | exact .inl (by decide +kernel) | exact trivial | exact .inr (.inr (fun _ _ => rfl)))); (try dsimp only [Nat.reduceAdd]))
        intro r y5 F5 H5
        obtain ⟨l7, h7, hl7, r7⟩ : RowF y4 2 (r 6) 1 (xc (c2 i)) y5 := H5 6
        have I3' := own_ext I3 F5
        refine L_append (v := v2) (u := r 6) rfl rfl I3' r7 exC_cell (by omega) (by omega) (by have := F5.size; omega) ?_
        intro v2' y6 o6 hg6 hb6
        have hv2' := row_cell1 (Row.of_own o6)
        have K1 := (I1.ext F5).grown hg6 (fun h => by
          obtain ⟨_, cs, fz, e⟩ := own_obj I3' gx h
          exact blk_ty (I1.ext F5) e (by decide))
        have L1 := (J1.ext F5).grown hg6 (fun h => by
          obtain ⟨_, cs, fz, e⟩ := own_obj I3' g11 h
          exact blk_ty (J1.ext F5) e (by decide))
        have L2 := (J2.ext F5).grown hg6 (fun h => by
          obtain ⟨_, cs, fz, e⟩ := own_obj I3' g12 h
          exact blk_ty (J2.ext F5) e (by decide))
        have S1 := own_other (own_ext R1 F5) hg6 (fun g hg h => by have := hR1b g hg; have := (own_obj I3' g h).1; omega)
        have S2 := own_other (own_ext R2 F5) hg6 (fun g hg h => by have := hR2b g hg; have := (own_obj I3' g h).1; omega)
        have T2 := own_other (own_ext I2 F5) hg6 (fun q hq h => hI4 q hq h)
        have hI5 : ∀ q, v1'.ownBlock = some q → v2'.ownBlock ≠ some q := fun q hq h => by
          rcases hb6 with h3 | h3
          · rw [h3] at h; exact hI4 q hq h
          · rw [h3] at h
            have := Option.some.inj h
            have := (own_ext I2 F5).lt q hq
            omega
        have M6 : Mut (fun k => wl.heap.size ≤ k ∨ k = gx) y y6 := (M4.ext_ F5).trans (Mut.app I3' hg6 (fun q hq => .inl (own_obj I3' q hq).1))
        (refine Ls (X_fld rfl) ?_)
        refine L_store1 (v := v2') rfl rfl hv2' K1 (by simp [pxC]) ?_
        intro y7 K1' hg7 hs7'
        have K1' : Blk y7 gx 50 (pxC v1' v2' (.slice none 0 0) (.slice none 0 0)) := K1'
        have hne7 : ∀ (z : Value) (m : Nat) (l : List Value) (T : TypeId) (sz : Nat), T ≠ 50 → ∀ bs, y6.ownsRow bs T sz z m l → y7.ownsRow bs T sz z m l := fun z m l T sz hT bs h => own_other h hg7 (fun g hg e => by
          obtain rfl : gx = g := Option.some.inj e
          obtain ⟨_, cs, fz, e1⟩ := own_obj h gx hg
          exact blk_ty K1 e1 (Ne.symm hT))
        (refine L_nil ?_; refine bn ?_)
        refine ⟨M6.trans (Mut.store K1 hg7 (.inr rfl)), ⟨v1', v2', K1', ?_, ?_, hI5⟩, L1.grown hg7 (by simp; omega), L2.grown hg7 (by simp; omega), ⟨hne7 _ _ _ _ _ (by decide) _ S1, hR1b⟩, ⟨hne7 _ _ _ _ _ (by decide) _ S2, hR2b⟩, by omega⟩
        · have := hne7 _ _ _ _ _ (by decide) _ T2
          rw [range_snoc, raw_app, exs_app, raw_one]
          exact this
        · have := hne7 _ _ _ _ _ (by decide) _ o6
          rw [range_snoc, raw_app, exs_app, raw_one]
          exact this
      · obtain ⟨i1, hfin1, hO⟩ : ∃ i, i = s.C ∧ OpL gx g11 g12 wl.heap.size q1 q2 W1 W2 s.C c1 c2 i i y1 := hdn1.elim id False.elim
        subst hfin1
        obtain ⟨⟨v1, v2, I1, I2, I3, I4⟩, _, _, _, _, _⟩ := hO
        have hL1 : (List.range s.C).map c1 = rowH t s (P.map toE) := by rw [hc1, hW1]; rfl
        have hL2 : (List.range s.C).map c2 = rndH t s (toE rho) := by rw [hc2, hW2]; rfl
        rw [hL1] at I2
        rw [hL2] at I3
        have E1y := hMu1.toExt E1l (by intro k hk; omega)
        have hyl := hMu1.size
        have E6l : Ext w6 wl := E7.trans (E8.trans (E812.trans El))
        have X4 := hMu1.blk (C4.ext E6l) (by have := C4.lt; omega)
        have X5 := hMu1.blk (C5.ext E6l) (by have := C5.lt; omega)
        have X6 := hMu1.blk (C6.ext E6l) (by have := C6.lt; omega)
        have hg456 : g4 ≠ gx ∧ g5 ≠ gx ∧ g6 ≠ gx := by have := C4.lt; have := C5.lt; have := C6.lt; omega
        refine T_seq ?_
        (refine W_region ?_; refine Ls (X_move (v := v) rfl) ?_; refine Ls (X_ldW (cs := shC (s.R : Nat) (s.C : Nat) (s.B : Nat) (s.t : Nat)) rfl X4 rfl) ?_)
        refine L_fo (F := fun u w' => Ext y1 w' ∧ ∃ q, u = .tuple #[q, .int .i64 0] ∧ PartN (fun k => y1.heap.size ≤ k ∧ k < w'.heap.size) w' .u64 q (cws t s)) rfl ((gcodewords lo w.heap.size v t ht (s.R : Nat) (s.C : Nat) (s.B : Nat) (s.t : Nat) hR hC hB hT y1 (hw.ext E1y) (hr.ext E1y)).mono fun e w' ⟨h1, h2⟩ => by
          rcases h2 with ⟨s', _, h2, h3, h4, h5, _, _, q, h6, h7⟩ | ⟨h2, _⟩
          · rw [← sh_inj h2 h3 h4 h5] at h7
            exact ⟨_, h6, h1, q, rfl, h7⟩
          · exact (h2 hok).elim) ?_
        rintro _ y2 ⟨F2, qe, rfl, Pe2⟩
        obtain ⟨Ae, ce, rfl, _⟩ := Pe2.form
        (refine Ls (X_move (v := .tuple _) rfl) ?_; refine Ls (X_extract rfl rfl) ?_; refine Ls (X_extract rfl rfl) ?_; refine Ls (X_assign (v := .slice _ _ _) rfl) ?_; refine Ls (X_assign (v := .int _ _) rfl) ?_; refine L_nil ?_; refine tn ?_)
        refine T_seq2 ?_
        (refine W_region ?_; refine Ls (X_move (v := .slice _ _ _) rfl) ?_)
        refine L_fo rfl (gcolsMk (.slice Ae (cws t s).length ce) rfl y2) ?_
        rintro qc2 y3 ⟨b2, rfl, F3, Bb2, hb2⟩
        (refine L_nil ?_; refine tn ?_)
        have F13 := F2.trans F3
        have hF2 := F2.size
        have hF3 := F3.size
        have hgy1 : gx < y1.heap.size := I1.lt
        have hb2l := Bb2.lt
        have hn16 : s.n ≤ 65536 := (pow_le16 hs.cb).2
        have hn1 : 1 ≤ s.n := Nat.pow_pos (by decide)
        have hI0 : ∀ i ∈ I, 0 ≤ i := fun i hi => (hpos.ix i hi).1
        have hIs := toI_srt hI0 hpos.srt
        have hIn := toI_lt hpos.ix
        have hIlen : (toI I).length ≤ 65536 := by rw [toI_len, hpos.i]; have := hs.t64; omega
        have hIrow : ∀ y, Ext w y → Row y il ih 1 iv (toI I).length (ints .i64 (toI I)) := fun y E => by
          have := hi'.ext E
          rw [toI_ints hI0] at this
          rw [toI_len]; exact this
        obtain ⟨cc, hcc⟩ : ∃ cc : Nat → List K, cc = fun j => ccol t s.R s.C s.m j := ⟨_, rfl⟩
        have hl1 : (rowH t s (P.map toE)).length = s.C := Fd.combR_len _ _ _ _
        have hl2 : (rndH t s (toE rho)).length = s.C := Fd.combR_len _ _ _ _
        refine T_rangeM (ps := [75, 76]) (fun k => y3.heap.size ≤ k ∨ k = gx) rfl (enters_of Tryz.func118 (by kernel_rfl) rfl) (fun i vs a h => by obtain ⟨_, _, rfl, _⟩ := h; rfl) (gcols (fun k => y3.heap.size ≤ k ∨ k = gx) (fun k => y1.heap.size ≤ k ∧ k < y2.heap.size) b2 _ (cws t s) s.n (cws_row t s) (by rw [cws_len]; exact hR1) (by rw [cws_len]; exact hR16) (by omega) y3 Bb2 (Pe2.ext F3) (by omega) (fun k hk => by omega))
          (fun i y => OpC gx y3.heap.size v1 v2 (rowH t s (P.map toE)) (rndH t s (toE rho)) wl.heap.size (toI I) s.R s.n cc i y) (fun _ => False) (fun i x y h K => h.calm K) (fun _ _ h _ => h) ?_
          (fun i vs a f' y => y = a ∧ i < s.n ∧ ∃ cv, a.ownsRow y3.heap.size 29 1 cv s.R (ints .u64 (vals (cc i))) ∧ f' 5 = .pointer (some ⟨g5, 0, none⟩) ∧ f' 10 = .pointer (some ⟨gx, 0, none⟩) ∧ f' 17 = .int .i64 (i : Nat) ∧ f' 18 = cv) (fun i vs a f' b h => by rw [h.1]; exact Ext.refl _) (fun lp vs i y hi hM hp => ?_) (fun lp i vs a f' z y hi hMu hp hga hac hbc => ?_) (fun D2 y4 hD2 hdn2 hMu2 hyD2 => ?_)
        · refine ⟨⟨.slice none 0 0, [], I1.ext F13, ?_, (fun _ _ _ h => by cases h)⟩, by rw [hl1]; exact own_ext I2 F13, by rw [hl2]; exact own_ext I3 F13, by omega⟩
          have : (toI I).filter (fun i => Nat.blt i 0) = [] := List.filter_eq_nil_iff.2 fun i _ => by rw [Nat.blt_eq]; omega
          rw [this]
          exact ⟨rfl, .inl ⟨rfl, rfl⟩⟩
        · obtain ⟨hin, cv, rfl, oc⟩ := hp
          rw [cws_len, colM_cws t s hin] at oc
          have hcv1 := row_cell1 (Row.of_own oc)
          (refine W_seq ?_; refine W_region ?_; refine Ls (X_assign (v := .int _ _) rfl) ?_; refine L_nil ?_; refine tn ?_; refine W_region ?_; refine Ls (X_assign (v := cv) rfl) ?_; refine L_nil ?_)
          exact ⟨rfl, rfl, hin, cv, by rw [hcc]; exact oc, rfl, rfl, rfl, rfl⟩
        · obtain ⟨rfl, hin, cv, oc, f5, f10, f17, f18⟩ := hga
          have oc := hac.own oc
          have hcv1 := row_cell1 (Row.of_own oc)
          obtain ⟨⟨v3, ys, J1, J2, J3⟩, o1, o2, _⟩ := hi
          have hv31 := row_cell1 (Row.of_own J2)
          have hyl3 := hMu.size
          have Eyw : Ext w y := hMu.toExt (E1y.trans F13) (by intro k hk; omega)
          have X5y := hMu.blk (X5.ext F13) (by have := X5.lt; omega)
          have hcnt : ((toI I).filter fun k => Nat.blt k i).length ≤ (toI I).length := List.length_filter_le _ _
          have hfs := filt_succ hIs i
          rw [fold f5, fold f10, fold f17, fold f18]
          (refine W_block ?_; refine W_seq ?_; refine W_region ?_; refine Ls (X_fld rfl) ?_; refine Ls (X_ld (cs := waC pv rho iv) rfl X5y rfl) ?_; refine Ls (X_move (v := .int _ _) rfl) ?_)
          refine L_fv rfl (gbs il ih iv (toI I) hIs hIlen i y (hIrow y Eyw)) ?_
          intro y5 G5
          by_cases hmem : i ∈ toI I
          · rw [decide_eq_true hmem]
            rw [if_pos hmem] at hfs
            (refine Ls (X_move (v := .tuple _) rfl) ?_; refine Ls (X_extract rfl rfl) ?_; refine Ls (X_extract rfl rfl) ?_; refine Ls (X_assign (v := .int _ _) rfl) ?_; refine Ls (X_assign (v := .bool _) rfl) ?_; refine L_nil ?_; refine tn ?_; refine W_seq ?_; refine W_region ?_; refine Ls (X_move (v := .bool _) rfl) ?_; refine L_nil ?_; refine tn ?_; refine W_condT rfl ?_; refine W_region ?_; refine Ls (X_fld rfl) ?_; refine Ls (X_ld (cs := pxC v1 v2 v3 (.slice none 0 0)) rfl (J1.ext G5) rfl) ?_; refine Ls (X_move (v := cv) rfl) ?_)
            refine L_lit1 (v := cv) rfl hcv1 ?_
            intro u6 y6 r6 G6 hs6 _
            have G56 := G5.trans G6
            have J2' := own_ext J2 G56
            refine L_append (v := v3) (u := u6) rfl rfl J2' r6 (fun x hx => by rw [List.mem_singleton.1 hx]; exact hcv1) (by omega) (by omega) (by have := G56.size; omega) ?_
            intro v3' y7 o7 hg7 _
            have hv3' := row_cell1 (Row.of_own o7)
            have K1 := (J1.ext G56).grown hg7 (fun h => by
              obtain ⟨_, cs, fz, e⟩ := own_obj J2' gx h
              exact blk_ty (J1.ext G56) e (by decide))
            have hoth : ∀ (z : Value) (m : Nat) (l : List Value) (T : TypeId) (sz bs : Nat), T ≠ 22 → y.ownsRow bs T sz z m l → y7.ownsRow bs T sz z m l := fun z m l T sz bs hT h => own_other (own_ext h G56) hg7 (fun g hg e => by
              obtain ⟨_, cs, fz, e1⟩ := own_obj (own_ext h G56) g hg
              obtain ⟨_, cs', fz', e2⟩ := own_obj J2' g e
              rw [e1] at e2
              cases e2
              exact hT rfl)
            (refine Ls (X_fld rfl) ?_)
            refine L_store1 (v := v3') rfl rfl hv3' K1 (by simp [pxC]) ?_
            intro y8 K1' hg8 hs8
            have K1' : Blk y8 gx 50 (pxC v1 v2 v3' (.slice none 0 0)) := K1'
            have hne8 : ∀ (z : Value) (m : Nat) (l : List Value) (T : TypeId) (sz bs : Nat), T ≠ 50 → y7.ownsRow bs T sz z m l → y8.ownsRow bs T sz z m l := fun z m l T sz bs hT h => own_other h hg8 (fun g hg e => by
              obtain rfl : gx = g := Option.some.inj e
              obtain ⟨_, cs, fz, e1⟩ := own_obj h gx hg
              exact blk_ty K1 e1 (Ne.symm hT))
            (refine L_nil ?_; refine bn ?_)
            have hyll : ys.length = ((toI I).filter fun k => Nat.blt k i).length := by rw [J2.1, Nat.mul_one]
            refine ⟨((Mut.of_ext G56).trans (Mut.app J2' hg7 (fun q hq => .inl (own_obj J2' q hq).1))).trans (Mut.store K1 hg8 (.inr rfl)), ⟨v3', ys ++ [cv], K1', ?_, fun k x z hx hz => ?_⟩, hne8 _ _ _ _ _ _ (by decide) (hoth _ _ _ _ _ _ (by decide) o1), hne8 _ _ _ _ _ _ (by decide) (hoth _ _ _ _ _ _ (by decide) o2), by omega⟩
            · rw [hfs, List.length_append]
              exact hne8 _ _ _ _ _ _ (by decide) o7
            · rw [hfs] at hz
              rcases Nat.lt_or_ge k ys.length with hk | hk
              · rw [List.getElem?_append_left hk] at hx
                rw [List.getElem?_append_left (by omega)] at hz
                exact hne8 _ _ _ _ _ _ (by decide) (hoth _ _ _ _ _ _ (by decide) (J3 k x z hx hz))
              · have hke : k = ys.length := by
                  have := (List.getElem?_eq_some_iff.1 hx).1
                  rw [List.length_append] at this
                  simp at this
                  omega
                subst hke
                rw [List.getElem?_append_right (Nat.le_refl _), Nat.sub_self] at hx
                rw [hyll, List.getElem?_append_right (Nat.le_refl _), Nat.sub_self] at hz
                cases hx
                cases hz
                exact hne8 _ _ _ _ _ _ (by decide) (hoth _ _ _ _ _ _ (by decide) oc)
          · rw [decide_eq_false hmem]
            rw [if_neg hmem, List.append_nil] at hfs
            (refine Ls (X_move (v := .tuple _) rfl) ?_; refine Ls (X_extract rfl rfl) ?_; refine Ls (X_extract rfl rfl) ?_; refine Ls (X_assign (v := .int _ _) rfl) ?_; refine Ls (X_assign (v := .bool _) rfl) ?_; refine L_nil ?_; refine tn ?_; refine W_seq ?_; refine W_region ?_; refine Ls (X_move (v := .bool _) rfl) ?_; refine L_nil ?_; refine tn ?_; refine W_condF rfl ?_; refine W_skip ?_; refine bn ?_)
            refine ⟨Mut.of_ext G5, ⟨v3, ys, J1.ext G5, by rw [hfs]; exact own_ext J2 G5, fun k x z hx hz => by rw [hfs] at hz; exact own_ext (J3 k x z hx hz) G5⟩, own_ext o1 G5, own_ext o2 G5, by omega⟩
        · obtain ⟨j, hj, hO⟩ : ∃ i, i = s.n ∧ OpC gx y3.heap.size v1 v2 (rowH t s (P.map toE)) (rndH t s (toE rho)) wl.heap.size (toI I) s.R s.n cc i y4 := hdn2.elim id False.elim
          rw [hj] at hO
          clear hj
          obtain ⟨⟨v3, ys, J1, J2, J3⟩, o1, o2, _⟩ := hO
          have hflt : ((toI I).filter fun i => Nat.blt i s.n) = toI I := List.filter_eq_self.2 fun i hi => by rw [Nat.blt_eq]; exact hIn i hi
          rw [hflt] at J2 J3
          have hyl4 := hMu2.size
          have hyl3 := F13.size
          have Ey4 : Ext w y4 := hMu2.toExt (E1y.trans F13) (by intro k hk; omega)
          have X54 := hMu2.blk (X5.ext F13) (by have := X5.lt; omega)
          have X64 := hMu2.blk (X6.ext F13) (by have := X6.lt; omega)
          have hD1l : D1 < y1.heap.size := (Array.getElem?_eq_some_iff.1 hyD1).1
          have hyD14 : y4.heap[D1]? = some (.deferred (some [])) := hMu2.heap (F13.heap hyD1) rfl
          have hD1x : D1 ≠ gx := fun e => by
            subst e
            have h := hyD1
            rw [I1] at h
            cases h
          have hD2l : D2 < y4.heap.size := (Array.getElem?_eq_some_iff.1 hyD2).1
          have hcl : (cws t s).length = s.R := cws_len t s
          have P4 : PartN (fun k => y1.heap.size ≤ k ∧ k < y2.heap.size) y4 .u64 (.slice Ae (cws t s).length ce) (cws t s) := (Pe2.ext F3).mut hMu2 (fun k hk => by omega)
          have hzI := toI_len I
          have hIin : ∀ i ∈ toI I, i < (lv by8 t s).length := by rw [Cm.lv_len]; exact hIn
          refine T_of_W ?_
          (refine W_seq ?_)
          apply W_dagG 9 gx (fun w' => Blk w' gx 50 (pxC v1 v2 v3 (.slice none 0 0))) 10 (by kernel_rfl) (J1.ext (Ext.drew _)) (fun _ _ E h => h.ext E)
          (apply DW_x (fun r w hA hH => (X_move (v := .slice _ _ _) rfl).trans rfl))
          ((with_reducible apply DW_fr (F := fun q w' => PartN (fun k => y4.heap.size ≤ k) w' .u8 q (lv by8 t s))); (exact fun _ => rfl); (exact fun r w hA hH => (gleaves _ _ (cws t s) s.n (cws_row t s) (by rw [hcl]; exact hR1) (by rw [hcl]; exact hR16) hn16 w (P4.keepS (keepS_grown hA.g) (fun k hk => by omega))).mono fun e w' ⟨q, h1, h2, h3⟩ => ⟨q, h1, .inl h2, by rw [leaves_lv] at h3; exact h3.mono fun k hk => Nat.le_trans hA.g.size hk⟩); (exact fun i u w w' hi ht hR h => h.keepS (keepS_grown hR.grown) (fun k hk => by omega)))
          (apply DW_x (fun r w hA hH => (X_fld rfl).trans rfl); apply DW_x (fun r w hA hH => (X_ld (cs := waC pv rho iv) rfl (X54.grown hA.g (by simp; have := X5.lt; omega)) rfl).trans rfl))
          ((with_reducible apply DW_fr (F := fun u w' => ∃ q, u = .tuple #[.agg #[q], .int .i64 0] ∧ w'.ownsRow y4.heap.size 43 32 q (pathH lf nd by8 t s (toI I)).length (dgs (pathH lf nd by8 t s (toI I))))); (exact fun _ => rfl); (exact fun r w hA hH => (gmopen _ _ (lv by8 t s) (by rw [Cm.lv_len]; exact hn1) (by rw [Cm.lv_len]; exact hn16) (lv_ok t s hR16) il ih iv (toI I) hIs hIin w (hw.ext (Ey4.then hA.g (fun g h => by cases h; omega))) (hH 1 rfl) (hIrow w (Ey4.then hA.g (fun g h => by cases h; omega)))).mono fun e w' ⟨q, h1, h2, h3⟩ => ⟨_, h1, .inl h2, q, rfl, own_base h3 hA.g.size⟩); (exact fun i u w w' hi ht hR h => (by obtain ⟨q, h1, h2⟩ := h; exact ⟨q, h1, own_grown h2 hR.grown (fun g h => by cases h; omega)⟩)))
          ((with_reducible apply DW_x); (exact fun r w hA hH => (X_move (v := r 4) rfl).trans rfl))
          apply DW_x (V := fun r => tupAt (r 4) 0) (fun r w hA hH => by
            obtain ⟨q, h1, _⟩ : ∃ q, r 4 = .tuple #[.agg #[q], .int .i64 0] ∧ _ := hH 4 rfl
            exact X_extract (l := [.agg #[q], .int .i64 0]) h1 (by rw [h1]; rfl))
          apply DW_x (V := fun r => tupAt (r 4) 1) (fun r w hA hH => by
            obtain ⟨q, h1, _⟩ : ∃ q, r 4 = .tuple #[.agg #[q], .int .i64 0] ∧ _ := hH 4 rfl
            exact X_extract (l := [.agg #[q], .int .i64 0]) h1 (by rw [h1]; rfl))
          (apply DW_x (fun r w hA hH => (X_fld rfl).trans rfl))
          apply DW_storeD (F := fun r w' => Blk w' gx 50 (pxC v1 v2 v3 (aggAt (tupAt (r 4) 0) 0))) (fun r w hA hH => by
            obtain ⟨q, h1, h2⟩ : ∃ q, r 4 = .tuple #[.agg #[q], .int .i64 0] ∧ w.ownsRow y4.heap.size 43 32 q (pathH lf nd by8 t s (toI I)).length (dgs (pathH lf nd by8 t s (toI I))) := hH 4 rfl
            have hB := hA.pre (.inl rfl)
            have hX := fun n f d t pos af x y hx hy => X_storeA (P := Tryz.prog) (n := n) (f := f) (w := w) (d := d) (t := t) (ty := 48) (pos := pos) (af := af) (g := none) (size := 1) (x := x) (y := y) (o := 3) (l := [q]) hx hy rfl (fun u hu => by rw [List.mem_singleton.1 hu]; exact row_cell1 (Row.of_own h2)) hB (by simp [pxC])
            refine ⟨_, hX _ _ _ _ _ _ _ _ rfl (by show tupAt (r 4) 0 = _; rw [h1]; rfl), grown_setRow _ _ _, ?_⟩
            rw [h1]
            exact hB.setRow _) (fun r w w' E h => h.ext E) (fun r v => rfl)
          ((with_reducible exact D_end); (exact rfl); (repeat (first | exact .inr (.inr (fun _ _ => by with_reducible rfl)) | (refine And.intro ?_ ?_) | exact .inr (.inl rfl) | exact .inl (by decide +kernel) | exact trivial | exact .inr (.inr (fun _ _ => rfl)))); (try dsimp only [Nat.reduceAdd]))
          intro r z G H
          obtain ⟨q, hr4, oq⟩ : ∃ q, r 4 = .tuple #[.agg #[q], .int .i64 0] ∧ z.ownsRow y4.heap.size 43 32 q (pathH lf nd by8 t s (toI I)).length (dgs (pathH lf nd by8 t s (toI I))) := H 4
          have hB : Blk z gx 50 (pxC v1 v2 v3 (aggAt (tupAt (r 4) 0) 0)) := H 9
          rw [hr4] at hB
          have hB : Blk z gx 50 (pxC v1 v2 v3 q) := hB
          have hcv1 := row_cell1 (Row.of_own o1)
          have hcv2 := row_cell1 (Row.of_own o2)
          have hcv3 := row_cell1 (Row.of_own J2)
          have hcq := row_cell1 (Row.of_own oq)
          have h6l := C6.lt
          have hzz := G.size
          (refine L_nil ?_; refine tn ?_; refine W_seq ?_; refine W_region ?_; refine Ls (X_ldW (cs := pxC v1 v2 v3 q) rfl hB rfl) ?_)
          refine L_storeW (size := 4) (l := pxC v1 v2 v3 q) rfl rfl rfl (pxC_cell hcv1 hcv2 hcv3 hcq) (X64.grown G (by simp; omega)) rfl ?_
          intro z2 B8 hg8 _
          (refine Ls (X_assign (v := .int _ _) rfl) ?_; refine L_nil ?_; refine tn ?_; refine W_ret ?_)
          have hD : ∀ D, y4.heap[D]? = some (.deferred (some [])) → D ≠ gx → D ≠ g6 → z2.heap[D]? = some (.deferred (some [])) := fun D h h1 h2 => by
            have hDl : D < y4.heap.size := (Array.getElem?_eq_some_iff.1 h).1
            rw [hg8.block D (by omega) (by simp; omega), G.block D hDl (by simp; omega)]
            exact h
          have hO : ∀ w' T sz x m l (bs : Nat), g6 < bs → gx < bs → K.Calm wl.heap.size z2 w' → y4.ownsRow bs T sz x m l → w'.ownsRow w.heap.size T sz x m l := fun w' T sz x m l bs h1 h2 K h =>
            own_base (K.own (own_grown (own_grown h G (fun g h => by cases h; omega)) hg8 (fun g h => by cases h; omega))) (by omega)
          refine endQ_marks wl.heap.size [D2, D1] rfl rfl (by simp; omega) (fun D' h => ?_) (fun w' hc => ⟨Res.cellA inferInstance rfl ((hc.blk B8).range (fun j u h => by simpa using h)) rfl (Res.tmp rfl .nil), ?_, ?_⟩)
          · simp at h
            rcases h with rfl | rfl
            · exact ⟨by omega, hD _ hyD2 (by omega) (by omega)⟩
            · exact ⟨hD1, hD _ hyD14 hD1x (by omega)⟩
          · exact hc.toExt ((Ey4.then G (fun g h => by cases h; omega)).then hg8 (fun g h => by cases h; omega)) (by omega)
          · refine .inl ⟨s, hs, rfl, rfl, rfl, rfl, hlog, hpos, v1, v2, v3, q, rfl, ?_, ?_, ?_, ?_⟩
            · have h := hO w' _ _ _ _ _ _ (by omega) (by omega) hc o1
              rw [hl1] at h; exact h
            · have h := hO w' _ _ _ _ _ _ (by omega) (by omega) hc o2
              rw [hl2] at h; exact h
            · have hyl : ys.length = (toI I).length := by rw [J2.1, Nat.mul_one]
              have hcl' : ((colsH t s (toI I)).map vals).length = (toI I).length := by unfold colsH; rw [List.length_map, List.length_map]
              refine ⟨ys, by rw [hcl']; exact hyl, by rw [hcl']; exact (RowN.of_own (hO w' _ _ _ _ _ _ (by omega) (by omega) hc J2)).mono fun k hk => hk.1, fun k x y hx hy => ?_⟩
              unfold colsH at hy
              rw [List.map_map, List.getElem?_map] at hy
              obtain ⟨i, hi, rfl⟩ := Option.map_eq_some_iff.1 hy
              have h := J3 k x i hx hi
              rw [hcc] at h
              exact (RowN.of_own (hO w' _ _ _ _ _ _ (by omega) (by omega) hc h)).mono (fun k hk => hk.1) |>.re (by show s.R = (vals (ccol t s.R s.C s.m i)).length; rw [vals_len, Fd.ccol_len]) rfl
            · exact own_base (hc.own (own_grown oq hg8 (fun g h => by cases h; omega))) (by omega)
    · refine L_fv rfl ((gpositioned s hs pl ph il ih pv iv P rho I hPl hIl w5 (hp.ext E15) (hi'.ext E15)).mono fun e w' ⟨b, h1, h2, h3⟩ => by have hb : b = false := (Bool.eq_false_iff.2 fun h => hpos (h2.1 h)); rw [hb] at h1; exact ⟨h1, h3⟩) ?_
      intro w6 E6
      (refine Lg2 rfl rfl rfl (X_not rfl) ?_; refine Ls (X_pickF (v := .bool _) rfl rfl) ?_; refine L_nil ?_; refine tn ?_; refine W_condT rfl ?_; refine W_seq ?_; refine W_region ?_)
      refine Ls (X_build (zs := [[Value.slice none 0 0], [Value.slice none 0 0], [Value.slice none 0 0], [Value.slice none 0 0]]) (r := []) (Parts.nil _)) ?_
      refine L_storeW (size := 4) (l := pxC (.slice none 0 0) (.slice none 0 0) (.slice none 0 0) (.slice none 0 0)) rfl rfl rfl (pxC_cell rfl rfl rfl rfl) (C6.ext E6) rfl ?_
      intro w8 B8 hg8 _
      (refine Ls (X_assign (v := .int _ _) rfl) ?_; refine L_nil ?_; refine tn ?_; refine W_ret ?_; refine tr ?_)
      refine endQ_res rfl rfl (Res.cellA inferInstance rfl (B8.range (fun j u h => by simpa using h)) rfl (Res.tmp rfl .nil)) ?_
      exact ⟨(E15.trans E6).then hg8 (fun g h => by cases h; have := (E1.trans E2).size; omega), .inr ⟨fun ⟨s', h1, h2, h3, h4, h5, h6, h7⟩ => hpos (by rw [sh_inj h2 h3 h4 h5]; exact h7), rfl⟩⟩
  · (refine Ls (X_move (v := .tuple _) rfl) ?_; refine Ls (X_extract rfl rfl) ?_; refine Ls (X_extract rfl rfl) ?_; refine Ls (X_assign (v := .slice _ _ _) rfl) ?_; refine Ls (X_assign (v := .bool _) rfl) ?_; refine L_nil ?_; refine tn ?_)
    refine T_seq ?_
    (refine W_seq ?_)
    apply W_dagE 11 (by kernel_rfl)
    (apply DW_x (fun r w hA hH => (X_move (v := .bool _) rfl).trans rfl); apply DW_x (fun r w hA hH => (X_not rfl).trans rfl); apply DW_x (fun r w hA hH => (X_move (v := .bool _) rfl).trans rfl); apply DW_off2 rfl rfl (fun _ => rfl) rfl; apply DW_off2 rfl rfl (fun _ => rfl) rfl; apply DW_off2 rfl rfl (fun _ => rfl) rfl; apply DW_off2 rfl rfl (fun _ => rfl) rfl; apply DW_off2 rfl rfl (fun _ => rfl) rfl; apply DW_off2 rfl rfl (fun _ => rfl) rfl; apply DW_off2 rfl rfl (fun _ => rfl) rfl; apply DW_x (fun r w hA hH => (X_pickT (v := .bool _) rfl rfl).trans rfl))
    ((with_reducible exact D_end); (exact rfl); (repeat (first | exact .inr (.inr (fun _ _ => by with_reducible rfl)) | (refine And.intro ?_ ?_) | exact .inr (.inl rfl) | exact .inl (by decide +kernel) | exact trivial | exact .inr (.inr (fun _ _ => rfl)))); (try dsimp only [Nat.reduceAdd]))
    intro r5 w5 E5 _
    (refine L_nil ?_; refine tn ?_; refine W_condT rfl ?_; refine W_seq ?_; refine W_region ?_)
    refine Ls (X_build (zs := [[Value.slice none 0 0], [Value.slice none 0 0], [Value.slice none 0 0], [Value.slice none 0 0]]) (r := []) (Parts.nil _)) ?_
    refine L_storeW (size := 4) (l := pxC (.slice none 0 0) (.slice none 0 0) (.slice none 0 0) (.slice none 0 0)) rfl rfl rfl (pxC_cell rfl rfl rfl rfl) (B6.ext (E4.trans E5)) rfl ?_
    intro w8 B8 hg8 _
    (refine Ls (X_assign (v := .int _ _) rfl) ?_; refine L_nil ?_; refine tn ?_; refine W_ret ?_; refine tr ?_)
    refine endQ_res rfl rfl (Res.cellA inferInstance rfl (B8.range (fun j u h => by simpa using h)) rfl (Res.tmp rfl .nil)) ?_
    exact ⟨(E13.trans (E4.trans E5)).then hg8 (fun g h => by cases h; have := (E1.trans E2).size; omega), .inr ⟨fun ⟨s', h1, h2, h3, h4, h5, h6, _⟩ => hno (by rw [h2, h3, h4, h5, h6]; exact sh_ok h1), rfl⟩⟩
end Go.Proofs.YtpohjepbmgeplaaGreatDoor

/- Commitments: shapes of openings. -/
namespace Go.Proofs.YtpohjepbmgeplaaGreatDoor
open Go.RowKit Go.Proofs.K
open _root_.Fd (K E pw root trow enc ccol comb)
open _root_.Cm (Sh pws pwE)

/-- an opening of the right lengths, of valid elements -/
structure ShpOk (s : Sh) (RW RD : List (Nat × Nat)) (CL : List (List Nat)) : Prop where
  l1 : RW.length = s.C
  l2 : RD.length = s.C
  l3 : CL.length = s.t
  e1 : ∀ x ∈ RW, isE x
  e2 : ∀ x ∈ RD, isE x
  cl : ∀ c ∈ CL, c.length = s.R ∧ ∀ x ∈ c, x < Fd.pr
theorem allU_iff (l : List Nat) : decide (∀ i, i < (ints .u64 l).length → decide (l.getD i 0 < Fd.pr) = true) = decide (∀ x ∈ l, x < Fd.pr) := by
  rw [Bool.eq_iff_iff, decide_eq_true_eq, decide_eq_true_eq, ints_len]
  constructor
  · intro h x hx
    obtain ⟨i, hi⟩ := List.mem_iff_getElem?.1 hx
    have := h i (List.getElem?_eq_some_iff.1 hi).1
    rw [List.getD_eq_getElem?_getD, hi] at this
    simpa using this
  · intro h i hi
    have := h l[i] (List.getElem_mem _)
    rw [List.getD_eq_getElem?_getD, List.getElem?_eq_getElem hi]
    simpa using this
theorem allC_iff (s : Sh) (CL : List (List Nat)) (n : Nat) (hn : n = CL.length) : decide (∀ i, i < n → (decide ((CL.getD i []).length = s.R) && decide (∀ x ∈ CL.getD i [], x < Fd.pr)) = true) = true ↔ ∀ c ∈ CL, c.length = s.R ∧ ∀ x ∈ c, x < Fd.pr := by
  subst hn
  rw [decide_eq_true_eq]
  constructor
  · intro h c hc
    obtain ⟨i, hi⟩ := List.mem_iff_getElem?.1 hc
    have := h i (List.getElem?_eq_some_iff.1 hi).1
    rw [List.getD_eq_getElem?_getD, hi] at this
    simpa using this
  · intro h i hi
    have := h CL[i] (List.getElem_mem _)
    rw [List.getD_eq_getElem?_getD, List.getElem?_eq_getElem hi]
    simpa using this
set_option maxHeartbeats 1000000 in
theorem gshclo (s : Sh) (g2 : Nat) (CL : List (List Nat)) (hCL : ∀ c ∈ CL, c.length ≤ 1000000) (vs : List Value) (hvl : vs.length = CL.length) (w : World) (hB : Blk w g2 28 (shC (s.R : Nat) (s.C : Nat) (s.B : Nat) (s.t : Nat))) (hx : ∀ (i : Nat) (x : Value) (y : List Nat), vs[i]? = some x → CL[i]? = some y → RowN (fun _ => True) w 1 x y.length (ints .u64 y)) :
    CondAt Tryz.prog 130 #[.pointer (some ⟨g2, 0, none⟩)] vs (fun i => decide ((CL.getD i []).length = s.R) && decide (∀ x ∈ CL.getD i [], x < Fd.pr)) w := by
  intro i x w' E hxi
  have hi : i < CL.length := by have := (List.getElem?_eq_some_iff.1 hxi).1; omega
  have hci : CL[i]? = some CL[i] := List.getElem?_eq_getElem hi
  have hget : CL.getD i [] = CL[i] := by rw [List.getD_eq_getElem?_getD, hci]; rfl
  obtain ⟨lo, hi', _, hr⟩ := hx i x _ hxi hci
  show Calls _ _ _ _ fun e w'' => e = .returned (.bool (decide ((CL.getD i []).length = s.R) && decide (∀ x ∈ CL.getD i [], x < Fd.pr))) ∧ _
  rw [hget]
  have hcl : CL[i].length ≤ 1000000 := hCL _ (List.getElem_mem _)
  revert hr hcl
  generalize CL[i] = c
  intro hr hcl
  obtain ⟨A, cc, rfl⟩ : ∃ A cc, x = .slice A c.length cc := by
    obtain ⟨_, A, c, rfl, _⟩ := hr
    exact ⟨A, c, rfl⟩
  refine calls_W Tryz.func130 rfl Tryz.ntmps130 rfl ?_
  by_cases h : c.length = s.R
  · (refine W_seq ?_; refine W_region ?_; refine Ls (X_assign (v := .bool _) rfl) ?_; refine L_nil ?_; refine tn ?_; refine W_seq ?_; refine W_region ?_; refine Ls (X_move (v := .slice _ _ _) rfl) ?_; refine Ls (X_lenSlice rfl) ?_; refine Ls (X_fld rfl) ?_; refine Ls (X_ld (cs := shC (s.R : Nat) (s.C : Nat) (s.B : Nat) (s.t : Nat)) rfl (hB.ext E) rfl) ?_; refine Ls (X_eqlT rfl rfl (by omega)) ?_; refine Ls (X_move (v := .bool _) rfl) ?_; refine Lg2 rfl rfl rfl (X_move (v := .slice _ _ _) rfl) ?_)
    refine L_strip rfl rfl rfl ?_
    refine L_fv rfl (gval_u lo hi' _ (ints .u64 c) (by rw [ints_len]; omega) w' ((hr.ext E).re (by rw [ints_len]) rfl) ints_cell (fun i => decide (c.getD i 0 < Fd.pr)) 101 #[] (cond_valid c w')) ?_
    intro w2 E2
    rw [allU_iff]
    (refine Ls (X_pickT (v := .bool _) rfl rfl) ?_; refine Ls (X_assign (v := .bool _) rfl) ?_; refine L_nil ?_; refine tn ?_; refine W_ret ?_)
    refine endQ_ret1 rfl rfl (v := .bool _) rfl ⟨?_, E2⟩
    rw [decide_eq_true h]; rfl
  · (refine W_seq ?_; refine W_region ?_; refine Ls (X_assign (v := .bool _) rfl) ?_; refine L_nil ?_; refine tn ?_; refine W_seq ?_; refine W_region ?_; refine Ls (X_move (v := .slice _ _ _) rfl) ?_; refine Ls (X_lenSlice rfl) ?_; refine Ls (X_fld rfl) ?_; refine Ls (X_ld (cs := shC (s.R : Nat) (s.C : Nat) (s.B : Nat) (s.t : Nat)) rfl (hB.ext E) rfl) ?_; refine Ls (X_eqlF rfl rfl (by omega)) ?_; refine Ls (X_move (v := .bool _) rfl) ?_; refine Lo2 rfl rfl rfl rfl ?_; refine Lo2 rfl rfl rfl rfl ?_; refine Ls (X_pickF (v := .bool _) rfl rfl) ?_; refine Ls (X_assign (v := .bool _) rfl) ?_; refine L_nil ?_; refine tn ?_; refine W_ret ?_)
    refine endQ_ret1 rfl rfl (v := .bool _) rfl ⟨?_, Ext.refl _⟩
    rw [decide_eq_false h]; rfl
set_option maxRecDepth 100000 in
set_option maxHeartbeats 4000000 in
theorem gshaped (s : Sh) (hs : s.Ok) (l1 h1 l2 h2 : Nat) (rv nv cv qv : Value) (hq : qv.oneCell' = true) (RW RD : List (Nat × Nat)) (CL : List (List Nat)) (hRW : RW.length ≤ 1000000) (hRD : RD.length ≤ 1000000) (hCl : CL.length ≤ 1000000) (hCL : ∀ c ∈ CL, c.length ≤ 1000000)
    (w : World) (hr : Row w l1 h1 2 rv RW.length (exs RW)) (hn : Row w l2 h2 2 nv RD.length (exs RD)) (hc : PartN (fun _ => True) w .u64 cv CL) :
    Calls Tryz.prog 78 #[.agg (shC (s.R : Nat) (s.C : Nat) (s.B : Nat) (s.t : Nat)).toArray, .agg (pxC rv nv cv qv).toArray] w fun e w' => ∃ b : Bool, e = .returned (.bool b) ∧ (b = true ↔ ShpOk s RW RD CL) ∧ Ext w w' := by
  obtain ⟨vs, hvl, ⟨lc, hc', _, hrc⟩, hvx⟩ := hc
  obtain ⟨A1, c1, rfl⟩ : ∃ A c, rv = .slice A RW.length c := by
    obtain ⟨_, A, c, rfl, _⟩ := hr
    exact ⟨A, c, rfl⟩
  obtain ⟨A2, c2, rfl⟩ : ∃ A c, nv = .slice A RD.length c := by
    obtain ⟨_, A, c, rfl, _⟩ := hn
    exact ⟨A, c, rfl⟩
  obtain ⟨A3, c3, rfl⟩ : ∃ A c, cv = .slice A CL.length c := by
    obtain ⟨_, A, c, rfl, _⟩ := hrc
    exact ⟨A, c, rfl⟩
  have hvc : ∀ x ∈ vs, x.oneCell' = true := fun x hx => by
    obtain ⟨i, hi⟩ := List.mem_iff_getElem?.1 hx
    have hil : i < CL.length := by have := (List.getElem?_eq_some_iff.1 hi).1; omega
    obtain ⟨_, _, _, hr'⟩ := hvx i x _ hi (List.getElem?_eq_getElem hil)
    exact row_cell1 hr'
  refine calls_W Tryz.func78 rfl Tryz.ntmps78 rfl ?_
  (refine W_seq ?_; refine W_region ?_)
  refine L_box rfl ?_
  intro g2 w1 B2 hg2 E1 hs1
  refine L_box rfl ?_
  intro g3 w2 B3 hg3 E2 hs2
  have C2 := B2.ext E2
  have E12 := E1.trans E2
  have hno : ∀ w', Ext w2 w' → ¬ ShpOk s RW RD CL → ∃ b : Bool, Ending.returned (.bool false) = .returned (.bool b) ∧ (b = true ↔ ShpOk s RW RD CL) ∧ Ext w w' := fun w' E h => ⟨false, rfl, ⟨(fun h => by cases h), fun h' => (h h').elim⟩, E12.trans E⟩
  by_cases k1 : RW.length = s.C
  · by_cases k2 : RD.length = s.C
    · by_cases k3 : CL.length = s.t
      · (refine Ls (X_assign (v := .bool _) rfl) ?_; refine L_nil ?_; refine tn ?_; refine W_seq ?_; refine W_region ?_; refine Ls (X_fld rfl) ?_; refine Ls (X_ld (cs := pxC (.slice A1 RW.length c1) (.slice A2 RD.length c2) (.slice A3 CL.length c3) qv) rfl B3 rfl) ?_; refine Ls (X_lenSlice rfl) ?_; refine Ls (X_fld rfl) ?_; refine Ls (X_ld (cs := shC (s.R : Nat) (s.C : Nat) (s.B : Nat) (s.t : Nat)) rfl C2 rfl) ?_; refine Ls (X_eqlT rfl rfl (by omega)) ?_; refine Ls (X_move (v := .bool _) rfl) ?_; refine Lg2 rfl rfl rfl (X_fld rfl) ?_; refine Lg2 rfl rfl rfl (X_ld (cs := pxC (.slice A1 RW.length c1) (.slice A2 RD.length c2) (.slice A3 CL.length c3) qv) rfl B3 rfl) ?_; refine Lg2 rfl rfl rfl (X_lenSlice rfl) ?_; refine Lg2 rfl rfl rfl (X_fld rfl) ?_; refine Lg2 rfl rfl rfl (X_ld (cs := shC (s.R : Nat) (s.C : Nat) (s.B : Nat) (s.t : Nat)) rfl C2 rfl) ?_; refine Lg2 rfl rfl rfl (X_eqlT rfl rfl (by omega)) ?_; refine Ls (X_pickT (v := .bool _) rfl rfl) ?_; refine Ls (X_move (v := .bool _) rfl) ?_; refine Lg2 rfl rfl rfl (X_fld rfl) ?_; refine Lg2 rfl rfl rfl (X_ld (cs := pxC (.slice A1 RW.length c1) (.slice A2 RD.length c2) (.slice A3 CL.length c3) qv) rfl B3 rfl) ?_; refine Lg2 rfl rfl rfl (X_lenSlice rfl) ?_; refine Lg2 rfl rfl rfl (X_fld rfl) ?_; refine Lg2 rfl rfl rfl (X_ld (cs := shC (s.R : Nat) (s.C : Nat) (s.B : Nat) (s.t : Nat)) rfl C2 rfl) ?_; refine Lg2 rfl rfl rfl (X_eqlT rfl rfl (by omega)) ?_; refine Ls (X_pickT (v := .bool _) rfl rfl) ?_; refine Ls (X_move (v := .bool _) rfl) ?_; refine Lg2 rfl rfl rfl (X_fld rfl) ?_; refine Lg2 rfl rfl rfl (X_ld (cs := pxC (.slice A1 RW.length c1) (.slice A2 RD.length c2) (.slice A3 CL.length c3) qv) rfl B3 rfl) ?_)
        refine L_strip rfl rfl rfl ?_
        refine L_fv rfl (gval_e l1 h1 _ RW (RW.map fun p => Value.agg (exC p.1 p.2).toArray) rfl (by rw [List.length_map]; omega) w2 ((hr.ext E12).re (by rw [List.length_map]) rfl) (fun i => decide ((RW.getD i (0, 0)).1 < Fd.pr) && decide ((RW.getD i (0, 0)).2 < Fd.pr)) 77 #[] (cond_validE RW w2)) ?_
        intro w3 E3
        have ha1 := allE_iff RW
        revert ha1
        generalize decide (∀ i, i < (RW.map fun p => Value.agg (exC p.1 p.2).toArray).length → (decide ((RW.getD i (0, 0)).1 < Fd.pr) && decide ((RW.getD i (0, 0)).2 < Fd.pr)) = true) = b1
        intro ha1
        cases b1 with
        | false =>
          (refine Ls (X_pickT (v := .bool _) rfl rfl) ?_; refine Ls (X_move (v := .bool _) rfl) ?_; refine Lo2 rfl rfl rfl rfl ?_; refine Lo2 rfl rfl rfl rfl ?_; refine Lo2 rfl rfl rfl rfl ?_; refine Ls (X_pickF (v := .bool _) rfl rfl) ?_; refine Ls (X_move (v := .bool _) rfl) ?_; refine Lo2 rfl rfl rfl rfl ?_; refine Lo2 rfl rfl rfl rfl ?_; refine Lo2 rfl rfl rfl rfl ?_; refine Lo2 rfl rfl rfl rfl ?_; refine Ls (X_pickF (v := .bool _) rfl rfl) ?_; refine Ls (X_assign (v := .bool _) rfl) ?_; refine L_nil ?_; refine tn ?_; refine W_ret ?_)
          exact endQ_ret1 rfl rfl (v := .bool _) rfl (hno _ E3 fun h => by have := ha1.2 h.e1; cases this)
        | true =>
          (refine Ls (X_pickT (v := .bool _) rfl rfl) ?_; refine Ls (X_move (v := .bool _) rfl) ?_; refine Lg2 rfl rfl rfl (X_fld rfl) ?_; refine Lg2 rfl rfl rfl (X_ld (cs := pxC (.slice A1 RW.length c1) (.slice A2 RD.length c2) (.slice A3 CL.length c3) qv) rfl (B3.ext E3) rfl) ?_)
          refine L_strip rfl rfl rfl ?_
          refine L_fv rfl (gval_e l2 h2 _ RD (RD.map fun p => Value.agg (exC p.1 p.2).toArray) rfl (by rw [List.length_map]; omega) w3 (((hn.ext E12).ext E3).re (by rw [List.length_map]) rfl) (fun i => decide ((RD.getD i (0, 0)).1 < Fd.pr) && decide ((RD.getD i (0, 0)).2 < Fd.pr)) 77 #[] (cond_validE RD w3)) ?_
          intro w4 E4
          have E34 := E3.trans E4
          have ha2 := allE_iff RD
          revert ha2
          generalize decide (∀ i, i < (RD.map fun p => Value.agg (exC p.1 p.2).toArray).length → (decide ((RD.getD i (0, 0)).1 < Fd.pr) && decide ((RD.getD i (0, 0)).2 < Fd.pr)) = true) = b2
          intro ha2
          cases b2 with
          | false =>
            (refine Ls (X_pickT (v := .bool _) rfl rfl) ?_; refine Ls (X_move (v := .bool _) rfl) ?_; refine Lo2 rfl rfl rfl rfl ?_; refine Lo2 rfl rfl rfl rfl ?_; refine Lo2 rfl rfl rfl rfl ?_; refine Lo2 rfl rfl rfl rfl ?_; refine Ls (X_pickF (v := .bool _) rfl rfl) ?_; refine Ls (X_assign (v := .bool _) rfl) ?_; refine L_nil ?_; refine tn ?_; refine W_ret ?_)
            exact endQ_ret1 rfl rfl (v := .bool _) rfl (hno _ E34 fun h => by have := ha2.2 h.e2; cases this)
          | true =>
            (refine Ls (X_pickT (v := .bool _) rfl rfl) ?_; refine Ls (X_move (v := .bool _) rfl) ?_; refine Lg2 rfl rfl rfl (X_fld rfl) ?_; refine Lg2 rfl rfl rfl (X_ld (cs := pxC (.slice A1 RW.length c1) (.slice A2 RD.length c2) (.slice A3 CL.length c3) qv) rfl (B3.ext E34) rfl) ?_)
            refine L_strip rfl rfl rfl ?_
            refine Ls (X_mkFunc (vf := []) (vc := [.pointer (some ⟨g2, 0, none⟩)]) rfl rfl) ?_
            skip
            refine L_strip rfl rfl rfl ?_
            refine L_fv rfl (gval_l lc hc' _ vs (by omega) w4 (((hrc.ext E12).ext E34).re hvl.symm rfl) hvc (fun i => decide ((CL.getD i []).length = s.R) && decide (∀ x ∈ CL.getD i [], x < Fd.pr)) 130 #[.pointer (some ⟨g2, 0, none⟩)] (gshclo s g2 CL hCL vs hvl w4 (C2.ext E34) (fun i x y hx hy => ((hvx i x y hx hy).ext E12).ext E34))) ?_
            intro w5 E5
            have ha3 := allC_iff s CL vs.length hvl
            revert ha3
            generalize decide (∀ i, i < vs.length → (decide ((CL.getD i []).length = s.R) && decide (∀ x ∈ CL.getD i [], x < Fd.pr)) = true) = b3
            intro ha3
            (refine Ls (X_pickT (v := .bool _) rfl rfl) ?_; refine Ls (X_assign (v := .bool _) rfl) ?_; refine L_nil ?_; refine tn ?_; refine W_ret ?_)
            exact endQ_ret1 rfl rfl (v := .bool _) rfl ⟨b3, rfl, ⟨fun h => ⟨k1, k2, k3, ha1.1 rfl, ha2.1 rfl, ha3.1 h⟩, fun h => ha3.2 h.cl⟩, E12.trans (E34.trans E5)⟩
      · repeat (first | (with_reducible refine tn ?_) | (with_reducible refine W_seq ?_) | (with_reducible refine W_region ?_) | (with_reducible refine W_ret ?_) | (with_reducible refine L_nil ?_) | ((with_reducible refine i_move ?_); ((with_reducible refine i_ng ?_); refine Ls (X_move (v := .bool _) rfl) ?_)) | ((with_reducible refine i_assign ?_); ((with_reducible refine i_ng ?_); refine Ls (X_assign (v := .bool _) rfl) ?_)) | ((with_reducible refine i_eql ?_); (first | ((with_reducible refine i_ng ?_); refine Ls (X_eqlT rfl rfl (by omega)) ?_) | ((with_reducible refine i_gd ?_); (first | refine Lg2 rfl rfl rfl (X_eqlT rfl rfl (by omega)) ?_ | refine Lg2 rfl rfl rfl (X_eqlF rfl rfl (by omega)) ?_)))) | ((with_reducible refine i_len ?_); (first | ((with_reducible refine i_ng ?_); refine Ls (X_lenSlice rfl) ?_) | ((with_reducible refine i_gd ?_); refine Lg2 rfl rfl rfl (X_lenSlice rfl) ?_))) | ((with_reducible refine i_fld ?_); (first | ((with_reducible refine i_ng ?_); refine Ls (X_fld rfl) ?_) | ((with_reducible refine i_gd ?_); refine Lg2 rfl rfl rfl (X_fld rfl) ?_))) | ((with_reducible refine i_pick ?_); ((with_reducible refine i_ng ?_); (first | refine Ls (X_pickT (v := .bool _) rfl rfl) ?_ | refine Ls (X_pickF (v := .bool _) rfl rfl) ?_))) | ((with_reducible refine i_load ?_); (first | ((with_reducible refine i_ng ?_); (first | refine Ls (X_ld (cs := shC (s.R : Nat) (s.C : Nat) (s.B : Nat) (s.t : Nat)) rfl C2 rfl) ?_ | refine Ls (X_ld (cs := pxC (.slice A1 RW.length c1) (.slice A2 RD.length c2) (.slice A3 CL.length c3) qv) rfl B3 rfl) ?_)) | ((with_reducible refine i_gd ?_); (first | refine Lg2 rfl rfl rfl (X_ld (cs := shC (s.R : Nat) (s.C : Nat) (s.B : Nat) (s.t : Nat)) rfl C2 rfl) ?_ | refine Lg2 rfl rfl rfl (X_ld (cs := pxC (.slice A1 RW.length c1) (.slice A2 RD.length c2) (.slice A3 CL.length c3) qv) rfl B3 rfl) ?_)))) | ((with_reducible refine i_gd ?_); refine Lo2 rfl rfl rfl rfl ?_))
        exact endQ_ret1 rfl rfl (v := .bool _) rfl (hno _ (Ext.refl _) fun h => k3 h.l3)
    · (refine Ls (X_assign (v := .bool _) rfl) ?_; refine L_nil ?_; refine tn ?_; refine W_seq ?_; refine W_region ?_; refine Ls (X_fld rfl) ?_; refine Ls (X_ld (cs := pxC (.slice A1 RW.length c1) (.slice A2 RD.length c2) (.slice A3 CL.length c3) qv) rfl B3 rfl) ?_; refine Ls (X_lenSlice rfl) ?_; refine Ls (X_fld rfl) ?_; refine Ls (X_ld (cs := shC (s.R : Nat) (s.C : Nat) (s.B : Nat) (s.t : Nat)) rfl C2 rfl) ?_; refine Ls (X_eqlT rfl rfl (by omega)) ?_; refine Ls (X_move (v := .bool _) rfl) ?_; refine Lg2 rfl rfl rfl (X_fld rfl) ?_; refine Lg2 rfl rfl rfl (X_ld (cs := pxC (.slice A1 RW.length c1) (.slice A2 RD.length c2) (.slice A3 CL.length c3) qv) rfl B3 rfl) ?_; refine Lg2 rfl rfl rfl (X_lenSlice rfl) ?_; refine Lg2 rfl rfl rfl (X_fld rfl) ?_; refine Lg2 rfl rfl rfl (X_ld (cs := shC (s.R : Nat) (s.C : Nat) (s.B : Nat) (s.t : Nat)) rfl C2 rfl) ?_; refine Lg2 rfl rfl rfl (X_eqlF rfl rfl (by omega)) ?_; refine Ls (X_pickT (v := .bool _) rfl rfl) ?_; refine Ls (X_move (v := .bool _) rfl) ?_; refine Lo2 rfl rfl rfl rfl ?_; refine Lo2 rfl rfl rfl rfl ?_; refine Lo2 rfl rfl rfl rfl ?_; refine Lo2 rfl rfl rfl rfl ?_; refine Lo2 rfl rfl rfl rfl ?_; refine Lo2 rfl rfl rfl rfl ?_; refine Ls (X_pickF (v := .bool _) rfl rfl) ?_; refine Ls (X_move (v := .bool _) rfl) ?_; refine Lo2 rfl rfl rfl rfl ?_; refine Lo2 rfl rfl rfl rfl ?_; refine Lo2 rfl rfl rfl rfl ?_; refine Ls (X_pickF (v := .bool _) rfl rfl) ?_; refine Ls (X_move (v := .bool _) rfl) ?_; refine Lo2 rfl rfl rfl rfl ?_; refine Lo2 rfl rfl rfl rfl ?_; refine Lo2 rfl rfl rfl rfl ?_; refine Ls (X_pickF (v := .bool _) rfl rfl) ?_; refine Ls (X_move (v := .bool _) rfl) ?_; refine Lo2 rfl rfl rfl rfl ?_; refine Lo2 rfl rfl rfl rfl ?_; refine Lo2 rfl rfl rfl rfl ?_; refine Lo2 rfl rfl rfl rfl ?_; refine Ls (X_pickF (v := .bool _) rfl rfl) ?_; refine Ls (X_assign (v := .bool _) rfl) ?_; refine L_nil ?_; refine tn ?_; refine W_ret ?_)
      exact endQ_ret1 rfl rfl (v := .bool _) rfl (hno _ (Ext.refl _) fun h => k2 h.l2)
  · (refine Ls (X_assign (v := .bool _) rfl) ?_; refine L_nil ?_; refine tn ?_; refine W_seq ?_; refine W_region ?_; refine Ls (X_fld rfl) ?_; refine Ls (X_ld (cs := pxC (.slice A1 RW.length c1) (.slice A2 RD.length c2) (.slice A3 CL.length c3) qv) rfl B3 rfl) ?_; refine Ls (X_lenSlice rfl) ?_; refine Ls (X_fld rfl) ?_; refine Ls (X_ld (cs := shC (s.R : Nat) (s.C : Nat) (s.B : Nat) (s.t : Nat)) rfl C2 rfl) ?_; refine Ls (X_eqlF rfl rfl (by omega)) ?_; refine Ls (X_move (v := .bool _) rfl) ?_; refine Lo2 rfl rfl rfl rfl ?_; refine Lo2 rfl rfl rfl rfl ?_; refine Lo2 rfl rfl rfl rfl ?_; refine Lo2 rfl rfl rfl rfl ?_; refine Lo2 rfl rfl rfl rfl ?_; refine Lo2 rfl rfl rfl rfl ?_; refine Ls (X_pickF (v := .bool _) rfl rfl) ?_; refine Ls (X_move (v := .bool _) rfl) ?_; refine Lo2 rfl rfl rfl rfl ?_; refine Lo2 rfl rfl rfl rfl ?_; refine Lo2 rfl rfl rfl rfl ?_; refine Lo2 rfl rfl rfl rfl ?_; refine Lo2 rfl rfl rfl rfl ?_; refine Lo2 rfl rfl rfl rfl ?_; refine Ls (X_pickF (v := .bool _) rfl rfl) ?_; refine Ls (X_move (v := .bool _) rfl) ?_; refine Lo2 rfl rfl rfl rfl ?_; refine Lo2 rfl rfl rfl rfl ?_; refine Lo2 rfl rfl rfl rfl ?_; refine Ls (X_pickF (v := .bool _) rfl rfl) ?_; refine Ls (X_move (v := .bool _) rfl) ?_; refine Lo2 rfl rfl rfl rfl ?_; refine Lo2 rfl rfl rfl rfl ?_; refine Lo2 rfl rfl rfl rfl ?_; refine Ls (X_pickF (v := .bool _) rfl rfl) ?_; refine Ls (X_move (v := .bool _) rfl) ?_; refine Lo2 rfl rfl rfl rfl ?_; refine Lo2 rfl rfl rfl rfl ?_; refine Lo2 rfl rfl rfl rfl ?_; refine Lo2 rfl rfl rfl rfl ?_; refine Ls (X_pickF (v := .bool _) rfl rfl) ?_; refine Ls (X_assign (v := .bool _) rfl) ?_; refine L_nil ?_; refine tn ?_; refine W_ret ?_)
    exact endQ_ret1 rfl rfl (v := .bool _) rfl (hno _ (Ext.refl _) fun h => k1 h.l1)
end Go.Proofs.YtpohjepbmgeplaaGreatDoor

/- Commitments: Verify, the program's. -/
namespace Go.Proofs.YtpohjepbmgeplaaGreatDoor
open Go.RowKit Go.Proofs.K
open _root_.Fd (K E pw root trow enc ccol comb)
open _root_.Cm (Sh pws pwE)

/-- an opened value, in the machine -/
def vopC (pv : Value) (rho : Nat × Nat) (iv : Value) (log : Int) (v : Nat × Nat) (rv nv cv qv : Value) : List Value :=
  [pv, .int .u64 (rho.1 : Nat), .int .u64 (rho.2 : Nat), iv, .int .i64 log, .int .u64 (v.1 : Nat), .int .u64 (v.2 : Nat), rv, nv, cv, qv]
/-- the arguments of a verification are valid -/
structure VArg (R C B T log : Int) (P : List (Nat × Nat)) (rho : Nat × Nat) (I : List Int) (v : Nat × Nat) (RW RD : List (Nat × Nat)) (CL : List (List Nat)) (s : Sh) : Prop where
  ok : s.Ok
  r : R = ((s.R : Nat) : Int)
  c : C = ((s.C : Nat) : Int)
  b : B = ((s.B : Nat) : Int)
  t : T = ((s.t : Nat) : Int)
  log : log = ((s.a + s.c : Nat) : Int)
  pos : PosOk s P rho I
  v : isE v
  sh : ShpOk s RW RD CL
/-- the answer for valid arguments -/
def verZ (s : Sh) (rt : List Nat) (P : List (Nat × Nat)) (rho : Nat × Nat) (I : List Int) (v : Nat × Nat) (RW RD : List (Nat × Nat)) (CL : List (List Nat)) (ns : List (List Nat)) : Nat :=
  Cm.verC lf nd by8 s rt (toI I) (P.map toE) (toE rho) (toE v) (RW.map toE) (RD.map toE) (CL.map fun c => c.map Fd.k) ns
theorem X_mkLeaves {n : NN} {f : Fr} {w : World} {d : Option Tmp} {t : TypeId} {pos : String} {af : Array Edge} {g : Option (Nat × Bool)} {x : Operand} {iv : Value} (hx : ev n f x = iv) (h1 : iv.cells = [iv].toArray) :
    X Tryz.prog n ⟨d, .build 128 #[(0, x)], t, pos, af, g⟩ f w = .ok (.value (.agg [iv, .slice none 0 0].toArray)) w := by
  have := X_build (P := Tryz.prog) (ty := 128) (n := n) (f := f) (w := w) (d := d) (t := t) (pos := pos) (af := af) (g := g) (zs := [[.slice none 0 0], [.slice none 0 0]]) (Parts.cons (i := 0) (c := [iv]) (z := [.slice none 0 0]) hx h1 rfl rfl (Parts.nil _))
  simpa using this
theorem X_neqE {n : NN} {f : Fr} {w : World} {d : Option Tmp} {t : TypeId} {pos : String} {af : Array Edge} {g : Option (Nat × Bool)} {x y : Operand} {a b : E} {q : Bool} (hx : ev n f x = .agg (xc a).toArray) (hy : ev n f y = .agg (xc b).toArray) (hq : q = true ↔ a ≠ b) :
    X Tryz.prog n ⟨d, .binOp .neq 31 x y 31, t, pos, af, g⟩ f w = .ok (.value (.bool q)) w := by
  have ha := a.a.isLt
  have ha' := a.b.isLt
  have hb := b.a.isLt
  have hb' := b.b.isLt
  have hp : Fd.pr < 18446744073709551616 := by decide
  rw [X_neqEx (by omega) (by omega) (by omega) (by omega) hx hy]
  congr 3
  rw [Bool.eq_iff_iff, decide_eq_true_eq, hq]
  exact not_congr ⟨fun ⟨h1, h2⟩ => by cases a; cases b; simp only at h1 h2; congr 1 <;> exact Fin.ext (by assumption), fun h => by rw [h]; exact ⟨rfl, rfl⟩⟩
theorem kvals {c : List Nat} (h : ∀ x ∈ c, x < Fd.pr) : vals (c.map Fd.k) = c := by
  unfold vals
  rw [List.map_map]
  conv => rhs; rw [← List.map_id c]
  exact List.map_congr_left fun x hx => Fd.k_of (h x hx)
end Go.Proofs.YtpohjepbmgeplaaGreatDoor
