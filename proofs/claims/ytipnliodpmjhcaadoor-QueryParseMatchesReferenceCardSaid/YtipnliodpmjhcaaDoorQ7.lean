/- ZH, YZ. -/
import Derived.Test.YtipnliodpmjhcaaDoorQ6
import Derived.Test.YtipnliodpmjhcaaDoorQ5
/- The reference's Parse. -/
namespace Go.Proofs.YtipnliodpmjhcaaDoor
open Go.RowKit Go.Proofs.K

theorem FilsI_nil1 (w : World) (lo hi : Nat) : FilsI w lo hi (.slice none 0 0) (filC Qy.q0.fs) := ⟨[], rfl, Row.nil _ _ _ _, fun i u f hu hf => by simp at hu⟩
theorem X_mkRP {n : NN} {f : Fr} {w : World} {d : Option Tmp} {t : TypeId} {pos : String} {af : Array Edge} {g : Option (Nat × Bool)} {x : Operand} {v : Value} (hx : ev n f x = v) (hv : v.oneCell' = true) :
    X Tryd.prog n ⟨d, .build 78 #[(0, x)], t, pos, af, g⟩ f w = .ok (.value (.agg (rpC v 0 0).toArray)) w := by
  have := X_build (P := Tryd.prog) (ty := 78) (n := n) (f := f) (w := w) (d := d) (t := t) (pos := pos) (af := af) (g := g) (Parts.cons (i := 0) (c := [v]) (z := [.slice none 0 0]) hx (one_c hv) rfl rfl (Parts.nil _))
  simpa [rpC] using this
theorem RSt.blk {w : World} {g lo hi N : Nat} {st : PS} (h : RSt w g lo hi N st) : ∃ cs, Blk w g 78 cs := by obtain ⟨_, _, _, _, h, _⟩ := h; exact ⟨_, h⟩
theorem MadeAt.par {b g lo hi N : Nat} {w w' : World} {v : Value} {fs : List (List Qy.Cnd)} {st : PS} (h : MadeAt b w v fs) (hR : RSt w g lo hi N st) (hg : w.grownBy w' (some g)) : MadeAt b w' v fs := by
  obtain ⟨cs, hB⟩ := hR.blk
  exact h.store hB (by decide) (by decide) hg
theorem pars_ok {s : ByteArray} (hs : ¬ 400 < s.size) {q : Qy.Q} {m : List Qy.Tok} (h : after (.ok (Qy.toks (sb s) 0)) Qy.query = .ok m) (hg : Gives (.ok (Qy.toks (sb s) 0)) Qy.query q) : Qy.parse (sb s) = match Qy.fin q m with
    | .ok (q, _) => (q, 0, 0)
    | .error (o, e) => (Qy.q0, o, e) := by
  have hb : Nat.blt 400 (sb s).length = false := Qy.blt_no (by rw [sb_len]; omega)
  unfold Qy.parse
  rw [hb]
  simp only [cond_false]
  simp only [after] at h
  cases hq : Qy.query (Qy.toks (sb s) 0) with
  | error e => rw [hq] at h; cases h
  | ok p =>
    obtain ⟨a, l⟩ := p
    obtain rfl := hg _ rfl a l hq
    rw [hq] at h
    injection h with h
    subst h
    rfl
theorem pars_err {s : ByteArray} (hs : ¬ 400 < s.size) {e : Qy.Er} (h : after (.ok (Qy.toks (sb s) 0)) Qy.query = .error e) : Qy.parse (sb s) = (Qy.q0, e.1, e.2) := by
  have hb : Nat.blt 400 (sb s).length = false := Qy.blt_no (by rw [sb_len]; omega)
  unfold Qy.parse
  rw [hb]
  simp only [cond_false]
  simp only [after] at h
  cases hq : Qy.query (Qy.toks (sb s) 0) with
  | error e' =>
    rw [hq] at h
    injection h with h
    subst h
    rfl
  | ok p => rw [hq] at h; cases h
set_option maxRecDepth 100000 in
set_option maxHeartbeats 8000000 in
theorem pparse (s : ByteArray) (hs : s.size ≤ 100000) (w : World) :
    Calls Tryd.prog 21 #[.string s] w fun e w' => ∃ v : Value, e = .returned (parV (Qy.parse (sb s)) v) ∧ Ext w w' ∧ FilsI w' w.heap.size w'.heap.size v (filC (Qy.parse (sb s)).1.fs) := by
  refine calls_W Tryd.func21 rfl Tryd.ntmps21 rfl ?_
  (refine W_seq ?_; refine W_region ?_)
  refine L_alloc ?_
  intro g2 w1 B2 hg2 E1 hs1
  by_cases hbig : 400 < s.size
  · have hp : Qy.parse (sb s) = (Qy.q0, 0, 2) := Qy.parse_big (by rw [sb_len]; exact hbig)
    rw [hp]
    (refine Ls (X_assign (v := .int _ _) rfl) ?_; refine Ls (X_assign (v := .int _ _) rfl) ?_; refine L_nil ?_; refine tn ?_; refine W_seq ?_; refine W_seq ?_; refine W_region ?_; refine Ls (X_move (v := .string _) rfl) ?_; refine Ls (X_lenStr rfl) ?_; refine Ls (X_gtrT rfl rfl (by omega)) ?_; refine L_nil ?_; refine tn ?_; refine W_condT rfl ?_; refine W_seq ?_; refine W_region ?_)
    refine Ls X_mkQ0 ?_
    refine L_storeW (size := 4) (l := qC 0 0 0 (.slice none 0 0)) rfl rfl rfl (qC_cell rfl) B2 rfl ?_
    intro w2 C2 hg2' hs2
    (refine Ls (X_assign (v := .int _ _) rfl) ?_; refine Ls (X_assign (v := .int _ _) rfl) ?_; refine L_nil ?_; refine tn ?_; refine W_ret ?_; refine tr ?_)
    refine endQ_res rfl rfl (Res.cellA (cs := qry Qy.q0 (.slice none 0 0)) inferInstance rfl (C2.range (fun j u h => by rw [Nat.zero_add]; exact h)) rfl (Res.tmp rfl (Res.tmp rfl .nil))) ?_
    exact ⟨_, rfl, E1.then hg2' (fun g h => by cases h; omega), FilsI_nil1 _ _ _⟩
  · (refine Ls (X_assign (v := .int _ _) rfl) ?_; refine Ls (X_assign (v := .int _ _) rfl) ?_; refine L_nil ?_; refine tn ?_; refine W_seq ?_; refine W_seq ?_; refine W_region ?_; refine Ls (X_move (v := .string _) rfl) ?_; refine Ls (X_lenStr rfl) ?_; refine Ls (X_gtrF rfl rfl (by omega)) ?_; refine L_nil ?_; refine tn ?_; refine W_condF rfl ?_; refine W_skip ?_; refine tn ?_; refine W_seq ?_; refine W_region ?_; refine Ls (X_move (v := .string _) rfl) ?_)
    refine L_fn (rtokens s (by omega) w1) rfl ?_
    rintro e w2 ⟨v2, rfl, E2, o2⟩
    refine ⟨_, rfl, ?_⟩
    have r2 := Row.of_own o2
    have v2c := own_cell3 o2
    have hz2 := E2.size
    refine Ls (X_mkRP rfl v2c) ?_
    refine L_box (l := rpC v2 0 0) rfl ?_
    intro g5 w3 B5 hg5 E3 hs3
    refine Ls X_mkQ0 ?_
    refine L_alloc ?_
    intro g6 w4 B6 hg6 E4 hs4
    (refine Ls (X_assign (v := .pointer _) rfl) ?_)
    refine L_storeW (size := 4) (l := qC ((0 : Nat) : Int) 0 0 (.slice none 0 0)) rfl rfl rfl (qC_cell rfl) B6 rfl ?_
    intro w5 C6 hg6' hs5
    have E35 : Ext w3 w5 := E4.then hg6' (fun g h => by cases h; omega)
    have E05 := ((E1.trans E2).trans E3).trans E35
    have C2 := (B2.ext (E2.trans E3)).ext E35
    obtain ⟨L, hL⟩ : ∃ L, L = Qy.toks (sb s) 0 := ⟨_, rfl⟩
    have hT := toks_tokOk (l := sb s) (fun c hc => sb_lt s c hc) (by rw [sb_len]; omega) 0
    have hEW := Qy.toks_ok (sb s)
    rw [sb_len] at hEW
    have R5 : RSt w5 g5 w1.heap.size w2.heap.size s.size (.ok L) := by
      rw [hL]
      exact ⟨v2, _, 0, 0, B5.ext E35, (r2.ext E3).ext E35, by omega, hEW, hT, rfl, rfl, rfl⟩
    have pok := fun {q m} h1 h2 => pars_ok hbig (q := q) (m := m) h1 h2
    have perr := fun {e} h1 => pars_err hbig (e := e) h1
    rw [← hL] at pok perr
    clear hT hEW B2 B5 B6 r2 o2 hL
    (refine L_nil ?_; refine tn ?_; refine W_seq ?_; refine W_seq ?_; refine W_region ?_; refine Ls (X_assign (v := .int _ _) rfl) ?_; refine L_nil ?_; refine tn ?_; refine W_block ?_)
    refine W_mono (Q := fun e f w' => e = .exit 0 ∧ ∃ (kd : Nat) (σ : PS), Ext w w' ∧ RSt w' g5 w1.heap.size w2.heap.size s.size σ ∧ Blk w' g6 24 (qC (kd : Nat) 0 0 (.slice none 0 0)) ∧ Blk w' g2 24 (qC 0 0 0 (.slice none 0 0)) ∧
      ((kd = 0 ∧ σ = .ok L ∧ Qy.query L = .error (Qy.unexp L)) ∨ (1 ≤ kd ∧ kd ≤ 7 ∧ ∃ r, σ = .ok r ∧ Qy.query L = Qy.body kd r)) ∧ f 0 = .string s ∧ f 2 = .pointer (some ⟨g2, 0, none⟩) ∧ f 5 = .pointer (some ⟨g5, 0, none⟩) ∧ f 6 = .pointer (some ⟨g6, 0, none⟩)) ?_ ?_
    · refine W_loop (fun z f w' => ∃ (k kd : Nat) (σ : PS), z = 8 - k ∧ 1 ≤ k ∧ k ≤ 8 ∧ Ext w w' ∧ RSt w' g5 w1.heap.size w2.heap.size s.size σ ∧ Blk w' g6 24 (qC (kd : Nat) 0 0 (.slice none 0 0)) ∧ Blk w' g2 24 (qC 0 0 0 (.slice none 0 0)) ∧
        ((kd = 0 ∧ σ = .ok L ∧ Qy.query L = Qy.queryF (8 - k) k L) ∨ (1 ≤ kd ∧ kd ≤ 7 ∧ ∃ r, σ = .ok r ∧ Qy.query L = Qy.body kd r)) ∧ f 0 = .string s ∧ f 2 = .pointer (some ⟨g2, 0, none⟩) ∧ f 5 = .pointer (some ⟨g5, 0, none⟩) ∧ f 6 = .pointer (some ⟨g6, 0, none⟩) ∧ f 7 = .int .i64 (k : Nat)) 7 ?_ ?_
      · exact ⟨1, 0, .ok L, rfl, by omega, by omega, E05, R5, C6, C2, .inl ⟨rfl, rfl, rfl⟩, rfl, rfl, rfl, rfl, rfl⟩
      · clear E05 R5 C6 C2
        rintro z f w6 ⟨k, kd, σ, rfl, hk1, hk8, E6, R6, C6, C2, hd, f0, f2, f5, f6, f7⟩
        rw [fold f0, fold f2, fold f5, fold f6, fold f7]
        clear f0 f2 f5 f6 f7
        rcases hd with ⟨rfl, rfl, hq⟩ | ⟨hkd1, hkd7, hq⟩
        · by_cases hk7 : k ≤ 7
          · (refine W_seq ?_; refine W_seq ?_; refine W_region ?_; refine Ls (X_move (v := .int _ _) rfl) ?_; refine Ls (X_leqT rfl rfl (by omega)) ?_; refine Ls (X_move (v := .bool _) rfl) ?_; refine Lg2 rfl rfl rfl (X_fld rfl) ?_; refine Lg2 rfl rfl rfl (X_ld (v := .int .i64 (0 : Nat)) rfl C6 rfl) ?_; refine Lg2 rfl rfl rfl (X_eqlT rfl rfl (by omega)) ?_; refine Ls (X_pickT (v := .bool _) rfl rfl) ?_; refine L_nil ?_; refine tn ?_; refine W_condT rfl ?_; refine W_skip ?_; refine tn ?_; refine W_seq ?_; refine W_block ?_; refine W_seq ?_; refine W_region ?_; refine Ls (X_move (v := .pointer _) rfl) ?_; refine Ls (X_move (v := .int _ _) rfl) ?_)
            refine L_fv rfl (rkeyword k hk1 hk7 w6) ?_
            intro w7 E7
            refine L_fn (raccept g5 _ _ _ (.ok L) (Qy.keyword k) (Qy.keyword_ne hk1 hk7) (tokX_kw hk1 hk7).b w7 (R6.ext E7)) rfl ?_
            rintro e w8 ⟨b, rfl, G8, hb⟩
            refine ⟨_, rfl, ?_⟩
            have E8 : Ext w w8 := (E6.trans E7).then G8 (fun g h => by cases h; omega)
            have D6 := (C6.ext E7).grown G8 (by simp; omega)
            have D2 := (C2.ext E7).grown G8 (by simp; omega)
            rcases hb with ⟨rfl, l, r, hl, ha, R8⟩ | ⟨rfl, R8, hno⟩
            · cases hl
              have hql : Qy.query L = Qy.body k r := by
                rw [hq, show 8 - k = (7 - k) + 1 by omega]
                simp only [Qy.queryF, ha]
              (refine L_nil ?_; refine tn ?_; refine W_condT rfl ?_; refine W_region ?_; refine Ls (X_move (v := .int _ _) rfl) ?_; refine Ls (X_fld rfl) ?_)
              refine L_store1 rfl (v := .int .i64 (k : Nat)) rfl rfl D6 (by simp [qC]) ?_
              intro w9 B9 hg9 hs9
              (refine L_nil ?_; refine bn ?_; refine tn ?_; refine W_region ?_; refine Ls (X_move (v := .int _ _) rfl) ?_; refine Ls (X_addi rfl rfl (by omega)) ?_; refine Ls (X_assign (v := .int _ _) rfl) ?_; refine L_nil ?_; refine tn ?_)
              exact ⟨8 - (k + 1), by omega, k + 1, k, .ok r, rfl, by omega, by omega, E8.then hg9 (fun g h => by cases h; omega), R8.above hg9 (by omega), B9, D2.grown hg9 (by simp; omega), .inr ⟨hk1, hk7, r, rfl, hql⟩, rfl, rfl, rfl, rfl, val_int rfl (by omega)⟩
            · (refine L_nil ?_; refine tn ?_; refine W_condF rfl ?_; refine W_skip ?_; refine bn ?_; refine tn ?_; refine W_region ?_; refine Ls (X_move (v := .int _ _) rfl) ?_; refine Ls (X_addi rfl rfl (by omega)) ?_; refine Ls (X_assign (v := .int _ _) rfl) ?_; refine L_nil ?_; refine tn ?_)
              refine ⟨8 - (k + 1), by omega, k + 1, 0, .ok L, rfl, by omega, by omega, E8, R8, D6, D2, .inl ⟨rfl, rfl, ?_⟩, rfl, rfl, rfl, rfl, val_int rfl (by omega)⟩
              rw [hq, show 8 - k = (8 - (k + 1)) + 1 by omega]
              simp only [Qy.queryF, hno L rfl]
          · obtain rfl : k = 8 := by omega
            (refine W_seq ?_; refine W_seq ?_; refine W_region ?_; refine Ls (X_move (v := .int _ _) rfl) ?_; refine Ls (X_leqF rfl rfl (by omega)) ?_; refine Ls (X_move (v := .bool _) rfl) ?_; refine Lo2 rfl rfl rfl rfl ?_; refine Lo2 rfl rfl rfl rfl ?_; refine Lo2 rfl rfl rfl rfl ?_; refine Ls (X_pickF (v := .bool _) rfl rfl) ?_; refine L_nil ?_; refine tn ?_; refine W_condF rfl ?_; refine W_exit ?_; refine te ?_; refine te ?_)
            exact ⟨rfl, 0, .ok L, E6, R6, C6, C2, .inl ⟨rfl, rfl, hq⟩, rfl, rfl, rfl, rfl⟩
        · by_cases hk7 : k ≤ 7
          · (refine W_seq ?_; refine W_seq ?_; refine W_region ?_; refine Ls (X_move (v := .int _ _) rfl) ?_; refine Ls (X_leqT rfl rfl (by omega)) ?_; refine Ls (X_move (v := .bool _) rfl) ?_; refine Lg2 rfl rfl rfl (X_fld rfl) ?_; refine Lg2 rfl rfl rfl (X_ld (v := .int .i64 (kd : Nat)) rfl C6 rfl) ?_; refine Lg2 rfl rfl rfl (X_eqlF rfl rfl (by omega)) ?_; refine Ls (X_pickT (v := .bool _) rfl rfl) ?_; refine L_nil ?_; refine tn ?_; refine W_condF rfl ?_; refine W_exit ?_; refine te ?_; refine te ?_)
            exact ⟨rfl, kd, σ, E6, R6, C6, C2, .inr ⟨hkd1, hkd7, hq⟩, rfl, rfl, rfl, rfl⟩
          · obtain rfl : k = 8 := by omega
            (refine W_seq ?_; refine W_seq ?_; refine W_region ?_; refine Ls (X_move (v := .int _ _) rfl) ?_; refine Ls (X_leqF rfl rfl (by omega)) ?_; refine Ls (X_move (v := .bool _) rfl) ?_; refine Lo2 rfl rfl rfl rfl ?_; refine Lo2 rfl rfl rfl rfl ?_; refine Lo2 rfl rfl rfl rfl ?_; refine Ls (X_pickF (v := .bool _) rfl rfl) ?_; refine L_nil ?_; refine tn ?_; refine W_condF rfl ?_; refine W_exit ?_; refine te ?_; refine te ?_)
            exact ⟨rfl, kd, σ, E6, R6, C6, C2, .inr ⟨hkd1, hkd7, hq⟩, rfl, rfl, rfl, rfl⟩
    clear E05 R5 C6 C2
    rintro e f w6 ⟨rfl, k, σ, E6, R6, C6, C2, hd, f0, f2, f5, f6⟩
    rw [fold f0, fold f2, fold f5, fold f6]
    clear f0 f2 f5 f6
    rcases hd with ⟨rfl, rfl, hq⟩ | ⟨hk1, hk7, r, rfl, hq⟩
    · have hparse : Qy.parse (sb s) = (Qy.q0, (Qy.unexp L).1, (Qy.unexp L).2) := perr (by unfold after; simp only [hq])
      (refine bx ?_; refine tn ?_; refine W_seq ?_; refine W_seq ?_; refine W_region ?_; refine Ls (X_fld rfl) ?_; refine Ls (X_ld (v := .int .i64 (0 : Nat)) rfl C6 rfl) ?_; refine Ls (X_eqlT rfl rfl (by omega)) ?_; refine L_nil ?_; refine tn ?_; refine W_condT rfl ?_; refine W_seq ?_; refine W_region ?_; refine Ls (X_move (v := .pointer _) rfl) ?_)
      refine L_fn (runexpected g5 _ _ _ (.ok L) w6 R6) rfl ?_
      rintro e w7 ⟨rfl, G7, R7⟩
      refine ⟨_, rfl, ?_⟩
      have E7 : Ext w w7 := E6.then G7 (fun g h => by cases h; omega)
      have D2 := C2.grown G7 (by simp; omega)
      obtain ⟨v7, l7, off7, err7, D7, _, _, _, _, z1, z2, z3⟩ := R7
      have hne7 : g5 ≠ g2 := by omega
      have he7 : err7 ≠ 0 := by omega
      (refine L_nil ?_; refine tn ?_; refine W_seq ?_)
      apply W_dagR (R := RB g2 24 (qC 0 0 0 (.slice none 0 0)) (qC 0 0 0 (.slice none 0 0))) (AB g2 24 (qC 0 0 0 (.slice none 0 0)) (qC 0 0 0 (.slice none 0 0)) w7) 12 (by kernel_rfl) (RB.refl _ _ _ _) (AB.new D2) AB.step
      ((with_reducible apply DW_x); (exact fun r w hA hH => (X_mkQ0).trans rfl))
      (apply DW_x (fun r w hA hH => (X_move (v := .pointer _) rfl).trans rfl); apply DW_x (fun r w hA hH => (X_nil rfl).trans rfl); apply DW_x (fun r w hA hH => (X_fld rfl).trans rfl); apply DW_x (fun r w hA hH => (X_ld (v := .int .i64 (off7 : Nat)) rfl (D7.grown hA.1 (by simp; omega)) rfl).trans rfl); apply DW_x (fun r w hA hH => (X_move (v := .pointer _) rfl).trans rfl); apply DW_x (fun r w hA hH => (X_nil rfl).trans rfl); apply DW_x (fun r w hA hH => (X_fld rfl).trans rfl); apply DW_x (fun r w hA hH => (X_ld (v := .int .i64 (err7 : Nat)) rfl (D7.grown hA.1 (by simp; omega)) rfl).trans rfl))
      apply DW_store (fun _ => rfl) (fun _ => rfl) rfl rfl (qC_cell rfl)
      (apply DW_x (fun r w hA hH => (X_assign (v := .int _ _) rfl).trans rfl); apply DW_x (fun r w hA hH => (X_assign (v := .int _ _) rfl).trans rfl))
      ((with_reducible exact D_end); (exact rfl); (repeat (first | exact .inr (.inr (fun _ _ => by with_reducible rfl)) | (refine And.intro ?_ ?_) | exact .inr (.inl rfl) | exact .inl (by decide +kernel) | exact trivial | exact .inr (.inr (fun _ _ => rfl)))); (try dsimp only [Nat.reduceAdd]))
      intro r8 w8 A8 H8
      have B8 : Blk w8 g2 24 (qC 0 0 0 (.slice none 0 0)) := H8 9
      (refine L_nil ?_; refine tn ?_; refine W_ret ?_; refine tr ?_)
      refine endQ_res rfl rfl (Res.cellA (cs := qry Qy.q0 (.slice none 0 0)) inferInstance rfl (B8.range (fun j u h => by rw [Nat.zero_add]; exact h)) rfl (Res.tmp rfl (Res.tmp rfl .nil))) ?_
      rw [hparse, ← z1, ← z2]
      exact ⟨_, rfl, (E7).then A8.1 (fun g h => by cases h; omega), FilsI_nil1 _ _ _⟩
    · have hmk := Qy.maxK_le k
      have hk0 : (k : Int) ≠ 0 := by omega
      (refine bx ?_; refine tn ?_; refine W_seq ?_; refine W_seq ?_; refine W_region ?_; refine Ls (X_fld rfl) ?_; refine Ls (X_ld (v := .int .i64 (k : Nat)) rfl C6 rfl) ?_; refine Ls (X_eqlF rfl rfl (by omega)) ?_; refine L_nil ?_; refine tn ?_; refine W_condF rfl ?_; refine W_skip ?_; refine tn ?_; refine W_seq ?_; refine W_seq ?_; refine W_region ?_; refine Ls (X_fld rfl) ?_; refine Ls (X_ld (v := .int .i64 (k : Nat)) rfl C6 rfl) ?_)
      refine L_fv rfl (rhascol k w6) ?_
      intro w7 E7
      have E07 := E6.trans E7
      have R7 := R6.ext E7
      have C6 := C6.ext E7
      have C2 := C2.ext E7
      (refine L_nil ?_; refine tn ?_)
      refine W_mono (Q := fun e f w' => e = .normal ∧ ∃ (c : Nat) (σ : PS), Ext w w' ∧ RSt w' g5 w1.heap.size w2.heap.size s.size σ ∧ after (.ok r) (S1 k) = σ ∧ Gives (.ok r) (S1 k) c ∧ Blk w' g6 24 (qC (k : Nat) (c : Nat) 0 (.slice none 0 0)) ∧ Blk w' g2 24 (qC 0 0 0 (.slice none 0 0)) ∧ f 2 = .pointer (some ⟨g2, 0, none⟩) ∧ f 5 = .pointer (some ⟨g5, 0, none⟩) ∧ f 6 = .pointer (some ⟨g6, 0, none⟩)) ?_ ?_
      · cases hh : Qy.hasCol k
        · have e1 : S1 k = fun l => .ok (0, l) := by funext l; unfold S1; rw [hh]; rfl
          (refine W_condF rfl ?_; refine W_skip ?_)
          exact ⟨rfl, 0, .ok r, E07, R7, by rw [e1]; rfl, by rw [e1]; exact gives_ok _ _, C6, C2, rfl, rfl, rfl⟩
        · have e1 : S1 k = Qy.col := by funext l; unfold S1; rw [hh]; rfl
          (refine W_condT rfl ?_; refine W_region ?_; refine Ls (X_move (v := .pointer _) rfl) ?_)
          refine L_fn (pcolumn g5 _ _ _ (.ok r) w7 R7) rfl ?_
          rintro e w9 ⟨c, rfl, _, G9, P9, v9⟩
          refine ⟨_, rfl, ?_⟩
          have hz9 := G9.size
          (refine Ls (X_fld rfl) ?_)
          refine L_store1 rfl (v := .int _ _) rfl rfl (C6.grown G9 (by simp; omega)) (by simp [qC]) ?_
          intro w10 B10 hg10 hs10
          (refine L_nil ?_)
          exact ⟨rfl, c, _, (E07.then G9 (fun g h => by cases h; omega)).then hg10 (fun g h => by cases h; omega), P9.above hg10 (by omega), by rw [e1], by rw [e1]; exact v9, B10, (C2.grown G9 (by simp; omega)).grown hg10 (by simp; omega), rfl, rfl, rfl⟩
      clear C6 C2 R6 R7 E07 E7 E6
      rintro e f w8 ⟨rfl, c, σ1, E8, R8, a1, v1, C6, C2, f2, f5, f6⟩
      rw [fold f2, fold f5, fold f6]
      clear f2 f5 f6
      (refine tn ?_; refine W_seq ?_; refine W_seq ?_; refine W_region ?_; refine Ls (X_fld rfl) ?_; refine Ls (X_ld (v := .int .i64 (k : Nat)) rfl C6 rfl) ?_)
      refine L_fv rfl (rmaxK k w8) ?_
      intro w9 E9
      have E09 := E8.trans E9
      have R9 := R8.ext E9
      have C6 := C6.ext E9
      have C2 := C2.ext E9
      (refine Ls (X_gtr rfl rfl) ?_; refine L_nil ?_; refine tn ?_)
      refine W_mono (Q := fun e f w' => e = .normal ∧ ∃ (n : Nat) (σ : PS), Ext w w' ∧ RSt w' g5 w1.heap.size w2.heap.size s.size σ ∧ after σ1 (S2 k) = σ ∧ Gives σ1 (S2 k) n ∧ Blk w' g6 24 (qC (k : Nat) (c : Nat) (n : Nat) (.slice none 0 0)) ∧ Blk w' g2 24 (qC 0 0 0 (.slice none 0 0)) ∧ f 2 = .pointer (some ⟨g2, 0, none⟩) ∧ f 5 = .pointer (some ⟨g5, 0, none⟩) ∧ f 6 = .pointer (some ⟨g6, 0, none⟩)) ?_ ?_
      · by_cases hh : 0 < Qy.maxK k
        · have e1 : S2 k = Qy.num 1 (Qy.maxK k) := by funext l; unfold S2; rw [Nat.ble_eq_true_of_le hh]; rfl
          refine W_condp rfl (fun _ => ?_) (fun hn => (hn (by omega)).elim)
          (refine W_region ?_; refine Ls (X_move (v := .pointer _) rfl) ?_; refine Ls (X_fld rfl) ?_; refine Ls (X_ld (v := .int .i64 (k : Nat)) rfl C6 rfl) ?_)
          refine L_fv rfl (rmaxK k w9) ?_
          intro w10 E10
          refine L_fn (rnumber g5 _ _ _ σ1 1 (Qy.maxK k) (by omega) (by omega) w10 (R9.ext E10)) rfl ?_
          rintro e w11 ⟨n, rfl, _, G11, P11, v11⟩
          refine ⟨_, rfl, ?_⟩
          have hz10 := E10.size
          have hz11 := G11.size
          (refine Ls (X_fld rfl) ?_)
          refine L_store1 rfl (v := .int _ _) rfl rfl ((C6.ext E10).grown G11 (by simp; omega)) (by simp [qC]) ?_
          intro w12 B12 hg12 hs12
          (refine L_nil ?_)
          exact ⟨rfl, n, _, ((E09.trans E10).then G11 (fun g h => by cases h; omega)).then hg12 (fun g h => by cases h; omega), P11.above hg12 (by omega), by rw [e1], by rw [e1]; exact v11, B12, ((C2.ext E10).grown G11 (by simp; omega)).grown hg12 (by simp; omega), rfl, rfl, rfl⟩
        · have hb0 : Nat.ble 1 (Qy.maxK k) = false := by
            cases hb : Nat.ble 1 (Qy.maxK k)
            · rfl
            · exact (hh (Nat.le_of_ble_eq_true hb)).elim
          have e1 : S2 k = fun l => .ok (0, l) := by funext l; unfold S2; rw [hb0]; rfl
          refine W_condp rfl (fun hn => (hh (by omega)).elim) (fun _ => ?_)
          (refine W_skip ?_)
          exact ⟨rfl, 0, σ1, E09, R9, by rw [e1]; exact after_ok _ _, by rw [e1]; exact gives_ok _ _, C6, C2, rfl, rfl, rfl⟩
      clear C6 C2 R8 R9 E09 E9 E8
      rintro e f w10 ⟨rfl, n, σ2, E10, R10, a2, v2, C6, C2, f2, f5, f6⟩
      rw [fold f2, fold f5, fold f6]
      clear f2 f5 f6
      have hlt6 : g6 < w10.heap.size := C6.lt
      (refine tn ?_; refine W_seq ?_)
      apply W_dagG 3 g5 (fun w' => RSt w' g5 w1.heap.size w2.heap.size s.size (σ2)) 5 (by kernel_rfl) (R10.ext (Ext.drew _)) (fun _ _ E h => h.ext E)
      (apply DW_x (fun r w hA hH => (X_fld rfl).trans rfl); apply DW_x (fun r w hA hH => (X_ld (v := .slice none 0 0) rfl (C6.grown hA.g (by simp; omega)) rfl).trans rfl); apply DW_x (fun r w hA hH => (X_move (v := .pointer _) rfl).trans rfl))
      ((with_reducible apply DW_fr (F := fun v w' => ∃ l : List Qy.Cnd, w'.ownsRow w10.heap.size 46 3 v l.length (cndsI (l.map Qy.liC)) ∧ RSt w' g5 w1.heap.size w2.heap.size s.size (after (σ2) Qy.filt) ∧ Gives (σ2) Qy.filt l ∧ l.length ≤ 3)); (exact fun _ => rfl); (exact fun r w hA hH => (pfilter g5 _ _ _ _ w (hA.pre (.inl rfl))).mono fun e w' ⟨v, l, he, hG, hP, hv, hl, ho⟩ => ⟨v, he, .inr ⟨rfl, hG⟩, l, own_base ho hA.g.size, hP, hv, hl⟩); (exact fun i u w w' hi ht hR h => (by obtain ⟨l, h1, h2, h3⟩ := h; exact ⟨l, own_ext h1 (hR.other hi), h2.ext (hR.other hi), h3⟩)))
      apply DW_d (F := fun r u w => RowF w10 1 u 1 [r 3] w) (fun r w hA hH => by
        obtain ⟨l, h1, _⟩ := hH 3 rfl
        exact ⟨_, _, X_lit1 rfl (own_cell3 h1), grown_alloc _ _, RowF.lit w _ [r 3] hA.g.size 1 rfl (by decide)⟩) (fun i r u w w' hi ht hR h => hR.elim (fun E => RowF.ext E h) (fun ⟨e, _⟩ => by subst e; exact Bool.noConfusion (ht : true = false))) (fun _ _ => rfl)
      ((with_reducible exact D_end); (exact rfl); (repeat (first | exact .inr (.inr (fun _ _ => by with_reducible rfl)) | (refine And.intro ?_ ?_) | exact .inr (.inl rfl) | exact .inl (by decide +kernel) | exact trivial | exact .inr (.inr (fun _ _ => rfl)))); (try dsimp only [Nat.reduceAdd]))
      intro r3 w11 G11 H3
      obtain ⟨l1, o1, P11, vl1, hl1⟩ := H3 3
      obtain ⟨lo4, hi4, hlo4, r4⟩ : RowF w10 1 (r3 4) 1 [r3 3] w11 := H3 4
      have hc1 := own_cell3 o1
      generalize r3 3 = u1 at *
      generalize r3 4 = q4 at *
      clear H3
      have hz10 := E10.size
      have hz11 := G11.size
      have E11 : Ext w w11 := E10.then G11 (fun g h => by cases h; omega)
      refine L_append (v := .slice none 0 0) (u := q4) rfl rfl (own_empty w11 w11.heap.size _ 1) r4 (by simpa using hc1) (by omega) (by omega) (Nat.le_refl _) ?_
      intro v12 w12 o12 hg12 _
      have E12 : Ext w11 w12 := hg12
      have o12 := own_base o12 (show w10.heap.size ≤ w11.heap.size by omega)
      have M12 : MadeAt w10.heap.size w12 v12 ([] ++ [l1]) := MadeAt.snoc (us := []) rfl (own_empty w11 _ _ 1) (fun j u f hu _ => by simp at hu) o1 hg12 o12
      have D6 := (C6.grown G11 (by simp; omega)).ext E12
      have D2 := (C2.grown G11 (by simp; omega)).ext E12
      have hvc := own_cell3 o12
      (refine Ls (X_fld rfl) ?_)
      refine L_store1 rfl (v := v12) rfl hvc D6 (by simp [qC]) ?_
      intro w13 B13 hg13 hs13
      have E13 : Ext w w13 := (E11.trans E12).then hg13 (fun g h => by cases h; omega)
      have R13 := (P11.ext E12).above hg13 (by omega)
      have M13 : MadeAt w10.heap.size w13 v12 [l1] := M12.store D6 (by decide) (by decide) hg13
      have D2 := D2.grown hg13 (by simp; omega)
      have hz12 := E12.size
      clear C6 C2 D6 M12 o12 o1 P11 R10 E11 r4 hg12
      (refine L_nil ?_; refine tn ?_; refine W_seq ?_; refine W_seq ?_; refine W_region ?_; refine Ls (X_fld rfl) ?_; refine Ls (X_ld (v := .int .i64 (k : Nat)) rfl B13 rfl) ?_; refine Ls (X_eql rfl rfl) ?_; refine L_nil ?_; refine tn ?_)
      refine W_mono (Q := fun e f w' => e = .normal ∧ ∃ (fs : List (List Qy.Cnd)) (v : Value) (σ : PS), Ext w w' ∧ w10.heap.size ≤ w'.heap.size ∧ RSt w' g5 w1.heap.size w2.heap.size s.size σ ∧ after σ2 (Qy.fils k) = σ ∧ Gives σ2 (Qy.fils k) fs ∧ Blk w' g6 24 (qC (k : Nat) (c : Nat) (n : Nat) v) ∧ Blk w' g2 24 (qC 0 0 0 (.slice none 0 0)) ∧ MadeAt w10.heap.size w' v fs ∧ f 2 = .pointer (some ⟨g2, 0, none⟩) ∧ f 5 = .pointer (some ⟨g5, 0, none⟩) ∧ f 6 = .pointer (some ⟨g6, 0, none⟩)) ?_ ?_
      · by_cases h7 : k = 7
        · refine W_condp rfl (fun _ => ?_) (fun hn => (hn (by omega)).elim)
          subst h7
          (refine W_seq ?_; refine W_region ?_; refine Ls (X_move (v := .pointer _) rfl) ?_)
          refine L_fn (rexpect g5 _ _ _ _ Qy.tWith (by decide) (by decide) w13 R13) rfl ?_
          rintro e w14 ⟨rfl, G14, R14⟩
          refine ⟨_, rfl, ?_⟩
          have hz14 := G14.size
          have E14 : Ext w w14 := E13.then G14 (fun g h => by cases h; omega)
          have B14 := B13.grown G14 (by simp; omega)
          have D2 := D2.grown G14 (by simp; omega)
          have M14 := M13.par R13 G14
          (refine L_nil ?_; refine tn ?_)
          apply W_dagG 3 g5 (fun w' => RSt w' g5 w1.heap.size w2.heap.size s.size (after (after σ2 Qy.filt) (Qy.expect Qy.tWith))) 5 (by kernel_rfl) (R14.ext (Ext.drew _)) (fun _ _ E h => h.ext E)
          (apply DW_x (fun r w hA hH => (X_fld rfl).trans rfl); apply DW_x (fun r w hA hH => (X_ld (v := v12) rfl (B14.grown hA.g (by simp; omega)) rfl).trans rfl); apply DW_x (fun r w hA hH => (X_move (v := .pointer _) rfl).trans rfl))
          ((with_reducible apply DW_fr (F := fun v w' => ∃ l : List Qy.Cnd, w'.ownsRow w14.heap.size 46 3 v l.length (cndsI (l.map Qy.liC)) ∧ RSt w' g5 w1.heap.size w2.heap.size s.size (after (after (after σ2 Qy.filt) (Qy.expect Qy.tWith)) Qy.filt) ∧ Gives (after (after σ2 Qy.filt) (Qy.expect Qy.tWith)) Qy.filt l ∧ l.length ≤ 3)); (exact fun _ => rfl); (exact fun r w hA hH => (pfilter g5 _ _ _ _ w (hA.pre (.inl rfl))).mono fun e w' ⟨v, l, he, hG, hP, hv, hl, ho⟩ => ⟨v, he, .inr ⟨rfl, hG⟩, l, own_base ho hA.g.size, hP, hv, hl⟩); (exact fun i u w w' hi ht hR h => (by obtain ⟨l, h1, h2, h3⟩ := h; exact ⟨l, own_ext h1 (hR.other hi), h2.ext (hR.other hi), h3⟩)))
          apply DW_d (F := fun r u w => RowF w14 1 u 1 [r 3] w) (fun r w hA hH => by
            obtain ⟨l, h1, _⟩ := hH 3 rfl
            exact ⟨_, _, X_lit1 rfl (own_cell3 h1), grown_alloc _ _, RowF.lit w _ [r 3] hA.g.size 1 rfl (by decide)⟩) (fun i r u w w' hi ht hR h => hR.elim (fun E => RowF.ext E h) (fun ⟨e, _⟩ => by subst e; exact Bool.noConfusion (ht : true = false))) (fun _ _ => rfl)
          ((with_reducible exact D_end); (exact rfl); (repeat (first | exact .inr (.inr (fun _ _ => by with_reducible rfl)) | (refine And.intro ?_ ?_) | exact .inr (.inl rfl) | exact .inl (by decide +kernel) | exact trivial | exact .inr (.inr (fun _ _ => rfl)))); (try dsimp only [Nat.reduceAdd]))
          intro r5 w15 G15 H5
          obtain ⟨l2, o2, P15, vl2, hl2⟩ := H5 3
          obtain ⟨lo6, hi6, hlo6, r6⟩ : RowF w14 1 (r5 4) 1 [r5 3] w15 := H5 4
          have hc2 := own_cell3 o2
          generalize r5 3 = u2 at *
          generalize r5 4 = q6 at *
          clear H5
          have hz15 := G15.size
          have E15 : Ext w w15 := E14.then G15 (fun g h => by cases h; omega)
          obtain ⟨us, hul, ho, hus⟩ := M14.par R14 G15
          refine L_append (v := v12) (u := q6) rfl rfl ho r6 (by simpa using hc2) (by simp) (by simp) (by omega) ?_
          intro v16 w16 o16 hg16 _
          have hvl : ∀ g', v12.ownBlock = some g' → w10.heap.size ≤ g' := fun g' hg => (ho.lt g' hg).1
          have M16 : MadeAt w10.heap.size w16 v16 ([l1] ++ [l2]) := MadeAt.snoc hul ho hus (own_base o2 (by omega)) hg16 o16
          have hz16 := hg16.size
          have E16 : Ext w w16 := E15.then hg16 (fun g' h => by have := hvl g' h; omega)
          have B16 := (B14.grown G15 (by simp; omega)).grown hg16 (fun e => by have := hvl g6 e; omega)
          have D2 := (D2.grown G15 (by simp; omega)).grown hg16 (fun e => by have := hvl g2 e; omega)
          have R16 := P15.up hg16 (fun q e => by have := hvl q e; omega)
          have hvc16 := own_cell3 o16
          (refine Ls (X_fld rfl) ?_)
          refine L_store1 rfl (v := v16) rfl hvc16 B16 (by simp [qC]) ?_
          intro w17 B17 hg17 hs17
          (refine L_nil ?_)
          refine ⟨rfl, [l1, l2], v16, _, E16.then hg17 (fun g h => by cases h; omega), by omega, R16.above hg17 (by omega), ?_, ?_, B17, D2.grown hg17 (by simp; omega), M16.store B16 (by decide) (by decide) hg17, rfl, rfl, rfl⟩
          · rw [fils7, after_bind vl1, after_bind (gives_unit _ _), after_bind vl2, after_ok]
          · rw [fils7]
            exact gives_bind vl1 (gives_bind (gives_unit _ _) (gives_bind vl2 (gives_ok _ _)))
        · refine W_condp rfl (fun hn => (h7 (by omega)).elim) (fun _ => ?_)
          (refine W_skip ?_)
          refine ⟨rfl, [l1], v12, _, E13, by omega, R13, ?_, ?_, B13, D2, M13, rfl, rfl, rfl⟩
          · rw [fils1 h7, after_bind vl1, after_ok]
          · rw [fils1 h7]; exact gives_bind vl1 (gives_ok _ _)
      clear M13 B13 R13 E13 vl1 D2 hz10 hz11 hz12 E12 hg13 hs13
      rintro e f w14 ⟨rfl, fs, v, σ3, E14, hz14, R14, a3, v3, B14, D2, M14, f2, f5, f6⟩
      rw [fold f2, fold f5, fold f6]
      clear f2 f5 f6
      have hvc := M14.cell
      have hqa : after (.ok L) Qy.query = σ3 := by
        rw [after_acc (m := r) (r' := Qy.body k) hq, body_eq, after_bind v1, a1, after_bind v2, a2, after_bind v3, a3, after_ok]
      have hqv : Gives (.ok L) Qy.query ⟨k, c, n, fs⟩ := gives_acc (m := r) (r' := Qy.body k) hq (by
        rw [body_eq]
        exact gives_bind v1 (by rw [a1]; exact gives_bind v2 (by rw [a2]; exact gives_bind v3 (gives_ok _ _))))
      clear a1 a2 a3 v1 v2 v3 hq
      cases σ3 with
      | error x =>
        have hparse := perr hqa
        have hr14 := id R14
        obtain ⟨v9, l9, off9, err9, D9, _, _, _, _, y1, y2, y3⟩ := hr14
        have he9 : err9 ≠ 0 := by omega
        (refine tn ?_; refine W_seq ?_; refine W_seq ?_; refine W_region ?_; refine Ls (X_move (v := .pointer _) rfl) ?_; refine Ls (X_nil rfl) ?_; refine Ls (X_fld rfl) ?_; refine Ls (X_ld (v := .int .i64 (err9 : Nat)) rfl D9 rfl) ?_; refine Ls (X_eqlF rfl rfl (by omega)) ?_; refine Ls (X_move (v := .bool _) rfl) ?_; refine Lo2 rfl rfl rfl rfl ?_; refine Lo2 rfl rfl rfl rfl ?_; refine Lo2 rfl rfl rfl rfl ?_; refine Lo2 rfl rfl rfl rfl ?_; refine Lo2 rfl rfl rfl rfl ?_; refine Lo2 rfl rfl rfl rfl ?_; refine Lo2 rfl rfl rfl rfl ?_; refine Lo2 rfl rfl rfl rfl ?_; refine Ls (X_pickF (v := .bool _) rfl rfl) ?_; refine L_nil ?_; refine tn ?_; refine W_condF rfl ?_; refine W_skip ?_; refine tn ?_; refine W_seq ?_; refine W_seq ?_; refine W_region ?_; refine Ls (X_move (v := .pointer _) rfl) ?_; refine Ls (X_nil rfl) ?_; refine Ls (X_fld rfl) ?_; refine Ls (X_ld (v := .int .i64 (err9 : Nat)) rfl D9 rfl) ?_; refine Ls (X_neqT rfl rfl (by omega)) ?_; refine L_nil ?_; refine tn ?_; refine W_condT rfl ?_; refine W_seq ?_)
        obtain ⟨v7, l7, off7, err7, D7, _, _, _, _, z1, z2, z3⟩ := R14
        have hne7 : g5 ≠ g2 := by omega
        have he7 : err7 ≠ 0 := by omega
        skip
        apply W_dagR (R := RB g2 24 (qC 0 0 0 (.slice none 0 0)) (qC 0 0 0 (.slice none 0 0))) (AB g2 24 (qC 0 0 0 (.slice none 0 0)) (qC 0 0 0 (.slice none 0 0)) w14) 12 (by kernel_rfl) (RB.refl _ _ _ _) (AB.new D2) AB.step
        ((with_reducible apply DW_x); (exact fun r w hA hH => (X_mkQ0).trans rfl))
        (apply DW_x (fun r w hA hH => (X_move (v := .pointer _) rfl).trans rfl); apply DW_x (fun r w hA hH => (X_nil rfl).trans rfl); apply DW_x (fun r w hA hH => (X_fld rfl).trans rfl); apply DW_x (fun r w hA hH => (X_ld (v := .int .i64 (off7 : Nat)) rfl (D7.grown hA.1 (by simp; omega)) rfl).trans rfl); apply DW_x (fun r w hA hH => (X_move (v := .pointer _) rfl).trans rfl); apply DW_x (fun r w hA hH => (X_nil rfl).trans rfl); apply DW_x (fun r w hA hH => (X_fld rfl).trans rfl); apply DW_x (fun r w hA hH => (X_ld (v := .int .i64 (err7 : Nat)) rfl (D7.grown hA.1 (by simp; omega)) rfl).trans rfl))
        apply DW_store (fun _ => rfl) (fun _ => rfl) rfl rfl (qC_cell rfl)
        (apply DW_x (fun r w hA hH => (X_assign (v := .int _ _) rfl).trans rfl); apply DW_x (fun r w hA hH => (X_assign (v := .int _ _) rfl).trans rfl))
        ((with_reducible exact D_end); (exact rfl); (repeat (first | exact .inr (.inr (fun _ _ => by with_reducible rfl)) | (refine And.intro ?_ ?_) | exact .inr (.inl rfl) | exact .inl (by decide +kernel) | exact trivial | exact .inr (.inr (fun _ _ => rfl)))); (try dsimp only [Nat.reduceAdd]))
        intro r8 w8 A8 H8
        have B8 : Blk w8 g2 24 (qC 0 0 0 (.slice none 0 0)) := H8 9
        (refine L_nil ?_; refine tn ?_; refine W_ret ?_; refine tr ?_)
        refine endQ_res rfl rfl (Res.cellA (cs := qry Qy.q0 (.slice none 0 0)) inferInstance rfl (B8.range (fun j u h => by rw [Nat.zero_add]; exact h)) rfl (Res.tmp rfl (Res.tmp rfl .nil))) ?_
        rw [hparse, ← z1, ← z2]
        exact ⟨_, rfl, (E14).then A8.1 (fun g h => by cases h; omega), FilsI_nil1 _ _ _⟩
      | ok m =>
        have hparse := pok hqa hqv
        have hr14 := id R14
        obtain ⟨v9, l9, off9, err9, D9, r9, hg9, hE9, hT9, y1, y2, y3⟩ := hr14
        subst y1 y2 y3
        obtain ⟨t, rs, rfl⟩ := hE9.ne
        obtain ⟨b0, o0, c0, rfl, hc0, _, _, hcell⟩ := r9.at (k := 0) (by simp)
        obtain ⟨k0, k1, k2⟩ := toksC_first (t := t) (r := rs)
        by_cases hk : t.kind = 0
        · have hfin : Qy.parse (sb s) = (⟨k, c, n, fs⟩, 0, 0) := by rw [hparse]; simp [Qy.fin, hk]
          rw [hfin]
          (refine tn ?_; refine W_seq ?_; refine W_seq ?_; refine W_region ?_; refine Ls (X_move (v := .pointer _) rfl) ?_; refine Ls (X_nil rfl) ?_; refine Ls (X_fld rfl) ?_; refine Ls (X_ld (v := .int .i64 (0 : Nat)) rfl D9 rfl) ?_; refine Ls (X_eqlT rfl rfl (by omega)) ?_; refine Ls (X_move (v := .bool _) rfl) ?_; refine Lg2 rfl rfl rfl (X_move (v := .pointer _) rfl) ?_; refine Lg2 rfl rfl rfl (X_nil rfl) ?_; refine Lg2 rfl rfl rfl (X_fld rfl) ?_; refine Lg2 rfl rfl rfl (X_ld (v := .slice (some ⟨b0, o0, none⟩) (t :: rs).length c0) rfl D9 rfl) ?_; refine Lg2 rfl rfl rfl (X_indexSn (i := 0) rfl rfl (by simp)) ?_; refine Lg2 rfl rfl rfl (X_fld rfl) ?_; refine Lg2 rfl rfl rfl (X_ldR (j := 0) (v := .int .i64 (t.kind : Nat)) rfl hcell rfl k0) ?_; refine Lg2 rfl rfl rfl (X_neqF rfl rfl (by omega)) ?_; refine Ls (X_pickT (v := .bool _) rfl rfl) ?_; refine L_nil ?_; refine tn ?_; refine W_condF rfl ?_; refine W_skip ?_; refine tn ?_; refine W_seq ?_; refine W_seq ?_; refine W_region ?_; refine Ls (X_move (v := .pointer _) rfl) ?_; refine Ls (X_nil rfl) ?_; refine Ls (X_fld rfl) ?_; refine Ls (X_ld (v := .int .i64 (0 : Nat)) rfl D9 rfl) ?_; refine Ls (X_neqF rfl rfl (by omega)) ?_; refine L_nil ?_; refine tn ?_; refine W_condF rfl ?_; refine W_skip ?_; refine tn ?_; refine W_seq ?_; refine W_region ?_; refine Ls (X_ldW (size := 4) rfl B14 rfl) ?_)
          refine L_storeW (size := 4) (l := qC (k : Nat) (c : Nat) (n : Nat) v) rfl rfl rfl (qC_cell hvc) D2 rfl ?_
          intro w15 B15 hg15 hs15
          (refine Ls (X_assign (v := .int _ _) rfl) ?_; refine Ls (X_assign (v := .int _ _) rfl) ?_; refine L_nil ?_; refine tn ?_; refine W_ret ?_)
          refine endQ_res rfl rfl (Res.cellA (cs := qry ⟨k, c, n, fs⟩ v) inferInstance rfl (B15.range (fun j u h => by rw [Nat.zero_add]; exact h)) rfl (Res.tmp rfl (Res.tmp rfl .nil))) ?_
          have hz10 := E10.size
          exact ⟨v, rfl, E14.then hg15 (fun g h => by cases h; omega), (M14.grown hg15 (fun g h => by cases h; omega)).fils.wide (by omega) (Nat.le_refl _)⟩
        · have hfin : Qy.parse (sb s) = (Qy.q0, (Qy.unexp (t :: rs)).1, (Qy.unexp (t :: rs)).2) := by
            rw [hparse]
            have : (t.kind == 0) = false := by simp [hk]
            simp [Qy.fin, this]
          have hparse := hfin
          (refine tn ?_; refine W_seq ?_; refine W_seq ?_; refine W_region ?_; refine Ls (X_move (v := .pointer _) rfl) ?_; refine Ls (X_nil rfl) ?_; refine Ls (X_fld rfl) ?_; refine Ls (X_ld (v := .int .i64 (0 : Nat)) rfl D9 rfl) ?_; refine Ls (X_eqlT rfl rfl (by omega)) ?_; refine Ls (X_move (v := .bool _) rfl) ?_; refine Lg2 rfl rfl rfl (X_move (v := .pointer _) rfl) ?_; refine Lg2 rfl rfl rfl (X_nil rfl) ?_; refine Lg2 rfl rfl rfl (X_fld rfl) ?_; refine Lg2 rfl rfl rfl (X_ld (v := .slice (some ⟨b0, o0, none⟩) (t :: rs).length c0) rfl D9 rfl) ?_; refine Lg2 rfl rfl rfl (X_indexSn (i := 0) rfl rfl (by simp)) ?_; refine Lg2 rfl rfl rfl (X_fld rfl) ?_; refine Lg2 rfl rfl rfl (X_ldR (j := 0) (v := .int .i64 (t.kind : Nat)) rfl hcell rfl k0) ?_; refine Lg2 rfl rfl rfl (X_neqT rfl rfl (by omega)) ?_; refine Ls (X_pickT (v := .bool _) rfl rfl) ?_; refine L_nil ?_; refine tn ?_; refine W_condT rfl ?_; refine W_region ?_; refine Ls (X_move (v := .pointer _) rfl) ?_)
          refine L_fn (runexpected g5 _ _ _ _ w14 R14) rfl ?_
          rintro e w15 ⟨rfl, G15, R15⟩
          refine ⟨_, rfl, ?_⟩
          have E15 : Ext w w15 := E14.then G15 (fun g h => by cases h; omega)
          have D2 := D2.grown G15 (by simp; omega)
          obtain ⟨v7, l7, off7, err7, D7, _, _, _, _, z1, z2, z3⟩ := R15
          have hne7 : g5 ≠ g2 := by omega
          have he7 : err7 ≠ 0 := by omega
          (refine L_nil ?_; refine tn ?_; refine W_seq ?_; refine W_seq ?_; refine W_region ?_; refine Ls (X_move (v := .pointer _) rfl) ?_; refine Ls (X_nil rfl) ?_; refine Ls (X_fld rfl) ?_; refine Ls (X_ld (v := .int .i64 (err7 : Nat)) rfl D7 rfl) ?_; refine Ls (X_neqT rfl rfl (by omega)) ?_; refine L_nil ?_; refine tn ?_; refine W_condT rfl ?_; refine W_seq ?_)
          apply W_dagR (R := RB g2 24 (qC 0 0 0 (.slice none 0 0)) (qC 0 0 0 (.slice none 0 0))) (AB g2 24 (qC 0 0 0 (.slice none 0 0)) (qC 0 0 0 (.slice none 0 0)) w15) 12 (by kernel_rfl) (RB.refl _ _ _ _) (AB.new D2) AB.step
          ((with_reducible apply DW_x); (exact fun r w hA hH => (X_mkQ0).trans rfl))
          (apply DW_x (fun r w hA hH => (X_move (v := .pointer _) rfl).trans rfl); apply DW_x (fun r w hA hH => (X_nil rfl).trans rfl); apply DW_x (fun r w hA hH => (X_fld rfl).trans rfl); apply DW_x (fun r w hA hH => (X_ld (v := .int .i64 (off7 : Nat)) rfl (D7.grown hA.1 (by simp; omega)) rfl).trans rfl); apply DW_x (fun r w hA hH => (X_move (v := .pointer _) rfl).trans rfl); apply DW_x (fun r w hA hH => (X_nil rfl).trans rfl); apply DW_x (fun r w hA hH => (X_fld rfl).trans rfl); apply DW_x (fun r w hA hH => (X_ld (v := .int .i64 (err7 : Nat)) rfl (D7.grown hA.1 (by simp; omega)) rfl).trans rfl))
          apply DW_store (fun _ => rfl) (fun _ => rfl) rfl rfl (qC_cell rfl)
          (apply DW_x (fun r w hA hH => (X_assign (v := .int _ _) rfl).trans rfl); apply DW_x (fun r w hA hH => (X_assign (v := .int _ _) rfl).trans rfl))
          ((with_reducible exact D_end); (exact rfl); (repeat (first | exact .inr (.inr (fun _ _ => by with_reducible rfl)) | (refine And.intro ?_ ?_) | exact .inr (.inl rfl) | exact .inl (by decide +kernel) | exact trivial | exact .inr (.inr (fun _ _ => rfl)))); (try dsimp only [Nat.reduceAdd]))
          intro r8 w8 A8 H8
          have B8 : Blk w8 g2 24 (qC 0 0 0 (.slice none 0 0)) := H8 9
          (refine L_nil ?_; refine tn ?_; refine W_ret ?_; refine tr ?_)
          refine endQ_res rfl rfl (Res.cellA (cs := qry Qy.q0 (.slice none 0 0)) inferInstance rfl (B8.range (fun j u h => by rw [Nat.zero_add]; exact h)) rfl (Res.tmp rfl (Res.tmp rfl .nil))) ?_
          rw [hparse, ← z1, ← z2]
          exact ⟨_, rfl, (E15).then A8.1 (fun g h => by cases h; omega), FilsI_nil1 _ _ _⟩
end Go.Proofs.YtipnliodpmjhcaaDoor

/- The law on the two parsers. -/
namespace Go.Proofs.YtipnliodpmjhcaaDoor
open Go.RowKit Go.Proofs.K

theorem parse_small (s : List Nat) : Small (Qy.parse s).1 := by
  rcases Qy.parse_says s with ⟨q, h, hq, _⟩ | ⟨o, e, h, _⟩
  · rw [h]; exact Qy_small hq
  · rw [h]; exact q0_small
set_option maxRecDepth 100000 in
set_option maxHeartbeats 8000000 in
theorem lpref (s : ByteArray) (w : World) (hw : Tabs w) :
    Calls Tryd.prog 4 #[.string s] w fun e w' => e = .returned (.bool true) ∧ Ext w w' := by
  refine calls_W Tryd.func4 rfl Tryd.ntmps4 rfl ?_
  obtain ⟨n, hn⟩ : ∃ n, n = min s.size 450 := ⟨_, rfl⟩
  have hmin : (if (450 : Int) < ((s.size : Nat) : Int) then (450 : Int) else ((s.size : Nat) : Int)) = ((n : Nat) : Int) := by split <;> omega
  obtain ⟨S, hS⟩ : ∃ S, (sb s).take n = S := ⟨_, rfl⟩
  have hSl : S.length = n := by rw [← hS, List.length_take, sb_len]; omega
  have hsz : (strB S).size ≤ 100000 := by rw [strB_size]; omega
  have hsm := parse_small (sb (strB S))
  have hpf := pparse (strB S) hsz
  have hgp := gparse (strB S) hsz
  generalize Qy.parse (sb (strB S)) = p at *
  obtain ⟨q, o, er⟩ := p
  dsimp only [parV] at hsm hpf hgp
  (refine W_seq ?_; refine W_region ?_; refine Ls (X_assign (v := .bool _) rfl) ?_; refine L_nil ?_; refine tn ?_; refine W_seq ?_; refine W_region ?_)
  refine L_fv rfl (gsanity w hw) ?_
  intro w1 E1
  (refine Ls (X_assign (v := .bool _) rfl) ?_; refine L_nil ?_; refine tn ?_; refine W_seq ?_; refine W_region ?_; refine Ls (X_move (v := .string _) rfl) ?_; refine Ls (X_move (v := .string _) rfl) ?_; refine Ls (X_lenStr rfl) ?_; refine Ls (X_minE rfl rfl hmin) ?_)
  refine Ls (X_slcS (lo := none) (hi := some _) 0 n rfl rfl ⟨.i64, rfl⟩ (by omega) (by omega) (l := S) (by rw [List.drop_zero, Nat.sub_zero, hS])) ?_
  (refine Ls (X_assign (v := .string _) rfl) ?_; refine L_nil ?_; refine tn ?_; refine W_seq ?_; refine W_region ?_; refine Ls (X_move (v := .string _) rfl) ?_)
  clear hmin hS
  refine L_fn (hgp w1 (hw.ext E1)) rfl ?_
  rintro e' w2 ⟨va, rfl, E2, F2⟩
  refine ⟨_, rfl, ?_⟩
  have vac := F2.cell
  (refine Ls (X_move (v := .tuple _) rfl) ?_; refine Ls (X_extract rfl rfl) ?_; refine Ls (X_extract rfl rfl) ?_; refine Ls (X_extract rfl rfl) ?_)
  refine L_alloc ?_
  intro g4 w3 B4 hg4 E3 hs3
  refine L_storeW (size := 4) (l := qry q va) rfl rfl rfl (qC_cell vac) B4 rfl ?_
  intro w4 C4 hg5 hs4
  have E24 : Ext w2 w4 := E3.then hg5 (fun g h => by cases h; omega)
  have F4 := F2.ext E24
  have E04 := (E1.trans E2).trans E24
  clear B4 hg5
  (refine Ls (X_assign (v := .int _ _) rfl) ?_; refine Ls (X_assign (v := .int _ _) rfl) ?_; refine L_nil ?_; refine tn ?_; refine W_seq ?_; refine W_region ?_; refine Ls (X_move (v := .string _) rfl) ?_)
  refine L_fn (hpf w4) rfl ?_
  rintro e' w5 ⟨vb, rfl, E5, F5⟩
  refine ⟨_, rfl, ?_⟩
  have vbc := F5.cell
  (refine Ls (X_move (v := .tuple _) rfl) ?_; refine Ls (X_extract rfl rfl) ?_; refine Ls (X_extract rfl rfl) ?_; refine Ls (X_extract rfl rfl) ?_)
  refine L_alloc ?_
  intro g7 w6 B7 hg7 E6 hs6
  refine L_storeW (size := 4) (l := qry q vb) rfl rfl rfl (qC_cell vbc) B7 rfl ?_
  intro w7 C7 hg8 hs7
  have E57 : Ext w5 w7 := E6.then hg8 (fun g h => by cases h; omega)
  have E47 := E5.trans E57
  (refine Ls (X_assign (v := .int _ _) rfl) ?_; refine Ls (X_assign (v := .int _ _) rfl) ?_; refine L_nil ?_; refine tn ?_; refine W_seq ?_; refine W_region ?_; refine Ls (X_ldW (size := 4) rfl (C4.ext E47) rfl) ?_; refine Ls (X_ldW (size := 4) rfl C7 rfl) ?_)
  refine L_fv rfl (gsame q hsm va vb _ _ _ _ w7 (F4.ext E47) (F5.ext E57)) ?_
  intro w8 E8
  (refine Ls (X_move (v := .bool _) rfl) ?_; refine Lg2 rfl rfl rfl (X_move (v := .int _ _) rfl) ?_; refine Lg2 rfl rfl rfl (X_move (v := .int _ _) rfl) ?_; refine Lg2 rfl rfl rfl (X_eqlT rfl rfl (by omega)) ?_; refine Ls (X_pickT (v := .bool _) rfl rfl) ?_; refine Ls (X_move (v := .bool _) rfl) ?_; refine Lg2 rfl rfl rfl (X_move (v := .int _ _) rfl) ?_; refine Lg2 rfl rfl rfl (X_move (v := .int _ _) rfl) ?_; refine Lg2 rfl rfl rfl (X_eqlT rfl rfl (by omega)) ?_; refine Ls (X_pickT (v := .bool _) rfl rfl) ?_; refine Ls (X_move (v := .bool _) rfl) ?_; refine Lg2 rfl rfl rfl (X_move (v := .bool _) rfl) ?_; refine Ls (X_pickT (v := .bool _) rfl rfl) ?_; refine Ls (X_assign (v := .bool _) rfl) ?_; refine L_nil ?_; refine tn ?_; refine W_ret ?_)
  exact endQ_ret1 rfl rfl (v := .bool true) rfl ⟨rfl, (E04.trans E47).trans E8⟩
end Go.Proofs.YtipnliodpmjhcaaDoor
