/- YD, YE, WA, WB, WC, WD, WE, WN, WF, WG, VT, WH, WI, WM, WL, WO, QS, SH, R7, R8, R9, RA. -/
import Derived.Test.YtlggfbglpcegoaaGreatDoorQ5
import Derived.Test.YtlggfbglpcegoaaGreatDoorQ4
import Derived.Test.YtlggfbglpcegoaaGreatDoorCards
import Derived.Test.YtlggfbglpcegoaaGreatDoorTie
import Derived.LaidMore
import Derived.LaidHandle
import Derived.Maps.Keyed
import Derived.Test.YtlggfbglpcegoaaGreatDoorQ3
import Derived.JoinedCond
import Derived.Leaving
import Derived.SevenTiedAt
import Derived.JoinedOf
import Derived.Test.YtlggfbglpcegoaaGreatDoorQ1
import Derived.Test.YtlggfbglpcegoaaGreatDoorQ2
namespace Go.Proofs.YtlggfbglpcegoaaGreatDoor
open Go.RowKit Go.Proofs.K
theorem keyword_len' (k : Nat) : (Qy.keyword k).length ≤ 1000 := by have := Qy.keyword_len k; omega
theorem tokX_kw {k : Nat} (h1 : 1 ≤ k) (h7 : k ≤ 7) : TokX 1 (Qy.keyword k) := q5k (Qy.keyword_ne h1 h7) (Qy.keyword_lo k) (keyword_len' k)
theorem q6c.grown {w0 w w' : World} {v : Value} {g : Nat} (h : q6c w0 v w) (hG : w.grownBy w' (some g)) (hg : g < w0.heap.size) : q6c w0 v w' := by
  obtain ⟨b, h1, h2, h3⟩ := h; exact ⟨b, h1, h2, h3.kept hG (fun e => by injection e with e; omega)⟩
theorem q6c.ext {w0 w w' : World} {v : Value} (h : q6c w0 v w) (E : Ext w w') : q6c w0 v w' := by
  obtain ⟨b, h1, h2, h3⟩ := h; exact ⟨b, h1, h2, h3.ext E⟩
theorem own_empty (w : World) (base : Nat) (e : TypeId) (size : Nat) : w.ownsRow base e size (.slice none 0 0) 0 [] := ⟨by simp, .inl ⟨rfl, rfl⟩⟩
theorem X_mkQ {n : NN} {f : Fr} {w : World} {d : Option Tmp} {t : TypeId} {pos : String} {af : Array Edge} {g : Option (Nat × Bool)} {x : Operand} {k : Int} (hx : ev n f x = .int .i64 k) :
    X Tryz.prog n ⟨d, .build 154 #[(0, x)], t, pos, af, g⟩ f w = .ok (.value (.agg (qC k 0 0 (.slice none 0 0)).toArray)) w := by
  have := q1p (P := Tryz.prog) (ty := 154) (n := n) (f := f) (w := w) (d := d) (t := t) (pos := pos) (af := af) (g := g) (Parts.cons (i := 0) (z := [.int .i64 0]) hx rfl rfl rfl (Parts.nil _)); simpa [qC] using this
theorem X_mkQ0 {n : NN} {f : Fr} {w : World} {d : Option Tmp} {t : TypeId} {pos : String} {af : Array Edge} {g : Option (Nat × Bool)} :
    X Tryz.prog n ⟨d, .build 154 #[], t, pos, af, g⟩ f w = .ok (.value (.agg (qC 0 0 0 (.slice none 0 0)).toArray)) w := by
  have := q1p (P := Tryz.prog) (ty := 154) (n := n) (f := f) (w := w) (d := d) (t := t) (pos := pos) (af := af) (g := g) (Parts.nil _); simpa [qC] using this
def S1 (k : Nat) : List Qy.Tok → Qy.R Nat := fun l => bif Qy.hasCol k then Qy.col l else .ok (0, l)
def S2 (k : Nat) : List Qy.Tok → Qy.R Nat := fun l => bif Nat.ble 1 (Qy.maxK k) then Qy.num 1 (Qy.maxK k) l else .ok (0, l)
theorem body_eq (k : Nat) : Qy.body k = fun l => Qy.bind (S1 k l) fun c r => Qy.bind (S2 k r) fun n r => Qy.bind (Qy.fils k r) fun fs r => .ok (⟨k, c, n, fs⟩, r) := rfl
theorem z0p (st : PS) (x : List Nat) : q3g st (Qy.expect x) () := fun _ _ _ _ _ => rfl
theorem fils1 {k : Nat} (hk : k ≠ 7) : Qy.fils k = fun l => Qy.bind (Qy.filt l) fun a r => .ok ([a], r) := by
  funext l; unfold Qy.fils; have : (k == 7) = false := by simp [hk]
  simp only [this, cond_false]
theorem fils7 : Qy.fils 7 = fun l => Qy.bind (Qy.filt l) fun a r => Qy.bind (Qy.expect Qy.tWith r) fun _ r => Qy.bind (Qy.filt r) fun b r => .ok ([a, b], r) := rfl
theorem q5m {w : World} {base size m : Nat} {e : TypeId} {v : Value} {xs : List Value} (h : w.ownsRow base e size v m xs) : v.oneCell' = true := by
  obtain ⟨_, _, _, rfl, _⟩ := Row.of_own h; rfl
def filC (l : List (List Qy.Cnd)) : List (List Qy.CndI) := l.map fun l => l.map Qy.liC
def qry (q : Qy.Q) (v : Value) : List Value := qC (q.kind : Nat) (q.col : Nat) (q.k : Nat) v
set_option maxRecDepth 100000 in
set_option maxHeartbeats 16000000 in
theorem gquery (g : Nat) (s : ByteArray) (st : PS) (hs : s.size ≤ 100000) (w : World) (hw : Tabs w) (h : PSt w g s st) :
    Calls Tryz.prog 112 #[.pointer (some ⟨g, 0, none⟩)] w fun e w' => ∃ (v : Value) (q : Qy.Q), e = .returned (.agg (qry q v).toArray) ∧ w.grownBy w' (some g) ∧ PSt w' g s (after st Qy.query) ∧ q3g st Qy.query q ∧
      q6e w' w.heap.size w'.heap.size v (filC q.fs) := by
  refine q0k Tryz.func112 rfl Tryz.ntmps112 rfl ?_; have hg0 := h.lt; (refine q0b<|q0a ?_); refine q0x ?_; intro g2 w1 B2 hg2 E1 hs1; (refine q0c<|tn<|q0b<|q0a ?_); refine L_fo rfl (gforms w1) ?_; rintro u w2 ⟨E2, b, rfl, hb, M2⟩; have hF2 : q6c w1 (.map (some b)) w2 := ⟨b, rfl, hb, M2⟩; have hz2 := E2.size; (refine Ls (q0i (v := .map _) rfl)<|q0c<|tn<|q0b<|q0b<|q0a<|a_I rfl<|q0c<|tn<|q0j ?_); refine q1k (fun z f w' => ∃ k, z = 8 - k ∧ 1 ≤ k ∧ k ≤ 8 ∧ w.grownBy w' (some g) ∧ PSt w' g s st ∧ (∀ l, st = .ok l → Qy.query l = Qy.queryF (8 - k) k l) ∧ q6c w1 (.map (some b)) w' ∧ Blk w' g2 154 (qC 0 0 0 (.slice none 0 0)) ∧
    f 0 = .pointer (some ⟨g, 0, none⟩) ∧ f 2 = .pointer (some ⟨g2, 0, none⟩) ∧ f 3 = .map (some b) ∧ f 4 = .int .i64 (k : Nat)) 7 ?_ ?_
  · exact ⟨1, rfl, by omega, by omega, (E1.trans E2).row _, h.ext (E1.trans E2), fun _ _ => rfl, hF2, B2.ext E2, rfl, rfl, rfl, rfl⟩
  · clear hF2 M2 B2; rintro z f w3 ⟨k, rfl, h1, h8, G3, P3, hq, F3, C2, f0, f2, f3, f4⟩; rw [fold f0, fold f2, fold f3, fold f4]; by_cases h7 : k ≤ 7
    · have hfm : (q4f (k : Int)).getD (.agg formZ.toArray) = .agg (q3y k).toArray := (by rw [z0q h1 h7]; rfl); have hcm : Qy.maxK k ≤ 65536 := Qy.maxK_le k; (refine q0b<|q0b<|q0a<|m_I rfl<|Ls (X_leqT rfl rfl (by omega))<|q0c<|tn<|q0t rfl<|q0n<|tn<|q0b<|q0j<|q0b<|q0a<|Ls (q0e (v := .map _) rfl)<|m_I rfl ?_); refine Ls (form_look1 F3 rfl rfl (z0f (by omega)) hfm) ?_; refine q0x ?_; intro g5 w4 B5 hg5 E4 hs4; refine q0l (size := 4) (l := q3y k) rfl rfl rfl (z0r k) B5 rfl ?_; intro w5 C5 hg5' hs5; have hz3 := G3.size; have G5 : w.grownBy w5 (some g) := q0d (q0d G3 E4 (fun _ h => by cases h)) hg5' (fun g h => by cases h; exact .inr (by omega)); have P5 := (P3.ext E4).grown hg5' (by simp; omega); have D2 := (C2.ext E4).grown hg5' (by simp; have := C2.lt; omega); have hlt2 := C2.lt; have F5 : q6c w1 (.map (some b)) w5 := by
        obtain ⟨b', e1, e2, e3⟩ := F3.ext E4; have hl3 : b' < w3.heap.size := (by obtain ⟨b3, e4, _, e5⟩ := F3; cases e1; cases e4; exact e5.lt); exact ⟨b', e1, e2, e3.kept hg5' (fun e => by injection e with e; omega)⟩
      (refine q0c<|tn<|q0b<|q0b<|q0a<|m_P rfl<|Ls (q0g rfl)<|Ls (X_ld rfl C5 rfl) ?_); refine Ls (q4m (k := 1) (u := Qy.keyword k) rfl rfl rfl) ?_; refine L_fn (q8h g s st 1 (Qy.keyword k) (tokX_kw h1 h7) (by omega) w5 P5) rfl ?_; rintro e w6 ⟨b1, rfl, G6, hb1⟩; refine ⟨_, rfl, ?_⟩; have G06 := q0d G5 G6 (fun g h => .inl h); have E2' := D2.grown G6 (by simp; omega); have E5 := C5.grown G6 (by simp; omega); have hz6 := G6.size; rcases hb1 with ⟨rfl, l, r, rfl, ha, P6⟩ | ⟨rfl, P6, hno⟩
      · have hql : Qy.query l = Qy.body k r := by
          rw [hq l rfl, show 8 - k = (7 - k) + 1 by omega]; simp only [Qy.queryF, ha]
        (refine Ls (q1x rfl)<|q0c<|tn<|q0o rfl<|q0n<|tn<|q0b<|q0a<|m_I rfl ?_); refine Ls (X_mkQ rfl) ?_; refine q0x ?_; intro g6 w7 B6 hg6 E7 hs7; refine q0l (size := 4) (l := qC (k : Nat) 0 0 (.slice none 0 0)) rfl rfl rfl (q4l rfl) B6 rfl ?_; intro w8 C6 hg6' hs8; have G8 : w.grownBy w8 (some g) := q0d (q0d G06 E7 (fun _ h => by cases h)) hg6' (fun g h => by cases h; exact .inr (by omega)); have P8 := (P6.ext E7).grown hg6' (by simp; omega); have H2 := (E2'.ext E7).grown hg6' (by simp; omega); have H5 := (E5.ext E7).grown hg6' (by simp; omega); have hw8 := h.tabs hw G8; have hlt2 := H2.lt; (refine q0c<|tn<|q0b<|q0b<|q0a<|Ls (q0g rfl)<|Ls (X_ld rfl H5 rfl)<|q0c<|tn ?_); refine W_mono (Q := fun e f w' => e = .normal ∧ ∃ (c : Nat) (σ : PS), w.grownBy w' (some g) ∧ PSt w' g s σ ∧ after (.ok r) (S1 k) = σ ∧ q3g (.ok r) (S1 k) c ∧ Blk w' g6 154 (qC (k : Nat) (c : Nat) 0 (.slice none 0 0)) ∧ Blk w' g2 154 (qC 0 0 0 (.slice none 0 0)) ∧ Blk w' g5 238 (q3y k) ∧ w8.heap.size ≤ w'.heap.size ∧
          f 0 = .pointer (some ⟨g, 0, none⟩) ∧ f 2 = .pointer (some ⟨g2, 0, none⟩) ∧ f 5 = .pointer (some ⟨g5, 0, none⟩) ∧ f 6 = .pointer (some ⟨g6, 0, none⟩)) ?_ ?_
        · cases hh : Qy.hasCol k
          · have e1 : S1 k = fun l => .ok (0, l) := (by funext l; unfold S1; rw [hh]; rfl); (refine q0o rfl<|q0n ?_); exact ⟨rfl, 0, .ok r, G8, P8, by rw [e1]; rfl, by rw [e1]; exact q4b _ _, C6, H2, H5, Nat.le_refl _, rfl, rfl, rfl, rfl⟩
          · have e1 : S1 k = Qy.col := (by funext l; unfold S1; rw [hh]; rfl); (refine q0t rfl<|q0a<|m_P rfl ?_); refine L_fn (gcolumn g s (.ok r) hs w8 P8) rfl ?_; rintro e w9 ⟨c, rfl, _, G9, P9, v9⟩; refine ⟨_, rfl, ?_⟩; have hz9 := G9.size; (refine Ls (q0g rfl) ?_); refine q1d rfl (v := .int _ _) rfl rfl (C6.grown G9 (by simp; omega)) (by simp [qC]) ?_; intro w10 B10 hg10 hs10; (refine q0c ?_); exact ⟨rfl, c, _, q0d (q0d G8 G9 (fun g h => .inl h)) hg10 (fun g h => by cases h; exact .inr (by omega)), P9.grown hg10 (by simp; omega), by rw [e1], by rw [e1]; exact v9, B10, (H2.grown G9 (by simp; omega)).grown hg10 (by simp; omega), (H5.grown G9 (by simp; omega)).grown hg10 (by simp; omega), by omega, rfl, rfl, rfl, rfl⟩
        clear C6 H2 H5 P8 G8 hw8; rintro e f w9 ⟨rfl, c, σ1, G9, P9, a1, v1, C9, H2, H5, hz9, f0, f2, f5, f6⟩; rw [fold f0, fold f2, fold f5, fold f6]; have hw9 := h.tabs hw G9; (refine tn<|q0b<|q0b<|q0a<|Ls (q0g rfl)<|Ls (X_ld rfl H5 rfl)<|Ls (X_gtr rfl rfl)<|q0c<|tn ?_); refine W_mono (Q := fun e f w' => e = .normal ∧ ∃ (n : Nat) (σ : PS), w.grownBy w' (some g) ∧ PSt w' g s σ ∧ after σ1 (S2 k) = σ ∧ q3g σ1 (S2 k) n ∧ Blk w' g6 154 (qC (k : Nat) (c : Nat) (n : Nat) (.slice none 0 0)) ∧ Blk w' g2 154 (qC 0 0 0 (.slice none 0 0)) ∧ Blk w' g5 238 (q3y k) ∧ w8.heap.size ≤ w'.heap.size ∧
          f 0 = .pointer (some ⟨g, 0, none⟩) ∧ f 2 = .pointer (some ⟨g2, 0, none⟩) ∧ f 5 = .pointer (some ⟨g5, 0, none⟩) ∧ f 6 = .pointer (some ⟨g6, 0, none⟩)) ?_ ?_
        · by_cases hh : 0 < Qy.maxK k
          · have e1 : S2 k = Qy.num 1 (Qy.maxK k) := (by funext l; unfold S2; rw [Nat.ble_eq_true_of_le hh]; rfl); refine q1b rfl (fun _ => ?_) (fun hn => (hn (by omega)).elim); (refine q0a<|m_P rfl<|Ls (q0g rfl)<|Ls (X_ld rfl H5 rfl) ?_); refine L_fn (z1q g s σ1 1 (Qy.maxK k) (by omega) hcm hs w9 hw9 P9) rfl ?_; rintro e w10 ⟨n, rfl, _, G10, P10, v10⟩; refine ⟨_, rfl, ?_⟩; have hz10 := G10.size; (refine Ls (q0g rfl) ?_); refine q1d rfl (v := .int _ _) rfl rfl (C9.grown G10 (by simp; omega)) (by simp [qC]) ?_; intro w11 B11 hg11 hs11; (refine q0c ?_); exact ⟨rfl, n, _, q0d (q0d G9 G10 (fun g h => .inl h)) hg11 (fun g h => by cases h; exact .inr (by omega)), P10.grown hg11 (by simp; omega), by rw [e1], by rw [e1]; exact v10, B11, (H2.grown G10 (by simp; omega)).grown hg11 (by simp; omega), (H5.grown G10 (by simp; omega)).grown hg11 (by simp; omega), by omega, rfl, rfl, rfl, rfl⟩
          · have hb0 : Nat.ble 1 (Qy.maxK k) = false := by
              cases hb : Nat.ble 1 (Qy.maxK k)
              · rfl
              · exact (hh (Nat.le_of_ble_eq_true hb)).elim
            have e1 : S2 k = fun l => .ok (0, l) := (by funext l; unfold S2; rw [hb0]; rfl); refine q1b rfl (fun hn => (hh (by omega)).elim) (fun _ => ?_); (refine q0n ?_); exact ⟨rfl, 0, σ1, G9, P9, by rw [e1]; exact q4d _ _, by rw [e1]; exact q4b _ _, C9, H2, H5, hz9, rfl, rfl, rfl, rfl⟩
        clear C9 H2 H5 P9 G9 hw9 f0 f2 f5 f6 hz9; rintro e f w10 ⟨rfl, n, σ2, G10, P10, a2, v2, C10, H2, H5, hz10, f0, f2, f5, f6⟩; rw [fold f0, fold f2, fold f5, fold f6]; have hw10 := h.tabs hw G10; (refine tn<|q0b ?_); apply W_dagG 3 g (fun w' => PSt w' g s (σ2)) 5 (by kernel_rfl) (P10.ext (Ext.drew _)) (fun _ _ E h => h.ext E); (apply DW_x (fun r w hA hH => (q0g rfl).trans rfl); apply DW_x (fun r w hA hH => (X_ld rfl (C10.grown hA.g (by simp; omega)) rfl).trans rfl); apply DW_x (fun r w hA hH => (q0e (v := .pointer _) rfl).trans rfl)); ((with_reducible apply DW_fr (F := fun v w' => ∃ l : List Qy.Cnd, w'.ownsRow w10.heap.size 246 3 v l.length (q5h (l.map Qy.liC)) ∧ PSt w' g s (after (σ2) Qy.filt) ∧ q3g (σ2) Qy.filt l ∧ l.length ≤ 3)); (exact fun _ => rfl); (exact fun r w hA hH => (gfilter g s _ hs w (P10.tabs hw10 hA.g) (hA.pre (.inl rfl))).mono fun e w' ⟨v, l, he, hG, hP, hv, hl, ho⟩ => ⟨v, he, .inr ⟨rfl, hG⟩, l, q7j ho hA.g.size, hP, hv, hl⟩); (exact fun i u w w' hi ht hR h => (by obtain ⟨l, h1, h2, h3⟩ := h; exact ⟨l, q2p h1 (hR.other hi), h2.ext (hR.other hi), h3⟩))); apply DW_d (F := fun r u w => RowF w10 1 u 1 [r 3] w) (fun r w hA hH => by
          obtain ⟨l, h1, _⟩ := hH 3 rfl
          exact ⟨_, _, X_lit1 rfl (q5m h1), q1e _ _, RowF.lit w _ [r 3] hA.g.size 1 rfl (by decide)⟩) (fun i r u w w' hi ht hR h => hR.elim (fun E => RowF.ext E h) (fun ⟨e, _⟩ => by subst e; exact Bool.noConfusion (ht : true = false))) (fun _ _ => rfl)
        ((with_reducible exact q1y); (exact rfl); (repeat (first | exact .inr (.inr (fun _ _ => by with_reducible rfl)) | (refine And.intro ?_ ?_) | exact .inr (.inl rfl) | exact .inl (by decide +kernel) | exact trivial | exact .inr (.inr (fun _ _ => rfl)))); (try dsimp only [Nat.reduceAdd])); intro r3 w11 G11 H3; obtain ⟨l1, o1, P11, vl1, hl1⟩ := H3 3; obtain ⟨lo4, hi4, hlo4, r4⟩ : RowF w10 1 (r3 4) 1 [r3 3] w11 := H3 4; have hc1 := q5m o1; have R1 : Row w11 w10.heap.size w11.heap.size 3 (r3 3) l1.length (q5h (l1.map Qy.liC)) := Row.of_own o1; generalize r3 3 = u1 at *; generalize r3 4 = q4 at *; clear H3 o1; have hz11 := G11.size; have G011 := q0d G10 G11 (fun g h => .inl h); refine q1s (v := .slice none 0 0) (u := q4) rfl rfl (own_empty w11 w11.heap.size _ 1) r4 (by simpa using hc1) (by omega) (by omega) (Nat.le_refl _) ?_; intro v12 w12 o12 hg12 _; have E12 : Ext w11 w12 := hg12; have hz12 := E12.size; have C12 := (C10.grown G11 (by simp; omega)).ext E12; have hl6 := C12.lt; have hlt6 : g6 < w10.heap.size := C10.lt; have hvc := q5m o12; (refine Ls (q0g rfl) ?_); refine q1d rfl (v := v12) rfl hvc C12 (by simp [qC]) ?_; intro w13 B13 hg13 hs13; have G13 : w.grownBy w13 (some g) := q0d (q0d G011 E12 (fun _ h => by cases h)) hg13 (fun g h => by cases h; exact .inr (by omega)); have P13 := (P11.ext E12).grown hg13 (by simp; omega); have H2 := ((H2.grown G11 (by simp; omega)).ext E12).grown hg13 (by simp; omega); have H5 := ((H5.grown G11 (by simp; omega)).ext E12).grown hg13 (by simp; omega); have R13 := (R1.ext E12).grown hg13 (fun g' h => by cases h; exact .inl hlt6); have o13 := q3l o12 hg13 (fun g' h => by cases h; omega); have hql' : after (.ok l) Qy.query = after (.ok r) (Qy.body k) := q7q hql; have hqv : ∀ q, q3g (.ok r) (Qy.body k) q → q3g (.ok l) Qy.query q := fun q hq => q7k hql hq; rw [hql', body_eq, q2c v1, a1, q2c v2, a2]; have hqv' : ∀ fs, q3g σ2 (Qy.fils k) fs → q3g (.ok l) Qy.query ⟨k, c, n, fs⟩ := fun fs hf => hqv _ (by
          rw [body_eq]
          exact q2i v1 (by rw [a1]; exact q2i v2 (by rw [a2]; exact q2i hf (q4b _ _))))
        (refine q0c<|tn<|q0b<|q0b<|q0a<|Ls (q0g rfl)<|Ls (X_ld rfl H5 rfl)<|Ls (X_eql rfl rfl)<|q0c<|tn ?_); refine q1b rfl (fun hk7 => ?_) (fun hk7 => ?_)
        · obtain rfl : k = 7 := by
            apply Classical.byContradiction; intro hne; have : Qy.nfil k = 1 := by
              unfold Qy.nfil; have e : (k == 7) = false := (by simp [hne]); rw [e]; rfl
            omega
          have hw13 := h.tabs hw G13; (refine q0b<|q0a<|m_P rfl ?_); refine Ls (q4m (k := 1) (u := Qy.tWith) rfl rfl rfl) ?_; refine L_fn (gexpect g s _ 1 Qy.tWith tokX_with (by omega) w13 P13) rfl ?_; rintro e w14 ⟨rfl, G14, P14⟩; refine ⟨_, rfl, ?_⟩; have G014 := q0d G13 G14 (fun g h => .inl h); have hw14 := h.tabs hw G014; have hz14 := G14.size; have C14 := B13.grown G14 (by simp; omega); have H2 := H2.grown G14 (by simp; omega); have R14 := R13.grown G14 (fun g' h => by cases h; exact .inl (by omega)); have o14 := q3l o13 G14 (fun g' h => by cases h; omega); (refine q0c<|tn ?_); apply W_dagG 3 g (fun w' => PSt w' g s (after (after σ2 Qy.filt) (Qy.expect Qy.tWith))) 5 (by kernel_rfl) (P14.ext (Ext.drew _)) (fun _ _ E h => h.ext E); (apply DW_x (fun r w hA hH => (q0g rfl).trans rfl); apply DW_x (fun r w hA hH => (X_ld (v := v12) rfl (C14.grown hA.g (by simp; omega)) rfl).trans rfl); apply DW_x (fun r w hA hH => (q0e (v := .pointer _) rfl).trans rfl)); ((with_reducible apply DW_fr (F := fun v w' => ∃ l : List Qy.Cnd, w'.ownsRow w14.heap.size 246 3 v l.length (q5h (l.map Qy.liC)) ∧ PSt w' g s (after (after (after σ2 Qy.filt) (Qy.expect Qy.tWith)) Qy.filt) ∧ q3g (after (after σ2 Qy.filt) (Qy.expect Qy.tWith)) Qy.filt l ∧ l.length ≤ 3)); (exact fun _ => rfl); (exact fun r w hA hH => (gfilter g s _ hs w (P14.tabs hw14 hA.g) (hA.pre (.inl rfl))).mono fun e w' ⟨v, l, he, hG, hP, hv, hl, ho⟩ => ⟨v, he, .inr ⟨rfl, hG⟩, l, q7j ho hA.g.size, hP, hv, hl⟩); (exact fun i u w w' hi ht hR h => (by obtain ⟨l, h1, h2, h3⟩ := h; exact ⟨l, q2p h1 (hR.other hi), h2.ext (hR.other hi), h3⟩))); apply DW_d (F := fun r u w => RowF w14 1 u 1 [r 3] w) (fun r w hA hH => by
            obtain ⟨l, h1, _⟩ := hH 3 rfl
            exact ⟨_, _, X_lit1 rfl (q5m h1), q1e _ _, RowF.lit w _ [r 3] hA.g.size 1 rfl (by decide)⟩) (fun i r u w w' hi ht hR h => hR.elim (fun E => RowF.ext E h) (fun ⟨e, _⟩ => by subst e; exact Bool.noConfusion (ht : true = false))) (fun _ _ => rfl)
          ((with_reducible exact q1y); (exact rfl); (repeat (first | exact .inr (.inr (fun _ _ => by with_reducible rfl)) | (refine And.intro ?_ ?_) | exact .inr (.inl rfl) | exact .inl (by decide +kernel) | exact trivial | exact .inr (.inr (fun _ _ => rfl)))); (try dsimp only [Nat.reduceAdd])); intro r5 w15 G15 H5'; obtain ⟨l2, o2, P15, vl2, hl2⟩ := H5' 3; obtain ⟨lo6, hi6, hlo6, r6⟩ : RowF w14 1 (r5 4) 1 [r5 3] w15 := H5' 4; have hc2 := q5m o2; have S15 : Row w15 w14.heap.size w15.heap.size 3 (r5 3) l2.length (q5h (l2.map Qy.liC)) := Row.of_own o2; generalize r5 3 = u2 at *; generalize r5 4 = q6 at *; clear H5' o2; have hz15 := G15.size; have G015 := q0d G014 G15 (fun g h => .inl h); have R15 := R14.grown G15 (fun g' h => by cases h; exact .inl (by omega)); have o15 := q3l o14 G15 (fun g' h => by cases h; omega); have hvl : ∀ g', v12.ownBlock = some g' → w11.heap.size ≤ g' ∧ g' < w13.heap.size := fun g' hg => ⟨(o13.lt g' hg).1, own_row_lt o13 g' hg⟩; refine q1s (v := v12) (u := q6) rfl rfl o15 r6 (by simpa using hc2) (by omega) (by omega) (by omega) ?_; intro v16 w16 o16 hg16 _; have hz16 := hg16.size; have R16 := R15.grown hg16 (fun g' h => .inr (by have := hvl g' h; omega)); have S16 := S15.grown hg16 (fun g' h => .inl (by have := hvl g' h; omega)); have hne6 : ∀ g', v12.ownBlock = some g' → g' ≠ g6 := fun g' h => (by have := hvl g' h; omega); have hne2 : ∀ g', v12.ownBlock = some g' → g' ≠ g2 := fun g' h => (by have := hvl g' h; omega); have hneg : ∀ g', v12.ownBlock = some g' → g' ≠ g := fun g' h => (by have := hvl g' h; omega); have C16 := (C14.grown G15 (by simp; omega)).grown hg16 (fun e => hne6 g6 e rfl); have H2 := (H2.grown G15 (by simp; omega)).grown hg16 (fun e => hne2 g2 e rfl); have P16 := P15.grown hg16 (fun e => hneg g e rfl); have G016 := q0d G015 hg16 (fun g' h => .inr (by have := hvl g' h; omega)); have hvc16 := q5m o16; (refine Ls (q0g rfl) ?_); refine q1d rfl (v := v16) rfl hvc16 C16 (by simp [qC]) ?_; intro w17 B17 hg17 hs17; have H2 := H2.grown hg17 (by simp; omega); have P17 := P16.grown hg17 (by simp; omega); (refine q0c<|tn<|q0b<|q0a<|Ls (q2m (size := 4) rfl B17 rfl) ?_); refine q0l (size := 4) (l := qC ((7 : Nat) : Int) (c : Nat) (n : Nat) v16) rfl rfl rfl (q4l hvc16) H2 rfl ?_; intro w18 B18 hg18 hs18; (refine q0c<|tn<|q0s<|br<|tr<|tr<|br<|tr ?_); have hg1 : q3g σ2 (Qy.fils 7) [l1, l2] := by
            rw [fils7]; exact q2i vl1 (q2i (z0p _ _) (q2i vl2 (q4b _ _)))
          refine q1i rfl rfl (Res.cellA (cs := qry ⟨7, c, n, [l1, l2]⟩ v16) inferInstance rfl (B18.range (fun j u h => by rw [Nat.zero_add]; exact h)) rfl .nil) ?_; refine ⟨v16, ⟨7, c, n, [l1, l2]⟩, rfl, q0d (q0d G016 hg17 (fun g h => by cases h; exact .inr (by omega))) hg18 (fun g h => by cases h; exact .inr (by omega)), ?_, hqv' _ hg1, [u1, u2], rfl, ?_, fun i u f hu hf => ?_⟩
          · rw [q2c hg1, q4d, fils7, q2c vl1, q2c (z0p _ _), q2c vl2, q4d]; exact P17.grown hg18 (by simp; omega)
          · exact (Row.of_own (q3l (q3l o16 hg17 (fun g' h => by cases h; omega)) hg18 (fun g' h => by cases h; omega))).wide (by omega) (by omega)
          · match i, hu, hf with
            | 0, hu, hf =>
              simp at hu; subst hu; simp [filC] at hf; subst hf; rw [List.length_map]; exact ((R16.grown hg17 (fun g' h => by cases h; exact .inl (by omega))).grown hg18 (fun g' h => by cases h; exact .inl (by omega))).wide (by omega) (by omega)
            | 1, hu, hf =>
              simp at hu; subst hu; simp [filC] at hf; subst hf; rw [List.length_map]; exact ((S16.grown hg17 (fun g' h => by cases h; exact .inl (by omega))).grown hg18 (fun g' h => by cases h; exact .inl (by omega))).wide (by omega) (by omega)
            | i + 2, hu, hf => simp at hu
        · have hk7' : k ≠ 7 := by
            rintro rfl; exact hk7 rfl
          (refine q0n<|tn<|q0b<|q0a<|Ls (q2m (size := 4) rfl B13 rfl) ?_); refine q0l (size := 4) (l := qC (k : Nat) (c : Nat) (n : Nat) v12) rfl rfl rfl (q4l hvc) H2 rfl ?_; intro w14 B14 hg14 hs14; (refine q0c<|tn<|q0s<|br<|tr<|tr<|br<|tr ?_); have hg1 : q3g σ2 (Qy.fils k) [l1] := (by rw [fils1 hk7']; exact q2i vl1 (q4b _ _)); refine q1i rfl rfl (Res.cellA (cs := qry ⟨k, c, n, [l1]⟩ v12) inferInstance rfl (B14.range (fun j u h => by rw [Nat.zero_add]; exact h)) rfl .nil) ?_; refine ⟨v12, ⟨k, c, n, [l1]⟩, rfl, q0d G13 hg14 (fun g h => by cases h; exact .inr (by omega)), ?_, hqv' _ hg1, [u1], rfl, ?_, fun i u f hu hf => ?_⟩
          · rw [q2c hg1, q4d, fils1 hk7', q2c vl1, q4d]; exact P13.grown hg14 (by simp; omega)
          · exact (Row.of_own (q3l o13 hg14 (fun g' h => by cases h; omega))).wide (by omega) (by omega)
          · cases i with
            | succ i => simp at hu
            | zero =>
              simp at hu; subst hu; simp [filC] at hf; subst hf; rw [List.length_map]; exact (R13.grown hg14 (fun g' h => by cases h; exact .inl (by omega))).wide (by omega) (by omega)
      · (refine Ls (q1x rfl)<|q0c<|tn<|q0t rfl<|q1g<|te<|bx<|tn<|q0a<|m_I rfl<|Ls (q1j rfl rfl (by omega))<|a_I rfl<|q0c<|tn ?_); refine ⟨8 - (k + 1), by omega, k + 1, rfl, by omega, by omega, G06, P6, fun l hl => ?_, F5.grown G6 (by omega), E2', rfl, rfl, rfl, rfl⟩; rw [hq l hl, show 8 - k = (8 - (k + 1)) + 1 by omega]; simp only [Qy.queryF, hno l hl]
    · obtain rfl : k = 8 := (by omega); (refine q0b<|q0b<|q0a<|m_I rfl<|Ls (q9x rfl rfl (by omega))<|q0c<|tn<|q0o rfl<|q1g<|te<|te<|bx<|tn<|q0b<|q0a<|m_P rfl ?_); refine L_fn (q4v g s st (by omega) w3 P3) rfl ?_; rintro e w4 ⟨rfl, G4, P4⟩; refine ⟨_, rfl, ?_⟩; have D2 := C2.grown G4 (by simp; omega); have hz3 := G3.size; have hz4 := G4.size; have hlt2 := C2.lt; (refine q0c<|tn<|q0b<|q0a ?_); refine Ls X_mkQ0 ?_; refine q0l (size := 4) (l := qC 0 0 0 (.slice none 0 0)) rfl rfl rfl (q4l rfl) D2 rfl ?_; intro w5 B5 hg5 hs5; (refine q0c<|tn<|q0s ?_); refine q1i rfl rfl (Res.cellA (cs := qry Qy.q0 (.slice none 0 0)) inferInstance rfl (B5.range (fun j u h => by rw [Nat.zero_add]; exact h)) rfl .nil) ?_; refine ⟨_, Qy.q0, rfl, q0d (q0d G3 G4 (fun g h => .inl h)) hg5 (fun g h => by cases h; exact .inr (by omega)), ?_, ?_, [], rfl, Row.nil _ _ _ _, fun i u f hu hf => by simp at hu⟩
      · have := P4.grown hg5 (by simp; omega); cases st with
        | error e => exact this
        | ok l => simpa [after, unx, hq l rfl, Qy.queryF] using this
      · intro l hl a m ha; rw [hq l hl] at ha; simp [Qy.queryF] at ha
theorem X_mkP {n : NN} {f : Fr} {w : World} {d : Option Tmp} {t : TypeId} {pos : String} {af : Array Edge} {g : Option (Nat × Bool)} {x : Operand} {s : ByteArray} (hx : ev n f x = .string s) :
    X Tryz.prog n ⟨d, .build 205 #[(0, x)], t, pos, af, g⟩ f w = .ok (.value (.agg (pC s 0 0 0).toArray)) w := by
  have := q1p (P := Tryz.prog) (ty := 205) (n := n) (f := f) (w := w) (d := d) (t := t) (pos := pos) (af := af) (g := g) (Parts.cons (i := 0) (z := [.string ByteArray.empty]) hx rfl rfl rfl (Parts.nil _)); simpa [pC] using this
def parV (p : Qy.Q × Nat × Nat) (v : Value) : Value := .tuple #[.agg (qry p.1 v).toArray, .int .i64 (p.2.1 : Nat), .int .i64 (p.2.2 : Nat)]
set_option maxRecDepth 100000 in
set_option maxHeartbeats 16000000 in
theorem gparse (s : ByteArray) (hs : s.size ≤ 100000) (w : World) (hw : Tabs w) :
    Calls Tryz.prog 81 #[.string s] w fun e w' => ∃ v : Value, e = .returned (parV (Qy.parse (sb s)) v) ∧ Ext w w' ∧ q6e w' w.heap.size w'.heap.size v (filC (Qy.parse (sb s)).1.fs) := by
  refine q0k Tryz.func81 rfl Tryz.ntmps81 rfl ?_; (refine q0b<|q0a ?_); refine q0x ?_; intro g2 w1 B2 hg2 E1 hs1; by_cases hbig : 400 < s.size
  · have hp : Qy.parse (sb s) = (Qy.q0, 0, 2) := Qy.parse_big (by rw [q3h]; exact hbig); rw [hp]; (refine a_I rfl<|a_I rfl<|q0c<|tn<|q0b<|q0b<|q0a<|m_R rfl<|Ls (q3n rfl)<|Ls (z0w rfl rfl (by omega))<|q0c<|tn<|q0t rfl<|q0b<|q0a ?_); refine Ls X_mkQ0 ?_; refine q0l (size := 4) (l := qC 0 0 0 (.slice none 0 0)) rfl rfl rfl (q4l rfl) B2 rfl ?_; intro w2 C2 hg2' hs2; (refine a_I rfl<|a_I rfl<|q0c<|tn<|q0s<|tr ?_); refine q1i rfl rfl (Res.cellA (cs := qry Qy.q0 (.slice none 0 0)) inferInstance rfl (C2.range (fun j u h => by rw [Nat.zero_add]; exact h)) rfl (Res.tmp rfl (Res.tmp rfl .nil))) ?_; exact ⟨_, rfl, E1.then hg2' (fun g h => by cases h; omega), [], rfl, Row.nil _ _ _ _, fun i u f hu hf => by simp at hu⟩
  · have hb : Nat.blt 400 (sb s).length = false := Qy.blt_no (by rw [q3h]; omega); (refine a_I rfl<|a_I rfl<|q0c<|tn<|q0b<|q0b<|q0a<|m_R rfl<|Ls (q3n rfl)<|Ls (q7b rfl rfl (by omega))<|q0c<|tn<|q0o rfl<|q0n<|tn<|q0b<|q0a<|m_R rfl ?_); refine Ls (X_mkP rfl) ?_; refine q3k (l := pC s 0 0 0) rfl ?_; intro g5 w2 B5 hg5 E2 hs2; have P2 : PSt w2 g5 s (.ok (Qy.toks (sb s) 0)) := ⟨0, 0, 0, by omega, B5, rfl, rfl, rfl⟩; have hw2 := (hw.ext E1).ext E2; (refine a_P rfl<|q0c<|tn<|q0b<|q0a<|m_P rfl ?_); refine L_fn (gquery g5 s _ hs w2 hw2 P2) rfl ?_; rintro e w3 ⟨v, q, rfl, G3, P3, hv3, F3⟩; refine ⟨_, rfl, ?_⟩; have hz3 := G3.size; have hvc := F3.cell; refine q0x ?_; intro g6 w4 B6 hg6 E4 hs4; refine q0l (size := 4) (l := qry q v) rfl rfl rfl (q4l hvc) B6 rfl ?_; intro w5 C6 hg6' hs5; have C2 := (((B2.ext E2).grown G3 (by simp; omega)).ext E4).grown hg6' (by simp; omega); have P5 := (P3.ext E4).grown hg6' (by simp; omega); have F5 := (F3.ext E4).grown hg6' (fun g' h => by cases h; omega); have G5 : w2.grownBy w5 (some g5) := q0d (q0d G3 E4 (fun _ h => by cases h)) hg6' (fun g h => by cases h; exact .inr (by omega)); clear P3 F3 B6 B2 B5 P2
    -- what the run comes to
    have hrun : ∀ m, after (.ok (Qy.toks (sb s) 0)) Qy.query = .ok m → Qy.parse (sb s) = match Qy.fin q m with
        | .ok (q, _) => (q, 0, 0)
        | .error (o, e) => (Qy.q0, o, e) := fun m hm => by
      unfold Qy.parse; rw [hb]; simp only [cond_false]; simp only [after] at hm; cases hq : Qy.query (Qy.toks (sb s) 0) with
      | error e => rw [hq] at hm; cases hm
      | ok p =>
        obtain ⟨a, l⟩ := p; obtain rfl := hv3 _ rfl a l hq; rw [hq] at hm; injection hm with hm; subst hm; rfl
    have herr : ∀ e, after (.ok (Qy.toks (sb s) 0)) Qy.query = .error e → Qy.parse (sb s) = (Qy.q0, e.1, e.2) := fun e he => by
      unfold Qy.parse; rw [hb]; simp only [cond_false]; simp only [after] at he; cases hq : Qy.query (Qy.toks (sb s) 0) with
      | error e' => rw [hq] at he; injection he with he; subst he; rfl
      | ok p => rw [hq] at he; cases he
    generalize after (.ok (Qy.toks (sb s) 0)) Qy.query = σ at *; clear hv3; cases σ with
    | error e =>
      have hp := herr e rfl; obtain ⟨pos, off, err, hpl, D5, h1, h2, h3⟩ := P5; have he0 : ¬ err = 0 := (by omega); (refine q0c<|tn<|q0b<|q0b<|q0a<|m_P rfl<|Ls (q1t rfl)<|Ls (q0g rfl)<|Ls (X_ld rfl D5 rfl)<|Ls (q5p rfl rfl (by omega))<|m_B rfl<|Lo2 rfl rfl rfl rfl<|Lo2 rfl rfl rfl rfl<|Lo2 rfl rfl rfl rfl<|Lo2 rfl rfl rfl rfl<|Ls (q0r (v := .bool _) rfl rfl)<|q0c<|tn<|q0o rfl<|q0n<|tn<|q0b<|q0b<|q0a<|m_P rfl<|Ls (q1t rfl)<|Ls (q0g rfl)<|Ls (X_ld rfl D5 rfl)<|Ls (q3i rfl rfl (by omega))<|q0c<|tn<|q0t rfl<|q0b ?_); apply W_dagR (R := RB g2 154 (qC 0 0 0 (.slice none 0 0)) (qC 0 0 0 (.slice none 0 0))) (AB g2 154 (qC 0 0 0 (.slice none 0 0)) (qC 0 0 0 (.slice none 0 0)) w5) 12 (by kernel_rfl) (RB.refl _ _ _ _) (AB.new C2) AB.step; ((with_reducible apply DW_x); (exact fun r w hA hH => (X_mkQ0).trans rfl)); (apply DW_x (fun r w hA hH => (q0e (v := .pointer _) rfl).trans rfl); apply DW_x (fun r w hA hH => (q1t rfl).trans rfl); apply DW_x (fun r w hA hH => (q0g rfl).trans rfl); apply DW_x (fun r w hA hH => (X_ld rfl (D5.grown hA.1 (by simp; omega)) rfl).trans rfl); apply DW_x (fun r w hA hH => (q0e (v := .pointer _) rfl).trans rfl); apply DW_x (fun r w hA hH => (q1t rfl).trans rfl); apply DW_x (fun r w hA hH => (q0g rfl).trans rfl); apply DW_x (fun r w hA hH => (X_ld rfl (D5.grown hA.1 (by simp; omega)) rfl).trans rfl)); apply DW_store (fun _ => rfl) (fun _ => rfl) rfl rfl (q4l rfl); (apply DW_x (fun r w hA hH => (q0i (v := .int _ _) rfl).trans rfl); apply DW_x (fun r w hA hH => (q0i (v := .int _ _) rfl).trans rfl)); ((with_reducible exact q1y); (exact rfl); (repeat (first | exact .inr (.inr (fun _ _ => by with_reducible rfl)) | (refine And.intro ?_ ?_) | exact .inr (.inl rfl) | exact .inl (by decide +kernel) | exact trivial | exact .inr (.inr (fun _ _ => rfl)))); (try dsimp only [Nat.reduceAdd])); intro r w6 A6 H6; have B6 : Blk w6 g2 154 (qC 0 0 0 (.slice none 0 0)) := H6 9; (refine q0c<|tn<|q0s<|tr ?_); rw [hp]; refine q1i rfl rfl (Res.cellA (cs := qry Qy.q0 (.slice none 0 0)) inferInstance rfl (B6.range (fun j u h => by rw [Nat.zero_add]; exact h)) rfl (Res.tmp rfl (Res.tmp rfl .nil))) ?_; rw [← h1, ← h2]; exact ⟨_, rfl, ((E1.trans E2).then G5 (fun g h => by cases h; omega)).then A6.1 (fun g h => by cases h; omega), [], rfl, Row.nil _ _ _ _, fun i u f hu hf => by simp at hu⟩
    | ok m =>
      have hp := hrun m rfl; obtain ⟨pos, off, err, hpl, D5, rfl, rfl, ht⟩ := P5; obtain ⟨hta, r0, hl⟩ := z1b ht; have hkinds := Qy.scan_kinds ((sb s).drop pos) pos; have htb := tok_b (l := (sb s).drop pos) (fun c hc => q9g s c (List.mem_of_mem_drop hc)) pos; have htl : (Qy.scan ((sb s).drop pos) pos).text.length ≤ s.size := by
        have := Qy.scan_fits ((sb s).drop pos) pos; rw [List.length_drop, q3h] at this; omega
      have hpk := gpeek g5 s pos 0 0 hpl (by omega) w5 D5; have hp' := pos_ws hpl; obtain ⟨t, hT⟩ : ∃ t, t = Qy.scan ((sb s).drop pos) pos := ⟨_, rfl⟩; obtain ⟨p', hpe⟩ : ∃ p', p' = pos + Qy.ws ((sb s).drop pos) := ⟨_, rfl⟩; simp only [← hT, ← hpe] at hpk hkinds htb htl hl hp' hta; clear hT hpe; have hkk : t.kind < 256 := (by rcases hkinds with ⟨k, _⟩ | ⟨k, _⟩ | ⟨k, _⟩ | ⟨k, _⟩ | ⟨k, _⟩ <;> omega); have hk0 : t.kind = 0 → t.text = [] := fun h => (by rcases hkinds with ⟨_, t, _⟩ | ⟨k, _⟩ | ⟨k, _⟩ | ⟨k, _⟩ | ⟨k, _⟩ <;> first | exact t | omega); obtain ⟨z, hz'⟩ : ∃ z : Bool, z = true ↔ ¬ (t.kind = 0 ∧ t.text = []) := ⟨decide (¬ (t.kind = 0 ∧ t.text = [])), decide_eq_true_iff⟩; have hgl : g5 < w5.heap.size := D5.lt; (refine q0c<|tn<|q0b<|q0b<|q0a<|m_P rfl<|Ls (q1t rfl)<|Ls (q0g rfl)<|Ls (X_ld rfl D5 rfl)<|Ls (q3v rfl rfl (by omega))<|m_B rfl<|Lg2 rfl rfl rfl (q0e (v := .pointer _) rfl) ?_); refine q1u rfl rfl rfl ?_; refine L_fn hpk rfl ?_; rintro e w6 ⟨rfl, G6, D6⟩; refine ⟨_, rfl, ?_⟩; have hz6 := G6.size; refine q1u rfl rfl rfl ?_; refine Ls (z2b (k := 0) rfl) ?_; refine q1u rfl rfl rfl ?_; refine Ls (X_neqTok hkk (by decide) (by omega) (by decide) htb (by decide) rfl rfl hz') ?_; have P6 : PSt w6 g5 s (.ok m) := ⟨p', 0, 0, hp', D6, rfl, rfl, hta⟩; have C2' := C2.grown G6 (by simp; omega); have C6' := C6.grown G6 (by simp; omega); have F6 := F5.grown G6 (fun g' h => by cases h; exact .inl (by omega)); have G06 := q0d G5 G6 (fun g h => .inl h); subst hl; by_cases hk : t.kind = 0
      · obtain rfl : z = false := by
          cases z
          · rfl
          · exact absurd ⟨hk, hk0 hk⟩ (hz'.1 rfl)
        have hfin : Qy.parse (sb s) = (q, 0, 0) := (by rw [hp]; simp [Qy.fin, hk]); rw [hfin]; (refine Ls (q0m (v := .bool _) rfl rfl)<|q0c<|tn<|q0o rfl<|q0n<|tn<|q0b<|q0b<|q0a<|m_P rfl<|Ls (q1t rfl)<|Ls (q0g rfl)<|Ls (X_ld rfl D6 rfl)<|Ls (q2t rfl rfl (by omega))<|q0c<|tn<|q0o rfl<|q0n<|tn<|q0b<|q0a<|Ls (q2m (size := 4) rfl C6' rfl) ?_); refine q0l (size := 4) (l := qry q v) rfl rfl rfl (q4l hvc) C2' rfl ?_; intro w7 B7 hg7 hs7; (refine a_I rfl<|a_I rfl<|q0c<|tn<|q0s ?_); refine q1i rfl rfl (Res.cellA (cs := qry q v) inferInstance rfl (B7.range (fun j u h => by rw [Nat.zero_add]; exact h)) rfl (Res.tmp rfl (Res.tmp rfl .nil))) ?_; exact ⟨v, rfl, ((E1.trans E2).then G06 (fun g h => by cases h; omega)).then hg7 (fun g h => by cases h; omega), (F6.grown hg7 (fun g' h => by cases h; exact .inl (by omega))).wide (by omega) (by omega)⟩
      · obtain rfl : z = true := hz'.2 fun h => hk h.1; have hfin : Qy.parse (sb s) = (Qy.q0, (Qy.unexp (t :: r0)).1, (Qy.unexp (t :: r0)).2) := by
          rw [hp]; have : (t.kind == 0) = false := (by simp [hk]); simp [Qy.fin, this]
        rw [hfin]; (refine Ls (q0m (v := .bool _) rfl rfl)<|q0c<|tn<|q0t rfl<|q0a<|m_P rfl ?_); refine L_fn (q4v g5 s _ (by omega) w6 P6) rfl ?_; rintro e w7 ⟨rfl, G7, P7⟩; refine ⟨_, rfl, ?_⟩; obtain ⟨pos7, off7, err7, _, D7, h1, h2, h3⟩ := P7; have he0 : ¬ err7 = 0 := (by rw [h2]; exact h3); have C7 := C2'.grown G7 (by simp; omega); have hz7 := G7.size; (refine q0c<|tn<|q0b<|q0b<|q0a<|m_P rfl<|Ls (q1t rfl)<|Ls (q0g rfl)<|Ls (X_ld rfl D7 rfl)<|Ls (q3i rfl rfl (by omega))<|q0c<|tn<|q0t rfl<|q0b ?_); apply W_dagR (R := RB g2 154 (qC 0 0 0 (.slice none 0 0)) (qC 0 0 0 (.slice none 0 0))) (AB g2 154 (qC 0 0 0 (.slice none 0 0)) (qC 0 0 0 (.slice none 0 0)) w7) 12 (by kernel_rfl) (RB.refl _ _ _ _) (AB.new C7) AB.step; ((with_reducible apply DW_x); (exact fun r w hA hH => (X_mkQ0).trans rfl)); (apply DW_x (fun r w hA hH => (q0e (v := .pointer _) rfl).trans rfl); apply DW_x (fun r w hA hH => (q1t rfl).trans rfl); apply DW_x (fun r w hA hH => (q0g rfl).trans rfl); apply DW_x (fun r w hA hH => (X_ld rfl (D7.grown hA.1 (by simp; omega)) rfl).trans rfl); apply DW_x (fun r w hA hH => (q0e (v := .pointer _) rfl).trans rfl); apply DW_x (fun r w hA hH => (q1t rfl).trans rfl); apply DW_x (fun r w hA hH => (q0g rfl).trans rfl); apply DW_x (fun r w hA hH => (X_ld rfl (D7.grown hA.1 (by simp; omega)) rfl).trans rfl)); apply DW_store (fun _ => rfl) (fun _ => rfl) rfl rfl (q4l rfl); (apply DW_x (fun r w hA hH => (q0i (v := .int _ _) rfl).trans rfl); apply DW_x (fun r w hA hH => (q0i (v := .int _ _) rfl).trans rfl)); ((with_reducible exact q1y); (exact rfl); (repeat (first | exact .inr (.inr (fun _ _ => by with_reducible rfl)) | (refine And.intro ?_ ?_) | exact .inr (.inl rfl) | exact .inl (by decide +kernel) | exact trivial | exact .inr (.inr (fun _ _ => rfl)))); (try dsimp only [Nat.reduceAdd])); intro r w8 A8 H8; have B8 : Blk w8 g2 154 (qC 0 0 0 (.slice none 0 0)) := H8 9; (refine q0c<|tn<|q0s<|tr ?_); refine q1i rfl rfl (Res.cellA (cs := qry Qy.q0 (.slice none 0 0)) inferInstance rfl (B8.range (fun j u h => by rw [Nat.zero_add]; exact h)) rfl (Res.tmp rfl (Res.tmp rfl .nil))) ?_; rw [← h1, ← h2]; exact ⟨_, rfl, (((E1.trans E2).then G06 (fun g h => by cases h; omega)).then G7 (fun g h => by cases h; omega)).then A8.1 (fun g h => by cases h; omega), [], rfl, Row.nil _ _ _ _, fun i u f hu hf => by simp at hu⟩
def wid (a : Nat) : Nat := if a = 0 then 4 else if a = 1 then 8 else if a = 2 then 4 else 8
structure Wd (w : World) : Prop where
  h : ∃ b es clk, w.cell? ⟨2, 0, none⟩ = some (.map (some b)) ∧ w.heap[b]? = some (.map es clk) ∧ ∀ a : Nat, a < 4 → ∀ w' : World, w'.heap[b]? = some (.map es clk) → (Instr.lookup 313 (.map (some b)) (.int .i64 (a : Nat)) false).run Tryz.prog w' = .ok (.int .i64 (wid a : Nat)) w'
theorem Wd.ext {w w' : World} (h : Wd w) (E : Ext w w') : Wd w' := by
  obtain ⟨b, es, clk, h1, h2, h3⟩ := h; exact ⟨b, es, clk, E.cell h1, E.heap h2, h3⟩
theorem X_lk {P : Program} {n : NN} {f : Fr} {w : World} {d : Option Tmp} {t ty : TypeId} {pos : String} {af : Array Edge} {g : Option (Nat × Bool)} {x y : Operand} {m k v : Value} (h : (Instr.lookup ty m k false).run P w = .ok v w) (hx : ev n f x = m) (hy : ev n f y = k) :
    X P n ⟨d, .lookup ty x y false, t, pos, af, g⟩ f w = .ok (.value v) w := by
  simp [X, execOp, hx, hy, h, Result.andThen]
theorem gbits (a : Nat) (ha : a < 4) (w : World) (hw : Wd w) : Calls Tryz.prog 117 #[.int .i64 (a : Nat)] w fun e w' => e = .returned (.int .i64 (wid a : Nat)) ∧ Ext w w' := by
  refine q0k Tryz.func117 rfl Tryz.ntmps117 rfl ?_; obtain ⟨b, es, clk, h1, h2, h3⟩ := hw; have hl := h3 a ha w h2; (refine q0b<|q0a<|a_I rfl<|q0c<|tn<|q0b<|q0a<|Ls (z2c rfl h1)<|m_I rfl ?_); refine Ls (X_lk hl rfl rfl) ?_; (refine a_I rfl<|q0c<|tn<|q0s ?_); exact q0f rfl rfl (v := .int .i64 _) rfl ⟨rfl, Ext.refl w⟩
theorem shlw {a : Nat} (ha : a < 4) : IntKind.i64.wrap (1 * 2 ^ min ((wid a : Nat) : Int).toNat IntKind.i64.bits) = ((2 ^ wid a : Nat) : Int) := by
  match a, ha with
  | 0, _ => decide
  | 1, _ => decide
  | 2, _ => decide
  | 3, _ => decide
theorem widle {a : Nat} (ha : a < 4) : 16 ≤ 2 ^ wid a ∧ 2 ^ wid a ≤ 256 := by
  match a, ha with
  | 0, _ => decide
  | 1, _ => decide
  | 2, _ => decide
  | 3, _ => decide
def spV (a : Nat) : List Value := [.int .i64 0, .int .i64 (((2 ^ wid a : Nat) : Int) - 1)]
set_option maxHeartbeats 1000000 in
theorem gunder (a : Nat) (ha : a < 4) (A : Option Addr) (c : Nat) (w : World) (hw : Wd w) : Calls Tryz.prog 277 #[.slice A 0 c, .int .i64 (a : Nat)] w fun e w' => e = .returned (.agg (spV a).toArray) ∧ Ext w w' := by
  refine q0k Tryz.func277 rfl Tryz.ntmps277 rfl ?_; have hb := widle ha; have he := shlw ha; (refine q0b<|q0a ?_); refine q0x ?_; intro g4 w4 B4 hg4 E4 hs4; (refine q0c<|tn<|q0b<|q0a<|m_I rfl ?_); refine L_fn (gbits a ha w4 (hw.ext E4)) rfl ?_; rintro e w5 ⟨rfl, E5⟩; refine ⟨_, rfl, ?_⟩; refine Ls (v := .int .i64 ((2 ^ wid a : Nat) : Int)) ((X_shl rfl rfl (by omega)).trans (by rw [he])) ?_; (refine Ls (q7r rfl rfl (by omega)) ?_); refine Ls (q1p (r := [(0, .const (.int .i64 0)), (1, .tmp 11)]) (zs' := [[.int .i64 0], [.int .i64 (((2 ^ wid a : Nat) : Int) - 1)]]) (Parts.cons (c := [.int .i64 0]) (z := [.int .i64 0]) rfl rfl rfl rfl (Parts.cons (c := [.int .i64 (((2 ^ wid a : Nat) : Int) - 1)]) (z := [.int .i64 0]) rfl rfl rfl rfl (Parts.nil _)))) ?_; refine q0x ?_; intro g6 w6 B6 hg6 E6 hs6; refine q0l (l := spV a) rfl rfl rfl ?_ B6 rfl ?_
  · intro v hv; simp [spV] at hv; rcases hv with rfl | rfl <;> rfl
  intro w7 B7 hg7 hs7; have B47 := ((B4.ext E5).ext E6).grown hg7 (by intro h; cases h; have := E5.size; omega); (refine q0c<|tn<|q0b<|q0b<|q0a<|m_S rfl<|Ls (q0h rfl)<|m_I rfl<|q0c<|tn<|q0j ?_); refine q1k (fun q f w' => f 4 = .pointer (some ⟨g4, 0, none⟩) ∧ f 5 = .pointer (some ⟨g6, 0, none⟩) ∧ f 14 = .int .i64 0 ∧ f 15 = .int .i64 0 ∧ w' = w7) 0 ⟨rfl, rfl, rfl, rfl, rfl⟩ ?_; rintro q f w8 ⟨f4, f5, f14, f15, rfl⟩; rw [fold f4, fold f5, fold f14, fold f15]; (refine q0b<|q0a<|Ls (q3f rfl rfl (by omega))<|q0c<|tn<|q0b<|q0o rfl<|q1g<|te<|te<|bx<|tn<|q0b<|q0a<|Ls (q2m rfl B7 rfl) ?_); refine q0l (l := spV a) rfl rfl rfl ?_ B47 rfl ?_
  · intro v hv; simp [spV] at hv; rcases hv with rfl | rfl <;> rfl
  intro w9 B9 hg9 hs9; (refine q0c<|tn<|q0s ?_); refine q1i rfl rfl (Res.cellA inferInstance rfl (B9.range (o := 0) (fun j u h => by rw [Nat.zero_add]; exact h)) rfl .nil) ?_; have h4s := E4.size; have h5s := E5.size; have h6s := E6.size; exact ⟨rfl, ((E4.trans (E5.trans E6)).then hg7 fun q h => by cases h; omega).then hg9 fun q h => by cases h; omega⟩
set_option maxHeartbeats 1000000 in
theorem gsat1 (a : Nat) (ha : a < 4) (A : Option Addr) (c g : Nat) (w : World) (hw : Wd w) (hB : Blk w g 244 [.slice A 0 c]) : Calls Tryz.prog 341 #[.int .i64 (a : Nat), .pointer (some ⟨g, 0, none⟩)] w fun e w' => e = .returned (.bool false) ∧ Ext w w' := by
  refine q0k Tryz.func341 rfl Tryz.ntmps341 rfl ?_; have hb := widle ha; (refine q0b<|q0a<|a_B rfl<|q0c<|tn<|q0b<|q0a<|Ls (X_ld rfl hB rfl)<|m_I rfl ?_); refine L_fn (gunder a ha A c w hw) rfl ?_; rintro e w5 ⟨rfl, E5⟩; refine ⟨_, rfl, ?_⟩; refine q0x ?_; intro g6 w6 B6 hg6 E6 hs6; refine q0l (l := spV a) rfl rfl rfl ?_ B6 rfl ?_
  · intro v hv; simp [spV] at hv; rcases hv with rfl | rfl <;> rfl
  intro w7 B7 hg7 hs7; (refine q0c<|tn<|q0b<|q0a<|Ls (q0g rfl)<|Ls (X_ld rfl B7 rfl)<|Ls (q0g rfl)<|Ls (X_ld rfl B7 rfl)<|Ls (q7b rfl rfl (by omega))<|a_B rfl<|q0c<|tn<|q0s ?_); have h5s := E5.size; have h6s := E6.size; exact q0f rfl rfl (v := .bool _) rfl ⟨rfl, (E5.trans E6).then hg7 fun q h => by cases h; omega⟩
set_option maxHeartbeats 1000000 in
theorem gidxf (A : Option Addr) (c g gs : Nat) (w : World) (hw : Wd w) (hB : Blk w g 244 [.slice A 0 c]) (hs : Blk w gs 3 (ints .i64 [0, 1, 2, 3])) : Calls Tryz.prog 403 #[.slice (some ⟨gs, 0, none⟩) 4 4, .func (.func 341) #[] #[.pointer (some ⟨g, 0, none⟩)]] w fun e w' => e = .returned (.int .i64 (-1)) ∧ Ext w w' := by
  refine q0k Tryz.func403 rfl Tryz.ntmps403 rfl ?_; (refine q0b<|q0a<|a_I rfl<|q0c<|tn<|q0b<|q0b<|q0a<|m_S rfl<|Ls (q0h rfl)<|m_I rfl<|q0c<|tn<|q0j ?_); refine q1k (fun q f w' => ∃ i : Nat, q = 4 - i ∧ i ≤ 4 ∧ f 0 = .slice (some ⟨gs, 0, none⟩) 4 4 ∧ f 1 = .func (.func 341) #[] #[.pointer (some ⟨g, 0, none⟩)] ∧ f 7 = .int .i64 4 ∧ f 8 = .int .i64 (i : Nat) ∧ Ext w w') 4 ?_ ?_
  · exact ⟨0, rfl, by omega, rfl, rfl, rfl, rfl, Ext.refl w⟩
  · rintro q f w1 ⟨i, rfl, hi, f0, f1, f7, f8, E⟩; rw [fold f0, fold f1, fold f7, fold f8]; (refine q0b<|q0a<|Ls (q2f rfl rfl)<|q0c<|tn<|q0b ?_); refine q1b rfl (fun h => ?_) (fun h => ?_)
    · have hi' : i < 4 := (by omega); have hix : (ints .i64 [0, 1, 2, 3])[i]? = some (.int .i64 (i : Nat)) := by
        match i, hi' with
        | 0, _ => rfl
        | 1, _ => rfl
        | 2, _ => rfl
        | 3, _ => rfl
      (refine q0n<|tn<|q0b<|q0j<|q0b<|q0a<|m_I rfl<|a_I rfl<|q0c<|tn<|q0b<|q0a<|Ls (q0e (v := .func _ _ _) rfl)<|m_S rfl<|m_I rfl<|Ls (q0p rfl rfl (by omega))<|Ls (q2g rfl ((hs.ext E).range (o := 0) fun j u h => by rw [Nat.zero_add]; exact h) (j := i) (by omega) hix) ?_); refine q5a (vl := [.int .i64 (i : Nat)]) rfl (gsat1 i hi' A c g w1 (hw.ext E) (hB.ext E)) rfl ?_; rintro e w2 ⟨rfl, E2⟩; refine ⟨_, rfl, ?_⟩; (refine q0c<|tn<|q0o rfl<|q0n<|bn<|tn<|q0a<|Ls (q1j rfl rfl (by omega))<|m_I rfl<|q0c<|tn ?_); exact ⟨4 - (i + 1), by omega, i + 1, rfl, by omega, rfl, rfl, rfl, rfl, E.trans E2⟩
    · (refine q1g<|te<|te<|bx<|tn<|q0b<|q0a<|a_I rfl<|q0c<|tn<|q0s ?_); exact q0f rfl rfl (v := .int .i64 _) rfl ⟨rfl, E⟩
theorem gconf (A : Option Addr) (c g gs : Nat) (w : World) (hw : Wd w) (hB : Blk w g 244 [.slice A 0 c]) (hs : Blk w gs 3 (ints .i64 [0, 1, 2, 3])) : Calls Tryz.prog 340 #[.slice (some ⟨gs, 0, none⟩) 4 4, .func (.func 341) #[] #[.pointer (some ⟨g, 0, none⟩)]] w fun e w' => e = .returned (.bool false) ∧ Ext w w' := by
  refine q0k Tryz.func340 rfl Tryz.ntmps340 rfl ?_; (refine q0b<|q0a<|a_B rfl<|q0c<|tn<|q0b<|q0a<|m_S rfl<|Ls (q0e (v := .func _ _ _) rfl) ?_); refine L_fn (gidxf A c g gs w hw hB hs) rfl ?_; rintro e w2 ⟨rfl, E2⟩; refine ⟨_, rfl, ?_⟩; (refine Ls (q6a rfl rfl (by omega))<|a_B rfl<|q0c<|tn<|q0s ?_); exact q0f rfl rfl (v := .bool _) rfl ⟨rfl, E2⟩
theorem gsatis (A : Option Addr) (c : Nat) (w : World) (hw : Wd w) : Calls Tryz.prog 275 #[.slice A 0 c] w fun e w' => e = .returned (.bool true) ∧ Ext w w' := by
  refine q0k Tryz.func275 rfl Tryz.ntmps275 rfl ?_; (refine q0b<|q0a ?_); refine L_box1 (v := .slice A 0 c) rfl rfl ?_; intro g1 w1 B1 hg1 E1 hs1; (refine a_B rfl<|q0c<|tn<|q0b<|q0a ?_); refine Ls (q5y (z := [.int .i64 0]) (zs' := [[.int .i64 0], [.int .i64 1], [.int .i64 2], [.int .i64 3]]) (cs := ints .i64 [0, 1, 2, 3]) (len := 4) ?_ rfl rfl) ?_
  · repeat (first | exact Parts.nil _ | refine Parts.cons rfl rfl rfl rfl ?_)
  have E7 : Ext w1 (w1.alloc (.cells (ints .i64 [0, 1, 2, 3]).toArray 3)) := q1e _ _; have B7 : Blk (w1.alloc (.cells (ints .i64 [0, 1, 2, 3]).toArray 3)) w1.heap.size 3 (ints .i64 [0, 1, 2, 3]) := Blk.new _ _ _; generalize w1.alloc (.cells (ints .i64 [0, 1, 2, 3]).toArray 3) = w7 at *; generalize w1.heap.size = g7 at *; refine Ls (q1l (vf := []) (vc := [.pointer (some ⟨g1, 0, none⟩)]) rfl rfl) ?_; refine L_fn (gconf A c g1 g7 w7 (hw.ext (E1.trans E7)) (B1.ext E7) B7) rfl ?_; rintro e w2 ⟨rfl, E2⟩; refine ⟨_, rfl, ?_⟩; (refine Ls (q1x rfl)<|a_B rfl<|q0c<|tn<|q0s ?_); exact q0f rfl rfl (v := .bool _) rfl ⟨rfl, E1.trans (E7.trans E2)⟩
set_option maxRecDepth 100000 in
theorem gmul01 (w : World) : Calls Tryz.prog 345 #[.int .u64 0, .int .u64 1] w fun e w' => e = .returned (.tuple #[.int .u64 0, .int .u64 0]) ∧ w' = w := by
  refine q0k Tryz.func345 rfl Tryz.ntmps345 rfl ?_; (refine q0b<|q0a<|a_I rfl<|a_I rfl<|q0c<|tn<|q0b<|q0a<|m_I rfl<|Ls (z0c rfl rfl)<|a_I rfl<|q0c<|tn<|q0b<|q0a<|m_I rfl<|Ls (q8t rfl rfl (by omega))<|a_I rfl<|q0c<|tn<|q0b<|q0a<|m_I rfl<|Ls (z0c rfl rfl)<|a_I rfl<|q0c<|tn<|q0b<|q0a<|m_I rfl<|Ls (q8t rfl rfl (by omega))<|a_I rfl<|q0c<|tn<|q0b<|q0a<|m_I rfl<|m_I rfl<|Ls (X_mul rfl rfl)<|a_I rfl<|q0c<|tn<|q0b<|q0a<|m_I rfl<|m_I rfl<|Ls (X_mul rfl rfl)<|m_I rfl<|Ls (q8t rfl rfl (by omega))<|Ls (q6x rfl rfl)<|a_I rfl<|q0c<|tn<|q0b<|q0a<|m_I rfl<|Ls (z0c rfl rfl)<|a_I rfl<|q0c<|tn<|q0b<|q0a<|m_I rfl<|Ls (q8t rfl rfl (by omega))<|a_I rfl<|q0c<|tn<|q0b<|q0a<|m_I rfl<|m_I rfl<|m_I rfl<|Ls (X_mul rfl rfl)<|Ls (q6x rfl rfl)<|a_I rfl<|q0c<|tn<|q0b<|q0a<|m_I rfl<|m_I rfl<|Ls (X_mul rfl rfl)<|m_I rfl<|Ls (q6x rfl rfl)<|m_I rfl<|Ls (q8t rfl rfl (by omega))<|Ls (q6x rfl rfl)<|a_I rfl<|q0c<|tn<|q0b<|q0a<|m_I rfl<|m_I rfl<|Ls (X_mul rfl rfl)<|a_I rfl<|q0c<|tn<|q0s ?_); exact q7m rfl rfl (v := .int .u64 0) (x := .int .u64 0) (by kernel_rfl) (by kernel_rfl) ⟨rfl, rfl⟩
set_option maxRecDepth 100000 in
set_option maxHeartbeats 1000000 in
theorem gmult1 (ga gb : Nat) (w : World) (hA : Blk w ga 32 [.int .u64 0]) (hB : Blk w gb 4 [.bool true]) (hne : ga ≠ gb) : Calls Tryz.prog 404 #[.int .i64 1, .pointer (some ⟨ga, 0, none⟩), .pointer (some ⟨gb, 0, none⟩)] w fun e w' => e = .returned (.tuple #[.int .i64 0, .bool true]) ∧ ∃ w1 w2, w.grownBy w1 (some gb) ∧ w1.grownBy w2 (some ga) ∧ Ext w2 w' := by
  refine q0k Tryz.func404 rfl Tryz.ntmps404 rfl ?_; (refine q0b<|q0a<|a_I rfl<|a_B rfl<|q0c<|tn<|q0b<|q0a<|Ls (X_ld rfl hA rfl)<|m_I rfl<|Ls ((q3w rfl).trans (by rw [show IntKind.u64.wrap 1 = 1 from by decide])) ?_); refine L_fn (gmul01 w) rfl ?_; rintro e w ⟨rfl, rfl⟩; refine ⟨_, rfl, ?_⟩; (refine m_T rfl<|Ls (q0y rfl rfl)<|Ls (q0y rfl rfl)<|a_I rfl<|a_I rfl<|q0c<|tn<|q0b<|q0a<|Ls (X_ld rfl hB rfl)<|m_B rfl<|Lg2 rfl rfl rfl (q0e (v := .int _ _) rfl)<|Lg2 rfl rfl rfl (q3v rfl rfl (by omega))<|Ls (q0m (v := .bool _) rfl rfl)<|m_B rfl<|Lg2 rfl rfl rfl (q0e (v := .int _ _) rfl)<|Lg2 rfl rfl rfl (q3j rfl rfl (by omega))<|Ls (q0m (v := .bool _) rfl rfl) ?_); refine q1d (v := .bool true) rfl rfl rfl hB (by decide) ?_; intro w1 hB1 hg1 hs1; have hA1 := hA.grown hg1 (by intro h; cases h; exact hne rfl); (refine q0c<|tn<|q0b<|q0a<|m_I rfl ?_); refine q1d (v := .int .u64 0) rfl rfl rfl hA1 (by decide) ?_; intro w2 hA2 hg2 hs2; have hB2 := hB1.grown hg2 (by intro h; cases h; exact hne rfl); (refine q0c<|tn<|q0b ?_); apply q1q 5 (by kernel_rfl); (apply DW_x (fun r w hA hH => (X_ld rfl (hA2.ext hA) rfl).trans rfl); apply DW_x (fun r w hA hH => ((q3w rfl).trans (by rw [show IntKind.i64.wrap 0 = 0 from by decide])).trans rfl); apply DW_x (fun r w hA hH => (X_ld rfl (hB2.ext hA) rfl).trans rfl); apply DW_x (fun r w hA hH => (q0i (v := .int _ _) rfl).trans rfl); apply DW_x (fun r w hA hH => (q0i (v := .bool _) rfl).trans rfl)); ((with_reducible exact q1y); (exact rfl); (repeat (first | exact .inr (.inr (fun _ _ => by with_reducible rfl)) | (refine And.intro ?_ ?_) | exact .inr (.inl rfl) | exact .inl (by decide +kernel) | exact trivial | exact .inr (.inr (fun _ _ => rfl)))); (try dsimp only [Nat.reduceAdd])); intro r w3 E3 _; (refine q0c<|tn<|q0s ?_); exact q7m rfl rfl (v := .int .i64 0) (x := .bool true) rfl rfl ⟨rfl, w1, w2, hg1, hg2, E3⟩
set_option maxHeartbeats 1000000 in
theorem gmk0 (w : World) : Calls Tryz.prog 342 #[.int .i64 0] w fun e w' => ∃ ga gb, e = .returned (.func (.func 404) #[] #[.pointer (some ⟨ga, 0, none⟩), .pointer (some ⟨gb, 0, none⟩)]) ∧ w.heap.size ≤ ga ∧ w.heap.size ≤ gb ∧ ga ≠ gb ∧ Blk w' ga 32 [.int .u64 0] ∧ Blk w' gb 4 [.bool true] ∧ Ext w w' := by
  refine q0k Tryz.func342 rfl Tryz.ntmps342 rfl ?_; (refine q0b<|q0a<|Ls (q0i (v := Value.nilFunc) rfl)<|q0c<|tn<|q0b<|q0a<|m_I rfl<|Ls ((q3w rfl).trans (by rw [show IntKind.u64.wrap 0 = 0 from by decide])) ?_); refine q0x ?_; intro ga w1 A1 hga E1 hs1; refine q0x ?_; intro gb w2 B2 hgb E2 hs2; have A2 := A1.ext E2; refine q1d (v := .int .u64 0) rfl rfl rfl A2 (by decide) ?_; intro w3 A3 hg3 hs3; have B3 := B2.grown hg3 (by intro h; cases h; omega); refine q1d (v := .bool true) rfl rfl rfl B3 (by decide) ?_; intro w4 B4 hg4 hs4; have A4 := A3.grown hg4 (by intro h; cases h; omega); (refine q0c<|tn<|q0b<|q0a ?_); refine Ls (q1l (vf := []) (vc := [.pointer (some ⟨ga, 0, none⟩), .pointer (some ⟨gb, 0, none⟩)]) rfl rfl) ?_; (refine Ls (q0i (v := .func _ _ _) rfl)<|q0c<|tn<|q0s ?_); exact q0f rfl rfl (v := .func _ _ _) rfl ⟨ga, gb, rfl, by omega, by omega, by omega, A4, B4, ((E1.trans E2).then hg3 fun q h => by cases h; omega).then hg4 fun q h => by cases h; omega⟩
set_option maxHeartbeats 1000000 in
theorem gpow0 (m : Int) (w : World) : Calls Tryz.prog 276 #[.int .i64 0, .int .i64 m, .int .i64 0] w fun e w' => e = .returned (.tuple #[.int .i64 0, .bool true]) ∧ Ext w w' := by
  refine q0k Tryz.func276 rfl Tryz.ntmps276 rfl ?_; (refine q0b<|q0a<|a_I rfl<|a_B rfl<|q0c<|tn<|q0b<|q0a<|m_I rfl ?_); refine L_fn (gmk0 w) rfl ?_; rintro e w1 ⟨ga, gb, rfl, hga, hgb, hne, A1, B1, E1⟩; refine ⟨_, rfl, ?_⟩; (refine Ls (q0i (v := .func _ _ _) rfl)<|q0c<|tn<|q0b<|q0a<|Ls (q0e (v := .func _ _ _) rfl) ?_); refine q5a (vl := [.int .i64 1]) rfl (gmult1 ga gb w1 A1 B1 hne) rfl ?_; rintro e w2 ⟨rfl, wa, wb, hg1, hg2, E2⟩; refine ⟨_, rfl, ?_⟩; have E02 := ((E1.then hg1 fun q h => by cases h; omega).then hg2 fun q h => by cases h; omega).trans E2; (refine m_T rfl<|Ls (q0y rfl rfl)<|Ls (q0y rfl rfl)<|a_I rfl<|a_B rfl<|q0c<|tn<|q0b<|q0b<|q0a<|m_I rfl<|m_I rfl<|q0c<|tn<|q0j ?_); refine q1k (fun q f w' => f 9 = .int .i64 0 ∧ f 10 = .bool true ∧ f 18 = .int .i64 0 ∧ f 19 = .int .i64 0 ∧ w' = w2) 0 ⟨rfl, rfl, rfl, rfl, rfl⟩ ?_; rintro q f w3 ⟨f9, f10, f18, f19, rfl⟩; rw [fold f9, fold f10, fold f18, fold f19]; (refine q0b<|q0a<|Ls (q3f rfl rfl (by omega))<|q0c<|tn<|q0b<|q0o rfl<|q1g<|te<|te<|bx<|tn<|q0b<|q0a<|m_I rfl<|m_B rfl<|a_I rfl<|a_B rfl<|q0c<|tn<|q0s ?_); exact q7m rfl rfl (v := .int .i64 0) (x := .bool true) rfl rfl ⟨rfl, E02⟩
theorem gmoment (fv : Value) (h1 : fv.oneCell' = true) (w : World) : Calls Tryz.prog 178 #[fv] w fun e w' => ∃ g, e = .returned (.func (.func 274) #[] #[.pointer (some ⟨g, 0, none⟩)]) ∧ w.heap.size ≤ g ∧ Blk w' g 236 [fv] ∧ Ext w w' := by
  refine q0k Tryz.func178 rfl Tryz.ntmps178 rfl ?_; (refine q0b<|q0a ?_); refine L_box1 (v := fv) rfl h1 ?_; intro g1 w1 B1 hg1 E1 hs1; (refine Ls (q0i (v := Value.nilFunc) rfl)<|q0c<|tn<|q0b<|q0a ?_); refine Ls (q1l (vf := []) (vc := [.pointer (some ⟨g1, 0, none⟩)]) rfl rfl) ?_; (refine Ls (q0i (v := .func _ _ _) rfl)<|q0c<|tn<|q0s ?_); exact q0f rfl rfl (v := .func _ _ _) rfl ⟨g1, rfl, by omega, B1, E1⟩
theorem gkin1 (cs : List Value) (_ : cs.length = 4) (w : World) : Calls Tryz.prog 179 #[.agg cs.toArray] w fun e w' => e = .returned (.int .i64 0) ∧ Ext w w' := by
  refine q0k Tryz.func179 rfl Tryz.ntmps179 rfl ?_; (refine q0b<|q0a ?_); refine q3k (l := cs) rfl ?_; intro g1 w1 B1 hg1 E1 hs1; (refine a_I rfl<|q0c<|tn<|q0b<|q0a<|a_I rfl<|q0c<|tn<|q0s ?_); exact q0f rfl rfl (v := .int .i64 0) rfl ⟨rfl, E1⟩
theorem infKind : (Tryz.prog.info? 213).map (fun i => (i.zero, i.size, i.bytes)) = some (some (.agg ([[.int .i64 0], [.bool false], [.nilFunc]].flatten).toArray), 3, 24) := by kernel_rfl
instance zeroKind : TZero Tryz.prog 213 [[.int .i64 0], [.bool false], [.nilFunc]].flatten := q1z infKind (by rfl)
instance segsKind : TSegs Tryz.prog 213 [[.int .i64 0], [.bool false], [.nilFunc]] := q2x Tryz.underlying213 (by kernel_rfl) (by kernel_rfl)
theorem q5v {n : NN} {f : Fr} {w : World} {d : Option Tmp} {t : TypeId} {pos : String} {af : Array Edge} {g : Option (Nat × Bool)} {x y z : Operand} {a : Int} {b : Bool} {v : Value} (hx : ev n f x = .int .i64 a) (hy : ev n f y = .bool b) (hz : ev n f z = v) (hv : v.oneCell' = true) :
    X Tryz.prog n ⟨d, .build 213 #[(0, x), (1, y), (2, z)], t, pos, af, g⟩ f w = .ok (.value (.agg #[.int .i64 a, .bool b, v])) w := by
  have := q1p (P := Tryz.prog) (ty := 213) (n := n) (f := f) (w := w) (d := d) (t := t) (pos := pos) (af := af) (g := g)
    (Parts.cons (i := 0) (z := [.int .i64 0]) hx rfl rfl rfl (Parts.cons (i := 1) (z := [.bool false]) hy rfl rfl rfl (Parts.cons (i := 2) (c := [v]) (z := [.nilFunc]) hz (q2v hv) rfl rfl (Parts.nil _))))
  simpa using this
set_option maxHeartbeats 2000000 in
theorem gkinds (w : World) : Calls Tryz.prog 116 #[] w fun e w' => ∃ q, e = .returned q ∧ Ext w w' ∧ ∃ b M g, q = .map (some b) ∧ w.heap.size ≤ b ∧ MapI Tryz.prog 3 w' b 7 M ∧ M 1 = some (.agg #[.int .i64 1, .bool false, .func (.func 274) #[] #[.pointer (some ⟨g, 0, none⟩)]]) ∧ w.heap.size ≤ g ∧ Blk w' g 236 [.func (.func 179) #[] #[]] ∧ M 4 = some (.agg #[.int .i64 16, .bool true, .func (.func 182) #[] #[]]) := by
  refine q0k Tryz.func116 rfl Tryz.ntmps116 rfl ?_; (refine q0b<|q0a<|Ls (q0i (v := .map _) rfl)<|q0c<|tn<|q0b<|q0a ?_); refine L_makeMap (kt := 3) ?_; intro w1 M1 E1 hs1; obtain ⟨b, hb⟩ : ∃ b, b = w.heap.size := ⟨_, rfl⟩; rw [← hb] at M1 ⊢; refine L_fn (gmoment (.func (.func 179) #[] #[]) rfl w1) rfl ?_; rintro e w2 ⟨g2, rfl, hg2, B2, E2⟩; refine ⟨_, rfl, ?_⟩; refine Ls (q5v rfl rfl rfl rfl) (q7x (q3d rfl rfl rfl (M1.ext E2) (by decide) (by decide) ?_)); intro w3 M3 g3 hs3; have B3 := B2.grown g3 (by intro h; cases h; omega); have hw : ∀ g, some b = some g → w.heap.size ≤ g := fun g h => by cases h; omega
  have F3 := (E1.trans E2).then g3 hw; refine L_fn (gmoment (.func (.func 180) #[] #[]) rfl w3) rfl ?_; rintro e w4 ⟨h4, rfl, hh4, _, E4⟩; refine ⟨_, rfl, ?_⟩; refine Ls (q5v rfl rfl rfl rfl) (q7x (q3d rfl rfl rfl (M3.ext E4) (by decide) (by decide) ?_)); intro w5 M5 g5 hs5; have F5 := (F3.trans E4).then g5 hw; have B5 := (B3.ext E4).grown g5 (by intro h; cases h; omega); refine L_fn (gmoment (.func (.func 181) #[] #[]) rfl w5) rfl ?_; rintro e w6 ⟨h6, rfl, hh6, _, E6⟩; refine ⟨_, rfl, ?_⟩; refine Ls (q5v rfl rfl rfl rfl) (q7x (q3d rfl rfl rfl (M5.ext E6) (by decide) (by decide) ?_)); intro w7 M7 g7 hs7; have F7 := (F5.trans E6).then g7 hw; have B7 := (B5.ext E6).grown g7 (by intro h; cases h; omega); refine Ls (q5v rfl rfl rfl rfl) (q7x (q3d rfl rfl rfl M7 (by decide) (by decide) ?_)); intro w8 M8 g8 hs8; have F8 := F7.then g8 hw; have B8 := B7.grown g8 (by intro h; cases h; omega); refine Ls (q5v rfl rfl rfl rfl) (q7x (q3d rfl rfl rfl M8 (by decide) (by decide) ?_)); intro w9 M9 g9 hs9; have F9 := F8.then g9 hw; have B9 := B8.grown g9 (by intro h; cases h; omega); refine Ls (q5v rfl rfl rfl rfl) (q7x (q3d rfl rfl rfl M9 (by decide) (by decide) ?_)); intro w10 M10 g10 hs10; have F10 := F9.then g10 hw; have B10 := B9.grown g10 (by intro h; cases h; omega); refine Ls (q5v rfl rfl rfl rfl) (q7x (q3d rfl rfl rfl M10 (by decide) (by decide) ?_)); intro w11 M11 g11 hs11; have F11 := F10.then g11 hw; have B11 := B10.grown g11 (by intro h; cases h; omega); (refine Ls (q0e (v := .map _) rfl)<|Ls (q0i (v := .map _) rfl)<|q0c<|tn<|q0s ?_); exact q0f rfl rfl (v := .map _) rfl ⟨_, rfl, F11, b, _, g2, rfl, by omega, M11, rfl, by have := E1.size; omega, B11, rfl⟩
theorem filsOne {w : World} {lo hi : Nat} {v : Value} (h : q6e w lo hi v [[]]) : ∃ b o c A c', v = .slice (some ⟨b, o, none⟩) 1 c ∧ w.rangeAt b o [.slice A 0 c'] := by
  obtain ⟨us, h1, h2, h3⟩ := h; obtain ⟨u, rfl⟩ : ∃ u, us = [u] := by
    match us, h1 with
    | [u], _ => exact ⟨u, rfl⟩
  obtain ⟨b, o, c, rfl, _, _, _, hr⟩ := h2.at (k := 0) (by decide); obtain ⟨_, A, c', rfl, _⟩ := h3 0 u [] rfl rfl; exact ⟨b, o, c, A, c', rfl, hr⟩
set_option maxRecDepth 100000 in
set_option maxHeartbeats 2000000 in
theorem gmom1 (lo hi g : Nat) (v : Value) (w : World) (hw : Wd w) (hF : q6e w lo hi v [[]]) (hB : Blk w g 236 [.func (.func 179) #[] #[]]) :
    Calls Tryz.prog 274 #[.agg (qC 1 0 0 v).toArray, .int .i64 0, .pointer (some ⟨g, 0, none⟩)] w fun e w' => ∃ u, e = .returned (.tuple #[u, .bool true]) ∧ u.oneCell' = true ∧ Ext w w' := by
  refine q0k Tryz.func274 rfl Tryz.ntmps274 rfl ?_; obtain ⟨b, o, c, A, c', rfl, hR⟩ := filsOne hF; (refine q0b<|q0a ?_); refine q3k (l := qC 1 0 0 (.slice (some ⟨b, o, none⟩) 1 c)) rfl ?_; intro g3 w3 B3 hg3 E3 hs3; (refine a_S rfl<|a_B rfl<|q0c<|tn<|q0b<|q0b<|q0a<|Ls (q0g rfl)<|Ls (X_ld rfl B3 rfl)<|Ls (q0p (i := 0) rfl rfl (by omega))<|Ls (q2g rfl (E3.range hR) (j := 0) (by omega) rfl) ?_); refine L_fn (gsatis A c' w3 (hw.ext E3)) rfl ?_; rintro e w4 ⟨rfl, E4⟩; refine ⟨_, rfl, ?_⟩; have B4 := B3.ext E4; have E34 := E3.trans E4; (refine Ls (q1x rfl)<|q0c<|tn<|q0o rfl<|q0n<|tn<|q0b ?_); apply q1q 18 (by kernel_rfl); (apply DW_x (fun r w hA hH => (q0e (v := .int _ _) rfl).trans rfl); apply DW_x (fun r w hA hH => (q0g rfl).trans rfl); apply DW_x (fun r w hA hH => (X_ld rfl (B4.ext hA) rfl).trans rfl); apply DW_x (fun r w hA hH => (q0p (i := 0) rfl rfl (by omega)).trans rfl); apply DW_x (fun r w hA hH => (q2g rfl ((E34.trans hA).range hR) (j := 0) (by omega) rfl).trans rfl); apply DW_x (fun r w hA hH => (q0g rfl).trans rfl); apply DW_x (fun r w hA hH => (X_ld rfl (B4.ext hA) rfl).trans rfl)); ((with_reducible apply q4z); (exact fun _ => rfl); (exact fun _ => rfl); (exact fun r w hA hH => gunder 0 (by decide) A c' w (hw.ext (E34.trans hA)))); ((with_reducible apply DW_x); (exact fun r w hA hH => (X_field1 (v := .int .i64 (((2 ^ wid 0 : Nat) : Int) - 1)) rfl rfl).trans rfl)); (apply DW_x (fun r w hA hH => (X_ld rfl ((hB.ext E34).ext hA) rfl).trans rfl); apply DW_x (fun r w hA hH => (q2m rfl (B4.ext hA) rfl).trans rfl)); with_reducible apply DW_frc (id := 179) (F := fun u _ => u = .int .i64 0)
  exact fun _ => rfl; exact fun _ => rfl; exact fun r w hA hH => (gkin1 _ rfl w).mono fun e w' h => ⟨_, h.1, h.2, rfl⟩; exact fun i v w w' _ _ _ h => h; ((with_reducible apply q4z); (exact fun _ => rfl); (exact fun _ => rfl); (exact fun r w hA hH => (by have e : r 11 = .int .i64 0 := hH 11 rfl; show Calls _ _ #[_, _, r 11] _ _; rw [e]; exact gpow0 _ w))); (apply DW_x (fun r w hA hH => (q0e (v := .tuple _) rfl).trans rfl); apply DW_x (fun r w hA hH => (q0y rfl rfl).trans rfl); apply DW_x (fun r w hA hH => (q0y rfl rfl).trans rfl); apply DW_x (fun r w hA hH => (q0i (v := .int _ _) rfl).trans rfl); apply DW_x (fun r w hA hH => (q0i (v := .bool _) rfl).trans rfl)); ((with_reducible exact q1y); (exact rfl); (repeat (first | exact .inr (.inr (fun _ _ => by with_reducible rfl)) | (refine And.intro ?_ ?_) | exact .inr (.inl rfl) | exact .inl (by decide +kernel) | exact trivial | exact .inr (.inr (fun _ _ => rfl)))); (try dsimp only [Nat.reduceAdd])); intro r w5 E5 _; (refine q0c<|tn<|q0b<|q0a<|m_I rfl ?_); refine q4k (v := .int .i64 0) rfl rfl ?_; intro u w6 r6 E6 hs6 _; have hu := q5l r6; (refine m_B rfl<|Ls (q0i (v := u) rfl)<|a_B rfl<|q0c<|tn<|q0s ?_); exact q7m rfl rfl (v := u) (x := .bool true) rfl rfl ⟨u, rfl, hu, E34.trans (E5.trans E6)⟩
def z0d (a : Int) (_ : World) (u : Value) (w : World) : Prop := if a = 1 then ∃ g, u = .agg #[.int .i64 1, .bool false, .func (.func 274) #[] #[.pointer (some ⟨g, 0, none⟩)]] ∧ Blk w g 236 [.func (.func 179) #[] #[]] else u = .agg #[.int .i64 16, .bool true, .func (.func 182) #[] #[]]
def z0a (_ : World) (q : Value) (w : World) : Prop := ∃ b M g, q = .map (some b) ∧ MapI Tryz.prog 3 w b 7 M ∧ M 1 = some (.agg #[.int .i64 1, .bool false, .func (.func 274) #[] #[.pointer (some ⟨g, 0, none⟩)]]) ∧ Blk w g 236 [.func (.func 179) #[] #[]] ∧ M 4 = some (.agg #[.int .i64 16, .bool true, .func (.func 182) #[] #[]])
theorem z0a.ext {w0 w w' : World} {q : Value} (h : z0a w0 q w) (E : Ext w w') : z0a w0 q w' := by
  obtain ⟨b, M, g, h1, h2, h3, h4, h5⟩ := h; exact ⟨b, M, g, h1, h2.ext E, h3, h4.ext E, h5⟩
theorem kind_ok : (Tryz.prog.info? 213).bind (·.zero) = some (.agg ([[.int .i64 0], [.bool false], [.nilFunc]].flatten).toArray) := by kernel_rfl
set_option maxRecDepth 100000 in
set_option maxHeartbeats 2000000 in
theorem gcheckA (lo hi : Nat) (v : Value) (w : World) (hw : Wd w) (hF : q6e w lo hi v [[]]) :
    Calls Tryz.prog 82 #[.agg (qC 1 0 0 v).toArray, .int .i64 0] w fun e w' => ∃ u, e = .returned (.tuple #[.agg #[u], .int .i64 0]) ∧ u.oneCell' = true ∧ Ext w w' := by
  refine q0k Tryz.func82 rfl Tryz.ntmps82 rfl ?_; have hv := hF.cell; (refine q0b<|q0a ?_); refine q3k (l := qC 1 0 0 v) rfl ?_; intro g2 w2 B2 hg2 E2 hs2; refine q0x ?_; intro g4 w4 B4 hg4 E4 hs4; have B2 := B2.ext E4; have E24 := E2.trans E4; (refine a_I rfl<|q0c<|tn<|q0b<|q0b<|q0a<|Ls (q2m rfl B2 rfl) ?_); refine L_fn (gvalid ⟨1, 0, 0, [[]]⟩ v lo hi w4 (hF.ext E24) (by decide)) rfl ?_; rintro e w5 ⟨rfl, E5⟩; refine ⟨_, rfl, ?_⟩; rw [show decide (Qy.OkI ⟨1, 0, 0, [[]]⟩) = true from by decide]; have B2 := B2.ext E5; have B4 := B4.ext E5; have E25 := E24.trans E5; (refine Ls (q1x rfl)<|m_B rfl<|Lg2 rfl rfl rfl (q0e (v := .int _ _) rfl)<|Lg2 rfl rfl rfl (q3f rfl rfl (by omega))<|Ls (q0r (v := .bool _) rfl rfl)<|m_B rfl<|Lg2 rfl rfl rfl (q0e (v := .int _ _) rfl)<|Lg2 rfl rfl rfl (q7b rfl rfl (by omega))<|Ls (q0r (v := .bool _) rfl rfl)<|q0c<|tn<|q0o rfl<|q0n<|tn<|q0b ?_); apply q1q 5 (by kernel_rfl); ((with_reducible apply q8l (F := z0a w5)); (exact fun _ => rfl); (exact fun _ => rfl); (exact fun r w hA hH => (gkinds w).mono fun e w' ⟨q, h1, h2, b, M, g, h3, _, h5, h6, _, h7, h8⟩ => ⟨q, h1, h2, b, M, g, h3, h5, h6, h7, h8⟩); (exact fun i u w w' hi ht hR h => h.ext hR)); (apply DW_x (fun r w hA hH => (q0g rfl).trans rfl); apply DW_x (fun r w hA hH => (X_ld rfl (B2.ext hA) rfl).trans rfl)); with_reducible apply DW_d (F := fun _ u w' => z0d 1 w5 u w')
  exact fun r w hA hH => (by
    obtain ⟨b, M, g, h1, h2, h3, h4, h5⟩ : z0a w5 (r 0) w := hH 0 rfl
    exact ⟨_, _, X_look1 (e := 213) kind_ok h1 rfl h2 (by decide) (by rw [h3]), Ext.refl w, by unfold z0d; rw [if_pos rfl]; exact ⟨g, rfl, h4⟩⟩)
  exact fun i r u w w' _ _ hR h => (by
    unfold z0d at h ⊢
    rw [if_pos rfl] at h ⊢
    obtain ⟨g, h1, h2⟩ := h
    exact ⟨g, h1, h2.ext hR⟩)
  exact fun _ _ => rfl; apply q9c (w0 := w5) (fun w hA => hA.size); ((with_reducible exact q1y); (exact rfl); (repeat (first | exact .inr (.inr (fun _ _ => by with_reducible rfl)) | (refine And.intro ?_ ?_) | exact .inr (.inl rfl) | exact .inl (by decide +kernel) | exact trivial | exact .inr (.inr (fun _ _ => rfl)))); (try dsimp only [Nat.reduceAdd])); intro r w6 E6 H6; have h3 : z0d 1 w5 (r 3) w6 := H6 3; obtain ⟨g6, e6, hg6, B6⟩ : NewF w5 213 _ (r 4) w6 := H6 4; generalize r 3 = u3 at *; generalize r 4 = u4 at *; subst e6; unfold z0d at h3; rw [if_pos rfl] at h3; obtain ⟨gm, rfl, Bm⟩ := h3; have B2 := B2.ext E6; have B4 := B4.ext E6; have E26 := E25.trans E6; have h2s := E2.size; have h4s := E4.size; have h5s := E5.size; have g4l := q2b B4; refine q0l (l := [.int .i64 1, .bool false, .func (.func 274) #[] #[.pointer (some ⟨gm, 0, none⟩)]]) rfl rfl rfl ?_ B6 rfl ?_
  · intro v hv; simp at hv; rcases hv with rfl | rfl | rfl <;> rfl
  intro w7 B7 hg7 hs7; have Bm7 := Bm.grown hg7 (by intro h; cases h; exact Bm.ne_ B6 (by decide) rfl); have B2 := B2.grown hg7 (by intro h; cases h; omega); have B4 := B4.grown hg7 (by intro h; cases h; omega); have E27 := E26.then hg7 fun q h => by cases h; omega
  (refine q0c<|tn<|q0b<|q0b<|q0a<|Ls (q0g rfl)<|Ls (X_ld rfl B7 rfl)<|m_B rfl<|Lo2 rfl rfl rfl rfl<|Lo2 rfl rfl rfl rfl<|Lo2 rfl rfl rfl rfl<|Lo2 rfl rfl rfl rfl<|Ls (q0r (v := .bool _) rfl rfl)<|q0c<|tn<|q0o rfl<|q0n<|tn<|q0b<|q0a<|Ls (q0g rfl)<|Ls (X_ld rfl B7 rfl) ?_); (refine Ls (q2m rfl B2 rfl)<|m_I rfl ?_); refine q5a (vl := [.agg (qC 1 0 0 v).toArray, .int .i64 0]) rfl (gmom1 lo hi gm v w7 (hw.ext E27) (hF.ext E27) Bm7) rfl ?_; rintro e w8 ⟨u, rfl, hu, E8⟩; refine ⟨_, rfl, ?_⟩; have B4 := B4.ext E8; have E28 := E27.trans E8; (refine m_T rfl<|Ls (q0y rfl rfl)<|Ls (q0y rfl rfl)<|Ls (q0i (v := u) rfl)<|a_B rfl<|q0c<|tn<|q0b<|q0b<|q0a<|m_B rfl<|Ls (q1x rfl)<|q0c<|tn<|q0o rfl<|q0n<|tn<|q0b<|q0a<|Ls (q0e (v := u) rfl) ?_); skip; refine Ls (q1p (r := [(0, .tmp 45)]) (zs' := [[u]]) (Parts.cons (v := u) (c := [u]) (z := [.slice none 0 0]) rfl (q2v hu) rfl rfl (Parts.nil _))) ?_; refine q0l (l := [u]) rfl rfl rfl (fun v hv => by rw [List.mem_singleton.1 hv]; exact hu) B4 rfl ?_; intro w9 B9 hg9 hs9; (refine a_I rfl<|q0c<|tn<|q0s ?_); refine q1i rfl rfl (Res.cellA inferInstance rfl (B9.range (o := 0) (fun j u h => by rw [Nat.zero_add]; exact h)) rfl (Res.tmp rfl .nil)) ?_; exact ⟨u, rfl, hu, E28.then hg9 fun q h => by cases h; omega⟩
set_option maxRecDepth 100000 in
set_option maxHeartbeats 2000000 in
theorem gcheckB (lo hi : Nat) (v : Value) (w : World) (hw : Wd w) (hF : q6e w lo hi v [[]]) :
    Calls Tryz.prog 82 #[.agg (qC 4 3 0 v).toArray, .int .i64 0] w fun e w' => e = .returned (.tuple #[.agg #[.slice none 0 0], .int .i64 140]) ∧ Ext w w' := by
  refine q0k Tryz.func82 rfl Tryz.ntmps82 rfl ?_; have hv := hF.cell; (refine q0b<|q0a ?_); refine q3k (l := qC 4 3 0 v) rfl ?_; intro g2 w2 B2 hg2 E2 hs2; refine q0x ?_; intro g4 w4 B4 hg4 E4 hs4; have B2 := B2.ext E4; have E24 := E2.trans E4; (refine a_I rfl<|q0c<|tn<|q0b<|q0b<|q0a<|Ls (q2m rfl B2 rfl) ?_); refine L_fn (gvalid ⟨4, 3, 0, [[]]⟩ v lo hi w4 (hF.ext E24) (by decide)) rfl ?_; rintro e w5 ⟨rfl, E5⟩; refine ⟨_, rfl, ?_⟩; rw [show decide (Qy.OkI ⟨4, 3, 0, [[]]⟩) = true from by decide]; have B2 := B2.ext E5; have B4 := B4.ext E5; have E25 := E24.trans E5; (refine Ls (q1x rfl)<|m_B rfl<|Lg2 rfl rfl rfl (q0e (v := .int _ _) rfl)<|Lg2 rfl rfl rfl (q3f rfl rfl (by omega))<|Ls (q0r (v := .bool _) rfl rfl)<|m_B rfl<|Lg2 rfl rfl rfl (q0e (v := .int _ _) rfl)<|Lg2 rfl rfl rfl (q7b rfl rfl (by omega))<|Ls (q0r (v := .bool _) rfl rfl)<|q0c<|tn<|q0o rfl<|q0n<|tn<|q0b ?_); apply q1q 5 (by kernel_rfl); ((with_reducible apply q8l (F := z0a w5)); (exact fun _ => rfl); (exact fun _ => rfl); (exact fun r w hA hH => (gkinds w).mono fun e w' ⟨q, h1, h2, b, M, g, h3, _, h5, h6, _, h7, h8⟩ => ⟨q, h1, h2, b, M, g, h3, h5, h6, h7, h8⟩); (exact fun i u w w' hi ht hR h => h.ext hR)); (apply DW_x (fun r w hA hH => (q0g rfl).trans rfl); apply DW_x (fun r w hA hH => (X_ld rfl (B2.ext hA) rfl).trans rfl)); with_reducible apply DW_d (F := fun _ u w' => z0d 4 w5 u w')
  exact fun r w hA hH => (by
    obtain ⟨b, M, g, h1, h2, h3, h4, h5⟩ : z0a w5 (r 0) w := hH 0 rfl
    exact ⟨_, _, X_look1 (e := 213) kind_ok h1 rfl h2 (by decide) (by rw [h5]), Ext.refl w, by unfold z0d; rw [if_neg (by decide)]; rfl⟩)
  exact fun i r u w w' _ _ hR h => (by
    unfold z0d at h ⊢
    rw [if_neg (by decide)] at h ⊢
    exact h)
  exact fun _ _ => rfl; apply q9c (w0 := w5) (fun w hA => hA.size); ((with_reducible exact q1y); (exact rfl); (repeat (first | exact .inr (.inr (fun _ _ => by with_reducible rfl)) | (refine And.intro ?_ ?_) | exact .inr (.inl rfl) | exact .inl (by decide +kernel) | exact trivial | exact .inr (.inr (fun _ _ => rfl)))); (try dsimp only [Nat.reduceAdd])); intro r w6 E6 H6; have h3 : z0d 4 w5 (r 3) w6 := H6 3; obtain ⟨g6, e6, hg6, B6⟩ : NewF w5 213 _ (r 4) w6 := H6 4; generalize r 3 = u3 at *; generalize r 4 = u4 at *; subst e6; unfold z0d at h3; rw [if_neg (by decide)] at h3; subst h3; have B2 := B2.ext E6; have B4 := B4.ext E6; have E26 := E25.trans E6; have h2s := E2.size; have h4s := E4.size; have h5s := E5.size; have g4l := q2b B4; refine q0l (l := [.int .i64 16, .bool true, .func (.func 182) #[] #[]]) rfl rfl rfl ?_ B6 rfl ?_
  · intro v hv; simp at hv; rcases hv with rfl | rfl | rfl <;> rfl
  intro w7 B7 hg7 hs7; have B2 := B2.grown hg7 (by intro h; cases h; omega); have B4 := B4.grown hg7 (by intro h; cases h; omega); have E27 := E26.then hg7 fun q h => by cases h; omega
  (refine q0c<|tn<|q0b<|q0b<|q0a<|Ls (q0g rfl)<|Ls (X_ld rfl B7 rfl)<|m_B rfl<|Lg2 rfl rfl rfl (q0g rfl)<|Lg2 rfl rfl rfl (X_ld rfl B2 rfl) ?_); refine q1u rfl rfl rfl ?_; refine L_fn (gbits 3 (by decide) w7 (hw.ext E27)) rfl ?_; rintro e w8 ⟨rfl, E8⟩; refine ⟨_, rfl, ?_⟩; have B4 := B4.ext E8; have E28 := E27.trans E8; have hwid : ((wid 3 : Nat) : Int) = 8 := rfl; rw [hwid]; (refine Lg2 rfl rfl rfl (z0w rfl rfl (by omega))<|Ls (q0m (v := .bool _) rfl rfl)<|q0c<|tn<|q0t rfl<|q0b<|q0a ?_); refine Ls (q1p (r := []) (Parts.nil _)) ?_; refine q0l (l := [.slice none 0 0]) rfl rfl rfl (fun v hv => by rw [List.mem_singleton.1 hv]; rfl) B4 rfl ?_; intro w9 B9 hg9 hs9; (refine a_I rfl<|q0c<|tn<|q0s<|tr ?_); refine q1i rfl rfl (Res.cellA inferInstance rfl (B9.range (o := 0) (fun j u h => by rw [Nat.zero_add]; exact h)) rfl (Res.tmp rfl .nil)) ?_; exact ⟨rfl, E28.then hg9 fun q h => by cases h; omega⟩
abbrev strZ : List Value := [.slice none 0 0, .slice none 0 0]
abbrev zdat : List Value := [[.slice none 0 0], [.slice none 0 0], ([.int .i64 0] ++ [.int .i64 0] ++ [.int .i64 0] ++ [.int .i64 0]), (List.replicate 32 [.int .u8 0]).flatten].flatten
theorem q5j : ∀ v ∈ zdat, v.oneCell' = true := by
  have h : (zdat.all fun v => v.oneCell') = true := by decide
  exact List.all_eq_true.1 h
set_option maxRecDepth 100000 in
set_option maxHeartbeats 1000000 in
theorem gload1 (cs : List Value) (lg : Int) (h : lg < 0 ∨ 11 < lg) (w : World) : Calls Tryz.prog 28 #[.agg cs.toArray, .int .i64 lg] w fun e w' => e = .returned (.tuple #[.agg zdat.toArray, .int .i64 1]) ∧ Ext w w' := by
  refine q0k Tryz.func28 rfl Tryz.ntmps28 rfl ?_; (refine q0b<|q0a ?_); refine q3k (l := cs) rfl ?_; intro g2 w2 B2 hg2 E2 hs2; refine q0x ?_; intro g4 w4 B4 hg4 E4 hs4; rcases h with h | h
  · (refine a_I rfl<|q0c<|tn<|q0b<|q0b<|q0a<|m_I rfl<|Ls (q3j rfl rfl (by omega))<|m_B rfl<|Lo2 rfl rfl rfl rfl<|Lo2 rfl rfl rfl rfl<|Ls (q0m (v := .bool _) rfl rfl)<|q0c<|tn<|q0t rfl<|q0b<|q0a ?_); refine Ls (q1p (r := []) (Parts.nil _)) ?_; refine q0l (l := zdat) rfl rfl rfl q5j B4 rfl ?_; intro w5 B5 hg5 hs5; (refine a_I rfl<|q0c<|tn<|q0s<|tr ?_); refine q1i rfl rfl (Res.cellA inferInstance rfl (B5.range (o := 0) (fun j u h => by rw [Nat.zero_add]; exact h)) rfl (Res.tmp rfl .nil)) ?_; exact ⟨rfl, (E2.trans E4).then hg5 fun q h => by cases h; omega⟩
  · (refine a_I rfl<|q0c<|tn<|q0b<|q0b<|q0a<|m_I rfl<|Ls (q3f rfl rfl (by omega))<|m_B rfl<|Lg2 rfl rfl rfl (q0e (v := .int _ _) rfl)<|Lg2 rfl rfl rfl (z0w rfl rfl (by omega))<|Ls (q0r (v := .bool _) rfl rfl)<|q0c<|tn<|q0t rfl<|q0b<|q0a ?_); refine Ls (q1p (r := []) (Parts.nil _)) ?_; refine q0l (l := zdat) rfl rfl rfl q5j B4 rfl ?_; intro w5 B5 hg5 hs5; (refine a_I rfl<|q0c<|tn<|q0s<|tr ?_); refine q1i rfl rfl (Res.cellA inferInstance rfl (B5.range (o := 0) (fun j u h => by rw [Nat.zero_add]; exact h)) rfl (Res.tmp rfl .nil)) ?_; exact ⟨rfl, (E2.trans E4).then hg5 fun q h => by cases h; omega⟩
set_option maxRecDepth 100000 in
set_option maxHeartbeats 1000000 in
theorem gcommit1 (w : World) : Calls Tryz.prog 12 #[.agg strZ.toArray, .int .i64 12] w fun e w' => ∃ y : List Value, y.length = 32 ∧ (∀ v ∈ y, v.oneCell' = true) ∧ e = .returned (.tuple #[.agg y.toArray, .int .i64 1]) ∧ Ext w w' := by
  refine q0k Tryz.func12 rfl Tryz.ntmps12 rfl ?_; (refine q0b<|q0a ?_); refine q3k (l := strZ) rfl ?_; intro g2 w2 B2 hg2 E2 hs2; refine q0x ?_; intro g4 w4 B4 hg4 E4 hs4; have B2 := B2.ext E4; have E24 := E2.trans E4; (refine a_I rfl<|q0c<|tn<|q0b<|q0a<|Ls (q2m rfl B2 rfl)<|m_I rfl ?_); refine L_fn (gload1 strZ 12 (.inr (by decide)) w4) rfl ?_; rintro e w5 ⟨rfl, E5⟩; refine ⟨_, rfl, ?_⟩; (refine m_T rfl<|Ls (q0y rfl rfl)<|Ls (q0y rfl rfl) ?_); refine q0x ?_; intro g6 w6 B6 hg6 E6 hs6; refine q0l (l := zdat) rfl rfl rfl q5j B6 rfl ?_; intro w7 B7 hg7 hs7; have h2s := E2.size; have h4s := E4.size; have h5s := E5.size; have B4 := ((B4.ext E5).ext E6).grown hg7 (by intro h; cases h; omega); (refine a_I rfl<|q0c<|tn<|q0b<|q0a<|Ls (q0g rfl)<|Ls (q3o (l := (zdat.drop 6).take 32) rfl B7 rfl rfl)<|m_I rfl ?_); refine q0l (l := (zdat.drop 6).take 32) rfl rfl rfl (fun v hv => q5j v (List.mem_of_mem_drop (List.mem_of_mem_take hv))) B4 rfl ?_; intro w8 B8 hg8 hs8; (refine a_I rfl<|q0c<|tn<|q0s ?_); refine q1i rfl rfl (Res.cellA inferInstance rfl (B8.range (o := 0) (fun j u h => by rw [Nat.zero_add]; exact h)) rfl (Res.tmp rfl .nil)) ?_; exact ⟨_, rfl, fun v hv => q5j v (List.mem_of_mem_drop (List.mem_of_mem_take hv)), rfl, (((E24.trans E5).trans E6).then hg7 fun q h => by cases h; omega).then hg8 fun q h => by cases h; omega⟩
structure Wx (w : World) : Prop where
  t : Tabs w
  d : Wd w
theorem Wx.ext {w w' : World} (h : Wx w) (E : Ext w w') : Wx w' := ⟨h.t.ext E, h.d.ext E⟩
def PrE (x : Nat) (w : World) (e : Ending) (w' : World) : Prop := e = .returned (.tuple #[.agg zerC.toArray, .int .i64 (x : Nat)]) ∧ Ext w w'
set_option maxRecDepth 100000 in
set_option maxHeartbeats 4000000 in
theorem gproveP (s : ByteArray) (hs : s.size ≤ 100000) (lg : Int) (o x : Nat) (hx : x ≠ 0) (hp : Qy.parse (sb s) = (Qy.q0, o, x)) (w : World) (hw : Wx w) : Calls Tryz.prog 50 #[.string s, .agg strZ.toArray, .int .i64 lg] w (PrE x w) := by
  refine q0k Tryz.func50 rfl Tryz.ntmps50 rfl ?_; (refine q0b<|q0a ?_); refine q3k (l := strZ) rfl ?_; intro g4 w4 B4 hg4 E4 hs4; refine q0x ?_; intro g6 w6 B6 hg6 E6 hs6; have B4 := B4.ext E6; have E06 := E4.trans E6; (refine a_I rfl<|q0c<|tn<|q0b<|q0a<|m_R rfl ?_); refine L_fn (gparse s hs w6 (hw.ext E06).t) rfl ?_; rintro e w7 ⟨v, rfl, E7, F7⟩; refine ⟨_, rfl, ?_⟩; rw [hp] at F7 ⊢; have hv := F7.cell; have h4s := E4.size; have h6s := E6.size; have h7s := E7.size; dsimp only [parV]; (refine m_T rfl<|Ls (q0y rfl rfl)<|Ls (q0y rfl rfl)<|Ls (q0y rfl rfl) ?_); refine q0x ?_; intro g8 w8 B8 hg8 E8 hs8; refine q0l (size := 4) (l := qry Qy.q0 v) rfl rfl rfl (q4l hv) B8 rfl ?_; intro w9 B9 hg9 hs9; have E09 := ((E06.trans E7).trans E8).then hg9 fun q h => by cases h; omega
  have B6 := ((B6.ext E7).ext E8).grown hg9 (by intro h; cases h; omega); have B4 := ((B4.ext E7).ext E8).grown hg9 (by intro h; cases h; omega); (refine a_I rfl<|a_I rfl<|q0c<|tn<|q0b<|q0b<|q0a<|m_I rfl<|Ls (q3i rfl rfl (by omega))<|q0c<|tn<|q0t rfl<|q0b<|q0a ?_); refine Ls (q1p (r := []) (Parts.nil _)) ?_; (refine m_I rfl ?_); refine q0l (l := zerC) rfl rfl rfl (q2e.one (N := fun _ => True) (w := w) q3e) B6 rfl ?_; intro w20 B20 hg20 hs20; (refine a_I rfl<|q0c<|tn<|q0s<|tr ?_); refine q1i rfl rfl (Res.cellA inferInstance rfl (B20.range (o := 0) (fun j u h => by rw [Nat.zero_add]; exact h)) rfl (Res.tmp rfl .nil)) ?_; exact ⟨rfl, E09.then hg20 fun q h => by cases h; omega⟩
set_option maxRecDepth 100000 in
set_option maxHeartbeats 4000000 in
theorem gproveA (s : ByteArray) (hs : s.size ≤ 100000) (lg : Int) (hl : lg < 0 ∨ 11 < lg) (hp : Qy.parse (sb s) = (⟨1, 0, 0, [[]]⟩, 0, 0)) (w : World) (hw : Wx w) : Calls Tryz.prog 50 #[.string s, .agg strZ.toArray, .int .i64 lg] w (PrE 1 w) := by
  refine q0k Tryz.func50 rfl Tryz.ntmps50 rfl ?_; (refine q0b<|q0a ?_); refine q3k (l := strZ) rfl ?_; intro g4 w4 B4 hg4 E4 hs4; refine q0x ?_; intro g6 w6 B6 hg6 E6 hs6; have B4 := B4.ext E6; have E06 := E4.trans E6; (refine a_I rfl<|q0c<|tn<|q0b<|q0a<|m_R rfl ?_); refine L_fn (gparse s hs w6 (hw.ext E06).t) rfl ?_; rintro e w7 ⟨v, rfl, E7, F7⟩; refine ⟨_, rfl, ?_⟩; rw [hp] at F7 ⊢; have hv := F7.cell; have h4s := E4.size; have h6s := E6.size; have h7s := E7.size; dsimp only [parV]; (refine m_T rfl<|Ls (q0y rfl rfl)<|Ls (q0y rfl rfl)<|Ls (q0y rfl rfl) ?_); refine q0x ?_; intro g8 w8 B8 hg8 E8 hs8; refine q0l (size := 4) (l := qry ⟨1, 0, 0, [[]]⟩ v) rfl rfl rfl (q4l hv) B8 rfl ?_; intro w9 B9 hg9 hs9; have E09 := ((E06.trans E7).trans E8).then hg9 fun q h => by cases h; omega
  have B6 := ((B6.ext E7).ext E8).grown hg9 (by intro h; cases h; omega); have B4 := ((B4.ext E7).ext E8).grown hg9 (by intro h; cases h; omega); have F9 := (F7.ext E8).grown hg9 fun g h => by cases h; omega
  (refine a_I rfl<|a_I rfl<|q0c<|tn<|q0b<|q0b<|q0a<|m_I rfl<|Ls (q2t rfl rfl (by omega))<|q0c<|tn<|q0o rfl<|q0n<|tn<|q0b<|q0b<|q0a<|Ls (q2m rfl B9 rfl)<|Ls (q0g rfl)<|Ls (X_ld rfl B4 rfl)<|Ls (q0h rfl) ?_); refine L_fn (gcheckA w6.heap.size w7.heap.size v w9 (hw.ext E09).d F9) rfl ?_; rintro e w10 ⟨u, rfl, hu, E10⟩; refine ⟨_, rfl, ?_⟩; (refine m_T rfl<|Ls (q0y rfl rfl)<|Ls (q0y rfl rfl) ?_); refine q0x ?_; intro g11 w11 B11 hg11 E11 hs11; refine q0l (l := [u]) rfl rfl rfl (fun v hv => by rw [List.mem_singleton.1 hv]; exact hu) B11 rfl ?_; intro w12 B12 hg12 hs12; have h9s := hg9.size; have h10s := E10.size; have B6 := ((B6.ext E10).ext E11).grown hg12 (by intro h; cases h; omega); have B4 := ((B4.ext E10).ext E11).grown hg12 (by intro h; cases h; omega); have E012 := ((E09.trans E10).trans E11).then hg12 fun q h => by cases h; omega
  (refine a_I rfl<|q0c<|tn<|q0b<|q0a<|m_I rfl<|Ls (q2t rfl rfl (by omega))<|q0c<|tn<|q0o rfl<|q0n<|tn<|q0b<|q0a<|Ls (q2m rfl B4 rfl)<|m_I rfl ?_); refine L_fn (gload1 strZ lg hl w12) rfl ?_; rintro e w13 ⟨rfl, E13⟩; refine ⟨_, rfl, ?_⟩; (refine m_T rfl<|Ls (q0y rfl rfl)<|Ls (q0y rfl rfl) ?_); refine q0x ?_; intro g14 w14 B14 hg14 E14 hs14; refine q0l (l := zdat) rfl rfl rfl q5j B14 rfl ?_; intro w15 B15 hg15 hs15; have h12s := hg12.size; have h13s := E13.size; have B6 := ((B6.ext E13).ext E14).grown hg15 (by intro h; cases h; omega); have E015 := ((E012.trans E13).trans E14).then hg15 fun q h => by cases h; omega
  (refine a_I rfl<|q0c<|tn<|q0b<|q0b<|q0a<|m_I rfl<|Ls (q3i rfl rfl (by omega))<|q0c<|tn<|q0t rfl<|q0b<|q0a ?_); refine Ls (q1p (r := []) (Parts.nil _)) ?_; (refine m_I rfl ?_); refine q0l (l := zerC) rfl rfl rfl (q2e.one (N := fun _ => True) (w := w) q3e) B6 rfl ?_; intro w20 B20 hg20 hs20; (refine a_I rfl<|q0c<|tn<|q0s<|tr ?_); refine q1i rfl rfl (Res.cellA inferInstance rfl (B20.range (o := 0) (fun j u h => by rw [Nat.zero_add]; exact h)) rfl (Res.tmp rfl .nil)) ?_; exact ⟨rfl, E015.then hg20 fun q h => by cases h; omega⟩
set_option maxRecDepth 100000 in
set_option maxHeartbeats 4000000 in
theorem gproveB (s : ByteArray) (hs : s.size ≤ 100000) (lg : Int) (hp : Qy.parse (sb s) = (⟨4, 3, 0, [[]]⟩, 0, 0)) (w : World) (hw : Wx w) : Calls Tryz.prog 50 #[.string s, .agg strZ.toArray, .int .i64 lg] w (PrE 140 w) := by
  refine q0k Tryz.func50 rfl Tryz.ntmps50 rfl ?_; (refine q0b<|q0a ?_); refine q3k (l := strZ) rfl ?_; intro g4 w4 B4 hg4 E4 hs4; refine q0x ?_; intro g6 w6 B6 hg6 E6 hs6; have B4 := B4.ext E6; have E06 := E4.trans E6; (refine a_I rfl<|q0c<|tn<|q0b<|q0a<|m_R rfl ?_); refine L_fn (gparse s hs w6 (hw.ext E06).t) rfl ?_; rintro e w7 ⟨v, rfl, E7, F7⟩; refine ⟨_, rfl, ?_⟩; rw [hp] at F7 ⊢; have hv := F7.cell; have h4s := E4.size; have h6s := E6.size; have h7s := E7.size; dsimp only [parV]; (refine m_T rfl<|Ls (q0y rfl rfl)<|Ls (q0y rfl rfl)<|Ls (q0y rfl rfl) ?_); refine q0x ?_; intro g8 w8 B8 hg8 E8 hs8; refine q0l (size := 4) (l := qry ⟨4, 3, 0, [[]]⟩ v) rfl rfl rfl (q4l hv) B8 rfl ?_; intro w9 B9 hg9 hs9; have E09 := ((E06.trans E7).trans E8).then hg9 fun q h => by cases h; omega
  have B6 := ((B6.ext E7).ext E8).grown hg9 (by intro h; cases h; omega); have B4 := ((B4.ext E7).ext E8).grown hg9 (by intro h; cases h; omega); have F9 := (F7.ext E8).grown hg9 fun g h => by cases h; omega
  (refine a_I rfl<|a_I rfl<|q0c<|tn<|q0b<|q0b<|q0a<|m_I rfl<|Ls (q2t rfl rfl (by omega))<|q0c<|tn<|q0o rfl<|q0n<|tn<|q0b<|q0b<|q0a<|Ls (q2m rfl B9 rfl)<|Ls (q0g rfl)<|Ls (X_ld rfl B4 rfl)<|Ls (q0h rfl) ?_); refine L_fn (gcheckB w6.heap.size w7.heap.size v w9 (hw.ext E09).d F9) rfl ?_; rintro e w10 ⟨rfl, E10⟩; refine ⟨_, rfl, ?_⟩; (refine m_T rfl<|Ls (q0y rfl rfl)<|Ls (q0y rfl rfl) ?_); refine q0x ?_; intro g11 w11 B11 hg11 E11 hs11; refine q0l (l := [.slice none 0 0]) rfl rfl rfl (fun v hv => by rw [List.mem_singleton.1 hv]; rfl) B11 rfl ?_; intro w12 B12 hg12 hs12; have h9s := hg9.size; have h10s := E10.size; have B6 := ((B6.ext E10).ext E11).grown hg12 (by intro h; cases h; omega); have E012 := ((E09.trans E10).trans E11).then hg12 fun q h => by cases h; omega
  (refine a_I rfl<|q0c<|tn<|q0b<|q0a<|m_I rfl<|Ls (q3i rfl rfl (by omega))<|q0c<|tn<|q0t rfl<|q0b<|q0a ?_); refine Ls (q1p (r := []) (Parts.nil _)) ?_; (refine m_I rfl ?_); refine q0l (l := zerC) rfl rfl rfl (q2e.one (N := fun _ => True) (w := w) q3e) B6 rfl ?_; intro w20 B20 hg20 hs20; (refine a_I rfl<|q0c<|tn<|q0s<|tr ?_); refine q1i rfl rfl (Res.cellA inferInstance rfl (B20.range (o := 0) (fun j u h => by rw [Nat.zero_add]; exact h)) rfl (Res.tmp rfl .nil)) ?_; exact ⟨rfl, E012.then hg20 fun q h => by cases h; omega⟩
end Go.Proofs.YtlggfbglpcegoaaGreatDoor
namespace Go.Proofs.YtlggfbglpcegoaaGreatDoor
open Go.RowKit Go.Proofs.K Go.ChangeShapes Go.WideShapes Go.ChangeAt
theorem own : ownKnob Tryz.prog.godebug = none := by kernel_rfl
theorem laidOut : laidOutB Tryz.prog = true := by kernel_rfl
theorem gPw : Tryz.prog.globalNamed "internal/strconv.uint64pow10" = some 6 := by kernel_rfl
theorem gPt : (Tryz.prog.globals[6]?).map (·.type) = some 532 := by kernel_rfl
theorem cP : Tryz.prog.cellsOf 532 = 20 := by kernel_rfl
theorem c64 : Tryz.prog.cellsOf 32 = 1 := by kernel_rfl
theorem gEr : Tryz.prog.globalNamed "strconv.ErrRange" = some 8 := by kernel_rfl
theorem gEt : (Tryz.prog.globals[8]?).map (·.type) = some 360 := by kernel_rfl
theorem gWd : Tryz.prog.globalNamed "attestor/typecheck.widths" = some 2 := by kernel_rfl
theorem gWt : (Tryz.prog.globals[2]?).map (·.type) = some 313 := by kernel_rfl
def laids : List (String × DataW Unit) := [("math/bits.deBruijn32tab", Rows.laid_math_bits_deBruijn32tab), ("math/bits.deBruijn64tab", Rows.laid_math_bits_deBruijn64tab), ("internal/strconv.uint64pow10", Rows.laid_internal_strconv_uint64pow10), ("strconv.ErrRange", Rows.laid_strconv_ErrRange), ("strconv.ErrSyntax", Rows.laid_strconv_ErrSyntax), ("attestor/mle.one", Rows.laid_attestor_mle_one), ("attestor/sha256.constants", Rows.laid_attestor_sha256_constants), ("attestor/sha256.initial", Rows.laid_attestor_sha256_initial), ("attestor/commit.mixed", Rows.laid_attestor_commit_mixed), ("attestor/typecheck.widths", Rows.laid_attestor_typecheck_widths)]
theorem pow_laid : (Rows.laid_internal_strconv_uint64pow10 : DataW Unit) = Go.Lib.tabData .u64 Go.Lib.pow10Tab := by kernel_rfl
theorem iface_cell {H : Type} {enc : TypeId × Value → H} {P : Program} {W : World} {b : Nat} {sp : Nat → Bool} {fuel : Nat} {t : TypeId} {cs : List Value} {name : String} {d : DataW H} {p : List MemPlace} (hu : ∃ ms, P.underlying t = some (.interface ms))
    (h : DataW.trod enc P W b sp false fuel t cs = some (.iface name d, p)) : ∃ te pe, cs = [.iface te pe] := by
  obtain ⟨ms, hu⟩ := hu; cases fuel with
  | zero => simp [DataW.trod] at h
  | succ n =>
    unfold DataW.trod at h; rw [hu] at h; split at h <;> first | exact ⟨_, _, rfl⟩ | simp_all
theorem wid_at {H : Type} (a : Nat) (ha : a < 4) (z : DataW H) : (Rows.laid_attestor_typecheck_widths : DataW H).atKey (.int .i64 (a : Nat)) z = .lit (.int .i64 (wid a : Nat)) := by
  match a, ha with
  | 0, _ => rfl
  | 1, _ => rfl
  | 2, _ => rfl
  | 3, _ => rfl
theorem key_wf (a : Nat) (ha : a < 4) : (Lit.int .i64 (a : Nat)).wf = true := by
  match a, ha with
  | 0, _ => rfl
  | 1, _ => rfl
  | 2, _ => rfl
  | 3, _ => rfl
set_option maxRecDepth 100000 in
theorem tabs {W : World} (h : laidMetH Tryz.prog laids W) : Wx W := by
  have h0 : laidMet Tryz.prog (laids.filter fun x => x.2.handleName?.isNone) W := (show laidMet Tryz.prog _ W ∧ handlesMet Tryz.prog _ W from h).1; obtain ⟨ps, ⟨_, _, _, _, _, _, _, _, _, _, ⟨_, _, _, _, _, _, _, _, _, _, ⟨g3, t3, cs3, f3, p3, q3, hg3, ht3, hv3, hd3, ⟨g4, t4, cs4, f4, p4, q4, hg4, ht4, hv4, hd4, ⟨_, _, _, _, _, _, _, _, _, _, ⟨_, _, _, _, _, _, _, _, _, _, ⟨_, _, _, _, _, _, _, _, _, _, ⟨_, _, _, _, _, _, _, _, _, _, ⟨g9, t9, cs9, f9, p9, q9, hg9, ht9, hv9, hd9, _, _⟩, _⟩, _⟩, _⟩, _⟩, _⟩, _⟩, _⟩, _⟩, _⟩ := h0; refine ⟨⟨?_, ?_⟩, ⟨?_⟩⟩
  · obtain rfl := Option.some.inj (gPw.symm.trans hg3); obtain rfl := Option.some.inj (gPt.symm.trans ht3); rw [pow_laid] at hd3; unfold Go.Lib.TabIs; rw [hv3, ← Go.Lib.cells_of_tab Tryz.underlying532 Tryz.underlying32 c64 cP hd3]
  · obtain rfl := Option.some.inj (gEr.symm.trans hg4); obtain rfl := Option.some.inj (gEt.symm.trans ht4); obtain ⟨te, pe, e⟩ := iface_cell ⟨_, Tryz.underlying360⟩ hd4; have h0 := World.var?_cell gEr hv4 0; refine ⟨te, pe, h0.trans ?_⟩; rw [← Array.getElem?_toList, e]; rfl
  · obtain rfl := Option.some.inj (gWd.symm.trans hg9); obtain rfl := Option.some.inj (gWt.symm.trans ht9); rcases Go.WideElems.open_map Tryz.underlying313 hd9 with ⟨_, hx⟩ | ⟨b, es, clk, n, _, hcs, hb, _, F, hx⟩
    · have := congrArg Prod.fst hx; cases this
    · have h0 := World.var?_cell gWd hv9 0; rw [← Array.getElem?_toList, hcs] at h0; refine ⟨b, es, clk, h0, hb, fun a ha w' hb' => ?_⟩; have hz : (zeroValue 3).run Tryz.prog w' = .ok (.int .i64 0) w' := (by kernel_rfl); have hat := wid_at (H := Unit) a ha; rw [show (Rows.laid_attestor_typecheck_widths : DataW Unit) = _ from congrArg Prod.fst hx] at hat; rcases Go.Maps.fit_look false (Go.Maps.int_keyed Tryz.underlying3) Tryz.underlying313 hz hb' F (Go.Maps.keyOf_int_mk Tryz.underlying3 (key_wf a ha)) with ⟨_, _, h2⟩ | ⟨e0, y, _, _, hr, hy, hk, _⟩
      · have := (h2 .nil).symm.trans (hat .nil); cases this
      · have hy1 := (hk .nil).symm.trans (hat .nil); have hr : (Instr.lookup 313 (.map (some b)) (.int .i64 (a : Nat)) false).run Tryz.prog w' = .ok e0.val w' := hr; rw [hr]; unfold Go.WideElems.elemAt at hy; split at hy
        · rename_i hfm; obtain ⟨m, hc, he, _⟩ := DataW.trod_int Tryz.underlying3 hy; have he : y.1 = .lit (.int .i64 m) := congrArg Prod.fst he; rw [he] at hy1; have hm : m = (wid a : Nat) := (by injection hy1 with hy1; injection hy1); have hv : e0.val = .int .i64 m := by
            cases hev : e0.val with
            | agg l => rw [hev] at hc hfm; simp [Value.formed, Tryz.underlying3] at hfm
            | _ => rw [hev] at hc; first | (simp [Value.cells] at hc; done) | simpa [Value.cells] using hc
          rw [hv, hm]
        · cases hy
noncomputable def q9j (os : Os) : World := World.doorLaid Tryz.prog 400 os
end Go.Proofs.YtlggfbglpcegoaaGreatDoor
namespace Go.Proofs.YtlggfbglpcegoaaGreatDoor
open Go.RowKit Go.Proofs.K
set_option maxRecDepth 100000 in
set_option maxHeartbeats 1000000 in
theorem s7same {N M : Nat → Prop} {u v : Value} {xs ys : List Nat} {w : World} (hu : slR 1 (numR .u8) N w [u] xs) (hv : slR 1 (numR .u8) M w [v] ys) :
    Calls Tryz.prog 15 #[u, v] w (q5c (xs = ys) w) := by
  obtain ⟨A1, c1, e, hm1, hm2⟩ := q1h hu; have hm : xs.length ≤ 9223372036854775807 := by unfold maxLen at hm2; omega
  obtain rfl : u = .slice A1 xs.length c1 := by simpa using e
  obtain ⟨A2, c2, e, _, _⟩ := q1h hv; obtain rfl : v = .slice A2 ys.length c2 := by simpa using e
  refine q0k Tryz.func15 rfl Tryz.ntmps15 rfl ?_; by_cases hl : xs.length = ys.length
  · (refine q0b<|q0a<|a_B rfl<|q0c<|tn<|q0b<|q0b<|q0a<|m_S rfl<|Ls (q0h rfl)<|m_S rfl<|Ls (q0h rfl)<|Ls (q2t rfl rfl (by omega))<|q0c<|tn<|q0o rfl<|q0n<|tn<|q0b<|q0b<|q0a<|a_I rfl<|q0c<|tn<|q0j ?_); refine q1k (fun q f w' => ∃ i, q = xs.length - i ∧ i ≤ xs.length ∧ f 0 = .slice A1 xs.length c1 ∧ f 1 = .slice A2 ys.length c2 ∧ f 5 = .int .i64 (i : Nat) ∧ Ext w w' ∧ xs.take i = ys.take i) xs.length ?_ ?_
    · exact ⟨0, rfl, by omega, rfl, rfl, rfl, Ext.refl _, rfl⟩
    · rintro q f wr ⟨i, rfl, hi, f0, f1, f5, E, ht⟩; rw [fold f0, fold f1, fold f5]; (refine q0b<|q0b<|q0a<|m_I rfl<|m_S rfl<|Ls (q0h rfl)<|Ls (q2f rfl rfl)<|q0c<|tn ?_); refine q1b rfl (fun h => ?_) (fun h => ?_)
      · have hi1 : i < xs.length := (by omega); obtain ⟨a, ha⟩ : ∃ a, xs[i]? = some a := ⟨_, List.getElem?_eq_getElem hi1⟩; obtain ⟨b, hb⟩ : ∃ b, ys[i]? = some b := ⟨_, List.getElem?_eq_getElem (by omega)⟩; obtain ⟨b1, o1, k1, y1, e1, _, _, hy1, hR1, hx1⟩ := q2o ((q0z (by decide) (q1o _)).ext hu E) ha; obtain ⟨b2, o2, k2, y2, e2, _, _, hy2, hR2, hx2⟩ := q2o ((q0z (by decide) (q1o _)).ext hv E) hb; cases e1
        cases e2
        obtain rfl : y1 = [_] := hx1; obtain rfl : y2 = [_] := hx2; (refine q0n<|tn<|q0b<|q0j<|q0b ?_); apply q1q 8 (by kernel_rfl); (apply DW_x (fun r w hA hH => (q0e (v := .slice _ _ _) rfl).trans rfl); apply DW_x (fun r w hA hH => (q0e (v := .int _ _) rfl).trans rfl); apply DW_x (fun r w hA hH => (q0p rfl rfl (by omega)).trans rfl)); ((with_reducible apply DW_x); (exact fun r w hA hH => (q2g rfl (hA.range hR1) (j := 0) rfl rfl).trans rfl)); (apply DW_x (fun r w hA hH => (q0e (v := .slice _ _ _) rfl).trans rfl); apply DW_x (fun r w hA hH => (q0e (v := .int _ _) rfl).trans rfl); apply DW_x (fun r w hA hH => (q0p rfl rfl (by omega)).trans rfl)); ((with_reducible apply DW_x); (exact fun r w hA hH => (q2g rfl (hA.range hR2) (j := 0) rfl rfl).trans rfl)); ((with_reducible exact q1y); (exact rfl); (repeat (first | exact .inr (.inr (fun _ _ => by with_reducible rfl)) | (refine And.intro ?_ ?_) | exact .inr (.inl rfl) | exact .inl (by decide +kernel) | exact trivial | exact .inr (.inr (fun _ _ => rfl)))); (try dsimp only [Nat.reduceAdd])); intro r w4 E4 _; by_cases hab : a = b
        · subst hab; (refine Ls (q2t rfl rfl (by omega))<|q0c<|tn<|q0o rfl<|q0n<|bn<|tn<|q0a<|m_I rfl<|Ls (q1j rfl rfl (by omega))<|a_I rfl<|q0c<|tn ?_); exact ⟨xs.length - (i + 1), by omega, i + 1, rfl, by omega, rfl, rfl, rfl, E.trans E4, q3q ht ha hb⟩
        · (refine Ls (q3i rfl rfl (by omega))<|q0c<|tn<|q0t rfl<|q0b<|q0a<|a_B rfl<|q0c<|tn<|q0s<|br<|tr<|tr<|br<|tr ?_); exact q0f rfl rfl (v := .bool false) rfl ⟨false, rfl, ⟨(fun h => by cases h), fun h => absurd (by rw [h, hb] at ha; exact (Option.some.inj ha).symm) hab⟩, E.trans E4⟩
      · obtain rfl : i = xs.length := (by omega); (refine q1g<|te<|te<|bx<|tn<|q0b<|q0a<|a_B rfl<|q0c<|tn<|q0s ?_); rw [List.take_of_length_le (Nat.le_refl _), List.take_of_length_le (by omega)] at ht; exact q0f rfl rfl (v := .bool true) rfl ⟨true, rfl, ⟨fun _ => ht, fun _ => rfl⟩, E⟩
  · (refine q0b<|q0a<|a_B rfl<|q0c<|tn<|q0b<|q0b<|q0a<|m_S rfl<|Ls (q0h rfl)<|m_S rfl<|Ls (q0h rfl)<|Ls (q3i rfl rfl (by omega))<|q0c<|tn<|q0t rfl<|q0b<|q0a<|a_B rfl<|q0c<|tn<|q0s<|tr ?_); exact q0f rfl rfl (v := .bool false) rfl ⟨false, rfl, ⟨(fun h => by cases h), fun h => absurd (congrArg List.length h) hl⟩, Ext.refl _⟩
set_option maxHeartbeats 1000000 in
theorem joinB (lo hi lo' hi' : Nat) (v u : Value) (a b : List Nat) (w : World) (ha : Row w lo hi 1 v a.length (ints .u8 a)) (hb : Row w lo' hi' 1 u b.length (ints .u8 b)) (hl : a.length + b.length ≤ 1000000000) :
    Calls Tryz.prog 14 #[v, u] w fun e w' => ∃ q, e = .returned q ∧ Ext w w' ∧ w'.ownsRow w.heap.size 5 1 q (a.length + b.length) (ints .u8 (a ++ b)) := by
  refine q0k Tryz.func14 rfl Tryz.ntmps14 rfl ?_; (refine q0b<|q0a<|a_S rfl<|q0c<|tn<|q0b<|q0a ?_); refine q8q (size := 1) ?_; intro q1 w1 E1 hs1 o1; (refine Ls (q0e (v := v) rfl) ?_); refine q1s (v := q1) (u := v) rfl rfl o1 (ha.ext E1) q1v (by omega) (by omega) (by omega) ?_; intro q2 w2 o2 g2 b2; have E2 : Ext w w2 := E1.then g2 (fun g h => (o1.lt g h).1); (refine Ls (q0i (v := q2) rfl)<|q0c<|tn<|q0b<|q0a<|Ls (q0e (v := q2) rfl)<|Ls (q0e (v := u) rfl) ?_); refine q1s (v := q2) (u := u) rfl rfl o2 (hb.ext E2) q1v (by omega) (by omega) E2.size ?_; intro q3 w3 o3 g3 b3; have E3 : Ext w w3 := E2.then g3 (fun g h => (o2.lt g h).1); (refine Ls (q0i (v := q3) rfl)<|q0c<|tn<|q0b<|q0a<|Ls (q0e (v := q3) rfl)<|Ls (q0i (v := q3) rfl)<|q0c<|tn<|q0s ?_); refine q0f rfl rfl (v := q3) rfl ?_; refine ⟨q3, rfl, E3, ?_⟩; rw [q4a]; simpa using o3
theorem q6r : CertE Ce.zero where
  root := ⟨rfl, fun b hb => by rw [(List.mem_replicate.1 hb).2]; decide⟩
  log := by decide
  sh := ⟨by decide, by decide, by decide, by decide⟩
  q := fun _ h => by cases h
  rows := fun _ h => by cases h
  ps := fun _ h => by cases h
  pz := fun _ h => by cases h
  batch := fun _ h => by cases h
  v := ⟨by decide, by decide⟩
  orow := fun _ h => by cases h
  ornd := fun _ h => by cases h
  nodes := fun _ h => by cases h
set_option maxRecDepth 100000 in
set_option maxHeartbeats 1000000 in
theorem gfl (s : ByteArray) (lg : Int) (x : Nat) (hp : ∀ w, Wx w → Calls Tryz.prog 50 #[.string s, .agg strZ.toArray, .int .i64 lg] w (PrE x w)) (w : World) (hw : Wx w) :
    Calls Tryz.prog 17 #[.string s, .int .i64 lg, .int .i64 (x : Nat)] w fun e w' => e = .returned (.bool true) ∧ Ext w w' := by
  refine q0k Tryz.func17 rfl Tryz.ntmps17 rfl ?_; (refine q0b<|q0a<|a_B rfl<|q0c<|tn<|q0b<|q0a<|m_R rfl ?_); refine Ls (q1p (r := []) (Parts.nil _)) ?_; (refine m_I rfl ?_); refine L_fn (hp w hw) rfl ?_; rintro e w1 ⟨rfl, E1⟩; refine ⟨_, rfl, ?_⟩; (refine m_T rfl<|Ls (q0y rfl rfl)<|Ls (q0y rfl rfl) ?_); refine q0x ?_; intro g2 w2 B2 hg2 E2 hs2; refine q0l (l := zerC) rfl rfl rfl (q2e.one (N := fun _ => True) (w := w) q3e) B2 rfl ?_; intro w3 B3 hg3 hs3; (refine a_I rfl<|q0c<|tn<|q0b<|q0a<|Ls (q2m rfl B3 rfl) ?_); refine Ls (q1p (r := []) (Parts.nil _)) ?_; refine L_fn (q5c.t (s22same (N := fun _ => True) (M := fun _ => True) (x := zerC) (y := zerC) q3e q3e q6r q6r) rfl) rfl ?_; rintro e w4 ⟨rfl, E4⟩; refine ⟨_, rfl, ?_⟩; have h1s := E1.size; have h2s := E2.size; (refine m_B rfl<|Lg2 rfl rfl rfl (q0e (v := .int _ _) rfl)<|Lg2 rfl rfl rfl (q0e (v := .int _ _) rfl)<|Lg2 rfl rfl rfl (q3v rfl rfl (by omega))<|Ls (q0m (v := .bool _) rfl rfl)<|a_B rfl<|q0c<|tn<|q0s ?_); exact q0f rfl rfl (v := .bool true) rfl ⟨rfl, ((E1.trans E2).then hg3 fun q h => by cases h; omega).trans E4⟩
end Go.Proofs.YtlggfbglpcegoaaGreatDoor
namespace Ce
def okE (e : EE) : Prop := e.1 < pr ∧ e.2 < pr
def okR (r : List EE) : Prop := r.length < 4294967296 ∧ ∀ e ∈ r, okE e
def okRs (l : List (List EE)) : Prop := l.length < 4294967296 ∧ ∀ r ∈ l, okR r
structure okP (p : LP) : Prop where
  r : okRs p.rounds
  l : okE p.left
  t : okE p.right
  n : okR p.line
structure Val (c : Cert) : Prop where
  q : c.q.length < 4294967296 ∧ ∀ b ∈ c.q, b < 256
  log : c.log < 4294967296
  root : c.root.length = 32 ∧ ∀ b ∈ c.root, b < 256
  sR : c.sR < 4294967296
  sC : c.sC < 4294967296
  sB : c.sB < 4294967296
  sT : c.sT < 4294967296
  sums : c.sums.length < 4294967296 ∧ ∀ x ∈ c.sums, x < 18446744073709551616
  rows : okRs c.rows
  ps : c.ps.length < 4294967296 ∧ ∀ p ∈ c.ps, okP p
  pz : c.pz.length < 4294967296 ∧ ∀ p ∈ c.pz, okP p
  batch : okRs c.batch
  v : okE c.v
  orow : okR c.orow
  ornd : okR c.ornd
  cols : c.cols.length < 4294967296 ∧ ∀ r ∈ c.cols, r.length < 4294967296 ∧ ∀ e ∈ r, e < pr
  nodes : c.nodes.length < 4294967296 ∧ ∀ e ∈ c.nodes, e.length = 32 ∧ ∀ b ∈ e, b < 256
theorem okE_c {e : EE} (h : okE e) : extC.ok e := by
  have h1 := h.1; have h2 := h.2; unfold pr at h1 h2; refine ⟨⟨q6j (by show e.1 < 256 ^ 8; omega), q6j (by show e.2 < 256 ^ 8; omega)⟩, ?_⟩; show (decide (e.1 < pr) && decide (e.2 < pr)) = true; rw [decide_eq_true h.1, decide_eq_true h.2]; rfl
theorem okR_c {r : List EE} (h : okR r) : roundC.ok r := ⟨h.1, fun e he => okE_c (h.2 e he)⟩
theorem okRs_c {l : List (List EE)} (h : okRs l) : (lst roundC).ok l := ⟨h.1, fun e he => okR_c (h.2 e he)⟩
theorem okP_c {p : LP} (h : okP p) : lpC.ok p := ⟨⟨okRs_c h.r, okE_c h.l, okE_c h.t, okR_c h.n⟩, rfl⟩
theorem num4 {x : Nat} (h : x < 4294967296) : (numC 4).ok x := q6j h
theorem Val.ok {c : Cert} (h : Val c) : certC.ok c :=
  ⟨⟨⟨h.q.1, fun b hb => q6j (by show b < 256 ^ 1; have := h.q.2 b hb; omega)⟩, num4 h.log, ⟨h.root.1, h.root.2⟩, num4 h.sR, num4 h.sC, num4 h.sB, num4 h.sT, ⟨h.sums.1, fun x hx => q6j (h.sums.2 x hx)⟩, okRs_c h.rows, ⟨h.ps.1, fun p hp => okP_c (h.ps.2 p hp)⟩, ⟨h.pz.1, fun p hp => okP_c (h.pz.2 p hp)⟩, okRs_c h.batch, okE_c h.v, okR_c h.orow, okR_c h.ornd,
    ⟨h.cols.1, fun r hr => ⟨(h.cols.2 r hr).1, fun e he => ⟨q6j (by have := (h.cols.2 r hr).2 e he; unfold pr at this; show e < 256 ^ 8; omega), decide_eq_true ((h.cols.2 r hr).2 e he)⟩⟩⟩, ⟨h.nodes.1, fun e he => ⟨(h.nodes.2 e he).1, (h.nodes.2 e he).2⟩⟩⟩, rfl⟩
end Ce
namespace Go.Proofs.YtlggfbglpcegoaaGreatDoor
open Go.RowKit Go.Proofs.K
theorem okE64 {e : Nat × Nat} (h : Ce.okE e) : E64 e := by
  obtain ⟨h1, h2⟩ := h; unfold Ce.pr at h1 h2; exact ⟨by omega, by omega⟩
theorem okRd {r : List (Nat × Nat)} (h : Ce.okR r) : Rd64 r := ⟨h.1, fun e he => okE64 (h.2 e he)⟩
theorem okLp {p : Ce.LP} (h : Ce.okP p) : Lp64 p := ⟨h.r.1, fun r hr => okRd (h.r.2 r hr), okE64 h.l, okE64 h.t, okRd h.n⟩
theorem val64 {c : Ce.Cert} (h : Ce.Val c) (hl : (Ce.certC.w c).length ≤ 99990000) : Cert64 c where
  root := h.root.1
  log := h.log
  sR := h.sR
  sC := h.sC
  sB := h.sB
  sT := h.sT
  q := h.q.1
  sums := h.sums.1
  rows := ⟨h.rows.1, fun r hr => okRd (h.rows.2 r hr)⟩
  ps := ⟨h.ps.1, fun p hp => okLp (h.ps.2 p hp)⟩
  pz := ⟨h.pz.1, fun p hp => okLp (h.pz.2 p hp)⟩
  batch := ⟨h.batch.1, fun r hr => okRd (h.batch.2 r hr)⟩
  v := okE64 h.v
  orow := okRd h.orow
  ornd := okRd h.ornd
  cols := ⟨h.cols.1, fun r hr => ⟨(h.cols.2 r hr).1, fun e he => by have := (h.cols.2 r hr).2 e he; unfold Ce.pr at this; omega⟩⟩
  nodes := h.nodes.1
  all := hl
theorem DecA.err {l : List Nat} {w w' : World} {e : Ending} {k : Nat} (h : DecA l w e w') (hd : Ce.decode l = .err k) : ∃ y, e = .returned (.tuple #[.agg y.toArray, .int .i64 (k : Nat)]) ∧ Ext w w' ∧ cerR (fun k => w.heap.size ≤ k ∧ k < w'.heap.size) w' y Ce.zero := by
  obtain ⟨E, y, c, x, he, hy, hx, hz⟩ := h; rw [hd] at hx; split at hx
  · cases hx
  · rename_i h0; cases hx
    rw [hz h0] at hy; exact ⟨y, he, E, hy⟩
theorem DecA.ok {l : List Nat} {w w' : World} {e : Ending} {c : Ce.Cert} (h : DecA l w e w') (hd : Ce.decode l = .ok c) : ∃ y, e = .returned (.tuple #[.agg y.toArray, .int .i64 0]) ∧ Ext w w' ∧ cerR (fun k => w.heap.size ≤ k ∧ k < w'.heap.size) w' y c := by
  obtain ⟨E, y, c', x, he, hy, hx, hz⟩ := h; rw [hd] at hx; split at hx
  · rename_i h0; cases hx
    subst h0; exact ⟨y, he, E, hy⟩
  · cases hx
end Go.Proofs.YtlggfbglpcegoaaGreatDoor
namespace Go.Proofs.YtlggfbglpcegoaaGreatDoor
open Go.RowKit Go.Proofs.K
set_option maxRecDepth 100000 in
set_option maxHeartbeats 4000000 in
theorem gencode (N : Nat → Prop) (c : Ce.Cert) (qb : ByteArray) (s1 p1 p2 p3 b1 o1 o2 o3 o4 : Value) (w : World) (hc : Cert64 c) (hw : CerAt N w c qb s1 p1 p2 p3 b1 o1 o2 o3 o4) :
    Calls Tryz.prog 13 #[.agg (cerC c qb s1 p1 p2 p3 b1 o1 o2 o3 o4).toArray] w fun e w' => ∃ q, e = .returned q ∧ Ext w w' ∧ w'.ownsRow w.heap.size 5 1 q (Ce.certC.w c).length (ints .u8 (Ce.certC.w c)) := by
  refine q0k Tryz.func13 rfl Tryz.ntmps13 rfl ?_; have hw := hw.tight; obtain ⟨C, hC⟩ : ∃ C, C = cerC c qb s1 p1 p2 p3 b1 o1 o2 o3 o4 := ⟨_, rfl⟩; have C0 : C[0]? = some (.string qb) := by rw [hC]; rfl
  have C1 : C[1]? = some (.int .i64 (c.log : Nat)) := by rw [hC]; rfl
  have C2 : (C.drop 2).take 32 = ints .u8 c.root := by
    rw [hC]; show ((ints .u8 c.root ++ _).take 32) = _; rw [List.take_append_of_le_length (by rw [q0v, hc.root]; omega), List.take_of_length_le (by rw [q0v, hc.root]; omega)]
  have C34 : C[34]? = some (.int .i64 (c.sR : Nat)) := by rw [hC]; exact q1w hc.root (j := 0) rfl
  have C35 : C[35]? = some (.int .i64 (c.sC : Nat)) := by rw [hC]; exact q1w hc.root (j := 1) rfl
  have C36 : C[36]? = some (.int .i64 (c.sB : Nat)) := by rw [hC]; exact q1w hc.root (j := 2) rfl
  have C37 : C[37]? = some (.int .i64 (c.sT : Nat)) := by rw [hC]; exact q1w hc.root (j := 3) rfl
  have C38 : C[38]? = some s1 := by rw [hC]; exact q1w hc.root (j := 4) rfl
  have C39 : C[39]? = some p1 := by rw [hC]; exact q1w hc.root (j := 5) rfl
  have C40 : C[40]? = some p2 := by rw [hC]; exact q1w hc.root (j := 6) rfl
  have C41 : C[41]? = some p3 := by rw [hC]; exact q1w hc.root (j := 7) rfl
  have C42 : C[42]? = some b1 := by rw [hC]; exact q1w hc.root (j := 8) rfl
  have C45 : C[45]? = some o1 := by rw [hC]; exact q1w hc.root (j := 11) rfl
  have C46 : C[46]? = some o2 := by rw [hC]; exact q1w hc.root (j := 12) rfl
  have C47 : C[47]? = some o3 := by rw [hC]; exact q1w hc.root (j := 13) rfl
  have C48 : C[48]? = some o4 := by rw [hC]; exact q1w hc.root (j := 14) rfl
  have C43 : (C.drop 43).take 2 = exC c.v.1 c.v.2 := by
    apply List.ext_getElem?; intro j; rw [List.getElem?_take]; match j with
    | 0 => rw [if_pos (by omega), List.getElem?_drop, hC]; exact q1w hc.root (j := 9) rfl
    | 1 => rw [if_pos (by omega), List.getElem?_drop, hC]; exact q1w hc.root (j := 10) rfl
    | j + 2 => rw [if_neg (by omega)]; rfl
  rw [← hC]; clear hC; (refine q0b<|q0a ?_); refine q3k rfl ?_; intro g1 w1 B1 hg1 E1 hs1; (refine a_S rfl<|q0c<|tn<|q0b<|q0a ?_); refine Ls (q1p (r := []) (zs' := [[.slice none 0 0]]) (Parts.nil _)) ?_; refine q3k (l := [.slice none 0 0]) rfl ?_; intro g2 w2 B2 hg2 E2 hs2; have B1' := B1.ext E2; (refine a_P rfl<|q0c<|tn<|q0b<|q0a<|m_P rfl<|Ls (q0g rfl)<|Ls (X_ld rfl B1' C0) ?_); have hqs : qb.size = c.q.length := by rw [hw.q, q3h]
  have hq := hc.q; refine q9z rfl (by unfold maxLen; omega) ?_; intro q3 w3 E3 r3; have hq3 := q5l r3; (refine m_P rfl ?_); refine Ls (q1l (vf := [ptr g2]) (vc := []) rfl rfl) ?_; skip; have hs3 := E3.size; have e3 : EncAt w3.heap.size g2 w3 [] := ⟨.slice none 0 0, B2.ext E3, ⟨rfl, .inl ⟨rfl, rfl⟩⟩⟩; have hN : Far (fun k => N k ∧ k < w.heap.size) w3.heap.size g2 := fun q hq => ⟨by omega, by have := E1.size; have := E2.size; omega⟩; have r3' : slR 1 (numR .u8) (fun k => w2.heap.size ≤ k ∧ k < w3.heap.size) w3 [q3] c.q := z1h (by rw [hw.q, q3h]; exact RowN.of r3); have hall := hc.all; rw [cert_w] at hall; simp only [List.length_append, z1m, ext_len, round_len, Ce.byN_len, hc.root] at hall; have hqlt : ∀ e ∈ c.q, e < 256 := by rw [hw.q]; exact q9g qb
  have B1'' := B1'.ext E3; have hp2 : g2 < w3.heap.size := e3.lt; have hw3 := hw.ext (E1.trans (E2.trans E3)); clear hw; refine L_fn (gslB (q1o _) 30 #[ptr g2] #[] w3.heap.size g2 (fun k => w2.heap.size ≤ k ∧ k < w3.heap.size) Ce.byteC.w c.q q3 [] w3 (fun q hq => ⟨by omega, by omega⟩) (elemB hqlt) r3' hq (by simp only [List.length_nil]; omega) (Nat.le_refl _) e3) rfl ?_; rintro e w4 ⟨rfl, e4, k4⟩; refine ⟨_, rfl, ?_⟩; obtain ⟨a4, ha4⟩ : ∃ a, a = [] ++ (Ce.byN 4 c.q.length ++ c.q.flatMap Ce.byteC.w) := ⟨_, rfl⟩; have hl4 : a4.length = 4 + (c.q.flatMap Ce.byteC.w).length := by rw [ha4]; simp only [List.length_append, List.length_nil, Ce.byN_len, Nat.zero_add]
  rw [← ha4] at e4; have B4 := k4.k.blk B1'' (by omega) (.inr (by decide)); have hw4 := hw3.keep k4.k hN; have hs4 := k4.k.size; (refine q0c<|tn<|q0b<|q0a<|m_P rfl<|Ls (q0g rfl)<|Ls (X_ld rfl B4 C1) ?_); refine L_fn (gint w3.heap.size g2 c.log _ w4 hc.log (by omega) k4.k.size e4) rfl ?_; rintro e w5 ⟨rfl, e5, k5⟩; refine ⟨_, rfl, ?_⟩; obtain ⟨a5, ha5⟩ : ∃ a, a = a4 ++ Ce.byN 4 c.log := ⟨_, rfl⟩; have hl5 : a5.length = a4.length + 4 := by rw [ha5, List.length_append, Ce.byN_len]
  rw [← ha5] at e5; have B5 := k5.k.blk B4 (by omega) (.inr (by decide)); have hw5 := hw4.keep k5.k hN; have hs5 := k5.k.size; (refine q0c<|tn<|q0b<|q0a<|m_P rfl<|Ls (q0g rfl)<|Ls (q3o (l := ints .u8 c.root) rfl B5 C2 (by rw [q0v]; exact hc.root)) ?_); refine L_fn (gdigest w3.heap.size g2 c.root _ w5 hc.root (by omega) (Nat.le_trans hs4 hs5) e5) rfl ?_; rintro e w6 ⟨rfl, e6, k6⟩; refine ⟨_, rfl, ?_⟩; obtain ⟨a6, ha6⟩ : ∃ a, a = a5 ++ c.root := ⟨_, rfl⟩; have hl6 : a6.length = a5.length + 32 := by rw [ha6, List.length_append, hc.root]
  rw [← ha6] at e6; have B6 := k6.k.blk B5 (by omega) (.inr (by decide)); have hw6 := hw5.keep k6.k hN; have hs6 := k6.k.size; (refine q0c<|tn<|q0b<|q0b<|q0a<|Ls (q0g rfl)<|Ls (q0g rfl)<|Ls (X_ld rfl B6 C34)<|Ls (q0g rfl)<|Ls (q0g rfl)<|Ls (X_ld rfl B6 C35)<|Ls (q0g rfl)<|Ls (q0g rfl)<|Ls (X_ld rfl B6 C36)<|Ls (q0g rfl)<|Ls (q0g rfl)<|Ls (X_ld rfl B6 C37) ?_); obtain ⟨sh, hsh⟩ : ∃ sh, sh = [c.sR, c.sC, c.sB, c.sT] := ⟨_, rfl⟩; have hshl : sh.length = 4 := by rw [hsh]; rfl
  have hsh4 : ∀ x ∈ sh, x < 4294967296 := by
    rw [hsh]; intro x hx; simp only [List.mem_cons, List.not_mem_nil, or_false] at hx; rcases hx with rfl | rfl | rfl | rfl
    · exact hc.sR
    · exact hc.sC
    · exact hc.sB
    · exact hc.sT
  refine Ls (q5y (z := [.int .i64 0]) (zs' := [[.int .i64 (c.sR : Nat)], [.int .i64 (c.sC : Nat)], [.int .i64 (c.sB : Nat)], [.int .i64 (c.sT : Nat)]]) (cs := ints .i64 sh) (len := 4) ?_ rfl (by rw [hsh]; rfl)) ?_
  · repeat (first | exact Parts.nil _ | refine Parts.cons rfl rfl rfl rfl ?_)
  have E7 : Ext w6 (w6.alloc (.cells (ints .i64 sh).toArray 3)) := q1e _ _; have B7 : Blk (w6.alloc (.cells (ints .i64 sh).toArray 3)) w6.heap.size 3 (ints .i64 sh) := Blk.new _ _ _; generalize w6.alloc (.cells (ints .i64 sh).toArray 3) = w7 at *; generalize w6.heap.size = g7 at *; (refine Ls (q0h rfl)<|m_I rfl<|q0c<|tn<|q0j ?_); have hs7 := E7.size; have k37 := k4.trans (k5.trans (k6.trans (EncK.of_ext (B := w3.heap.size) (p := g2) E7))); have B17 := B6.ext E7; have e7 := e6.ext E7; have hw7 := hw6.ext E7; have hg7 : g7 < w7.heap.size := q2b B7; have hs37 := k37.k.size; clear B1 B1' B1'' B4 B5 B6 hw3 hw4 hw5 hw6 e3 e4 e5 e6 r3 r3'; refine q1k (fun q f w' => ∃ i, q = 4 - i ∧ i ≤ 4 ∧ f 1 = ptr g1 ∧ f 3 = ptr g2 ∧ f 35 = .slice (some ⟨g7, 0, none⟩) 4 4 ∧ f 36 = .int .i64 4 ∧ f 37 = .int .i64 (i : Nat) ∧ EncAt w3.heap.size g2 w' (a6 ++ (sh.take i).flatMap (Ce.byN 4)) ∧ EncK w3.heap.size g2 w7 w') 4 ?_ ?_
  · exact ⟨0, rfl, by omega, rfl, rfl, rfl, rfl, rfl, by simpa using e7, EncK.refl _ _ _⟩
  · rintro q f w8 ⟨i, rfl, hi, f1, f3, f35, f36, f37, e8, k8⟩; rw [fold f1, fold f3, fold f35, fold f36, fold f37]; have hs8 := k8.k.size; (refine q0b<|q0a<|Ls (q2f rfl rfl)<|q0c<|tn<|q0b ?_); refine q1b rfl (fun h => ?_) (fun h => ?_)
    · have hi' : i < 4 := (by omega); obtain ⟨x, hx⟩ : ∃ x, sh[i]? = some x := ⟨_, List.getElem?_eq_getElem (by omega)⟩; have B8 := k8.k.blk B7 (by omega) (.inr (by decide)); have hx4 := hsh4 x (List.mem_of_getElem? hx); (refine q0n<|tn<|q0b<|q0j<|q0b<|q0a<|Ls (q0p rfl rfl (by omega))<|Ls (q2g rfl (B8.range (o := 0) fun j u h => by rw [Nat.zero_add]; exact h) (j := i) (by omega) (q8o hx))<|a_I rfl<|q0c<|tn<|q0a<|m_P rfl<|m_I rfl ?_); refine L_fn (gint w3.heap.size g2 x _ w8 hx4 (by rw [List.length_append, by4_len, List.length_take]; omega) (by omega) e8) rfl ?_; rintro e w9 ⟨rfl, e9, k9⟩; refine ⟨_, rfl, ?_⟩; (refine q0c<|bn<|tn<|q0a<|Ls (q1j rfl rfl (by omega))<|m_I rfl<|q0c<|tn ?_); refine ⟨4 - (i + 1), by omega, i + 1, rfl, by omega, rfl, rfl, rfl, rfl, rfl, ?_, k8.trans k9⟩; rw [q3t (Ce.byN 4) sh i x hx, ← List.append_assoc]; exact e9
    · obtain rfl : i = 4 := (by omega); have B8 := k8.k.blk B17 (by omega) (.inr (by decide)); have hw8 := hw7.keep k8.k hN; obtain ⟨a8, ha8⟩ : ∃ a, a = a6 ++ (sh.take 4).flatMap (Ce.byN 4) := ⟨_, rfl⟩; have hl8 : a8.length = a6.length + 16 := (by rw [ha8, List.length_append, by4_len, List.length_take]; omega); rw [← ha8] at e8; clear B17 hw7 B7; have hs1 := hw8.s1; have cs1 := (q0z (by decide) q2l).one hs1 s1 (List.mem_singleton.2 rfl); (refine q1g<|te<|te<|bx<|tn<|q0b<|q0a<|m_P rfl<|Ls (q0g rfl)<|Ls (X_ld rfl B8 C38)<|m_P rfl ?_); refine Ls (q1l (vf := [ptr g2]) (vc := []) rfl rfl) ?_; skip; refine L_fn (gslI q2l 34 #[ptr g2] #[] w3.heap.size g2 (fun k => N k ∧ k < w.heap.size) (Ce.numC 8).w c.sums s1 _ w8 hN elemI hs1 hc.sums (by omega) (by omega) e8) rfl ?_; rintro e w9 ⟨rfl, e9, k9⟩; refine ⟨_, rfl, ?_⟩; obtain ⟨a9, ha9⟩ : ∃ a, a = a8 ++ (Ce.byN 4 c.sums.length ++ c.sums.flatMap (Ce.numC 8).w) := ⟨_, rfl⟩; have hl9 : a9.length = a8.length + (4 + (c.sums.flatMap (Ce.numC 8).w).length) := (by rw [ha9]; simp only [List.length_append, Ce.byN_len]); rw [← ha9] at e9; have B9 := k9.k.blk B8 (by omega) (.inr (by decide)); have hw9 := hw8.keep k9.k hN; have hs9 := k9.k.size; have kk9 := k8.trans k9; clear B8 hw8 e8 k9; have hp1 := hw9.p1; have cp1 := q1c.one hp1 p1 (List.mem_singleton.2 rfl); (refine q0c<|tn<|q0b<|q0a<|m_P rfl<|Ls (q0g rfl)<|Ls (q0g rfl)<|Ls (X_ld rfl B9 C39)<|m_P rfl ?_); refine Ls (q1l (vf := [ptr g2]) (vc := []) rfl rfl) ?_; skip; refine L_fn (gslR q0w 36 #[ptr g2] #[] w3.heap.size g2 (fun k => N k ∧ k < w.heap.size) Ce.roundC.w c.rows p1 _ w9 hN (elemR hN hc.rows.2) hp1 hc.rows.1 (by omega) (by omega) e9) rfl ?_; rintro e w10 ⟨rfl, e10, k10⟩; refine ⟨_, rfl, ?_⟩; obtain ⟨a10, ha10⟩ : ∃ a, a = a9 ++ (Ce.byN 4 c.rows.length ++ c.rows.flatMap Ce.roundC.w) := ⟨_, rfl⟩; have hl10 : a10.length = a9.length + (4 + (c.rows.flatMap Ce.roundC.w).length) := (by rw [ha10]; simp only [List.length_append, Ce.byN_len]); rw [← ha10] at e10; have B10 := k10.k.blk B9 (by omega) (.inr (by decide)); have hw10 := hw9.keep k10.k hN; have hs10 := k10.k.size; have kk10 := kk9.trans k10; clear B9 hw9 e9 k10; have hp2 := hw10.p2; have cp2 := q1m.one hp2 p2 (List.mem_singleton.2 rfl); (refine q0c<|tn<|q0b<|q0a<|m_P rfl<|Ls (q0g rfl)<|Ls (q0g rfl)<|Ls (X_ld rfl B10 C40)<|m_P rfl ?_); refine Ls (q1l (vf := [ptr g2]) (vc := []) rfl rfl) ?_; skip; refine L_fn (gslL q5x 38 #[ptr g2] #[] w3.heap.size g2 (fun k => N k ∧ k < w.heap.size) Ce.lpC.w c.ps p2 _ w10 hN (elemL hN hc.ps.2) hp2 hc.ps.1 (by omega) (by omega) e10) rfl ?_; rintro e w11 ⟨rfl, e11, k11⟩; refine ⟨_, rfl, ?_⟩; obtain ⟨a11, ha11⟩ : ∃ a, a = a10 ++ (Ce.byN 4 c.ps.length ++ c.ps.flatMap Ce.lpC.w) := ⟨_, rfl⟩; have hl11 : a11.length = a10.length + (4 + (c.ps.flatMap Ce.lpC.w).length) := (by rw [ha11]; simp only [List.length_append, Ce.byN_len]); rw [← ha11] at e11; have B11 := k11.k.blk B10 (by omega) (.inr (by decide)); have hw11 := hw10.keep k11.k hN; have hs11 := k11.k.size; have kk11 := kk10.trans k11; clear B10 hw10 e10 k11; have hp3 := hw11.p3; have cp3 := q1m.one hp3 p3 (List.mem_singleton.2 rfl); (refine q0c<|tn<|q0b<|q0a<|m_P rfl<|Ls (q0g rfl)<|Ls (q0g rfl)<|Ls (X_ld rfl B11 C41)<|m_P rfl ?_); refine Ls (q1l (vf := [ptr g2]) (vc := []) rfl rfl) ?_; skip; refine L_fn (gslL q5x 38 #[ptr g2] #[] w3.heap.size g2 (fun k => N k ∧ k < w.heap.size) Ce.lpC.w c.pz p3 _ w11 hN (elemL hN hc.pz.2) hp3 hc.pz.1 (by omega) (by omega) e11) rfl ?_; rintro e w12 ⟨rfl, e12, k12⟩; refine ⟨_, rfl, ?_⟩; obtain ⟨a12, ha12⟩ : ∃ a, a = a11 ++ (Ce.byN 4 c.pz.length ++ c.pz.flatMap Ce.lpC.w) := ⟨_, rfl⟩; have hl12 : a12.length = a11.length + (4 + (c.pz.flatMap Ce.lpC.w).length) := (by rw [ha12]; simp only [List.length_append, Ce.byN_len]); rw [← ha12] at e12; have B12 := k12.k.blk B11 (by omega) (.inr (by decide)); have hw12 := hw11.keep k12.k hN; have hs12 := k12.k.size; have kk12 := kk11.trans k12; clear B11 hw11 e11 k12; have hb1 := hw12.b1; have cb1 := q1c.one hb1 b1 (List.mem_singleton.2 rfl); (refine q0c<|tn<|q0b<|q0a<|m_P rfl<|Ls (q0g rfl)<|Ls (X_ld rfl B12 C42)<|m_P rfl ?_); refine Ls (q1l (vf := [ptr g2]) (vc := []) rfl rfl) ?_; skip; refine L_fn (gslR q0w 36 #[ptr g2] #[] w3.heap.size g2 (fun k => N k ∧ k < w.heap.size) Ce.roundC.w c.batch b1 _ w12 hN (elemR hN hc.batch.2) hb1 hc.batch.1 (by omega) (by omega) e12) rfl ?_; rintro e w13 ⟨rfl, e13, k13⟩; refine ⟨_, rfl, ?_⟩; obtain ⟨a13, ha13⟩ : ∃ a, a = a12 ++ (Ce.byN 4 c.batch.length ++ c.batch.flatMap Ce.roundC.w) := ⟨_, rfl⟩; have hl13 : a13.length = a12.length + (4 + (c.batch.flatMap Ce.roundC.w).length) := (by rw [ha13]; simp only [List.length_append, Ce.byN_len]); rw [← ha13] at e13; have B13 := k13.k.blk B12 (by omega) (.inr (by decide)); have hw13 := hw12.keep k13.k hN; have hs13 := k13.k.size; have kk13 := kk12.trans k13; clear B12 hw12 e12 k13; (refine q0c<|tn<|q0b<|q0a<|m_P rfl<|Ls (q0g rfl)<|Ls (q3o (l := exC c.v.1 c.v.2) rfl B13 C43 rfl) ?_); refine L_fn (gext w3.heap.size g2 c.v.1 c.v.2 _ w13 hc.v.1 hc.v.2 (by omega) (by omega) e13) rfl ?_; rintro e w14 ⟨rfl, e14, k14⟩; refine ⟨_, rfl, ?_⟩; obtain ⟨a14, ha14⟩ : ∃ a, a = a13 ++ (Ce.byN 8 c.v.1 ++ Ce.byN 8 c.v.2) := ⟨_, rfl⟩; have hl14 : a14.length = a13.length + (16) := (by rw [ha14]; simp only [List.length_append, Ce.byN_len]); rw [← ha14] at e14; have B14 := k14.k.blk B13 (by omega) (.inr (by decide)); have hw14 := hw13.keep k14.k hN; have hs14 := k14.k.size; have kk14 := kk13.trans k14; clear B13 hw13 e13 k14; have ho1 := hw14.o1; have co1 := q0w.one ho1 o1 (List.mem_singleton.2 rfl); (refine q0c<|tn<|q0b<|q0a<|m_P rfl<|Ls (q0g rfl)<|Ls (q0g rfl)<|Ls (X_ld rfl B14 C45)<|m_P rfl ?_); refine Ls (q1l (vf := [ptr g2]) (vc := []) rfl rfl) ?_; skip; refine L_fn (gslE q3p 39 #[ptr g2] #[] w3.heap.size g2 (fun k => N k ∧ k < w.heap.size) Ce.extC.w c.orow o1 _ w14 hN (elemE hc.orow.2) ho1 hc.orow.1 (by omega) (by omega) e14) rfl ?_; rintro e w15 ⟨rfl, e15, k15⟩; refine ⟨_, rfl, ?_⟩; obtain ⟨a15, ha15⟩ : ∃ a, a = a14 ++ (Ce.byN 4 c.orow.length ++ c.orow.flatMap Ce.extC.w) := ⟨_, rfl⟩; have hl15 : a15.length = a14.length + (4 + (c.orow.flatMap Ce.extC.w).length) := (by rw [ha15]; simp only [List.length_append, Ce.byN_len]); rw [← ha15] at e15; have B15 := k15.k.blk B14 (by omega) (.inr (by decide)); have hw15 := hw14.keep k15.k hN; have hs15 := k15.k.size; have kk15 := kk14.trans k15; clear B14 hw14 e14 k15; have ho2 := hw15.o2; have co2 := q0w.one ho2 o2 (List.mem_singleton.2 rfl); (refine q0c<|tn<|q0b<|q0a<|m_P rfl<|Ls (q0g rfl)<|Ls (q0g rfl)<|Ls (X_ld rfl B15 C46)<|m_P rfl ?_); refine Ls (q1l (vf := [ptr g2]) (vc := []) rfl rfl) ?_; skip; refine L_fn (gslE q3p 39 #[ptr g2] #[] w3.heap.size g2 (fun k => N k ∧ k < w.heap.size) Ce.extC.w c.ornd o2 _ w15 hN (elemE hc.ornd.2) ho2 hc.ornd.1 (by omega) (by omega) e15) rfl ?_; rintro e w16 ⟨rfl, e16, k16⟩; refine ⟨_, rfl, ?_⟩; obtain ⟨a16, ha16⟩ : ∃ a, a = a15 ++ (Ce.byN 4 c.ornd.length ++ c.ornd.flatMap Ce.extC.w) := ⟨_, rfl⟩; have hl16 : a16.length = a15.length + (4 + (c.ornd.flatMap Ce.extC.w).length) := (by rw [ha16]; simp only [List.length_append, Ce.byN_len]); rw [← ha16] at e16; have B16 := k16.k.blk B15 (by omega) (.inr (by decide)); have hw16 := hw15.keep k16.k hN; have hs16 := k16.k.size; have kk16 := kk15.trans k16; clear B15 hw15 e15 k16; have ho3 := hw16.o3; have co3 := q4h.one ho3 o3 (List.mem_singleton.2 rfl); (refine q0c<|tn<|q0b<|q0a<|m_P rfl<|Ls (q0g rfl)<|Ls (q0g rfl)<|Ls (X_ld rfl B16 C47)<|m_P rfl ?_); refine Ls (q1l (vf := [ptr g2]) (vc := []) rfl rfl) ?_; skip; refine L_fn (gslC (q0z (by decide) (q1o _)) 42 #[ptr g2] #[] w3.heap.size g2 (fun k => N k ∧ k < w.heap.size) (Ce.lst Ce.wordC).w c.cols o3 _ w16 hN (elemC hN hc.cols.2) ho3 hc.cols.1 (by omega) (by omega) e16) rfl ?_; rintro e w17 ⟨rfl, e17, k17⟩; refine ⟨_, rfl, ?_⟩; obtain ⟨a17, ha17⟩ : ∃ a, a = a16 ++ (Ce.byN 4 c.cols.length ++ c.cols.flatMap (Ce.lst Ce.wordC).w) := ⟨_, rfl⟩; have hl17 : a17.length = a16.length + (4 + (c.cols.flatMap (Ce.lst Ce.wordC).w).length) := (by rw [ha17]; simp only [List.length_append, Ce.byN_len]); rw [← ha17] at e17; have B17 := k17.k.blk B16 (by omega) (.inr (by decide)); have hw17 := hw16.keep k17.k hN; have hs17 := k17.k.size; have kk17 := kk16.trans k17; clear B16 hw16 e16 k17; have ho4 := hw17.o4; have co4 := q4g.one ho4 o4 (List.mem_singleton.2 rfl); (refine q0c<|tn<|q0b<|q0a<|m_P rfl<|Ls (q0g rfl)<|Ls (q0g rfl)<|Ls (q0g rfl)<|Ls (X_ld rfl B17 C48)<|m_P rfl ?_); refine Ls (q1l (vf := [ptr g2]) (vc := []) rfl rfl) ?_; skip; refine L_fn (gslD (byR_ok 32) 32 #[ptr g2] #[] w3.heap.size g2 (fun k => N k ∧ k < w.heap.size) (Ce.raw 32).w c.nodes o4 _ w17 hN elemD ho4 hc.nodes (by omega) (by omega) e17) rfl ?_; rintro e w18 ⟨rfl, e18, k18⟩; refine ⟨_, rfl, ?_⟩; obtain ⟨a18, ha18⟩ : ∃ a, a = a17 ++ (Ce.byN 4 c.nodes.length ++ c.nodes.flatMap (Ce.raw 32).w) := ⟨_, rfl⟩; have hl18 : a18.length = a17.length + (4 + (c.nodes.flatMap (Ce.raw 32).w).length) := (by rw [ha18]; simp only [List.length_append, Ce.byN_len]); rw [← ha18] at e18; have B18 := k18.k.blk B17 (by omega) (.inr (by decide)); have hw18 := hw17.keep k18.k hN; have hs18 := k18.k.size; have kk18 := kk17.trans k18; clear B17 hw17 e17 k18; obtain ⟨u, bu, ou⟩ := e18; have hu1 := q5l (Row.of_own ou); (refine q0c<|tn<|q0b<|q0a<|m_P rfl<|Ls (q1t rfl)<|Ls (q0g rfl)<|Ls (X_ld rfl bu rfl)<|Ls (q0i (v := u) rfl)<|q0c<|tn<|q0s ?_); refine q0f rfl rfl (v := u) rfl ?_; have e0 : a18 = Ce.certC.w c := by
        rw [cert_w, ha18, ha17, ha16, ha15, ha14, ha13, ha12, ha11, ha10, ha9, ha8, ha6, ha5, ha4, hsh]; simp only [List.append_assoc, List.nil_append, List.take_succ_cons, List.take_zero, List.flatMap_cons, List.flatMap_nil, List.append_nil]; rfl
      rw [e0] at ou; exact ⟨u, rfl, (EncK.of_ext (B := w3.heap.size) (p := g2) E3 |>.trans (k37.trans kk18)).e w (E1.trans E2) (by omega) (by omega), q7j ou (by omega)⟩
end Go.Proofs.YtlggfbglpcegoaaGreatDoor
namespace Ce
def c4 : Cert := ⟨[97, 98], 1, List.replicate 32 0, 0, 0, 0, 0, [18446744073709551615], [], [], [], [], (0, 0), [], [], [], []⟩
theorem val_zero : Val zero := ⟨⟨by decide, fun _ h => by cases h⟩, by decide, ⟨rfl, fun b hb => by rw [(List.mem_replicate.1 hb).2]; decide⟩, by decide, by decide, by decide, by decide, ⟨by decide, fun _ h => by cases h⟩, ⟨by decide, fun _ h => by cases h⟩, ⟨by decide, fun _ h => by cases h⟩, ⟨by decide, fun _ h => by cases h⟩, ⟨by decide, fun _ h => by cases h⟩, ⟨by decide, by decide⟩, ⟨by decide, fun _ h => by cases h⟩, ⟨by decide, fun _ h => by cases h⟩, ⟨by decide, fun _ h => by cases h⟩, ⟨by decide, fun _ h => by cases h⟩⟩
theorem val_c4 : Val c4 := ⟨⟨by decide, by decide⟩, by decide, ⟨rfl, fun b hb => by rw [(List.mem_replicate.1 hb).2]; decide⟩, by decide, by decide, by decide, by decide, ⟨by decide, by decide⟩, ⟨by decide, fun _ h => by cases h⟩, ⟨by decide, fun _ h => by cases h⟩, ⟨by decide, fun _ h => by cases h⟩, ⟨by decide, fun _ h => by cases h⟩, ⟨by decide, by decide⟩, ⟨by decide, fun _ h => by cases h⟩, ⟨by decide, fun _ h => by cases h⟩, ⟨by decide, fun _ h => by cases h⟩, ⟨by decide, fun _ h => by cases h⟩⟩
theorem w4_len : (certC.w c4).length = 118 := by decide +kernel
theorem w4_10 : (certC.w c4).take 10 = [2, 0, 0, 0, 97, 98, 1, 0, 0, 0] := by decide +kernel
theorem w4_58 : (certC.w c4)[58]? = some 1 := by decide +kernel
theorem w4_62 : (certC.w c4)[62]? = some 255 := by decide +kernel
theorem w4_69 : (certC.w c4)[69]? = some 255 := by decide +kernel
theorem w4_70 : (certC.w c4)[70]? = some 0 := by decide +kernel
theorem w0_len : (certC.w zero).length = 108 := by decide +kernel
theorem w_lt {c : Cert} (h : Val c) : ∀ b ∈ certC.w c, b < 256 := q9p.byte c h.ok
end Ce
namespace Go.Proofs.YtlggfbglpcegoaaGreatDoor
open Go.RowKit Go.Proofs.K
theorem encC {N : Nat → Prop} {w : World} {y : List Value} {c : Ce.Cert} (h : cerR N w y c) (hv : Ce.Val c) (hl : (Ce.certC.w c).length ≤ 99990000) :
    Calls Tryz.prog 13 #[.agg y.toArray] w fun e w' => ∃ q, e = .returned q ∧ Ext w w' ∧ w'.ownsRow w.heap.size 5 1 q (Ce.certC.w c).length (ints .u8 (Ce.certC.w c)) := by
  obtain ⟨qb, s1, p1, p2, p3, b1, o1, o2, o3, o4, rfl, hr, h⟩ := h; exact gencode N c qb s1 p1 p2 p3 b1 o1 o2 o3 o4 w (val64 hv hl) h
theorem row_blk {w : World} {g : Nat} {T : TypeId} {l : List Nat} (h : Blk w g T (ints .u8 l)) (hl : l.length ≤ maxLen) : RowN (fun k => k = g) w 1 (.slice (some ⟨g, 0, none⟩) l.length l.length) l.length (ints .u8 l) :=
  ⟨g, g + 1, fun k h1 h2 => by omega, by rw [q0v]; omega, _, _, rfl, Nat.le_refl _, hl, fun _ => ⟨g, 0, rfl, Nat.le_refl _, Nat.lt_succ_self _, h.range (o := 0) fun j u hu => by rw [Nat.zero_add]; exact hu⟩⟩
theorem q9h : Qy.parse (sb ⟨#[99, 111, 117, 110, 116]⟩) = (⟨1, 0, 0, [[]]⟩, 0, 0) := by kernel_rfl
theorem parse_counts : Qy.parse (sb ⟨#[99, 111, 117, 110, 116, 115]⟩) = (Qy.q0, 0, 130) := by kernel_rfl
theorem parse_empty : Qy.parse (sb ⟨#[]⟩) = (Qy.q0, 0, 131) := by kernel_rfl
theorem parse_groups : Qy.parse (sb ⟨#[103, 114, 111, 117, 112, 115, 32, 118, 97, 108, 117, 101]⟩) = (⟨4, 3, 0, [[]]⟩, 0, 0) := by kernel_rfl
set_option maxRecDepth 100000 in
set_option maxHeartbeats 8000000 in
theorem lsane (w : World) (hw : Wx w) : Calls Tryz.prog 4 #[] w fun e w' => e = .returned (.bool true) ∧ Ext w w' := by
  refine q0k Tryz.func4 rfl Tryz.ntmps4 rfl ?_; (refine q0b<|q0a<|a_B rfl<|q0c<|tn<|q0b<|q0a ?_); refine L_fn (z1r (fun _ => False) (.slice none 0 0) [] w ⟨0, 0, fun _ _ h => absurd h (by omega), Row.nil _ _ _ _⟩ (fun _ h => by cases h)) rfl ?_; rintro e w1 h1; obtain ⟨y1, rfl, E1, hy1⟩ := h1.err (k := 6) rfl; refine ⟨_, rfl, ?_⟩; (refine m_T rfl<|Ls (q0y rfl rfl)<|Ls (q0y rfl rfl) ?_); refine q0x ?_; intro g1 u1 B1 hg1 F1 hs1; refine q0l (l := y1) rfl rfl (q4c hy1) (q2e.one hy1) B1 rfl ?_; intro w2 B1 hh1 hs2; have h1s := E1.size; have E2 := (E1.trans F1).then hh1 fun q h => by cases h; omega
  have h2s := E2.size; clear B1 hy1; (refine a_I rfl<|q0c<|tn<|q0b<|q0a ?_); obtain ⟨n, hn⟩ : ∃ n : Nat, n = 65537 := ⟨_, rfl⟩; refine L_make (z := [.int .u8 0]) n n rfl rfl (by rw [hn]; rfl) (by rw [hn]; rfl) (Nat.le_refl _) (by omega) (by omega) ?_; intro g2 w3 B2 hg2 F2 hs3; rw [show (List.replicate n [Value.int .u8 0]).flatten = ints .u8 (List.replicate n 0) from z1o .u8 n 0] at B2; have R2 := row_blk B2 (by rw [List.length_replicate]; unfold maxLen; omega); rw [List.length_replicate] at R2; have E3 := E2.trans F2; have h3s := E3.size; refine L_fn (z1r (fun k => k = g2) (.slice (some ⟨g2, 0, none⟩) n n) (List.replicate n 0) w3 (by rw [List.length_replicate]; exact R2) (fun x hx => by rw [(List.mem_replicate.1 hx).2]; decide)) rfl ?_; rintro e w4 h4; obtain ⟨y2, rfl, E4, hy2⟩ := h4.err (k := 2) (by unfold Ce.decode; rw [List.length_replicate, if_pos (by omega)]); refine ⟨_, rfl, ?_⟩; (refine m_T rfl<|Ls (q0y rfl rfl)<|Ls (q0y rfl rfl) ?_); refine q0x ?_; intro g3 u3 B3 hg3 F3 hs4; refine q0l (l := y2) rfl rfl (q4c hy2) (q2e.one hy2) B3 rfl ?_; intro w5 B3 hh3 hs5; have h4s := E4.size; have E5 := ((E3.trans E4).trans F3).then hh3 fun q h => by cases h; omega
  have h5s := E5.size; clear B3 hy2 B2 R2; (refine a_I rfl<|q0c<|tn<|q0b<|q0a ?_); refine Ls (q1p (r := []) (Parts.nil _)) ?_; refine L_fn (gcommit1 w5) rfl ?_; rintro e w6 ⟨y5, hy5, hc5, rfl, E6⟩; refine ⟨_, rfl, ?_⟩; (refine m_T rfl<|Ls (q0y rfl rfl)<|Ls (q0y rfl rfl) ?_); refine q0x ?_; intro g5 u5 B5 hg5 F5 hs6; refine q0l (l := y5) rfl rfl hy5 hc5 B5 rfl ?_; intro w7 B5 hh5 hs7; have h6s := E6.size; have E7 := ((E5.trans E6).trans F5).then hh5 fun q h => by cases h; omega
  have h7s := E7.size; clear B5; (refine a_I rfl<|q0c<|tn<|q0b<|q0a ?_); refine q4k (v := .int .i64 (-1)) rfl rfl ?_; intro q8 w8 r8 E8 hs8 _; have hq8 := q5l r8; have S8 : slR 1 sumR (fun _ => True) w8 [q8] [18446744073709551615] := ⟨q8, rfl, [[.int .i64 (-1)]], rfl, fun y hy => by rw [List.mem_singleton.1 hy]; rfl, RowN.ofAny r8, fun i y a hy ha => by
    match i with
    | 0 => cases hy; cases ha; exact ⟨-1, rfl, by decide, by decide, by decide⟩
    | i + 1 => cases hy⟩
  have K8 : cerR (fun _ => True) w8 (cerC Ce.c4 ⟨#[97, 98]⟩ q8 (.slice none 0 0) (.slice none 0 0) (.slice none 0 0) (.slice none 0 0) (.slice none 0 0) (.slice none 0 0) (.slice none 0 0) (.slice none 0 0)) Ce.c4 := ⟨_, _, _, _, _, _, _, _, _, _, rfl, rfl, rfl, S8, q1a, q1a, q1a, q1a, q1a, q1a, q1a, q1a⟩; skip; refine Ls (q1p (r := [(0, .const (.string ⟨#[97, 98]⟩)), (1, .const (.int .i64 1)), (4, .tmp 27)]) (Parts.cons (v := .string ⟨#[97, 98]⟩) (c := [.string ⟨#[97, 98]⟩]) (z := [.string ByteArray.empty]) rfl rfl rfl rfl (Parts.cons (v := .int .i64 1) (c := [.int .i64 1]) (z := [.int .i64 0]) rfl rfl rfl rfl (Parts.cons (v := q8) (c := [q8]) (z := [.slice none 0 0]) rfl (q2v hq8) rfl rfl (Parts.nil _))))) ?_; refine L_fn (encC K8 Ce.val_c4 (by rw [Ce.w4_len]; decide)) rfl ?_; rintro e w9 ⟨q9, rfl, E9, O9⟩; refine ⟨_, rfl, ?_⟩; have hq9 := q5l (Row.of_own O9); have E09 := (E7.trans E8).trans E9; (refine Ls (q0i (v := q9) rfl)<|q0c<|tn<|q0b<|q0a ?_); refine Ls (q1p (r := []) (Parts.nil _)) ?_; refine L_fn (encC (N := fun _ => True) (y := zerC) q3e Ce.val_zero (by rw [Ce.w0_len]; decide)) rfl ?_; rintro e w10 ⟨q10, rfl, E10, O10⟩; refine ⟨_, rfl, ?_⟩; have hq10 := q5l (Row.of_own O10); have E010 := E09.trans E10; (refine Ls (q0i (v := q10) rfl)<|q0c<|tn<|q0b<|q0a<|Ls (q0e (v := q10) rfl) ?_); refine L_fn (z1r _ q10 (Ce.certC.w Ce.zero) w10 (RowN.of_own O10) (Ce.w_lt Ce.val_zero)) rfl ?_; rintro e w11 h11; obtain ⟨y6, rfl, E11, hy6⟩ := h11.ok (Ce.decode_encode Ce.val_zero.ok (by rw [Ce.w0_len]; decide)); refine ⟨_, rfl, ?_⟩; (refine m_T rfl<|Ls (q0y rfl rfl)<|Ls (q0y rfl rfl) ?_); refine q0x ?_; intro g12 u12 B12 hg12 F12 hs12; refine q0l (l := y6) rfl rfl (q4c hy6) (q2e.one hy6) B12 rfl ?_; intro w13 B13 hh13 hs13; have h10s := E10.size; have h11s := E11.size; have E1113 := (E11.trans F12).then hh13 fun q h => by cases h; omega
  have E013 := E010.trans E1113; have O10' := q2p O10 E1113; (refine a_I rfl<|q0c<|tn<|q0b<|q0a<|Ls (q0e (v := q10) rfl) ?_); refine q4k (v := .int .u8 0) rfl rfl ?_; intro q14 w14 r14 E14 hs14 _; have hq14 := q5l r14; have O10'' := q2p O10' E14; refine L_fn (joinB w9.heap.size w14.heap.size _ _ q10 q14 (Ce.certC.w Ce.zero) [0] w14 (Row.of_own O10'') r14 (by rw [Ce.w0_len]; decide)) rfl ?_; rintro e w15 ⟨q15, rfl, E15, O15⟩; refine ⟨_, rfl, ?_⟩; have hq15 := q5l (Row.of_own O15); skip; have O15' : w15.ownsRow w14.heap.size 5 1 q15 (Ce.certC.w Ce.zero ++ [0]).length (ints .u8 (Ce.certC.w Ce.zero ++ [0])) := by rw [List.length_append]; exact O15
  refine L_fn (z1r _ q15 (Ce.certC.w Ce.zero ++ [0]) w15 (RowN.of_own O15') (fun x hx => (List.mem_append.1 hx).elim (Ce.w_lt Ce.val_zero x) fun h => by rw [List.mem_singleton.1 h]; decide)) rfl ?_; rintro e w16 h16; obtain ⟨y7, rfl, E16, hy7⟩ := h16.err (Ce.decode_suffix Ce.val_zero.ok (by rw [List.length_append, Ce.w0_len]; decide) (by decide)); refine ⟨_, rfl, ?_⟩; (refine m_T rfl<|Ls (q0y rfl rfl)<|Ls (q0y rfl rfl) ?_); refine q0x ?_; intro g17 u17 B17 hg17 F17 hs17; refine q0l (l := y7) rfl rfl (q4c hy7) (q2e.one hy7) B17 rfl ?_; intro w18 B18 hh18 hs18; have h14s := E14.size; have h15s := E15.size; have h16s := E16.size; have E1318 := (((E14.trans E15).trans E16).trans F17).then hh18 fun q h => by cases h; omega
  have E918 := E10.trans (E1113.trans E1318); have E018 := E09.trans E918; have B13' := B13.ext E1318; have O9' := q2p O9 E918; have O10f := q2p O10' E1318; clear B18 hy7 O10'' O15 O15' r14 r8 S8 K8; have h58 := Ce.w4_58; have h62 := Ce.w4_62; have h69 := Ce.w4_69; have h70 := Ce.w4_70; have h10 := Ce.w4_10; have hL4 := Ce.w4_len; have hL0 := Ce.w0_len; generalize Ce.certC.w Ce.c4 = L4 at *; generalize Ce.certC.w Ce.zero = L0 at *; obtain ⟨b9, o9, c9, rfl, hc9, _, _, hR9⟩ := (Row.of_own O9').at (k := 0) (by omega); obtain ⟨b10, o10, c10, rfl, hc10, _, _, hR10⟩ := (Row.of_own O10f).at (k := 0) (by omega); have S9 : slR 1 (numR .u8) _ w18 [.slice (some ⟨b9, o9, none⟩) L4.length c9] L4 := z1h (RowN.of_own O9'); (refine a_I rfl<|q0c<|tn<|q0b<|q0b<|q0a<|m_S rfl<|Ls (q0h rfl)<|Ls (q2t rfl rfl (by omega))<|q0c<|tn<|q0o rfl<|q0n<|tn<|q0b<|q0a ?_); dsimp only [List.append]; (refine m_I rfl<|Ls (q3v rfl rfl (by omega))<|m_B rfl<|Lg2 rfl rfl rfl (q0e (v := .int _ _) rfl)<|Lg2 rfl rfl rfl (q3v rfl rfl (by omega))<|Ls (q0m (v := .bool _) rfl rfl)<|m_B rfl<|Lg2 rfl rfl rfl (q0e (v := .int _ _) rfl)<|Lg2 rfl rfl rfl (q3v rfl rfl (by omega))<|Ls (q0m (v := .bool _) rfl rfl)<|m_B rfl<|Lg2 rfl rfl rfl (q0e (v := .slice _ _ _) rfl) ?_); refine q1u rfl rfl rfl ?_; refine Ls (q3z (size := 1) (i := 0) (j := 10) rfl rfl ⟨_, rfl⟩ (by omega) (by omega)) ?_; refine q1u rfl rfl rfl ?_; refine Ls (q5y (z := [.int .u8 0]) (zs' := [[.int .u8 2], [.int .u8 0], [.int .u8 0], [.int .u8 0], [.int .u8 97], [.int .u8 98], [.int .u8 1], [.int .u8 0], [.int .u8 0], [.int .u8 0]]) (cs := ints .u8 [2, 0, 0, 0, 97, 98, 1, 0, 0, 0]) (len := 10) ?_ rfl rfl) ?_
  · repeat (first | exact Parts.nil _ | refine Parts.cons rfl rfl rfl rfl ?_)
  have E19 : Ext w18 (w18.alloc (.cells (ints .u8 [2, 0, 0, 0, 97, 98, 1, 0, 0, 0]).toArray 5)) := q1e _ _; have B19 : Blk (w18.alloc (.cells (ints .u8 [2, 0, 0, 0, 97, 98, 1, 0, 0, 0]).toArray 5)) w18.heap.size 5 (ints .u8 [2, 0, 0, 0, 97, 98, 1, 0, 0, 0]) := Blk.new _ _ _; generalize w18.alloc (.cells (ints .u8 [2, 0, 0, 0, 97, 98, 1, 0, 0, 0]).toArray 5) = w19 at *; generalize w18.heap.size = g19 at *; have R19 := z1h (row_blk B19 (by unfold maxLen; decide)); refine q1u rfl rfl rfl ?_; refine L_fn (q5c.t (s7same ((q0z (by decide) (q1o .u8)).ext (q5s S9 10 (by omega)) E19) R19) h10) rfl ?_; rintro e w20 ⟨rfl, E20⟩; refine ⟨_, rfl, ?_⟩; have E1820 := E19.trans E20; have hR9' := E1820.range hR9; have B13'' := B13'.ext E1820; (refine Ls (q0m (v := .bool _) rfl rfl)<|m_B rfl<|Lg2 rfl rfl rfl (q0e (v := .slice _ _ _) rfl)<|Lg2 rfl rfl rfl (q7v rfl rfl (by omega))<|Lg2 rfl rfl rfl (q2g rfl hR9' (j := 58) (by omega) (q8o h58))<|Lg2 rfl rfl rfl (q3v rfl rfl (by omega))<|Ls (q0m (v := .bool _) rfl rfl)<|m_B rfl<|Lg2 rfl rfl rfl (q0e (v := .slice _ _ _) rfl)<|Lg2 rfl rfl rfl (q7v rfl rfl (by omega))<|Lg2 rfl rfl rfl (q2g rfl hR9' (j := 62) (by omega) (q8o h62))<|Lg2 rfl rfl rfl (q3v rfl rfl (by omega))<|Ls (q0m (v := .bool _) rfl rfl)<|m_B rfl<|Lg2 rfl rfl rfl (q0e (v := .slice _ _ _) rfl)<|Lg2 rfl rfl rfl (q7v rfl rfl (by omega))<|Lg2 rfl rfl rfl (q2g rfl hR9' (j := 69) (by omega) (q8o h69))<|Lg2 rfl rfl rfl (q3v rfl rfl (by omega))<|Ls (q0m (v := .bool _) rfl rfl)<|m_B rfl<|Lg2 rfl rfl rfl (q0e (v := .slice _ _ _) rfl)<|Lg2 rfl rfl rfl (q7v rfl rfl (by omega))<|Lg2 rfl rfl rfl (q2g rfl hR9' (j := 70) (by omega) (q8o h70))<|Lg2 rfl rfl rfl (q3v rfl rfl (by omega))<|Ls (q0m (v := .bool _) rfl rfl)<|m_B rfl<|Lg2 rfl rfl rfl (q0e (v := .slice _ _ _) rfl)<|Lg2 rfl rfl rfl (q0h rfl)<|Lg2 rfl rfl rfl (q3v rfl rfl (by omega))<|Ls (q0m (v := .bool _) rfl rfl)<|m_B rfl<|Lg2 rfl rfl rfl (q2m rfl B13'' (q4c hy6)) ?_); refine q1u rfl rfl rfl ?_; refine Ls (q1p (r := []) (Parts.nil _)) ?_; refine q1u rfl rfl rfl ?_; have hy6' := q2e.ext (q2e.grown (q2e.ext hy6 F12) hh13 fun q h k => by cases h; omega) (E1318.trans E1820); refine L_fn (q5c.t (s22same (M := fun _ => True) (y := zerC) hy6' q3e q6r q6r) rfl) rfl ?_; rintro e w21 ⟨rfl, E21⟩; refine ⟨_, rfl, ?_⟩; have E021 := (E018.trans E1820).trans E21; (refine Ls (q0m (v := .bool _) rfl rfl)<|m_B rfl<|Lg2 rfl rfl rfl (q0e (v := .int _ _) rfl)<|Lg2 rfl rfl rfl (q3v rfl rfl (by omega))<|Ls (q0m (v := .bool _) rfl rfl)<|m_B rfl<|Lg2 rfl rfl rfl (q0e (v := .int _ _) rfl)<|Lg2 rfl rfl rfl (q3v rfl rfl (by omega))<|Ls (q0m (v := .bool _) rfl rfl)<|m_B rfl ?_); refine q1u rfl rfl rfl ?_; refine L_fn (gfl ⟨#[99, 111, 117, 110, 116]⟩ 12 1 (fun w hw => gproveA _ (by decide) 12 (.inr (by decide)) q9h w hw) w21 (hw.ext E021)) rfl ?_; rintro e w22 ⟨rfl, E22⟩; refine ⟨_, rfl, ?_⟩; have E022 := E021.trans E22; (refine Ls (q0m (v := .bool _) rfl rfl)<|m_B rfl ?_); refine q1u rfl rfl rfl ?_; refine L_fn (gfl ⟨#[99, 111, 117, 110, 116]⟩ (-1) 1 (fun w hw => gproveA _ (by decide) (-1) (.inl (by decide)) q9h w hw) w22 (hw.ext E022)) rfl ?_; rintro e w23 ⟨rfl, E23⟩; refine ⟨_, rfl, ?_⟩; have E023 := E022.trans E23; (refine Ls (q0m (v := .bool _) rfl rfl)<|m_B rfl ?_); refine q1u rfl rfl rfl ?_; refine L_fn (gfl ⟨#[99, 111, 117, 110, 116, 115]⟩ 12 130 (fun w hw => gproveP _ (by decide) 12 0 130 (by decide) parse_counts w hw) w23 (hw.ext E023)) rfl ?_; rintro e w24 ⟨rfl, E24⟩; refine ⟨_, rfl, ?_⟩; have E024 := E023.trans E24; (refine Ls (q0m (v := .bool _) rfl rfl)<|m_B rfl ?_); refine q1u rfl rfl rfl ?_; refine L_fn (gfl ⟨#[]⟩ 0 131 (fun w hw => gproveP _ (by decide) 0 0 131 (by decide) parse_empty w hw) w24 (hw.ext E024)) rfl ?_; rintro e w25 ⟨rfl, E25⟩; refine ⟨_, rfl, ?_⟩; have E025 := E024.trans E25; (refine Ls (q0m (v := .bool _) rfl rfl)<|m_B rfl ?_); refine q1u rfl rfl rfl ?_; refine L_fn (gfl ⟨#[103, 114, 111, 117, 112, 115, 32, 118, 97, 108, 117, 101]⟩ 0 140 (fun w hw => gproveB _ (by decide) 0 parse_groups w hw) w25 (hw.ext E025)) rfl ?_; rintro e w26 ⟨rfl, E26⟩; refine ⟨_, rfl, ?_⟩; (refine Ls (q0m (v := .bool _) rfl rfl)<|a_B rfl<|q0c<|tn<|q0s ?_); exact q0f rfl rfl (v := .bool true) rfl ⟨rfl, E025.trans E26⟩
end Go.Proofs.YtlggfbglpcegoaaGreatDoor
namespace Ce
theorem tk_le {α : Type} (l : List α) (k : Nat) : (l.take k).length ≤ k := by rw [List.length_take]; omega
structure Raw8 (c : Cert) : Prop where
  q : ∀ b ∈ c.q, b < 256
  root : c.root.length = 32 ∧ ∀ b ∈ c.root, b < 256
  sums : ∀ x ∈ c.sums, x < 18446744073709551616
  nodes : ∀ e ∈ c.nodes, e.length = 32 ∧ ∀ b ∈ e, b < 256
end Ce
namespace Go.Proofs.K
open Go.RowKit
end Go.Proofs.K
namespace Go.Proofs.YtlggfbglpcegoaaGreatDoor
open Go.RowKit Go.Proofs.K Go.ChangeShapes Go.WideShapes Go.ChangeAt
theorem seg {α : Type} (l : List α) (a k : Nat) : l.drop a = (l.drop a).take k ++ l.drop (a + k) := by
  rw [← List.drop_drop, List.take_append_drop]
section
variable {H : Type} {enc : TypeId × Value → H} {W : World} {base : Nat} {held : Bool}
def OpR (enc : TypeId × Value → H) (W : World) (base : Nat) (held : Bool) {α : Type} (size : Nat) (t : TypeId) (R : Rep α) (Q : α → Prop) : Prop :=
  ∀ (fuel : Nat) (cs : List Value) (x : DataW H × List MemPlace), cs.length = size → DataW.trod enc Tryz.prog W base (fun _ => true) held fuel t cs = some x → ∃ a, R (fun k => k < W.heap.size) W cs a ∧ Q a
theorem wfc_u8 {n : Int} (h : (Lit.int .u8 n).wf = true) : ∃ a : Nat, n = a ∧ a < 256 := by
  simp only [Lit.wf, Bool.and_eq_true, decide_eq_true_eq] at h; have h1 : IntKind.u8.min = 0 := by decide
  have h2 : IntKind.u8.max = 255 := by decide
  exact ⟨n.toNat, by omega, by omega⟩
theorem wfc_u64 {n : Int} (h : (Lit.int .u64 n).wf = true) : ∃ a : Nat, n = a ∧ a < 18446744073709551616 := by
  simp only [Lit.wf, Bool.and_eq_true, decide_eq_true_eq] at h; have h1 : IntKind.u64.min = 0 := by decide
  have h2 : IntKind.u64.max = 18446744073709551615 := by decide
  exact ⟨n.toNat, by omega, by omega⟩
theorem wfc_i64 {n : Int} (h : (Lit.int .i64 n).wf = true) : -9223372036854775808 ≤ n ∧ n ≤ 9223372036854775807 := by
  simp only [Lit.wf, Bool.and_eq_true, decide_eq_true_eq] at h; have h1 : IntKind.i64.min = -9223372036854775808 := by decide
  have h2 : IntKind.i64.max = 9223372036854775807 := by decide
  exact ⟨by omega, by omega⟩
theorem op_u64 : OpR enc W base held 1 32 (numR .u64) (· < 18446744073709551616) := fun fuel cs x _ h => by
  obtain ⟨n, rfl, _, hw⟩ := DataW.trod_int Tryz.underlying32 h; obtain ⟨a, rfl, ha⟩ := wfc_u64 hw; exact ⟨a, rfl, ha⟩
theorem op_sum : OpR enc W base held 1 2 sumR (· < 18446744073709551616) := fun fuel cs x _ h => by
  obtain ⟨n, rfl, _, hw⟩ := DataW.trod_int Tryz.underlying2 h; exact ⟨u64v n, ⟨n, rfl, rfl, wfc_i64 hw⟩, by unfold u64v; omega⟩
theorem op_sl {α : Type} [Inhabited α] {size : Nat} {t e : TypeId} {R : Rep α} {Q : α → Prop} (ht : Tryz.prog.underlying t = some (.slice e)) (hc : Tryz.prog.cellsOf e = size) (hs : 0 < size) (he : OpR enc W base held size e R Q) : OpR enc W base held 1 t (slR size R) (fun l => ∀ a ∈ l, Q a) := by
  intro fuel cs x _ h; rcases Go.Deep.open_slice ht h with ⟨rfl, _⟩ | ⟨a, len, cap, m, n, D, Pl, rfl, _, hlc, hcm, hm, _, hx⟩
  · exact ⟨[], q1a, fun _ h => by cases h⟩
  · have hm' : m = cap := (by simpa using hm); rw [hc] at hx; obtain ⟨F, hF⟩ := Go.Deep.choose_lt (α := List Value × α) (n := len) (p := fun i y => y.1.length = size ∧ (∀ r, r < size → W.cell? (a.add (i * size + r)) = y.1[r]?) ∧ R (fun k => k < W.heap.size) W y.1 y.2 ∧ Q y.2) (fun i hi => by
      obtain ⟨cs, h1, h2⟩ := hx i (by omega)
      obtain ⟨_, hl, hcs⟩ := World.cells?_some h1
      obtain ⟨b, hb, hq⟩ := he n cs _ hl h2
      exact ⟨(cs, b), hl, fun r hr => by rw [← Addr.add_add, hcs r hr], hb, hq⟩)
    have hll : ((List.range len).map fun i => (F i).2).length = len := (by simp); have hly : ((List.range len).map fun i => (F i).1).length = len := (by simp); have hys : ∀ y ∈ (List.range len).map (fun i => (F i).1), y.length = size := fun y hy => by
      obtain ⟨i, hi, rfl⟩ := List.mem_map.1 hy; exact (hF i (List.mem_range.1 hi)).1
    have hfl : ((List.range len).map fun i => (F i).1).flatten.length = len * size := by
      have : ∀ ys : List (List Value), (∀ y ∈ ys, y.length = size) → ys.flatten.length = ys.length * size := fun ys => by
        induction ys with
        | nil => intro _; simp
        | cons y ys ih => intro hy; rw [List.flatten_cons, List.length_append, hy y (List.mem_cons_self ..), ih (fun z hz => hy z (List.mem_cons_of_mem _ hz)), List.length_cons, Nat.succ_mul]; omega
      rw [this _ hys, hly]
    refine ⟨(List.range len).map fun i => (F i).2, ⟨_, rfl, (List.range len).map fun i => (F i).1, by rw [hly, hll], hys, ?_, fun i y b hy hb => ?_⟩, fun b hb => ?_⟩
    · rw [hll]; refine ⟨0, W.heap.size, fun k _ hk => hk, row_of_cells hfl hs hlc hcm fun j u hu => ?_⟩; have hj : j < len * size := (by rw [← hfl]; exact (List.getElem?_eq_some_iff.1 hu).1); have hi : j / size < len := Nat.div_lt_of_lt_mul (by rw [Nat.mul_comm]; exact hj); have hr : j % size < size := Nat.mod_lt _ hs; have hjj : j / size * size + j % size = j := (by rw [Nat.mul_comm]; exact Nat.div_add_mod _ _); have hy : ((List.range len).map fun i => (F i).1)[j / size]? = some (F (j / size)).1 := (by rw [List.getElem?_map, List.getElem?_range hi]; rfl); have := flat_at hys hy hr; rw [hjj, hu] at this; rw [← hjj, (hF _ hi).2.1 _ hr, this]
    · have hi : i < len := (by have := (List.getElem?_eq_some_iff.1 hy).1; rwa [hly] at this); rw [List.getElem?_map, List.getElem?_range hi] at hy hb; cases hy
      cases hb
      exact (hF i hi).2.2.1
    · obtain ⟨i, hi, rfl⟩ := List.mem_map.1 hb; exact (hF i (List.mem_range.1 hi)).2.2.2
theorem flds {t : TypeId} {fs : Array Field} {fuel : Nat} {cs : List Value} {x : DataW H × List MemPlace} (ht : Tryz.prog.underlying t = some (.struct fs)) (h : DataW.trod enc Tryz.prog W base (fun _ => true) held fuel t cs = some x) :
    ∃ n, ∀ (i off sz : Nat) (T : TypeId), (fs[i]?).map (fun f => (f.type, f.offset)) = some (T, off) → Tryz.prog.cellsOf T = sz → ∃ y, DataW.trod enc Tryz.prog W base (fun _ => true) held n T ((cs.drop off).take sz) = some y := by
  obtain ⟨xs, n, _, _, hlen, hxl, hf⟩ := DataW.trod_struct ht h; refine ⟨n, fun i off sz T hi hsz => ?_⟩; obtain ⟨f, hfi, he⟩ := Option.map_eq_some_iff.1 hi; cases he
  have hlt : i < xs.length := by rw [hxl]; exact (Array.getElem?_eq_some_iff.1 hfi).1
  have := hf i f hfi; rw [hsz, List.getElem?_eq_getElem hlt] at this; exact ⟨_, this⟩
theorem cl8 : Tryz.prog.cellsOf 5 = 1 := by kernel_rfl
theorem cl64 : Tryz.prog.cellsOf 32 = 1 := by kernel_rfl
theorem cli64 : Tryz.prog.cellsOf 2 = 1 := by kernel_rfl
theorem cli : Tryz.prog.cellsOf 3 = 1 := by kernel_rfl
theorem clS : Tryz.prog.cellsOf 9 = 1 := by kernel_rfl
theorem clE : Tryz.prog.cellsOf 34 = 2 := by kernel_rfl
theorem clD : Tryz.prog.cellsOf 23 = 32 := by kernel_rfl
theorem clL : Tryz.prog.cellsOf 100 = 6 := by kernel_rfl
theorem clRo : Tryz.prog.cellsOf 35 = 1 := by kernel_rfl
theorem clU : Tryz.prog.cellsOf 73 = 1 := by kernel_rfl
theorem clUU : Tryz.prog.cellsOf 36 = 1 := by kernel_rfl
theorem clI : Tryz.prog.cellsOf 26 = 1 := by kernel_rfl
theorem clDs : Tryz.prog.cellsOf 37 = 1 := by kernel_rfl
theorem clLs : Tryz.prog.cellsOf 29 = 1 := by kernel_rfl
theorem clRs : Tryz.prog.cellsOf 28 = 1 := by kernel_rfl
theorem clSh : Tryz.prog.cellsOf 25 = 4 := by kernel_rfl
theorem clPr : Tryz.prog.cellsOf 31 = 3 := by kernel_rfl
theorem clOp : Tryz.prog.cellsOf 39 = 1 := by kernel_rfl
theorem clPx : Tryz.prog.cellsOf 41 = 4 := by kernel_rfl
theorem op_ex : OpR enc W base held 2 34 exR E64 := by
  intro fuel cs x hl h; obtain ⟨n, hf⟩ := flds Tryz.underlying34 h; obtain ⟨y0, g0⟩ := hf 0 0 1 32 rfl cl64; obtain ⟨y1, g1⟩ := hf 1 1 1 32 rfl cl64; obtain ⟨a, ha, ha8⟩ := op_u64 n _ _ (by simp; omega) g0; obtain ⟨b, hb, hb8⟩ := op_u64 n _ _ (by simp; omega) g1; have ha : (cs.drop 0).take 1 = [.int .u64 (a : Nat)] := ha; have hb : (cs.drop 1).take 1 = [.int .u64 (b : Nat)] := hb; refine ⟨(a, b), ?_, ha8, hb8⟩; show cs = exC a b; have e := seg cs 0 1; rw [List.drop_zero, seg cs (0 + 1) 1, List.drop_of_length_le (i := 0 + 1 + 1) (by omega)] at e; rw [List.drop_zero] at ha; rw [e, ha, hb]; rfl
theorem op_dig : OpR enc W base held 32 23 (byR 32) (fun l => l.length = 32 ∧ ∀ b ∈ l, b < 256) := by
  intro fuel l x hl h; obtain ⟨xs, n, _, _, hlen, hxl, hf⟩ := DataW.trod_array Tryz.underlying23 h; have each : ∀ i, i < 32 → ∃ a : Nat, l[i]? = some (.int .u8 (a : Nat)) ∧ a < 256 := by
    intro i hi; have g : DataW.trod enc Tryz.prog W base (fun _ => true) held n 5 ((l.drop (i * Tryz.prog.cellsOf 5)).take (Tryz.prog.cellsOf 5)) = some (xs[i]'(by omega)) := (hf i hi).trans (List.getElem?_eq_getElem _); rw [cl8, Nat.mul_one] at g; obtain ⟨m, e, _, w⟩ := DataW.trod_int Tryz.underlying5 g; obtain ⟨m, rfl, hm⟩ := wfc_u8 w; refine ⟨m, ?_, hm⟩; have := congrArg (·[0]?) e; rw [List.getElem?_take_of_lt (by omega), List.getElem?_drop, Nat.add_zero] at this; simpa using this
  obtain ⟨F, hF⟩ : ∃ F : Nat → Nat, ∀ i, i < 32 → l[i]? = some (.int .u8 (F i : Nat)) ∧ F i < 256 := ⟨fun i => if hi : i < 32 then (each i hi).choose else 0, fun i hi => by simp only [hi, dite_true]; exact (each i hi).choose_spec⟩; refine ⟨(List.range 32).map F, ⟨?_, by simp⟩, by simp, fun x hx => ?_⟩
  · apply List.ext_getElem?; intro i; rcases Nat.lt_or_ge i 32 with hi | hi
    · rw [(hF i hi).1, q8o (show ((List.range 32).map F)[i]? = some (F i) by rw [List.getElem?_map, List.getElem?_range hi]; rfl)]
    · rw [List.getElem?_eq_none (by omega), List.getElem?_eq_none (by rw [q0v]; simp; omega)]
  · obtain ⟨i, hi, rfl⟩ := List.mem_map.1 hx; exact (hF i (List.mem_range.1 hi)).2
theorem op_ro : OpR enc W base held 1 35 (slR 2 exR) (fun l => ∀ e ∈ l, E64 e) := op_sl Tryz.underlying35 clE (by decide) op_ex
theorem op_rd : OpR enc W base held 1 28 (slR 1 (slR 2 exR)) (fun l => ∀ r ∈ l, ∀ e ∈ r, E64 e) := op_sl Tryz.underlying28 clRo (by decide) op_ro
theorem op_co : OpR enc W base held 1 36 (slR 1 (slR 1 (numR .u64))) (fun l => ∀ r ∈ l, ∀ e ∈ r, e < 18446744073709551616) := op_sl Tryz.underlying36 clU (by decide) (op_sl Tryz.underlying73 cl64 (by decide) op_u64)
theorem op_sums : OpR enc W base held 1 26 (slR 1 sumR) (fun l => ∀ e ∈ l, e < 18446744073709551616) := op_sl Tryz.underlying26 cli64 (by decide) op_sum
theorem op_digs : OpR enc W base held 1 37 (slR 32 (byR 32)) (fun l => ∀ e ∈ l, e.length = 32 ∧ ∀ b ∈ e, b < 256) := op_sl Tryz.underlying37 clD (by decide) op_dig
instance : Inhabited Ce.LP := ⟨⟨[], (0, 0), (0, 0), []⟩⟩
theorem op_lp : OpR enc W base held 6 100 lpR LpE := by
  intro fuel cs x hl h; obtain ⟨n, hf⟩ := flds Tryz.underlying100 h; obtain ⟨y0, g0⟩ := hf 0 0 1 28 rfl clRs; obtain ⟨y1, g1⟩ := hf 1 1 2 34 rfl clE; obtain ⟨y2, g2⟩ := hf 2 3 2 34 rfl clE; obtain ⟨y3, g3⟩ := hf 3 5 1 35 rfl clRo; obtain ⟨a, ha, qa⟩ := op_rd n _ _ (by simp; omega) g0; obtain ⟨b, hb, qb⟩ := op_ex n _ _ (by simp; omega) g1; obtain ⟨c, hc, qc⟩ := op_ex n _ _ (by simp; omega) g2; obtain ⟨d, hd, qd⟩ := op_ro n _ _ (by simp; omega) g3; have hb : (cs.drop 1).take 2 = exC b.1 b.2 := hb; have hc : (cs.drop 3).take 2 = exC c.1 c.2 := hc; obtain ⟨u, hu⟩ := q2j ha; obtain ⟨v, hv⟩ := q2j hd; rw [hu] at ha; rw [hv] at hd; refine ⟨⟨a, b, c, d⟩, ⟨u, v, ?_, ha, hd⟩, ⟨qa, qb, qc, qd⟩⟩; have e := seg cs 0 1; rw [List.drop_zero, seg cs (0 + 1) 2, seg cs (0 + 1 + 2) 2, seg cs (0 + 1 + 2 + 2) 1, List.drop_of_length_le (i := 0 + 1 + 2 + 2 + 1) (by omega)] at e; rw [List.drop_zero] at hu; rw [e, hu, hb, hc, hv]; rfl
theorem op_ls : OpR enc W base held 1 29 (slR 6 lpR) (fun l => ∀ e ∈ l, LpE e) := op_sl Tryz.underlying29 clL (by decide) op_lp
theorem z1g {α : Type} {size : Nat} {R : Rep α} {N : Nat → Prop} {w : World} {x : List Value} {l : List α} (h : slR size R N w x l) : ∃ v, x = [v] ∧ slR size R N w [v] l := by
  obtain ⟨v, rfl⟩ := q2j h; exact ⟨v, rfl, h⟩
set_option maxRecDepth 100000 in
theorem open_cert {v : Value} {d : DataW H} {p : List MemPlace} (h : DataW.Trod enc Tryz.prog W 0 (fun _ => true) true 43 v d p) :
    ∃ (c : Ce.Cert) (lg a b d e : Int) (qb : ByteArray) (s1 p1 p2 p3 b1 o1 o2 o3 o4 : Value), v = .agg (rawC c lg a b d e qb s1 p1 p2 p3 b1 o1 o2 o3 o4).toArray ∧ CerAt (fun k => k < W.heap.size) W c qb s1 p1 p2 p3 b1 o1 o2 o3 o4 ∧ RawE c ∧ Ce.Raw8 c := by
  obtain ⟨fuel, h⟩ := h; obtain ⟨_, _, _, _, hlen, _, _⟩ := DataW.trod_struct Tryz.underlying43 h; rw [show Tryz.prog.cellsOf 43 = 49 by kernel_rfl] at hlen; obtain ⟨cs, rfl, hl⟩ : ∃ l : List Value, v = .agg l.toArray ∧ l.length = 49 := by
    cases v with
    | agg a => exact ⟨a.toList, by simp, by simpa [Value.cells] using hlen⟩
    | _ => simp [Value.cells] at hlen
  have h : DataW.trod enc Tryz.prog W 0 (fun _ => true) true fuel 43 cs = some (d, p) := by simpa [Value.cells] using h
  obtain ⟨n, hf⟩ := flds Tryz.underlying43 h; obtain ⟨y0, g0⟩ := hf 0 0 1 9 rfl clS; obtain ⟨y1, g1⟩ := hf 1 1 1 3 rfl cli; obtain ⟨y2, g2⟩ := hf 2 2 32 23 rfl clD; obtain ⟨y3, g3⟩ := hf 3 34 4 25 rfl clSh; obtain ⟨y4, g4⟩ := hf 4 38 1 26 rfl clI; obtain ⟨y5, g5⟩ := hf 5 39 3 31 rfl clPr; obtain ⟨y6, g6⟩ := hf 6 42 1 28 rfl clRs; obtain ⟨y7, g7⟩ := hf 7 43 2 34 rfl clE; obtain ⟨y8, g8⟩ := hf 8 45 4 41 rfl clPx; obtain ⟨qb, e0, _, _⟩ := DataW.trod_string Tryz.underlying9 g0; obtain ⟨lg, e1, _, _⟩ := DataW.trod_int Tryz.underlying3 g1; obtain ⟨root, ⟨e2, rl⟩, _, r8⟩ := op_dig n _ _ (by simp; omega) g2; obtain ⟨n3, hf3⟩ := flds Tryz.underlying25 g3; obtain ⟨_, g30⟩ := hf3 0 0 1 3 rfl cli; obtain ⟨_, g31⟩ := hf3 1 1 1 3 rfl cli; obtain ⟨_, g32⟩ := hf3 2 2 1 3 rfl cli; obtain ⟨_, g33⟩ := hf3 3 3 1 3 rfl cli; obtain ⟨a, e30, _, _⟩ := DataW.trod_int Tryz.underlying3 g30; obtain ⟨b, e31, _, _⟩ := DataW.trod_int Tryz.underlying3 g31; obtain ⟨dd, e32, _, _⟩ := DataW.trod_int Tryz.underlying3 g32; obtain ⟨ee, e33, _, _⟩ := DataW.trod_int Tryz.underlying3 g33; obtain ⟨sums, h4, q4⟩ := op_sums n _ _ (by simp; omega) g4; obtain ⟨n5, hf5⟩ := flds Tryz.underlying31 g5; obtain ⟨_, g50⟩ := hf5 0 0 1 28 rfl clRs; obtain ⟨_, g51⟩ := hf5 1 1 1 29 rfl clLs; obtain ⟨_, g52⟩ := hf5 2 2 1 29 rfl clLs; obtain ⟨rows, h50, q50⟩ := op_rd n5 _ _ (by simp; omega) g50; obtain ⟨ps, h51, q51⟩ := op_ls n5 _ _ (by simp; omega) g51; obtain ⟨pz, h52, q52⟩ := op_ls n5 _ _ (by simp; omega) g52; obtain ⟨batch, h6, q6⟩ := op_rd n _ _ (by simp; omega) g6; obtain ⟨vv, e7, q7⟩ := op_ex n _ _ (by simp; omega) g7; obtain ⟨n8, hf8⟩ := flds Tryz.underlying41 g8; obtain ⟨_, g80⟩ := hf8 0 0 1 35 rfl clRo; obtain ⟨_, g81⟩ := hf8 1 1 1 35 rfl clRo; obtain ⟨_, g82⟩ := hf8 2 2 1 36 rfl clUU; obtain ⟨_, g83⟩ := hf8 3 3 1 39 rfl clOp; obtain ⟨n9, hf9⟩ := flds Tryz.underlying39 g83; obtain ⟨_, g90⟩ := hf9 0 0 1 37 rfl clDs; obtain ⟨orow, h80, q80⟩ := op_ro n8 _ _ (by simp; omega) g80; obtain ⟨ornd, h81, q81⟩ := op_ro n8 _ _ (by simp; omega) g81; obtain ⟨cols, h82, q82⟩ := op_co n8 _ _ (by simp; omega) g82; obtain ⟨nodes, h90, q90⟩ := op_digs n9 _ _ (by simp; omega) g90; clear g0 g1 g2 g3 g30 g31 g32 g33 g4 g5 g50 g51 g52 g6 g7 g8 g80 g81 g82 g83 g90 hf hf3 hf5 hf8 hf9 h; obtain ⟨s1, e4, h4⟩ := z1g h4; obtain ⟨p1, e50, h50⟩ := z1g h50; obtain ⟨p2, e51, h51⟩ := z1g h51; obtain ⟨p3, e52, h52⟩ := z1g h52; obtain ⟨b1, e6, h6⟩ := z1g h6; obtain ⟨o1, e80, h80⟩ := z1g h80; obtain ⟨o2, e81, h81⟩ := z1g h81; obtain ⟨o3, e82, h82⟩ := z1g h82; obtain ⟨o4, e90, h90⟩ := z1g h90; have e7 : (cs.drop 43).take 2 = exC vv.1 vv.2 := e7; refine ⟨⟨sb qb, 0, root, 0, 0, 0, 0, sums, rows, ps, pz, batch, vv, orow, ornd, cols, nodes⟩, lg, a, b, dd, ee, qb, s1, p1, p2, p3, b1, o1, o2, o3, o4, ?_, ⟨rfl, h4, h50, h51, h52, h6, h80, h81, h82, h90⟩, ⟨rl, q50, q51, q52, q6, q7, q80, q81, q82⟩, ⟨q9g qb, ⟨rl, r8⟩, q4, q90⟩⟩; have E3 : (cs.drop 34).take 4 = [.int .i64 a, .int .i64 b, .int .i64 dd, .int .i64 ee] := by
    generalize hS : (cs.drop 34).take 4 = S at *; have hSl : S.length = 4 := (by rw [← hS]; simp; omega); have e := seg S 0 1; rw [List.drop_zero, seg S (0 + 1) 1, seg S (0 + 1 + 1) 1, seg S (0 + 1 + 1 + 1) 1, List.drop_of_length_le (i := 0 + 1 + 1 + 1 + 1) (by omega)] at e; rw [List.drop_zero] at e30; rw [e, e30, e31, e32, e33]; rfl
  have E5 : (cs.drop 39).take 3 = [p1, p2, p3] := by
    generalize hS : (cs.drop 39).take 3 = S at *; have hSl : S.length = 3 := (by rw [← hS]; simp; omega); have e := seg S 0 1; rw [List.drop_zero, seg S (0 + 1) 1, seg S (0 + 1 + 1) 1, List.drop_of_length_le (i := 0 + 1 + 1 + 1) (by omega)] at e; rw [List.drop_zero] at e50; rw [e, e50, e51, e52]; rfl
  have E8 : (cs.drop 45).take 4 = [o1, o2, o3, o4] := by
    generalize hS : (cs.drop 45).take 4 = S at *; have hSl : S.length = 4 := (by rw [← hS]; simp; omega); generalize hZ : (S.drop 3).take 1 = Z at *; have hZl : Z.length = 1 := (by rw [← hZ]; simp; omega); have e := seg S 0 1; rw [List.drop_zero, seg S (0 + 1) 1, seg S (0 + 1 + 1) 1, seg S (0 + 1 + 1 + 1) 1, List.drop_of_length_le (i := 0 + 1 + 1 + 1 + 1) (by omega)] at e; rw [List.drop_zero] at e80 e90; rw [List.take_of_length_le (by omega)] at e90; rw [e, e80, e81, e82, hZ, e90]; rfl
  have e := seg cs 0 1; rw [List.drop_zero, seg cs (0 + 1) 1, seg cs (0 + 1 + 1) 32, seg cs (0 + 1 + 1 + 32) 4, seg cs (0 + 1 + 1 + 32 + 4) 1, seg cs (0 + 1 + 1 + 32 + 4 + 1) 3, seg cs (0 + 1 + 1 + 32 + 4 + 1 + 3) 1, seg cs (0 + 1 + 1 + 32 + 4 + 1 + 3 + 1) 2, seg cs (0 + 1 + 1 + 32 + 4 + 1 + 3 + 1 + 2) 4, List.drop_of_length_le (i := 0 + 1 + 1 + 32 + 4 + 1 + 3 + 1 + 2 + 4) (by omega)] at e; rw [List.drop_zero] at e0; rw [e0, e1, e2, E3, e4, E5, e6, e7, E8] at e; rw [e]; unfold rawC dC exC; simp
end
end Go.Proofs.YtlggfbglpcegoaaGreatDoor
namespace Go.Proofs.K
open Go.ChangeShapes
theorem q8g {a : Assume} {C : Checked} {os : Os} {f : FuncId} {r : Reach} {Pre : World → Array Value → Prop} {Post : World → Array Value → Value → World → Prop} (h : ReturnsInHanded a C os f r Pre Post) (he : C.prog.mayEnter = true) :
    ReturnsInOpen a none C os f r Input.okWide Pre Post (leavingAtReturn C.prog) nothingAlways := by
  obtain ⟨g0, g1, g2, g3, all⟩ := h he; refine ⟨g0, g1, g2, g3, fun w tape i hf => ?_⟩; obtain ⟨n, v, w', hn, hc, hr, hp, ⟨j, last, hj, hs, hq, hh, hE⟩, ha⟩ := all w tape i hf; exact ⟨n, v, w', hn, hc, hr, hp, ⟨j, last, hj, hs, hh, onlyLeaving_of_quiet hq, hE⟩, ha⟩
theorem z1p {p : Pinned} {s : OpenSpec} {c : OpenClaim} (f : FuncId) (fn : Func)
    (hn : c.program = p.name) (hs : c.sum = p.sum) (hsp : c.spec = s.name)
    (hstart : c.start = .entering) (hout : c.outside = []) (hin : c.inits = []) (hun : c.under = none) (hi4 : c.initsInPlace = [] ∧ c.initsUnfollowed = false ∧ c.initsRecurse = false ∧ c.initsNamed = [] ∧ c.initsPassed = []) (hnb : c.noBlocks = false) (hlv : c.leaving = true) (hfo : c.followed = none) (hnar : c.narrowed = s.cond.isSome) (hstill : c.still = false)
    (hfn : p.checked.prog.funcNamed c.func = some f) (hf : p.checked.prog.funcs[f]? = some fn)
    (closed : joinedFacts p.checked.prog f fn s.bare c = true)
    (hinst : fn.isInstance p.checked.prog c.origin c.targs) (hwrap : fn.isWrapper p.checked.prog c.wrapper c.mainSum)
    (h : ∀ os : Os, os.Started → ∀ (H : Type) (enc : TypeId × Value → H), (∀ a b, enc a = enc b → a = b) → ∀ F : Stop.Interp,
      ReturnsInHanded c.assume p.checked os f .any (c.pre enc p.checked.prog fn s) ((s.at F).post enc p.checked.prog fn c.apart c.fresh c.handsOn c.again)) : c.holds p s := by
  simp only [joinedFacts, Bool.and_eq_true, beq_iff_eq, Array.all_eq_true_iff_forall_mem, List.all_eq_true, decide_eq_true_eq] at closed; obtain ⟨⟨⟨⟨⟨⟨⟨⟨⟨⟨⟨⟨⟨⟨⟨⟨⟨⟨⟨⟨⟨⟨⟨⟨⟨⟨⟨⟨⟨⟨⟨k1, k2⟩, k3⟩, k4⟩, k5⟩, k6⟩, k7⟩, k8⟩, k9⟩, k10⟩, k11⟩, k12⟩, k13⟩, k14⟩, k15⟩, k16⟩, k17⟩, k17b⟩, k18⟩, k19⟩, k20⟩, k21⟩, k22⟩, k23⟩, k23b⟩, k24⟩, k24b⟩, k24c⟩, k25⟩, k26⟩, k27⟩, k28⟩ := closed; have hq : ∀ os : Os, Stop.quiet p.checked.prog os := fun os k hk => by rw [k9] at hk; cases hk
  refine ⟨k1, hn, hs, hsp, k2, k3, by unfold OpenClaim.startFits; rw [hstart]; exact k24, by unfold OpenClaim.startTold; rw [hstart]; exact ⟨hin, hun, hi4⟩, f, fn, hfn, hf, ⟨k4, k19⟩, (fun hb => by rw [hnb] at hb; cases hb), by unfold OpenClaim.namedList; rw [hfo]; exact k5, hinst, hwrap,
    k6.trans k7.symm, ⟨k8.trans k9.symm, by unfold Program.envWorded; rw [k9]; rfl, k23b⟩, k10, k11, k12, k13, k14, ⟨k15, k27, k28⟩, ⟨k16, k20⟩, ⟨k17, k21, k25, k26⟩, ⟨k22, k24b, k24c, k17b⟩, (by rw [hout, hnar]; cases hsh : c.shortTexts with | none => simp | some _ => rw [hsh] at k23; cases k23), fun n hn' => varReadable_some (k18 n hn'),
    ⟨_, by unfold OpenClaim.world; rw [hout, hstart]; exact WideRow.started_initial, hq _⟩, [], by unfold OpenClaim.lists; rw [hfo], fun os st _ H enc inj => ?_⟩
  have st' : os.Started := by unfold OpenClaim.world at st; rw [hout, hstart] at st; exact st
  rw [OpenClaim.post_not_still hstill]; unfold OpenClaim.form; rw [hstart, k6]; intro F; have e1 : c.okInput = Input.okWide := by unfold OpenClaim.okInput; rw [hnb]
  have e2 : c.atReturn p.checked.prog = leavingAtReturn p.checked.prog := by unfold OpenClaim.atReturn; rw [hlv]
  have e3 : c.always p.checked.prog [] = nothingAlways := by unfold OpenClaim.always; rw [hfo]
  have e4 : s.post enc p.checked.prog fn F c.outside c.apart c.fresh c.handsOn c.again = (s.at F).post enc p.checked.prog fn c.apart c.fresh c.handsOn c.again := by rw [hout]; rfl
  rw [e1, e2, e3]; show ReturnsInOpen _ _ _ _ _ _ _ _ (s.post enc p.checked.prog fn F c.outside c.apart c.fresh c.handsOn c.again) _ _; rw [e4]; exact q8g (h os st' H enc inj F) k24
theorem tied_goes {p : Pinned} {s : OpenSpec} {c : OpenClaim} (kinds : List LaidKind) (tests : Bool) (har : Bool × String) (lk : Bool)
    (hc : c.holds p s) (hw : c.wfByText s = true) (htie : c.laidByTextAt .later p kinds tests)
    (hst : c.start = .entering) (hnb : c.noBlocks = false ∧ c.again = false) (hm : p.checked.prog.mainIs = some (har.1, har.2.toList)) (hn : (!har.1 && har.2.isEmpty && !lk) = false)
    (hl : ∀ f fn, p.checked.prog.funcNamed c.func = some f → p.checked.prog.funcs[f]? = some fn → lk = p.checked.prog.looks [] ∧ ∀ (j : Nat) t, fn.params[j]? = some t → p.checked.prog.wantsStandIn t = false)
    (hg : true = c.goesBy p.checked.prog) :
    Claim7.holds p (.plain s) { stood := { row := c, standIns := [], harness := har, looks := lk }, kinds := [], alts := [], goes := true, laidByText := true, laidKinds := kinds, laidTests := tests, laidLooks := .later } := by
  have h6 : ∀ r : OpenClaim, Claim7.isSixth { stood := { row := r, standIns := [], harness := har, looks := lk }, kinds := [] } = false := fun r => by simpa [Claim7.isSixth] using hn
  exact ⟨Claim7.tied_new_at .later kinds tests (Claim7.new_of_sixth hc har lk hst hnb hm (h6 c) hl) hw, (fun D hD => by cases hD), htie, (fun h => by cases h), hg⟩
end Go.Proofs.K
namespace Go.Proofs.YtlggfbglpcegoaaGreatDoor
open Go.RowKit Go.Proofs.K Go.ChangeShapes Go.WideShapes Go.ChangeAt
section
variable {H : Type} {enc : TypeId × Value → H} {W : World} {v : Value} {d : DataW H} {p : List MemPlace} {b0 : Nat}
end
end Go.Proofs.YtlggfbglpcegoaaGreatDoor
namespace Go.Proofs.YtlggfbglpcegoaaGreatDoor.start22
open Go
set_option maxRecDepth 100000
theorem cl : Tryz.prog.closure 3 = [3, 4, 11, 26, 27, 57, 97, 56, 58, 98, 59, 61, 60, 63, 66, 99, 67, 62, 65, 64, 69, 101, 100, 68, 70, 12, 28, 71, 102, 150, 151, 254, 255, 256, 257, 153, 152, 154, 103, 155, 104, 156, 72, 105, 106, 107, 157, 108, 158, 73, 74, 109, 159, 247, 223, 300, 301, 258, 328, 395, 259, 329, 261, 331, 260, 330, 160, 262, 332, 333, 263, 334, 335, 336, 396, 428, 413, 436, 437, 429, 445, 397, 430, 431, 446, 449, 450, 286, 345, 234, 312, 379, 131, 217, 432, 111, 163, 267, 164, 110, 162, 266, 53, 93, 25, 54, 94, 52, 55, 95, 96, 161, 264, 265, 13, 30, 29, 31, 75, 32, 34, 33, 36, 39, 76, 40, 35, 38, 37, 42, 77, 41, 43, 14, 15, 16, 44, 45, 46, 79, 78, 47, 48, 49, 80, 17, 50, 81, 112, 133, 165, 113, 170, 270, 339, 171, 172, 271, 166, 134, 114, 173, 167, 268, 337, 398, 433, 447, 448, 338, 399, 434, 400, 401, 135, 218, 295, 365, 366, 410, 411, 367, 368, 412, 435, 402, 168, 269, 273, 169, 82, 115, 174, 175, 272, 176, 177, 116, 178, 274, 275, 341, 277, 117, 340, 403, 276, 342, 404, 179, 180, 181, 182, 278, 343, 183, 83, 118, 119, 184, 185, 279, 193, 285, 191, 186, 280, 187, 281, 121, 189, 122, 190, 192, 282, 284, 283, 344, 120, 188, 139, 233, 123, 194, 124, 84, 125, 195, 201, 196, 197, 203, 204, 126, 198, 199, 127, 200, 202, 205, 206, 128, 207, 208, 209, 210, 211, 287, 85, 129, 212, 288, 130, 214, 216, 215, 293, 294, 364, 213, 289, 346, 347, 348, 349, 350, 351, 352, 405, 353, 406, 354, 355, 407, 356, 408, 357, 358, 290, 291, 292, 359, 360, 361, 409, 362, 363, 86, 132, 87, 136, 219, 296, 369, 297, 370, 220, 221, 89, 10, 7, 6, 24, 23, 8, 88, 138, 231, 147, 245, 232, 140, 235, 236, 137, 222, 298, 299, 224, 91, 145, 146, 226, 225, 238, 314, 380, 242, 303, 371, 228, 304, 302, 227, 229, 142, 241, 243, 318, 317, 144, 244, 319, 381, 230, 305, 239, 372, 415, 438, 414, 373, 416, 439, 306, 374, 417, 440, 418, 441, 307, 308, 375, 419, 309, 310, 376, 311, 377, 378, 420, 442, 443, 90, 141, 237, 313, 240, 315, 316, 143, 92, 148, 246, 320, 383, 382, 421, 321, 248, 249, 250, 322, 384, 323, 251, 324, 325, 385, 386, 422, 149, 252, 326, 253, 327, 387, 388, 423, 389, 424, 425, 390, 426, 427, 444, 391, 392, 393, 394, 5, 18, 51, 19, 21, 20, 22, 9] := by kernel_rfl
theorem f1 : (Rows.certificateStartRow.inPlace == Tryz.prog.inPlace 3) = true := by unfold Program.inPlace; rw [cl]; kernel_rfl
theorem f2 : (Rows.certificateStartRow.unfollowed == Tryz.prog.unfollowed 3) = true := by unfold Program.unfollowed; rw [cl]; kernel_rfl
theorem f3 : (Rows.certificateStartRow.recurses == Tryz.prog.recurses 3) = true := by unfold Program.recurses; rw [← eq_of_beq f2]; rfl
theorem f4 : (Rows.certificateStartRow.named == Tryz.prog.varsNamed 3) = true := by unfold Program.varsNamed; rw [cl]; kernel_rfl
theorem named : Tryz.prog.funcNamed Rows.certificateStartRow.func = some 3 := by kernel_rfl
theorem goes : true = Rows.certificateStartRow.goesBy Tryz.prog := by
  unfold OpenClaim.goesBy Program.goesAt Program.goesFrom; rw [named, Option.any_some]; unfold Program.goes; rw [cl]; kernel_rfl
theorem and2 {a b : Bool} (h : a = true) (g : b = true) : (a && b) = true := by rw [h, g]; rfl
theorem k0 : (Rows.certificateStartRow.wf (OpenSpec.ofChange (OpenSpec.ofChange Rows.certificateStartSpec).bare)) = true := by kernel_rfl
theorem k1 : (laidOutB Tryz.prog) = true := by kernel_rfl
theorem k2 : (mapsRowed Tryz.prog) = true := by kernel_rfl
theorem k3 : (Tryz.f3.params.all (Tryz.prog.readableRec ·)) = true := by kernel_rfl
theorem k4 : (namedTie Tryz.prog Rows.certificateStartRow.named (OpenSpec.ofChange Rows.certificateStartSpec).bare.vars) = true := by kernel_rfl
theorem k5 : ((Rows.certificateStartRow.stops == [])) = true := by kernel_rfl
theorem k6 : ((Tryz.prog.stops == [])) = true := by kernel_rfl
theorem k7 : ((Rows.certificateStartRow.knobs == [])) = true := by kernel_rfl
theorem k8 : ((Tryz.prog.stopKnobs == [])) = true := by kernel_rfl
theorem k13 : ((Rows.certificateStartRow.maps == (Tryz.f3.params.toList ++ (OpenSpec.ofChange Rows.certificateStartSpec).bare.plain.varTypes Tryz.prog).any (Tryz.prog.mapsRec ·))) = true := by kernel_rfl
theorem k14 : ((Rows.certificateStartRow.ifaces == (Tryz.f3.params.toList ++ (OpenSpec.ofChange Rows.certificateStartSpec).bare.plain.varTypes Tryz.prog).any (Tryz.prog.ifacesRec ·))) = true := by kernel_rfl
theorem k15 : ((Rows.certificateStartRow.mapsOut == Tryz.prog.mapsAmong Tryz.f3.resultTypes.toList)) = true := by kernel_rfl
theorem k16 : ((Rows.certificateStartRow.loops == (Tryz.f3.params.toList ++ (OpenSpec.ofChange Rows.certificateStartSpec).bare.plain.varTypes Tryz.prog).any (Tryz.prog.loopsFrom ·))) = true := by kernel_rfl
theorem k17 : ((Rows.certificateStartRow.wideKeys == (Tryz.f3.params.toList ++ (OpenSpec.ofChange Rows.certificateStartSpec).bare.plain.varTypes Tryz.prog ++ Tryz.f3.resultTypes.toList).any (Tryz.prog.wideKeysFrom ·))) = true := by kernel_rfl
theorem k18 : ((OpenSpec.ofChange Rows.certificateStartSpec).bare.vars.all (Tryz.prog.varReadable ·)) = true := by kernel_rfl
theorem k19 : (Tryz.f3.resultTypes.all (fun t => Tryz.prog.readableRec t && decide (t < Tryz.prog.types.size))) = true := by kernel_rfl
theorem k20 : ((Rows.certificateStartRow.ifacesOut == Tryz.f3.resultTypes.toList.any (Tryz.prog.ifacesRec ·))) = true := by kernel_rfl
theorem k21 : ((Rows.certificateStartRow.loopsOut == Tryz.f3.resultTypes.toList.any (Tryz.prog.loopsFrom ·))) = true := by kernel_rfl
theorem k22 : ((Rows.certificateStartRow.plainKeys == Tryz.prog.plainKeys)) = true := by kernel_rfl
theorem k23 : (Rows.certificateStartRow.shortTexts.isNone) = true := by kernel_rfl
theorem k24 : (Tryz.prog.stopsHeard) = true := by kernel_rfl
theorem k25 : (Tryz.prog.mayEnter) = true := by kernel_rfl
theorem k26 : ((Rows.certificateStartRow.lifted == Tryz.prog.liftsFinal)) = true := by kernel_rfl
theorem k27 : ((Tryz.prog.make == some Rows.certificateStartRow.make)) = true := by kernel_rfl
theorem k28 : ((Rows.certificateStartRow.kinds == (if Rows.certificateStartRow.domain.isEmpty then [] else Tryz.f3.params.toList.map fun t => match Tryz.prog.underlying t with | some (.int k) => some k | _ => none))) = true := by kernel_rfl
theorem k29 : ((Rows.certificateStartRow.pinned == Rows.certificateStartRow.pinnedBy)) = true := by kernel_rfl
theorem k30 : ((Rows.certificateStartRow.veiled == (Tryz.f3.params.toList ++ (OpenSpec.ofChange Rows.certificateStartSpec).bare.plain.varTypes Tryz.prog ++ Tryz.f3.resultTypes.toList).any (Tryz.prog.veiledRec ·))) = true := by kernel_rfl
theorem k31 : (Rows.certificateStartRow.veiledFits Tryz.prog Tryz.f3.params.toList (Tryz.f3.params.toList ++ (OpenSpec.ofChange Rows.certificateStartSpec).bare.plain.varTypes Tryz.prog ++ Tryz.f3.resultTypes.toList)) = true := by kernel_rfl
theorem closed : joinedFacts Tryz.prog 3 Tryz.f3 (OpenSpec.ofChange Rows.certificateStartSpec).bare Rows.certificateStartRow = true := by
  unfold joinedFacts; exact and2 (and2 (and2 (and2 (and2 (and2 (and2 (and2 (and2 (and2 (and2 (and2 (and2 (and2 (and2 (and2 (and2 (and2 (and2 (and2 (and2 (and2 (and2 (and2 (and2 (and2 (and2 (and2 (and2 (and2 (and2 k0 k1) k2) k3) k4) k5) k6) k7) k8) f1) f2) f3) f4) k13) k14) k15) k16) k17) k18) k19) k20) k21) k22) k23) k24) k25) k26) k27) k28) k29) k30) k31
end Go.Proofs.YtlggfbglpcegoaaGreatDoor.start22
namespace Go.Proofs.Sha
def rotr (x k : Nat) : Nat := (x / 2 ^ k) ||| (x * 2 ^ (32 - k) % 4294967296)
def ch (e f g : Nat) : Nat := (e &&& f) ^^^ ((4294967295 - e) &&& g)
def maj (a b c : Nat) : Nat := (a &&& b) ||| (a &&& c) ||| (b &&& c)
def be32 (b : List Nat) (i : Nat) : Nat := b.getD (4 * i) 0 * 16777216 + b.getD (4 * i + 1) 0 * 65536 + b.getD (4 * i + 2) 0 * 256 + b.getD (4 * i + 3) 0
def sg0 (x : Nat) : Nat := rotr x 7 ^^^ rotr x 18 ^^^ x / 8
def sg1 (x : Nat) : Nat := rotr x 17 ^^^ rotr x 19 ^^^ x / 1024
def wnext (b l : List Nat) (i : Nat) : Nat := if i < 16 then be32 b i else (l.getD (i - 16) 0 + sg0 (l.getD (i - 15) 0) + l.getD (i - 7) 0 + sg1 (l.getD (i - 2) 0)) % 4294967296
def sched (b : List Nat) : Nat → List Nat
  | 0 => []
  | i + 1 => sched b i ++ [wnext b (sched b i) i]
structure S8 where
  a : Nat
  b : Nat
  c : Nat
  d : Nat
  e : Nat
  f : Nat
  g : Nat
  h : Nat
def S8.list (s : S8) : List Nat := [s.a, s.b, s.c, s.d, s.e, s.f, s.g, s.h]
def t1 (s : S8) (k w : Nat) : Nat := (s.h + (rotr s.e 6 ^^^ rotr s.e 11 ^^^ rotr s.e 25) + ch s.e s.f s.g + k + w) % 4294967296
def t2 (s : S8) : Nat := ((rotr s.a 2 ^^^ rotr s.a 13 ^^^ rotr s.a 22) + maj s.a s.b s.c) % 4294967296
def round (s : S8) (k w : Nat) : S8 := ⟨(t1 s k w + t2 s) % 4294967296, s.a, s.b, s.c, (s.d + t1 s k w) % 4294967296, s.e, s.f, s.g⟩
def ks : List Nat := [1116352408, 1899447441, 3049323471, 3921009573, 961987163, 1508970993, 2453635748, 2870763221, 3624381080, 310598401, 607225278, 1426881987, 1925078388, 2162078206, 2614888103, 3248222580, 3835390401, 4022224774, 264347078, 604807628, 770255983, 1249150122, 1555081692, 1996064986, 2554220882, 2821834349, 2952996808, 3210313671, 3336571891, 3584528711, 113926993, 338241895, 666307205, 773529912, 1294757372, 1396182291, 1695183700, 1986661051, 2177026350, 2456956037, 2730485921, 2820302411, 3259730800, 3345764771, 3516065817, 3600352804, 4094571909, 275423344, 430227734, 506948616, 659060556, 883997877, 958139571, 1322822218, 1537002063, 1747873779, 1955562222, 2024104815, 2227730452, 2361852424, 2428436474, 2756734187, 3204031479, 3329325298]
def iv : S8 := ⟨1779033703, 3144134277, 1013904242, 2773480762, 1359893119, 2600822924, 528734635, 1541459225⟩
def rounds (s : S8) (ws : List Nat) : Nat → S8
  | 0 => s
  | i + 1 => round (rounds s ws i) (ks.getD i 0) (ws.getD i 0)
def addS (s t : S8) : S8 := ⟨(s.a + t.a) % 4294967296, (s.b + t.b) % 4294967296, (s.c + t.c) % 4294967296, (s.d + t.d) % 4294967296, (s.e + t.e) % 4294967296, (s.f + t.f) % 4294967296, (s.g + t.g) % 4294967296, (s.h + t.h) % 4294967296⟩
def compress (s : S8) (b : List Nat) : S8 := addS s (rounds s (sched b 64) 64)
def blocks (p : List Nat) : Nat → S8
  | 0 => iv
  | i + 1 => compress (blocks p i) ((p.drop (64 * i)).take 64)
def zeros (n : Nat) : Nat := (119 - n % 64) % 64
def lenBytes (n : Nat) : List Nat := (List.range 8).map fun i => (n * 8 / 2 ^ (56 - 8 * i)) % 256
def pad (l : List Nat) : List Nat := l ++ [128] ++ List.replicate (zeros l.length) 0 ++ lenBytes l.length
def digest (s : S8) : List Nat := (List.range 32).map fun i => s.list.getD (i / 4) 0 / 2 ^ (24 - 8 * (i % 4)) % 256
def sum (l : List Nat) : List Nat := digest (blocks (pad l) ((pad l).length / 64))
def S8.ok (s : S8) : Prop := s.a < 4294967296 ∧ s.b < 4294967296 ∧ s.c < 4294967296 ∧ s.d < 4294967296 ∧ s.e < 4294967296 ∧ s.f < 4294967296 ∧ s.g < 4294967296 ∧ s.h < 4294967296
theorem rotr_lt {x k : Nat} (hx : x < 4294967296) : rotr x k < 4294967296 := by
  have h1 : x / 2 ^ k < 2 ^ 32 := Nat.lt_of_le_of_lt (Nat.div_le_self _ _) hx; have h2 : x * 2 ^ (32 - k) % 4294967296 < 2 ^ 32 := Nat.mod_lt _ (by omega); exact Nat.or_lt_two_pow h1 h2
theorem xor_lt {a b : Nat} (ha : a < 4294967296) (hb : b < 4294967296) : a ^^^ b < 4294967296 := Nat.xor_lt_two_pow (n := 32) ha hb
theorem and_lt {a b : Nat} (hb : b < 4294967296) : a &&& b < 4294967296 := Nat.and_lt_two_pow (n := 32) _ hb
theorem sched_len (b : List Nat) (i : Nat) : (sched b i).length = i := by
  induction i with
  | zero => rfl
  | succ i ih => simp [sched, ih]
def bytesOk (l : List Nat) : Prop := ∀ x ∈ l, x < 256
theorem getD_lt {l : List Nat} {B i : Nat} (h : ∀ x ∈ l, x < B) (hB : 0 < B) : l.getD i 0 < B := by
  rw [List.getD_eq_getElem?_getD]; cases hi : l[i]? with
  | none => exact hB
  | some x => exact h x (List.mem_of_getElem? hi)
theorem be32_lt {b : List Nat} (h : bytesOk b) (i : Nat) : be32 b i < 4294967296 := by
  have h0 := getD_lt (i := 4 * i) h (by omega); have h1 := getD_lt (i := 4 * i + 1) h (by omega); have h2 := getD_lt (i := 4 * i + 2) h (by omega); have h3 := getD_lt (i := 4 * i + 3) h (by omega); unfold be32; omega
theorem wnext_lt {b l : List Nat} (h : bytesOk b) (i : Nat) : wnext b l i < 4294967296 := by
  unfold wnext; split
  · exact be32_lt h i
  · exact Nat.mod_lt _ (by omega)
theorem sched_ok {b : List Nat} (h : bytesOk b) (i : Nat) : ∀ x ∈ sched b i, x < 4294967296 := by
  induction i with
  | zero => intro x hx; simp [sched] at hx
  | succ i ih =>
    intro x hx; simp only [sched, List.mem_append, List.mem_singleton] at hx; rcases hx with hx | rfl
    · exact ih x hx
    · exact wnext_lt h i
theorem round_ok {s : S8} (h : s.ok) (k w : Nat) : (round s k w).ok := by
  obtain ⟨h1, h2, h3, h4, h5, h6, h7, h8⟩ := h; exact ⟨Nat.mod_lt _ (by omega), h1, h2, h3, Nat.mod_lt _ (by omega), h5, h6, h7⟩
theorem rounds_ok {s : S8} (h : s.ok) (ws : List Nat) (i : Nat) : (rounds s ws i).ok := by
  induction i with
  | zero => exact h
  | succ i ih => exact round_ok ih _ _
theorem addS_ok (s t : S8) : (addS s t).ok := by
  refine ⟨?_, ?_, ?_, ?_, ?_, ?_, ?_, ?_⟩ <;> exact Nat.mod_lt _ (by omega)
theorem iv_ok : iv.ok := by unfold S8.ok iv; decide
theorem blocks_ok (p : List Nat) (i : Nat) : (blocks p i).ok := by
  cases i with
  | zero => exact iv_ok
  | succ i => exact addS_ok _ _
theorem list_len (s : S8) : s.list.length = 8 := rfl
theorem pad_mod (n : Nat) : (n + 1 + zeros n) % 64 = 56 := by unfold zeros; omega
theorem pad_len (l : List Nat) : (pad l).length = l.length + 1 + zeros l.length + 8 := by simp [pad, lenBytes]; omega
theorem digest_len (s : S8) : (digest s).length = 32 := by simp [digest]
theorem sum_len (l : List Nat) : (sum l).length = 32 := digest_len _
end Go.Proofs.Sha
namespace Go.Proofs.YtlggfbglpcegoaaGreatDoor
open Go.RowKit Go.Proofs.K
theorem sg_walk (x a b c : Nat) (hx : x < 4294967296) (hc : c ≤ 32) : bits BinOp.xor IntKind.u32 (bits BinOp.xor IntKind.u32 ((Sha.rotr x a : Nat) : Int) ((Sha.rotr x b : Nat) : Int)) ((x : Int).fdiv (2 ^ min (Int.toNat (c : Nat)) IntKind.u32.bits)) = ((Sha.rotr x a ^^^ Sha.rotr x b ^^^ x / 2 ^ c : Nat) : Int) := by
  rw [q2w _ _ (Sha.rotr_lt hx) (Sha.rotr_lt hx), show IntKind.u32.bits = 32 from rfl, show min (Int.toNat ((c : Nat) : Int)) 32 = c by omega, z1s,
    q2w _ _ (Sha.xor_lt (Sha.rotr_lt hx) (Sha.rotr_lt hx)) (Nat.lt_of_le_of_lt (Nat.div_le_self _ _) hx)]
theorem wr3 (a b c d : Nat) : IntKind.u32.wrap (IntKind.u32.wrap (IntKind.u32.wrap ((a : Int) + (b : Nat)) + (c : Nat)) + (d : Nat)) = (((a + b + c + d) % 4294967296 : Nat) : Int) := by
  simp only [IntKind.wrap_u32]; omega
theorem wr2 (a b : Nat) : IntKind.u32.wrap ((a : Int) + (b : Nat)) = (((a + b) % 4294967296 : Nat) : Int) := by
  simp only [IntKind.wrap_u32]; omega
theorem inv_walk (e : Nat) (he : e < 4294967296) : IntKind.u32.wrap (4294967295 - (e : Int)) = ((4294967295 - e : Nat) : Int) := by
  simp only [IntKind.wrap_u32]; omega
theorem wr4 (a b c d e : Nat) : IntKind.u32.wrap (IntKind.u32.wrap (IntKind.u32.wrap (IntKind.u32.wrap ((a : Int) + (b : Nat)) + (c : Nat)) + (d : Nat)) + (e : Nat)) = (((a + b + c + d + e) % 4294967296 : Nat) : Int) := by
  simp only [IntKind.wrap_u32]; omega
theorem rot3_walk (x a b c : Nat) (hx : x < 4294967296) : bits BinOp.xor IntKind.u32 (bits BinOp.xor IntKind.u32 ((Sha.rotr x a : Nat) : Int) ((Sha.rotr x b : Nat) : Int)) ((Sha.rotr x c : Nat) : Int) = ((Sha.rotr x a ^^^ Sha.rotr x b ^^^ Sha.rotr x c : Nat) : Int) := by
  rw [q2w _ _ (Sha.rotr_lt hx) (Sha.rotr_lt hx), q2w _ _ (Sha.xor_lt (Sha.rotr_lt hx) (Sha.rotr_lt hx)) (Sha.rotr_lt hx)]
theorem t1_walk (R : Sha.S8) (k w : Nat) (h : R.ok) : IntKind.u32.wrap (IntKind.u32.wrap (IntKind.u32.wrap (IntKind.u32.wrap ((R.h : Int) + bits BinOp.xor IntKind.u32 (bits BinOp.xor IntKind.u32 ((Sha.rotr R.e 6 : Nat) : Int) ((Sha.rotr R.e 11 : Nat) : Int)) ((Sha.rotr R.e 25 : Nat) : Int)) +
      bits BinOp.xor IntKind.u32 (bits BinOp.and IntKind.u32 (R.e : Int) (R.f : Int)) (bits BinOp.and IntKind.u32 (IntKind.u32.wrap (4294967295 - (R.e : Int))) (R.g : Int))) + (k : Int)) + (w : Int)) = ((Sha.t1 R k w : Nat) : Int) := by
  obtain ⟨ra, rb, rc, rd, re, rf, rg, rh⟩ := h; rw [rot3_walk _ _ _ _ re, inv_walk _ re, q4i _ _ re rf, q4i _ _ (by omega) rg, q2w _ _ (Sha.and_lt rf) (Sha.and_lt rg), wr4]; rfl
set_option maxHeartbeats 1000000 in
theorem bytes (d : List Nat) (hd : d.length = 32) (w : World) :
    Calls Tryz.prog 9 #[.agg (ints .u8 d).toArray] w fun e w' => ∃ q, e = .returned q ∧ Ext w w' ∧ w'.ownsRow w.heap.size 5 1 q 32 (ints .u8 d) := by
  refine q0k Tryz.func9 rfl Tryz.ntmps9 rfl ?_; (refine q0b<|q0a ?_); refine q3k (l := ints .u8 d) rfl ?_; intro g1 w1 B1 hg1 E1 hs1; (refine a_S rfl<|q0c<|tn<|q0b<|q0a ?_); refine q8q ?_; intro q1 w2 E2 hs2 o1; (refine Ls (q0i (v := q1) rfl)<|q0c<|tn<|q0b<|q0b<|q0a<|a_I rfl<|q0c<|tn<|q0j ?_); refine q1k (fun q f w' => ∃ k v', q = 32 - k ∧ k ≤ 32 ∧ f 1 = .pointer (some ⟨g1, 0, none⟩) ∧ f 3 = v' ∧ f 4 = .int .i64 (k : Nat) ∧ w'.ownsRow (g1 + 1) 5 1 v' k (ints .u8 (d.take k)) ∧ Ext w1 w') 32 ?_ ?_
  · exact ⟨0, q1, rfl, by omega, rfl, rfl, rfl, q7j o1 (by omega), E2⟩
  · rintro q f wr ⟨k, v', rfl, hk, h1, h3, h4, ho, E⟩; rw [fold h1, fold h3, fold h4]; (refine q0b<|q0b<|q0a<|m_I rfl<|Ls (q2f rfl rfl)<|q0c<|tn ?_); refine q1b rfl (fun h => ?_) (fun h => ?_)
    · have hkd : k < d.length := (by omega); (refine q0n<|tn<|q0b<|q0j<|q0a<|Ls (q0e (v := v') rfl)<|m_I rfl<|Ls (q4j rfl rfl (by omega))<|Ls (q6d rfl (B1.ext E) (by omega)) ?_); refine q4k (v := .int _ _) rfl rfl ?_; intro u w3 hr E3 _ _; refine q1s (v := v') (u := u) rfl rfl (q2p ho E3) hr (by simp [Value.oneCell']) (by omega) (by omega) (by have := E.size; have := E3.size; omega) ?_; intro v2 w4 ho2 hg2 hb2; (refine Ls (q0i (v := v2) rfl)<|q0c<|bn<|tn<|q0a<|m_I rfl<|Ls (q1j rfl rfl (by omega))<|a_I rfl<|q0c<|tn ?_); refine ⟨32 - (k + 1), by omega, k + 1, v2, rfl, by omega, rfl, rfl, rfl, ?_, (E.trans E3).then hg2 (fun g h => by have := (ho.lt g h).1; omega)⟩; rw [List.take_succ_eq_append_getElem hkd, q4a]; have e : d.getD (0 + k * 1) 0 = d[k] := (by rw [show 0 + k * 1 = k by omega, List.getD_eq_getElem?_getD, List.getElem?_eq_getElem hkd]; rfl); rw [e] at ho2; exact ho2
    · (refine q1g<|te<|te<|bx<|tn<|q0b<|q0a<|Ls (q0e (v := v') rfl)<|Ls (q0i (v := v') rfl)<|q0c<|tn<|q0s ?_); refine q0f rfl rfl (v := v') rfl ?_; obtain rfl : k = 32 := (by omega); refine ⟨v', rfl, E1.trans E, q7j ?_ (show w.heap.size ≤ g1 + 1 by omega)⟩; rwa [List.take_of_length_le (by omega)] at ho
theorem q8u (n : Nat) : Sha.zeros n < 64 := by unfold Sha.zeros; omega
theorem len_walk (n i : Nat) (hn : n ≤ 1000000000) (hi : i < 8) :
    IntKind.u8.wrap ((IntKind.u64.wrap (IntKind.u64.wrap (n : Int) * 8)).fdiv (2 ^ min (56 - 8 * (i : Int)).toNat IntKind.u64.bits)) = ((n * 8 / 2 ^ (56 - 8 * i) % 256 : Nat) : Int) := by
  have e : IntKind.u64.wrap (IntKind.u64.wrap (n : Int) * 8) = ((n * 8 : Nat) : Int) := by simp only [IntKind.wrap_u64]; omega
  rw [e, show IntKind.u64.bits = 64 from rfl, shr_nat _ _ (by omega), u8_nat, show (56 - 8 * (i : Int)).toNat = 56 - 8 * i by omega]
theorem z1n (n k : Nat) (hk : k < 8) : (Sha.lenBytes n).take (k + 1) = (Sha.lenBytes n).take k ++ [n * 8 / 2 ^ (56 - 8 * k) % 256] := by
  have hl : k < (Sha.lenBytes n).length := by simp [Sha.lenBytes]; omega
  rw [List.take_succ_eq_append_getElem hl]; simp [Sha.lenBytes]
end Go.Proofs.YtlggfbglpcegoaaGreatDoor
