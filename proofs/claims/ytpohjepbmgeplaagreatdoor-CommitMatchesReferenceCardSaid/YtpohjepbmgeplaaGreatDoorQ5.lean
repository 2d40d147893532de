/- HR, HS, HT, IA, IB, IC, ID, IE, IF, IG, IH, II. -/
import Derived.Test.YtpohjepbmgeplaaGreatDoorQ4
namespace Go.Proofs.YtpohjepbmgeplaaGreatDoor
open Go.RowKit Go.Proofs.K
open _root_.Mk (spl q2o q3i tree q7i q5c cls q4x q4o q4n)
def inn (I : List Nat) (lo hi : Nat) : List Nat := I.filter fun i => Nat.ble lo i && Nat.blt i hi
theorem inn_bit (lo hi x : Nat) : (Nat.ble lo x && Nat.blt x hi) = true ↔ lo ≤ x ∧ x < hi := by rw [Bool.and_eq_true, Nat.blt_eq, Nat.ble_eq]
theorem inn_succ {I : List Nat} {lo hi i x : Nat} (hx : I[i]? = some x) : (inn (I.take (i + 1)) lo hi).length = (inn (I.take i) lo hi).length + (if lo ≤ x ∧ x < hi then 1 else 0) := by
  unfold inn; rw [List.take_add_one, hx, List.filter_append, List.length_append]; congr 1; by_cases h : lo ≤ x ∧ x < hi
  · rw [if_pos h]; simp [List.filter_cons, (inn_bit lo hi x).2 h]
  · rw [if_neg h]; have : (Nat.ble lo x && Nat.blt x hi) = false := by
      cases hb : (Nat.ble lo x && Nat.blt x hi)
      · rfl
      · exact (h ((inn_bit lo hi x).1 hb)).elim
    simp [List.filter_cons, this]
set_option maxRecDepth 100000 in
set_option maxHeartbeats 2000000 in
theorem rwithin (L H lo hi : Nat) (v : Value) (I : List Nat) (hl : I.length ≤ 65536) (w : World) (hr : Row w lo hi 1 v I.length (ints .i64 I)) :
    Calls Tryz.prog 171 #[v, .int .i64 (L : Nat), .int .i64 (H : Nat)] w fun e w' => e = .returned (.int .i64 (((inn I L H).length : Nat) : Int)) ∧ Ext w w' := by
  obtain ⟨A, c, rfl⟩ : ∃ A c, v = .slice A I.length c := by
    obtain ⟨_, A, c, rfl, _⟩ := hr; exact ⟨A, c, rfl⟩
  refine q0i Tryz.func171 rfl Tryz.ntmps171 rfl ?_; (refine q0b<|q0a<|a_I rfl<|q0c<|tn<|q0b<|q0a<|a_I rfl<|q0c<|tn<|q0b<|q0b<|q0a<|a_I rfl<|q0c<|tn<|q0h ?_); refine q1k (fun q f w' => ∃ (i z : Nat), q = I.length - i ∧ i ≤ I.length ∧ z = (inn (I.take i) L H).length ∧ f 0 = .slice A I.length c ∧ f 1 = .int .i64 (L : Nat) ∧ f 2 = .int .i64 (H : Nat) ∧ f 7 = .int .i64 (z : Nat) ∧ f 8 = .int .i64 (i : Nat) ∧ Ext w w') I.length ?_ ?_
  · exact ⟨0, 0, rfl, by omega, by simp [inn], rfl, rfl, rfl, rfl, rfl, Ext.refl _⟩
  · rintro q f wr ⟨i, z, hq, hi, hz, f0, f1, f2, f7, f8, hE⟩; rw [fold f0, fold f1, fold f2, fold f7, fold f8]; have hzl : z ≤ 65536 := by
      have : (inn (I.take i) L H).length ≤ (I.take i).length := List.length_filter_le _ _; rw [List.length_take] at this; omega
    (refine q0b<|q0b<|q0a<|m_I rfl<|m_S rfl<|Ls (q0f rfl)<|Ls (q1t rfl rfl)<|q0c<|tn ?_); refine q0y rfl (fun h => ?_) (fun h => ?_)
    · have hlt : i < I.length := (by omega); obtain ⟨x, hx⟩ : ∃ x, I[i]? = some x := ⟨I[i], List.getElem?_eq_getElem hlt⟩; obtain ⟨b, o, c', hA, _, _, _, hR⟩ := hr.at hlt; cases hA
      have hs := inn_succ (lo := L) (hi := H) hx; by_cases h1 : L ≤ x
      · by_cases h2 : x < H
        · rw [if_pos ⟨h1, h2⟩] at hs; (refine q0n<|tn<|q0b<|q0h<|q0b<|q0a<|m_S rfl<|m_I rfl<|Ls (q0r rfl rfl (by omega))<|Ls (q1v rfl (hE.range hR) (j := i) (by omega) (q2h hx))<|m_I rfl<|Ls (q5r rfl rfl (by omega))<|m_B rfl<|Lg2 rfl rfl rfl (q0d (v := .slice _ _ _) rfl)<|Lg2 rfl rfl rfl (q0d (v := .int _ _) rfl)<|Lg2 rfl rfl rfl (q0r rfl rfl (by omega))<|Lg2 rfl rfl rfl (q1v rfl (hE.range hR) (j := i) (by omega) (q2h hx))<|Lg2 rfl rfl rfl (q0d (v := .int _ _) rfl)<|Lg2 rfl rfl rfl (q7a rfl rfl (by omega))<|Ls (q0v (v := .bool _) rfl rfl)<|q0c<|tn<|q1f rfl<|q0a<|m_I rfl<|Ls (q1b rfl rfl (by omega))<|a_I rfl<|q0c<|bn<|tn<|q0a<|m_I rfl<|Ls (q1b rfl rfl (by omega))<|a_I rfl<|q0c<|tn ?_); exact ⟨I.length - (i + 1), by omega, i + 1, z + 1, rfl, by omega, by omega, rfl, rfl, rfl, rfl, rfl, hE⟩
        · rw [if_neg (fun h => h2 h.2)] at hs; (refine q0n<|tn<|q0b<|q0h<|q0b<|q0a<|m_S rfl<|m_I rfl<|Ls (q0r rfl rfl (by omega))<|Ls (q1v rfl (hE.range hR) (j := i) (by omega) (q2h hx))<|m_I rfl<|Ls (q5r rfl rfl (by omega))<|m_B rfl<|Lg2 rfl rfl rfl (q0d (v := .slice _ _ _) rfl)<|Lg2 rfl rfl rfl (q0d (v := .int _ _) rfl)<|Lg2 rfl rfl rfl (q0r rfl rfl (by omega))<|Lg2 rfl rfl rfl (q1v rfl (hE.range hR) (j := i) (by omega) (q2h hx))<|Lg2 rfl rfl rfl (q0d (v := .int _ _) rfl)<|Lg2 rfl rfl rfl (q2d rfl rfl (by omega))<|Ls (q0v (v := .bool _) rfl rfl)<|q0c<|tn<|q0x rfl<|q0n<|bn<|tn<|q0a<|m_I rfl<|Ls (q1b rfl rfl (by omega))<|a_I rfl<|q0c<|tn ?_); exact ⟨I.length - (i + 1), by omega, i + 1, z, rfl, by omega, by omega, rfl, rfl, rfl, rfl, rfl, hE⟩
      · rw [if_neg (fun h => h1 h.1)] at hs; (refine q0n<|tn<|q0b<|q0h<|q0b<|q0a<|m_S rfl<|m_I rfl<|Ls (q0r rfl rfl (by omega))<|Ls (q1v rfl (hE.range hR) (j := i) (by omega) (q2h hx))<|m_I rfl<|Ls (q7c rfl rfl (by omega))<|m_B rfl<|Lo2 rfl rfl rfl rfl<|Lo2 rfl rfl rfl rfl<|Lo2 rfl rfl rfl rfl<|Lo2 rfl rfl rfl rfl<|Lo2 rfl rfl rfl rfl<|Lo2 rfl rfl rfl rfl<|Ls (q0p (v := .bool _) rfl rfl)<|q0c<|tn<|q0x rfl<|q0n<|bn<|tn<|q0a<|m_I rfl<|Ls (q1b rfl rfl (by omega))<|a_I rfl<|q0c<|tn ?_); exact ⟨I.length - (i + 1), by omega, i + 1, z, rfl, by omega, by omega, rfl, rfl, rfl, rfl, rfl, hE⟩
    · have hil : i = I.length := (by omega); rw [hil, List.take_length] at hz; (refine q1j<|te<|te<|bx<|tn<|q0b<|q0a<|m_I rfl<|a_I rfl<|q0c<|tn<|q0s ?_); refine q0e rfl rfl (v := .int _ _) rfl ⟨by rw [hz], hE⟩
def mxs (l : List (Nat × Nat)) : List Value := (l.map fun p => [Value.int .i64 (p.1 : Nat), .int .i64 (p.2 : Nat)]).flatten
theorem mxs_len (l : List (Nat × Nat)) : (mxs l).length = l.length * 2 := by
  unfold mxs; induction l with
  | nil => rfl
  | cons p l ih => rw [List.map_cons, List.flatten_cons, List.length_append, ih, List.length_cons, List.length_cons, List.length_cons, List.length_nil]; omega
theorem mxs_app (a b : List (Nat × Nat)) : mxs (a ++ b) = mxs a ++ mxs b := by unfold mxs; rw [List.map_append, List.flatten_append]
theorem mxs_cell {l : List (Nat × Nat)} : ∀ v ∈ mxs l, v.oneCell' = true := by
  intro v hv; obtain ⟨c, hc, hvc⟩ := List.mem_flatten.1 hv; obtain ⟨p, _, rfl⟩ := List.mem_map.1 hc; rcases List.mem_cons.1 hvc with rfl | hvc
  · rfl
  · rcases List.mem_cons.1 hvc with rfl | hvc
    · rfl
    · cases hvc
theorem mxs_get {l : List (Nat × Nat)} {i : Nat} {p : Nat × Nat} (h : l[i]? = some p) : (mxs l)[i * 2]? = some (.int .i64 (p.1 : Nat)) ∧ (mxs l)[i * 2 + 1]? = some (.int .i64 (p.2 : Nat)) := by
  have hi : i < l.length := (List.getElem?_eq_some_iff.1 h).1; have e : l = l.take i ++ p :: l.drop (i + 1) := by
    have := List.take_append_drop i l; rw [List.drop_eq_getElem_cons hi] at this; rw [List.getElem?_eq_getElem hi] at h; rw [Option.some.inj h] at this; exact this.symm
  have hl : (mxs (l.take i)).length = i * 2 := by rw [mxs_len, List.length_take, Nat.min_eq_left (by omega)]
  rw [e, mxs_app]; constructor
  · rw [List.getElem?_append_right (by omega), hl, Nat.sub_self]; rfl
  · rw [List.getElem?_append_right (by omega), hl, show i * 2 + 1 - i * 2 = 1 by omega]; rfl
section
variable {n : NN} {f : Fr} {w : World} {d : Option Tmp} {t : TypeId} {pos : String} {af : Array Edge} {g : Option (Nat × Bool)} {x y : Operand}
theorem X_mkMx {a b : Nat} (hx : ev n f x = .int .i64 (a : Nat)) (hy : ev n f y = .int .i64 (b : Nat)) :
    X Tryz.prog n ⟨d, .build 168 #[(0, x), (1, y)], t, pos, af, g⟩ f w = .ok (.value (.agg (mxs [(a, b)]).toArray)) w := by
  have := q3c (P := Tryz.prog) (ty := 168) (n := n) (f := f) (w := w) (d := d) (t := t) (pos := pos) (af := af) (g := g) (Parts.cons (i := 0) (c := [.int .i64 (a : Nat)]) (z := [.int .i64 0]) hx rfl rfl rfl (Parts.cons (i := 1) (c := [.int .i64 (b : Nat)]) (z := [.int .i64 0]) hy rfl rfl rfl (Parts.nil _))); exact this
end
theorem inn_lo {I : List Nat} {lo k hi : Nat} (h1 : lo ≤ k) (h2 : k ≤ hi) : (inn I lo hi).filter (fun i => Nat.blt i k) = inn I lo k ∧ (inn I lo hi).filter (fun i => Nat.ble k i) = inn I k hi := by
  unfold inn; rw [List.filter_filter, List.filter_filter]; constructor
  · refine List.filter_congr fun i _ => ?_; rw [Bool.eq_iff_iff]; simp only [Bool.and_eq_true, Nat.blt_eq, Nat.ble_eq]; omega
  · refine List.filter_congr fun i _ => ?_; rw [Bool.eq_iff_iff]; simp only [Bool.and_eq_true, Nat.blt_eq, Nat.ble_eq]; omega
theorem z1r : ∀ (f lo hi : Nat) (I : List Nat), hi - lo < f → lo < hi → (cls lo hi I).length ≤ hi - lo
  | 0, _, _, _, h, _ => by omega
  | f + 1, lo, hi, I, hf, hlo => by
    by_cases h0 : I = []
    · subst h0; rw [q4x]; simp; omega
    · by_cases h1 : hi - lo ≤ 1
      · rw [q4o h1 h0]; simp
      · have h2 : 2 ≤ hi - lo := (by omega); have hs1 := q3i h2; have hs0 := q2o (hi - lo); rw [q4n h2 h0, List.length_append]; have := z1r f lo (lo + spl (hi - lo)) (I.filter fun i => Nat.blt i (lo + spl (hi - lo))) (by omega) (by omega); have := z1r f (lo + spl (hi - lo)) hi (I.filter fun i => Nat.ble (lo + spl (hi - lo)) i) (by omega) (by omega); omega
set_option maxRecDepth 100000 in
set_option maxHeartbeats 4000000 in
theorem rclosed (bl bh : Nat) (v : Value) (I : List Nat) (hl : I.length ≤ 65536) : ∀ (F lo hi : Nat) (_ : hi - lo < F) (_ : lo < hi) (_ : hi ≤ 65536) (w : World) (_ : Row w bl bh 1 v I.length (ints .i64 I)),
    Calls Tryz.prog 125 #[v, .int .i64 (lo : Nat), .int .i64 (hi : Nat)] w fun e w' => ∃ q, e = .returned q ∧ Ext w w' ∧ w'.ownsRow w.heap.size 168 2 q (cls lo hi (inn I lo hi)).length (mxs (cls lo hi (inn I lo hi)))
  | 0, _, _, h, _, _, _, _ => by omega
  | F + 1, lo, hi, hF, hlo, hh, w, hr => by
    have hv1 := q0g hr; refine q0i Tryz.func125 rfl Tryz.ntmps125 rfl ?_; (refine q0b<|q0a<|a_S rfl<|q0c<|tn<|q0b<|q0b<|q0a<|Ls (q0d (v := v) rfl)<|m_I rfl<|m_I rfl ?_); refine L_fv rfl (rwithin lo hi bl bh v I hl w hr) ?_; intro w1 E1; by_cases h0 : inn I lo hi = []
    · have hz : (inn I lo hi).length = 0 := (by rw [h0]; rfl); rw [h0, q4x]; (refine Ls (z2m rfl rfl)<|q0c<|tn<|q1f rfl<|q0b<|q0a<|m_I rfl<|m_I rfl ?_); refine Ls (X_mkMx (a := lo) (b := hi) rfl rfl) ?_; refine L_lits (z := [.int .i64 0, .int .i64 0]) (zs' := [mxs [(lo, hi)]]) (cs := mxs [(lo, hi)]) (len := 1) (Parts.cons (i := 0) (c := mxs [(lo, hi)]) (z := [.int .i64 0, .int .i64 0]) rfl rfl rfl rfl (Parts.nil _)) rfl (by simp) rfl rfl ?_; intro q w2 r2 E2 hs2 o2 _; (refine Ls (q0j (v := q) rfl)<|q0c<|tn<|q0s<|tr ?_); exact q0e rfl rfl (v := q) rfl ⟨q, rfl, E1.trans E2, q1m o2 E1.size⟩
    · have hz : 0 < (inn I lo hi).length := List.length_pos_iff.2 h0; by_cases h1 : hi - lo ≤ 1
      · rw [q4o h1 h0]; (refine Ls (q4g rfl rfl (by omega))<|q0c<|tn<|q0x rfl<|q0n<|tn<|q0b<|q0b<|q0a<|m_I rfl<|m_I rfl<|Ls (q2b rfl rfl (by omega))<|Ls (q2r rfl rfl (by omega))<|q0c<|tn<|q1f rfl<|q0b<|q0a<|a_S rfl<|q0c<|tn<|q0s<|tr ?_); exact q0e rfl rfl (v := .slice none 0 0) rfl ⟨_, rfl, E1, ⟨rfl, .inl ⟨rfl, rfl⟩⟩⟩
      · have h2 : 2 ≤ hi - lo := (by omega); have hs1 := q3i h2; have hs0 := q2o (hi - lo); obtain ⟨k, hk⟩ : ∃ k, k = lo + spl (hi - lo) := ⟨_, rfl⟩; obtain ⟨f1, f2⟩ := inn_lo (I := I) (lo := lo) (k := k) (hi := hi) (by omega) (by omega); have hcl := q4n h2 h0; rw [← hk, f1, f2] at hcl; rw [hcl]; have ca := z1r (k - lo + 1) lo k (inn I lo k) (by omega) (by omega); have cb := z1r (hi - k + 1) k hi (inn I k hi) (by omega) (by omega); (refine Ls (q4g rfl rfl (by omega))<|q0c<|tn<|q0x rfl<|q0n<|tn<|q0b<|q0b<|q0a<|m_I rfl<|m_I rfl<|Ls (X_subn rfl rfl ⟨by omega, by omega⟩)<|Ls (q4g rfl rfl (by omega))<|q0c<|tn<|q0x rfl<|q0n<|tn<|q0b<|q0a<|m_I rfl<|m_I rfl<|m_I rfl<|Ls (X_subn rfl rfl ⟨by omega, by omega⟩) ?_); refine L_fv rfl (rsplit h2 (by omega) w1) ?_; intro w2 E2; (refine Ls (X_addn rfl rfl (by omega))<|a_I rfl<|q0c<|tn<|q0b<|q0a<|Ls (q0d (v := v) rfl)<|m_I rfl<|m_I rfl ?_); rw [← hk]; have E12 := E1.trans E2; skip; refine L_fo rfl (rclosed bl bh v I hl F lo k (by omega) (by omega) (by omega) w2 (hr.ext E12)) ?_; rintro q3 w3 ⟨E3, o3⟩; have hq3 := q0g (Row.of_own o3); (refine Ls (q0j (v := q3) rfl)<|q0c<|tn<|q0b<|q0a<|Ls (q0d (v := q3) rfl)<|Ls (q0d (v := v) rfl)<|m_I rfl<|m_I rfl ?_); refine L_fo rfl (rclosed bl bh v I hl F k hi (by omega) (by omega) hh w3 (hr.ext (E12.trans E3))) ?_; rintro q4 w4 ⟨E4, o4⟩; refine q1o (v := q3) (u := q4) rfl rfl (q0o o3 E4) (Row.of_own o4) mxs_cell (by omega) (by omega) (by have := E3.size; have := E4.size; omega) ?_; intro q5 w5 o5 hg5 _; (refine Ls (q0j (v := q5) rfl)<|q0c<|tn<|q0s ?_); refine q0e rfl rfl (v := q5) rfl ⟨q5, rfl, ((E12.trans E3).trans E4).then hg5 (fun q hq => by have := (q1d o3 q hq).1; have := E12.size; omega), ?_⟩; rw [List.length_append, mxs_app]; exact q1m o5 E12.size
set_option maxRecDepth 100000 in
set_option maxHeartbeats 4000000 in
theorem r8open (N : Nat → Prop) (v : Value) (M : List (List Nat)) (h1 : 1 ≤ M.length) (hM : M.length ≤ 65536) (hb : BsOk M) (lo hi' : Nat) (u : Value) (I : List Nat) (hp : I.Pairwise (· < ·)) (hin : ∀ i ∈ I, i < M.length) (w : World) (hr : q1w N w .u8 v M) (hru : Row w lo hi' 1 u I.length (ints .i64 I)) :
    Calls Tryz.prog 68 #[v, u] w fun e w' => ∃ q, e = .returned (.tuple #[.agg #[q], .int .i64 0]) ∧ Ext w w' ∧ w'.ownsRow w.heap.size 43 32 q (Mk.opening lf nd M I).length (dgs (Mk.opening lf nd M I)) := by
  have hIl : I.length ≤ 65536 := by
    have := q5n hp (lo := 0) (hi := M.length) fun i h => ⟨Nat.zero_le _, hin i h⟩; omega
  have hcl := Mk.cls_in (M.length + 1) 0 M.length I (by omega) (by omega); have hcn := z1r (M.length + 1) 0 M.length I (by omega) (by omega); have hinn : inn I 0 M.length = I := Mk.filt_all hin; obtain ⟨A, c, rfl, _, hcm⟩ := hr.form; obtain ⟨b0, o0, _, rfl, _, hmc, _⟩ := q8h hr (i := 0) (d := M[0]'(by omega)) (List.getElem?_eq_getElem (by omega)); have hu1 := q0g hru; obtain ⟨nodes, hnodes⟩ : ∃ nodes, nodes = Mk.opening lf nd M I := ⟨_, rfl⟩; have hnl : nodes.length = (cls 0 M.length I).length := by rw [hnodes]; unfold Mk.opening; simp
  rw [← hnodes]; refine q0i Tryz.func68 rfl Tryz.ntmps68 rfl ?_; (refine q0b<|q0a ?_); refine q0w ?_; intro g4 w1 B4 hg4 E1 hs1; (refine a_I rfl<|q0c<|tn<|q0b<|q0b<|q0a<|m_S rfl<|Ls (q0f rfl)<|Ls (q2d rfl rfl (by omega))<|m_B rfl<|Lg2 rfl rfl rfl (q0d (v := u) rfl)<|Lg2 rfl rfl rfl (q0d (v := .slice _ _ _) rfl)<|Lg2 rfl rfl rfl (q0f rfl) ?_); refine q1x rfl rfl rfl ?_; refine L_fv rfl (rincr hM lo hi' u I hin hp hIl w1 (hru.ext E1)) ?_; intro w2 E2; (refine Lg2 rfl rfl rfl (q1r rfl)<|Ls (q0p (v := .bool _) rfl rfl)<|q0c<|tn<|q0x rfl<|q0n<|tn<|q0b<|q0b<|q0a<|m_S rfl<|Ls (q0f rfl) ?_); refine L_fv rfl (rsize h1 hM w2) ?_; intro w3 E3; (refine Ls (z4b rfl rfl)<|q0c<|tn ?_); refine q0x rfl ?_; (refine q0n<|tn<|q0b<|q0a ?_); refine Ls (q3c (zs := [[Value.slice none 0 0]]) (r := []) (Parts.nil _)) ?_; (refine Ls (q0d (v := u) rfl)<|m_S rfl<|Ls (q0f rfl) ?_); have E13 := E1.trans (E2.trans E3); refine L_fo rfl (rclosed lo hi' u I hIl (M.length + 1) 0 M.length (by omega) (by omega) hM w3 (hru.ext E13)) ?_; rintro q7 w4 ⟨E4, o4⟩; rw [hinn] at o4; refine q0w ?_; intro g6 w5 B6 hg6 E5 hs5; refine q0l (l := [.slice none 0 0]) rfl rfl rfl (fun x hx => by rw [List.mem_singleton.1 hx]; rfl) B6 rfl ?_; intro w6 B6' hg6' hs6; have hz4 := E4.size; have E46 : Ext w4 w6 := E5.then hg6' (fun g h => by cases h; omega); have E06 := (E13.trans E4).trans E46; obtain ⟨A7, c7, rfl, _⟩ : ∃ A c, q7 = .slice A (cls 0 M.length I).length c ∧ True := by
    obtain ⟨_, A, c, rfl, _⟩ := Row.of_own o4; exact ⟨A, c, rfl, trivial⟩
  have C4 := B4.ext ((E2.trans (E3.trans E4)).trans E46); have h46 : g4 ≠ g6 := by have := (E2.trans (E3.trans E4)).size; omega
  (refine a_S rfl<|q0c<|tn<|q0b<|q0b<|q0a<|a_I rfl<|q0c<|tn<|q0h ?_); refine q1k (fun q f w' => ∃ i x, q = nodes.length - i ∧ i ≤ nodes.length ∧ f 0 = .slice (some ⟨b0, o0, none⟩) M.length c ∧ f 4 = .pointer (some ⟨g4, 0, none⟩) ∧ f 6 = .pointer (some ⟨g6, 0, none⟩) ∧ f 7 = .slice A7 (cls 0 M.length I).length c7 ∧ f 8 = .int .i64 (i : Nat) ∧ Blk w' g4 48 [.slice none 0 0] ∧ Blk w' g6 48 [x] ∧ w'.ownsRow w.heap.size 43 32 x i (dgs (nodes.take i)) ∧ w'.ownsRow w.heap.size 168 2 (.slice A7 (cls 0 M.length I).length c7) (cls 0 M.length I).length (mxs (cls 0 M.length I)) ∧ Ext w w') nodes.length ?_ ?_
  · exact ⟨0, .slice none 0 0, rfl, by omega, rfl, rfl, rfl, rfl, rfl, C4, B6', ⟨rfl, .inl ⟨rfl, rfl⟩⟩, q1m (q0o o4 E46) (E13.size), E06⟩
  · rintro q f wr ⟨i, x, hq, hi, f0, f4, f6, f7, f8, D4, D6, o, r7, hE⟩; rw [fold f0, fold f4, fold f6, fold f7, fold f8]; have hx1 := q0g (Row.of_own o); (refine q0b<|q0b<|q0a<|m_I rfl<|m_S rfl<|Ls (q0f rfl)<|Ls (q1t rfl rfl)<|q0c<|tn ?_); refine q0y rfl (fun h => ?_) (fun h => ?_)
    · have hlt : i < (cls 0 M.length I).length := (by omega); obtain ⟨p, hp1⟩ : ∃ p, (cls 0 M.length I)[i]? = some p := ⟨_, List.getElem?_eq_getElem hlt⟩; obtain ⟨p1, p2, p3⟩ := hcl p (List.mem_of_getElem? hp1); have hnd : nodes[i]? = some (tree nd (((M.drop p.1).take (p.2 - p.1)).map lf)) := by
        rw [hnodes]; unfold Mk.opening Mk.hashes; rw [List.getElem?_map, hp1]; show some (tree nd (((M.map lf).drop p.1).take (p.2 - p.1))) = _; rw [List.map_take, List.map_drop]
      obtain ⟨d, hd⟩ : ∃ d, d = tree nd (((M.drop p.1).take (p.2 - p.1)).map lf) := ⟨_, rfl⟩; have hml : ((M.drop p.1).take (p.2 - p.1)).length = p.2 - p.1 := (by rw [List.length_take, List.length_drop]; omega); have hd32 : d.length = 32 := by
        rw [hd]; exact (q3n _ (q3x _) (by rw [List.length_map]; omega)).1
      obtain ⟨b7, c7', e7, hb7, hl7, hc7, _⟩ := q7k r7 (by omega); cases e7
      have hR7 := q6v r7; have hpart : ∀ y, Ext wr y → q1w N y .u8 (.slice (some ⟨b0, o0 + p.1 * 1, none⟩) (p.2 - p.1) (c - p.1)) ((M.drop p.1).take (p.2 - p.1)) := fun y E => z1a (hr.ext (hE.trans E)) (by omega) (by omega) ⟨by omega, by omega⟩; (refine q0n<|tn<|q0b<|q0h ?_); apply q1h 16 (by kernel_rfl); repeat (first | ((with_reducible apply q2l); (first | apply DW_x (fun r w hA hH => (q0d (v := .int _ _) rfl).trans rfl) | apply DW_x (fun r w hA hH => (q0d (v := .slice _ _ _) rfl).trans rfl))) | ((with_reducible apply z1p); apply DW_x (fun r w hA hH => (q0t rfl).trans rfl)) | ((with_reducible apply q2w); (first | apply DW_x (fun r w hA hH => (X_ld rfl (D6.ext hA) rfl).trans rfl) | apply DW_x (fun r w hA hH => (q1v rfl (hA.range hR7) (j := i * 2) (by omega) (mxs_get hp1).1).trans rfl) | apply DW_x (fun r w hA hH => (q1v rfl (hA.range hR7) (j := i * 2 + 1) (by omega) (mxs_get hp1).2).trans rfl))) | ((with_reducible apply q4m); apply DW_x (fun r w hA hH => (q0r rfl rfl (by omega)).trans rfl)))
      ((with_reducible apply DW_x); (exact fun r w hA hH => (X_slice2p (size := 1) p.1 p.2 rfl rfl rfl rfl rfl (by omega) (by omega) (by omega)).trans rfl))
      ((with_reducible apply q2c); (exact fun _ => rfl); (exact fun _ => rfl); (exact fun r w hA hH => (by
        have h := z3i N ((M.drop p.1).take (p.2 - p.1)).length _ ((M.drop p.1).take (p.2 - p.1)) (Nat.le_refl _) (by omega) (by omega) ((hb.drop _).take _) w (hpart w hA)
        rw [← hd] at h
        exact h)))
      ((with_reducible apply DW_d (F := fun r v w => RowF wr 32 v 1 (ints .u8 d) w)); (exact fun r w hA hH => X_litA (z := List.replicate 32 (.int .u8 0)) rfl (by rw [q0m, hd32]; rfl) rfl hA.size); (exact fun _ _ u w w' _ _ hR h => RowF.ext hR h); (exact fun _ _ => rfl)); ((with_reducible exact q1p); (exact rfl); (repeat (first | exact .inr (.inr (fun _ _ => by with_reducible rfl)) | (refine And.intro ?_ ?_) | exact .inr (.inl rfl) | exact .inl (by decide +kernel) | exact trivial | exact .inr (.inr (fun _ _ => rfl)))); (try dsimp only [Nat.reduceAdd])); intro r z1 F1 H1; obtain ⟨l9, h9, hl9, r9⟩ : RowF wr 32 (r 15) 1 (ints .u8 d) z1 := H1 15; refine q1o (v := x) (u := r 15) rfl rfl (q0o o F1) r9 q0z (by omega) (by omega) (by have := hE.size; have := F1.size; omega) ?_; intro v2 z2 o2 hg2 hb2; have G6 := (D6.ext F1).grown hg2 (fun h => by
        obtain ⟨_, cs, fz, e⟩ := q1d o g6 h
        exact q2g D6 e (by decide))
      have G4 := (D4.ext F1).grown hg2 (fun h => by
        obtain ⟨_, cs, fz, e⟩ := q1d o g4 h
        exact q2g D4 e (by decide))
      have G7 := q1i (q0o r7 F1) hg2 (fun q hq h => by
        obtain ⟨_, cs, fz, e⟩ := q1d (q0o o F1) q h
        obtain ⟨_, cs', fz', e'⟩ := q1d (q0o r7 F1) q hq
        rw [e] at e'
        cases e')
      have hv2 := q0g (Row.of_own o2); have hE2 : Ext w z2 := (hE.trans F1).then hg2 (fun q hq => (q1d o q hq).1); (refine Ls (q0t rfl) ?_); refine q1n (v := v2) rfl rfl hv2 G6 (by simp) ?_; intro z3 G6' hg3 hs3; (refine q0c<|bn<|tn<|q0a<|m_I rfl<|Ls (q1b rfl rfl (by omega))<|a_I rfl<|q0c<|tn ?_); refine ⟨nodes.length - (i + 1), by omega, i + 1, v2, rfl, by omega, rfl, rfl, rfl, rfl, rfl, G4.grown hg3 (by simp; omega), G6', ?_, q1i G7 hg3 (fun q hq h => ?_), hE2.then hg3 (fun g h => by cases h; have := E13.size; have := E4.size; omega)⟩
      · rw [List.take_add_one, hnd, ← hd]; have := q1i o2 hg3 (fun q hq h => by
          obtain rfl : g6 = q := Option.some.inj h
          obtain ⟨_, cs, fz, e⟩ := q1d o2 g6 hq
          exact q2g G6 e (by decide))
        rw [show nodes.take i ++ (some d).toList = nodes.take i ++ [d] from rfl, z1o, z3u]; exact this
      · obtain rfl : g6 = q := Option.some.inj h; obtain ⟨_, cs, fz, e⟩ := q1d G7 g6 hq; exact q2g G6 e (by decide)
    · have hil : i = nodes.length := (by omega); rw [hil, List.take_length] at o; (refine q1j<|te<|te<|bx<|tn<|q0b<|q0a<|Ls (q1e (cs := [x]) rfl D6 rfl) ?_); refine q0l (l := [x]) rfl rfl rfl (fun y hy => by rw [List.mem_singleton.1 hy]; exact hx1) D4 rfl ?_; intro y2 D4' hg4' hs4'; (refine a_I rfl<|q0c<|tn<|q0s ?_); refine q1c rfl rfl (Res.cellA inferInstance rfl (D4'.range (fun j u h => by simpa using h)) rfl (Res.tmp rfl .nil)) ?_; refine ⟨x, rfl, hE.then hg4' (fun g h => by cases h; omega), q1i o hg4' (fun q hq h => ?_)⟩; obtain rfl : g4 = q := Option.some.inj h; obtain ⟨_, cs, fz, e⟩ := q1d o g4 hq; exact q2g D4 e (by decide)
end Go.Proofs.YtpohjepbmgeplaaGreatDoor
namespace Go.Proofs.YtpohjepbmgeplaaGreatDoor
open Go.RowKit Go.Proofs.K
open _root_.Mk (spl q2o q3i cls q4x q4o q4n q9j rref okR)
theorem dg_at {w : World} {b o : Nat} {l : List (List Nat)} (hok : DgOk l) (hR : w.rangeAt b o (dgs l)) {i : Nat} {d : List Nat} (hd : l[i]? = some d) : w.rangeAt b (o + i * 32) (ints .u8 d) := by
  have hi : i < l.length := (List.getElem?_eq_some_iff.1 hd).1; obtain ⟨h1, h2⟩ := z1n hok (k := i) (by omega); have e : l.drop i = d :: l.drop (i + 1) := by
    rw [List.drop_eq_getElem_cons hi]; rw [List.getElem?_eq_getElem hi] at hd; rw [Option.some.inj hd]
  refine q6b hR fun j u hu => ?_; rw [h1, List.getElem?_append_right (by omega), h2, show i * 32 + j - i * 32 = j by omega, e, show dgs (d :: l.drop (i + 1)) = ints .u8 d ++ dgs (l.drop (i + 1)) from rfl, List.getElem?_append_left (List.getElem?_eq_some_iff.1 hu).1]; exact hu
end Go.Proofs.YtpohjepbmgeplaaGreatDoor
namespace Go.Proofs.YtpohjepbmgeplaaGreatDoor
open Go.RowKit Go.Proofs.K
open _root_.Mk (cls rref okR)
section
variable {n : NN} {f : Fr} {w : World} {d : Option Tmp} {t : TypeId} {pos : String} {af : Array Edge} {g : Option (Nat × Bool)} {x y z : Operand}
end
end Go.Proofs.YtpohjepbmgeplaaGreatDoor
namespace Go.Proofs.YtpohjepbmgeplaaGreatDoor
open Go.RowKit Go.Proofs.K
open _root_.Fd (K E pw root)
open _root_.Cm (Sh)
def lgI (n : Int) : Int := if n = ((2 ^ Nat.log2 n.toNat : Nat) : Int) then ((Nat.log2 n.toNat : Nat) : Int) else -1
theorem q5j (a : Nat) : lgI ((2 ^ a : Nat) : Int) = a := by
  unfold lgI; rw [Int.toNat_natCast, Nat.log2_two_pow, if_pos rfl]
theorem z0a {n : Int} (h : 0 ≤ lgI n) : ∃ a : Nat, lgI n = a ∧ n = ((2 ^ a : Nat) : Int) := by
  unfold lgI at h ⊢; split
  · exact ⟨_, rfl, by assumption⟩
  · rename_i hn; rw [if_neg hn] at h; omega
theorem lgI_neg {n : Int} (h : n < 1) : lgI n = -1 := by
  unfold lgI; rw [if_neg]; have : 0 < 2 ^ Nat.log2 n.toNat := Nat.pow_pos (by decide); omega
theorem lgI_bd {n : Int} (h : n ≤ 9223372036854775807) : -1 ≤ lgI n ∧ lgI n ≤ 62 := by
  unfold lgI; split
  · rename_i hn; have : Nat.log2 n.toNat < 63 := by
      rcases Nat.lt_or_ge (Nat.log2 n.toNat) 63 with h1 | h1
      · exact h1
      · have : 2 ^ 63 ≤ 2 ^ Nat.log2 n.toNat := Nat.pow_le_pow_right (by decide) h1; omega
    omega
  · omega
theorem and_pred {n : Nat} (h : 1 ≤ n) : n &&& (n - 1) = 0 ↔ n = 2 ^ Nat.log2 n := by
  constructor
  · intro h0; have h1 := Nat.log2_self_le (n := n) (by omega); have h2 := Nat.lt_log2_self (n := n); rcases Nat.lt_or_ge (2 ^ Nat.log2 n) n with h3 | h3
    · exfalso; have hb : ∀ m, 2 ^ Nat.log2 n ≤ m → m < 2 ^ (Nat.log2 n + 1) → m.testBit (Nat.log2 n) = true := fun m hm1 hm2 => by
        rw [Nat.testBit_eq_decide_div_mod_eq, decide_eq_true_eq]; have : m / 2 ^ Nat.log2 n = 1 := by
          rw [Nat.pow_succ] at hm2; exact Nat.div_eq_of_lt_le (by omega) (by omega)
        rw [this]
      have := congrArg (Nat.testBit · (Nat.log2 n)) h0; simp only [Nat.testBit_and, Nat.zero_testBit] at this; rw [hb n h1 h2, hb (n - 1) (by omega) (by omega)] at this; cases this
    · omega
  · intro he; rw [he, Nat.and_two_pow_sub_one_eq_mod, Nat.mod_self]
theorem bits_i64_and (a b : Nat) (ha : a < 9223372036854775808) (hb : b < 9223372036854775808) : bits .and .i64 (a : Int) (b : Int) = ((a &&& b : Nat) : Int) := by
  show IntKind.i64.wrap ((BitVec.ofInt 64 (a : Int) &&& BitVec.ofInt 64 (b : Int)).toNat : Int) = _; rw [BitVec.toNat_and, BitVec.ofInt_natCast, BitVec.ofInt_natCast, BitVec.toNat_ofNat, BitVec.toNat_ofNat, Nat.mod_eq_of_lt (by omega), Nat.mod_eq_of_lt (by omega), q4l]; have := Nat.and_lt_two_pow (n := 63) a (y := b) (by omega); omega
set_option maxHeartbeats 1000000 in
theorem gcpow (n : Int) (h0 : -9223372036854775808 ≤ n) (h1 : n ≤ 9223372036854775807) (w : World) :
    Calls Tryz.prog 59 #[.int .i64 n] w fun e w' => e = .returned (.int .i64 (lgI n)) ∧ Ext w w' := by
  refine q0i Tryz.func59 rfl Tryz.ntmps59 rfl ?_; by_cases hn : n < 1
  · rw [lgI_neg hn]; (refine q0b<|q0a<|a_I rfl<|q0c<|tn<|q0b<|q0b<|q0a<|m_I rfl<|Ls (q7a rfl rfl (by omega))<|m_B rfl<|Lo2 rfl rfl rfl rfl<|Lo2 rfl rfl rfl rfl<|Lo2 rfl rfl rfl rfl<|Lo2 rfl rfl rfl rfl<|Lo2 rfl rfl rfl rfl<|Ls (q0v (v := .bool _) rfl rfl)<|q0c<|tn<|q1f rfl<|q0b<|q0a<|a_I rfl<|q0c<|tn<|q0s<|tr ?_); exact q0e rfl rfl (v := .int _ _) rfl ⟨rfl, Ext.refl _⟩
  · obtain ⟨m, rfl⟩ : ∃ m : Nat, n = m := ⟨n.toNat, by omega⟩; have hm : 1 ≤ m := (by omega); have ha : bits .and .i64 (m : Int) ((m : Int) - 1) = ((m &&& (m - 1) : Nat) : Int) := by
      rw [show (m : Int) - 1 = ((m - 1 : Nat) : Int) by omega, bits_i64_and _ _ (by omega) (by omega)]
    have hp := and_pred hm; by_cases h2 : m = 2 ^ Nat.log2 m
    · have hz : m &&& (m - 1) = 0 := hp.2 h2; rw [hz] at ha; have hl : lgI (m : Int) = (Nat.log2 m : Nat) := by
        unfold lgI; rw [Int.toNat_natCast, if_pos (by omega)]
      rw [hl]; (refine q0b<|q0a<|a_I rfl<|q0c<|tn<|q0b<|q0b<|q0a<|m_I rfl<|Ls (q2d rfl rfl (by omega))<|m_B rfl<|Lg2 rfl rfl rfl (q0d (v := .int _ _) rfl)<|Lg2 rfl rfl rfl (q0d (v := .int _ _) rfl)<|Lg2 rfl rfl rfl (q2b rfl rfl (by omega))<|Lg2 rfl rfl rfl ((q5a rfl rfl).trans (by rw [ha]))<|Lg2 rfl rfl rfl (q2f rfl rfl (by omega))<|Ls (q0p (v := .bool _) rfl rfl)<|q0c<|tn<|q0x rfl<|q0n<|tn<|q0b<|q0a<|m_I rfl<|Ls (q2s rfl) ?_); rw [show IntKind.u64.wrap (m : Int) = (m : Int) by rw [IntKind.wrap_u64]; omega]; refine L_fv rfl ((Tryz.bits_Len (m : Int) w (by omega) (by omega)).mono fun _ _ q => ⟨q.1, q.2 ▸ Ext.refl _⟩) ?_; intro w1 E1; have hlog : Nat.log2 m < 63 := (Nat.log2_lt (by omega)).2 (by omega); rw [Int.toNat_natCast, z2u (by omega) (by omega)]; (refine Ls (q2b rfl rfl (by omega))<|a_I rfl<|q0c<|tn<|q0s ?_); refine q0e rfl rfl (v := .int _ _) rfl ⟨?_, E1⟩; rw [show (((Nat.log2 m + 1 : Nat) : Int) - 1) = ((Nat.log2 m : Nat) : Int) by omega]
    · have hz : m &&& (m - 1) ≠ 0 := fun h => h2 (hp.1 h); obtain ⟨y, hy⟩ : ∃ y, m &&& (m - 1) = y + 1 := ⟨(m &&& (m - 1)) - 1, by omega⟩; rw [hy] at ha; have hl : lgI (m : Int) = -1 := by
        unfold lgI; rw [Int.toNat_natCast, if_neg (by omega)]
      rw [hl]; (refine q0b<|q0a<|a_I rfl<|q0c<|tn<|q0b<|q0b<|q0a<|m_I rfl<|Ls (q2d rfl rfl (by omega))<|m_B rfl<|Lg2 rfl rfl rfl (q0d (v := .int _ _) rfl)<|Lg2 rfl rfl rfl (q0d (v := .int _ _) rfl)<|Lg2 rfl rfl rfl (q2b rfl rfl (by omega))<|Lg2 rfl rfl rfl ((q5a rfl rfl).trans (by rw [ha]))<|Lg2 rfl rfl rfl (q3z rfl rfl (by omega))<|Ls (q0p (v := .bool _) rfl rfl)<|q0c<|tn<|q1f rfl<|q0b<|q0a<|a_I rfl<|q0c<|tn<|q0s<|tr ?_); exact q0e rfl rfl (v := .int _ _) rfl ⟨rfl, Ext.refl _⟩
structure SOk (R C B T log : Int) : Prop where
  l0 : 0 ≤ log
  l16 : log ≤ 16
  r : 0 ≤ lgI R
  c : 0 ≤ lgI C
  s : lgI R + lgI C = log
  b : B = 2 ∨ B = 4 ∨ B = 8 ∨ B = 16
  n : B * C ≤ 65536
  t1 : 1 ≤ T
  t64 : T ≤ 64
  tn : T ≤ B * C
def I64 (n : Int) : Prop := -9223372036854775808 ≤ n ∧ n ≤ 9223372036854775807
def shC (R C B T : Int) : List Value := [.int .i64 R, .int .i64 C, .int .i64 B, .int .i64 T]
theorem q4q {R C B T : Int} : ∀ v ∈ shC R C B T, v.oneCell' = true := by
  intro v hv; rcases List.mem_cons.1 hv with rfl | hv
  · rfl
  · rcases List.mem_cons.1 hv with rfl | hv
    · rfl
    · rcases List.mem_cons.1 hv with rfl | hv
      · rfl
      · rcases List.mem_cons.1 hv with rfl | hv
        · rfl
        · cases hv
theorem col_bd {R C log : Int} (hl : log ≤ 16) (hr : 0 ≤ lgI R) (hc : 0 ≤ lgI C) (hs : lgI R + lgI C = log) : 1 ≤ C ∧ C ≤ 65536 ∧ 1 ≤ R ∧ R ≤ 65536 := by
  obtain ⟨a, ha, rfl⟩ := z0a hr; obtain ⟨c, hc', rfl⟩ := z0a hc; rw [ha, hc'] at hs; have := q1a (a := a) (by omega); have := q1a (a := c) (by omega); omega
theorem mul_bd {B C : Int} (hb : B = 2 ∨ B = 4 ∨ B = 8 ∨ B = 16) (hc : 1 ≤ C ∧ C ≤ 65536) : 1 ≤ B * C ∧ B * C ≤ 1048576 := by
  rcases hb with rfl | rfl | rfl | rfl <;> omega
set_option maxRecDepth 100000 in
set_option maxHeartbeats 4000000 in
theorem q9l (R C B T log : Int) (hR : I64 R) (hC : I64 C) (hB : I64 B) (hT : I64 T) (hlog : I64 log) (w : World) :
    Calls Tryz.prog 20 #[.agg (shC R C B T).toArray, .int .i64 log] w fun e w' => ∃ b : Bool, e = .returned (.bool b) ∧ (b = true ↔ SOk R C B T log) ∧ Ext w w' := by
  obtain ⟨l1, l2⟩ := hlog; obtain ⟨t1, t2⟩ := hT; have br := lgI_bd hR.2; have bc := lgI_bd hC.2; refine q0i Tryz.func20 rfl Tryz.ntmps20 rfl ?_; (refine q0b<|q0a ?_); refine q1u rfl ?_; intro g2 w1 B2 hg2 E1 hs1; (refine a_B rfl<|q0c<|tn<|q0b ?_); apply q1h 5 (by kernel_rfl); (apply DW_x (fun r w hA hH => (q0t rfl).trans rfl); apply DW_x (fun r w hA hH => (X_ld (cs := shC R C B T) rfl (B2.ext hA) rfl).trans rfl)); ((with_reducible apply q2c); (exact fun _ => rfl); (exact fun _ => rfl); (exact fun r w hA hH => gcpow R hR.1 hR.2 w)); (apply DW_x (fun r w hA hH => (q0t rfl).trans rfl); apply DW_x (fun r w hA hH => (X_ld (cs := shC R C B T) rfl (B2.ext hA) rfl).trans rfl)); ((with_reducible exact q1p); (exact rfl); (repeat (first | exact .inr (.inr (fun _ _ => by with_reducible rfl)) | (refine And.intro ?_ ?_) | exact .inr (.inl rfl) | exact .inl (by decide +kernel) | exact trivial | exact .inr (.inr (fun _ _ => rfl)))); (try dsimp only [Nat.reduceAdd])); intro r0 w2 E2 _; refine L_fv rfl (gcpow C hC.1 hC.2 w2) ?_; intro w3 E3; have C2 := B2.ext (E2.trans E3); have E13 := E1.trans (E2.trans E3); generalize hlr : lgI R = lr at br ⊢; generalize hlc : lgI C = lc at bc ⊢; by_cases h1 : log < 0
  · (refine a_I rfl<|a_I rfl<|q0c<|tn<|q0b<|q0b<|q0a<|m_I rfl<|Ls (q7a rfl rfl (by omega))<|m_B rfl<|Lo2 rfl rfl rfl rfl<|Lo2 rfl rfl rfl rfl<|Ls (q0v (v := .bool _) rfl rfl)<|m_B rfl<|Lo2 rfl rfl rfl rfl<|Lo2 rfl rfl rfl rfl<|Ls (q0v (v := .bool _) rfl rfl)<|m_B rfl<|Lo2 rfl rfl rfl rfl<|Lo2 rfl rfl rfl rfl<|Ls (q0v (v := .bool _) rfl rfl)<|m_B rfl<|Lo2 rfl rfl rfl rfl<|Lo2 rfl rfl rfl rfl<|Lo2 rfl rfl rfl rfl<|Lo2 rfl rfl rfl rfl<|Lo2 rfl rfl rfl rfl<|Ls (q0v (v := .bool _) rfl rfl)<|m_B rfl<|Lo2 rfl rfl rfl rfl<|Lo2 rfl rfl rfl rfl<|Lo2 rfl rfl rfl rfl<|Lo2 rfl rfl rfl rfl<|Lo2 rfl rfl rfl rfl<|Ls (q0v (v := .bool _) rfl rfl)<|q0c<|tn<|q1f rfl<|q0b<|q0a<|a_B rfl<|q0c<|tn<|q0s<|tr ?_); exact q0e rfl rfl (v := .bool _) rfl ⟨false, rfl, ⟨(fun h => by cases h), fun h => by have := h.l0; omega⟩, E13⟩
  by_cases h2 : 16 < log
  · (refine a_I rfl<|a_I rfl<|q0c<|tn<|q0b<|q0b<|q0a<|m_I rfl<|Ls (q2d rfl rfl (by omega))<|m_B rfl<|Lg2 rfl rfl rfl (q0d (v := .int _ _) rfl)<|Lg2 rfl rfl rfl (q4z rfl rfl (by omega))<|Ls (q0p (v := .bool _) rfl rfl)<|m_B rfl<|Lo2 rfl rfl rfl rfl<|Lo2 rfl rfl rfl rfl<|Ls (q0v (v := .bool _) rfl rfl)<|m_B rfl<|Lo2 rfl rfl rfl rfl<|Lo2 rfl rfl rfl rfl<|Ls (q0v (v := .bool _) rfl rfl)<|m_B rfl<|Lo2 rfl rfl rfl rfl<|Lo2 rfl rfl rfl rfl<|Lo2 rfl rfl rfl rfl<|Lo2 rfl rfl rfl rfl<|Lo2 rfl rfl rfl rfl<|Ls (q0v (v := .bool _) rfl rfl)<|m_B rfl<|Lo2 rfl rfl rfl rfl<|Lo2 rfl rfl rfl rfl<|Lo2 rfl rfl rfl rfl<|Lo2 rfl rfl rfl rfl<|Lo2 rfl rfl rfl rfl<|Ls (q0v (v := .bool _) rfl rfl)<|q0c<|tn<|q1f rfl<|q0b<|q0a<|a_B rfl<|q0c<|tn<|q0s<|tr ?_); exact q0e rfl rfl (v := .bool _) rfl ⟨false, rfl, ⟨(fun h => by cases h), fun h => by have := h.l16; omega⟩, E13⟩
  by_cases h3 : lr < 0
  · (refine a_I rfl<|a_I rfl<|q0c<|tn<|q0b<|q0b<|q0a<|m_I rfl<|Ls (q2d rfl rfl (by omega))<|m_B rfl<|Lg2 rfl rfl rfl (q0d (v := .int _ _) rfl)<|Lg2 rfl rfl rfl (q2q rfl rfl (by omega))<|Ls (q0p (v := .bool _) rfl rfl)<|m_B rfl<|Lg2 rfl rfl rfl (q0d (v := .int _ _) rfl)<|Lg2 rfl rfl rfl (q7a rfl rfl (by omega))<|Ls (q0p (v := .bool _) rfl rfl)<|m_B rfl<|Lo2 rfl rfl rfl rfl<|Lo2 rfl rfl rfl rfl<|Ls (q0v (v := .bool _) rfl rfl)<|m_B rfl<|Lo2 rfl rfl rfl rfl<|Lo2 rfl rfl rfl rfl<|Lo2 rfl rfl rfl rfl<|Lo2 rfl rfl rfl rfl<|Lo2 rfl rfl rfl rfl<|Ls (q0v (v := .bool _) rfl rfl)<|m_B rfl<|Lo2 rfl rfl rfl rfl<|Lo2 rfl rfl rfl rfl<|Lo2 rfl rfl rfl rfl<|Lo2 rfl rfl rfl rfl<|Lo2 rfl rfl rfl rfl<|Ls (q0v (v := .bool _) rfl rfl)<|q0c<|tn<|q1f rfl<|q0b<|q0a<|a_B rfl<|q0c<|tn<|q0s<|tr ?_); exact q0e rfl rfl (v := .bool _) rfl ⟨false, rfl, ⟨(fun h => by cases h), fun h => by have := h.r; omega⟩, E13⟩
  by_cases h4 : lc < 0
  · (refine a_I rfl<|a_I rfl<|q0c<|tn<|q0b<|q0b<|q0a<|m_I rfl<|Ls (q2d rfl rfl (by omega))<|m_B rfl<|Lg2 rfl rfl rfl (q0d (v := .int _ _) rfl)<|Lg2 rfl rfl rfl (q2q rfl rfl (by omega))<|Ls (q0p (v := .bool _) rfl rfl)<|m_B rfl<|Lg2 rfl rfl rfl (q0d (v := .int _ _) rfl)<|Lg2 rfl rfl rfl (q2d rfl rfl (by omega))<|Ls (q0p (v := .bool _) rfl rfl)<|m_B rfl<|Lg2 rfl rfl rfl (q0d (v := .int _ _) rfl)<|Lg2 rfl rfl rfl (q7a rfl rfl (by omega))<|Ls (q0p (v := .bool _) rfl rfl)<|m_B rfl<|Lo2 rfl rfl rfl rfl<|Lo2 rfl rfl rfl rfl<|Lo2 rfl rfl rfl rfl<|Lo2 rfl rfl rfl rfl<|Lo2 rfl rfl rfl rfl<|Ls (q0v (v := .bool _) rfl rfl)<|m_B rfl<|Lo2 rfl rfl rfl rfl<|Lo2 rfl rfl rfl rfl<|Lo2 rfl rfl rfl rfl<|Lo2 rfl rfl rfl rfl<|Lo2 rfl rfl rfl rfl<|Ls (q0v (v := .bool _) rfl rfl)<|q0c<|tn<|q1f rfl<|q0b<|q0a<|a_B rfl<|q0c<|tn<|q0s<|tr ?_); exact q0e rfl rfl (v := .bool _) rfl ⟨false, rfl, ⟨(fun h => by cases h), fun h => by have := h.c; omega⟩, E13⟩
  by_cases h5 : lr + lc = log
  · have hcb := col_bd (R := R) (C := C) (log := log) (by omega) (by omega) (by omega) (by omega); (refine a_I rfl<|a_I rfl<|q0c<|tn<|q0b<|q0b<|q0a<|m_I rfl<|Ls (q2d rfl rfl (by omega))<|m_B rfl<|Lg2 rfl rfl rfl (q0d (v := .int _ _) rfl)<|Lg2 rfl rfl rfl (q2q rfl rfl (by omega))<|Ls (q0p (v := .bool _) rfl rfl)<|m_B rfl<|Lg2 rfl rfl rfl (q0d (v := .int _ _) rfl)<|Lg2 rfl rfl rfl (q2d rfl rfl (by omega))<|Ls (q0p (v := .bool _) rfl rfl)<|m_B rfl<|Lg2 rfl rfl rfl (q0d (v := .int _ _) rfl)<|Lg2 rfl rfl rfl (q2d rfl rfl (by omega))<|Ls (q0p (v := .bool _) rfl rfl)<|m_B rfl<|Lg2 rfl rfl rfl (q0d (v := .int _ _) rfl)<|Lg2 rfl rfl rfl (q0d (v := .int _ _) rfl)<|Lg2 rfl rfl rfl (q1b rfl rfl (by omega))<|Lg2 rfl rfl rfl (q0d (v := .int _ _) rfl)<|Lg2 rfl rfl rfl (q2f rfl rfl (by omega))<|Ls (q0p (v := .bool _) rfl rfl)<|m_B rfl ?_); refine q1x rfl rfl rfl ?_; refine L_lits (z := [.int .i64 0]) (zs' := [[.int .i64 2], [.int .i64 4], [.int .i64 8], [.int .i64 16]]) (cs := ints .i64 [2, 4, 8, 16]) (len := 4) ?_ rfl rfl rfl rfl ?_
    · repeat (first | exact Parts.nil _ | refine Parts.cons rfl rfl rfl rfl ?_)
    intro q w4 r4 E4 hs4 o4 hq; subst hq; have C2 := C2.ext E4; have hct : ∀ w5, w5 = w4 → Calls Tryz.prog 71 #[.slice (some ⟨w3.heap.size, 0, none⟩) 4 4, .int .i64 B] w5 fun e w' => e = .returned (.bool (decide (B = 2 ∨ B = 4 ∨ B = 8 ∨ B = 16))) ∧ Ext w5 w' := by
      rintro w5 rfl; have h := Tryz.slices_Contains_int w3.heap.size 0 4 4 [2, 4, 8, 16] B w5 (by decide) (by decide) (fun j hj => q6v o4 j _ (by
        match j, hj with
        | 0, _ => rfl
        | 1, _ => rfl
        | 2, _ => rfl
        | 3, _ => rfl))
      refine h.mono fun e w' ⟨h1, h2⟩ => ⟨?_, by rw [h2]; exact Ext.refl _⟩; rw [h1]; congr 2; rw [Bool.eq_iff_iff]; simp
    (refine Lg2 rfl rfl rfl (q0t rfl)<|Lg2 rfl rfl rfl (X_ld (cs := shC R C B T) rfl C2 rfl) ?_); refine q1x rfl rfl rfl ?_; refine L_fv rfl (hct w4 rfl) ?_; intro w5 E5; have C2 := C2.ext E5; have E15 := E13.trans (E4.trans E5); by_cases h6 : B = 2 ∨ B = 4 ∨ B = 8 ∨ B = 16
    · rw [decide_eq_true h6]; have hmb := mul_bd h6 ⟨hcb.1, hcb.2.1⟩; by_cases h7 : B * C ≤ 65536
      · by_cases h8 : 1 ≤ T
        · (refine Lg2 rfl rfl rfl (q1r rfl)<|Ls (q0p (v := .bool _) rfl rfl)<|q0c<|tn<|q0x rfl<|q0n<|tn<|q0b<|q0a<|Ls (q0t rfl)<|Ls (X_ld (cs := shC R C B T) rfl C2 rfl)<|Ls (q0t rfl)<|Ls (X_ld (cs := shC R C B T) rfl C2 rfl)<|Ls (q1z rfl rfl ⟨by omega, by omega⟩)<|a_I rfl<|q0c<|tn<|q0b<|q0a<|m_I rfl<|Ls (q7b rfl rfl (by omega))<|m_B rfl<|Lg2 rfl rfl rfl (q0t rfl)<|Lg2 rfl rfl rfl (X_ld (cs := shC R C B T) rfl C2 rfl)<|Lg2 rfl rfl rfl (q7b rfl rfl (by omega))<|Ls (q0v (v := .bool _) rfl rfl)<|m_B rfl<|Lg2 rfl rfl rfl (q0t rfl)<|Lg2 rfl rfl rfl (X_ld (cs := shC R C B T) rfl C2 rfl)<|Lg2 rfl rfl rfl (q0d (v := .int _ _) rfl)<|Lg2 rfl rfl rfl ((X_min rfl rfl).trans (by rfl))<|Lg2 rfl rfl rfl (X_leq rfl rfl)<|Ls (q0v (v := .bool _) rfl rfl)<|a_B rfl<|q0c<|tn<|q0s ?_); refine q0e rfl rfl (v := .bool _) rfl ⟨_, rfl, ?_, E15⟩; rw [decide_eq_true_eq]; constructor
          · intro h; refine ⟨by omega, by omega, by omega, by omega, by omega, h6, h7, h8, ?_, ?_⟩
            · split at h <;> omega
            · split at h <;> omega
          · intro h; have := h.t64; have := h.tn; split <;> omega
        · (refine Lg2 rfl rfl rfl (q1r rfl)<|Ls (q0p (v := .bool _) rfl rfl)<|q0c<|tn<|q0x rfl<|q0n<|tn<|q0b<|q0a<|Ls (q0t rfl)<|Ls (X_ld (cs := shC R C B T) rfl C2 rfl)<|Ls (q0t rfl)<|Ls (X_ld (cs := shC R C B T) rfl C2 rfl)<|Ls (q1z rfl rfl ⟨by omega, by omega⟩)<|a_I rfl<|q0c<|tn<|q0b<|q0a<|m_I rfl<|Ls (q7b rfl rfl (by omega))<|m_B rfl<|Lg2 rfl rfl rfl (q0t rfl)<|Lg2 rfl rfl rfl (X_ld (cs := shC R C B T) rfl C2 rfl)<|Lg2 rfl rfl rfl (z2w rfl rfl (by omega))<|Ls (q0v (v := .bool _) rfl rfl)<|m_B rfl<|Lo2 rfl rfl rfl rfl<|Lo2 rfl rfl rfl rfl<|Lo2 rfl rfl rfl rfl<|Lo2 rfl rfl rfl rfl<|Lo2 rfl rfl rfl rfl<|Ls (q0p (v := .bool _) rfl rfl)<|a_B rfl<|q0c<|tn<|q0s ?_); exact q0e rfl rfl (v := .bool _) rfl ⟨false, rfl, ⟨(fun h => by cases h), fun h => (h8 h.t1).elim⟩, E15⟩
      · (refine Lg2 rfl rfl rfl (q1r rfl)<|Ls (q0p (v := .bool _) rfl rfl)<|q0c<|tn<|q0x rfl<|q0n<|tn<|q0b<|q0a<|Ls (q0t rfl)<|Ls (X_ld (cs := shC R C B T) rfl C2 rfl)<|Ls (q0t rfl)<|Ls (X_ld (cs := shC R C B T) rfl C2 rfl)<|Ls (q1z rfl rfl ⟨by omega, by omega⟩)<|a_I rfl<|q0c<|tn<|q0b<|q0a<|m_I rfl<|Ls (z2w rfl rfl (by omega))<|m_B rfl<|Lo2 rfl rfl rfl rfl<|Lo2 rfl rfl rfl rfl<|Lo2 rfl rfl rfl rfl<|Ls (q0p (v := .bool _) rfl rfl)<|m_B rfl<|Lo2 rfl rfl rfl rfl<|Lo2 rfl rfl rfl rfl<|Lo2 rfl rfl rfl rfl<|Lo2 rfl rfl rfl rfl<|Lo2 rfl rfl rfl rfl<|Ls (q0p (v := .bool _) rfl rfl)<|a_B rfl<|q0c<|tn<|q0s ?_); exact q0e rfl rfl (v := .bool _) rfl ⟨false, rfl, ⟨(fun h => by cases h), fun h => (h7 h.n).elim⟩, E15⟩
    · rw [decide_eq_false h6]; (refine Lg2 rfl rfl rfl (q1r rfl)<|Ls (q0p (v := .bool _) rfl rfl)<|q0c<|tn<|q1f rfl<|q0b<|q0a<|a_B rfl<|q0c<|tn<|q0s<|tr ?_); exact q0e rfl rfl (v := .bool _) rfl ⟨false, rfl, ⟨(fun h => by cases h), fun h => (h6 h.b).elim⟩, E15⟩
  · (refine a_I rfl<|a_I rfl<|q0c<|tn<|q0b<|q0b<|q0a<|m_I rfl<|Ls (q2d rfl rfl (by omega))<|m_B rfl<|Lg2 rfl rfl rfl (q0d (v := .int _ _) rfl)<|Lg2 rfl rfl rfl (q2q rfl rfl (by omega))<|Ls (q0p (v := .bool _) rfl rfl)<|m_B rfl<|Lg2 rfl rfl rfl (q0d (v := .int _ _) rfl)<|Lg2 rfl rfl rfl (q2d rfl rfl (by omega))<|Ls (q0p (v := .bool _) rfl rfl)<|m_B rfl<|Lg2 rfl rfl rfl (q0d (v := .int _ _) rfl)<|Lg2 rfl rfl rfl (q2d rfl rfl (by omega))<|Ls (q0p (v := .bool _) rfl rfl)<|m_B rfl<|Lg2 rfl rfl rfl (q0d (v := .int _ _) rfl)<|Lg2 rfl rfl rfl (q0d (v := .int _ _) rfl)<|Lg2 rfl rfl rfl (q1b rfl rfl (by omega))<|Lg2 rfl rfl rfl (q0d (v := .int _ _) rfl)<|Lg2 rfl rfl rfl (q3z rfl rfl (by omega))<|Ls (q0p (v := .bool _) rfl rfl)<|m_B rfl<|Lo2 rfl rfl rfl rfl<|Lo2 rfl rfl rfl rfl<|Lo2 rfl rfl rfl rfl<|Lo2 rfl rfl rfl rfl<|Lo2 rfl rfl rfl rfl<|Ls (q0v (v := .bool _) rfl rfl)<|q0c<|tn<|q1f rfl<|q0b<|q0a<|a_B rfl<|q0c<|tn<|q0s<|tr ?_); exact q0e rfl rfl (v := .bool _) rfl ⟨false, rfl, ⟨(fun h => by cases h), fun h => by have := h.s; omega⟩, E13⟩
def p16 (n : Int) : Bool := decide (0 ≤ lgI n ∧ lgI n ≤ 16)
set_option maxHeartbeats 1000000 in
theorem q6c (n : Int) (hn : I64 n) (w : World) :
    Calls Tryz.prog 72 #[.int .i64 n] w fun e w' => e = .returned (.bool (p16 n)) ∧ Ext w w' := by
  refine q0i Tryz.func72 rfl Tryz.ntmps72 rfl ?_; (refine q0b<|q0a<|a_B rfl<|q0c<|tn<|q0b<|q0b<|q0a<|a_I rfl<|q0c<|tn<|q0h ?_); refine q1k (fun q f w' => ∃ i : Nat, q = 17 - i ∧ i ≤ 17 ∧ (p16 n = true → (i : Int) ≤ lgI n) ∧ f 0 = .int .i64 n ∧ f 3 = .int .i64 (i : Nat) ∧ w' = w) 17 ?_ ?_
  · refine ⟨0, rfl, by omega, fun h => ?_, rfl, rfl, rfl⟩; unfold p16 at h; rw [decide_eq_true_eq] at h; exact h.1
  · rintro q f wr ⟨i, hq, hi, hp, f0, f3, rfl⟩; rw [fold f0, fold f3]; (refine q0b<|q0b<|q0a<|m_I rfl<|Ls (X_leq rfl rfl)<|q0c<|tn ?_); refine q0y rfl (fun h => ?_) (fun h => ?_)
    · have hi16 : i ≤ 16 := (by omega); (refine q0n<|tn<|q0b<|q0h<|q0b<|q0a<|m_I rfl<|m_I rfl<|Ls ((q5m rfl rfl (by omega)).trans (by rw [q5z (by omega)]))<|Ls (z2m rfl rfl)<|q0c<|tn ?_); refine q0y rfl (fun h2 => ?_) (fun h2 => ?_)
      · have : p16 n = true := by
          rw [h2]; unfold p16; rw [q5j, decide_eq_true_eq]; omega
        rw [this]; (refine q0b<|q0a<|a_B rfl<|q0c<|tn<|q0s<|br<|tr<|tr<|br<|tr ?_); exact q0e rfl rfl (v := .bool _) rfl ⟨rfl, Ext.refl _⟩
      · (refine q0n<|bn<|tn<|q0a<|m_I rfl<|Ls (q1b rfl rfl (by omega))<|a_I rfl<|q0c<|tn ?_); refine ⟨17 - (i + 1), by omega, i + 1, rfl, by omega, fun hp1 => ?_, rfl, rfl, rfl⟩; have h3 := hp hp1; by_cases e : (i : Int) = lgI n
        · obtain ⟨a, ha, hna⟩ := z0a (n := n) (by omega); have : a = i := (by omega); rw [this] at hna; exact (h2 hna).elim
        · omega
    · have : p16 n = false := by
        cases hb : p16 n with
        | false => rfl
        | true =>
          have h3 := hp hb; unfold p16 at hb; rw [decide_eq_true_eq] at hb; omega
      rw [this]; (refine q1j<|te<|te<|bx<|tn<|q0b<|q0a<|a_B rfl<|q0c<|tn<|q0s ?_); exact q0e rfl rfl (v := .bool _) rfl ⟨rfl, Ext.refl _⟩
theorem p16_true {n : Int} (h : p16 n = true) : ∃ a : Nat, a ≤ 16 ∧ lgI n = a ∧ n = ((2 ^ a : Nat) : Int) := by
  unfold p16 at h; rw [decide_eq_true_eq] at h; obtain ⟨a, h1, h2⟩ := z0a h.1; exact ⟨a, by omega, h1, h2⟩
set_option maxRecDepth 100000 in
set_option maxHeartbeats 4000000 in
theorem z3d (R C B T log : Int) (hR : I64 R) (hC : I64 C) (hB : I64 B) (hT : I64 T) (hlog : I64 log) (w : World) :
    Calls Tryz.prog 21 #[.agg (shC R C B T).toArray, .int .i64 log] w fun e w' => ∃ b : Bool, e = .returned (.bool b) ∧ (b = true ↔ SOk R C B T log) ∧ Ext w w' := by
  obtain ⟨l1, l2⟩ := hlog; obtain ⟨t1, t2⟩ := hT; refine q0i Tryz.func21 rfl Tryz.ntmps21 rfl ?_; (refine q0b<|q0a ?_); refine q1u rfl ?_; intro g2 w1 B2 hg2 E1 hs1; (refine a_B rfl<|q0c<|tn<|q0b<|q0b ?_); by_cases h1 : log < 0
  · apply q1h 28 (by kernel_rfl); repeat (first | ((with_reducible apply q2l); ((with_reducible apply d_ng); (first | apply DW_x (fun r w hA hH => (q0d (v := .int _ _) rfl).trans rfl) | apply DW_x (fun r w hA hH => (q0d (v := .bool _) rfl).trans rfl)))) | ((with_reducible apply z3x); ((with_reducible apply d_ng); apply DW_x (fun r w hA hH => (q7a rfl rfl (by omega)).trans rfl))) | ((with_reducible apply q4w); ((with_reducible apply d_ng); apply DW_x (fun r w hA hH => (q0v (v := .bool _) rfl rfl).trans rfl))) | ((with_reducible apply d_gd); apply q2t rfl rfl (fun _ => rfl) rfl))
    ((with_reducible exact q1p); (exact rfl); (repeat (first | exact .inr (.inr (fun _ _ => by with_reducible rfl)) | (refine And.intro ?_ ?_) | exact .inr (.inl rfl) | exact .inl (by decide +kernel) | exact trivial | exact .inr (.inr (fun _ _ => rfl)))); (try dsimp only [Nat.reduceAdd])); intro r0 w2 E2 _; (refine q0c<|tn<|q1f rfl<|q0b<|q0a<|a_B rfl<|q0c<|tn<|q0s<|tr ?_); exact q0e rfl rfl (v := .bool _) rfl ⟨false, rfl, ⟨(fun h => by cases h), fun h => by have := h.l0; omega⟩, E1.trans E2⟩
  by_cases h2 : 16 < log
  · apply q1h 28 (by kernel_rfl); repeat (first | ((with_reducible apply q2l); (first | ((with_reducible apply d_ng); (first | apply DW_x (fun r w hA hH => (q0d (v := .int _ _) rfl).trans rfl) | apply DW_x (fun r w hA hH => (q0d (v := .bool _) rfl).trans rfl))) | ((with_reducible apply d_gd); apply q0q rfl rfl (fun _ => rfl) (fun r w hA hH => (q0d (v := .int _ _) rfl).trans rfl)))) | ((with_reducible apply z3x); ((with_reducible apply d_ng); apply DW_x (fun r w hA hH => (q2d rfl rfl (by omega)).trans rfl))) | ((with_reducible apply d_gtr); ((with_reducible apply d_gd); apply q0q rfl rfl (fun _ => rfl) (fun r w hA hH => (q4z rfl rfl (by omega)).trans rfl))) | ((with_reducible apply q4w); ((with_reducible apply d_ng); (first | apply DW_x (fun r w hA hH => (q0v (v := .bool _) rfl rfl).trans rfl) | apply DW_x (fun r w hA hH => (q0p (v := .bool _) rfl rfl).trans rfl)))) | ((with_reducible apply d_gd); apply q2t rfl rfl (fun _ => rfl) rfl))
    ((with_reducible exact q1p); (exact rfl); (repeat (first | exact .inr (.inr (fun _ _ => by with_reducible rfl)) | (refine And.intro ?_ ?_) | exact .inr (.inl rfl) | exact .inl (by decide +kernel) | exact trivial | exact .inr (.inr (fun _ _ => rfl)))); (try dsimp only [Nat.reduceAdd])); intro r0 w2 E2 _; (refine q0c<|tn<|q1f rfl<|q0b<|q0a<|a_B rfl<|q0c<|tn<|q0s<|tr ?_); exact q0e rfl rfl (v := .bool _) rfl ⟨false, rfl, ⟨(fun h => by cases h), fun h => by have := h.l16; omega⟩, E1.trans E2⟩
  cases h3 : p16 R with
  | false =>
    apply q1h 28 (by kernel_rfl); (apply DW_x (fun r w hA hH => (q0d (v := .int _ _) rfl).trans rfl); apply DW_x (fun r w hA hH => (q2d rfl rfl (by omega)).trans rfl); apply DW_x (fun r w hA hH => (q0d (v := .bool _) rfl).trans rfl); apply q0q rfl rfl (fun _ => rfl) (fun r w hA hH => (q0d (v := .int _ _) rfl).trans rfl); apply q0q rfl rfl (fun _ => rfl) (fun r w hA hH => (q2q rfl rfl (by omega)).trans rfl); apply DW_x (fun r w hA hH => (q0p (v := .bool _) rfl rfl).trans rfl); apply DW_x (fun r w hA hH => (q0d (v := .bool _) rfl).trans rfl); apply q0q rfl rfl (fun _ => rfl) (fun r w hA hH => (q0t rfl).trans rfl); apply q0q rfl rfl (fun _ => rfl) (fun r w hA hH => (X_ld (cs := shC R C B T) rfl (B2.ext hA) rfl).trans rfl)); ((with_reducible apply q3f); (exact rfl); (exact rfl); (exact fun _ => rfl); (exact fun _ => rfl); (exact fun r w hA hH => q6c R hR w)); rw [h3]; repeat (first | ((with_reducible apply q2l); ((with_reducible apply d_ng); apply DW_x (fun r w hA hH => (q0d (v := .bool _) rfl).trans rfl))) | ((with_reducible apply d_unot); ((with_reducible apply d_gd); apply q0q rfl rfl (fun _ => rfl) (fun r w hA hH => (q1r rfl).trans rfl))) | ((with_reducible apply q4w); ((with_reducible apply d_ng); (first | apply DW_x (fun r w hA hH => (q0v (v := .bool _) rfl rfl).trans rfl) | apply DW_x (fun r w hA hH => (q0p (v := .bool _) rfl rfl).trans rfl)))) | ((with_reducible apply d_gd); apply q2t rfl rfl (fun _ => rfl) rfl))
    ((with_reducible exact q1p); (exact rfl); (repeat (first | exact .inr (.inr (fun _ _ => by with_reducible rfl)) | (refine And.intro ?_ ?_) | exact .inr (.inl rfl) | exact .inl (by decide +kernel) | exact trivial | exact .inr (.inr (fun _ _ => rfl)))); (try dsimp only [Nat.reduceAdd])); intro r0 w2 E2 _; (refine q0c<|tn<|q1f rfl<|q0b<|q0a<|a_B rfl<|q0c<|tn<|q0s<|tr ?_); exact q0e rfl rfl (v := .bool _) rfl ⟨false, rfl, ⟨(fun h => by cases h), fun h => by
      have h3' := h3
      unfold p16 at h3'
      rw [decide_eq_false_iff_not] at h3'
      exact (h3' ⟨h.r, by have := h.c; have := h.s; have := h.l16; omega⟩).elim⟩, E1.trans E2⟩
  | true =>
  cases h4 : p16 C with
  | false =>
    apply q1h 28 (by kernel_rfl); (apply DW_x (fun r w hA hH => (q0d (v := .int _ _) rfl).trans rfl); apply DW_x (fun r w hA hH => (q2d rfl rfl (by omega)).trans rfl); apply DW_x (fun r w hA hH => (q0d (v := .bool _) rfl).trans rfl); apply q0q rfl rfl (fun _ => rfl) (fun r w hA hH => (q0d (v := .int _ _) rfl).trans rfl); apply q0q rfl rfl (fun _ => rfl) (fun r w hA hH => (q2q rfl rfl (by omega)).trans rfl); apply DW_x (fun r w hA hH => (q0p (v := .bool _) rfl rfl).trans rfl); apply DW_x (fun r w hA hH => (q0d (v := .bool _) rfl).trans rfl); apply q0q rfl rfl (fun _ => rfl) (fun r w hA hH => (q0t rfl).trans rfl); apply q0q rfl rfl (fun _ => rfl) (fun r w hA hH => (X_ld (cs := shC R C B T) rfl (B2.ext hA) rfl).trans rfl)); ((with_reducible apply q3f); (exact rfl); (exact rfl); (exact fun _ => rfl); (exact fun _ => rfl); (exact fun r w hA hH => q6c R hR w)); rw [h3]; (apply q0q rfl rfl (fun _ => rfl) (fun r w hA hH => (q1r rfl).trans rfl); apply DW_x (fun r w hA hH => (q0p (v := .bool _) rfl rfl).trans rfl); apply DW_x (fun r w hA hH => (q0d (v := .bool _) rfl).trans rfl); apply q0q rfl rfl (fun _ => rfl) (fun r w hA hH => (q0t rfl).trans rfl); apply q0q rfl rfl (fun _ => rfl) (fun r w hA hH => (X_ld (cs := shC R C B T) rfl (B2.ext hA) rfl).trans rfl)); ((with_reducible apply q3f); (exact rfl); (exact rfl); (exact fun _ => rfl); (exact fun _ => rfl); (exact fun r w hA hH => q6c C hC w)); rw [h4]; repeat (first | ((with_reducible apply q2l); ((with_reducible apply d_ng); apply DW_x (fun r w hA hH => (q0d (v := .bool _) rfl).trans rfl))) | ((with_reducible apply d_unot); ((with_reducible apply d_gd); apply q0q rfl rfl (fun _ => rfl) (fun r w hA hH => (q1r rfl).trans rfl))) | ((with_reducible apply q4w); ((with_reducible apply d_ng); (first | apply DW_x (fun r w hA hH => (q0v (v := .bool _) rfl rfl).trans rfl) | apply DW_x (fun r w hA hH => (q0p (v := .bool _) rfl rfl).trans rfl)))) | ((with_reducible apply d_gd); apply q2t rfl rfl (fun _ => rfl) rfl))
    ((with_reducible exact q1p); (exact rfl); (repeat (first | exact .inr (.inr (fun _ _ => by with_reducible rfl)) | (refine And.intro ?_ ?_) | exact .inr (.inl rfl) | exact .inl (by decide +kernel) | exact trivial | exact .inr (.inr (fun _ _ => rfl)))); (try dsimp only [Nat.reduceAdd])); intro r0 w2 E2 _; (refine q0c<|tn<|q1f rfl<|q0b<|q0a<|a_B rfl<|q0c<|tn<|q0s<|tr ?_); exact q0e rfl rfl (v := .bool _) rfl ⟨false, rfl, ⟨(fun h => by cases h), fun h => by
      have h4' := h4
      unfold p16 at h4'
      rw [decide_eq_false_iff_not] at h4'
      exact (h4' ⟨h.c, by have := h.r; have := h.s; have := h.l16; omega⟩).elim⟩, E1.trans E2⟩
  | true =>
  obtain ⟨a, ha16, ha, hRa⟩ := p16_true h3; obtain ⟨c, hc16, hc, hCc⟩ := p16_true h4; obtain ⟨l, rfl⟩ : ∃ l : Nat, log = l := ⟨log.toNat, by omega⟩; have pa := q1a ha16; have pc := q1a hc16; have hRC : R * C = ((2 ^ (a + c) : Nat) : Int) := by rw [hRa, hCc, Nat.pow_add, Int.natCast_mul]
  have hRb : 1 ≤ R ∧ R ≤ 65536 := by omega
  have hCb : 1 ≤ C ∧ C ≤ 65536 := by omega
  have hRCb : 0 ≤ R * C ∧ R * C ≤ 4294967296 := by
    rw [hRC]; have : 2 ^ (a + c) ≤ 2 ^ 32 := Nat.pow_le_pow_right (by decide) (by omega); generalize 2 ^ (a + c) = z at this ⊢; omega
  by_cases h5 : a + c = l
  · have he : R * C = ((2 ^ l : Nat) : Int) := (by rw [hRC, h5]); apply q1h 28 (by kernel_rfl); (apply DW_x (fun r w hA hH => (q0d (v := .int _ _) rfl).trans rfl); apply DW_x (fun r w hA hH => (q2d rfl rfl (by omega)).trans rfl); apply DW_x (fun r w hA hH => (q0d (v := .bool _) rfl).trans rfl); apply q0q rfl rfl (fun _ => rfl) (fun r w hA hH => (q0d (v := .int _ _) rfl).trans rfl); apply q0q rfl rfl (fun _ => rfl) (fun r w hA hH => (q2q rfl rfl (by omega)).trans rfl); apply DW_x (fun r w hA hH => (q0p (v := .bool _) rfl rfl).trans rfl); apply DW_x (fun r w hA hH => (q0d (v := .bool _) rfl).trans rfl); apply q0q rfl rfl (fun _ => rfl) (fun r w hA hH => (q0t rfl).trans rfl); apply q0q rfl rfl (fun _ => rfl) (fun r w hA hH => (X_ld (cs := shC R C B T) rfl (B2.ext hA) rfl).trans rfl)); ((with_reducible apply q3f); (exact rfl); (exact rfl); (exact fun _ => rfl); (exact fun _ => rfl); (exact fun r w hA hH => q6c R hR w)); rw [h3]; (apply q0q rfl rfl (fun _ => rfl) (fun r w hA hH => (q1r rfl).trans rfl); apply DW_x (fun r w hA hH => (q0p (v := .bool _) rfl rfl).trans rfl); apply DW_x (fun r w hA hH => (q0d (v := .bool _) rfl).trans rfl); apply q0q rfl rfl (fun _ => rfl) (fun r w hA hH => (q0t rfl).trans rfl); apply q0q rfl rfl (fun _ => rfl) (fun r w hA hH => (X_ld (cs := shC R C B T) rfl (B2.ext hA) rfl).trans rfl)); ((with_reducible apply q3f); (exact rfl); (exact rfl); (exact fun _ => rfl); (exact fun _ => rfl); (exact fun r w hA hH => q6c C hC w)); rw [h4]; (apply q0q rfl rfl (fun _ => rfl) (fun r w hA hH => (q1r rfl).trans rfl); apply DW_x (fun r w hA hH => (q0p (v := .bool _) rfl rfl).trans rfl); apply DW_x (fun r w hA hH => (q0d (v := .bool _) rfl).trans rfl); apply q0q rfl rfl (fun _ => rfl) (fun r w hA hH => (q0t rfl).trans rfl); apply q0q rfl rfl (fun _ => rfl) (fun r w hA hH => (X_ld (cs := shC R C B T) rfl (B2.ext hA) rfl).trans rfl); apply q0q rfl rfl (fun _ => rfl) (fun r w hA hH => (q0t rfl).trans rfl); apply q0q rfl rfl (fun _ => rfl) (fun r w hA hH => (X_ld (cs := shC R C B T) rfl (B2.ext hA) rfl).trans rfl); apply q0q rfl rfl (fun _ => rfl) (fun r w hA hH => (q1z rfl rfl ⟨by omega, by omega⟩).trans rfl); apply q0q rfl rfl (fun _ => rfl) (fun r w hA hH => (q0d (v := .int _ _) rfl).trans rfl); apply q0q rfl rfl (fun _ => rfl) (fun r w hA hH => ((q5m rfl rfl (by omega)).trans (by rw [q5z (by omega)])).trans rfl); apply q0q rfl rfl (fun _ => rfl) (fun r w hA hH => (q2f rfl rfl (fun h => h he)).trans rfl); apply DW_x (fun r w hA hH => (q0p (v := .bool _) rfl rfl).trans rfl)); ((with_reducible exact q1p); (exact rfl); (repeat (first | exact .inr (.inr (fun _ _ => by with_reducible rfl)) | (refine And.intro ?_ ?_) | exact .inr (.inl rfl) | exact .inl (by decide +kernel) | exact trivial | exact .inr (.inr (fun _ _ => rfl)))); (try dsimp only [Nat.reduceAdd])); intro r0 w2 E2 _; have C2 := B2.ext E2; have E12 := E1.trans E2; by_cases h6 : B = 2 ∨ B = 4 ∨ B = 8 ∨ B = 16
    · have hmb := mul_bd h6 hCb; have hok : B * C ≤ 65536 → 1 ≤ T → T ≤ 64 → T ≤ B * C → SOk R C B T (l : Int) := fun q1 q2 q3 q4 => ⟨by omega, by omega, by omega, by omega, by omega, h6, q1, q2, q3, q4⟩; have key : ∀ x y : Bool, True := fun _ _ => trivial; by_cases h7 : B * C ≤ 65536
      · rcases h6 with h6 | h6 | h6 | h6 <;>
        · by_cases h8 : 1 ≤ T
          · by_cases h9 : T ≤ 64
            · repeat (first | (with_reducible refine tn ?_) | (with_reducible refine q0b ?_) | (with_reducible refine q0a ?_) | (with_reducible refine q0n ?_) | (with_reducible refine q0s ?_) | (with_reducible refine q0c ?_) | ((with_reducible refine z1j ?_); ((with_reducible refine i_ng ?_); refine Ls (q0d (v := .bool _) rfl) ?_)) | ((with_reducible refine q7l ?_); ((with_reducible refine i_ng ?_); refine Ls (q0j (v := .bool _) rfl) ?_)) | ((with_reducible refine i_mul ?_); ((with_reducible refine i_gd ?_); refine Lg2 rfl rfl rfl (q1z rfl rfl ⟨by omega, by omega⟩) ?_)) | ((with_reducible refine i_leq ?_); ((with_reducible refine i_gd ?_); (first | refine Lg2 rfl rfl rfl (q7b rfl rfl (by omega)) ?_ | refine Lg2 rfl rfl rfl (X_leq rfl rfl) ?_))) | ((with_reducible refine i_gtr ?_); ((with_reducible refine i_gd ?_); refine Lg2 rfl rfl rfl (q2q rfl rfl (by omega)) ?_)) | ((with_reducible refine i_geq ?_); ((with_reducible refine i_ng ?_); refine Ls (q5r rfl rfl (by omega)) ?_)) | ((with_reducible refine i_neq ?_); (first | ((with_reducible refine i_ng ?_); (first | refine Ls (q3z rfl rfl (by omega)) ?_ | refine Ls (q2f rfl rfl (by omega)) ?_)) | ((with_reducible refine i_gd ?_); (first | refine Lg2 rfl rfl rfl (q3z rfl rfl (by omega)) ?_ | refine Lg2 rfl rfl rfl (q2f rfl rfl (by omega)) ?_)))) | ((with_reducible refine i_fld ?_); (first | ((with_reducible refine i_ng ?_); refine Ls (q0t rfl) ?_) | ((with_reducible refine i_gd ?_); refine Lg2 rfl rfl rfl (q0t rfl) ?_))) | ((with_reducible refine i_pick ?_); ((with_reducible refine i_ng ?_); (first | refine Ls (q0v (v := .bool _) rfl rfl) ?_ | refine Ls (q0p (v := .bool _) rfl rfl) ?_))) | ((with_reducible refine i_load ?_); (first | ((with_reducible refine i_ng ?_); refine Ls (X_ld (cs := shC R C B T) rfl C2 rfl) ?_) | ((with_reducible refine i_gd ?_); refine Lg2 rfl rfl rfl (X_ld (cs := shC R C B T) rfl C2 rfl) ?_))) | ((with_reducible refine i_gd ?_); refine Lo2 rfl rfl rfl rfl ?_) | (with_reducible refine q0x rfl ?_))
              refine q0e rfl rfl (v := .bool _) rfl ⟨_, rfl, ?_, E12⟩; first
                | exact ⟨fun h => hok h7 h8 h9 (by first | omega | exact of_decide_eq_true h), fun h => by first | rfl | exact decide_eq_true h.tn⟩
                | exact ⟨fun h => by cases h, fun h => by have := h.tn; omega⟩
            · repeat (first | (with_reducible refine tn ?_) | (with_reducible refine q0b ?_) | (with_reducible refine q0a ?_) | (with_reducible refine q0n ?_) | (with_reducible refine q0s ?_) | (with_reducible refine q0c ?_) | ((with_reducible refine z1j ?_); ((with_reducible refine i_ng ?_); refine Ls (q0d (v := .bool _) rfl) ?_)) | ((with_reducible refine q7l ?_); ((with_reducible refine i_ng ?_); refine Ls (q0j (v := .bool _) rfl) ?_)) | ((with_reducible refine i_mul ?_); ((with_reducible refine i_gd ?_); refine Lg2 rfl rfl rfl (q1z rfl rfl ⟨by omega, by omega⟩) ?_)) | ((with_reducible refine i_leq ?_); ((with_reducible refine i_gd ?_); refine Lg2 rfl rfl rfl (z2w rfl rfl (by omega)) ?_)) | ((with_reducible refine i_gtr ?_); ((with_reducible refine i_gd ?_); refine Lg2 rfl rfl rfl (q2q rfl rfl (by omega)) ?_)) | ((with_reducible refine i_geq ?_); ((with_reducible refine i_ng ?_); refine Ls (q5r rfl rfl (by omega)) ?_)) | ((with_reducible refine i_neq ?_); (first | ((with_reducible refine i_ng ?_); (first | refine Ls (q3z rfl rfl (by omega)) ?_ | refine Ls (q2f rfl rfl (by omega)) ?_)) | ((with_reducible refine i_gd ?_); (first | refine Lg2 rfl rfl rfl (q3z rfl rfl (by omega)) ?_ | refine Lg2 rfl rfl rfl (q2f rfl rfl (by omega)) ?_)))) | ((with_reducible refine i_fld ?_); (first | ((with_reducible refine i_ng ?_); refine Ls (q0t rfl) ?_) | ((with_reducible refine i_gd ?_); refine Lg2 rfl rfl rfl (q0t rfl) ?_))) | ((with_reducible refine i_pick ?_); ((with_reducible refine i_ng ?_); (first | refine Ls (q0v (v := .bool _) rfl rfl) ?_ | refine Ls (q0p (v := .bool _) rfl rfl) ?_))) | ((with_reducible refine i_load ?_); (first | ((with_reducible refine i_ng ?_); refine Ls (X_ld (cs := shC R C B T) rfl C2 rfl) ?_) | ((with_reducible refine i_gd ?_); refine Lg2 rfl rfl rfl (X_ld (cs := shC R C B T) rfl C2 rfl) ?_))) | ((with_reducible refine i_gd ?_); refine Lo2 rfl rfl rfl rfl ?_) | (with_reducible refine q0x rfl ?_))
              exact q0e rfl rfl (v := .bool _) rfl ⟨false, rfl, ⟨(fun h => by cases h), fun h => (h9 h.t64).elim⟩, E12⟩
          · repeat (first | (with_reducible refine tn ?_) | (with_reducible refine q0b ?_) | (with_reducible refine q0a ?_) | (with_reducible refine q0n ?_) | (with_reducible refine q0s ?_) | (with_reducible refine q0c ?_) | ((with_reducible refine z1j ?_); ((with_reducible refine i_ng ?_); refine Ls (q0d (v := .bool _) rfl) ?_)) | ((with_reducible refine q7l ?_); ((with_reducible refine i_ng ?_); refine Ls (q0j (v := .bool _) rfl) ?_)) | ((with_reducible refine i_mul ?_); ((with_reducible refine i_gd ?_); refine Lg2 rfl rfl rfl (q1z rfl rfl ⟨by omega, by omega⟩) ?_)) | ((with_reducible refine i_gtr ?_); ((with_reducible refine i_gd ?_); refine Lg2 rfl rfl rfl (q2q rfl rfl (by omega)) ?_)) | ((with_reducible refine i_geq ?_); ((with_reducible refine i_ng ?_); refine Ls (q7c rfl rfl (by omega)) ?_)) | ((with_reducible refine i_neq ?_); (first | ((with_reducible refine i_ng ?_); (first | refine Ls (q3z rfl rfl (by omega)) ?_ | refine Ls (q2f rfl rfl (by omega)) ?_)) | ((with_reducible refine i_gd ?_); (first | refine Lg2 rfl rfl rfl (q3z rfl rfl (by omega)) ?_ | refine Lg2 rfl rfl rfl (q2f rfl rfl (by omega)) ?_)))) | ((with_reducible refine i_fld ?_); (first | ((with_reducible refine i_ng ?_); refine Ls (q0t rfl) ?_) | ((with_reducible refine i_gd ?_); refine Lg2 rfl rfl rfl (q0t rfl) ?_))) | ((with_reducible refine i_pick ?_); ((with_reducible refine i_ng ?_); (first | refine Ls (q0v (v := .bool _) rfl rfl) ?_ | refine Ls (q0p (v := .bool _) rfl rfl) ?_))) | ((with_reducible refine i_load ?_); (first | ((with_reducible refine i_ng ?_); refine Ls (X_ld (cs := shC R C B T) rfl C2 rfl) ?_) | ((with_reducible refine i_gd ?_); refine Lg2 rfl rfl rfl (X_ld (cs := shC R C B T) rfl C2 rfl) ?_))) | ((with_reducible refine i_gd ?_); refine Lo2 rfl rfl rfl rfl ?_) | (with_reducible refine q0x rfl ?_))
            exact q0e rfl rfl (v := .bool _) rfl ⟨false, rfl, ⟨(fun h => by cases h), fun h => (h8 h.t1).elim⟩, E12⟩
      · rcases h6 with h6 | h6 | h6 | h6 <;>
        · repeat (first | (with_reducible refine tn ?_) | (with_reducible refine tr ?_) | (with_reducible refine q0b ?_) | (with_reducible refine q0a ?_) | (with_reducible refine q0n ?_) | (with_reducible refine q0s ?_) | (with_reducible refine q0c ?_) | ((with_reducible refine z1j ?_); ((with_reducible refine i_ng ?_); refine Ls (q0d (v := .bool _) rfl) ?_)) | ((with_reducible refine q7l ?_); ((with_reducible refine i_ng ?_); refine Ls (q0j (v := .bool _) rfl) ?_)) | ((with_reducible refine i_mul ?_); ((with_reducible refine i_gd ?_); refine Lg2 rfl rfl rfl (q1z rfl rfl ⟨by omega, by omega⟩) ?_)) | ((with_reducible refine i_gtr ?_); ((with_reducible refine i_gd ?_); refine Lg2 rfl rfl rfl (q4z rfl rfl (by omega)) ?_)) | ((with_reducible refine i_neq ?_); (first | ((with_reducible refine i_ng ?_); (first | refine Ls (q3z rfl rfl (by omega)) ?_ | refine Ls (q2f rfl rfl (by omega)) ?_)) | ((with_reducible refine i_gd ?_); (first | refine Lg2 rfl rfl rfl (q3z rfl rfl (by omega)) ?_ | refine Lg2 rfl rfl rfl (q2f rfl rfl (by omega)) ?_)))) | ((with_reducible refine i_fld ?_); (first | ((with_reducible refine i_ng ?_); refine Ls (q0t rfl) ?_) | ((with_reducible refine i_gd ?_); refine Lg2 rfl rfl rfl (q0t rfl) ?_))) | ((with_reducible refine i_pick ?_); ((with_reducible refine i_ng ?_); (first | refine Ls (q0v (v := .bool _) rfl rfl) ?_ | refine Ls (q0p (v := .bool _) rfl rfl) ?_))) | ((with_reducible refine i_load ?_); (first | ((with_reducible refine i_ng ?_); refine Ls (X_ld (cs := shC R C B T) rfl C2 rfl) ?_) | ((with_reducible refine i_gd ?_); refine Lg2 rfl rfl rfl (X_ld (cs := shC R C B T) rfl C2 rfl) ?_))) | ((with_reducible refine i_gd ?_); refine Lo2 rfl rfl rfl rfl ?_) | (with_reducible refine q1f rfl ?_) | (with_reducible refine q0x rfl ?_))
          exact q0e rfl rfl (v := .bool _) rfl ⟨false, rfl, ⟨(fun h => by cases h), fun h => (h7 h.n).elim⟩, E12⟩
    · have n1 : B ≠ 2 := fun h => h6 (.inl h); have n2 : B ≠ 4 := fun h => h6 (.inr (.inl h)); have n3 : B ≠ 8 := fun h => h6 (.inr (.inr (.inl h))); have n4 : B ≠ 16 := fun h => h6 (.inr (.inr (.inr h))); (refine q0c<|tn<|q0x rfl<|q0n<|tn<|q0b<|q0b<|q0a<|Ls (q0t rfl)<|Ls (X_ld (cs := shC R C B T) rfl C2 rfl)<|Ls (q3z rfl rfl (by omega))<|m_B rfl<|Lg2 rfl rfl rfl (q0t rfl)<|Lg2 rfl rfl rfl (X_ld (cs := shC R C B T) rfl C2 rfl)<|Lg2 rfl rfl rfl (q3z rfl rfl (by omega))<|Ls (q0v (v := .bool _) rfl rfl)<|m_B rfl<|Lg2 rfl rfl rfl (q0t rfl)<|Lg2 rfl rfl rfl (X_ld (cs := shC R C B T) rfl C2 rfl)<|Lg2 rfl rfl rfl (q3z rfl rfl (by omega))<|Ls (q0v (v := .bool _) rfl rfl)<|m_B rfl<|Lg2 rfl rfl rfl (q0t rfl)<|Lg2 rfl rfl rfl (X_ld (cs := shC R C B T) rfl C2 rfl)<|Lg2 rfl rfl rfl (q3z rfl rfl (by omega))<|Ls (q0v (v := .bool _) rfl rfl)<|m_B rfl<|Lo2 rfl rfl rfl rfl<|Lo2 rfl rfl rfl rfl<|Lo2 rfl rfl rfl rfl<|Lo2 rfl rfl rfl rfl<|Lo2 rfl rfl rfl rfl<|Lo2 rfl rfl rfl rfl<|Ls (q0v (v := .bool _) rfl rfl)<|q0c<|tn<|q1f rfl<|q0b<|q0a<|a_B rfl<|q0c<|tn<|q0s<|tr ?_); exact q0e rfl rfl (v := .bool _) rfl ⟨false, rfl, ⟨(fun h => by cases h), fun h => (h6 h.b).elim⟩, E12⟩
  · have hne : R * C ≠ ((2 ^ l : Nat) : Int) := by
      rw [hRC]; intro h; have : 2 ^ (a + c) = 2 ^ l := Int.ofNat.inj h; exact h5 ((Nat.pow_right_inj (by decide)).1 this)
    apply q1h 28 (by kernel_rfl); (apply DW_x (fun r w hA hH => (q0d (v := .int _ _) rfl).trans rfl); apply DW_x (fun r w hA hH => (q2d rfl rfl (by omega)).trans rfl); apply DW_x (fun r w hA hH => (q0d (v := .bool _) rfl).trans rfl); apply q0q rfl rfl (fun _ => rfl) (fun r w hA hH => (q0d (v := .int _ _) rfl).trans rfl); apply q0q rfl rfl (fun _ => rfl) (fun r w hA hH => (q2q rfl rfl (by omega)).trans rfl); apply DW_x (fun r w hA hH => (q0p (v := .bool _) rfl rfl).trans rfl); apply DW_x (fun r w hA hH => (q0d (v := .bool _) rfl).trans rfl); apply q0q rfl rfl (fun _ => rfl) (fun r w hA hH => (q0t rfl).trans rfl); apply q0q rfl rfl (fun _ => rfl) (fun r w hA hH => (X_ld (cs := shC R C B T) rfl (B2.ext hA) rfl).trans rfl)); ((with_reducible apply q3f); (exact rfl); (exact rfl); (exact fun _ => rfl); (exact fun _ => rfl); (exact fun r w hA hH => q6c R hR w)); rw [h3]; (apply q0q rfl rfl (fun _ => rfl) (fun r w hA hH => (q1r rfl).trans rfl); apply DW_x (fun r w hA hH => (q0p (v := .bool _) rfl rfl).trans rfl); apply DW_x (fun r w hA hH => (q0d (v := .bool _) rfl).trans rfl); apply q0q rfl rfl (fun _ => rfl) (fun r w hA hH => (q0t rfl).trans rfl); apply q0q rfl rfl (fun _ => rfl) (fun r w hA hH => (X_ld (cs := shC R C B T) rfl (B2.ext hA) rfl).trans rfl)); ((with_reducible apply q3f); (exact rfl); (exact rfl); (exact fun _ => rfl); (exact fun _ => rfl); (exact fun r w hA hH => q6c C hC w)); rw [h4]; (apply q0q rfl rfl (fun _ => rfl) (fun r w hA hH => (q1r rfl).trans rfl); apply DW_x (fun r w hA hH => (q0p (v := .bool _) rfl rfl).trans rfl); apply DW_x (fun r w hA hH => (q0d (v := .bool _) rfl).trans rfl); apply q0q rfl rfl (fun _ => rfl) (fun r w hA hH => (q0t rfl).trans rfl); apply q0q rfl rfl (fun _ => rfl) (fun r w hA hH => (X_ld (cs := shC R C B T) rfl (B2.ext hA) rfl).trans rfl); apply q0q rfl rfl (fun _ => rfl) (fun r w hA hH => (q0t rfl).trans rfl); apply q0q rfl rfl (fun _ => rfl) (fun r w hA hH => (X_ld (cs := shC R C B T) rfl (B2.ext hA) rfl).trans rfl); apply q0q rfl rfl (fun _ => rfl) (fun r w hA hH => (q1z rfl rfl ⟨by omega, by omega⟩).trans rfl); apply q0q rfl rfl (fun _ => rfl) (fun r w hA hH => (q0d (v := .int _ _) rfl).trans rfl); apply q0q rfl rfl (fun _ => rfl) (fun r w hA hH => ((q5m rfl rfl (by omega)).trans (by rw [q5z (by omega)])).trans rfl); apply q0q rfl rfl (fun _ => rfl) (fun r w hA hH => (q3z rfl rfl hne).trans rfl); apply DW_x (fun r w hA hH => (q0p (v := .bool _) rfl rfl).trans rfl)); ((with_reducible exact q1p); (exact rfl); (repeat (first | exact .inr (.inr (fun _ _ => by with_reducible rfl)) | (refine And.intro ?_ ?_) | exact .inr (.inl rfl) | exact .inl (by decide +kernel) | exact trivial | exact .inr (.inr (fun _ _ => rfl)))); (try dsimp only [Nat.reduceAdd])); intro r0 w2 E2 _; (refine q0c<|tn<|q1f rfl<|q0b<|q0a<|a_B rfl<|q0c<|tn<|q0s<|tr ?_); exact q0e rfl rfl (v := .bool _) rfl ⟨false, rfl, ⟨(fun h => by cases h), fun h => by have := h.s; omega⟩, E1.trans E2⟩
end Go.Proofs.YtpohjepbmgeplaaGreatDoor
namespace Go.Proofs.YtpohjepbmgeplaaGreatDoor
open Go.RowKit Go.Proofs.K
open _root_.Fd (K E pw root)
def q3u (P : Program) (fid : FuncId) (fc : Array Value) (vals : List Value) (Q : Nat → Bool) (w : World) : Prop :=
  ∀ (i : Nat) (x : Value) (w' : World), Ext w w' → vals[i]? = some x → Calls P fid (#[] ++ [x].toArray ++ fc) w' fun e w'' => e = .returned (.bool (Q i)) ∧ Ext w' w''
theorem q3u.ext {P : Program} {fid : FuncId} {fc : Array Value} {vals : List Value} {Q : Nat → Bool} {w w' : World} (h : q3u P fid fc vals Q w) (E : Ext w w') : q3u P fid fc vals Q w' := fun i x w2 E2 hx => h i x w2 (E.trans E2) hx
theorem all_iff {m : Nat} {Q : Nat → Bool} {r : Int} (h : 0 ≤ r ↔ ∃ i, i < m ∧ Q i = false) : (!decide (0 ≤ r)) = decide (∀ i, i < m → Q i = true) := by
  rw [Bool.eq_iff_iff, Bool.not_eq_true', decide_eq_false_iff_not, decide_eq_true_eq, h]; constructor
  · intro h i hi; cases hq : Q i with
    | true => rfl
    | false => exact (h ⟨i, hi, hq⟩).elim
  · rintro h ⟨i, hi, hq⟩; rw [h i hi] at hq; cases hq
set_option maxHeartbeats 1000000 in
theorem gidx_u (lo hi : Nat) (v : Value) (vals : List Value) (hl : vals.length ≤ 1000000) (w : World) (hr : Row w lo hi 1 v vals.length vals) (h1 : ∀ x ∈ vals, x.oneCell' = true) (Q : Nat → Bool) (fid : FuncId) [TFun Tryz.prog fid] (fc : Array Value) (hf : q3u Tryz.prog fid fc vals (fun i => !Q i) w) :
    Calls Tryz.prog 184 #[v, .func (.func fid) #[] fc] w fun e w' => ∃ r : Int, e = .returned (.int .i64 r) ∧ (0 ≤ r ↔ ∃ i, i < vals.length ∧ Q i = false) ∧ Ext w w' := by
  obtain ⟨A, c, rfl⟩ : ∃ A c, v = .slice A vals.length c := by
    obtain ⟨_, A, c, rfl, _⟩ := hr; exact ⟨A, c, rfl⟩
  refine q0i Tryz.func184 rfl Tryz.ntmps184 rfl ?_; (refine q0b<|q0a<|a_I rfl<|q0c<|tn<|q0b<|q0b<|q0a<|m_S rfl<|Ls (q0f rfl)<|m_I rfl<|q0c<|tn<|q0h ?_); refine q1k (fun q f w' => ∃ i, q = vals.length - i ∧ i ≤ vals.length ∧ (∀ j, j < i → Q j = true) ∧ f 0 = .slice A vals.length c ∧ f 1 = .func (.func fid) #[] fc ∧ f 7 = .int .i64 (vals.length : Nat) ∧ f 8 = .int .i64 (i : Nat) ∧ Ext w w') vals.length ?_ ?_
  · exact ⟨0, rfl, by omega, fun _ h => by omega, rfl, rfl, rfl, rfl, Ext.refl _⟩
  · rintro q f wr ⟨i, hq, hil, hall, f0, f1, f7, f8, hE⟩; rw [fold f0, fold f1, fold f7, fold f8]; (refine q0b<|q0a<|Ls (q1t rfl rfl)<|q0c<|tn<|q0b ?_); refine q0y rfl (fun h => ?_) (fun h => ?_)
    · have hlt : i < vals.length := (by omega); obtain ⟨x, hx⟩ : ∃ x, vals[i]? = some x := ⟨_, List.getElem?_eq_getElem hlt⟩; obtain ⟨b0, o0, c0, hA, _, _, _, hc0⟩ := hr.at hlt; cases hA
      (refine q0n<|tn<|q0b<|q0h<|q0b<|q0a<|m_I rfl<|a_I rfl<|q0c<|tn<|q0b<|q0a<|Ls (q0d (v := .func _ _ _) rfl)<|m_S rfl<|m_I rfl<|Ls (q0r rfl rfl (by omega))<|Ls (q1v rfl (hE.range hc0) (j := i) (by omega) hx) ?_); refine q6n (vl := [x]) rfl (hf i _ wr hE hx) rfl ?_; rintro e w2 ⟨rfl, E2⟩; refine ⟨_, rfl, ?_⟩; (refine q0c<|tn ?_); refine z0f (b := !Q i) rfl (fun h => ?_) (fun h => ?_)
      · have hQ : Q i = false := (by simpa using h); (refine q0b<|q0a<|m_I rfl<|a_I rfl<|q0c<|tn<|q0s<|br<|tr<|tr<|br<|tr ?_); exact q0e rfl rfl (v := .int _ _) rfl ⟨_, rfl, ⟨fun _ => ⟨i, hlt, hQ⟩, fun _ => by omega⟩, hE.trans E2⟩
      · have hQ : Q i = true := (by simpa using h); (refine q0n<|bn<|tn<|q0a<|Ls (q1b rfl rfl (by omega))<|m_I rfl<|q0c<|tn ?_); refine ⟨vals.length - (i + 1), by omega, i + 1, rfl, by omega, fun j hj => ?_, rfl, rfl, rfl, rfl, hE.trans E2⟩; rcases Nat.lt_or_ge j i with h | h
        · exact hall j h
        · obtain rfl : j = i := (by omega); exact hQ
    · (refine q1j<|te<|te<|bx<|tn<|q0b<|q0a<|a_I rfl<|q0c<|tn<|q0s ?_); refine q0e rfl rfl (v := .int _ _) rfl ⟨_, rfl, ⟨fun h => by omega, ?_⟩, hE⟩; rintro ⟨j, hj, hQ⟩; rw [hall j (by omega)] at hQ; cases hQ
theorem gcon_u (lo hi : Nat) (v : Value) (vals : List Value) (hl : vals.length ≤ 1000000) (w : World) (hr : Row w lo hi 1 v vals.length vals) (h1 : ∀ x ∈ vals, x.oneCell' = true) (Q : Nat → Bool) (fid : FuncId) [TFun Tryz.prog fid] (fc : Array Value) (hf : q3u Tryz.prog fid fc vals (fun i => !Q i) w) :
    Calls Tryz.prog 145 #[v, .func (.func fid) #[] fc] w fun e w' => e = .returned (.bool (!decide (∀ i, i < vals.length → Q i = true))) ∧ Ext w w' := by
  have hv1 := q0g hr; refine q0i Tryz.func145 rfl Tryz.ntmps145 rfl ?_; (refine q0b<|q0a<|a_B rfl<|q0c<|tn<|q0b<|q0a<|Ls (q0d (v := v) rfl)<|Ls (q0d (v := .func _ _ _) rfl) ?_); refine L_fo (F := fun u w' => ∃ r : Int, u = .int .i64 r ∧ (0 ≤ r ↔ ∃ i, i < vals.length ∧ Q i = false) ∧ Ext w w') rfl ((gidx_u lo hi v vals hl w hr h1 Q fid fc hf).mono fun e w' ⟨r, h1, h2, h3⟩ => ⟨_, h1, r, rfl, h2, h3⟩) ?_; rintro _ w1 ⟨r, rfl, hr', E1⟩; (refine Ls (z2l rfl rfl)<|a_B rfl<|q0c<|tn<|q0s ?_); refine q0e rfl rfl (v := .bool _) rfl ⟨?_, E1⟩; rw [← all_iff hr', Bool.not_not]
theorem gvclo_u (b : Nat) (fid : FuncId) [TFun Tryz.prog fid] (fc : Array Value) (vals : List Value) (h1 : ∀ x ∈ vals, x.oneCell' = true) (Q : Nat → Bool) (w : World) (hB : Blk w b 144 [.func (.func fid) #[] fc]) (hf : q3u Tryz.prog fid fc vals Q w) : q3u Tryz.prog 146 #[.pointer (some ⟨b, 0, none⟩)] vals (fun i => !Q i) w := by
  intro i x w1 E1 hx; have hx1 := h1 x (List.mem_of_getElem? hx); refine q0i Tryz.func146 rfl Tryz.ntmps146 rfl ?_; (refine q0b<|q0a<|a_B rfl<|q0c<|tn<|q0b<|q0a<|Ls (X_ld rfl (hB.ext E1) rfl)<|Ls (q0d (v := x) rfl) ?_); refine q6n (vl := [x]) rfl (hf i x w1 E1 hx) rfl ?_; rintro e w2 ⟨rfl, E2⟩; refine ⟨_, rfl, ?_⟩; (refine Ls (q1r rfl)<|a_B rfl<|q0c<|tn<|q0s ?_); exact q0e rfl rfl (v := .bool _) rfl ⟨rfl, E2⟩
theorem gval_u (lo hi : Nat) (v : Value) (vals : List Value) (hl : vals.length ≤ 1000000) (w : World) (hr : Row w lo hi 1 v vals.length vals) (h1 : ∀ x ∈ vals, x.oneCell' = true) (Q : Nat → Bool) (fid : FuncId) [TFun Tryz.prog fid] (fc : Array Value) (hf : q3u Tryz.prog fid fc vals Q w) :
    Calls Tryz.prog 100 #[v, .func (.func fid) #[] fc] w fun e w' => e = .returned (.bool (decide (∀ i, i < vals.length → Q i = true))) ∧ Ext w w' := by
  have hv1 := q0g hr; refine q0i Tryz.func100 rfl Tryz.ntmps100 rfl ?_; (refine q0b<|q0a ?_); refine q4p (v := .func (.func fid) #[] fc) rfl rfl ?_; intro g3 w1 B3 hg3 E1 hs1; (refine a_B rfl<|q0c<|tn<|q0b<|q0a<|Ls (q0d (v := v) rfl) ?_); refine Ls (q3b (vf := []) (vc := [.pointer (some ⟨g3, 0, none⟩)]) rfl rfl) ?_; skip; refine L_fv rfl (gcon_u lo hi v vals hl w1 (hr.ext E1) h1 Q 146 #[.pointer (some ⟨g3, 0, none⟩)] (gvclo_u g3 fid fc vals h1 Q w1 B3 (hf.ext E1))) ?_; intro w2 E2; (refine Ls (q1r rfl)<|a_B rfl<|q0c<|tn<|q0s ?_); refine q0e rfl rfl (v := .bool _) rfl ⟨?_, E1.trans E2⟩; rw [Bool.not_not]
set_option maxHeartbeats 1000000 in
theorem gidx_l (lo hi : Nat) (v : Value) (vals : List Value) (hl : vals.length ≤ 1000000) (w : World) (hr : Row w lo hi 1 v vals.length vals) (h1 : ∀ x ∈ vals, x.oneCell' = true) (Q : Nat → Bool) (fid : FuncId) [TFun Tryz.prog fid] (fc : Array Value) (hf : q3u Tryz.prog fid fc vals (fun i => !Q i) w) :
    Calls Tryz.prog 194 #[v, .func (.func fid) #[] fc] w fun e w' => ∃ r : Int, e = .returned (.int .i64 r) ∧ (0 ≤ r ↔ ∃ i, i < vals.length ∧ Q i = false) ∧ Ext w w' := by
  obtain ⟨A, c, rfl⟩ : ∃ A c, v = .slice A vals.length c := by
    obtain ⟨_, A, c, rfl, _⟩ := hr; exact ⟨A, c, rfl⟩
  refine q0i Tryz.func194 rfl Tryz.ntmps194 rfl ?_; (refine q0b<|q0a<|a_I rfl<|q0c<|tn<|q0b<|q0b<|q0a<|m_S rfl<|Ls (q0f rfl)<|m_I rfl<|q0c<|tn<|q0h ?_); refine q1k (fun q f w' => ∃ i, q = vals.length - i ∧ i ≤ vals.length ∧ (∀ j, j < i → Q j = true) ∧ f 0 = .slice A vals.length c ∧ f 1 = .func (.func fid) #[] fc ∧ f 7 = .int .i64 (vals.length : Nat) ∧ f 8 = .int .i64 (i : Nat) ∧ Ext w w') vals.length ?_ ?_
  · exact ⟨0, rfl, by omega, fun _ h => by omega, rfl, rfl, rfl, rfl, Ext.refl _⟩
  · rintro q f wr ⟨i, hq, hil, hall, f0, f1, f7, f8, hE⟩; rw [fold f0, fold f1, fold f7, fold f8]; (refine q0b<|q0a<|Ls (q1t rfl rfl)<|q0c<|tn<|q0b ?_); refine q0y rfl (fun h => ?_) (fun h => ?_)
    · have hlt : i < vals.length := (by omega); obtain ⟨x, hx⟩ : ∃ x, vals[i]? = some x := ⟨_, List.getElem?_eq_getElem hlt⟩; obtain ⟨b0, o0, c0, hA, _, _, _, hc0⟩ := hr.at hlt; cases hA
      (refine q0n<|tn<|q0b<|q0h<|q0b<|q0a<|m_I rfl<|a_I rfl<|q0c<|tn<|q0b<|q0a<|Ls (q0d (v := .func _ _ _) rfl)<|m_S rfl<|m_I rfl<|Ls (q0r rfl rfl (by omega))<|Ls (q1v rfl (hE.range hc0) (j := i) (by omega) hx) ?_); refine q6n (vl := [x]) rfl (hf i _ wr hE hx) rfl ?_; rintro e w2 ⟨rfl, E2⟩; refine ⟨_, rfl, ?_⟩; (refine q0c<|tn ?_); refine z0f (b := !Q i) rfl (fun h => ?_) (fun h => ?_)
      · have hQ : Q i = false := (by simpa using h); (refine q0b<|q0a<|m_I rfl<|a_I rfl<|q0c<|tn<|q0s<|br<|tr<|tr<|br<|tr ?_); exact q0e rfl rfl (v := .int _ _) rfl ⟨_, rfl, ⟨fun _ => ⟨i, hlt, hQ⟩, fun _ => by omega⟩, hE.trans E2⟩
      · have hQ : Q i = true := (by simpa using h); (refine q0n<|bn<|tn<|q0a<|Ls (q1b rfl rfl (by omega))<|m_I rfl<|q0c<|tn ?_); refine ⟨vals.length - (i + 1), by omega, i + 1, rfl, by omega, fun j hj => ?_, rfl, rfl, rfl, rfl, hE.trans E2⟩; rcases Nat.lt_or_ge j i with h | h
        · exact hall j h
        · obtain rfl : j = i := (by omega); exact hQ
    · (refine q1j<|te<|te<|bx<|tn<|q0b<|q0a<|a_I rfl<|q0c<|tn<|q0s ?_); refine q0e rfl rfl (v := .int _ _) rfl ⟨_, rfl, ⟨fun h => by omega, ?_⟩, hE⟩; rintro ⟨j, hj, hQ⟩; rw [hall j (by omega)] at hQ; cases hQ
theorem gcon_l (lo hi : Nat) (v : Value) (vals : List Value) (hl : vals.length ≤ 1000000) (w : World) (hr : Row w lo hi 1 v vals.length vals) (h1 : ∀ x ∈ vals, x.oneCell' = true) (Q : Nat → Bool) (fid : FuncId) [TFun Tryz.prog fid] (fc : Array Value) (hf : q3u Tryz.prog fid fc vals (fun i => !Q i) w) :
    Calls Tryz.prog 174 #[v, .func (.func fid) #[] fc] w fun e w' => e = .returned (.bool (!decide (∀ i, i < vals.length → Q i = true))) ∧ Ext w w' := by
  have hv1 := q0g hr; refine q0i Tryz.func174 rfl Tryz.ntmps174 rfl ?_; (refine q0b<|q0a<|a_B rfl<|q0c<|tn<|q0b<|q0a<|Ls (q0d (v := v) rfl)<|Ls (q0d (v := .func _ _ _) rfl) ?_); refine L_fo (F := fun u w' => ∃ r : Int, u = .int .i64 r ∧ (0 ≤ r ↔ ∃ i, i < vals.length ∧ Q i = false) ∧ Ext w w') rfl ((gidx_l lo hi v vals hl w hr h1 Q fid fc hf).mono fun e w' ⟨r, h1, h2, h3⟩ => ⟨_, h1, r, rfl, h2, h3⟩) ?_; rintro _ w1 ⟨r, rfl, hr', E1⟩; (refine Ls (z2l rfl rfl)<|a_B rfl<|q0c<|tn<|q0s ?_); refine q0e rfl rfl (v := .bool _) rfl ⟨?_, E1⟩; rw [← all_iff hr', Bool.not_not]
theorem gvclo_l (b : Nat) (fid : FuncId) [TFun Tryz.prog fid] (fc : Array Value) (vals : List Value) (h1 : ∀ x ∈ vals, x.oneCell' = true) (Q : Nat → Bool) (w : World) (hB : Blk w b 100 [.func (.func fid) #[] fc]) (hf : q3u Tryz.prog fid fc vals Q w) : q3u Tryz.prog 175 #[.pointer (some ⟨b, 0, none⟩)] vals (fun i => !Q i) w := by
  intro i x w1 E1 hx; have hx1 := h1 x (List.mem_of_getElem? hx); refine q0i Tryz.func175 rfl Tryz.ntmps175 rfl ?_; (refine q0b<|q0a<|a_B rfl<|q0c<|tn<|q0b<|q0a<|Ls (X_ld rfl (hB.ext E1) rfl)<|Ls (q0d (v := x) rfl) ?_); refine q6n (vl := [x]) rfl (hf i x w1 E1 hx) rfl ?_; rintro e w2 ⟨rfl, E2⟩; refine ⟨_, rfl, ?_⟩; (refine Ls (q1r rfl)<|a_B rfl<|q0c<|tn<|q0s ?_); exact q0e rfl rfl (v := .bool _) rfl ⟨rfl, E2⟩
theorem gval_l (lo hi : Nat) (v : Value) (vals : List Value) (hl : vals.length ≤ 1000000) (w : World) (hr : Row w lo hi 1 v vals.length vals) (h1 : ∀ x ∈ vals, x.oneCell' = true) (Q : Nat → Bool) (fid : FuncId) [TFun Tryz.prog fid] (fc : Array Value) (hf : q3u Tryz.prog fid fc vals Q w) :
    Calls Tryz.prog 129 #[v, .func (.func fid) #[] fc] w fun e w' => e = .returned (.bool (decide (∀ i, i < vals.length → Q i = true))) ∧ Ext w w' := by
  have hv1 := q0g hr; refine q0i Tryz.func129 rfl Tryz.ntmps129 rfl ?_; (refine q0b<|q0a ?_); refine q4p (v := .func (.func fid) #[] fc) rfl rfl ?_; intro g3 w1 B3 hg3 E1 hs1; (refine a_B rfl<|q0c<|tn<|q0b<|q0a<|Ls (q0d (v := v) rfl) ?_); refine Ls (q3b (vf := []) (vc := [.pointer (some ⟨g3, 0, none⟩)]) rfl rfl) ?_; skip; refine L_fv rfl (gcon_l lo hi v vals hl w1 (hr.ext E1) h1 Q 175 #[.pointer (some ⟨g3, 0, none⟩)] (gvclo_l g3 fid fc vals h1 Q w1 B3 (hf.ext E1))) ?_; intro w2 E2; (refine Ls (q1r rfl)<|a_B rfl<|q0c<|tn<|q0s ?_); refine q0e rfl rfl (v := .bool _) rfl ⟨?_, E1.trans E2⟩; rw [Bool.not_not]
set_option maxHeartbeats 1000000 in
theorem gidx_e (lo hi : Nat) (v : Value) (l : List (Nat × Nat)) (vals : List Value) (hvals : vals = l.map fun p => Value.agg (exC p.1 p.2).toArray) (hl : vals.length ≤ 1000000) (w : World) (hr : Row w lo hi 2 v vals.length (exs l)) (Q : Nat → Bool) (fid : FuncId) [TFun Tryz.prog fid] (fc : Array Value) (hf : q3u Tryz.prog fid fc vals (fun i => !Q i) w) :
    Calls Tryz.prog 191 #[v, .func (.func fid) #[] fc] w fun e w' => ∃ r : Int, e = .returned (.int .i64 r) ∧ (0 ≤ r ↔ ∃ i, i < vals.length ∧ Q i = false) ∧ Ext w w' := by
  obtain ⟨A, c, rfl⟩ : ∃ A c, v = .slice A vals.length c := by
    obtain ⟨_, A, c, rfl, _⟩ := hr; exact ⟨A, c, rfl⟩
  refine q0i Tryz.func191 rfl Tryz.ntmps191 rfl ?_; (refine q0b<|q0a<|a_I rfl<|q0c<|tn<|q0b<|q0b<|q0a<|m_S rfl<|Ls (q0f rfl)<|m_I rfl<|q0c<|tn<|q0h ?_); refine q1k (fun q f w' => ∃ i, q = vals.length - i ∧ i ≤ vals.length ∧ (∀ j, j < i → Q j = true) ∧ f 0 = .slice A vals.length c ∧ f 1 = .func (.func fid) #[] fc ∧ f 7 = .int .i64 (vals.length : Nat) ∧ f 8 = .int .i64 (i : Nat) ∧ Ext w w') vals.length ?_ ?_
  · exact ⟨0, rfl, by omega, fun _ h => by omega, rfl, rfl, rfl, rfl, Ext.refl _⟩
  · rintro q f wr ⟨i, hq, hil, hall, f0, f1, f7, f8, hE⟩; rw [fold f0, fold f1, fold f7, fold f8]; (refine q0b<|q0a<|Ls (q1t rfl rfl)<|q0c<|tn<|q0b ?_); refine q0y rfl (fun h => ?_) (fun h => ?_)
    · have hlt : i < vals.length := (by omega); obtain ⟨x, hx⟩ : ∃ x, vals[i]? = some x := ⟨_, List.getElem?_eq_getElem hlt⟩; have hr3 := hr.ext hE; have hvl : vals.length = l.length := (by rw [hvals, List.length_map]); obtain ⟨p, hp⟩ : ∃ p, l[i]? = some p := ⟨_, List.getElem?_eq_getElem (by omega)⟩; obtain rfl : x = .agg (exC p.1 p.2).toArray := by
        rw [hvals, List.getElem?_map, hp] at hx; exact (Option.some.inj hx).symm
      have hr4 : Row wr lo hi 2 (.slice A vals.length c) l.length (exs l) := hvl ▸ hr3; obtain ⟨b0, o0, hA, _, _, _, _, _, hR⟩ := q9p hr4 hp; cases hA
      (refine q0n<|tn<|q0b<|q0h<|q0b<|q0a<|m_I rfl<|a_I rfl<|q0c<|tn<|q0b<|q0a<|Ls (q0d (v := .func _ _ _) rfl)<|m_S rfl<|m_I rfl<|Ls (q0r rfl rfl (by omega))<|Ls (q2j (size := 2) (cs := exC p.1 p.2) rfl hR rfl) ?_); refine q6n (vl := [.agg (exC p.1 p.2).toArray]) rfl (hf i _ wr hE hx) rfl ?_; rintro e w2 ⟨rfl, E2⟩; refine ⟨_, rfl, ?_⟩; (refine q0c<|tn ?_); refine z0f (b := !Q i) rfl (fun h => ?_) (fun h => ?_)
      · have hQ : Q i = false := (by simpa using h); (refine q0b<|q0a<|m_I rfl<|a_I rfl<|q0c<|tn<|q0s<|br<|tr<|tr<|br<|tr ?_); exact q0e rfl rfl (v := .int _ _) rfl ⟨_, rfl, ⟨fun _ => ⟨i, hlt, hQ⟩, fun _ => by omega⟩, hE.trans E2⟩
      · have hQ : Q i = true := (by simpa using h); (refine q0n<|bn<|tn<|q0a<|Ls (q1b rfl rfl (by omega))<|m_I rfl<|q0c<|tn ?_); refine ⟨vals.length - (i + 1), by omega, i + 1, rfl, by omega, fun j hj => ?_, rfl, rfl, rfl, rfl, hE.trans E2⟩; rcases Nat.lt_or_ge j i with h | h
        · exact hall j h
        · obtain rfl : j = i := (by omega); exact hQ
    · (refine q1j<|te<|te<|bx<|tn<|q0b<|q0a<|a_I rfl<|q0c<|tn<|q0s ?_); refine q0e rfl rfl (v := .int _ _) rfl ⟨_, rfl, ⟨fun h => by omega, ?_⟩, hE⟩; rintro ⟨j, hj, hQ⟩; rw [hall j (by omega)] at hQ; cases hQ
theorem gcon_e (lo hi : Nat) (v : Value) (l : List (Nat × Nat)) (vals : List Value) (hvals : vals = l.map fun p => Value.agg (exC p.1 p.2).toArray) (hl : vals.length ≤ 1000000) (w : World) (hr : Row w lo hi 2 v vals.length (exs l)) (Q : Nat → Bool) (fid : FuncId) [TFun Tryz.prog fid] (fc : Array Value) (hf : q3u Tryz.prog fid fc vals (fun i => !Q i) w) :
    Calls Tryz.prog 161 #[v, .func (.func fid) #[] fc] w fun e w' => e = .returned (.bool (!decide (∀ i, i < vals.length → Q i = true))) ∧ Ext w w' := by
  have hv1 := q0g hr; refine q0i Tryz.func161 rfl Tryz.ntmps161 rfl ?_; (refine q0b<|q0a<|a_B rfl<|q0c<|tn<|q0b<|q0a<|Ls (q0d (v := v) rfl)<|Ls (q0d (v := .func _ _ _) rfl) ?_); refine L_fo (F := fun u w' => ∃ r : Int, u = .int .i64 r ∧ (0 ≤ r ↔ ∃ i, i < vals.length ∧ Q i = false) ∧ Ext w w') rfl ((gidx_e lo hi v l vals hvals hl w hr Q fid fc hf).mono fun e w' ⟨r, h1, h2, h3⟩ => ⟨_, h1, r, rfl, h2, h3⟩) ?_; rintro _ w1 ⟨r, rfl, hr', E1⟩; (refine Ls (z2l rfl rfl)<|a_B rfl<|q0c<|tn<|q0s ?_); refine q0e rfl rfl (v := .bool _) rfl ⟨?_, E1⟩; rw [← all_iff hr', Bool.not_not]
theorem gvclo_e (b : Nat) (fid : FuncId) [TFun Tryz.prog fid] (fc : Array Value) (vals : List Value) (l : List (Nat × Nat)) (hvals : vals = l.map fun p => Value.agg (exC p.1 p.2).toArray) (Q : Nat → Bool) (w : World) (hB : Blk w b 86 [.func (.func fid) #[] fc]) (hf : q3u Tryz.prog fid fc vals Q w) : q3u Tryz.prog 162 #[.pointer (some ⟨b, 0, none⟩)] vals (fun i => !Q i) w := by
  intro i x w1 E1 hx; obtain ⟨p, hp⟩ : ∃ p : Nat × Nat, x = .agg (exC p.1 p.2).toArray := by
    rw [hvals, List.getElem?_map] at hx; cases h : l[i]? with
    | none => rw [h] at hx; cases hx
    | some p => rw [h] at hx; exact ⟨p, (Option.some.inj hx).symm⟩
  refine q0i Tryz.func162 rfl Tryz.ntmps162 rfl ?_; subst hp; (refine q0b<|q0a ?_); refine q1u rfl ?_; intro g2 w0 B2 hg2 E0 hs0; (refine a_B rfl<|q0c<|tn<|q0b<|q0a<|Ls (X_ld rfl ((hB.ext E1).ext E0) rfl)<|Ls (q1e rfl B2 rfl) ?_); refine q6n (vl := [.agg (exC p.1 p.2).toArray]) rfl (hf i _ w0 (E1.trans E0) hx) rfl ?_; rintro e w2 ⟨rfl, E2'⟩; have E2 := E0.trans E2'; refine ⟨_, rfl, ?_⟩; (refine Ls (q1r rfl)<|a_B rfl<|q0c<|tn<|q0s ?_); exact q0e rfl rfl (v := .bool _) rfl ⟨rfl, E2⟩
theorem gval_e (lo hi : Nat) (v : Value) (l : List (Nat × Nat)) (vals : List Value) (hvals : vals = l.map fun p => Value.agg (exC p.1 p.2).toArray) (hl : vals.length ≤ 1000000) (w : World) (hr : Row w lo hi 2 v vals.length (exs l)) (Q : Nat → Bool) (fid : FuncId) [TFun Tryz.prog fid] (fc : Array Value) (hf : q3u Tryz.prog fid fc vals Q w) :
    Calls Tryz.prog 114 #[v, .func (.func fid) #[] fc] w fun e w' => e = .returned (.bool (decide (∀ i, i < vals.length → Q i = true))) ∧ Ext w w' := by
  have hv1 := q0g hr; refine q0i Tryz.func114 rfl Tryz.ntmps114 rfl ?_; (refine q0b<|q0a ?_); refine q4p (v := .func (.func fid) #[] fc) rfl rfl ?_; intro g3 w1 B3 hg3 E1 hs1; (refine a_B rfl<|q0c<|tn<|q0b<|q0a<|Ls (q0d (v := v) rfl) ?_); refine Ls (q3b (vf := []) (vc := [.pointer (some ⟨g3, 0, none⟩)]) rfl rfl) ?_; skip; refine L_fv rfl (gcon_e lo hi v l vals hvals hl w1 (hr.ext E1) Q 162 #[.pointer (some ⟨g3, 0, none⟩)] (gvclo_e g3 fid fc vals l hvals Q w1 B3 (hf.ext E1))) ?_; intro w2 E2; (refine Ls (q1r rfl)<|a_B rfl<|q0c<|tn<|q0s ?_); refine q0e rfl rfl (v := .bool _) rfl ⟨?_, E1.trans E2⟩; rw [Bool.not_not]
end Go.Proofs.YtpohjepbmgeplaaGreatDoor
namespace Go.Proofs.YtpohjepbmgeplaaGreatDoor
open Go.RowKit Go.Proofs.K
open _root_.Fd (K E pw root trow)
def chk (b o C i : Nat) : Value := .slice (some ⟨b, o + i * C * 1, none⟩) C C
def PreCk (b o R C : Nat) (i : Nat) (vs : List Value) (_ : World) : Prop := i < R ∧ vs = [chk b o C i]
set_option maxRecDepth 100000 in
set_option maxHeartbeats 2000000 in
theorem gchunk (S : Nat → Prop) (g1 g2 b o n c R C : Nat) (hC : 1 ≤ C) (hn : n = R * C) (hnc : n ≤ c) (hn6 : n ≤ 1000000) (w : World) (hB1 : Blk w g1 22 [.slice (some ⟨b, o, none⟩) n c]) (hB2 : Blk w g2 3 [.int .i64 (C : Nat)]) (h1 : ¬ S g1) (h2 : ¬ S g2) :
    q9u Tryz.prog 148 #[.pointer (some ⟨g1, 0, none⟩), .pointer (some ⟨g2, 0, none⟩)] w S (PreCk b o R C) (fun i => i = R) := by
  intro lp J Jx w1 E1 hJ hJx hY h0; refine q0i Tryz.func148 rfl Tryz.ntmps148 rfl ?_; (refine q0b<|q0a<|a_I rfl<|q0c<|tn<|q0h ?_); refine q1k (fun q f w' => ∃ i, q = R - i ∧ i ≤ R ∧ f 0 = q3h lp ∧ f 1 = .pointer (some ⟨g1, 0, none⟩) ∧ f 2 = .pointer (some ⟨g2, 0, none⟩) ∧ f 4 = .int .i64 ((i * C : Nat) : Int) ∧ J i w' ∧ Blk w' g1 22 [.slice (some ⟨b, o, none⟩) n c] ∧ Blk w' g2 3 [.int .i64 (C : Nat)]) R ?_ ?_
  · exact ⟨0, rfl, by omega, rfl, rfl, rfl, by rw [Nat.zero_mul]; rfl, h0, hB1.ext E1, hB2.ext E1⟩
  · rintro q f wr ⟨i, hq, hi, f0, f1, f2, f4, hj, C1, C2⟩; rw [fold f0, fold f1, fold f2, fold f4]; (refine q0b<|q0b<|q0a<|m_I rfl<|Ls (X_ld rfl C1 rfl)<|Ls (q0f rfl)<|Ls (q1t rfl rfl)<|q0c<|tn ?_); refine q0y rfl (fun h => ?_) (fun h => ?_)
    · have hiR : i < R := by
        have : i * C < R * C := (by rw [← hn]; omega); exact Nat.lt_of_mul_lt_mul_right this
      have hz : i * C + C ≤ n := (by rw [hn, ← Nat.succ_mul]; exact Nat.mul_le_mul_right _ hiR); have hsucc : (i + 1) * C = i * C + C := Nat.succ_mul i C; have hck : chk b o C i = .slice (some ⟨b, o + i * C * 1, none⟩) C C := rfl; have hYi := hY i [chk b o C i]; rw [hck] at hYi; generalize hzz : i * C = z at *; (refine q0n<|tn<|q0b<|q0h<|q0b ?_); apply q1h 7 (by kernel_rfl); (apply DW_x (fun r w hA hH => (X_ld rfl (C2.ext hA) rfl).trans rfl); apply DW_x (fun r w hA hH => (X_ld rfl (C1.ext hA) rfl).trans rfl); apply DW_x (fun r w hA hH => (q0d (v := .int _ _) rfl).trans rfl)); ((with_reducible apply DW_x); (exact fun r w hA hH => (z1v (size := 1) z rfl rfl rfl (by omega) hnc (by omega)).trans rfl)); (apply DW_x (fun r w hA hH => (q0f rfl).trans rfl); apply DW_x (fun r w hA hH => ((X_min rfl rfl).trans (by rw [if_neg (by omega)])).trans rfl); apply DW_x (fun r w hA hH => (q0j (v := .int _ _) rfl).trans rfl)); ((with_reducible exact q1p); (exact rfl); (repeat (first | exact .inr (.inr (fun _ _ => by with_reducible rfl)) | (refine And.intro ?_ ?_) | exact .inr (.inl rfl) | exact .inl (by decide +kernel) | exact trivial | exact .inr (.inr (fun _ _ => rfl)))); (try dsimp only [Nat.reduceAdd])); intro r w2 E2 _; have D1 := C1.ext E2; have D2 := C2.ext E2; (refine q0c<|tn<|q0b<|q0a<|Ls (q0d (v := .func _ _ _) rfl)<|Ls (X_ld rfl D1 rfl)<|m_I rfl<|m_I rfl<|m_I rfl<|Ls (q1b rfl rfl (by omega))<|m_I rfl<|m_I rfl<|Ls (q1b rfl rfl (by omega)) ?_); refine Ls (z1w (size := 1) z C C (o + z * 1) rfl rfl rfl rfl rfl (by omega) (by omega) (Nat.le_refl _) (by omega) (by omega) rfl) ?_; refine q7d rfl rfl rfl (hYi w2 (hJ _ _ _ hj E2) ⟨hiR, by rw [hck]⟩) ?_; rintro e w3 (⟨rfl, hj2, hk2⟩ | ⟨rfl, hjx⟩)
      · refine ⟨.bool true, rfl, ?_⟩; have F1 := hk2.blk D1 h1; have F2 := hk2.blk D2 h2; (refine Ls (q1r rfl)<|q0c<|tn<|q0x rfl<|q0n<|bn<|tn<|q0a<|m_I rfl<|Ls (X_ld rfl F2 rfl)<|Ls (q1b rfl rfl (by omega))<|a_I rfl<|q0c<|tn ?_); exact ⟨R - (i + 1), by omega, i + 1, rfl, by omega, rfl, rfl, rfl, by rw [hsucc]; rfl, hj2, F1, F2⟩
      · refine ⟨.bool false, rfl, ?_⟩; (refine Ls (q1r rfl)<|q0c<|tn<|q1f rfl<|q0s<|br<|tr<|tr<|br ?_); refine q4b rfl rfl ?_; exact ⟨⟨_, rfl⟩, .inr hjx⟩
    · have hiR : i = R := by
        have : ¬ i < R := fun hlt => by
          have : i * C < R * C := Nat.mul_lt_mul_of_pos_right hlt (by omega); rw [← hn] at this; omega
        omega
      (refine q1j<|te<|te<|bx ?_); refine q4c rfl rfl ?_; exact ⟨⟨_, rfl⟩, .inl ⟨_, hiR, hj⟩⟩
theorem gchunkMk (v : Value) (hv : v.oneCell' = true) (C : Nat) (hC : 1 ≤ C) (w : World) :
    Calls Tryz.prog 103 #[v, .int .i64 (C : Nat)] w fun e w' => ∃ q, e = .returned q ∧ ∃ g1 g2, q = .func (.func 148) #[] #[.pointer (some ⟨g1, 0, none⟩), .pointer (some ⟨g2, 0, none⟩)] ∧ Ext w w' ∧ Blk w' g1 22 [v] ∧ Blk w' g2 3 [.int .i64 (C : Nat)] := by
  refine q0i Tryz.func103 rfl Tryz.ntmps103 rfl ?_; (refine q0b<|q0a ?_); refine q4p rfl hv ?_; intro g1 w1 B1 hg1 E1 hs1; refine q4p rfl rfl ?_; intro g2 w2 B2 hg2 E2 hs2; (refine Ls (q0j (v := Value.nilFunc) rfl)<|q0c<|tn<|q0b<|q0b<|q0a<|Ls (X_ld rfl B2 rfl)<|Ls (q2d rfl rfl (by omega))<|q0c<|tn<|q0x rfl<|q0n<|tn<|q0b<|q0a ?_); refine Ls (q3b (vf := []) (vc := [.pointer (some ⟨g1, 0, none⟩), .pointer (some ⟨g2, 0, none⟩)]) rfl rfl) ?_; (refine Ls (q0j (v := .func _ _ _) rfl)<|q0c<|tn<|q0s ?_); refine q0e rfl rfl (v := .func _ _ _) rfl ⟨_, rfl, g1, g2, rfl, E1.trans E2, B1.ext E2, B2⟩
set_option maxRecDepth 100000 in
set_option maxHeartbeats 2000000 in
theorem gappseq (gf : FuncId) (lb : Array Value) (he : Enters Tryz.prog gf) (xs : List Value) (h1 : ∀ x ∈ xs, x.oneCell' = true) (hl : xs.length ≤ 1000000) (w : World)
    (hit : ∀ w1, Ext w w1 → q9u Tryz.prog gf lb w1 (fun k => w.heap.size ≤ k) (fun i vs _ => ∃ x, xs[i]? = some x ∧ vs = [x]) (fun i => i = xs.length)) :
    Calls Tryz.prog 147 #[.slice none 0 0, .func (.func gf) #[] lb] w fun e w' => ∃ q, e = .returned q ∧ Ext w w' ∧ w'.ownsRow w.heap.size 22 1 q xs.length xs := by
  refine q6i Tryz.func147 rfl Tryz.ntmps147 rfl ?_; refine q4t ?_; (refine q0a ?_); refine q4p (v := .slice none 0 0) rfl rfl ?_; intro g2 w1 B2 hg2 E1 hs1; (refine a_S rfl<|q0c<|tn ?_); refine z0g ?_; (refine q0a<|Ls (q0d (v := .func _ _ _) rfl)<|q0c<|tn ?_); refine q8v (ps := [7]) (fun k => w.heap.size ≤ k) rfl he (fun i vs a h => by obtain ⟨_, _, rfl⟩ := h; rfl) (hit w1 E1)
    (fun i y => ∃ v, Blk y g2 38 [v] ∧ y.ownsRow w.heap.size 22 1 v i (xs.take i) ∧ i ≤ xs.length) (fun _ => False)
    (fun i x y h C => by obtain ⟨v, h1, h2, h3⟩ := h; exact ⟨v, C.blk h1, C.own h2, h3⟩) (fun _ _ h _ => h) ⟨.slice none 0 0, B2, ⟨rfl, .inl ⟨rfl, rfl⟩⟩, by omega⟩
    (fun i vs a f' y => ∃ x, xs[i]? = some x ∧ y = a ∧ f' 2 = .pointer (some ⟨g2, 0, none⟩) ∧ f' 5 = x) (fun i vs a f' b h => by obtain ⟨_, _, rfl, _⟩ := h; exact Ext.refl _) (fun lp vs i y hi hM hp => ?_) (fun lp i vs a f' z y hi hM hp hga hac hbc => ?_) (fun D y hD hdn hM hbD => ?_)
  · obtain ⟨x, hx, rfl⟩ := hp; (refine q0a<|Ls (q0j (v := x) rfl)<|q0c ?_); exact ⟨rfl, x, hx, rfl, rfl, rfl⟩
  · obtain ⟨v, I1, I2, I3⟩ := hi; obtain ⟨x, hx, rfl, f2, f5⟩ := hga; have hix : i < xs.length := (List.getElem?_eq_some_iff.1 hx).1; have hx1 := h1 x (List.mem_of_getElem? hx); have hv1 := q0g (Row.of_own I2); have hMs := hM.size; rw [fold f2, fold f5]; (refine q0h<|q0a<|Ls (X_ld rfl I1 rfl)<|Ls (q0d (v := x) rfl) ?_); refine q3r (v := x) rfl hx1 ?_; intro u w3 r3 E3 hs3 _; refine q1o (v := v) (u := u) rfl rfl (q0o I2 E3) r3 (fun q hq => by rw [List.mem_singleton.1 hq]; exact hx1) (by omega) (by omega) (by have := E3.size; have := E1.size; omega) ?_; intro v4 w4 o4 hg4 _; have hv4 := q0g (Row.of_own o4); have G2 := (I1.ext E3).grown hg4 (fun h => by
      obtain ⟨_, cs, fz, e⟩ := q1d I2 g2 h
      exact q2g I1 e (by decide))
    have M4 : Mut (fun k => w.heap.size ≤ k) y w4 := (Mut.of_ext E3).trans (Mut.app (q0o I2 E3) hg4 (fun q hq => (q1d I2 q hq).1)); skip; refine q1n (v := v4) rfl rfl hv4 G2 (by simp) ?_; intro w5 G2' hg5 hs5; (refine q0c<|bn ?_); refine ⟨M4.trans (Mut.store G2 hg5 (by show w.heap.size ≤ g2; omega)), v4, G2', ?_, by omega⟩; rw [List.take_add_one, hx]; exact q1i o4 hg5 (fun q hq h => by
      obtain rfl : g2 = q := Option.some.inj h
      obtain ⟨_, cs, fz, e⟩ := q1d o4 g2 hq
      exact q2g G2 e (by decide))
  · obtain ⟨i, hfin, v, I1, I2, I3⟩ : ∃ i, i = xs.length ∧ ∃ v, Blk y g2 38 [v] ∧ y.ownsRow w.heap.size 22 1 v i (xs.take i) ∧ i ≤ xs.length := hdn.elim id False.elim; subst hfin; rw [List.take_length] at I2; have hv1 := q0g (Row.of_own I2); refine z0h ?_; (refine q0b<|q0a<|Ls (X_ld rfl I1 rfl)<|Ls (q0j (v := v) rfl)<|q0c<|tn<|q0s ?_); refine q4v w1.heap.size [D] rfl rfl (by simp) (fun D' h => ?_) (fun w' hc => ⟨Res.tmp (v := v) rfl .nil, v, rfl, ?_, hc.own I2⟩)
    · rw [List.mem_singleton.1 h]; exact ⟨by omega, hbD⟩
    · exact hc.toExt (hM.toExt E1 (fun k h => h)) (by omega)
theorem gcollect (gf : FuncId) (lb : Array Value) (he : Enters Tryz.prog gf) (xs : List Value) (h1 : ∀ x ∈ xs, x.oneCell' = true) (hl : xs.length ≤ 1000000) (w : World)
    (hit : ∀ w1, Ext w w1 → q9u Tryz.prog gf lb w1 (fun k => w.heap.size ≤ k) (fun i vs _ => ∃ x, xs[i]? = some x ∧ vs = [x]) (fun i => i = xs.length)) :
    Calls Tryz.prog 102 #[.func (.func gf) #[] lb] w fun e w' => ∃ q, e = .returned q ∧ Ext w w' ∧ w'.ownsRow w.heap.size 22 1 q xs.length xs := by
  refine q0i Tryz.func102 rfl Tryz.ntmps102 rfl ?_; (refine q0b<|q0a<|a_S rfl<|q0c<|tn<|q0b<|q0a<|Ls (q0d (v := .func _ _ _) rfl) ?_); refine L_fo rfl (gappseq gf lb he xs h1 hl w hit) ?_; rintro q w1 ⟨E1, o1⟩; have hq1 := q0g (Row.of_own o1); (refine Ls (q0j (v := q) rfl)<|q0c<|tn<|q0s ?_); exact q0e rfl rfl (v := q) rfl ⟨q, rfl, E1, o1⟩
end Go.Proofs.YtpohjepbmgeplaaGreatDoor
namespace Go.Proofs.YtpohjepbmgeplaaGreatDoor
open Go.RowKit Go.Proofs.K
open _root_.Fd (K E pw root trow enc)
open _root_.Cm (Sh)
theorem SOk.sh {R C B T log : Int} (h : SOk R C B T log) : ∃ s : Sh, s.Ok ∧ R = ((s.R : Nat) : Int) ∧ C = ((s.C : Nat) : Int) ∧ B = ((s.B : Nat) : Int) ∧ T = ((s.t : Nat) : Int) ∧ log = ((s.a + s.c : Nat) : Int) := by
  obtain ⟨a, ha, hRa⟩ := z0a h.r; obtain ⟨c, hc, hCc⟩ := z0a h.c; have hs := h.s; rw [ha, hc] at hs; have hl := h.l16; obtain ⟨b, hb1, hb4, hBb⟩ : ∃ b : Nat, 1 ≤ b ∧ b ≤ 4 ∧ B = ((2 ^ b : Nat) : Int) := by
    rcases h.b with e | e | e | e
    · exact ⟨1, by omega, by omega, e⟩
    · exact ⟨2, by omega, by omega, e⟩
    · exact ⟨3, by omega, by omega, e⟩
    · exact ⟨4, by omega, by omega, e⟩
  have hn := h.n; have hBC : B * C = ((2 ^ (c + b) : Nat) : Int) := by rw [hBb, hCc, Nat.add_comm, Nat.pow_add, Int.natCast_mul]
  have ht1 := h.t1; have ht64 := h.t64; have htn := h.tn; rw [hBC] at hn htn; have hcb : c + b ≤ 16 := by
    rcases Nat.lt_or_ge 16 (c + b) with h1 | h1
    · have : 2 ^ 17 ≤ 2 ^ (c + b) := Nat.pow_le_pow_right (by decide) h1; generalize 2 ^ (c + b) = z at *; omega
    · exact h1
  refine ⟨⟨a, c, b, T.toNat⟩, ⟨by show a + c ≤ 16; omega, hb1, hb4, hcb, by show 1 ≤ T.toNat; omega, by show T.toNat ≤ 64; omega, ?_⟩, hRa, hCc, hBb, by show T = ((T.toNat : Nat) : Int); omega, by show log = ((a + c : Nat) : Int); omega⟩; show T.toNat ≤ 2 ^ (c + b); generalize 2 ^ (c + b) = z at *; omega
theorem sh_ok {s : Sh} (h : s.Ok) : SOk (s.R : Nat) (s.C : Nat) (s.B : Nat) (s.t : Nat) ((s.a + s.c : Nat) : Int) := by
  have p1 : lgI ((s.R : Nat) : Int) = s.a := q5j s.a; have p2 : lgI ((s.C : Nat) : Int) = s.c := q5j s.c; have hac := h.ac; have hBC : ((s.B : Nat) : Int) * ((s.C : Nat) : Int) = ((s.n : Nat) : Int) := by rw [← Int.natCast_mul, Cm.Sh.BC]
  have hn : s.n ≤ 65536 := (q1a h.cb).2; have ht : s.t ≤ s.n := h.tn; refine ⟨by omega, by omega, by omega, by omega, by omega, ?_, by rw [hBC]; omega, by have := h.t1; omega, by have := h.t64; omega, by rw [hBC]; omega⟩; have b1 := h.b1; have b4 := h.b4; unfold Cm.Sh.B; have hb : s.b = 1 ∨ s.b = 2 ∨ s.b = 3 ∨ s.b = 4 := by omega
  rcases hb with e | e | e | e <;> rw [e] <;> simp
theorem q9u.imp {P : Program} {gf : FuncId} {lb : Array Value} {w : World} {S : Nat → Prop} {Pre Pre' : Nat → List Value → World → Prop} {Fin : Nat → Prop} (h : q9u P gf lb w S Pre Fin) (hp : ∀ i vs a, Pre i vs a → Pre' i vs a) : q9u P gf lb w S Pre' Fin :=
  fun l J Jx w1 E hJ hJx hY h0 => h l J Jx w1 E hJ hJx (fun i v a hj hq => hY i v a hj (hp i v a hq)) h0
theorem q8x {t : List K} {i : Nat} {x : K} (h : t[i]? = some x) : (vals t)[i]? = some x.val := by unfold vals; rw [List.getElem?_map, h]; rfl
theorem chk_row {w : World} {lo hi b o n c R C r : Nat} {t : List K} (hr : Row w lo hi 1 (.slice (some ⟨b, o, none⟩) n c) n (ints .u64 (vals t))) (hl : t.length = n) (hn : n = R * C) (hrR : r < R) (hC : 1 ≤ C) : Row w lo hi 1 (chk b o C r) C (ints .u64 (vals (trow t C r))) := by
  have hz : r * C + C ≤ n := by rw [hn, ← Nat.succ_mul]; exact Nat.mul_le_mul_right _ hrR
  obtain ⟨b', o', c', e, hc, h1, h2, h3⟩ := hr.at (k := 0) (by omega); cases e
  have hcm : c ≤ maxLen := by
    obtain ⟨_, A, c', e, _, h, _⟩ := hr; cases e; exact h
  refine ⟨by rw [q0m, q2a, Fd.trow_len, Nat.mul_one], _, C, rfl, Nat.le_refl _, by omega, fun _ => ⟨b, _, rfl, h1, h2, q6b h3 fun j u hu => ?_⟩⟩; have hj : j < C := by
    have := (List.getElem?_eq_some_iff.1 hu).1; rw [q0m, q2a, Fd.trow_len] at this; exact this
  have hin : j + C * r < t.length := by rw [hl, Nat.mul_comm]; omega
  have e1 : (trow t C r)[j]? = some t[j + C * r] := by
    unfold Fd.trow; rw [List.getElem?_map, List.getElem?_range hj]; show some (t.getD (j + C * r) 0) = _; rw [List.getD_eq_getElem?_getD, List.getElem?_eq_getElem hin]; rfl
  rw [q2h (q8x e1)] at hu; rw [← hu, Nat.mul_one, show r * C + j = j + C * r by rw [Nat.mul_comm]; omega]; exact q2h (q8x (List.getElem?_eq_getElem hin))
theorem z2t (l : List Nat) (w : World) : q3u Tryz.prog 101 #[] (ints .u64 l) (fun i => decide (l.getD i 0 < Fd.pr)) w := by
  intro i x w' E hx; have hi : i < l.length := by
    have := (List.getElem?_eq_some_iff.1 hx).1; rwa [q0m] at this
  have hg : l[i]? = some (l.getD i 0) := by rw [List.getD_eq_getElem?_getD, List.getElem?_eq_getElem hi]; rfl
  rw [q2h hg] at hx; cases hx
  exact gvalid (l.getD i 0) w'
theorem vals_lt (t : List K) : decide (∀ i, i < (ints .u64 (vals t)).length → decide ((vals t).getD i 0 < Fd.pr) = true) = true := by
  rw [decide_eq_true_eq]; intro i hi; rw [q0m, q2a] at hi; rw [decide_eq_true_eq, List.getD_eq_getElem?_getD, q8x (List.getElem?_eq_getElem hi)]; exact (t[i]).isLt
def RowsAt (w0 w : World) (lo hi : Nat) (q : Value) (t : List K) (R C : Nat) : Prop :=
  ∃ xs : List Value, w.ownsRow w0.heap.size 22 1 q R xs ∧ ∀ r x, xs[r]? = some x → Row w lo hi 1 x C (ints .u64 (vals (trow t C r)))
set_option maxRecDepth 100000 in
set_option maxHeartbeats 2000000 in
theorem grows (lo hi : Nat) (v : Value) (t : List K) (ht : t.length ≤ 1000000) (R C B T : Int) (hR : I64 R) (hC : I64 C) (hB : I64 B) (hT : I64 T) (w : World) (hr : Row w lo hi 1 v t.length (ints .u64 (vals t))) :
    Calls Tryz.prog 50 #[v, .agg (shC R C B T).toArray] w fun e w' => Ext w w' ∧ ((SOk R C B T (lgI (t.length : Nat)) ∧ ∃ q, e = .returned (.tuple #[q, .bool true]) ∧ RowsAt w w' lo hi q t R.toNat C.toNat) ∨ (¬ SOk R C B T (lgI (t.length : Nat)) ∧ e = .returned (.tuple #[.slice none 0 0, .bool false]))) := by
  obtain ⟨A, c, rfl⟩ : ∃ A c, v = .slice A t.length c := by
    obtain ⟨_, A, c, rfl, _⟩ := hr; exact ⟨A, c, rfl⟩
  have hlb := lgI_bd (n := ((t.length : Nat) : Int)) (by omega); refine q0i Tryz.func50 rfl Tryz.ntmps50 rfl ?_; (refine q0b<|q0a ?_); refine q1u rfl ?_; intro g3 w1 B3 hg3 E1 hs1; (refine a_S rfl<|a_B rfl<|q0c<|tn<|q0b<|q0b ?_); apply q1h 4 (by kernel_rfl); (apply DW_x (fun r w hA hH => (q1e (cs := shC R C B T) rfl (B3.ext hA) rfl).trans rfl); apply DW_x (fun r w hA hH => (q0d (v := .slice _ _ _) rfl).trans rfl); apply DW_x (fun r w hA hH => (q0f rfl).trans rfl)); ((with_reducible apply q2c); (exact fun _ => rfl); (exact fun _ => rfl); (exact fun r w hA hH => gcpow ((t.length : Nat) : Int) (by omega) (by omega) w)); ((with_reducible exact q1p); (exact rfl); (repeat (first | exact .inr (.inr (fun _ _ => by with_reducible rfl)) | (refine And.intro ?_ ?_) | exact .inr (.inl rfl) | exact .inl (by decide +kernel) | exact trivial | exact .inr (.inr (fun _ _ => rfl)))); (try dsimp only [Nat.reduceAdd])); intro r0 w2 E2 _; have C3 := B3.ext E2; refine L_fo (F := fun u w' => ∃ b : Bool, u = .bool b ∧ (b = true ↔ SOk R C B T (lgI (t.length : Nat))) ∧ Ext w2 w') rfl ((q9l R C B T (lgI (t.length : Nat)) hR hC hB hT ⟨by omega, by omega⟩ w2).mono fun e w' ⟨b, h1, h2, h3⟩ => ⟨_, h1, b, rfl, h2, h3⟩) ?_; rintro _ w3 ⟨b, rfl, hb, E3⟩; have C3 := C3.ext E3; have E13 := E1.trans (E2.trans E3); cases b with
  | false =>
    (refine Ls (q1r rfl)<|m_B rfl<|Lo2 rfl rfl rfl rfl<|Lo2 rfl rfl rfl rfl<|Lo2 rfl rfl rfl rfl<|Ls (q0v (v := .bool _) rfl rfl)<|q0c<|tn<|q1f rfl<|q0b<|q0a<|a_S rfl<|a_B rfl<|q0c<|tn<|q0s<|tr ?_); exact q2v rfl rfl (v := .slice none 0 0) (x := .bool _) rfl rfl ⟨E13, .inr ⟨fun h => (by have := hb.2 h; cases this), rfl⟩⟩
  | true =>
    have hok := hb.1 rfl; obtain ⟨s, hs, rfl, rfl, rfl, rfl, hlog⟩ := hok.sh; have hn : t.length = s.R * s.C := by
      have h0 : 0 ≤ lgI ((t.length : Nat) : Int) := (by rw [hlog]; omega); obtain ⟨a, h1, h2⟩ := z0a h0; rw [h1] at hlog; rw [Cm.Sh.RC, show s.a + s.c = a by omega]; exact Int.ofNat.inj h2
    have hC1 : 1 ≤ s.C := Nat.pow_pos (by decide); have hR1 : 1 ≤ s.R := Nat.pow_pos (by decide); have hR16 : s.R ≤ 65536 := (q1a (a := s.a) (by have := hs.ac; omega)).2; have ht1 : 1 ≤ t.length := (by rw [hn]; exact Nat.mul_pos hR1 hC1); obtain ⟨b0, o0, c0, e, hmc, h1, h2, h3⟩ := hr.at (k := 0) (by omega); cases e
    (refine Ls (q1r rfl)<|m_B rfl<|Lg2 rfl rfl rfl (q0d (v := .slice _ _ _) rfl) ?_); refine q1x rfl rfl rfl ?_; refine L_fv rfl (gval_u lo hi _ (ints .u64 (vals t)) (by rw [q0m, q2a]; omega) w3 ((hr.ext E13).re (by rw [q0m, q2a]) rfl) q0z (fun i => decide ((vals t).getD i 0 < Fd.pr)) 101 #[] (z2t (vals t) w3)) ?_; intro w4 E4; rw [vals_lt]; have C3 := C3.ext E4; (refine Lg2 rfl rfl rfl (q1r rfl)<|Ls (q0p (v := .bool _) rfl rfl)<|q0c<|tn<|q0x rfl<|q0n<|tn<|q0b<|q0a<|m_S rfl<|Ls (q0t rfl)<|Ls (X_ld (cs := shC (s.R : Nat) (s.C : Nat) (s.B : Nat) (s.t : Nat)) rfl C3 rfl) ?_); refine L_fo rfl (gchunkMk (.slice (some ⟨b0, o0, none⟩) t.length c) rfl s.C hC1 w4) ?_; rintro q w5 ⟨g1, g2, rfl, E5, D1, D2⟩; obtain ⟨xs, hxs⟩ : ∃ xs, xs = (List.range s.R).map (chk b0 o0 s.C) := ⟨_, rfl⟩; have hxl : xs.length = s.R := (by rw [hxs]; simp); have hxg : ∀ r x, xs[r]? = some x → r < s.R ∧ x = chk b0 o0 s.C r := fun r x h => by
      have hr := (List.getElem?_eq_some_iff.1 h).1; rw [hxl] at hr; rw [hxs, List.getElem?_map, List.getElem?_range hr] at h; exact ⟨hr, (Option.some.inj h).symm⟩
    have hE5 := E13.trans (E4.trans E5); refine L_fo rfl (gcollect 148 #[.pointer (some ⟨g1, 0, none⟩), .pointer (some ⟨g2, 0, none⟩)] (enters_of Tryz.func148 (by kernel_rfl) rfl) xs (fun x hx => by
      obtain ⟨r, hr⟩ := List.mem_iff_getElem?.1 hx
      rw [(hxg r x hr).2]; rfl) (by omega) w5 (fun y E => by
      have hh := gchunk (fun k => w5.heap.size ≤ k) g1 g2 b0 o0 t.length c s.R s.C hC1 hn hmc (by omega) y (D1.ext E) (D2.ext E) (by have := D1.lt; show ¬ (w5.heap.size ≤ g1); omega) (by have := D2.lt; show ¬ (w5.heap.size ≤ g2); omega)
      rw [hxl]
      refine q9u.imp hh fun i vs a hp => ⟨chk b0 o0 s.C i, ?_, hp.2⟩
      rw [hxs, List.getElem?_map, List.getElem?_range hp.1]; rfl)) ?_
    rintro q6 w6 ⟨E6, o6⟩; have hq6 := q0g (Row.of_own o6); (refine Ls (q0j (v := q6) rfl)<|a_B rfl<|q0c<|tn<|q0s ?_); refine q2v rfl rfl (v := q6) (x := .bool _) rfl rfl ⟨hE5.trans E6, .inl ⟨hok, q6, rfl, xs, ?_, fun r x h => ?_⟩⟩
    · rw [Int.toNat_natCast, ← hxl]; exact q1m o6 hE5.size
    · obtain ⟨h4, rfl⟩ := hxg r x h; rw [Int.toNat_natCast]; exact chk_row (hr.ext (hE5.trans E6)) rfl hn h4 hC1
def cws (t : List K) (s : Sh) : List (List Nat) := (List.range s.R).map fun r => vals (enc (trow t s.C r) (s.c + s.b))
theorem q3m (t : List K) (s : Sh) : (cws t s).length = s.R := by unfold cws; simp
set_option maxRecDepth 100000 in
set_option maxHeartbeats 4000000 in
theorem q9m (lo hi : Nat) (v : Value) (t : List K) (ht : t.length ≤ 1000000) (R C B T : Int) (hR : I64 R) (hC : I64 C) (hB : I64 B) (hT : I64 T) (w : World) (hw : Tb w) (hr : Row w lo hi 1 v t.length (ints .u64 (vals t))) :
    Calls Tryz.prog 12 #[v, .agg (shC R C B T).toArray] w fun e w' => Ext w w' ∧ ((∃ s : Sh, s.Ok ∧ R = ((s.R : Nat) : Int) ∧ C = ((s.C : Nat) : Int) ∧ B = ((s.B : Nat) : Int) ∧ T = ((s.t : Nat) : Int) ∧ lgI (t.length : Nat) = ((s.a + s.c : Nat) : Int) ∧ t.length = s.R * s.C ∧ ∃ q, e = .returned (.tuple #[q, .int .i64 0]) ∧ q1w (fun k => w.heap.size ≤ k ∧ k < w'.heap.size) w' .u64 q (cws t s)) ∨ (¬ SOk R C B T (lgI (t.length : Nat)) ∧ e = .returned (.tuple #[.slice none 0 0, .int .i64 1]))) := by
  have hv1 := q0g hr; have hr := hr.tightN (by decide); refine q0i Tryz.func12 rfl Tryz.ntmps12 rfl ?_; (refine q0b<|q0a ?_); refine q1u rfl ?_; intro g3 w1 B3 hg3 E1 hs1; (refine a_S rfl<|a_I rfl<|q0c<|tn<|q0b<|q0a<|Ls (q0d (v := v) rfl)<|Ls (q1e (cs := shC R C B T) rfl B3 rfl) ?_); refine L_fo (F := fun u w' => Ext w1 w' ∧ ((SOk R C B T (lgI (t.length : Nat)) ∧ ∃ q, u = .tuple #[q, .bool true] ∧ RowsAt w1 w' lo w.heap.size q t R.toNat C.toNat) ∨ (¬ SOk R C B T (lgI (t.length : Nat)) ∧ u = .tuple #[.slice none 0 0, .bool false]))) rfl ((grows lo w.heap.size v t ht R C B T hR hC hB hT w1 (hr.ext E1)).mono fun e w' ⟨h1, h2⟩ => by
    rcases h2 with ⟨h2, q, h3, h4⟩ | ⟨h2, h3⟩
    · exact ⟨_, h3, h1, .inl ⟨h2, q, rfl, h4⟩⟩
    · exact ⟨_, h3, h1, .inr ⟨h2, rfl⟩⟩) ?_
  rintro _ w2 ⟨E2, ⟨hok, q, rfl, xs, o2, hx2⟩ | ⟨hno, rfl⟩⟩
  · obtain ⟨s, hs, rfl, rfl, rfl, rfl, hlog⟩ := hok.sh; have hn : t.length = s.R * s.C := by
      have h0 : 0 ≤ lgI ((t.length : Nat) : Int) := (by rw [hlog]; omega); obtain ⟨a, h1, h2⟩ := z0a h0; rw [h1] at hlog; rw [Cm.Sh.RC, show s.a + s.c = a by omega]; exact Int.ofNat.inj h2
    rw [Int.toNat_natCast] at o2 hx2; have hR1 : 1 ≤ s.R := Nat.pow_pos (by decide); have hR16 : s.R ≤ 65536 := (q1a (a := s.a) (by have := hs.ac; omega)).2; have hxl : xs.length = s.R := (by rw [o2.1, Nat.mul_one]); obtain ⟨gq, cq, rfl, hgq1, hgq2, hgq3, hgq4⟩ := q7k o2 hR1; have E12 := E1.trans E2; have C3 := B3.ext E2; have hz1 := E1.size; have hl3 := B3.lt; have hgB : w1.heap.size ≤ gq := hgq1; (refine m_T rfl<|Ls (q0k rfl rfl)<|Ls (q0k rfl rfl)<|a_S rfl<|a_B rfl<|q0c<|tn<|q0b<|q0b<|q0a<|m_B rfl<|Ls (q1r rfl)<|q0c<|tn ?_); refine q0x rfl ?_; (refine q0n<|tn<|q0b<|q0b<|q0a<|m_S rfl<|Ls (q0f rfl)<|m_I rfl<|q0c<|tn<|q0h ?_); refine q1k (fun q f w' => ∃ i zs, q = s.R - i ∧ i ≤ s.R ∧ f 3 = .pointer (some ⟨g3, 0, none⟩) ∧ f 6 = .slice (some ⟨gq, 0, none⟩) s.R cq ∧ f 18 = .slice (some ⟨gq, 0, none⟩) s.R cq ∧ f 19 = .int .i64 (s.R : Nat) ∧ f 20 = .int .i64 (i : Nat) ∧ Blk w' g3 28 (shC (s.R : Nat) (s.C : Nat) (s.B : Nat) (s.t : Nat)) ∧
      w'.ownsRow w1.heap.size 22 1 (.slice (some ⟨gq, 0, none⟩) s.R cq) s.R zs ∧ (∀ r x, i ≤ r → zs[r]? = some x → xs[r]? = some x) ∧ (∀ r x, r < i → zs[r]? = some x → w'.ownsRow w.heap.size 29 1 x (s.B * s.C) (ints .u64 (vals (enc (trow t s.C r) (s.c + s.b))))) ∧ Ext w w' ∧ w2.heap.size ≤ w'.heap.size ∧ w2.grownBy w' (some gq)) s.R ?_ ?_
    · exact ⟨0, xs, rfl, by omega, rfl, rfl, rfl, rfl, rfl, C3, o2, fun _ _ _ h => h, fun _ _ h => by omega, E12, Nat.le_refl _, (Ext.refl w2).row _⟩
    · rintro q f wr ⟨i, zs, hq, hi', f3, f6, f18, f19, f20, D3, oz, hz1', hz2', hE, hsz, hG⟩; rw [fold f3, fold f6, fold f18, fold f19, fold f20]; (refine q0b<|q0a<|Ls (q1t rfl rfl)<|q0c<|tn<|q0b ?_); refine q0y rfl (fun h => ?_) (fun h => ?_)
      · have hlt : i < s.R := (by omega); have hzl : zs.length = s.R := (by rw [oz.1, Nat.mul_one]); obtain ⟨x, hx⟩ : ∃ x, zs[i]? = some x := ⟨_, List.getElem?_eq_getElem (by omega)⟩; have hxx := hz1' i x (Nat.le_refl _) hx; have hrx := hx2 i x hxx; have hx1 := q0g hrx; have hRz := q6v oz; have hrw : Row wr lo w.heap.size 1 x s.C (ints .u64 (vals (trow t s.C i))) := hrx.grown hG (fun g h => by cases h; right; omega); have hEs := hE.size; have hl3' := D3.lt; (refine q0n<|tn<|q0b<|q0h<|q0b<|q0a<|m_I rfl<|Ls (q0r rfl rfl (by omega))<|Ls (q1v rfl hRz (j := i) (by omega) hx)<|a_I rfl<|Ls (q0j (v := x) rfl)<|q0c<|tn<|q0a<|m_S rfl<|m_I rfl<|Ls (q0d (v := x) rfl)<|Ls (q0t rfl)<|Ls (X_ld (cs := shC (s.R : Nat) (s.C : Nat) (s.B : Nat) (s.t : Nat)) rfl D3 rfl) ?_); refine L_fo (F := fun u w' => ∃ y, u = .tuple #[y, .int .i64 0] ∧ Ext wr w' ∧ w'.ownsRow wr.heap.size 29 1 y (s.B * s.C) (ints .u64 (vals (enc (trow t s.C i) (s.c + s.b))))) rfl ((gencode (a := s.c) (b := s.b) (c := s.C) (m := s.B) hs.b1 hs.b4 hs.cb rfl rfl lo w.heap.size x (trow t s.C i) (Fd.trow_len _ _ _) wr (hw.ext hE) hrw).mono fun e w' ⟨y, h1, h2, h3⟩ => ⟨_, h1, y, rfl, h2, h3⟩) ?_; rintro _ w4 ⟨y, rfl, E4, o4⟩; have hy1 := q0g (Row.of_own o4); (refine m_T rfl<|Ls (q0k rfl rfl)<|Ls (q0k rfl rfl)<|Ls (q0r rfl rfl (by omega)) ?_); refine z2e (i := i) (v := y) (q0o oz E4) rfl rfl (by omega) hy1 hlt ?_; intro w5 o5 hg5 hs5; (refine q0c<|bn<|tn<|q0a<|Ls (q1b rfl rfl (by omega))<|m_I rfl<|q0c<|tn ?_); have hx5 : ∀ (z : Value) (m : Nat) (l : List Value), w4.ownsRow w.heap.size 29 1 z m l → w5.ownsRow w.heap.size 29 1 z m l := fun z m l h => q1i h hg5 (fun g hg e => by
          obtain rfl : gq = g := Option.some.inj e
          obtain ⟨_, cs, fz, e1⟩ := q1d h gq hg
          obtain ⟨_, cs', fz', e2⟩ := q1d (q0o oz E4) gq rfl
          rw [e1] at e2
          cases e2)
        refine ⟨s.R - (i + 1), by omega, i + 1, zs.set i y, rfl, by omega, rfl, rfl, rfl, rfl, rfl, (D3.ext E4).grown hg5 (by simp; omega), o5, fun r z hr' hz => ?_, fun r z hr' hz => ?_, (hE.trans E4).then hg5 (fun g h => by cases h; omega), by have := E4.size; omega, q1l (q1l hG E4 (fun _ h => by cases h)) hg5 (fun g h => .inl h)⟩
        · rw [List.getElem?_set_ne (by omega)] at hz; exact hz1' r z (by omega) hz
        · by_cases hri : r = i
          · subst hri; rw [List.getElem?_set_self (by omega)] at hz; cases hz
            exact hx5 _ _ _ (q1m o4 hEs)
          · rw [List.getElem?_set_ne (by omega)] at hz; exact hx5 _ _ _ (q0o (hz2' r z (by omega) hz) E4)
      · have hiR : i = s.R := (by omega); subst hiR; have hzl : zs.length = s.R := (by rw [oz.1, Nat.mul_one]); (refine q1j<|te<|te<|bx<|tn<|q0b<|q0a<|m_S rfl<|a_S rfl<|a_I rfl<|q0c<|tn<|q0s ?_); refine q2v rfl rfl (v := .slice _ _ _) (x := .int _ _) rfl rfl ⟨hE, .inl ⟨s, hs, rfl, rfl, rfl, rfl, hlog, hn, _, rfl, zs, by rw [q3m]; exact hzl, ?_, fun r x y hx hy => ?_⟩⟩
        · rw [q3m]; refine (RowN.of_own oz).mono fun k hk => ⟨by omega, hk.2⟩
        · have hrl : r < s.R := by
            have := (List.getElem?_eq_some_iff.1 hx).1; omega
          have hy' : y = vals (enc (trow t s.C r) (s.c + s.b)) := by
            unfold cws at hy; rw [List.getElem?_map, List.getElem?_range hrl] at hy; exact (Option.some.inj hy).symm
          rw [hy']; have hh := RowN.of_own (hz2' r x hrl hx); exact hh.re (by rw [q2a, Fd.enc_len, Cm.Sh.BC]; rfl) rfl
  · (refine m_T rfl<|Ls (q0k rfl rfl)<|Ls (q0k rfl rfl)<|a_S rfl<|a_B rfl<|q0c<|tn<|q0b<|q0b<|q0a<|m_B rfl<|Ls (q1r rfl)<|q0c<|tn ?_); refine q1f rfl ?_; (refine q0b<|q0a<|a_S rfl<|a_I rfl<|q0c<|tn<|q0s<|tr ?_); exact q2v rfl rfl (v := .slice none 0 0) (x := .int _ _) rfl rfl ⟨E1.trans E2, .inr ⟨hno, rfl⟩⟩
end Go.Proofs.YtpohjepbmgeplaaGreatDoor
namespace Go.Proofs.YtpohjepbmgeplaaGreatDoor
open Go.RowKit Go.Proofs.K
open _root_.Fd (K E pw root trow enc ccol)
open _root_.Cm (Sh)
def colM (M : List (List Nat)) (j : Nat) : List Nat := M.map fun r => r.getD j 0
theorem q7n (M : List (List Nat)) (j : Nat) : (colM M j).length = M.length := by unfold colM; simp
theorem colM_get {M : List (List Nat)} {r j : Nat} {d : List Nat} (h : M[r]? = some d) : (colM M j)[r]? = some (d.getD j 0) := by unfold colM; rw [List.getElem?_map, h]; rfl
def PreCol (w0 : World) (M : List (List Nat)) (L : Nat) (i : Nat) (vs : List Value) (a : World) : Prop := i < L ∧ ∃ q, vs = [.int .i64 (i : Nat), q] ∧ a.ownsRow w0.heap.size 29 1 q M.length (ints .u64 (colM M i))
set_option maxRecDepth 100000 in
set_option maxHeartbeats 4000000 in
theorem gcols (S N : Nat → Prop) (g : Nat) (v : Value) (M : List (List Nat)) (L : Nat) (hL : ∀ r ∈ M, r.length = L) (hM1 : 1 ≤ M.length) (hM : M.length ≤ 65536) (hL6 : L ≤ 1000000) (w : World) (hB : Blk w g 38 [v]) (hP : q1w N w .u64 v M) (h1 : ¬ S g) (h2 : ∀ k, N k → ¬ S k) :
    q9u Tryz.prog 118 #[.pointer (some ⟨g, 0, none⟩)] w S (PreCol w M L) (fun i => i = L) := by
  intro lp J Jx w1 E1 hJ hJx hY h0; obtain ⟨A, c, rfl, hmc, hcm⟩ := hP.form; refine q0i Tryz.func118 rfl Tryz.ntmps118 rfl ?_; obtain ⟨d0, hd0⟩ : ∃ d, M[0]? = some d := ⟨_, List.getElem?_eq_getElem (by omega)⟩; have hd0l := hL d0 (List.mem_of_getElem? hd0); obtain ⟨b0, o0, x0, rfl, _, _, _, _, hx0, hx01, hr0⟩ := q8h (hP.ext E1) hd0; obtain ⟨A0, c0, rfl, _⟩ := hr0.form; (refine q0b<|q0a<|Ls (X_ld rfl (hB.ext E1) rfl)<|Ls (q0r (i := 0) rfl rfl (by omega))<|Ls (q8b rfl hx0)<|Ls (q0f rfl)<|m_I rfl<|q0c<|tn<|q0h ?_); rw [hd0l]; refine q1k (fun q f w' => ∃ j, q = L - j ∧ j ≤ L ∧ f 0 = q3h lp ∧ f 1 = .pointer (some ⟨g, 0, none⟩) ∧ f 10 = .int .i64 (L : Nat) ∧ f 11 = .int .i64 (j : Nat) ∧ J j w' ∧ Blk w' g 38 [.slice (some ⟨b0, o0, none⟩) M.length c] ∧ q1w N w' .u64 (.slice (some ⟨b0, o0, none⟩) M.length c) M ∧ w.heap.size ≤ w'.heap.size) L ?_ ?_
  · exact ⟨0, rfl, by omega, rfl, rfl, rfl, rfl, h0, hB.ext E1, hP.ext E1, E1.size⟩
  · rintro q f wr ⟨j, hq, hj, f0, f1, f10, f11, hJj, C1, P1, hsz⟩; rw [fold f0, fold f1, fold f10, fold f11]; (refine q0b<|q0a<|Ls (q1t rfl rfl)<|q0c<|tn<|q0b ?_); refine q0y rfl (fun h => ?_) (fun h => ?_)
    · have hlt : j < L := (by omega); (refine q0n<|tn<|q0b<|q0h<|q0b<|q0a<|m_I rfl<|a_I rfl<|q0c<|tn<|q0b<|q0a<|Ls (X_ld rfl C1 rfl)<|Ls (q0f rfl) ?_); refine L_make (z := [.int .u64 0]) M.length M.length rfl rfl rfl rfl (Nat.le_refl _) (by omega) (by omega) ?_; intro gc w3 B3 hgc E3 hs3; have C3 := C1.ext E3; have P3 := P1.ext E3; have hrep : (List.replicate M.length [Value.int .u64 0]).flatten = ints .u64 (List.replicate M.length 0) := q4s .u64 M.length 0; rw [hrep] at B3; have o3 : w3.ownsRow w.heap.size 29 1 (.slice (some ⟨gc, 0, none⟩) M.length M.length) M.length (ints .u64 ((colM M j).take 0 ++ List.replicate (M.length - 0) 0)) := q4u B3 (by omega) (Nat.le_refl _) (by unfold maxLen; omega) (by rw [q0m]; simp) (by rw [List.take_of_length_le (by rw [q0m]; simp)]; rfl); have hJ3 := hJ _ _ _ hJj E3; (refine a_S rfl<|q0c<|tn<|q0b<|q0b<|q0a<|Ls (X_ld rfl C3 rfl)<|Ls (q0f rfl)<|m_I rfl<|q0c<|tn<|q0h ?_); refine q1k (fun q f w' => ∃ r, q = M.length - r ∧ r ≤ M.length ∧ f 0 = q3h lp ∧ f 1 = .pointer (some ⟨g, 0, none⟩) ∧ f 3 = .int .i64 (j : Nat) ∧ f 4 = .slice (some ⟨gc, 0, none⟩) M.length M.length ∧ f 10 = .int .i64 (L : Nat) ∧ f 11 = .int .i64 (j : Nat) ∧ f 17 = .slice (some ⟨b0, o0, none⟩) M.length c ∧ f 18 = .int .i64 (M.length : Nat) ∧ f 19 = .int .i64 (r : Nat) ∧ Ext wr w' ∧ w'.ownsRow w.heap.size 29 1 (.slice (some ⟨gc, 0, none⟩) M.length M.length) M.length (ints .u64 ((colM M j).take r ++ List.replicate (M.length - r) 0))) M.length ?_ ?_
      · exact ⟨0, rfl, by omega, rfl, rfl, rfl, rfl, rfl, rfl, rfl, rfl, rfl, E3, o3⟩
      · rintro q f wi ⟨r, hq, hr, f0, f1, f3, f4, f10, f11, f17, f18, f19, hE, oc⟩; rw [fold f0, fold f1, fold f3, fold f4, fold f10, fold f11, fold f17, fold f18, fold f19]; (refine q0b<|q0a<|Ls (q1t rfl rfl)<|q0c<|tn<|q0b ?_); refine q0y rfl (fun h => ?_) (fun h => ?_)
        · have hrl : r < M.length := (by omega); obtain ⟨d, hd⟩ : ∃ d, M[r]? = some d := ⟨_, List.getElem?_eq_getElem hrl⟩; have hdl := hL d (List.mem_of_getElem? hd); obtain ⟨b1, o1, x, e1, _, _, _, _, hx, hx1, hrx⟩ := q8h (P1.ext hE) hd; cases e1
          obtain ⟨bx, ox, cx, rfl, hcx, _, _, hRx⟩ := hrx.at (k := j) (by omega); have hdj : d[j]? = some (d.getD j 0) := (by rw [List.getD_eq_getElem?_getD, List.getElem?_eq_getElem (by omega)]; rfl); (refine q0n<|tn<|q0b<|q0h<|q0b<|q0a<|m_I rfl<|Ls (q0r rfl rfl (by omega))<|Ls (q8b rfl hx)<|a_I rfl<|a_S rfl<|q0c<|tn<|q0a<|m_S rfl<|m_I rfl<|m_S rfl<|m_I rfl<|Ls (q0r rfl rfl (by omega))<|Ls (q1v rfl hRx (j := j) (by omega) (q2h hdj))<|Ls (q0r rfl rfl (by omega)) ?_); refine z2e (i := r) (v := .int .u64 ((d.getD j 0 : Nat) : Int)) oc rfl rfl (by omega) rfl hrl ?_; intro w5 o5 hg5 hs5; (refine q0c<|bn<|tn<|q0a<|Ls (q1b rfl rfl (by omega))<|m_I rfl<|q0c<|tn ?_); refine ⟨M.length - (r + 1), by omega, r + 1, rfl, by omega, rfl, rfl, rfl, rfl, rfl, rfl, rfl, rfl, rfl, hE.then hg5 (fun g h => by cases h; omega), ?_⟩; rw [q4a, show M.length - r = M.length - (r + 1) + 1 by omega, tab_set _ _ _ _ (by rw [List.length_take, q7n]; omega)] at o5; rw [List.take_add_one, colM_get hd]; exact o5
        · have hrM : r = M.length := (by omega); rw [hrM, Nat.sub_self, List.replicate_zero, List.append_nil, List.take_of_length_le (by rw [q7n]; exact Nat.le_refl _)] at oc; have CC := C1.ext hE; have PP := P1.ext hE; have hEs := hE.size; (refine q1j<|te<|te<|bx<|tn<|q0b<|q0a<|Ls (q0d (v := .func _ _ _) rfl)<|m_I rfl<|m_S rfl ?_); refine q7d rfl rfl rfl (hY j [.int .i64 (j : Nat), .slice (some ⟨gc, 0, none⟩) M.length M.length] wi (hJ _ _ _ hJj hE) ⟨hlt, _, rfl, oc⟩) ?_; rintro e w6 (⟨rfl, hj2, hk2⟩ | ⟨rfl, hjx⟩)
          · refine ⟨.bool true, rfl, ?_⟩; (refine Ls (q1r rfl)<|q0c<|tn<|q0x rfl<|q0n<|bn<|tn<|q0a<|Ls (q1b rfl rfl (by omega))<|m_I rfl<|q0c<|tn ?_); exact ⟨L - (j + 1), by omega, j + 1, rfl, by omega, rfl, rfl, rfl, rfl, hj2, hk2.blk CC h1, PP.keepS hk2 h2, by have := hk2.size; omega⟩
          · refine ⟨.bool false, rfl, ?_⟩; (refine Ls (q1r rfl)<|q0c<|tn<|q1f rfl<|q0s<|br<|tr<|tr<|br ?_); refine q4b rfl rfl ?_; exact ⟨⟨_, rfl⟩, .inr hjx⟩
    · have hjL : j = L := (by omega); (refine q1j<|te<|te<|bx ?_); refine q4c rfl rfl ?_; exact ⟨⟨_, rfl⟩, .inl ⟨_, hjL, hJj⟩⟩
theorem gcolsMk (v : Value) (hv : v.oneCell' = true) (w : World) :
    Calls Tryz.prog 61 #[v] w fun e w' => ∃ q, e = .returned q ∧ ∃ b, q = .func (.func 118) #[] #[.pointer (some ⟨b, 0, none⟩)] ∧ Ext w w' ∧ Blk w' b 38 [v] ∧ w.heap.size = b := by
  refine q0i Tryz.func61 rfl Tryz.ntmps61 rfl ?_; (refine q0b<|q0a ?_); refine q4p rfl hv ?_; intro g1 w1 B1 hg1 E1 hs1; (refine Ls (q0j (v := Value.nilFunc) rfl)<|q0c<|tn<|q0b<|q0a ?_); refine Ls (q3b (vf := []) (vc := [.pointer (some ⟨g1, 0, none⟩)]) rfl rfl) ?_; (refine Ls (q0j (v := .func _ _ _) rfl)<|q0c<|tn<|q0s ?_); refine q0e rfl rfl (v := .func _ _ _) rfl ⟨_, rfl, g1, rfl, E1, B1, hg1⟩
def encB (l : List Nat) : List Nat := (l.map fun x => word x 8).flatten
theorem encB_app (a b : List Nat) : encB (a ++ b) = encB a ++ encB b := by unfold encB; rw [List.map_append, List.flatten_append]
theorem encB_one (x : Nat) : encB [x] = word x 8 := by unfold encB; simp
theorem z0m (l : List Nat) : (encB l).length = l.length * 8 := by
  unfold encB; induction l with
  | nil => rfl
  | cons x l ih => rw [List.map_cons, List.flatten_cons, List.length_append, ih, word_len, List.length_cons]; omega
theorem encB_ok (l : List Nat) : Sha.bytesOk (encB l) := by
  intro y hy; obtain ⟨c, hc, hyc⟩ := List.mem_flatten.1 hy; obtain ⟨x, _, rfl⟩ := List.mem_map.1 hc; obtain ⟨k, _, rfl⟩ := List.mem_map.1 hyc; unfold byteAt; exact Nat.mod_lt _ (by decide)
set_option maxRecDepth 100000 in
set_option maxHeartbeats 2000000 in
theorem gencodeB (lo hi : Nat) (v : Value) (l : List Nat) (hl : l.length ≤ 1000000) (w : World) (hr : Row w lo hi 1 v l.length (ints .u64 l)) :
    Calls Tryz.prog 79 #[v] w fun e w' => ∃ q, e = .returned q ∧ Ext w w' ∧ w'.ownsRow w.heap.size 5 1 q (encB l).length (ints .u8 (encB l)) := by
  obtain ⟨A, c, rfl⟩ : ∃ A c, v = .slice A l.length c := by
    obtain ⟨_, A, c, rfl, _⟩ := hr; exact ⟨A, c, rfl⟩
  refine q0i Tryz.func79 rfl Tryz.ntmps79 rfl ?_; (refine q0b<|q0a<|a_S rfl<|q0c<|tn<|q0b<|q0a<|a_S rfl<|q0c<|tn<|q0b<|q0b<|q0a<|m_S rfl<|Ls (q0f rfl)<|m_I rfl<|q0c<|tn<|q0h ?_); refine q1k (fun q f w' => ∃ i u, q = l.length - i ∧ i ≤ l.length ∧ f 3 = u ∧ f 7 = .slice A l.length c ∧ f 8 = .int .i64 (l.length : Nat) ∧ f 9 = .int .i64 (i : Nat) ∧ Ext w w' ∧ w'.ownsRow w.heap.size 5 1 u (i * 8) (ints .u8 (encB (l.take i)))) l.length ?_ ?_
  · exact ⟨0, .slice none 0 0, rfl, by omega, rfl, rfl, rfl, rfl, Ext.refl _, ⟨rfl, .inl ⟨rfl, rfl⟩⟩⟩
  · rintro q f wr ⟨i, u, hq, hi', f3, f7, f8, f9, hE, ho⟩; rw [fold f3, fold f7, fold f8, fold f9]; have hu1 := q0g (Row.of_own ho); (refine q0b<|q0a<|Ls (q1t rfl rfl)<|q0c<|tn<|q0b ?_); refine q0y rfl (fun h => ?_) (fun h => ?_)
    · have hlt : i < l.length := (by omega); obtain ⟨x, hx⟩ : ∃ x, l[i]? = some x := ⟨_, List.getElem?_eq_getElem hlt⟩; obtain ⟨b, o, c', e, _, _, _, hR⟩ := hr.at hlt; cases e
      (refine q0n<|tn<|q0b<|q0h<|q0b<|q0a<|Ls (q0r rfl rfl (by omega))<|Ls (q1v rfl (hE.range hR) (j := i) (by omega) (q2h hx))<|a_I rfl<|q0c<|tn<|q0b<|q0a<|a_I rfl<|q0c<|tn<|q0h ?_); refine q1k (fun q f w' => ∃ k u, q = 8 - k ∧ k ≤ 8 ∧ f 3 = u ∧ f 5 = .int .u64 (x : Nat) ∧ f 6 = .int .i64 ((8 : Int) * (k : Nat)) ∧ f 7 = .slice (some ⟨b, o, none⟩) l.length c ∧ f 8 = .int .i64 (l.length : Nat) ∧ f 9 = .int .i64 (i : Nat) ∧ Ext w w' ∧ w'.ownsRow w.heap.size 5 1 u (i * 8 + k) (ints .u8 (encB (l.take i) ++ word x k))) 8 ?_ ?_
      · exact ⟨0, u, rfl, by omega, rfl, rfl, rfl, rfl, rfl, rfl, hE, by rw [show word x 0 = [] from rfl, List.append_nil]; exact ho⟩
      · clear hu1 ho f3; rintro q f wi ⟨k, u, hq, hk, f3, f5, f6, f7, f8, f9, hE, ho⟩; rw [fold f3, fold f5, fold f6, fold f7, fold f8, fold f9]; have hu1 := q0g (Row.of_own ho); (refine q0b<|q0b<|q0a<|m_I rfl<|Ls (q1t rfl rfl)<|q0c<|tn ?_); refine q0y rfl (fun h => ?_) (fun h => ?_)
        · have hk7 : k ≤ 7 := (by omega); (refine q0n<|tn<|q0b<|q0h<|q0a<|Ls (q0d (v := u) rfl)<|m_I rfl<|m_I rfl<|Ls (q4i rfl rfl (by omega))<|Ls ((q2s rfl).trans (by rw [shr_byte x k hk7])) ?_); refine q3r (v := .int .u8 _) rfl rfl ?_; intro u2 w3 r3 E3 hs3 _; refine q1o (v := u) (u := u2) rfl rfl (q0o ho E3) r3 (fun q hq => by rw [List.mem_singleton.1 hq]; rfl) (by omega) (by omega) (by have := hE.size; have := E3.size; omega) ?_; intro u4 w4 o4 hg4 _; (refine Ls (q0j (v := u4) rfl)<|q0c<|bn<|tn<|q0a<|m_I rfl<|Ls (q1b rfl rfl (by omega))<|a_I rfl<|q0c<|tn ?_); refine ⟨8 - (k + 1), by omega, k + 1, u4, rfl, by omega, rfl, rfl, ?_, rfl, rfl, rfl, (hE.trans E3).then hg4 (fun q hq => (q1d ho q hq).1), ?_⟩
          · rw [show (8 : Int) * ((k + 1 : Nat) : Int) = 8 * (k : Int) + 8 by omega]; rfl
          · rw [word_succ, ← List.append_assoc, q2i]; exact o4
        · have hk8 : k = 8 := (by omega); subst hk8; (refine q1j<|te<|te<|bx<|bn<|tn<|q0a<|Ls (q1b rfl rfl (by omega))<|m_I rfl<|q0c<|tn ?_); refine ⟨l.length - (i + 1), by omega, i + 1, u, rfl, by omega, rfl, rfl, rfl, rfl, hE, ?_⟩; rw [List.take_add_one, hx, encB_app, show (some x).toList = [x] from rfl, encB_one, Nat.succ_mul]; exact ho
    · have hil : i = l.length := (by omega); rw [hil, List.take_length] at ho; (refine q1j<|te<|te<|bx<|tn<|q0b<|q0a<|Ls (q0d (v := u) rfl)<|Ls (q0j (v := u) rfl)<|q0c<|tn<|q0s ?_); exact q0e rfl rfl (v := u) rfl ⟨u, rfl, hE, by rw [z0m]; exact ho⟩
set_option maxRecDepth 100000 in
set_option maxHeartbeats 4000000 in
theorem gleaves (N : Nat → Prop) (v : Value) (M : List (List Nat)) (L : Nat) (hL : ∀ r ∈ M, r.length = L) (hM1 : 1 ≤ M.length) (hM : M.length ≤ 65536) (hL6 : L ≤ 65536) (w : World) (hP : q1w N w .u64 v M) :
    Calls Tryz.prog 55 #[v] w fun e w' => ∃ q, e = .returned q ∧ Ext w w' ∧ q1w (fun k => w.heap.size ≤ k) w' .u8 q ((List.range L).map fun j => encB (colM M j)) := by
  obtain ⟨A, c, rfl, _⟩ := hP.form; have hP := hP.tight; refine q6i Tryz.func55 rfl Tryz.ntmps55 rfl ?_; refine q4t ?_; (refine q0a<|a_S rfl<|q0c<|tn ?_); refine q4t ?_; (refine q0a ?_); refine q0w ?_; intro g3 w1 B3 hg3 E1 hs1; (refine q0c<|tn ?_); refine z0g ?_; (refine q0a<|m_S rfl ?_); refine L_fo rfl (gcolsMk (.slice A M.length c) rfl w1) ?_; rintro q w2 ⟨b, rfl, E2, Bb, hb⟩; (refine q0c<|tn ?_); have E12 := E1.trans E2; have hlb := Bb.lt; refine q8v (ps := [8, 9]) (fun k => w.heap.size ≤ k ∧ k ≠ b) rfl (enters_of Tryz.func118 (by kernel_rfl) rfl) (fun i vs a h => by obtain ⟨_, _, rfl, _⟩ := h; rfl) (gcols (fun k => w.heap.size ≤ k ∧ k ≠ b) (fun k => N k ∧ k < w.heap.size) b _ M L hL hM1 hM (by omega) w2 Bb (hP.ext E12) (fun h => h.2 rfl) (fun k hk h => by omega))
    (fun i y => ∃ u xs, Blk y g3 102 [u] ∧ y.ownsRow w.heap.size 129 1 u i xs ∧ (∀ j x, xs[j]? = some x → y.ownsRow w.heap.size 5 1 x (encB (colM M j)).length (ints .u8 (encB (colM M j)))) ∧ (∀ q, u.ownBlock = some q → q ≠ b) ∧ i ≤ L) (fun _ => False)
    (fun i x y h C => by obtain ⟨u, xs, h1, h2, h3, h4, h5⟩ := h; exact ⟨u, xs, C.blk h1, C.own h2, fun j z hz => C.own (h3 j z hz), h4, h5⟩) (fun _ _ h _ => h) ⟨.slice none 0 0, [], B3.ext E2, ⟨rfl, .inl ⟨rfl, rfl⟩⟩, (fun _ _ h => by cases h), (fun _ h => by cases h), by omega⟩
    (fun i vs a f' y => i < L ∧ ∃ q, y = a ∧ a.ownsRow w2.heap.size 29 1 q M.length (ints .u64 (colM M i)) ∧ f' 3 = .pointer (some ⟨g3, 0, none⟩) ∧ f' 5 = q) (fun i vs a f' b h => by obtain ⟨_, _, rfl, _⟩ := h; exact Ext.refl _) (fun lp vs i y hi hM hp => ?_) (fun lp i vs a f' z y hi hMu hp hga hac hbc => ?_) (fun D y hD hdn hMu hbD => ?_)
  · obtain ⟨hiL, q, rfl, oq⟩ := hp; have hq1 := q0g (Row.of_own oq); (refine q0a<|Ls (q0j (v := q) rfl)<|q0c ?_); exact ⟨rfl, hiL, q, rfl, oq, rfl, rfl⟩
  · obtain ⟨u, xs, I1, I2, I3, I4, I5⟩ := hi; obtain ⟨hiL, q, rfl, oq, f3, f5⟩ := hga; have oq := hac.own oq; have hq1 := q0g (Row.of_own oq); have hu1 := q0g (Row.of_own I2); have hMs := hMu.size; have hlb' : b < y.heap.size := (by omega); have hcl := q7n M i; rw [fold f3, fold f5]; (refine q0h ?_); apply q1h 4 (by kernel_rfl); (apply DW_x (fun r w hA hH => (X_ld rfl (I1.ext hA) rfl).trans rfl); apply DW_x (fun r w hA hH => (q0d (v := q) rfl).trans rfl)); ((with_reducible apply q5u); (exact fun _ => rfl); (exact fun _ => rfl); (exact fun r w hA hH => q2p hA (gencodeB _ _ q (colM M i) (by omega) w ((Row.of_own (q0o oq hA)).re hcl.symm rfl))); (exact fun _ _ _ _ _ _ E h => OwnF.ext E h)); apply z2f (w0 := y) (fun r => r 2) (fun r => rfl) (fun r w hA hH => (by obtain ⟨_, _, o⟩ := hH 2 rfl; exact q0g (Row.of_own o))) (fun w hA => hA.size) (fun r v => rfl); ((with_reducible exact q1p); (exact rfl); (repeat (first | exact .inr (.inr (fun _ _ => by with_reducible rfl)) | (refine And.intro ?_ ?_) | exact .inr (.inl rfl) | exact .inl (by decide +kernel) | exact trivial | exact .inr (.inr (fun _ _ => rfl)))); (try dsimp only [Nat.reduceAdd])); intro r y1 F1 H1; obtain ⟨bq, hbq, o2⟩ : OwnF y 5 1 (r 2) _ _ y1 := H1 2; obtain ⟨l3, h3, hl3, r3⟩ : RowF y 1 (r 3) 1 [r 2] y1 := H1 3; have hr2 := q0g (Row.of_own o2); refine q1o (v := u) (u := r 3) rfl rfl (q0o I2 F1) r3 (fun x hx => by rw [List.mem_singleton.1 hx]; exact hr2) (by omega) (by omega) (by have := F1.size; have := E12.size; omega) ?_; intro u4 y4 o4 hg4 hb4; have hu4 := q0g (Row.of_own o4); have I2' := q0o I2 F1; have G3 := (I1.ext F1).grown hg4 (fun h => by
      obtain ⟨_, cs, fz, e⟩ := q1d I2' g3 h
      exact q2g (I1.ext F1) e (by decide))
    have hxo : ∀ (x : Value) (m : Nat) (l : List Value) (bs : Nat), y1.ownsRow bs 5 1 x m l → y4.ownsRow bs 5 1 x m l := fun x m l bs h => q1i h hg4 (fun g hg e => by
      obtain ⟨_, cs, fz, e1⟩ := q1d h g hg
      obtain ⟨_, cs', fz', e2⟩ := q1d I2' g e
      rw [e1] at e2
      cases e2)
    have hub4 : ∀ q, u4.ownBlock = some q → q ≠ b := fun q hq => by
      rcases hb4 with h | h
      · rw [h] at hq; exact I4 q hq
      · rw [h] at hq; have := Option.some.inj hq; have := F1.size; omega
    have M4 : Mut (fun k => w.heap.size ≤ k ∧ k ≠ b) y y4 := (Mut.of_ext F1).trans (Mut.app I2' hg4 (fun q hq => ⟨(q1d I2' q hq).1, I4 q hq⟩)); refine q1n (v := u4) rfl rfl hu4 G3 (by simp) ?_; intro y5 G3' hg5 hs5; (refine q0c<|bn ?_); have hx5 : ∀ (x : Value) (m : Nat) (l : List Value) (bs : Nat), y4.ownsRow bs 5 1 x m l → y5.ownsRow bs 5 1 x m l := fun x m l bs h => q1i h hg5 (fun g hg e => by
      obtain rfl : g3 = g := Option.some.inj e
      obtain ⟨_, cs, fz, e1⟩ := q1d h g3 hg
      exact q2g G3 e1 (by decide))
    have hil : xs.length = i := (by rw [I2.1, Nat.mul_one]); refine ⟨M4.trans (Mut.store G3 hg5 ⟨by omega, by omega⟩), u4, xs ++ [r 2], G3', q1i o4 hg5 (fun g hg e => by
      obtain rfl : g3 = g := Option.some.inj e
      obtain ⟨_, cs, fz, e1⟩ := q1d o4 g3 hg
      exact q2g G3 e1 (by decide)), fun j x hx => ?_, hub4, by omega⟩
    rcases Nat.lt_or_ge j i with hji | hji
    · rw [List.getElem?_append_left (by omega)] at hx; exact hx5 _ _ _ _ (hxo _ _ _ _ (q0o (I3 j x hx) F1))
    · have hje : j = i := by
        have := (List.getElem?_eq_some_iff.1 hx).1; rw [List.length_append, hil] at this; simp at this; omega
      subst hje; rw [List.getElem?_append_right (by omega), hil, Nat.sub_self] at hx; cases hx
      exact hx5 _ _ _ _ (hxo _ _ _ _ (q1m o2 (by have := E12.size; omega)))
  · obtain ⟨i, hfin, u, xs, I1, I2, I3, I4, I5⟩ : ∃ i, i = L ∧ ∃ u xs, Blk y g3 102 [u] ∧ y.ownsRow w.heap.size 129 1 u i xs ∧ (∀ j x, xs[j]? = some x → y.ownsRow w.heap.size 5 1 x (encB (colM M j)).length (ints .u8 (encB (colM M j)))) ∧ (∀ q, u.ownBlock = some q → q ≠ b) ∧ i ≤ L := hdn.elim id False.elim; rw [hfin] at I2; have hu1 := q0g (Row.of_own I2); refine z0h ?_; (refine q0b<|q0a<|Ls (X_ld rfl I1 rfl)<|Ls (q0j (v := u) rfl)<|q0c<|tn<|q0s ?_); refine q4v w2.heap.size [D] rfl rfl (by simp) (fun D' h => ?_) (fun w' hc => ⟨Res.tmp (v := u) rfl .nil, u, rfl, ?_, xs, ?_, ?_, fun j x d hx hd => ?_⟩)
    · rw [List.mem_singleton.1 h]; exact ⟨by omega, hbD⟩
    · exact hc.toExt (hMu.toExt E12 (fun k h => h.1)) (by have := E12.size; omega)
    · rw [I2.1]; simp
    · rw [List.length_map, List.length_range]; exact (RowN.of_own (hc.own I2)).mono fun k hk => hk.1
    · have hjL : j < L := by
        have := (List.getElem?_eq_some_iff.1 hd).1; simpa using this
      rw [List.getElem?_map, List.getElem?_range hjL] at hd; cases hd
      exact (RowN.of_own (hc.own (I3 j x hx))).mono fun k hk => hk.1
end Go.Proofs.YtpohjepbmgeplaaGreatDoor
namespace Go.Proofs.YtpohjepbmgeplaaGreatDoor
open Go.RowKit Go.Proofs.K
open _root_.Fd (K E pw root trow enc ccol comb)
open _root_.Cm (Sh pws pwE)
def waC (pv : Value) (rho : Nat × Nat) (iv : Value) : List Value := [pv, .int .u64 (rho.1 : Nat), .int .u64 (rho.2 : Nat), iv]
theorem q8c {pv iv : Value} {rho : Nat × Nat} (hp : pv.oneCell' = true) (hi : iv.oneCell' = true) : ∀ v ∈ waC pv rho iv, v.oneCell' = true := by
  intro v hv; rcases List.mem_cons.1 hv with rfl | hv
  · exact hp
  · rcases List.mem_cons.1 hv with rfl | hv
    · rfl
    · rcases List.mem_cons.1 hv with rfl | hv
      · rfl
      · rcases List.mem_cons.1 hv with rfl | hv
        · exact hi
        · cases hv
def isE (p : Nat × Nat) : Prop := p.1 < Fd.pr ∧ p.2 < Fd.pr
structure PosOk (s : Sh) (P : List (Nat × Nat)) (rho : Nat × Nat) (I : List Int) : Prop where
  p : P.length = s.a + s.c
  i : I.length = s.t
  pv : ∀ x ∈ P, isE x
  rv : isE rho
  ix : ∀ i ∈ I, 0 ≤ i ∧ i < ((s.n : Nat) : Int)
  srt : I.Pairwise (· < ·)
theorem q8a (l : List (Nat × Nat)) (w : World) : q3u Tryz.prog 77 #[] (l.map fun p => Value.agg (exC p.1 p.2).toArray) (fun i => decide ((l.getD i (0, 0)).1 < Fd.pr) && decide ((l.getD i (0, 0)).2 < Fd.pr)) w := by
  intro i x w' E hx; rw [List.getElem?_map] at hx; cases hp : l[i]? with
  | none => rw [hp] at hx; cases hx
  | some p =>
    rw [hp] at hx; cases hx
    have : l.getD i (0, 0) = p := (by rw [List.getD_eq_getElem?_getD, hp]; rfl); show Calls _ _ _ _ fun e w'' => e = .returned (.bool (decide ((l.getD i (0, 0)).1 < Fd.pr) && decide ((l.getD i (0, 0)).2 < Fd.pr))) ∧ _; rw [this]; exact z3r p.1 p.2 w'
theorem z3z (l : List (Nat × Nat)) : decide (∀ i, i < (l.map fun p => Value.agg (exC p.1 p.2).toArray).length → (decide ((l.getD i (0, 0)).1 < Fd.pr) && decide ((l.getD i (0, 0)).2 < Fd.pr)) = true) = true ↔ ∀ x ∈ l, isE x := by
  rw [decide_eq_true_eq, List.length_map]; constructor
  · intro h x hx; obtain ⟨i, hi⟩ := List.mem_iff_getElem?.1 hx; have := h i (List.getElem?_eq_some_iff.1 hi).1; rw [List.getD_eq_getElem?_getD, hi] at this; simpa [isE] using this
  · intro h i hi; have := h l[i] (List.getElem_mem _); rw [List.getD_eq_getElem?_getD, List.getElem?_eq_getElem hi]; simpa [isE] using this
set_option maxRecDepth 100000 in
set_option maxHeartbeats 4000000 in
theorem q7z (s : Sh) (hs : s.Ok) (pl ph il ih : Nat) (pv iv : Value) (P : List (Nat × Nat)) (rho : Nat × Nat) (I : List Int) (hPl : P.length ≤ 1000000) (hIl : I.length ≤ 1000000) (w : World) (hp : Row w pl ph 2 pv P.length (exs P)) (hi : Row w il ih 1 iv I.length (I.map (Value.int .i64))) :
    Calls Tryz.prog 58 #[.agg (shC (s.R : Nat) (s.C : Nat) (s.B : Nat) (s.t : Nat)).toArray, .int .i64 ((s.a + s.c : Nat) : Int), .agg (waC pv rho iv).toArray] w fun e w' => ∃ b : Bool, e = .returned (.bool b) ∧ (b = true ↔ PosOk s P rho I) ∧ Ext w w' := by
  obtain ⟨Ap, cp, rfl⟩ : ∃ A c, pv = .slice A P.length c := by
    obtain ⟨_, A, c, rfl, _⟩ := hp; exact ⟨A, c, rfl⟩
  obtain ⟨Ai, ci, rfl⟩ : ∃ A c, iv = .slice A I.length c := by
    obtain ⟨_, A, c, rfl, _⟩ := hi; exact ⟨A, c, rfl⟩
  have hBC : ((s.B : Nat) : Int) * ((s.C : Nat) : Int) = ((s.n : Nat) : Int) := by rw [← Int.natCast_mul, Cm.Sh.BC]
  have hn : s.n ≤ 65536 := (q1a hs.cb).2; have hac := hs.ac; refine q0i Tryz.func58 rfl Tryz.ntmps58 rfl ?_; (refine q0b<|q0a ?_); refine q1u rfl ?_; intro g3 w1 B3 hg3 E1 hs1; refine q1u rfl ?_; intro g5 w2 B5 hg5 E2 hs2; have C3 := B3.ext E2; have E12 := E1.trans E2; (refine a_B rfl<|q0c<|tn<|q0b<|q0a<|a_I rfl<|q0c<|tn<|q0b<|q0b<|q0a<|Ls (q0t rfl)<|Ls (X_ld (cs := waC (.slice Ap P.length cp) rho (.slice Ai I.length ci)) rfl B5 rfl)<|Ls (q0f rfl)<|m_I rfl<|q0c<|tn<|q0h ?_); refine q1k (fun q f w' => ∃ (i : Nat) (z : Int), q = I.length - i ∧ i ≤ I.length ∧ f 1 = .int .i64 ((s.a + s.c : Nat) : Int) ∧ f 3 = .pointer (some ⟨g3, 0, none⟩) ∧ f 5 = .pointer (some ⟨g5, 0, none⟩) ∧ f 7 = .int .i64 z ∧ f 11 = .slice Ai I.length ci ∧ f 12 = .int .i64 (I.length : Nat) ∧ f 13 = .int .i64 (i : Nat) ∧ w' = w2 ∧
    ((i = 0 ∧ z = -1) ∨ ∃ j, i = j + 1 ∧ I[j]? = some z) ∧ (I.take i).Pairwise (· < ·) ∧ (∀ x ∈ I.take i, 0 ≤ x ∧ x < ((s.n : Nat) : Int)) ∧ (∀ x ∈ I.take i, x ≤ z) ∧ -1 ≤ z) I.length ?_ ?_
  · exact ⟨0, -1, rfl, by omega, rfl, rfl, rfl, rfl, rfl, rfl, rfl, rfl, .inl ⟨rfl, rfl⟩, by simp, by simp, by simp, by omega⟩
  · rintro q f wr ⟨i, z, hq, hil, f1, f3, f5, f7, f11, f12, f13, rfl, hz, hpw, hrg, hle, hz1⟩; rw [fold f1, fold f3, fold f5, fold f7, fold f11, fold f12, fold f13]; (refine q0b<|q0a<|Ls (q1t rfl rfl)<|q0c<|tn<|q0b ?_); refine q0y rfl (fun h => ?_) (fun h => ?_)
    · have hlt : i < I.length := (by omega); obtain ⟨x, hx⟩ : ∃ x, I[i]? = some x := ⟨_, List.getElem?_eq_getElem hlt⟩; have hxm := List.mem_of_getElem? hx; obtain ⟨b, o, c', e, _, _, _, hR⟩ := (hi.ext E12).at hlt; cases e
      have hxv : (I.map (Value.int .i64))[i]? = some (.int .i64 x) := (by rw [List.getElem?_map, hx]; rfl); by_cases h1 : x ≤ z
      · (refine q0n<|tn<|q0b<|q0h<|q0b<|q0a<|Ls (q0r rfl rfl (by omega))<|Ls (q1v rfl hR (j := i) (by omega) hxv)<|a_I rfl<|q0c<|tn<|q0b<|q0b<|q0a<|m_I rfl<|m_I rfl<|Ls (q7b rfl rfl (by omega))<|m_B rfl<|Lo2 rfl rfl rfl rfl<|Lo2 rfl rfl rfl rfl<|Lo2 rfl rfl rfl rfl<|Lo2 rfl rfl rfl rfl<|Lo2 rfl rfl rfl rfl<|Lo2 rfl rfl rfl rfl<|Lo2 rfl rfl rfl rfl<|Ls (q0v (v := .bool _) rfl rfl)<|q0c<|tn<|q1f rfl<|q0b<|q0a<|a_B rfl<|q0c<|tn<|q0s<|tr<|br<|tr<|tr<|br<|tr ?_); refine q0e rfl rfl (v := .bool _) rfl ⟨false, rfl, ⟨(fun h => by cases h), fun hP => ?_⟩, E12⟩; rcases hz with ⟨_, rfl⟩ | ⟨j, rfl, hj⟩
        · have := (hP.ix x hxm).1; omega
        · have := List.pairwise_iff_getElem.1 hP.srt j (j + 1) (List.getElem?_eq_some_iff.1 hj).1 hlt (by omega); rw [List.getElem?_eq_getElem hlt] at hx; obtain ⟨h2, h3⟩ := List.getElem?_eq_some_iff.1 hj; rw [h3, Option.some.inj hx] at this; omega
      · by_cases h2 : ((s.n : Nat) : Int) ≤ x
        · (refine q0n<|tn<|q0b<|q0h<|q0b<|q0a<|Ls (q0r rfl rfl (by omega))<|Ls (q1v rfl hR (j := i) (by omega) hxv)<|a_I rfl<|q0c<|tn<|q0b<|q0b<|q0a<|m_I rfl<|m_I rfl<|Ls (z2w rfl rfl (by omega))<|m_B rfl<|Lg2 rfl rfl rfl (q0d (v := .int _ _) rfl)<|Lg2 rfl rfl rfl (q0t rfl)<|Lg2 rfl rfl rfl (X_ld (cs := shC (s.R : Nat) (s.C : Nat) (s.B : Nat) (s.t : Nat)) rfl C3 rfl)<|Lg2 rfl rfl rfl (q0t rfl)<|Lg2 rfl rfl rfl (X_ld (cs := shC (s.R : Nat) (s.C : Nat) (s.B : Nat) (s.t : Nat)) rfl C3 rfl)<|Lg2 rfl rfl rfl ((q1z rfl rfl ⟨by omega, by omega⟩).trans (by rw [hBC]))<|Lg2 rfl rfl rfl (q5r rfl rfl (by omega))<|Ls (q0p (v := .bool _) rfl rfl)<|q0c<|tn<|q1f rfl<|q0b<|q0a<|a_B rfl<|q0c<|tn<|q0s<|tr<|br<|tr<|tr<|br<|tr ?_); exact q0e rfl rfl (v := .bool _) rfl ⟨false, rfl, ⟨(fun h => by cases h), fun h => by have := (h.ix x hxm).2; omega⟩, E12⟩
        · (refine q0n<|tn<|q0b<|q0h<|q0b<|q0a<|Ls (q0r rfl rfl (by omega))<|Ls (q1v rfl hR (j := i) (by omega) hxv)<|a_I rfl<|q0c<|tn<|q0b<|q0b<|q0a<|m_I rfl<|m_I rfl<|Ls (z2w rfl rfl (by omega))<|m_B rfl<|Lg2 rfl rfl rfl (q0d (v := .int _ _) rfl)<|Lg2 rfl rfl rfl (q0t rfl)<|Lg2 rfl rfl rfl (X_ld (cs := shC (s.R : Nat) (s.C : Nat) (s.B : Nat) (s.t : Nat)) rfl C3 rfl)<|Lg2 rfl rfl rfl (q0t rfl)<|Lg2 rfl rfl rfl (X_ld (cs := shC (s.R : Nat) (s.C : Nat) (s.B : Nat) (s.t : Nat)) rfl C3 rfl)<|Lg2 rfl rfl rfl ((q1z rfl rfl ⟨by omega, by omega⟩).trans (by rw [hBC]))<|Lg2 rfl rfl rfl (q7c rfl rfl (by omega))<|Ls (q0p (v := .bool _) rfl rfl)<|q0c<|tn<|q0x rfl<|q0n<|tn<|q0a<|m_I rfl<|a_I rfl<|q0c<|bn<|tn<|q0a<|Ls (q1b rfl rfl (by omega))<|m_I rfl<|q0c<|tn ?_); have ht : I.take (i + 1) = I.take i ++ [x] := (by rw [List.take_add_one, hx]; rfl); refine ⟨I.length - (i + 1), by omega, i + 1, x, rfl, by omega, rfl, rfl, rfl, rfl, rfl, rfl, rfl, rfl, .inr ⟨i, rfl, hx⟩, ?_, fun y hy => ?_, fun y hy => ?_, by omega⟩
          · rw [ht, List.pairwise_append]; refine ⟨hpw, by simp, fun a ha b hb => ?_⟩; rw [List.mem_singleton.1 hb]; have := hle a ha; omega
          · rw [ht] at hy; rcases List.mem_append.1 hy with hy | hy
            · exact hrg y hy
            · rw [List.mem_singleton.1 hy]; omega
          · rw [ht] at hy; rcases List.mem_append.1 hy with hy | hy
            · have := hle y hy; omega
            · rw [List.mem_singleton.1 hy]; omega
    · have hil' : i = I.length := (by omega); rw [hil', List.take_length] at hpw hrg; by_cases h3 : I.length = s.t
      · by_cases h4 : P.length = s.a + s.c
        · (refine q1j<|te<|te<|bx<|tn<|q0b<|q0a<|Ls (q0t rfl)<|Ls (X_ld (cs := waC (.slice Ap P.length cp) rho (.slice Ai I.length ci)) rfl B5 rfl)<|Ls (q0f rfl)<|Ls (q0t rfl)<|Ls (X_ld (cs := shC (s.R : Nat) (s.C : Nat) (s.B : Nat) (s.t : Nat)) rfl C3 rfl)<|Ls (q2r rfl rfl (by omega))<|m_B rfl<|Lg2 rfl rfl rfl (q0t rfl)<|Lg2 rfl rfl rfl (X_ld (cs := waC (.slice Ap P.length cp) rho (.slice Ai I.length ci)) rfl B5 rfl)<|Lg2 rfl rfl rfl (q0f rfl)<|Lg2 rfl rfl rfl (q0d (v := .int _ _) rfl)<|Lg2 rfl rfl rfl (q2r rfl rfl (by omega))<|Ls (q0v (v := .bool _) rfl rfl)<|m_B rfl<|Lg2 rfl rfl rfl (q0t rfl)<|Lg2 rfl rfl rfl (X_ld (cs := waC (.slice Ap P.length cp) rho (.slice Ai I.length ci)) rfl B5 rfl) ?_); refine q1x rfl rfl rfl ?_; refine L_fv rfl (gval_e pl ph _ P (P.map fun p => Value.agg (exC p.1 p.2).toArray) rfl (by rw [List.length_map]; omega) wr ((hp.ext E12).re (by rw [List.length_map]) rfl) (fun i => decide ((P.getD i (0, 0)).1 < Fd.pr) && decide ((P.getD i (0, 0)).2 < Fd.pr)) 77 #[] (q8a P wr)) ?_; intro w3 E3; have hall := z3z P; have C5 := B5.ext E3; by_cases h5 : ∀ x ∈ P, isE x
          · rw [hall.2 h5]; (refine Ls (q0v (v := .bool _) rfl rfl)<|m_B rfl<|Lg2 rfl rfl rfl (q0t rfl)<|Lg2 rfl rfl rfl (z2b (size := 2) (l := exC rho.1 rho.2) rfl C5 rfl rfl) ?_); refine q1x rfl rfl rfl ?_; refine L_fv rfl (z3r rho.1 rho.2 w3) ?_; intro w4 E4; (refine Ls (q0v (v := .bool _) rfl rfl)<|a_B rfl<|q0c<|tn<|q0s ?_); refine q0e rfl rfl (v := .bool _) rfl ⟨_, rfl, ⟨fun h => ?_, fun h => ?_⟩, E12.trans (E3.trans E4)⟩
            · exact ⟨h4, h3, h5, by simpa [isE] using h, hrg, hpw⟩
            · have := h.rv; simpa [isE] using this
          · have hf : decide (∀ i, i < (P.map fun p => Value.agg (exC p.1 p.2).toArray).length → (decide ((P.getD i (0, 0)).1 < Fd.pr) && decide ((P.getD i (0, 0)).2 < Fd.pr)) = true) = false := by
              cases hb : decide (∀ i, i < (P.map fun p => Value.agg (exC p.1 p.2).toArray).length → (decide ((P.getD i (0, 0)).1 < Fd.pr) && decide ((P.getD i (0, 0)).2 < Fd.pr)) = true) with
              | false => rfl
              | true => exact (h5 (hall.1 hb)).elim
            rw [hf]; (refine Ls (q0v (v := .bool _) rfl rfl)<|m_B rfl<|Lo2 rfl rfl rfl rfl<|Lo2 rfl rfl rfl rfl<|Lo2 rfl rfl rfl rfl<|Ls (q0p (v := .bool _) rfl rfl)<|a_B rfl<|q0c<|tn<|q0s ?_); exact q0e rfl rfl (v := .bool _) rfl ⟨false, rfl, ⟨(fun h => by cases h), fun h => (h5 h.pv).elim⟩, E12.trans E3⟩
        · (refine q1j<|te<|te<|bx<|tn<|q0b<|q0a<|Ls (q0t rfl)<|Ls (X_ld (cs := waC (.slice Ap P.length cp) rho (.slice Ai I.length ci)) rfl B5 rfl)<|Ls (q0f rfl)<|Ls (q0t rfl)<|Ls (X_ld (cs := shC (s.R : Nat) (s.C : Nat) (s.B : Nat) (s.t : Nat)) rfl C3 rfl)<|Ls (q2r rfl rfl (by omega))<|m_B rfl<|Lg2 rfl rfl rfl (q0t rfl)<|Lg2 rfl rfl rfl (X_ld (cs := waC (.slice Ap P.length cp) rho (.slice Ai I.length ci)) rfl B5 rfl)<|Lg2 rfl rfl rfl (q0f rfl)<|Lg2 rfl rfl rfl (q0d (v := .int _ _) rfl)<|Lg2 rfl rfl rfl (q4g rfl rfl (by omega))<|Ls (q0v (v := .bool _) rfl rfl)<|m_B rfl<|Lo2 rfl rfl rfl rfl<|Lo2 rfl rfl rfl rfl<|Lo2 rfl rfl rfl rfl<|Ls (q0p (v := .bool _) rfl rfl)<|m_B rfl<|Lo2 rfl rfl rfl rfl<|Lo2 rfl rfl rfl rfl<|Lo2 rfl rfl rfl rfl<|Ls (q0p (v := .bool _) rfl rfl)<|a_B rfl<|q0c<|tn<|q0s ?_); exact q0e rfl rfl (v := .bool _) rfl ⟨false, rfl, ⟨(fun h => by cases h), fun h => (h4 h.p).elim⟩, E12⟩
      · (refine q1j<|te<|te<|bx<|tn<|q0b<|q0a<|Ls (q0t rfl)<|Ls (X_ld (cs := waC (.slice Ap P.length cp) rho (.slice Ai I.length ci)) rfl B5 rfl)<|Ls (q0f rfl)<|Ls (q0t rfl)<|Ls (X_ld (cs := shC (s.R : Nat) (s.C : Nat) (s.B : Nat) (s.t : Nat)) rfl C3 rfl)<|Ls (q4g rfl rfl (by omega))<|m_B rfl<|Lo2 rfl rfl rfl rfl<|Lo2 rfl rfl rfl rfl<|Lo2 rfl rfl rfl rfl<|Lo2 rfl rfl rfl rfl<|Lo2 rfl rfl rfl rfl<|Ls (q0p (v := .bool _) rfl rfl)<|m_B rfl<|Lo2 rfl rfl rfl rfl<|Lo2 rfl rfl rfl rfl<|Lo2 rfl rfl rfl rfl<|Ls (q0p (v := .bool _) rfl rfl)<|m_B rfl<|Lo2 rfl rfl rfl rfl<|Lo2 rfl rfl rfl rfl<|Lo2 rfl rfl rfl rfl<|Ls (q0p (v := .bool _) rfl rfl)<|a_B rfl<|q0c<|tn<|q0s ?_); exact q0e rfl rfl (v := .bool _) rfl ⟨false, rfl, ⟨(fun h => by cases h), fun h => (h3 h.i).elim⟩, E12⟩
theorem vals_getD {l : List K} {i : Nat} {x : K} (h : l[i]? = some x) : l.getD i 0 = x := by rw [List.getD_eq_getElem?_getD, h]; rfl
set_option maxRecDepth 100000 in
set_option maxHeartbeats 4000000 in
theorem gsumw (al ah bl bh : Nat) (u v : Value) (ws : List E) (l : List K) (hwl : l.length ≤ ws.length) (hl6 : ws.length ≤ 1000000) (w : World) (hu : Row w al ah 2 u ws.length (exs (raw ws))) (hv : Row w bl bh 1 v l.length (ints .u64 (vals l))) :
    Calls Tryz.prog 62 #[.agg mixC.toArray, u, v] w fun e w' => e = .returned (.agg (xc (comb ws l)).toArray) ∧ Ext w w' := by
  obtain ⟨Au, cu, rfl⟩ : ∃ A c, u = .slice A ws.length c := by
    obtain ⟨_, A, c, rfl, _⟩ := hu; exact ⟨A, c, rfl⟩
  obtain ⟨Av, cv, rfl⟩ : ∃ A c, v = .slice A l.length c := by
    obtain ⟨_, A, c, rfl, _⟩ := hv; exact ⟨A, c, rfl⟩
  refine q0i Tryz.func62 rfl Tryz.ntmps62 rfl ?_; (refine q0b<|q0a ?_); refine q1u rfl ?_; intro g3 w1 B3 hg3 E1 hs1; refine q0w ?_; intro g6 w2 B6 hg6 E2 hs2; (refine q0c<|tn<|q0b<|q0a ?_); refine q0w ?_; intro g7 w3 B7 hg7 E3 hs3; have C3 := B3.ext (E2.trans E3); have C6 := B6.ext E3; have E13 := E1.trans (E2.trans E3); have hn36 : g3 ≠ g7 := by have := (E2.trans E3).size; have := E2.size; omega
  have hn67 : g6 ≠ g7 := by have := E3.size; omega
  (refine q0c<|tn<|q0b<|q0b<|q0a<|m_S rfl<|Ls (q0f rfl)<|m_I rfl<|q0c<|tn<|q0h ?_); refine q1k (fun q f w' => ∃ i, q = l.length - i ∧ i ≤ l.length ∧ f 1 = .slice Au ws.length cu ∧ f 3 = .pointer (some ⟨g3, 0, none⟩) ∧ f 6 = .pointer (some ⟨g6, 0, none⟩) ∧ f 7 = .pointer (some ⟨g7, 0, none⟩) ∧ f 10 = .slice Av l.length cv ∧ f 11 = .int .i64 (l.length : Nat) ∧ f 12 = .int .i64 (i : Nat) ∧ Blk w' g3 112 mixC ∧ Blk w' g6 31 (exC 0 0) ∧ Blk w' g7 31 (xc (Fd.es i fun j => ws.getD j 0 * E.of (l.getD j 0))) ∧ Ext w w') l.length ?_ ?_
  · exact ⟨0, rfl, by omega, rfl, rfl, rfl, rfl, rfl, rfl, rfl, C3, C6, B7, E13⟩
  · rintro q f wr ⟨i, hq, hi, f1, f3, f6, f7, f10, f11, f12, D3, D6, D7, hE⟩; rw [fold f1, fold f3, fold f6, fold f7, fold f10, fold f11, fold f12]; (refine q0b<|q0a<|Ls (q1t rfl rfl)<|q0c<|tn<|q0b ?_); refine q0y rfl (fun h => ?_) (fun h => ?_)
    · have hlt : i < l.length := (by omega); obtain ⟨x, hx⟩ : ∃ x, l[i]? = some x := ⟨_, List.getElem?_eq_getElem hlt⟩; obtain ⟨y, hy⟩ : ∃ y, ws[i]? = some y := ⟨_, List.getElem?_eq_getElem (by omega)⟩; obtain ⟨b1, o1, c1, e1, _, _, _, hRv⟩ := hv.at hlt; cases e1
      have hu' := hu; rw [← q1s ws] at hu'; obtain ⟨b2, o2, e2, _, _, _, _, _, hRu⟩ := q9p hu' (q5i hy); cases e2
      obtain ⟨acc, hacc⟩ : ∃ acc, acc = Fd.es i fun j => ws.getD j 0 * E.of (l.getD j 0) := ⟨_, rfl⟩; rw [← hacc] at D7; have hstep : acc + y * E.of x = Fd.es (i + 1) fun j => ws.getD j 0 * E.of (l.getD j 0) := by
        show _ = Fd.es i _ + ws.getD i 0 * E.of (l.getD i 0); rw [← hacc, vals_getD hx, List.getD_eq_getElem?_getD, hy]; rfl
      (refine q0n<|tn<|q0b<|q0h<|q0b<|q0a<|m_I rfl<|Ls (q0r rfl rfl (by omega))<|Ls (q1v rfl (hE.range hRv) (j := i) (by omega) (q2h (q8x hx)))<|a_I rfl<|a_I rfl<|q0c<|tn ?_); apply q1h 11 (by kernel_rfl); repeat (first | ((with_reducible apply q2l); (first | apply DW_x (fun r w hA hH => (q0d (v := .int _ _) rfl).trans rfl) | apply DW_x (fun r w hA hH => (q0d (v := .slice _ _ _) rfl).trans rfl))) | ((with_reducible apply z1p); apply DW_x (fun r w hA hH => (q0t rfl).trans rfl)) | ((with_reducible apply q2w); (first | apply DW_x (fun r w hA hH => (X_ld (cs := mixC) rfl (D3.ext hA) rfl).trans rfl) | apply DW_x (fun r w hA hH => (q1e rfl (D7.ext hA) rfl).trans rfl) | apply DW_x (fun r w hA hH => (q2j (size := 2) (cs := xc y) rfl ((hE.trans hA).range hRu) rfl).trans rfl))) | ((with_reducible apply q4m); apply DW_x (fun r w hA hH => (q0r rfl rfl (by omega)).trans rfl)))
      apply DW_fc (first := #[]) (cap := #[]) (vl := fun _ => [kv x, .agg (xc y).toArray]) (fun _ => rfl) (fun _ => rfl) (fun r w hA hH => gmixed y x w); ((with_reducible exact q1p); (exact rfl); (repeat (first | exact .inr (.inr (fun _ _ => by with_reducible rfl)) | (refine And.intro ?_ ?_) | exact .inr (.inl rfl) | exact .inl (by decide +kernel) | exact trivial | exact .inr (.inr (fun _ _ => rfl)))); (try dsimp only [Nat.reduceAdd])); intro r w4 E4 _; refine q6n (vl := [.agg (xc acc).toArray, .agg (xc (y * E.of x)).toArray]) rfl (gexadd acc (y * E.of x) w4) rfl (fun e w5 hq => ⟨_, hq.1, ?_⟩); have E5 := hq.2; have E45 := E4.trans E5; refine q0l (l := xc (acc + y * E.of x)) rfl rfl rfl q1g (D7.ext E45) rfl ?_; intro w6 D7' hg6' hs6; (refine q0c<|bn<|tn<|q0a<|Ls (q1b rfl rfl (by omega))<|m_I rfl<|q0c<|tn ?_); refine ⟨l.length - (i + 1), by omega, i + 1, rfl, by omega, rfl, rfl, rfl, rfl, rfl, rfl, rfl, (D3.ext E45).grown hg6' (by simp; omega), (D6.ext E45).grown hg6' (by simp; omega), by rw [← hstep]; exact D7', (hE.trans E45).then hg6' (fun g h => by cases h; have := (E1.trans E2).size; omega)⟩
    · have hil : i = l.length := (by omega); rw [hil] at D7; (refine q1j<|te<|te<|bx<|tn<|q0b<|q0a<|Ls (q1e rfl D7 rfl) ?_); refine q0l (l := xc (comb ws l)) rfl rfl rfl q1g D6 rfl ?_; intro w6 D6' hg6' hs6; (refine q0c<|tn<|q0s ?_); refine q1c rfl rfl (Res.cellA inferInstance rfl (D6'.range (fun j u h => by simpa using h)) rfl .nil) ?_; exact ⟨rfl, hE.then hg6' (fun g h => by cases h; have := E1.size; omega)⟩
theorem pws_len (x : E) (n : Nat) : (pws x n).length = n := by unfold pws; simp
theorem raw_drop {w : World} {lo hi m c : Nat} {A : Option Addr} {P : List E} (h : Row w lo hi 2 (.slice A m c) m (exs (raw P))) (hl : P.length = m) {i : Nat} (hi' : i ≤ m) :
    Row w lo hi 2 (.slice (if c = i then A else A.map (·.add (i * 2))) (m - i) (c - i)) (P.drop i).length (exs (raw (P.drop i))) := by
  have := h.slice (i := i) (j := m) rfl hi' (Nat.le_refl _); have e : ((exs (raw P)).drop (i * 2)).take ((m - i) * 2) = exs (raw (P.drop i)) := by
    have h1 : raw P = raw (P.take i) ++ raw (P.drop i) := (by unfold raw; rw [← List.map_append, List.take_append_drop]); have h2 : (exs (raw (P.take i))).length = i * 2 := (by rw [q5k, q1s, List.length_take]; omega); rw [h1, q3g, ← h2, List.drop_left, List.take_of_length_le (by rw [q5k, q1s, List.length_drop]; omega)]
  rw [e] at this; rw [List.length_drop, hl]; exact this
theorem Run_ex {P : Program} {n : NN} {o : Oper} {f : Fr} {w : World} {K Φ : Value → World → Prop} (h : ∃ v w', X P n o f w = .ok (.value v) w' ∧ Φ v w') (hk : ∀ v w', Φ v w' → K v w') : Run P n o f w K := by
  obtain ⟨v, w', h1, h2⟩ := h; exact q4e h1 (hk v w' h2)
structure WJ (w2 : World) (g2 g3 R : Nat) (L : Nat → Bool) (f : Fr) (w : World) : Prop where
  e : Ext w2 w
  f2 : f 2 = .pointer (some ⟨g2, 0, none⟩)
  f3 : f 3 = .pointer (some ⟨g3, 0, none⟩)
  o0 : L 0 = true → f 9 = .pointer (some ⟨g2, 0 + 0, none⟩)
  o1 : L 1 = true → f 10 = .int .i64 (R : Nat)
  o2 : L 2 = true → ∃ k, f 11 = .slice (some ⟨k, 0, none⟩) R R ∧ w2.heap.size ≤ k ∧ k < w.heap.size ∧ Blk w k 31 (List.replicate R [Value.int .u64 0, .int .u64 0]).flatten ∧ (L 4 = true → ∀ q, f 7 = .pointer (some ⟨q, 0, none⟩) → q ≠ k)
  o3 : L 3 = true → f 12 = .agg (xc 1).toArray
  o4 : L 4 = true → ∃ q, f 7 = .pointer (some ⟨q, 0, none⟩) ∧ w2.heap.size ≤ q ∧ q < w.heap.size ∧ Blk w q 31 (if L 6 = true then xc 1 else exC 0 0)
  o5 : L 5 = true → f 6 = f 11
  d5 : L 5 = true → L 2 = true
  d6 : L 6 = true → L 4 = true
theorem WJ.step {w2 : World} {g2 g3 R : Nat} {L L' : Nat → Bool} {f f' : Fr} {w w' : World} (h : WJ w2 g2 g3 R L f w) (E : Ext w w')
    (h2 : f' 2 = f 2) (h3 : f' 3 = f 3) (o0 : L' 0 = true → L 0 = true ∧ f' 9 = f 9 ∨ f' 9 = .pointer (some ⟨g2, 0 + 0, none⟩)) (o1 : L' 1 = true → L 1 = true ∧ f' 10 = f 10 ∨ f' 10 = .int .i64 (R : Nat))
    (o3 : L' 3 = true → L 3 = true ∧ f' 12 = f 12 ∨ f' 12 = .agg (xc 1).toArray) (o2 : L' 2 = true → L 2 = true ∧ f' 11 = f 11) (o4 : L' 4 = L 4 ∧ f' 7 = f 7) (o6 : L' 6 = L 6) (o5 : L' 5 = true → L 5 = true ∧ f' 6 = f 6 ∧ f' 11 = f 11 ∨ f' 6 = f' 11) (d5 : L' 5 = true → L' 2 = true) : WJ w2 g2 g3 R L' f' w' := by
  refine ⟨h.e.trans E, h2.trans h.f2, h3.trans h.f3, fun q => ?_, fun q => ?_, fun q => ?_, fun q => ?_, fun q => ?_, fun q => ?_, d5, fun q => o4.1.symm ▸ h.d6 (o6 ▸ q)⟩
  · rcases o0 q with ⟨a, b⟩ | b
    · exact b.trans (h.o0 a)
    · exact b
  · rcases o1 q with ⟨a, b⟩ | b
    · exact b.trans (h.o1 a)
    · exact b
  · obtain ⟨a, b⟩ := o2 q; obtain ⟨k, h1, h2, h3, h4, h5⟩ := h.o2 a; have := E.size; exact ⟨k, b.trans h1, h2, by omega, h4.ext E, fun r x hx => h5 (o4.1 ▸ r) x (o4.2 ▸ hx)⟩
  · rcases o3 q with ⟨a, b⟩ | b
    · exact b.trans (h.o3 a)
    · exact b
  · obtain ⟨k, h1, h2, h3, h4⟩ := h.o4 (o4.1 ▸ q); have := E.size; exact ⟨k, o4.2.trans h1, h2, by omega, by rw [o6]; exact h4.ext E⟩
  · rcases o5 q with ⟨a, b, c⟩ | b
    · rw [b, c]; exact h.o5 a
    · exact b
set_option maxRecDepth 100000 in
set_option maxHeartbeats 4000000 in
theorem gcweights (s : Sh) (hs : s.Ok) (pl ph : Nat) (pv iv : Value) (hiv : iv.oneCell' = true) (P : List E) (rho : E) (hP : P.length = s.a + s.c) (w : World) (hw : Tb w) (hp : Row w pl ph 2 pv P.length (exs (raw P))) :
    Calls Tryz.prog 60 #[.agg (shC (s.R : Nat) (s.C : Nat) (s.B : Nat) (s.t : Nat)).toArray, .agg (waC pv (rho.a.val, rho.b.val) iv).toArray] w fun e w' => ∃ q1 q2, e = .returned (.tuple #[q1, q2]) ∧ Ext w w' ∧ w'.ownsRow w.heap.size 31 2 q1 s.R (exs (raw (Fd.eqT (P.drop s.c)))) ∧ w'.ownsRow w.heap.size 31 2 q2 s.R (exs (raw (pws rho s.R))) := by
  obtain ⟨Ap, cp, rfl, hcp⟩ : ∃ A c, pv = .slice A P.length c ∧ P.length ≤ c := by
    obtain ⟨_, A, c, rfl, h, _⟩ := hp; exact ⟨A, c, rfl, h⟩
  have hac := hs.ac; have hR16 : s.R ≤ 65536 := (q1a (a := s.a) (by omega)).2; have hR1 : 1 ≤ s.R := Nat.pow_pos (by decide); have hC16 : s.C ≤ 65536 := (q1a (a := s.c) (by omega)).2; have hlc : lgI ((s.C : Nat) : Int) = s.c := q5j s.c; refine q0i Tryz.func60 rfl Tryz.ntmps60 rfl ?_; (refine q0b<|q0a ?_); refine q1u rfl ?_; intro g2 w1 B2 hg2 E1 hs1; refine q1u rfl ?_; intro g3 w2 B3 hg3 E2 hs2; have C2 := B2.ext E2; have E12 := E1.trans E2; (refine a_S rfl<|a_S rfl<|q0c<|tn<|q0b ?_); refine W_draw (WJ w2 g2 g3 s.R) (by kernel_rfl) ⟨Ext.drew w2, rfl, rfl, (fun h => by simp at h), (fun h => by simp at h), (fun h => by simp at h), (fun h => by simp at h), (fun h => by simp at h), (fun h => by simp at h), (fun h => by simp at h), (fun h => by simp at h)⟩ ?_ ?_
  · intro i o ho L f w hL hdep hJ; have hsz := hJ.e.size; have hg2l := C2.lt; have hwn : ∀ {o : Oper} {ops : Array Oper} {K : Prop}, o.guard = none → q3a ⟨35, [], none⟩ ops f o = false → K := fun hg h => (by rw [q3y hg] at h; cases h); match i, ho with
    | 0, ho =>
      obtain rfl := Option.some.inj ho; refine ⟨fun _ => q4e ((q0t (show ev ⟨35, [], none⟩ f (.tmp 2) = _ from hJ.f2)).trans rfl) ?_, hwn rfl⟩; exact hJ.step (Ext.refl _) rfl rfl (fun _ => .inr rfl) (fun h => .inl ⟨h, rfl⟩) (fun h => .inl ⟨h, rfl⟩) (fun h => ⟨h, rfl⟩) ⟨rfl, rfl⟩ rfl (fun h => .inl ⟨h, rfl, rfl⟩) hJ.d5
    | 1, ho =>
      obtain rfl := Option.some.inj ho; have h0 := hJ.o0 (hdep ⟨0, .data⟩ (by simp) rfl); refine ⟨fun _ => q4e (X_ld (cs := shC (s.R : Nat) (s.C : Nat) (s.B : Nat) (s.t : Nat)) (show ev ⟨35, [], none⟩ f (.tmp 9) = _ from h0) (C2.ext hJ.e) rfl) ?_, hwn rfl⟩; exact hJ.step (Ext.refl _) rfl rfl (fun h => .inl ⟨h, rfl⟩) (fun _ => .inr rfl) (fun h => .inl ⟨h, rfl⟩) (fun h => ⟨h, rfl⟩) ⟨rfl, rfl⟩ rfl (fun h => .inl ⟨h, rfl, rfl⟩) hJ.d5
    | 2, ho =>
      obtain rfl := Option.some.inj ho; have h1 := hJ.o1 (hdep ⟨1, .data⟩ (by simp) rfl); refine ⟨fun _ => Run_ex (X_makeD (w0 := w) s.R s.R (show ev ⟨35, [], none⟩ f (.tmp 10) = _ from h1) (show ev ⟨35, [], none⟩ f (.tmp 10) = _ from h1) rfl rfl (Nat.le_refl _) (by omega) (by omega) (Nat.le_refl _)) ?_, hwn rfl⟩; rintro v w' ⟨E, k, rfl, hk, hBk⟩; refine ⟨hJ.e.trans E, hJ.f2, hJ.f3, hJ.o0, hJ.o1, fun _ => ⟨k, rfl, by omega, hBk.lt, hBk, fun h4 q hq => ?_⟩, hJ.o3, fun h4 => ?_, fun h5 => ?_, fun _ => rfl, hJ.d6⟩
      · obtain ⟨q', h1, _, h3, _⟩ := hJ.o4 h4; have : f 7 = .pointer (some ⟨q, 0, none⟩) := hq; rw [h1] at this; cases this
        omega
      · obtain ⟨q', h1, h2, h3, h4⟩ := hJ.o4 h4; exact ⟨q', h1, h2, by have := E.size; omega, h4.ext E⟩
      · exact absurd (hJ.d5 h5) (by rw [hL]; simp)
    | 3, ho =>
      obtain rfl := Option.some.inj ho; refine ⟨fun _ => q6l (X_fn (vl := [kv 1]) rfl) (gbase 1 w) fun e w' ⟨he, E⟩ => ⟨_, he, ?_⟩, hwn rfl⟩; exact hJ.step E rfl rfl (fun h => .inl ⟨h, rfl⟩) (fun h => .inl ⟨h, rfl⟩) (fun _ => .inr rfl) (fun h => ⟨h, rfl⟩) ⟨rfl, rfl⟩ rfl (fun h => .inl ⟨h, rfl, rfl⟩) hJ.d5
    | 4, ho =>
      obtain rfl := Option.some.inj ho; have hL6 : ¬ L 6 = true := fun h => (by have := hJ.d6 h; rw [hL] at this; cases this); refine ⟨fun _ => Run_ex (q8q (w0 := w) (z' := exC 0 0) (Nat.le_refl _)) ?_, hwn rfl⟩; rintro v w' ⟨E, q, rfl, hq, hBq⟩; refine ⟨hJ.e.trans E, hJ.f2, hJ.f3, hJ.o0, hJ.o1, fun h2 => ?_, hJ.o3, fun h4 => ⟨q, rfl, by omega, hBq.lt, ?_⟩, hJ.o5, hJ.d5, fun _ => rfl⟩
      · obtain ⟨k, h1, h2', h3, h4, _⟩ := hJ.o2 h2; refine ⟨k, h1, h2', by have := E.size; omega, h4.ext E, fun _ x hx => ?_⟩; have : (Value.pointer (some ⟨q, 0, none⟩)) = .pointer (some ⟨x, 0, none⟩) := hx; cases this
        omega
      · show Blk w' q _ (if L 6 = true then xc 1 else exC 0 0); rw [if_neg hL6]; exact hBq
    | 5, ho =>
      obtain rfl := Option.some.inj ho; refine ⟨fun _ => q4e (q0j (v := f 11) rfl) ?_, hwn rfl⟩; exact hJ.step (Ext.refl _) rfl rfl (fun h => .inl ⟨h, rfl⟩) (fun h => .inl ⟨h, rfl⟩) (fun h => .inl ⟨h, rfl⟩) (fun h => ⟨h, rfl⟩) ⟨rfl, rfl⟩ rfl (fun _ => .inr rfl) (fun _ => hdep ⟨2, .data⟩ (by simp) rfl)
    | 6, ho =>
      obtain rfl := Option.some.inj ho; have hd : ∀ j, j ≤ 5 → L j = true := fun j hj => by
        match j, hj with
        | 0, _ => exact hdep ⟨0, .phase⟩ (by simp) rfl
        | 1, _ => exact hdep ⟨1, .phase⟩ (by simp) rfl
        | 2, _ => exact hdep ⟨2, .phase⟩ (by simp) rfl
        | 3, _ => exact hdep ⟨3, .phase⟩ (by simp) rfl
        | 4, _ => exact hdep ⟨4, .phase⟩ (by simp) rfl
        | 5, _ => exact hdep ⟨5, .phase⟩ (by simp) rfl
      obtain ⟨q, h1, h2, h3, h4⟩ := hJ.o4 (hd 4 (by omega)); rw [hL, if_neg (by simp)] at h4; obtain ⟨k, k1, k2, k3, k4, k5⟩ := hJ.o2 (hd 2 (by omega)); have hqk := k5 (hd 4 (by omega)) q h1; have hX := fun t pos af => q6k (P := Tryz.prog) (n := ⟨35, [], none⟩) (f := f) (w := w) (d := none) (t := t) (ty := 31) (pos := pos) (af := af) (g := none) (size := 2) (x := .tmp 7) (y := .tmp 12) (show ev ⟨35, [], none⟩ f (.tmp 7) = _ from h1) (show ev ⟨35, [], none⟩ f (.tmp 12) = _ from hJ.o3 (hd 3 (by omega))) rfl q1g h4 (by decide); have hE := q2k w q ((exC 0 0).take 0 ++ xc 1 ++ (exC 0 0).drop (0 + 2)).toArray; refine ⟨fun _ => q5f (hX _ _ _) ⟨hJ.e.then hE (fun g h => by cases h; omega), hJ.f2, hJ.f3, hJ.o0, hJ.o1, fun _ => ⟨k, k1, k2, by have := hE.size; omega, k4.grown hE (by simp; omega), fun _ x hx => k5 (hd 4 (by omega)) x hx⟩, hJ.o3, fun _ => ⟨q, h1, h2, by have := hE.size; omega, ?_⟩, hJ.o5, hJ.d5, fun _ => hd 4 (by omega)⟩, hwn rfl⟩; show Blk _ q _ (if (true : Bool) = true then xc 1 else exC 0 0); rw [if_pos rfl]; exact h4.setRow _
    | i + 7, ho => simp at ho
  · intro L f w3 hall hJ; have hall : ∀ i, i < 7 → L i = true := fun i hi => hall i hi; obtain ⟨k, k1, k2, k3, k4, k5⟩ := hJ.o2 (hall 2 (by omega)); obtain ⟨q, q1, q2, q3, q4⟩ := hJ.o4 (hall 4 (by omega)); rw [if_pos (hall 6 (by omega))] at q4; have hqk := k5 (hall 4 (by omega)) q q1; have f6 : f 6 = .slice (some ⟨k, 0, none⟩) s.R s.R := (hJ.o5 (hall 5 (by omega))).trans k1; have E3 := hJ.e; have f2 := hJ.f2; have f3 := hJ.f3; clear k5 hJ; have hz2 := E12.size; have hz3 := E3.size; have ok3 : w3.ownsRow w.heap.size 31 2 (.slice (some ⟨k, 0, none⟩) s.R s.R) s.R (exs (raw (tabE s.R fun j => if j < 0 then pwE rho j else 0))) := by
      rw [tabE_zero] at k4; have e : tabE s.R (fun j => if j < 0 then pwE rho j else 0) = tabE s.R fun _ => 0 := q3o fun j _ => (by rw [if_neg (by omega)]); rw [e]; exact q4u k4 (by omega) (Nat.le_refl _) (by unfold maxLen; omega) (by rw [q5k, q1s, q8f]) (by rw [List.take_of_length_le (by rw [q5k, q1s, q8f]; exact Nat.le_refl _)])
    rw [fold f2, fold f3, fold f6, fold q1]; (refine tn<|q0b<|q0b<|q0a<|m_S rfl<|Ls (q0f rfl)<|m_I rfl<|q0c<|tn<|q0h ?_); refine q1k (fun z f w' => ∃ i, z = s.R - i ∧ i ≤ s.R ∧ f 2 = .pointer (some ⟨g2, 0, none⟩) ∧ f 3 = .pointer (some ⟨g3, 0, none⟩) ∧ f 6 = .slice (some ⟨k, 0, none⟩) s.R s.R ∧ f 7 = .pointer (some ⟨q, 0, none⟩) ∧ f 14 = .int .i64 (s.R : Nat) ∧ f 15 = .int .i64 (i : Nat) ∧ Ext w2 w' ∧ Blk w' q 31 (xc (pwE rho i)) ∧ w'.ownsRow w.heap.size 31 2 (.slice (some ⟨k, 0, none⟩) s.R s.R) s.R (exs (raw (tabE s.R fun j => if j < i then pwE rho j else 0)))) s.R ?_ ?_
    · exact ⟨0, rfl, by omega, rfl, rfl, rfl, rfl, rfl, rfl, E3, q4, ok3⟩
    · rintro z f wr ⟨i, hz, hi, f2, f3, f6, f7, f14, f15, hE, D7, o6⟩; rw [fold f2, fold f3, fold f6, fold f7, fold f14, fold f15]; have hEs := hE.size; (refine q0b<|q0a<|Ls (q1t rfl rfl)<|q0c<|tn<|q0b ?_); refine q0y rfl (fun h => ?_) (fun h => ?_)
      · have hlt : i < s.R := (by omega); have D3 := B3.ext hE; (refine q0n<|tn<|q0b<|q0h<|q0b<|q0a<|m_I rfl<|a_I rfl<|q0c<|tn ?_); apply q1h 7 (by kernel_rfl); (apply DW_x (fun r w hA hH => (q0d (v := .slice _ _ _) rfl).trans rfl); apply DW_x (fun r w hA hH => (q0d (v := .int _ _) rfl).trans rfl); apply DW_x (fun r w hA hH => (q1e rfl (D7.ext hA) rfl).trans rfl); apply DW_x (fun r w hA hH => (q1e rfl (D7.ext hA) rfl).trans rfl); apply DW_x (fun r w hA hH => (q0t rfl).trans rfl); apply DW_x (fun r w hA hH => (z2b (size := 2) (l := xc rho) rfl (D3.ext hA) rfl rfl).trans rfl)); ((with_reducible apply q2c); (exact fun _ => rfl); (exact fun _ => rfl); (exact fun r w hA hH => gexmul (pwE rho i) rho w)); ((with_reducible exact q1p); (exact rfl); (repeat (first | exact .inr (.inr (fun _ _ => by with_reducible rfl)) | (refine And.intro ?_ ?_) | exact .inr (.inl rfl) | exact .inl (by decide +kernel) | exact trivial | exact .inr (.inr (fun _ _ => rfl)))); (try dsimp only [Nat.reduceAdd])); intro r w4 E4 _; (refine Ls (q0r rfl rfl (by omega)) ?_); refine q5s (i := i) (l := xc (pwE rho i)) (q0o o6 E4) rfl rfl (by omega) rfl q1g hlt ?_; intro w5 o5 hg5 hs5; refine q0l (l := xc (pwE rho i * rho)) rfl rfl rfl q1g ((D7.ext E4).grown hg5 (by simp; omega)) rfl ?_; intro w6 D7' hg6 hs6; (refine q0c<|bn<|tn<|q0a<|Ls (q1b rfl rfl (by omega))<|m_I rfl<|q0c<|tn ?_); have o6' := q1i o5 hg6 (fun g hg e => by
          obtain rfl : k = g := Option.some.inj hg
          exact hqk (Option.some.inj e))
        refine ⟨s.R - (i + 1), by omega, i + 1, rfl, by omega, rfl, rfl, rfl, rfl, rfl, rfl, ((hE.trans E4).then hg5 (fun g h => by cases h; omega)).then hg6 (fun g h => by cases h; omega), D7', ?_⟩; rw [q9b _ _ _ hlt] at o6'; rw [show tabE s.R (fun j => if j < i + 1 then pwE rho j else 0) = tabE s.R fun j => if j = i then pwE rho i else if j < i then pwE rho j else 0 from q3o fun j _ => by
          by_cases e1 : j = i
          · rw [if_pos (by omega), if_pos e1, e1]
          · rw [if_neg e1]
            by_cases e2 : j < i
            · rw [if_pos e2, if_pos (by omega)]
            · rw [if_neg e2, if_neg (by omega)]]
        exact o6'
      · have hiR : i = s.R := (by omega); rw [hiR] at o6; have E0 := E12.trans hE; have D3 := B3.ext hE; have D2 := C2.ext hE; obtain ⟨x, hx⟩ : ∃ x : Value, x = .slice (if cp = s.c then Ap else Ap.map (·.add (s.c * 2))) (P.length - s.c) (cp - s.c) := ⟨_, rfl⟩; have hrx := fun y (E : Ext w y) => raw_drop (hp.ext E) rfl (i := s.c) (by omega); rw [← hx] at hrx; have hx1 : x.oneCell' = true := (by rw [hx]; rfl); (refine q1j<|te<|te<|bx<|tn<|q0b ?_); apply q1h 9 (by kernel_rfl); (apply DW_x (fun r w hA hH => (q0t rfl).trans rfl); apply DW_x (fun r w hA hH => (X_ld (cs := waC (.slice Ap P.length cp) (rho.a.val, rho.b.val) iv) rfl (D3.ext hA) rfl).trans rfl); apply DW_x (fun r w hA hH => (q0t rfl).trans rfl); apply DW_x (fun r w hA hH => (X_ld (cs := shC (s.R : Nat) (s.C : Nat) (s.B : Nat) (s.t : Nat)) rfl (D2.ext hA) rfl).trans rfl)); ((with_reducible apply q2c); (exact fun _ => rfl); (exact fun _ => rfl); (exact fun r w hA hH => gcpow ((s.C : Nat) : Int) (by omega) (by omega) w)); rw [hlc]; ((with_reducible apply DW_x); (exact fun r w hA hH => ((q5l (size := 2) (i := s.c) (j := P.length) rfl (by exact ⟨_, rfl⟩) (by exact rfl) (by omega) hcp).trans (by rw [← hx])).trans rfl)); ((with_reducible apply q5u); (exact fun _ => rfl); (exact fun _ => rfl); (exact fun r w hA hH => q2p hA (geqt pl ph x (P.drop s.c) (by rw [List.length_drop]; omega) w ((hw.ext E0).ext hA) (hrx w (E0.trans hA)))); (exact fun _ _ _ _ _ _ E h => OwnF.ext E h)); (apply DW_x (fun r w hA hH => (q0d (v := .slice _ _ _) rfl).trans rfl)); ((with_reducible apply DW_x); (exact fun r w hA hH => (q0j (v := r 6) rfl).trans rfl)); ((with_reducible exact q1p); (exact rfl); (repeat (first | exact .inr (.inr (fun _ _ => by with_reducible rfl)) | (refine And.intro ?_ ?_) | exact .inr (.inl rfl) | exact .inl (by decide +kernel) | exact trivial | exact .inr (.inr (fun _ _ => rfl)))); (try dsimp only [Nat.reduceAdd])); intro r w4 E4 H4; obtain ⟨bq, hbq, oq⟩ : OwnF wr 31 2 (r 6) (2 ^ (P.drop s.c).length) (exs (raw (Fd.eqT (P.drop s.c)))) w4 := H4 6; (refine a_S rfl<|q0c<|tn<|q0s ?_); refine q2v rfl rfl (v := r 6) (x := .slice _ _ _) rfl rfl ⟨r 6, _, rfl, E0.trans E4, ?_, ?_⟩
        · rw [List.length_drop, hP, show s.a + s.c - s.c = s.a by omega] at oq; exact q1m oq (by have := E0.size; omega)
        · have e : pws rho s.R = tabE s.R fun j => if j < s.R then pwE rho j else 0 := by
            show tabE s.R (pwE rho) = _; exact q3o fun j hj => by rw [if_pos hj]
          rw [e]; exact q0o o6 E4
end Go.Proofs.YtpohjepbmgeplaaGreatDoor
namespace Go.Proofs.YtpohjepbmgeplaaGreatDoor
open Go.RowKit Go.Proofs.K
open _root_.Fd (K E pw root trow tcol enc ccol comb q4k)
open _root_.Cm (Sh pws pwE rowH rndH q3e q3l lv)
def pxC (rv nv cv pv : Value) : List Value := [rv, nv, cv, pv]
theorem q3v {rv nv cv pv : Value} (h1 : rv.oneCell' = true) (h2 : nv.oneCell' = true) (h3 : cv.oneCell' = true) (h4 : pv.oneCell' = true) : ∀ v ∈ pxC rv nv cv pv, v.oneCell' = true := by
  intro v hv; rcases List.mem_cons.1 hv with rfl | hv
  · exact h1
  · rcases List.mem_cons.1 hv with rfl | hv
    · exact h2
    · rcases List.mem_cons.1 hv with rfl | hv
      · exact h3
      · rcases List.mem_cons.1 hv with rfl | hv
        · exact h4
        · cases hv
def toE (p : Nat × Nat) : E := ⟨Fd.k p.1, Fd.k p.2⟩
theorem z0x {P : List (Nat × Nat)} (h : ∀ x ∈ P, isE x) : raw (P.map toE) = P := by
  unfold raw; rw [List.map_map]; conv => rhs; rw [← List.map_id P]
  refine List.map_congr_left fun x hx => ?_; obtain ⟨h1, h2⟩ := h x hx; exact Prod.ext (Fd.k_of h1) (Fd.k_of h2)
theorem z2y {p : Nat × Nat} (h : isE p) : ((toE p).a.val, (toE p).b.val) = p := Prod.ext (Fd.k_of h.1) (Fd.k_of h.2)
def toI (I : List Int) : List Nat := I.map Int.toNat
theorem q5g (I : List Int) : (toI I).length = I.length := by unfold toI; simp
theorem q8e {I : List Int} (h : ∀ i ∈ I, 0 ≤ i) : I.map (Value.int .i64) = ints .i64 (toI I) := by
  unfold ints toI; rw [List.map_map]; refine List.map_congr_left fun i hi => ?_; have := h i hi; show Value.int .i64 i = .int .i64 ((i.toNat : Nat) : Int); rw [Int.toNat_of_nonneg this]
theorem toI_srt {I : List Int} (h : ∀ i ∈ I, 0 ≤ i) (hp : I.Pairwise (· < ·)) : (toI I).Pairwise (· < ·) := by
  unfold toI; rw [List.pairwise_map]; refine hp.imp_of_mem fun {a b} ha hb hab => ?_; have := h a ha; have := h b hb; omega
theorem toI_lt {I : List Int} {n : Nat} (h : ∀ i ∈ I, 0 ≤ i ∧ i < (n : Int)) : ∀ i ∈ toI I, i < n := by
  intro i hi; obtain ⟨x, hx, rfl⟩ := List.mem_map.1 hi; have := h x hx; omega
def by8 (l : List K) : List Nat := encB (vals l)
def z3e (t : List K) (s : Sh) : List (List Nat) := (List.range s.R).map fun r => vals (trow t s.C r)
theorem q6s (t : List K) (s : Sh) : (z3e t s).length = s.R := by unfold z3e; simp
theorem colM_rows (t : List K) (s : Sh) {j : Nat} (h : j < s.C) : colM (z3e t s) j = vals (tcol t s.R s.C j) := by
  unfold colM z3e tcol vals; rw [List.map_map, List.map_map]; refine List.map_congr_left fun r hr => ?_; show (((trow t s.C r).map fun x => x.val).getD j 0) = _; unfold Fd.trow; rw [List.map_map, Fd.rng_getD _ _ h]; rfl
theorem z3y (t : List K) (s : Sh) {j : Nat} (h : j < s.n) : colM (cws t s) j = vals (ccol t s.R s.C s.m j) := by
  unfold colM cws ccol vals; rw [List.map_map, List.map_map]; refine List.map_congr_left fun r hr => ?_; show (((enc (trow t s.C r) (s.c + s.b)).map fun x => x.val).getD j 0) = _; unfold Fd.enc; have h' : j < 2 ^ (s.c + s.b) := h; rw [List.map_map, Fd.rng_getD _ _ h']; rfl
theorem q8l (t : List K) (s : Sh) : ((List.range s.n).map fun j => encB (colM (cws t s) j)) = lv by8 t s := by
  unfold Cm.lv; refine List.map_congr_left fun j hj => ?_; rw [z3y t s (List.mem_range.1 hj)]; rfl
theorem q6e (t : List K) (s : Sh) : ∀ r ∈ cws t s, r.length = s.n := by
  intro r hr; obtain ⟨x, _, rfl⟩ := List.mem_map.1 hr; rw [q2a, Fd.enc_len]; rfl
theorem rowsM_row (t : List K) (s : Sh) : ∀ r ∈ z3e t s, r.length = s.C := by
  intro r hr; obtain ⟨x, _, rfl⟩ := List.mem_map.1 hr; rw [q2a, Fd.trow_len]
theorem lv_ok (t : List K) (s : Sh) (hR : s.R ≤ 65536) : ∀ b ∈ lv by8 t s, Sha.bytesOk b ∧ b.length ≤ 100000000 := by
  intro b hb; obtain ⟨j, _, rfl⟩ := List.mem_map.1 hb; refine ⟨encB_ok _, ?_⟩; show (encB (vals _)).length ≤ _; rw [z0m, q2a, Fd.ccol_len]; omega
set_option maxRecDepth 100000 in
set_option maxHeartbeats 4000000 in
theorem gcroot (lo hi : Nat) (v : Value) (t : List K) (ht : t.length ≤ 1000000) (R C B T : Int) (hR : I64 R) (hC : I64 C) (hB : I64 B) (hT : I64 T) (w : World) (hw : Tb w) (hr : Row w lo hi 1 v t.length (ints .u64 (vals t))) :
    Calls Tryz.prog 14 #[v, .agg (shC R C B T).toArray] w fun e w' => Ext w w' ∧ ((∃ s : Sh, s.Ok ∧ R = ((s.R : Nat) : Int) ∧ C = ((s.C : Nat) : Int) ∧ B = ((s.B : Nat) : Int) ∧ T = ((s.t : Nat) : Int) ∧ lgI (t.length : Nat) = ((s.a + s.c : Nat) : Int) ∧ e = .returned (.tuple #[.agg (ints .u8 (Cm.rt lf nd by8 t s)).toArray, .int .i64 0])) ∨ (¬ SOk R C B T (lgI (t.length : Nat)) ∧ e = .returned (.tuple #[.agg (ints .u8 (List.replicate 32 0)).toArray, .int .i64 1]))) := by
  have hv1 := q0g hr; refine q0i Tryz.func14 rfl Tryz.ntmps14 rfl ?_; (refine q0b<|q0a ?_); refine q1u rfl ?_; intro g3 w1 B3 hg3 E1 hs1; refine q0w ?_; intro g4 w2 B4 hg4 E2 hs2; have C3 := B3.ext E2; have E12 := E1.trans E2; (refine a_I rfl<|q0c<|tn<|q0b<|q0a<|Ls (q0d (v := v) rfl)<|Ls (q1e (cs := shC R C B T) rfl C3 rfl) ?_); refine L_fo (F := fun u w' => Ext w2 w' ∧ ((∃ s : Sh, s.Ok ∧ R = ((s.R : Nat) : Int) ∧ C = ((s.C : Nat) : Int) ∧ B = ((s.B : Nat) : Int) ∧ T = ((s.t : Nat) : Int) ∧ lgI (t.length : Nat) = ((s.a + s.c : Nat) : Int) ∧ t.length = s.R * s.C ∧ ∃ q, u = .tuple #[q, .int .i64 0] ∧ q1w (fun k => w2.heap.size ≤ k ∧ k < w'.heap.size) w' .u64 q (cws t s)) ∨ (¬ SOk R C B T (lgI (t.length : Nat)) ∧ u = .tuple #[.slice none 0 0, .int .i64 1]))) rfl ((q9m lo hi v t ht R C B T hR hC hB hT w2 (hw.ext E12) (hr.ext E12)).mono fun e w' ⟨h1, h2⟩ => by
    rcases h2 with ⟨s, q1, q2, q3, q4, q5, q6, q7, q, h3, h4⟩ | ⟨h2, h3⟩
    · exact ⟨_, h3, h1, .inl ⟨s, q1, q2, q3, q4, q5, q6, q7, q, rfl, h4⟩⟩
    · exact ⟨_, h3, h1, .inr ⟨h2, rfl⟩⟩) ?_
  rintro _ w3 ⟨E3, ⟨s, hs, hsR, hsC, hsB, hsT, hlog, hn, q, rfl, hq⟩ | ⟨hno, rfl⟩⟩
  · have hR16 : s.R ≤ 65536 := (q1a (a := s.a) (by have := hs.ac; omega)).2; have hR1 : 1 ≤ s.R := Nat.pow_pos (by decide); have hn16 : s.n ≤ 65536 := (q1a hs.cb).2; have hn1 : 1 ≤ s.n := Nat.pow_pos (by decide); obtain ⟨Aq, cq, rfl, _⟩ := hq.form; have D4 := B4.ext E3; (refine m_T rfl<|Ls (q0k rfl rfl)<|Ls (q0k rfl rfl)<|a_S rfl<|a_I rfl<|q0c<|tn<|q0b<|q0b<|q0a<|m_I rfl<|Ls (z4b rfl rfl)<|q0c<|tn ?_); refine q0x rfl ?_; (refine q0n<|tn<|q0b<|q0a<|m_S rfl ?_); refine L_fo rfl (gleaves _ _ (cws t s) s.n (q6e t s) (by rw [q3m]; exact hR1) (by rw [q3m]; exact hR16) hn16 w3 hq) ?_; rintro q4 w4 ⟨E4, P4⟩; rw [q8l] at P4; obtain ⟨A4, c4, rfl, _⟩ := P4.form; skip; refine L_fv rfl (gmroot _ _ (lv by8 t s) (by rw [Cm.lv_len]; exact hn1) (by rw [Cm.lv_len]; exact hn16) (lv_ok t s hR16) w4 (hw.ext (E12.trans (E3.trans E4))) P4) ?_; intro w5 E5; have hroot : (Mk.root lf nd (lv by8 t s)).length = 32 := (q3n _ (q3x _) (by rw [List.length_map, Cm.lv_len]; exact hn1)).1; (refine Ls (q0k rfl rfl)<|Ls (q0k rfl rfl) ?_); refine q0l (size := 32) (l := ints .u8 (Mk.root lf nd (lv by8 t s))) rfl rfl (by rw [q0m]; exact hroot) q0z (D4.ext (E4.trans E5)) rfl ?_; intro w8 B8 hg8 _; (refine a_I rfl<|q0c<|tn<|q0s ?_); refine q1c rfl rfl (Res.cellA inferInstance rfl (B8.range (fun j u h => by simpa using h)) (by rw [q0m]; exact hroot) (Res.tmp rfl .nil)) ?_; exact ⟨(E12.trans (E3.trans (E4.trans E5))).then hg8 (fun g h => by cases h; have := E1.size; omega), .inl ⟨s, hs, hsR, hsC, hsB, hsT, hlog, rfl⟩⟩
  · (refine m_T rfl<|Ls (q0k rfl rfl)<|Ls (q0k rfl rfl)<|a_S rfl<|a_I rfl<|q0c<|tn<|q0b<|q0b<|q0a<|m_I rfl<|Ls (z4b rfl rfl)<|q0c<|tn ?_); refine q1f rfl ?_; (refine q0b<|q0a ?_); refine Ls (q8u (len := 32) (z := [.int .u8 0])) ?_; (refine m_I rfl ?_); refine q0l (size := 32) (l := ints .u8 (List.replicate 32 0)) rfl rfl rfl q0z (B4.ext E3) rfl ?_; intro w8 B8 hg8 _; (refine a_I rfl<|q0c<|tn<|q0s<|tr ?_); refine q1c rfl rfl (Res.cellA inferInstance rfl (B8.range (fun j u h => by simpa using h)) rfl (Res.tmp rfl .nil)) ?_; exact ⟨(E12.trans E3).then hg8 (fun g h => by cases h; have := E1.size; omega), .inr ⟨hno, rfl⟩⟩
end Go.Proofs.YtpohjepbmgeplaaGreatDoor
