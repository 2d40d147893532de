/- E8, EA, EB, HJ, KY, HK, HL, HM, HN, HO, HP, HQ, HR, HS, HT, IA, IB, IC, ID, IE. -/
import Derived.Test.YtpohjepbmgeplaaGreatDoorQ3
import Derived.Test.YtpohjepbmgeplaaGreatDoorQ2
import Derived.Lib.ItoaNum
namespace Mk
variable (lf : List Nat → List Nat) (pr : List Nat → List Nat → List Nat)
def q8s (c : List (Nat × Nat)) (p : Nat × Nat) : Option Nat := c.findIdx? fun q => q.1 == p.1 && q.2 == p.2
def rref (c : List (Nat × Nat)) (ns : List (List Nat)) (idx : List Nat) (bs : List (List Nat)) : Nat → Nat → Nat → List Nat
  | 0, _, _ => []
  | f + 1, lo, hi => match q8s c (lo, hi) with
    | some i => ns.getD i []
    | none => bif Nat.ble (hi - lo) 1 then lf (bs.getD (idx.filter fun i => Nat.blt i lo).length []) else pr (rref c ns idx bs f lo (lo + spl (hi - lo))) (rref c ns idx bs f (lo + spl (hi - lo)) hi)
theorem cls_in : ∀ (f lo hi : Nat) (idx : List Nat), hi - lo < f → lo < hi → ∀ p ∈ cls lo hi idx, lo ≤ p.1 ∧ p.1 < p.2 ∧ p.2 ≤ hi
  | 0, _, _, _, h, _ => by omega
  | f + 1, lo, hi, idx, hf, hlo => by
    intro p hp; by_cases h0 : idx = []
    · subst h0; rw [q6f] at hp; simp at hp; rw [hp]; exact ⟨Nat.le_refl _, hlo, Nat.le_refl _⟩
    · by_cases h1 : hi - lo ≤ 1
      · rw [q5j h1 h0] at hp; cases hp
      · have h2 : 2 ≤ hi - lo := (by omega); have hs1 := q3h h2; have hs2 := q2q (hi - lo); rw [q5i h2 h0] at hp; rcases List.mem_append.1 hp with hp | hp
        · have := cls_in f _ _ _ (by omega) (by omega) p hp; omega
        · have := cls_in f _ _ _ (by omega) (by omega) p hp; omega
theorem z2l {c : List (Nat × Nat)} {p : Nat × Nat} (h : p ∉ c) : q8s c p = none := by
  unfold q8s; rw [List.findIdx?_eq_none_iff]; intro q hq; cases hb : (q.1 == p.1 && q.2 == p.2)
  · rfl
  · rw [Bool.and_eq_true, beq_iff_eq, beq_iff_eq] at hb; exact (h (by rw [show p = q from Prod.ext hb.1.symm hb.2.symm]; exact hq)).elim
theorem pos_some {a b : List (Nat × Nat)} {p : Nat × Nat} (h : p ∉ a) : q8s (a ++ p :: b) p = some a.length := by
  unfold q8s; rw [List.findIdx?_append]; have := z2l h; unfold q8s at this; rw [this]; simp [List.findIdx?_cons]
theorem z0q (lo hi : Nat) (hlo : lo < hi) : ∀ all : List Nat, (all.filter fun i => Nat.blt i hi).length = (all.filter fun i => Nat.blt i lo).length + (all.filter fun i => Nat.ble lo i && Nat.blt i hi).length
  | [] => rfl
  | i :: r => by
    have ih := z0q lo hi hlo r; rw [List.filter_cons (p := fun i => Nat.blt i hi), List.filter_cons (p := fun i => Nat.blt i lo), List.filter_cons (p := fun i => Nat.ble lo i && Nat.blt i hi)]; by_cases h1 : i < lo
    · have e1 : Nat.blt i lo = true := (by rw [Nat.blt_eq]; exact h1); have e2 : Nat.blt i hi = true := (by rw [Nat.blt_eq]; omega); have e3 : Nat.ble lo i = false := by
        cases hc : Nat.ble lo i
        · rfl
        · have := Nat.le_of_ble_eq_true hc; omega
      simp only [e1, e2, e3, Bool.false_and, Bool.false_eq_true, if_true, if_false, List.length_cons]; omega
    · have e1 : Nat.blt i lo = false := by
        cases hc : Nat.blt i lo
        · rfl
        · rw [Nat.blt_eq] at hc; omega
      have e3 : Nat.ble lo i = true := Nat.ble_eq_true_of_le (by omega); cases Nat.blt i hi <;> simp only [e1, e3, Bool.true_and, Bool.false_eq_true, if_true, if_false, List.length_cons] <;> omega
theorem rref_eq (c : List (Nat × Nat)) (ns : List (List Nat)) (all : List Nat) (bs : List (List Nat)) (hn : ns.length = c.length) :
    ∀ (f lo hi : Nat) (idx : List Nat) (a b : List (Nat × Nat)), hi - lo < f → lo < hi → c = a ++ cls lo hi idx ++ b → (∀ p ∈ a, p.2 ≤ lo ∧ p.1 < p.2) → (∀ p ∈ b, hi ≤ p.1 ∧ p.1 < p.2) →
      idx = (all.filter fun i => Nat.ble lo i && Nat.blt i hi) → all.Pairwise (· < ·) → bs.length = all.length →
      reb lf pr f lo hi idx (ns.drop a.length) (bs.drop (all.filter fun i => Nat.blt i lo).length) =
        (rref lf pr c ns all bs f lo hi, ns.drop (a.length + (cls lo hi idx).length), bs.drop (all.filter fun i => Nat.blt i hi).length, true)
  | 0, _, _, _, _, _, h, _, _, _, _, _, _, _ => by omega
  | f + 1, lo, hi, idx, a, b, hf, hlo, hc, ha, hb, hidx, hall, hbl => by
    have hna : (lo, hi) ∉ a := fun h => (by have := ha _ h; dsimp only at this; omega); have hnb : (lo, hi) ∉ b := fun h => (by have := hb _ h; dsimp only at this; omega)
    -- the leaves below hi are those below lo and idx
    have hcount : (all.filter fun i => Nat.blt i hi).length = (all.filter fun i => Nat.blt i lo).length + idx.length := by
      rw [hidx]; exact z0q lo hi hlo all
    by_cases h0 : idx = []
    · have hcl : cls lo hi idx = [(lo, hi)] := (by rw [h0, q6f]); have hpos : q8s c (lo, hi) = some a.length := by
        rw [hc, hcl, List.append_assoc]; exact pos_some hna
      have hlen : a.length < ns.length := (by rw [hn, hc, hcl]; simp); rw [hcount, hcl, h0]; obtain ⟨d, hd⟩ : ∃ d, ns.drop a.length = d :: ns.drop (a.length + 1) := ⟨ns[a.length], List.drop_eq_getElem_cons hlen⟩; have hg : ns.getD a.length [] = d := by
        have := congrArg List.head? hd; rw [List.head?_drop] at this; rw [List.getD_eq_getElem?_getD, this]; rfl
      rw [q8n, hd]; show (d, ns.drop (a.length + 1), _, true) = (rref lf pr c ns all bs (f + 1) lo hi, _, _, true); have : rref lf pr c ns all bs (f + 1) lo hi = d := by
        show (match q8s c (lo, hi) with | some i => ns.getD i [] | none => _) = d; rw [hpos]; exact hg
      rw [this]; rfl
    · by_cases h1 : hi - lo ≤ 1
      · have hcl := q5j h1 h0; have hpos : q8s c (lo, hi) = none := z2l (by rw [hc, hcl]; simp [hna, hnb]); have hl1 : idx.length = 1 := by
          have hin : ∀ i ∈ idx, i = lo := fun i hi' => by
            rw [hidx] at hi'; have := (List.mem_filter.1 hi').2; rw [Bool.and_eq_true, Nat.blt_eq] at this; have := Nat.le_of_ble_eq_true this.1; omega
          have hp : idx.Pairwise (· < ·) := (by rw [hidx]; exact hall.filter _); match idx, h0, hin, hp with
          | [_], _, _, _ => rfl
          | i :: j :: r, _, hin, hp =>
            have := (List.pairwise_cons.1 hp).1 j (by simp); have := hin i (by simp); have := hin j (by simp); omega
        rw [q8m lf pr h1 h0, hcl, hcount, hl1]; have : rref lf pr c ns all bs (f + 1) lo hi = lf (bs.getD (all.filter fun i => Nat.blt i lo).length []) := by
          show (match q8s c (lo, hi) with | some i => ns.getD i [] | none => _) = _; rw [hpos]; show (bif Nat.ble (hi - lo) 1 then _ else _) = _; rw [Nat.ble_eq_true_of_le h1]; rfl
        rw [this, List.tail_drop]; congr 2; rw [List.headD_eq_head?_getD, List.head?_drop, List.getD_eq_getElem?_getD]
      · have h2 : 2 ≤ hi - lo := (by omega); have hs1 := q3h h2; have hs2 := q2q (hi - lo); obtain ⟨k, hk⟩ : ∃ k, k = lo + spl (hi - lo) := ⟨_, rfl⟩; have hcl := q5i h2 h0; have hA : (idx.filter fun i => Nat.blt i k) = all.filter fun i => Nat.ble lo i && Nat.blt i k := by
          rw [hidx, List.filter_filter]; refine List.filter_congr fun i _ => ?_; rw [Bool.eq_iff_iff]; simp only [Bool.and_eq_true, Nat.blt_eq, Nat.ble_eq]; omega
        have hB : (idx.filter fun i => Nat.ble k i) = all.filter fun i => Nat.ble k i && Nat.blt i hi := by
          rw [hidx, List.filter_filter]; refine List.filter_congr fun i _ => ?_; rw [Bool.eq_iff_iff]; simp only [Bool.and_eq_true, Nat.blt_eq, Nat.ble_eq]; omega
        rw [← hk] at hcl; obtain ⟨cA, hcA⟩ : ∃ cA, cA = cls lo k (idx.filter fun i => Nat.blt i k) := ⟨_, rfl⟩; obtain ⟨cB, hcB⟩ : ∃ cB, cB = cls k hi (idx.filter fun i => Nat.ble k i) := ⟨_, rfl⟩; have inA := cls_in f lo k (idx.filter fun i => Nat.blt i k) (by omega) (by omega); have inB := cls_in f k hi (idx.filter fun i => Nat.ble k i) (by omega) (by omega); rw [← hcA] at inA; rw [← hcB] at inB; have hpos : q8s c (lo, hi) = none := z2l (by
          rw [hc, hcl, ← hcA, ← hcB]
          simp only [List.mem_append, not_or]
          refine ⟨⟨hna, fun h => ?_, fun h => ?_⟩, hnb⟩
          · have := inA _ h; dsimp only at this; omega
          · have := inB _ h; dsimp only at this; omega)
        have ihA := rref_eq c ns all bs hn f lo k (idx.filter fun i => Nat.blt i k) a (cB ++ b) (by omega) (by omega) (by rw [hc, hcl, ← hcB, ← hcA]; simp) ha (fun p hp => by
          rcases List.mem_append.1 hp with hp | hp
          · have := inB p hp; omega
          · have := hb p hp; omega) hA hall hbl
        have ihB := rref_eq c ns all bs hn f k hi (idx.filter fun i => Nat.ble k i) (a ++ cA) b (by omega) (by omega) (by rw [hc, hcl, ← hcB, ← hcA]; simp) (fun p hp => by
          rcases List.mem_append.1 hp with hp | hp
          · have := ha p hp; omega
          · have := inA p hp; omega) hb hB hall hbl
        rw [List.length_append] at ihB; rw [← hcA] at ihA; rw [q8l lf pr h2 h0, ← hk]; simp only [ihA, ihB]; have : rref lf pr c ns all bs (f + 1) lo hi = pr (rref lf pr c ns all bs f lo k) (rref lf pr c ns all bs f k hi) := by
          show (match q8s c (lo, hi) with | some i => ns.getD i [] | none => _) = _; rw [hpos]; show (bif Nat.ble (hi - lo) 1 then _ else _) = _; have hb1 : Nat.ble (hi - lo) 1 = false := by
            cases hb1 : Nat.ble (hi - lo) 1
            · rfl
            · exact (h1 (Nat.le_of_ble_eq_true hb1)).elim
          rw [hb1, ← hk]; rfl
        rw [this, hcl, List.length_append, ← hcA, ← hcB, Nat.add_assoc]; rfl
end Mk
namespace Fd
theorem es_mulr (c : E) (f : Nat → E) (n : Nat) : es n (fun i => f i * c) = es n f * c := by
  rw [E.mul_comm (es n f) c, ← es_mul]; exact q3f n fun i _ => E.mul_comm _ _
theorem of_sm (f : Nat → K) : ∀ n, E.of (sm n f) = es n fun i => E.of (f i)
  | 0 => rfl
  | n + 1 => by
    show E.of (sm n f + f n) = es n _ + E.of (f n); rw [E.of_add, of_sm f n]
theorem es_prod (f : Nat → E) (C : Nat) : ∀ R, es (C * R) f = es R fun r => es C fun c => f (c + C * r)
  | 0 => rfl
  | R + 1 => by
    rw [Nat.mul_succ, es_split, es_prod f C R]; show _ = es R _ + es C fun c => f (c + C * R); congr 1; exact q3f C fun c _ => by rw [Nat.add_comm]
theorem eqI_app : ∀ (p q : List E) (i : Nat), eqI (p ++ q) i = eqI p i * eqI q (i / 2 ^ p.length)
  | [], q, i => by
    show eqI q i = 1 * eqI q (i / 1); rw [E.one_mul, Nat.div_one]
  | x :: p, q, i => by
    show (bif i % 2 == 1 then x else 1 - x) * eqI (p ++ q) (i / 2) = (bif i % 2 == 1 then x else 1 - x) * eqI p (i / 2) * eqI q (i / 2 ^ (p.length + 1)); rw [eqI_app p q (i / 2), E.mul_assoc, Nat.div_div_eq_div_mul, Nat.pow_succ, Nat.mul_comm (2 ^ p.length) 2]
theorem eqI_two (p q : List E) {c : Nat} (r : Nat) (hc : c < 2 ^ p.length) : eqI (p ++ q) (c + 2 ^ p.length * r) = eqI p c * eqI q r := by
  rw [eqI_app, eqI_mod, Nat.add_mul_div_left _ _ (Nat.pow_pos (by decide)), Nat.div_eq_of_lt hc, Nat.zero_add]
def trow (t : List K) (C r : Nat) : List K := (List.range C).map fun c => t.getD (c + C * r) 0
def tcol (t : List K) (R C c : Nat) : List K := (List.range R).map fun r => t.getD (c + C * r) 0
def q4f (w : List E) (t : List K) (R C : Nat) : List E := (List.range C).map fun c => comb w (tcol t R C c)
def ccol (t : List K) (R C m j : Nat) : List K := (List.range R).map fun r => sym (trow t C r) m j
theorem rng_getD {α : Type} (g : Nat → α) (d : α) {n i : Nat} (h : i < n) : ((List.range n).map g).getD i d = g i := by
  rw [List.getD_eq_getElem?_getD, List.getElem?_map, List.getElem?_range h]; rfl
theorem trow_len (t : List K) (C r : Nat) : (trow t C r).length = C := by unfold trow; simp
theorem tcol_len (t : List K) (R C c : Nat) : (tcol t R C c).length = R := by unfold tcol; simp
theorem combR_len (w : List E) (t : List K) (R C : Nat) : (q4f w t R C).length = C := by unfold q4f; simp
theorem ccol_len (t : List K) (R C m j : Nat) : (ccol t R C m j).length = R := by unfold ccol; simp
theorem combR_get (w : List E) (t : List K) (R C : Nat) {c : Nat} (h : c < C) : (q4f w t R C).getD c 0 = comb w (tcol t R C c) := rng_getD _ _ h
theorem comb_tcol (w : List E) (t : List K) (R C c : Nat) : comb w (tcol t R C c) = es R fun r => w.getD r 0 * E.of (t.getD (c + C * r) 0) := by
  unfold comb; rw [tcol_len]; exact q3f R fun r hr => by unfold tcol; rw [rng_getD _ _ hr]
theorem comb_code (w : List E) (t : List K) (R C m j : Nat) : ev (q4f w t R C) (pw (root m) j) = comb w (ccol t R C m j) := by
  rw [ev_es, combR_len]; have h1 : (es C fun c => (q4f w t R C).getD c 0 * E.of (pw (pw (root m) j) c)) = es C fun c => es R fun r => w.getD r 0 * E.of (t.getD (c + C * r) 0) * E.of (pw (pw (root m) j) c) :=
    q3f C fun c hc => by rw [combR_get _ _ _ _ hc, comb_tcol, ← es_mulr]
  rw [h1, es_swap]; unfold comb; rw [ccol_len]; refine q3f R fun r hr => ?_; unfold ccol; rw [rng_getD _ _ hr]; unfold sym; rw [evK_sm, trow_len, of_sm, ← es_mul]; refine q3f C fun c hc => ?_; unfold trow; rw [rng_getD _ _ hc, E.of_mul, E.mul_assoc]
theorem comb_mle (t : List K) (p : List E) {R C b : Nat} (hb : b ≤ p.length) (hC : C = 2 ^ b) (hR : R = 2 ^ (p.length - b)) (ht : t.length = R * C) :
    mleS (q4f (eqT (p.drop b)) t R C) (p.take b) = mleS (t.map E.of) p := by
  unfold mleS; rw [combR_len, List.length_map, ht, Nat.mul_comm R C, es_prod]; have h1 : (es C fun c => (q4f (eqT (p.drop b)) t R C).getD c 0 * eqI (p.take b) c) = es C fun c => es R fun r => (eqT (p.drop b)).getD r 0 * E.of (t.getD (c + C * r) 0) * eqI (p.take b) c :=
    q3f C fun c hc => by rw [combR_get _ _ _ _ hc, comb_tcol, ← es_mulr]
  rw [h1, es_swap]; refine q3f R fun r hr => q3f C fun c hc => ?_; have hl : (p.take b).length = b := by rw [List.length_take]; omega
  have h2 := eqI_two (p.take b) (p.drop b) (c := c) r (by rw [hl, ← hC]; exact hc); rw [List.take_append_drop, hl, ← hC] at h2; rw [h2, List.getD_eq_getElem?_getD, eqT_get _ (by rw [List.length_drop, ← hR]; exact hr)]; have hin : c + C * r < t.length := by
    rw [ht]; have : C * r + C ≤ R * C := (by rw [← Nat.mul_succ, Nat.mul_comm]; exact Nat.mul_le_mul_right _ hr); omega
  rw [List.getD_eq_getElem?_getD (l := t.map E.of), List.getElem?_map, List.getElem?_eq_getElem hin, List.getD_eq_getElem?_getD, List.getElem?_eq_getElem hin]; show eqI (p.drop b) r * E.of t[c + C * r] * eqI (p.take b) c = E.of t[c + C * r] * (eqI (p.take b) c * eqI (p.drop b) r); generalize eqI (p.drop b) r = x; generalize eqI (p.take b) c = y; generalize E.of t[c + C * r] = z; (apply E.eq <;> simp only [E.defs] <;> grind)
theorem apart_of {m : Nat} (hm : m ≤ 32) : ∀ l : List Nat, l.Pairwise (· < ·) → (∀ i ∈ l, i < 2 ^ m) → Apart (l.map (pw (root m)))
  | [], _, _ => trivial
  | i :: l, hp, h => by
    obtain ⟨h1, h2⟩ := List.pairwise_cons.1 hp; refine ⟨fun y hy => ?_, apart_of hm l h2 fun j hj => h j (by simp [hj])⟩; obtain ⟨j, hj, rfl⟩ := List.mem_map.1 hy; obtain ⟨u, hu⟩ := diff_unit hm (h1 j hj) (h j (by simp [hj])); exact ⟨-u, by rw [← hu]; grind⟩
theorem few_zeros {m : Nat} (hm : m ≤ 32) (d : List E) (I : List Nat) (hp : I.Pairwise (· < ·)) (hI : ∀ i ∈ I, i < 2 ^ m ∧ ev d (pw (root m) i) = 0) (hl : d.length ≤ I.length) : ∀ c ∈ d, c = 0 :=
  ev_zero (I.map (pw (root m))) d (apart_of hm I hp fun i hi => (hI i hi).1) (by rw [List.length_map]; exact hl) fun p hp => by
    obtain ⟨i, hi, rfl⟩ := List.mem_map.1 hp; exact (hI i hi).2
end Fd
namespace Mk
variable (lf : List Nat → List Nat) (pr : List Nat → List Nat → List Nat)
theorem reb_len : ∀ (f lo hi : Nat) (idx : List Nat) (ns bs : List (List Nat)), hi - lo < f → lo < hi →
    (reb lf pr f lo hi idx ns bs).2.1 = ns.drop (cls lo hi idx).length ∧ ((reb lf pr f lo hi idx ns bs).2.2.2 = true ↔ (cls lo hi idx).length ≤ ns.length)
  | 0, _, _, _, _, _, h, _ => by omega
  | f + 1, lo, hi, idx, ns, bs, hf, hlo => by
    by_cases h0 : idx = []
    · subst h0; rw [q6f, q8n]; cases ns with
      | nil => simp
      | cons d r => simp
    · by_cases h1 : hi - lo ≤ 1
      · rw [q8m lf pr h1 h0, q5j h1 h0]; simp
      · have h2 : 2 ≤ hi - lo := (by omega); have hs1 := q3h h2; have hs2 := q2q (hi - lo); rw [q8l lf pr h2 h0, q5i h2 h0]; obtain ⟨a1, a2⟩ := reb_len f lo (lo + spl (hi - lo)) (idx.filter fun i => Nat.blt i (lo + spl (hi - lo))) ns bs (by omega) (by omega); generalize ha : reb lf pr f lo (lo + spl (hi - lo)) (idx.filter fun i => Nat.blt i (lo + spl (hi - lo))) ns bs = a at a1 a2; obtain ⟨b1, b2⟩ := reb_len f (lo + spl (hi - lo)) hi (idx.filter fun i => Nat.ble (lo + spl (hi - lo)) i) a.2.1 a.2.2.1 (by omega) (by omega); generalize hb : reb lf pr f (lo + spl (hi - lo)) hi (idx.filter fun i => Nat.ble (lo + spl (hi - lo)) i) a.2.1 a.2.2.1 = b at b1 b2; dsimp only; rw [hb, List.length_append]; refine ⟨by rw [b1, a1, List.drop_drop], ?_⟩; rw [Bool.and_eq_true, a2, b2, a1, List.length_drop]; omega
def okP (n : Nat) (idx : List Nat) (bs ns : List (List Nat)) (rt : List Nat) : Prop :=
  (reb lf pr (n + 1) 0 n idx ns bs).2.1 = [] ∧ (reb lf pr (n + 1) 0 n idx ns bs).2.2.2 = true ∧ (reb lf pr (n + 1) 0 n idx ns bs).1 = rt
def okR (n : Nat) (idx : List Nat) (bs ns : List (List Nat)) (rt : List Nat) : Prop :=
  ns.length = (cls 0 n idx).length ∧ rref lf pr (cls 0 n idx) ns idx bs (n + 1) 0 n = rt
theorem filt_all {idx : List Nat} {n : Nat} (hi : ∀ i ∈ idx, i < n) : (idx.filter fun i => Nat.ble 0 i && Nat.blt i n) = idx :=
  List.filter_eq_self.2 fun i h => by
    rw [Bool.and_eq_true, Nat.blt_eq]; exact ⟨Nat.ble_eq_true_of_le (Nat.zero_le _), hi i h⟩
theorem ok_iff {n : Nat} (hn : 0 < n) {idx : List Nat} (hi : ∀ i ∈ idx, i < n) (hp : idx.Pairwise (· < ·)) (bs ns : List (List Nat)) (hb : bs.length = idx.length) (rt : List Nat) : okP lf pr n idx bs ns rt ↔ okR lf pr n idx bs ns rt := by
  obtain ⟨h1, h2⟩ := reb_len lf pr (n + 1) 0 n idx ns bs (by omega) hn; unfold okP okR; rw [h1, h2, List.drop_eq_nil_iff]; by_cases he : ns.length = (cls 0 n idx).length
  · have h3 := rref_eq lf pr (cls 0 n idx) ns idx bs he (n + 1) 0 n idx [] [] (by omega) hn (by simp) (fun _ h => by cases h) (fun _ h => by cases h) (filt_all hi).symm hp hb; have h4 : (idx.filter fun i => Nat.blt i 0) = [] := List.filter_eq_nil_iff.2 fun i _ => (by rw [Nat.blt_eq]; omega); rw [h4, List.length_nil, List.length_nil, List.drop_zero, List.drop_zero] at h3; rw [h3]; exact ⟨fun h => ⟨he, h.2.2⟩, fun h => ⟨by omega, by omega, h.2⟩⟩
  · exact ⟨fun h => absurd (Nat.le_antisymm h.1 h.2.1) he, fun h => absurd h.1 he⟩
theorem ok_honest (l : List (List Nat)) (hl : 0 < l.length) {idx : List Nat} (hi : ∀ i ∈ idx, i < l.length) (hp : idx.Pairwise (· < ·)) : okP lf pr l.length idx (idx.map fun i => l.getD i []) (opening lf pr l idx) (root lf pr l) := by
  have h := q8o lf pr l (l.length + 1) 0 l.length idx [] [] (by omega) hl (Nat.le_refl _) (fun i h => ⟨Nat.zero_le _, hi i h⟩) hp; rw [List.append_nil, List.append_nil] at h; have e : ((hashes lf l).drop 0).take (l.length - 0) = hashes lf l := by
    rw [List.drop_zero, Nat.sub_zero, List.take_of_length_le (by unfold hashes; rw [List.length_map]; exact Nat.le_refl _)]
  rw [e] at h; unfold okP opening; rw [h]; exact ⟨rfl, rfl, rfl⟩
end Mk
namespace Cm
open Fd
structure Sh where
  a : Nat
  c : Nat
  b : Nat
  t : Nat
structure Sh.Ok (s : Sh) : Prop where
  ac : s.a + s.c ≤ 16
  b1 : 1 ≤ s.b
  b4 : s.b ≤ 4
  cb : s.c + s.b ≤ 16
  t1 : 1 ≤ s.t
  t64 : s.t ≤ 64
  tn : s.t ≤ 2 ^ (s.c + s.b)
def Sh.R (s : Sh) : Nat := 2 ^ s.a
def Sh.C (s : Sh) : Nat := 2 ^ s.c
def Sh.B (s : Sh) : Nat := 2 ^ s.b
def Sh.m (s : Sh) : Nat := s.c + s.b
def Sh.n (s : Sh) : Nat := 2 ^ (s.c + s.b)
theorem Sh.BC (s : Sh) : s.B * s.C = s.n := by unfold Sh.B Sh.C Sh.n; rw [← Nat.pow_add, Nat.add_comm]
theorem Sh.RC (s : Sh) : s.R * s.C = 2 ^ (s.a + s.c) := by unfold Sh.R Sh.C; rw [← Nat.pow_add]
def pwE (x : E) : Nat → E
  | 0 => 1
  | n + 1 => pwE x n * x
def pws (x : E) (n : Nat) : List E := (List.range n).map (pwE x)
variable (lf : List Nat → List Nat) (pr : List Nat → List Nat → List Nat) (by8 : List K → List Nat)
def lv (t : List K) (s : Sh) : List (List Nat) := (List.range s.n).map fun j => by8 (ccol t s.R s.C s.m j)
def rt (t : List K) (s : Sh) : List Nat := Mk.root lf pr (lv by8 t s)
theorem lv_len (t : List K) (s : Sh) : (lv by8 t s).length = s.n := by unfold lv; simp
theorem lv_get (t : List K) (s : Sh) {j : Nat} (h : j < s.n) : (lv by8 t s).getD j [] = by8 (ccol t s.R s.C s.m j) := rng_getD _ _ h
def colOk (s : Sh) (I : List Nat) (P : List E) (rho : E) (row rnd : List E) (cols : List (List K)) : Prop :=
  ∀ i, i < I.length → ev row (pw (root s.m) (I.getD i 0)) = comb (eqT (P.drop s.c)) (cols.getD i []) ∧ ev rnd (pw (root s.m) (I.getD i 0)) = comb (pws rho s.R) (cols.getD i [])
instance (s : Sh) (I : List Nat) (P : List E) (rho : E) (row rnd : List E) (cols : List (List K)) : Decidable (colOk s I P rho row rnd cols) := by unfold colOk; exact Nat.decidableBallLT _ _
instance (n : Nat) (I : List Nat) (bs ns : List (List Nat)) (r : List Nat) : Decidable (Mk.okR lf pr n I bs ns r) := by unfold Mk.okR; exact inferInstance
def verC (s : Sh) (r : List Nat) (I : List Nat) (P : List E) (rho v : E) (row rnd : List E) (cols : List (List K)) (ns : List (List Nat)) : Nat :=
  if Mk.okR lf pr s.n I (cols.map by8) ns r then if colOk s I P rho row rnd cols then if mleS row (P.take s.c) = v then 0 else 111 else 110 else 80
def rowH (t : List K) (s : Sh) (P : List E) : List E := q4f (eqT (P.drop s.c)) t s.R s.C
def rndH (t : List K) (s : Sh) (rho : E) : List E := q4f (pws rho s.R) t s.R s.C
def q2f (t : List K) (s : Sh) (I : List Nat) : List (List K) := I.map (ccol t s.R s.C s.m)
def q2x (t : List K) (s : Sh) (I : List Nat) : List (List Nat) := Mk.opening lf pr (lv by8 t s) I
theorem colsH_get (t : List K) (s : Sh) (I : List Nat) {i : Nat} (h : i < I.length) : (q2f t s I).getD i [] = ccol t s.R s.C s.m (I.getD i 0) := by
  unfold q2f; rw [List.getD_eq_getElem?_getD, List.getElem?_map, List.getElem?_eq_getElem h, List.getD_eq_getElem?_getD, List.getElem?_eq_getElem h]; rfl
theorem path_honest (t : List K) (s : Sh) {I : List Nat} (hI : ∀ i ∈ I, i < s.n) (hp : I.Pairwise (· < ·)) : Mk.okR lf pr s.n I ((q2f t s I).map by8) (q2x lf pr by8 t s I) (rt lf pr by8 t s) := by
  have hn : 0 < s.n := Nat.pow_pos (by decide); have h := Mk.ok_honest lf pr (lv by8 t s) (by rw [lv_len]; exact hn) (idx := I) (by rw [lv_len]; exact hI) hp; rw [lv_len] at h; have e : (I.map fun i => (lv by8 t s).getD i []) = (q2f t s I).map by8 := by
    unfold q2f; rw [List.map_map]; exact List.map_congr_left fun i hi => lv_get by8 t s (hI i hi)
  rw [e] at h; exact (Mk.ok_iff lf pr hn hI hp _ _ (by unfold q2f; simp) _).1 h
theorem row_ok (t : List K) (s : Sh) (P : List E) (j : Nat) : ev (rowH t s P) (pw (root s.m) j) = comb (eqT (P.drop s.c)) (ccol t s.R s.C s.m j) := comb_code _ _ _ _ _ _
theorem rnd_ok (t : List K) (s : Sh) (rho : E) (j : Nat) : ev (rndH t s rho) (pw (root s.m) j) = comb (pws rho s.R) (ccol t s.R s.C s.m j) := comb_code _ _ _ _ _ _
theorem col_honest (t : List K) (s : Sh) (I : List Nat) (P : List E) (rho : E) : colOk s I P rho (rowH t s P) (rndH t s rho) (q2f t s I) := by
  intro i hi; rw [colsH_get t s I hi]; exact ⟨row_ok t s P _, rnd_ok t s rho _⟩
theorem val_honest (t : List K) (s : Sh) {P : List E} (hP : P.length = s.a + s.c) (ht : t.length = s.R * s.C) : mleS (rowH t s P) (P.take s.c) = mleS (t.map E.of) P :=
  comb_mle t P (by omega) rfl (by unfold Sh.R; rw [hP]; congr 1; omega) ht
theorem ver_honest (t : List K) (s : Sh) {I : List Nat} (hI : ∀ i ∈ I, i < s.n) (hp : I.Pairwise (· < ·)) (P : List E) (rho v : E) (row rnd : List E) :
    verC lf pr by8 s (rt lf pr by8 t s) I P rho v row rnd (q2f t s I) (q2x lf pr by8 t s I) = if colOk s I P rho row rnd (q2f t s I) then if mleS row (P.take s.c) = v then 0 else 111 else 110 := by
  unfold verC; rw [if_pos (path_honest lf pr by8 t s hI hp)]
theorem ver_complete (t : List K) (s : Sh) {I : List Nat} (hI : ∀ i ∈ I, i < s.n) (hp : I.Pairwise (· < ·)) {P : List E} (hP : P.length = s.a + s.c) (ht : t.length = s.R * s.C) (rho v : E) :
    verC lf pr by8 s (rt lf pr by8 t s) I P rho v (rowH t s P) (rndH t s rho) (q2f t s I) (q2x lf pr by8 t s I) = if mleS (t.map E.of) P = v then 0 else 111 := by
  rw [ver_honest lf pr by8 t s hI hp, if_pos (col_honest t s I P rho), val_honest t s hP ht]
end Cm
namespace Go.Proofs.YtpohjepbmgeplaaGreatDoor
open Go.RowKit Go.Proofs.K
open _root_.Mk (spl q2q q3h tree q7k q6p)
theorem z1s {x : Nat} (h0 : x ≠ 0) (h : x < 2 ^ 64) : Lib.bitLen x = Nat.log2 x + 1 := by
  obtain ⟨h1, h2, h3⟩ := Lib.bitLenAux_bounds 64 x h h0; have : Nat.log2 x = Lib.bitLenAux 64 x - 1 := (Nat.log2_eq_iff h0).2 ⟨h2, by rw [show Lib.bitLenAux 64 x - 1 + 1 = Lib.bitLenAux 64 x by omega]; exact h3⟩; unfold Lib.bitLen; omega
theorem gsplit {n : Nat} (h2 : 2 ≤ n) (hn : n ≤ 65536) (w : World) :
    Calls Tryz.prog 157 #[.int .i64 (n : Nat)] w fun e w' => e = .returned (.int .i64 ((spl n : Nat) : Int)) ∧ Ext w w' := by
  refine q0j Tryz.func157 rfl Tryz.ntmps157 rfl ?_; have hlt := q3h h2; have hlog : Nat.log2 (n - 1) < 62 := (Nat.log2_lt (by omega)).2 (Nat.lt_of_lt_of_le (show n - 1 < 2 ^ 16 by omega) (Nat.pow_le_pow_right (by decide) (by decide))); (refine q0b<|q0a<|a_I rfl<|q0c<|tn<|q0b<|q0a<|m_I rfl<|Ls (q2j rfl rfl (by omega))<|Ls (q2v rfl) ?_); rw [show IntKind.u64.wrap ((n : Int) - 1) = ((n - 1 : Nat) : Int) by rw [IntKind.wrap_u64]; omega]; refine L_fv rfl ((Tryz.bits_Len ((n - 1 : Nat) : Int) w (by omega) (by omega)).mono fun _ _ q => ⟨q.1, q.2 ▸ Ext.refl _⟩) ?_; intro w1 E1; rw [Int.toNat_natCast, z1s (by omega) (by omega)]; (refine Ls (q2j rfl rfl (by omega))<|Ls (q6h rfl rfl (by omega))<|a_I rfl<|q0c<|tn<|q0s ?_); rw [show (((Nat.log2 (n - 1) + 1 : Nat) : Int) - 1) = ((Nat.log2 (n - 1) : Nat) : Int) by omega]; skip; refine q0e rfl rfl (v := .int _ _) rfl ⟨?_, E1⟩; rw [q8j (by omega)]; rfl
def dgs (l : List (List Nat)) : List Value := (l.map (ints .u8)).flatten
def DgOk (l : List (List Nat)) : Prop := ∀ d ∈ l, d.length = 32 ∧ Sha.bytesOk d
theorem z0o {l : List (List Nat)} (h : DgOk l) : (dgs l).length = l.length * 32 := by
  unfold dgs; induction l with
  | nil => rfl
  | cons d l ih =>
    rw [List.map_cons, List.flatten_cons, List.length_append, ih fun x hx => h x (by simp [hx]), q0n, (h d (by simp)).1, List.length_cons]; omega
theorem z2x (a b : List (List Nat)) : dgs (a ++ b) = dgs a ++ dgs b := by unfold dgs; rw [List.map_append, List.flatten_append]
theorem dgs_one (d : List Nat) : dgs [d] = ints .u8 d := by unfold dgs; simp
theorem DgOk.take {l : List (List Nat)} (h : DgOk l) (k : Nat) : DgOk (l.take k) := fun d hd => h d (List.mem_of_mem_take hd)
theorem DgOk.drop {l : List (List Nat)} (h : DgOk l) (k : Nat) : DgOk (l.drop k) := fun d hd => h d (List.mem_of_mem_drop hd)
theorem z2w {l : List (List Nat)} (h : DgOk l) {k : Nat} (hk : k ≤ l.length) : dgs l = dgs (l.take k) ++ dgs (l.drop k) ∧ (dgs (l.take k)).length = k * 32 := by
  refine ⟨by rw [← z2x, List.take_append_drop], ?_⟩; rw [z0o (h.take k), List.length_take, Nat.min_eq_left hk]
theorem z0f {w : World} {b o j : Nat} {xs ys : List Value} (h : w.rangeAt b o xs) (hy : ∀ i u, ys[i]? = some u → xs[j + i]? = some u) : w.rangeAt b (o + j) ys := by
  intro i u hu; have := h (j + i) u (hy i u hu); rwa [← Nat.add_assoc] at this
theorem z2v {w : World} {lo hi b o m c : Nat} {l : List (List Nat)} (h : DgOk l) (hl : l.length = m) (hb : lo ≤ b ∧ b < hi) (hR : w.rangeAt b o (dgs l)) (hmc : m ≤ c) (hc : c ≤ maxLen) (i j c' : Nat) (hij : i ≤ j) (hj : j ≤ m) (hc' : j - i ≤ c' ∧ c' ≤ maxLen) :
    Row w lo hi 32 (.slice (some ⟨b, o + i * 32, none⟩) (j - i) c') (j - i) (dgs ((l.drop i).take (j - i))) := by
  have hlen : ((l.drop i).take (j - i)).length = j - i := by rw [List.length_take, List.length_drop]; omega
  refine ⟨by rw [z0o ((h.drop i).take _), hlen], _, c', rfl, hc'.1, hc'.2, fun _ => ⟨b, _, rfl, hb.1, hb.2, z0f hR fun q u hu => ?_⟩⟩; obtain ⟨h1, h2⟩ := z2w h (k := i) (by omega); obtain ⟨h3, h4⟩ := z2w (h.drop i) (k := j - i) (by rw [List.length_drop]; omega); rw [h1, List.getElem?_append_right (by omega), h2, show i * 32 + q - i * 32 = q by omega, h3, List.getElem?_append_left (List.getElem?_eq_some_iff.1 hu).1]; exact hu
theorem q3v (l : List (List Nat)) (h : DgOk l) (h1 : 1 ≤ l.length) : (tree nd l).length = 32 ∧ Sha.bytesOk (tree nd l) := by
  rcases Nat.lt_or_ge l.length 2 with h2 | h2
  · obtain ⟨d, rfl⟩ := List.length_eq_one_iff.1 (show l.length = 1 by omega); rw [q7k]; exact h d (by simp)
  · rw [q6p nd h2]; exact ⟨z1m _ _, nd_ok _ _⟩
set_option maxRecDepth 100000 in
set_option maxHeartbeats 2000000 in
theorem gfold : ∀ (N lo hi : Nat) (v : Value) (l : List (List Nat)) (_ : l.length ≤ N) (_ : 1 ≤ l.length) (_ : l.length ≤ 65536) (_ : DgOk l) (w : World) (_ : Tb w) (_ : Row w lo hi 32 v l.length (dgs l)),
    Calls Tryz.prog 110 #[v] w fun e w' => e = .returned (.agg (ints .u8 (tree nd l)).toArray) ∧ Ext w w'
  | 0, _, _, _, _, h, h1, _, _, _, _, _ => by omega
  | N + 1, lo, hi, v, l, hN, h1, hl, hd, w, hw, hr => by
    obtain ⟨b, o, c, rfl, hmc, hb1, hb2, hR⟩ := hr.at (k := 0) (by omega); have hcm : c ≤ maxLen := by
      obtain ⟨_, A, c', e, _, h, _⟩ := hr; cases e; exact h
    refine q0j Tryz.func110 rfl Tryz.ntmps110 rfl ?_; (refine q0b<|q0a ?_); refine q0w ?_; intro g1 w1 B1 hg1 E1 hs1; by_cases h2 : l.length = 1
    · obtain ⟨d, rfl⟩ := List.length_eq_one_iff.1 h2; have hR' : w1.rangeAt b (o + 0 * 32) (ints .u8 d) := (by rw [Nat.zero_mul, Nat.add_zero, ← dgs_one]; exact E1.range hR); (refine q0c<|tn<|q0b<|q0b<|q0a<|m_S rfl<|Ls (q0f rfl)<|Ls (q1y rfl rfl (by omega))<|q0c<|tn<|q1e rfl<|q0b<|q0a<|m_S rfl<|Ls (q0o (i := 0) rfl rfl (by omega))<|Ls (q1r (size := 32) rfl hR' (by rw [q0n]; exact (hd d (by simp)).1)) ?_); refine q0l (size := 32) rfl rfl (by rw [q0n]; exact (hd d (by simp)).1) q1h B1 rfl ?_; intro w8 B8 hg8 _; (refine q0c<|tn<|q0s<|tr ?_); refine q1c rfl rfl (Res.cellA inferInstance rfl (B8.range (fun j u h => by simpa using h)) (by rw [q0n]; exact (hd d (by simp)).1) .nil) ?_; exact ⟨rfl, E1.then hg8 (fun g h => by cases h; omega)⟩
    · have hs1' := q3h (n := l.length) (by omega); have hs0 := q2q l.length; (refine q0c<|tn<|q0b<|q0b<|q0a<|m_S rfl<|Ls (q0f rfl)<|Ls (q3t rfl rfl (by omega))<|q0c<|tn<|q0z rfl<|q0p<|tn<|q0b<|q0a<|m_S rfl<|Ls (q0f rfl) ?_); refine L_fv rfl (gsplit (n := l.length) (by omega) hl w1) ?_; intro w2 E2; (refine a_I rfl<|q0c<|tn<|q0b ?_); have E12 := E1.trans E2; have hA0 : ∀ y, Ext w2 y → Ext w y := fun y E => E12.trans E; have hlt : (l.take (spl l.length)).length = spl l.length := (by rw [List.length_take]; omega); have hld : (l.drop (spl l.length)).length = l.length - spl l.length := (by rw [List.length_drop]); have ra : ∀ y, Ext w2 y → Row y lo hi 32 (.slice (some ⟨b, o, none⟩) (spl l.length) c) (l.take (spl l.length)).length (dgs (l.take (spl l.length))) := fun y E => by
        have := z2v hd rfl ⟨hb1, hb2⟩ ((hA0 y E).range hR) hmc hcm 0 (spl l.length) c (by omega) (by omega) ⟨by omega, hcm⟩; rw [Nat.zero_mul, Nat.add_zero, List.drop_zero, Nat.sub_zero] at this; rw [hlt]; exact this
      have rb : ∀ y, Ext w2 y → Row y lo hi 32 (.slice (some ⟨b, o + spl l.length * 32, none⟩) (l.length - spl l.length) (c - spl l.length)) (l.drop (spl l.length)).length (dgs (l.drop (spl l.length))) := fun y E => by
        have := z2v hd rfl ⟨hb1, hb2⟩ ((hA0 y E).range hR) hmc hcm (spl l.length) l.length (c - spl l.length) (by omega) (by omega) ⟨by omega, by omega⟩; rw [List.take_of_length_le (by rw [hld]; exact Nat.le_refl _)] at this; rw [hld]; exact this
      have ta := q3v (l.take (spl l.length)) (hd.take _) (by omega); have tb := q3v (l.drop (spl l.length)) (hd.drop _) (by omega); apply q1f 9 (by kernel_rfl); (apply DW_x (fun r w hA hH => (q0d (v := .slice _ _ _) rfl).trans rfl); apply DW_x (fun r w hA hH => (q0d (v := .int _ _) rfl).trans rfl)); ((with_reducible apply DW_x); (exact fun r w hA hH => (X_sliceBp (size := 32) (spl l.length) rfl rfl rfl (by omega)).trans rfl)); ((with_reducible apply q1v); (exact fun _ => rfl); (exact fun _ => rfl); (exact fun r w hA hH => gfold N lo hi _ (l.take (spl l.length)) (by omega) (by omega) (by omega) (hd.take _) w (hw.ext (hA0 w hA)) (ra w hA))); (apply DW_x (fun r w hA hH => (q0d (v := .slice _ _ _) rfl).trans rfl); apply DW_x (fun r w hA hH => (q0d (v := .int _ _) rfl).trans rfl)); ((with_reducible apply DW_x); (exact fun r w hA hH => (X_sliceAp (size := 32) (spl l.length) rfl rfl rfl (by omega) hmc (by omega)).trans rfl)); ((with_reducible apply q1v); (exact fun _ => rfl); (exact fun _ => rfl); (exact fun r w hA hH => gfold N lo hi _ (l.drop (spl l.length)) (by omega) (by omega) (by omega) (hd.drop _) w (hw.ext (hA0 w hA)) (rb w hA))); ((with_reducible apply q1v); (exact fun _ => rfl); (exact fun _ => rfl); (exact fun r w hA hH => gpair _ _ ta.2 tb.2 ta.1 tb.1 w (hw.ext (hA0 w hA)))); ((with_reducible exact q1q); (exact rfl); (repeat (first | exact .inr (.inr (fun _ _ => by with_reducible rfl)) | (refine And.intro ?_ ?_) | exact .inr (.inl rfl) | exact .inl (by decide +kernel) | exact trivial | exact .inr (.inr (fun _ _ => rfl)))); (try dsimp only [Nat.reduceAdd])); intro r w3 E3 _; refine q0l (size := 32) rfl rfl (by rw [q0n]; exact z1m _ _) q1h (B1.ext (E2.trans E3)) rfl ?_; intro w8 B8 hg8 _; (refine q0c<|tn<|q0s ?_); refine q1c rfl rfl (Res.cellA inferInstance rfl (B8.range (fun j u h => by simpa using h)) (by rw [q0n]; exact z1m _ _) .nil) ?_; refine ⟨?_, (E12.trans E3).then hg8 (fun g h => by cases h; omega)⟩; rw [q6p nd (l := l) (by omega)]; rfl
theorem dgs_set {l : List (List Nat)} (h : DgOk l) {i : Nat} {d : List Nat} (hi : i < l.length) (hd : d.length = 32) : (dgs l).take (i * 32) ++ ints .u8 d ++ (dgs l).drop (i * 32 + 32) = dgs (l.set i d) := by
  obtain ⟨h1, h2⟩ := z2w h (k := i) (by omega); obtain ⟨h3, h4⟩ := z2w h (k := i + 1) (by omega); have e1 : (dgs l).take (i * 32) = dgs (l.take i) := by rw [h1, ← h2, List.take_left]
  have e2 : (dgs l).drop (i * 32 + 32) = dgs (l.drop (i + 1)) := by rw [h3, show i * 32 + 32 = (i + 1) * 32 by omega, ← h4, List.drop_left]
  rw [e1, e2, ← dgs_one, ← z2x, ← z2x, List.set_eq_take_append_cons_drop, if_pos hi, List.append_assoc]; rfl
theorem dgs_zero (n : Nat) : (List.replicate n (List.replicate 32 (Value.int .u8 0))).flatten = dgs (List.replicate n (List.replicate 32 0)) := by
  unfold dgs; rw [List.map_replicate]; rfl
def part (a b : List (List Nat)) (i : Nat) : List (List Nat) := a.take i ++ b.drop i
theorem part_set {a b : List (List Nat)} (h : a.length = b.length) {i : Nat} {d : List Nat} (hd : a[i]? = some d) : (part a b i).set i d = part a b (i + 1) := by
  have hi : i < a.length := (List.getElem?_eq_some_iff.1 hd).1; unfold part; rw [List.set_append, if_neg (by rw [List.length_take]; omega), List.length_take, Nat.min_eq_left (by omega), Nat.sub_self, List.take_add_one, hd, List.append_assoc]; congr 1; rw [List.drop_eq_getElem_cons (by omega)]; rfl
theorem part_len {a b : List (List Nat)} (h : a.length = b.length) {i : Nat} (hi : i ≤ a.length) : (part a b i).length = a.length := by
  unfold part; rw [List.length_append, List.length_take, List.length_drop]; omega
theorem part_ok {a b : List (List Nat)} (ha : DgOk a) (hb : DgOk b) (i : Nat) : DgOk (part a b i) := fun d hd => by
  rcases List.mem_append.1 hd with h | h
  · exact ha d (List.mem_of_mem_take h)
  · exact hb d (List.mem_of_mem_drop h)
theorem z0a (n : Nat) : DgOk (List.replicate n (List.replicate 32 0)) := fun d hd => by
  obtain ⟨_, rfl⟩ := List.mem_replicate.1 hd; exact ⟨by simp, fun x hx => by obtain ⟨_, rfl⟩ := List.mem_replicate.1 hx; omega⟩
theorem q4c (M : List (List Nat)) : DgOk (M.map lf) := fun d hd => by
  obtain ⟨b, _, rfl⟩ := List.mem_map.1 hd; exact ⟨z1p b, lf_ok b⟩
set_option maxRecDepth 100000 in
set_option maxHeartbeats 2000000 in
theorem ghashes (N : Nat → Prop) (v : Value) (M : List (List Nat)) (hM : M.length ≤ 65536) (hM8 : ∀ b ∈ M, Sha.bytesOk b ∧ b.length ≤ 100000000) (w : World) (hw : Tb w) (hr : q2l N w .u8 v M) :
    Calls Tryz.prog 111 #[v] w fun e w' => ∃ q, e = .returned q ∧ Ext w w' ∧ w'.ownsRow w.heap.size 43 32 q M.length (dgs (M.map lf)) := by
  obtain ⟨A, c, rfl, hmc, hcm⟩ := hr.form; obtain ⟨vs, hvl, hvr, hve⟩ := hr; refine q0j Tryz.func111 rfl Tryz.ntmps111 rfl ?_; (refine q0b<|q0a<|a_S rfl<|q0c<|tn<|q0b<|q0a<|m_S rfl<|Ls (q0f rfl) ?_); refine L_make (z := List.replicate 32 (Value.int .u8 0)) M.length M.length rfl rfl rfl rfl (Nat.le_refl _) (by omega) (by omega) ?_; intro g w3 B3 hg E3 hs3; rw [dgs_zero] at B3; have hml : (M.map lf).length = (List.replicate M.length (List.replicate 32 0)).length := by simp
  have hml' : (M.map lf).length = M.length := by simp
  (refine a_S rfl<|q0c<|tn<|q0b<|q0b<|q0a<|m_S rfl<|Ls (q0f rfl)<|m_I rfl<|q0c<|tn<|q0i ?_); refine q1l (fun q f w' => ∃ i, q = M.length - i ∧ i ≤ M.length ∧ f 3 = .slice (some ⟨g, 0, none⟩) M.length M.length ∧ f 9 = .slice A M.length c ∧ f 10 = .int .i64 (M.length : Nat) ∧ f 11 = .int .i64 (i : Nat) ∧ Ext w w' ∧ w'.ownsRow w.heap.size 43 32 (.slice (some ⟨g, 0, none⟩) M.length M.length) M.length (dgs (part (M.map lf) (List.replicate M.length (List.replicate 32 0)) i))) M.length ?_ ?_
  · refine ⟨0, rfl, by omega, rfl, rfl, rfl, rfl, E3, q4a B3 (by omega) (Nat.le_refl _) (by unfold maxLen; omega) (by rw [z0o (z0a _)]; simp) ?_⟩; rw [List.take_of_length_le (by rw [z0o (z0a _)]; simp)]; rfl
  · rintro q f wr ⟨i, hq, hi, f3, f9, f10, f11, hE, ho⟩; rw [fold f3, fold f9, fold f10, fold f11]; (refine q0b<|q0a<|Ls (q1s rfl rfl)<|q0c<|tn<|q0b ?_); refine q0y rfl (fun h => ?_) (fun h => ?_)
    · have hlt : i < M.length := (by omega); obtain ⟨b, hb⟩ : ∃ b, M[i]? = some b := ⟨M[i], List.getElem?_eq_getElem hlt⟩; obtain ⟨x, hx⟩ : ∃ x, vs[i]? = some x := ⟨vs[i]'(by omega), List.getElem?_eq_getElem (by omega)⟩; obtain ⟨b0, o0, c0, hA, _, _, _, hc0⟩ := hvr.at hlt; cases hA
      obtain ⟨lo, hi2, _, rx⟩ := hve i x b hx hb; have hbm := hM8 b (List.mem_of_getElem? hb); have hx1 : x.oneCell' = true := (by obtain ⟨_, _, _, rfl, _⟩ := rx; rfl); (refine q0p<|tn<|q0b<|q0i<|q0b<|q0a<|m_I rfl<|Ls (q0o rfl rfl (by omega))<|Ls (q2n rfl (hE.range hc0) (by omega) (show vs[i * 1]? = some x by rw [Nat.mul_one]; exact hx))<|a_I rfl<|Ls (q0k (v := x) rfl)<|q0c<|tn<|q0a<|m_S rfl<|m_I rfl<|Ls (q0d (v := x) rfl) ?_); refine L_fv rfl (gleaf lo hi2 x b hbm.1 hbm.2 wr (hw.ext hE) (rx.ext hE)) ?_; intro w4 E4; (refine Ls (q0o rfl rfl (by omega)) ?_); refine q4v (i := i) (l := ints .u8 (lf b)) (q0h ho E4) rfl rfl (by omega) (by rw [q0n]; exact z1p _) q1h hlt ?_; intro w5 o5 hg5 _; (refine q0c<|bn<|tn<|q0a<|Ls (q1a rfl rfl (by omega))<|m_I rfl<|q0c<|tn ?_); refine ⟨M.length - (i + 1), by omega, i + 1, rfl, by omega, rfl, rfl, rfl, rfl, (hE.trans E4).then hg5 (fun g h => by cases h; omega), ?_⟩; rw [dgs_set (part_ok (q4c M) (z0a _) i) (by rw [part_len hml (by omega)]; omega) (z1p b), part_set hml (by rw [List.getElem?_map, hb]; rfl)] at o5; exact o5
    · have hil : i = M.length := (by omega); rw [hil] at ho; (refine q1j<|te<|te<|bx<|tn<|q0b<|q0a<|m_S rfl<|a_S rfl<|q0c<|tn<|q0s ?_); refine q0e rfl rfl (v := .slice _ _ _) rfl ⟨_, rfl, hE, ?_⟩; have e : part (M.map lf) (List.replicate M.length (List.replicate 32 0)) M.length = M.map lf := by
        unfold part; rw [List.take_of_length_le (by omega), List.drop_of_length_le (by simp), List.append_nil]
      rw [e] at ho; exact ho
set_option maxHeartbeats 2000000 in
theorem gmroot (N : Nat → Prop) (v : Value) (M : List (List Nat)) (h1 : 1 ≤ M.length) (hM : M.length ≤ 65536) (hM8 : ∀ b ∈ M, Sha.bytesOk b ∧ b.length ≤ 100000000) (w : World) (hw : Tb w) (hr : q2l N w .u8 v M) :
    Calls Tryz.prog 54 #[v] w fun e w' => e = .returned (.tuple #[.agg (ints .u8 (Mk.root lf nd M)).toArray, .int .i64 0]) ∧ Ext w w' := by
  have hroot : (Mk.root lf nd M).length = 32 := (q3v (M.map lf) (q4c M) (by simpa using h1)).1; obtain ⟨A, c, rfl, hmc, hcm⟩ := hr.form; refine q0j Tryz.func54 rfl Tryz.ntmps54 rfl ?_; (refine q0b<|q0a ?_); refine q0w ?_; intro g1 w1 B1 hg1 E1 hs1; (refine a_I rfl<|q0c<|tn<|q0b<|q0b<|q0a<|m_S rfl<|Ls (q0f rfl)<|a_I rfl<|q0c<|tn<|q0i<|q0b<|q0a<|m_I rfl<|Ls (q2z rfl rfl (by omega))<|a_B rfl<|q0c<|tn<|q0z rfl<|q0b<|q0a<|m_I rfl<|Ls (q4d rfl rfl (by omega))<|a_B rfl<|q0c<|tn<|q0z rfl<|q0p<|bn<|tn<|q0b<|q0a<|m_S rfl ?_); refine L_fo rfl (ghashes N _ M hM hM8 w1 (hw.ext E1) (hr.ext E1)) ?_; rintro q w2 ⟨E2, o2⟩; have ro := Row.of_own o2; refine L_fv rfl (gfold (M.map lf).length _ _ q (M.map lf) (Nat.le_refl _) (by simpa using h1) (by simpa using hM) (q4c M) w2 (hw.ext (E1.trans E2)) (ro.re (by simp) rfl)) ?_; intro w3 E3; refine q0l (size := 32) (l := ints .u8 (Mk.root lf nd M)) rfl rfl (by rw [q0n]; exact hroot) q1h (B1.ext (E2.trans E3)) rfl ?_; intro w8 B8 hg8 _; (refine a_I rfl<|q0c<|tn<|q0s ?_); refine q1c rfl rfl (Res.cellA inferInstance rfl (B8.range (fun j u h => by simpa using h)) (by rw [q0n]; exact hroot) (Res.tmp rfl .nil)) ?_; exact ⟨rfl, (E1.trans (E2.trans E3)).then hg8 (fun g h => by cases h; omega)⟩
end Go.Proofs.YtpohjepbmgeplaaGreatDoor
namespace Go.Proofs.K
open Go.RowKit
variable {P : Program} {n : NN} {Q : Exit → Fr → World → Prop} {f : Fr} {w : World} {ops : Array Oper} {rest : List Oper}
structure KeepTy (B g : Nat) (T : TypeId) (a b : World) : Prop where
  size : a.heap.size ≤ b.heap.size
  same : ∀ k c t fz, k ≠ g → (k < B ∨ t ≠ T) → a.heap[k]? = some (.cells c t fz) → b.heap[k]? = some (.cells c t fz)
section
variable {B g : Nat} {T : TypeId} {a b c : World}
theorem KeepTy.trans (h : KeepTy B g T a b) (k : KeepTy B g T b c) : KeepTy B g T a c := ⟨Nat.le_trans h.size k.size, fun i cs t fz hi ht e => k.same i cs t fz hi ht (h.same i cs t fz hi ht e)⟩
theorem KeepTy.of_ext (E : Ext a b) : KeepTy B g T a b := ⟨E.size, fun _ _ _ _ _ _ e => E.heap e⟩
theorem KeepTy.put {l : Nat} {o : Obj} (o' : Obj) (h : a.heap[l]? = some o) (hc : o.isCells = false) : KeepTy B g T a (a.putObj l o') :=
  ⟨by simp [World.putObj], fun k cs t fz _ _ e => by
    have hne : k ≠ l := by rintro rfl; rw [h] at e; cases e; cases hc
    rw [show (a.putObj l o').heap[k]? = a.heap[k]? from by simp [World.putObj, Array.getElem?_setIfInBounds, Ne.symm hne]]; exact e⟩
theorem KeepTy.of_grown {row : Option Nat} (G : a.grownBy b row) (h : ∀ q, row = some q → q = g ∨ (B ≤ q ∧ ∃ cs fz, a.heap[q]? = some (.cells cs T fz))) : KeepTy B g T a b :=
  ⟨G.size, fun k cs t fz hk ht e => by
    refine (G.block k (q2m e) fun hr => ?_).trans e
    rcases h k hr.symm with rfl | ⟨hB, cs', fz', e'⟩
    · exact hk rfl
    · rw [e] at e'
      cases e'
      rcases ht with ht | ht
      · omega
      · exact ht rfl⟩
theorem KeepTy.blk {k : Nat} {t : TypeId} {cs : List Value} (h : KeepTy B g T a b) (hB : Blk a k t cs) (hk : k ≠ g) (ht : k < B ∨ t ≠ T) : Blk b k t cs := h.same k _ t _ hk ht hB
theorem KeepTy.cell {p : Addr} {v : Value} (h : KeepTy B g T a b) (hp : p.block ≠ g) (hB : p.block < B) (hv : a.cell? p = some v) : b.cell? p = some v := by
  obtain ⟨c, t, fz, e⟩ := q3b hv; have e' := h.same p.block c t fz hp (.inl hB) e; have : b.cell? p = a.cell? p := by
    unfold World.cell?; rw [e, e']
  rw [this]; exact hv
theorem KeepTy.row {lo hi size m : Nat} {v : Value} {xs : List Value} (h : KeepTy B g T a b) (hr : Row a lo hi size v m xs) (hg : ¬ (lo ≤ g ∧ g < hi)) (hB : hi ≤ B) : Row b lo hi size v m xs := by
  obtain ⟨hl, A, c, rfl, hc, hm, hn⟩ := hr; refine ⟨hl, A, c, rfl, hc, hm, fun h0 => ?_⟩; obtain ⟨b0, o, rfl, h1, h2, h3⟩ := hn h0; exact ⟨b0, o, rfl, h1, h2, fun j u hu => h.cell (by dsimp only; intro e; exact hg ⟨by omega, by omega⟩) (by dsimp only; omega) (h3 j u hu)⟩
theorem q1i {base e size m : Nat} {v : Value} {xs : List Value} (h : a.ownsRow base e size v m xs) : ∀ q, v.ownBlock = some q → base ≤ q ∧ ∃ cs fz, a.heap[q]? = some (.cells cs e fz) := by
  intro q hq; rcases h.2 with ⟨rfl, _⟩ | ⟨g', cap, cur, rfl, hb, hg, _⟩
  · cases hq
  · obtain rfl : g' = q := Option.some.inj hq; exact ⟨hb, _, _, hg⟩
theorem KeepsFrom.of_ext {B : Nat} (E : Ext a b) : KeepsFrom B a b := ⟨E.size, fun _ _ _ hk _ => E.heap hk⟩
end
section
variable {d : Option Tmp} {t ty e : TypeId} {pos : String} {af : Array Edge} {x : Operand} {g : Option (Nat × Bool)} {w0 : World}
theorem q6j {z l : List Value} [TSlice P ty e] [TZero P e z] (hx : ev n f x = .agg l.toArray) (hl : l.length = z.length) (hz : Nat.ble (1 * z.length) 65536 = true) (h0 : w0.heap.size ≤ w.heap.size) :
    ∃ v w', X P n ⟨d, .buildSlice ty 1 #[(0, x)], t, pos, af, g⟩ f w = .ok (.value v) w' ∧ Ext w w' ∧ RowF w0 z.length v 1 l w' :=
  ⟨_, _, z0x (r := [(0, x)]) (zs' := [l]) (cs := l) (Parts.cons (c := l) (z := z) hx rfl rfl hl (Parts.nil _)) hz (by simp), q1p _ _, _, _, h0, Row.lit w e z.length 1 l (by omega) (by unfold maxLen; omega)⟩
end
section
variable {d : Option Tmp} {t ty e : TypeId} {pos : String} {af : Array Edge} {x y : Operand} {g : Option (Nat × Bool)} {w0 : World}
theorem X_makeD {z : List Value} {size bytes : Nat} [ht : TSlice P ty e] [hz : TZero P e z] [he : TElem P e size bytes] {kl kc : IntKind} {l c : Int} (m q : Nat) (hx : ev n f x = .int kl l) (hy : ev n f y = .int kc c) (hl : l = (m : Int)) (hc : c = (q : Int)) (hmq : m ≤ q) (hb : bytes * q ≤ 281474976710656) (hq : q ≤ 1000000000000) (h0 : w0.heap.size ≤ w.heap.size) :
    ∃ v w', X P n ⟨d, .makeSlice ty x y, t, pos, af, g⟩ f w = .ok (.value v) w' ∧ Ext w w' ∧ ∃ k, v = .slice (some ⟨k, 0, none⟩) m q ∧ w0.heap.size ≤ k ∧ Blk w' k e (List.replicate q z).flatten := by
  subst hl; subst hc; obtain ⟨v, hv, hcs⟩ := hz.h; have hsz := hz.s; obtain ⟨z', hi', _, _⟩ := he.h; cases hi : P.info? e with
  | none => simp [hi] at hsz
  | some i =>
    have hzero : i.zero = some v := (by simpa [hi] using hv); have hsize : i.size = z.length := (by simpa [hi] using hsz); have hbytes : i.bytes = bytes := (by simp [hi] at hi'; exact hi'.2.2); have hbi : (i.bytes : Int) * (q : Int) ≤ 281474976710656 := by
      rw [hbytes, ← Int.natCast_mul]; omega
    have hr := run_make (P := P) w ty e i v ht.h hi hzero kl kc (m : Int) (q : Int) (by omega) (by omega) hbi (by omega); simp only [Int.toNat_natCast] at hr; have hm : madeCells v.cells (q * i.size) = (List.replicate q z).flatten.toArray := by
      unfold madeCells; rw [hcs, hsize]; exact q6n z q
    rw [hm] at hr; refine ⟨.slice (some ⟨w.heap.size, 0, none⟩) m q, w.alloc (.cells (List.replicate q z).flatten.toArray e), ?_, q1p _ _, _, rfl, h0, Blk.new w e _⟩; simp only [X, execOp, hx, hy, Sem.run_bind, hr, Result.andThen_ok, Sem.run_pure]
end
theorem Mut.old {S : Nat → Prop} {a b : World} (h : Mut (fun k => S k ∨ a.heap.size ≤ k) a b) : Mut S a b :=
  ⟨h.os, h.tape, h.output, h.size, fun k o hk ho => h.same k o hk (ho.imp id fun hS hk' => hk'.elim hS fun hge => by have := q2m hk; omega)⟩
theorem Mut.new {S : Nat → Prop} {a b c : World} {g : Nat} {T : TypeId} {cs : List Value} (h : Mut S a b) (hB : Blk b g T cs) (hg : b.grownBy c (some g)) (hn : a.heap.size ≤ g) : Mut S a c :=
  Mut.old ((h.mono fun _ h => .inl h).trans (Mut.store hB hg (.inr hn)))
def RMt (k0 : Nat) (S : Nat → Prop) : Nat → World → World → Prop := fun i a b => Ext a b ∨ (i = k0 ∧ Mut S a b)
instance {k0 : Nat} {S : Nat → Prop} : ExtR (RMt k0 S) := ⟨fun _ _ _ h => .inl h⟩
theorem RMt.mut {k0 i : Nat} {S : Nat → Prop} {a b : World} (h : RMt k0 S i a b) : Mut S a b := h.elim (fun e => Mut.of_ext e) (fun h => h.2)
theorem RMt.other {k0 i : Nat} {S : Nat → Prop} {a b : World} (h : RMt k0 S i a b) (hi : i ≠ k0) : Ext a b := h.elim id fun h => absurd h.1 hi
structure AMt (ops : Array Oper) (k0 : Nat) (S : Nat → Prop) (Pre : World → Prop) (w0 : World) (k : Nat) (w : World) : Prop where
  g : Mut S w0 w
  pre : k = k0 ∨ td ops k0 k = true → Pre w
theorem W_dagM {id : Nat} [TMixed P] {l : List Oper} (k0 : Nat) (S : Nat → Prop) (Pre : World → Prop) (m : Nat) (hok : z2y l.toArray m = true) (h0 : Pre w.drew) (hPre : ∀ a b, Ext a b → Pre a → Pre b)
    {E : List Ent} {T : List Oper} {G : Rho → Fr} {HF : Rho → Nat → World → Prop}
    (hw : DW (RMt k0 S) P n l.toArray (AMt l.toArray k0 S Pre w) (fun t g' H' => t = T ∧ g' = G ∧ H' = HF) l 0 E (fun _ => f) (fun _ _ _ => True)) (hm : E.length = m) (hins : q4y l.toArray E E 0)
    (hfin : ∀ r w', Mut S w w' → (∀ j, HF r j w') → L P n l.toArray Q T (G r) w') : W P n (.region id l.toArray true) Q f w := by
  refine W_dagL m (fun L w' => Mut S w w' ∧ (L k0 = false → Pre w')) (AMt l.toArray k0 S Pre w) (fun w' => Mut S w w') hm hok hins (fun _ w => .inl (Ext.refl w)) ?_ ?_ ?_ ?_ (hw.imp fun t g' H' ⟨e1, e2, e3⟩ => by subst e1; subst e2; subst e3; exact hfin)
  · exact fun L hL => ⟨Mut.of_ext (Ext.drew w), fun _ => h0⟩
  · rintro L k w' hk hLk hin hout ⟨hg, h2⟩; refine ⟨hg, fun h => ?_⟩; rcases h with rfl | h
    · exact h2 hLk
    · exact h2 (hout _ h)
  · rintro L k w' w'' hk hLk hin hout hr ⟨hg, h2⟩; refine ⟨hg.trans hr.mut, fun h => ?_⟩; unfold Done1 at h; by_cases hkk : k0 = k
    · rw [if_pos hkk] at h; cases h
    · rw [if_neg hkk] at h; exact hPre _ _ (hr.other fun e => hkk e.symm) (h2 h)
  · rintro L w' hall ⟨hg, _⟩; exact hg
section
variable {R : Nat → World → World → Prop} {A : Nat → World → Prop} {Fin : List Oper → (Rho → Fr) → (Rho → Nat → World → Prop) → Prop} {k : Nat} {E : List Ent} {g : Rho → Fr} {H : Rho → Nat → World → Prop} {d : Tmp} {t : TypeId} {pos : String} {af : Array Edge}
theorem DW_frc {F : Value → World → Prop} {id : FuncId} [TFun P id] {x : Operand} {l : List Operand} {vl : Rho → List Value} {tys : Array TypeId} {first cap : Array Value} (hx : ∀ r, ev n (g r) x = .func (.func id) first cap) (ha : ∀ r, l.map (ev n (g r)) = vl r)
    (hc : ∀ r w, A k w → (∀ j, td ops k j = true → H r j w) → Calls P id (first ++ (vl r).toArray ++ cap) w fun e w' => ∃ v, e = .returned v ∧ R k w w' ∧ F v w') (hF : ∀ i v w w', i ≠ k → td ops k i = false → R i w w' → F v w → F v w')
    (hr : DW R P n ops A Fin rest (k + 1) E (fun r => upd (g r) d (r k)) (fun r j w => bif Nat.beq j k then F (r k) w else H r j w)) : DW R P n ops A Fin (⟨some d, .call ⟨.value x, l.toArray, tys⟩, t, pos, af, none⟩ :: rest) k (.op (fun r w => F (r k) w) :: E) g H :=
  .op (fun r w hA hH => ⟨q3g rfl, q5r (X_clo (hx r) (ha r)) (hc r w hA hH) fun e w' ⟨v, he, hE, hv⟩ => ⟨v, he, hE, by rw [q4t]; exact hv⟩⟩) (fun i r w w' h1 h2 hE h => hF i _ _ _ h1 h2 hE h) hr
theorem DW_storeD {k0 q : Nat} {ty : TypeId} {x y : Operand} {w0 : World} {Pre : World → Prop} {F : Rho → World → Prop}
    (hX : ∀ r w, AG ops k0 q Pre w0 k0 w → (∀ j, td ops k0 j = true → H r j w) → ∃ w', X P n ⟨none, .store ty x y, t, pos, af, none⟩ (g r) w = .ok .skip w' ∧ w.grownBy w' (some q) ∧ F r w')
    (hF : ∀ r w w', Ext w w' → F r w → F r w') (hi : ∀ r v, F (rset r k0 v) = F r)
    (hr : DW (RG k0 q) P n ops (AG ops k0 q Pre w0) Fin rest (k0 + 1) E g (fun r i w => bif Nat.beq i k0 then F r w else H r i w)) :
    DW (RG k0 q) P n ops (AG ops k0 q Pre w0) Fin (⟨none, .store ty x y, t, pos, af, none⟩ :: rest) k0 (.op (fun r w => F r w) :: E) g H := by
  refine .op (fun r w hA hH => ⟨rfl, ?_⟩) (fun i r w w' h1 h2 hR h => hF r w w' (hR.other h1) h) hr; obtain ⟨w', h1, h2, h3⟩ := hX r w hA hH; exact q4l h1 ⟨.inr ⟨rfl, h2⟩, by rw [hi]; exact h3⟩
end
end Go.Proofs.K
namespace Go.Proofs.YtpohjepbmgeplaaGreatDoor
open Go.RowKit Go.Proofs.K
open _root_.Mk (spl q2q q3h tree q7k q6p cls q6f q5j q5i)
set_option maxRecDepth 100000 in
set_option maxHeartbeats 1000000 in
theorem gcheck {n : Nat} (h1 : 1 ≤ n) (hn : n ≤ 65536) (lo hi : Nat) (v : Value) (I : List Nat) (hI : ∀ i ∈ I, i < n) (hp : I.Pairwise (· < ·)) (hl : I.length ≤ 65536) (w : World) (hr : Row w lo hi 1 v I.length (ints .i64 I)) :
    Calls Tryz.prog 121 #[.int .i64 (n : Nat), v] w fun e w' => e = .returned (.int .i64 0) ∧ Ext w w' := by
  obtain ⟨A, c, rfl⟩ : ∃ A c, v = .slice A I.length c := by
    obtain ⟨_, A, c, rfl, _⟩ := hr; exact ⟨A, c, rfl⟩
  refine q0j Tryz.func121 rfl Tryz.ntmps121 rfl ?_; (refine q0b<|q0a<|a_I rfl<|q0c<|tn<|q0b<|q0a<|a_I rfl<|q0c<|tn<|q0b<|q0b<|q0a<|m_S rfl<|Ls (q0f rfl)<|m_I rfl<|q0c<|tn<|q0i ?_); refine q1l (fun q f w' => ∃ (i : Nat) (z : Int), q = I.length - i ∧ i ≤ I.length ∧ f 0 = .int .i64 (n : Nat) ∧ f 5 = .int .i64 z ∧ f 8 = .slice A I.length c ∧ f 9 = .int .i64 (I.length : Nat) ∧ f 10 = .int .i64 (i : Nat) ∧ (∀ x, I[i]? = some x → z < (x : Int)) ∧ w' = w) I.length ?_ ?_
  · exact ⟨0, -1, rfl, by omega, rfl, rfl, rfl, rfl, rfl, fun x _ => by omega, rfl⟩
  · rintro q f wr ⟨i, z, hq, hi, f0, f5, f8, f9, f10, hz, rfl⟩; rw [fold f0, fold f5, fold f8, fold f9, fold f10]; (refine q0b<|q0a<|Ls (q1s rfl rfl)<|q0c<|tn<|q0b ?_); refine q0y rfl (fun h => ?_) (fun h => ?_)
    · have hlt : i < I.length := (by omega); obtain ⟨x, hx⟩ : ∃ x, I[i]? = some x := ⟨I[i], List.getElem?_eq_getElem hlt⟩; have hxn := hI x (List.mem_of_getElem? hx); have hzx := hz x hx; obtain ⟨b, o, c', hA, _, _, _, hR⟩ := hr.at hlt; cases hA
      have hg : I.getD i 0 = x := (by rw [List.getD_eq_getElem?_getD, hx]; rfl); (refine q0p<|tn<|q0b<|q0i<|q0b<|q0a<|Ls (q0o rfl rfl (by omega))<|Ls ((X_ldRI rfl hR hlt).trans (by rw [hg]))<|a_I rfl<|q0c<|tn<|q0b<|q0b<|q0a<|m_I rfl<|m_I rfl<|Ls (X_leqF rfl rfl (by omega))<|m_B rfl<|Lg2 rfl rfl rfl (q0d (v := .int _ _) rfl)<|Lg2 rfl rfl rfl (q0d (v := .int _ _) rfl)<|Lg2 rfl rfl rfl (z1a rfl rfl (by omega))<|Ls (q0u (v := .bool _) rfl rfl)<|q0c<|tn<|q0z rfl<|q0p<|tn<|q0a<|m_I rfl<|a_I rfl<|q0c<|bn<|tn<|q0a<|Ls (q1a rfl rfl (by omega))<|m_I rfl<|q0c<|tn ?_); refine ⟨I.length - (i + 1), by omega, i + 1, (x : Int), rfl, by omega, rfl, rfl, rfl, rfl, rfl, fun y hy => ?_, rfl⟩; have := List.pairwise_iff_getElem.1 hp i (i + 1) hlt (List.getElem?_eq_some_iff.1 hy).1 (by omega); rw [List.getElem?_eq_getElem hlt] at hx; obtain ⟨h2, h3⟩ := List.getElem?_eq_some_iff.1 hy; rw [h3, Option.some.inj hx] at this; omega
    · (refine q1j<|te<|te<|bx<|tn<|q0b<|q0i<|q0b<|q0a<|m_I rfl<|Ls (q2z rfl rfl (by omega))<|a_B rfl<|q0c<|tn<|q0z rfl<|q0b<|q0a<|m_I rfl<|Ls (q4d rfl rfl (by omega))<|a_B rfl<|q0c<|tn<|q0z rfl<|q0p<|bn<|tn<|q0b<|q0a<|a_I rfl<|q0c<|tn<|q0s ?_); refine q0e rfl rfl (v := .int _ _) rfl ⟨rfl, Ext.refl _⟩
theorem q5x (k : Nat) : ∀ I : List Nat, I.Pairwise (· < ·) → I = (I.filter fun i => Nat.blt i k) ++ (I.filter fun i => Nat.ble k i)
  | [], _ => rfl
  | i :: r, hp => by
    obtain ⟨ha, hb⟩ := List.pairwise_cons.1 hp; by_cases hik : i < k
    · have e1 : Nat.blt i k = true := (by rw [Nat.blt_eq]; exact hik); have e2 : Nat.ble k i = false := by
        cases hc : Nat.ble k i
        · rfl
        · have := Nat.le_of_ble_eq_true hc; omega
      rw [List.filter_cons_of_pos (by simpa using e1), List.filter_cons_of_neg (by simp [e2]), List.cons_append, ← q5x k r hb]
    · have hall : ∀ j ∈ i :: r, k ≤ j := fun j hj => by
        rcases List.mem_cons.1 hj with rfl | hj
        · omega
        · have := ha j hj; omega
      have f1 : (i :: r).filter (fun i => Nat.blt i k) = [] := List.filter_eq_nil_iff.2 fun j hj => by
        have := hall j hj; rw [Nat.blt_eq]; omega
      have f2 : (i :: r).filter (fun i => Nat.ble k i) = i :: r := List.filter_eq_self.2 fun j hj => Nat.ble_eq_true_of_le (hall j hj); rw [f1, f2]; rfl
def bel (I : List Nat) (k : Nat) : Nat := (I.filter fun i => Nat.blt i k).length
theorem bel_le (I : List Nat) (k : Nat) : bel I k ≤ I.length := List.length_filter_le _ _
theorem bel_take {I : List Nat} (hp : I.Pairwise (· < ·)) (k : Nat) : I.take (bel I k) = I.filter (fun i => Nat.blt i k) ∧ I.drop (bel I k) = I.filter fun i => Nat.ble k i := by
  have h := q5x k I hp; unfold bel; exact ⟨(congrArg (List.take _) h).trans (List.take_left' rfl), (congrArg (List.drop _) h).trans (List.drop_left' rfl)⟩
theorem ints_int (k : IntKind) (I : List Nat) (j : Nat) : (ints k I)[j]? = ((I.map Int.ofNat)[j]?).map (Value.int k) := by
  unfold ints; rw [List.getElem?_map, List.getElem?_map, Option.map_map]; rfl
theorem gbs (lo hi : Nat) (v : Value) (I : List Nat) (hp : I.Pairwise (· < ·)) (hl : I.length ≤ 65536) (x : Nat) (w : World) (hr : Row w lo hi 1 v I.length (ints .i64 I)) :
    Calls Tryz.prog 63 #[v, .int .i64 (x : Nat)] w fun e w' => e = .returned (.tuple #[.int .i64 ((bel I x : Nat) : Int), .bool (decide (x ∈ I))]) ∧ Ext w w' := by
  rcases Nat.eq_zero_or_pos I.length with h0 | h0
  · have e : I = [] := List.eq_nil_of_length_eq_zero h0; subst e; obtain ⟨_, A, c, rfl, _⟩ := hr; refine (Tryz.slices_BinarySearch_int_empty A c (x : Nat) w).mono fun _ _ ⟨h1, h2⟩ => ⟨by rw [h1]; rfl, by rw [h2]; exact Ext.refl _⟩
  · obtain ⟨b, o, c, rfl, _, _, _, hR⟩ := hr.at h0; have hlen : (I.map Int.ofNat).length = I.length := (by simp); have h := Tryz.slices_BinarySearch_int b o I.length c (I.map Int.ofNat) (x : Nat) w (by omega) (by omega) (fun j hj => by
      have := hR j (.int .i64 ((I.map Int.ofNat).getD j 0)) (by rw [ints_int, List.getD_eq_getElem?_getD, List.getElem?_eq_getElem hj]; rfl)
      exact this) (by
      rw [List.take_of_length_le (by omega), List.pairwise_map]
      exact hp.imp fun h => by simp only [Int.ofNat_eq_natCast]; omega)
    refine h.mono fun e w' ⟨h1, q, h2⟩ => ⟨?_, by rw [h2]; exact ⟨rfl, rfl, rfl, Nat.le_refl _, fun _ _ _ => rfl⟩⟩; rw [h1, List.take_of_length_le (by omega), List.countP_map]; have e1 : (List.countP ((fun y : Int => decide (y < (x : Int))) ∘ Int.ofNat) I) = bel I x := by
      unfold bel; rw [List.countP_eq_length_filter]; congr 1; refine List.filter_congr fun i _ => ?_; rw [Bool.eq_iff_iff]; simp [Nat.blt_eq]
    have e2 : (I.map Int.ofNat).contains (x : Int) = decide (x ∈ I) := by
      rw [Bool.eq_iff_iff]; simp only [List.contains_iff_mem, List.mem_map, decide_eq_true_eq]; exact ⟨fun ⟨a, h, e⟩ => by have : a = x := Int.ofNat.inj e; rwa [← this], fun h => ⟨x, h, rfl⟩⟩
    rw [e1, e2]
def sub (lo hi : Nat) (v : Value) : List Value := [.int .i64 (lo : Nat), .int .i64 (hi : Nat), v]
theorem q5c {lo hi : Nat} {v : Value} (h : v.oneCell' = true) : ∀ x ∈ sub lo hi v, x.oneCell' = true := by
  intro x hx; rcases List.mem_cons.1 hx with rfl | hx
  · rfl
  · rcases List.mem_cons.1 hx with rfl | hx
    · rfl
    · rcases List.mem_cons.1 hx with rfl | hx
      · exact h
      · cases hx
theorem one_cells {v : Value} (h : v.oneCell' = true) : v.cells = [v].toArray := by cases v <;> first | rfl | cases h
section
variable {n : NN} {f : Fr} {w : World} {d : Option Tmp} {t : TypeId} {pos : String} {af : Array Edge} {g : Option (Nat × Bool)} {x y z : Operand}
theorem z3d {a b : Nat} {v : Value} (hv : v.oneCell' = true) (hx : ev n f x = .int .i64 (a : Nat)) (hy : ev n f y = .int .i64 (b : Nat)) (hz : ev n f z = v) :
    X Tryz.prog n ⟨d, .build 163 #[(0, x), (1, y), (2, z)], t, pos, af, g⟩ f w = .ok (.value (.agg (sub a b v).toArray)) w := by
  have := q3n (P := Tryz.prog) (ty := 163) (n := n) (f := f) (w := w) (d := d) (t := t) (pos := pos) (af := af) (g := g) (Parts.cons (i := 0) (c := [.int .i64 (a : Nat)]) (z := [.int .i64 0]) hx rfl rfl rfl (Parts.cons (i := 1) (c := [.int .i64 (b : Nat)]) (z := [.int .i64 0]) hy rfl rfl rfl (Parts.cons (i := 2) (c := [v]) (z := [.slice none 0 0]) hz (one_cells hv) rfl rfl (Parts.nil _)))); exact this
end
theorem q0g {w : World} {lo hi size m : Nat} {v : Value} {xs : List Value} (h : Row w lo hi size v m xs) : v.oneCell' = true := by obtain ⟨_, _, _, rfl, _⟩ := h; rfl
theorem row_cut {w : World} {lo hi m c : Nat} {A : Option Addr} {I : List Nat} (h : Row w lo hi 1 (.slice A m c) m (ints .i64 I)) (hl : I.length = m) {i j : Nat} (hij : i ≤ j) (hj : j ≤ m) :
    Row w lo hi 1 (.slice (if c = i then A else A.map (·.add (i * 1))) (j - i) (c - i)) (j - i) (ints .i64 ((I.drop i).take (j - i))) := by
  have := h.slice rfl hij hj; simp only [Nat.mul_one] at this ⊢; rw [z0m, z0l] at this; exact this
set_option maxRecDepth 100000 in
set_option maxHeartbeats 2000000 in
theorem gparts {lo hi : Nat} (h2 : 2 ≤ hi - lo) (hh : hi ≤ 65536) (bl bh : Nat) (v : Value) (I : List Nat) (hp : I.Pairwise (· < ·)) (hl : I.length ≤ 65536) (w : World) (hr : Row w bl bh 1 v I.length (ints .i64 I)) :
    Calls Tryz.prog 135 #[.agg (sub lo hi v).toArray] w fun e w' => ∃ x y, e = .returned (.tuple #[.agg (sub lo (lo + spl (hi - lo)) x).toArray, .agg (sub (lo + spl (hi - lo)) hi y).toArray]) ∧ Ext w w' ∧
      Row w' bl bh 1 x (I.filter fun i => Nat.blt i (lo + spl (hi - lo))).length (ints .i64 (I.filter fun i => Nat.blt i (lo + spl (hi - lo)))) ∧ Row w' bl bh 1 y (I.filter fun i => Nat.ble (lo + spl (hi - lo)) i).length (ints .i64 (I.filter fun i => Nat.ble (lo + spl (hi - lo)) i)) := by
  have hs1 := q3h h2; have hs0 := q2q (hi - lo); obtain ⟨k, hk⟩ : ∃ k, k = lo + spl (hi - lo) := ⟨_, rfl⟩; rw [← hk]; obtain ⟨A, c, rfl, hmc⟩ : ∃ A c, v = .slice A I.length c ∧ I.length ≤ c := by
    obtain ⟨_, A, c, rfl, h, _⟩ := hr; exact ⟨A, c, rfl, h⟩
  have hb := bel_le I k; obtain ⟨ht, hd⟩ := bel_take hp k; refine q0j Tryz.func135 rfl Tryz.ntmps135 rfl ?_; (refine q0b<|q0a ?_); refine q1t rfl ?_; intro g1 w1 B1 hg1 E1 hs1'; refine q0w ?_; intro g2 w2 B2 hg2 E2 hs2'; refine q0w ?_; intro g3 w3 B3 hg3 E3 hs3'; have C1 := B1.ext (E2.trans E3); have C2 := B2.ext E3; (refine q0c<|tn<|q0b ?_); apply q1f 8 (by kernel_rfl); (apply DW_x (fun r w hA hH => (q0q rfl).trans rfl); apply DW_x (fun r w hA hH => (X_ld rfl (C1.ext hA) rfl).trans rfl); apply DW_x (fun r w hA hH => (q0q rfl).trans rfl); apply DW_x (fun r w hA hH => (X_ld rfl (C1.ext hA) rfl).trans rfl); apply DW_x (fun r w hA hH => (q0q rfl).trans rfl); apply DW_x (fun r w hA hH => (X_ld rfl (C1.ext hA) rfl).trans rfl); apply DW_x (fun r w hA hH => (X_subn rfl rfl ⟨by omega, by omega⟩).trans rfl)); ((with_reducible apply q1v); (exact fun _ => rfl); (exact fun _ => rfl); (exact fun r w hA hH => gsplit h2 (by omega) w)); ((with_reducible exact q1q); (exact rfl); (repeat (first | exact .inr (.inr (fun _ _ => by with_reducible rfl)) | (refine And.intro ?_ ?_) | exact .inr (.inl rfl) | exact .inl (by decide +kernel) | exact trivial | exact .inr (.inr (fun _ _ => rfl)))); (try dsimp only [Nat.reduceAdd])); intro r w4 E4 _; have C1 := C1.ext E4; (refine Ls (X_addn rfl rfl (by omega))<|a_I rfl<|q0c<|tn<|q0b<|q0a<|Ls (q0q rfl)<|Ls (X_ld rfl C1 rfl)<|m_I rfl ?_); rw [← hk]; skip; have Ea := E1.trans (E2.trans (E3.trans E4)); refine L_fv rfl (gbs bl bh _ I hp hl k w4 (hr.ext Ea)) ?_; intro w5 E5; (refine m_T rfl<|Ls (q0m rfl rfl)<|Ls (q0m rfl rfl)<|a_I rfl<|a_B rfl<|q0c<|tn<|q0b ?_); have C1 := C1.ext E5; have C2 := C2.ext (E4.trans E5); have C3 := B3.ext (E4.trans E5); obtain ⟨x, hx⟩ : ∃ x : Value, x = .slice (if c = 0 then A else A.map (·.add (0 * 1))) (bel I k - 0) (c - 0) := ⟨_, rfl⟩; obtain ⟨y, hy⟩ : ∃ y : Value, y = .slice (if c = bel I k then A else A.map (·.add (bel I k * 1))) (I.length - bel I k) (c - bel I k) := ⟨_, rfl⟩; have hx1 : x.oneCell' = true := by rw [hx]; rfl
  have hy1 : y.oneCell' = true := by rw [hy]; rfl
  apply W_dagR (R := RB g2 163 _ _) (AB g2 163 _ (sub lo k x) w5) 17 (by kernel_rfl) (RB.refl _ _ _ _) (AB.new C2) AB.step; (apply DW_x (fun r w hA hH => (q0q rfl).trans rfl); apply DW_x (fun r w hA hH => (X_ld rfl (C1.grown hA.1 (by simp; omega)) rfl).trans rfl); apply DW_x (fun r w hA hH => (q0d (v := .int _ _) rfl).trans rfl); apply DW_x (fun r w hA hH => (q0q rfl).trans rfl); apply DW_x (fun r w hA hH => (X_ld rfl (C1.grown hA.1 (by simp; omega)) rfl).trans rfl); apply DW_x (fun r w hA hH => (q0d (v := .int _ _) rfl).trans rfl)); ((with_reducible apply DW_x); (exact fun r w hA hH => ((q4q (size := 1) (i := 0) (j := bel I k) rfl (by exact rfl) (by exact ⟨_, rfl⟩) (by omega) (by omega)).trans (by rw [← hx])).trans rfl)); ((with_reducible apply DW_x); (exact fun r w hA hH => (z3d hx1 rfl rfl rfl).trans rfl)); (apply DW_x (fun r w hA hH => (q0d (v := .int _ _) rfl).trans rfl); apply DW_x (fun r w hA hH => (q0q rfl).trans rfl); apply DW_x (fun r w hA hH => (X_ld rfl (C1.grown hA.1 (by simp; omega)) rfl).trans rfl); apply DW_x (fun r w hA hH => (q0q rfl).trans rfl); apply DW_x (fun r w hA hH => (X_ld rfl (C1.grown hA.1 (by simp; omega)) rfl).trans rfl); apply DW_x (fun r w hA hH => (q0d (v := .int _ _) rfl).trans rfl)); ((with_reducible apply DW_x); (exact fun r w hA hH => ((q4q (size := 1) (i := bel I k) (j := I.length) rfl (by exact ⟨_, rfl⟩) (by exact rfl) hb hmc).trans (by rw [← hy])).trans rfl)); ((with_reducible apply DW_x); (exact fun r w hA hH => (z3d hy1 rfl rfl rfl).trans rfl)); apply z3g (o := [[Value.int .i64 0], [Value.int .i64 0], [Value.slice none 0 0]].flatten) (l := sub lo k x) (fun _ => rfl) (fun _ => rfl) rfl rfl (q5c hx1); ((with_reducible exact q1q); (exact rfl); (repeat (first | exact .inr (.inr (fun _ _ => by with_reducible rfl)) | (refine And.intro ?_ ?_) | exact .inr (.inl rfl) | exact .inl (by decide +kernel) | exact trivial | exact .inr (.inr (fun _ _ => rfl)))); (try dsimp only [Nat.reduceAdd])); intro r w6 A6 H6; have C2' : Blk w6 g2 163 (sub lo k x) := H6 16; refine q0l (l := sub k hi y) rfl rfl rfl (q5c hy1) (C3.grown A6.1 (by simp; omega)) rfl ?_; intro w7 D3 hg7 hs7; have D2 := C2'.grown hg7 (by simp; omega); (refine q0c<|tn<|q0s ?_); have hz5 : w.heap.size ≤ w5.heap.size := (Ea.trans E5).size; have E7 : Ext w w7 := ((Ea.trans E5).then A6.1 (fun g h => by cases h; omega)).then hg7 (fun g h => by cases h; omega); refine q1c rfl rfl (Res.cellA inferInstance rfl (D2.range (fun j u h => by simpa using h)) rfl (Res.cellA inferInstance rfl (D3.range (fun j u h => by simpa using h)) rfl .nil)) ?_; have rx := row_cut (hr.ext E7) rfl (i := 0) (j := bel I k) (by omega) hb; have ry := row_cut (hr.ext E7) rfl (i := bel I k) (j := I.length) hb (Nat.le_refl _); rw [← hx, List.drop_zero, Nat.sub_zero, ht] at rx; rw [← hy, List.take_of_length_le (by rw [List.length_drop]; exact Nat.le_refl _), hd] at ry; refine ⟨x, y, rfl, E7, rx, ?_⟩; rw [← hd, List.length_drop, hd]; exact ry
def PreCl (all : List (Nat × Nat)) (i : Nat) (vs : List Value) (_ : World) : Prop := ∃ p q, all[i]? = some p ∧ q.oneCell' = true ∧ vs = [.agg (sub p.1 p.2 q).toArray]
theorem filt_in {I : List Nat} {lo k hi : Nat} (h : ∀ i ∈ I, lo ≤ i ∧ i < hi) : (∀ i ∈ I.filter (fun i => Nat.blt i k), lo ≤ i ∧ i < k) ∧ (∀ i ∈ I.filter (fun i => Nat.ble k i), k ≤ i ∧ i < hi) := by
  constructor
  · intro i hi'; obtain ⟨q1, q2⟩ := List.mem_filter.1 hi'; rw [Nat.blt_eq] at q2; exact ⟨(h i q1).1, q2⟩
  · intro i hi'; obtain ⟨q1, q2⟩ := List.mem_filter.1 hi'; exact ⟨Nat.le_of_ble_eq_true q2, (h i q1).2⟩
theorem q6q {I : List Nat} {lo hi : Nat} (hp : I.Pairwise (· < ·)) (h : ∀ i ∈ I, lo ≤ i ∧ i < hi) : I.length ≤ hi - lo := by
  induction I generalizing lo with
  | nil => simp
  | cons i r ih =>
    obtain ⟨ha, hb⟩ := List.pairwise_cons.1 hp; have h1 := h i (by simp); have := ih (lo := i + 1) hb fun j hj => ⟨ha j hj, (h j (by simp [hj])).2⟩; rw [List.length_cons]; omega
set_option maxRecDepth 100000 in
set_option maxHeartbeats 4000000 in
theorem gwalk (g B lp : Nat) (all : List (Nat × Nat)) (J : Nat → World → Prop) (Jx : World → Prop) (hJ : ∀ i a b, J i a → Ext a b → J i b) (hJx : ∀ a b, Jx a → Ext a b → Jx b)
    (hY : ∀ i v a, J i a → PreCl all i v a → YieldAt Fence.wide 8 Tryz.prog lp v.toArray a fun e b => (e = .returned (.bool true) ∧ J (i + 1) b ∧ KeepTy B g 43 a b) ∨ (e = .returned (.bool false) ∧ Jx b)) :
    ∀ (fu lo hi bl bh cnt : Nat) (v : Value) (I : List Nat) (_ : hi - lo < fu) (_ : lo < hi) (_ : hi ≤ 65536) (_ : I.Pairwise (· < ·)) (_ : ∀ i ∈ I, lo ≤ i ∧ i < hi) (_ : bh ≤ B) (_ : ¬ (bl ≤ g ∧ g < bh))
      (_ : ∀ i p, (cls lo hi I)[i]? = some p → all[cnt + i]? = some p) (w : World) (_ : g < w.heap.size) (_ : Row w bl bh 1 v I.length (ints .i64 I)) (_ : J cnt w),
    Calls Tryz.prog 170 #[.agg (sub lo hi v).toArray, q2u lp] w fun e b => (e = .returned (.bool true) ∧ J (cnt + (cls lo hi I).length) b ∧ KeepTy B g 43 w b) ∨ (e = .returned (.bool false) ∧ Jx b)
  | 0, _, _, _, _, _, _, _, h, _, _, _, _, _, _, _, _, _, _, _ => by omega
  | fu + 1, lo, hi, bl, bh, cnt, v, I, hf, hlo, hh, hp, hin, hbB, hgb, hall, w, hgw, hr, hj => by
    have hv1 := q0g hr; have hIl : I.length ≤ 65536 := by
      have : I.length ≤ hi - lo := q6q hp hin; omega
    refine q0j Tryz.func170 rfl Tryz.ntmps170 rfl ?_; (refine q0b<|q0a ?_); refine q1t rfl ?_; intro g2 w2 B2 hg2 E2 hs2; by_cases h0 : I = []
    · subst h0; (refine a_B rfl<|q0c<|tn<|q0b<|q0i<|q0b<|q0a<|Ls (q0q rfl)<|Ls (X_ld rfl B2 rfl)<|Ls (q3m (v := v) rfl hr)<|Ls (X_eql rfl rfl)<|a_B rfl<|q0c<|tn<|q1e rfl<|q0b<|q0a<|Ls (q0d (v := .func _ _ _) rfl) ?_); (refine Ls (q0x rfl B2 rfl) ?_); refine q6l rfl rfl rfl (hY cnt [.agg (sub lo hi v).toArray] w2 (hJ _ _ _ hj E2) ⟨(lo, hi), v, hall 0 _ rfl, hv1, rfl⟩) ?_; rintro e w4 (⟨rfl, hj2, hk2⟩ | ⟨rfl, hjx⟩)
      · refine ⟨.bool true, rfl, ?_⟩; (refine a_B rfl<|q0c<|tn<|q0s<|br<|tr ?_); exact q0e rfl rfl (v := .bool _) rfl (.inl ⟨rfl, hj2, (KeepTy.of_ext E2).trans hk2⟩)
      · refine ⟨.bool false, rfl, ?_⟩; (refine a_B rfl<|q0c<|tn<|q0s<|br<|tr ?_); exact q0e rfl rfl (v := .bool _) rfl (.inr ⟨rfl, hjx⟩)
    · have hI0 : 0 < I.length := List.length_pos_iff.2 h0; by_cases h1 : hi - lo ≤ 1
      · have hcl := q5j h1 h0; (refine a_B rfl<|q0c<|tn<|q0b<|q0i<|q0b<|q0a<|Ls (q0q rfl)<|Ls (X_ld rfl B2 rfl)<|Ls (q3m (v := v) rfl hr)<|Ls (q3t rfl rfl (by omega))<|a_B rfl<|q0c<|tn<|q0z rfl<|q0b<|q0a<|Ls (q0q rfl)<|Ls (X_ld rfl B2 rfl)<|Ls (q0q rfl)<|Ls (X_ld rfl B2 rfl)<|Ls (q2j rfl rfl (by omega))<|Ls (q1y rfl rfl (by omega))<|a_B rfl<|q0c<|tn<|q1e rfl<|q0b<|q0a<|a_B rfl<|q0c<|tn<|q0s<|br<|tr ?_); refine q0e rfl rfl (v := .bool _) rfl (.inl ⟨rfl, ?_, KeepTy.of_ext E2⟩); rw [hcl]; exact hJ _ _ _ hj E2
      · have h2 : 2 ≤ hi - lo := (by omega); have hs1 := q3h h2; have hs0 := q2q (hi - lo); have hcl := q5i h2 h0; obtain ⟨k, hk⟩ : ∃ k, k = lo + spl (hi - lo) := ⟨_, rfl⟩; have hgp := gparts h2 hh bl bh v I hp hIl w2 (hr.ext E2); obtain ⟨fa, fb⟩ := filt_in (k := k) hin; rw [← hk] at hcl hgp; obtain ⟨Ia, hIa⟩ : ∃ Ia, Ia = I.filter fun i => Nat.blt i k := ⟨_, rfl⟩; obtain ⟨Ib, hIb⟩ : ∃ Ib, Ib = I.filter fun i => Nat.ble k i := ⟨_, rfl⟩; have pa : Ia.Pairwise (· < ·) := (by rw [hIa]; exact hp.filter _); have pb : Ib.Pairwise (· < ·) := (by rw [hIb]; exact hp.filter _); rw [← hIa, ← hIb] at hcl hgp; rw [← hIa] at fa; rw [← hIb] at fb; (refine a_B rfl<|q0c<|tn<|q0b<|q0i<|q0b<|q0a<|Ls (q0q rfl)<|Ls (X_ld rfl B2 rfl)<|Ls (q3m (v := v) rfl hr)<|Ls (q3t rfl rfl (by omega))<|a_B rfl<|q0c<|tn<|q0z rfl<|q0b<|q0a<|Ls (q0q rfl)<|Ls (X_ld rfl B2 rfl)<|Ls (q0q rfl)<|Ls (X_ld rfl B2 rfl)<|Ls (q2j rfl rfl (by omega))<|Ls (q3t rfl rfl (by omega))<|a_B rfl<|q0c<|tn<|q0z rfl<|q0p<|bn<|tn<|q0b<|q0a<|Ls (q0x rfl B2 rfl) ?_); refine L_fo (F := fun u w' => ∃ x y, u = .tuple #[.agg (sub lo k x).toArray, .agg (sub k hi y).toArray] ∧ Ext w2 w' ∧ Row w' bl bh 1 x Ia.length (ints .i64 Ia) ∧ Row w' bl bh 1 y Ib.length (ints .i64 Ib)) rfl (hgp.mono fun e w' ⟨x, y, h1, h2⟩ => ⟨_, h1, x, y, rfl, h2⟩) ?_; rintro _ w3 ⟨x, y, rfl, E3, rx, ry⟩; have hx1 := q0g rx; have hy1 := q0g ry; (refine m_T rfl<|Ls (q0m rfl rfl)<|Ls (q0m rfl rfl) ?_); refine q0w ?_; intro g5 w4 B5 hg5 E4 hs5; refine q0w ?_; intro g6 w5 B6 hg6 E5 hs6; refine q0l (l := sub lo k x) rfl rfl rfl (q5c hx1) (B5.ext E5) rfl ?_; intro w6 C5 hg6' hs6'; refine q0l (l := sub k hi y) rfl rfl rfl (q5c hy1) (B6.grown hg6' (by simp; omega)) rfl ?_; intro w7 C6 hg7 hs7; have C5 := C5.grown hg7 (by simp; omega); have hz3 := (E2.trans E3).size; have E7 : Ext w w7 := ((((E2.trans E3).trans E4).trans E5).then hg6' (fun g h => by cases h; omega)).then hg7 (fun g h => by cases h; omega); have E37 : Ext w3 w7 := ((E4.trans E5).then hg6' (fun g h => by cases h; omega)).then hg7 (fun g h => by cases h; omega); have hca : ∀ i p, (cls lo k Ia)[i]? = some p → all[cnt + i]? = some p := fun i p h => hall i p (by rw [hcl, List.getElem?_append_left (List.getElem?_eq_some_iff.1 h).1]; exact h); have hcb : ∀ i p, (cls k hi Ib)[i]? = some p → all[cnt + (cls lo k Ia).length + i]? = some p := fun i p h => by
          rw [Nat.add_assoc]; exact hall _ p (by rw [hcl, List.getElem?_append_right (by omega), Nat.add_sub_cancel_left]; exact h)
        have hgw7 : g < w7.heap.size := Nat.lt_of_lt_of_le hgw E7.size; (refine q0c<|tn<|q0b<|q0a<|Ls (q0x rfl C5 rfl)<|Ls (q0d (v := .func _ _ _) rfl) ?_); refine L_fn (gwalk g B lp all J Jx hJ hJx hY fu lo k bl bh cnt x Ia (by omega) (by omega) (by omega) pa fa hbB hgb hca w7 hgw7 (rx.ext E37) (hJ _ _ _ hj E7)) rfl ?_; rintro e w8 (⟨rfl, hj2, hk2⟩ | ⟨rfl, hjx⟩)
        · have D6 := hk2.blk C6 (by omega) (.inr (by decide)); refine ⟨.bool true, rfl, ?_⟩; (refine m_B rfl ?_); refine q1w rfl rfl rfl ?_; (refine Ls (q0x rfl D6 rfl)<|Lg2 rfl rfl rfl (q0d (v := .func _ _ _) rfl) ?_); refine q1w rfl rfl rfl ?_; refine L_fn (gwalk g B lp all J Jx hJ hJx hY fu k hi bl bh (cnt + (cls lo k Ia).length) y Ib (by omega) (by omega) hh pb fb hbB hgb hcb w8 (Nat.lt_of_lt_of_le hgw7 hk2.size) (hk2.row (ry.ext E37) hgb hbB) hj2) rfl ?_; rintro e w9 (⟨rfl, hj3, hk3⟩ | ⟨rfl, hjx⟩)
          · refine ⟨.bool true, rfl, ?_⟩; (refine Ls (q0v (v := .bool _) rfl rfl)<|a_B rfl<|q0c<|tn<|q0s ?_); refine q0e rfl rfl (v := .bool _) rfl (.inl ⟨rfl, ?_, ((KeepTy.of_ext E7).trans hk2).trans hk3⟩); rw [hcl, List.length_append, ← Nat.add_assoc]; exact hj3
          · refine ⟨.bool false, rfl, ?_⟩; (refine Ls (q0v (v := .bool _) rfl rfl)<|a_B rfl<|q0c<|tn<|q0s ?_); exact q0e rfl rfl (v := .bool _) rfl (.inr ⟨rfl, hjx⟩)
        · refine ⟨.bool false, rfl, ?_⟩; (refine m_B rfl<|Lo2 rfl rfl rfl rfl<|Lo2 rfl rfl rfl rfl<|Lo2 rfl rfl rfl rfl<|Ls (q0u (v := .bool _) rfl rfl)<|a_B rfl<|q0c<|tn<|q0s ?_); exact q0e rfl rfl (v := .bool _) rfl (.inr ⟨rfl, hjx⟩)
section
variable {P : Program} {n : NN} {f : Fr} {w : World} {d : Option Tmp} {t ty e : TypeId} {pos : String} {af : Array Edge} {g : Option (Nat × Bool)} {x y z : Operand}
theorem X_slice2p {size m c b o : Nat} [TSlice P ty e] [TSz P e size] {ky kz : IntKind} {iy iz : Int} (i j : Nat) (hx : ev n f x = .slice (some ⟨b, o, none⟩) m c) (hy : ev n f y = .int ky iy) (hz : ev n f z = .int kz iz) (hi : iy = (i : Int)) (hj : iz = (j : Int)) (hij : i ≤ j) (hjc : j ≤ c) (hic : i < c) :
    X P n ⟨d, .slice ty x (some y) (some z) none, t, pos, af, g⟩ f w = .ok (.value (.slice (some ⟨b, o + i * size, none⟩) (j - i) (c - i))) w := by
  subst hi; subst hj; have h := q4q (P := P) (n := n) (f := f) (w := w) (d := d) (t := t) (ty := ty) (pos := pos) (af := af) (g := g) (x := x) (size := size) (lo := some y) (hi := some z) (i := i) (j := j) hx ⟨_, hy⟩ ⟨_, hz⟩ hij hjc; rw [if_neg (show ¬ c = i by omega), Option.map_some, q9z] at h; exact h
end
set_option maxHeartbeats 1000000 in
theorem gclosed (g B bq hi bl bh : Nat) (v : Value) (I : List Nat) (hlo : 0 < hi) (hh : hi ≤ 65536) (hp : I.Pairwise (· < ·)) (hin : ∀ i ∈ I, i < hi) (hbB : bh ≤ B) (hgb : ¬ (bl ≤ g ∧ g < bh)) (w : World) (hg : g < w.heap.size) (hB : Blk w bq 163 (sub 0 hi v)) (hr : Row w bl bh 1 v I.length (ints .i64 I)) :
    IterL Tryz.prog 169 #[.pointer (some ⟨bq, 0, none⟩)] w (PreCl (cls 0 hi I)) (KeepTy B g 43) Ext Ext (fun i _ => i = (cls 0 hi I).length) := by
  intro lp J Jx w1 E1 hJ hJx hY h0; refine q0j Tryz.func169 rfl Tryz.ntmps169 rfl ?_; have hB1 := hB.ext E1; (refine q0a<|Ls (q0x rfl hB1 rfl)<|Ls (q0d (v := .func _ _ _) rfl) ?_); refine L_fn (gwalk g B lp (cls 0 hi I) J Jx hJ hJx hY (hi + 1) 0 hi bl bh 0 v I (by omega) hlo hh hp (fun i h => ⟨Nat.zero_le _, hin i h⟩) hbB hgb (fun i p h => by rw [Nat.zero_add]; exact h) w1 (Nat.lt_of_lt_of_le hg E1.size) (hr.ext E1) h0) rfl ?_; rintro e w2 (⟨rfl, hj, _⟩ | ⟨rfl, hjx⟩)
  · refine ⟨.bool true, rfl, ?_⟩; (refine q0c ?_); refine q3j rfl rfl ?_; rw [Nat.zero_add] at hj; exact ⟨⟨_, rfl⟩, .inl ⟨_, rfl, hj⟩⟩
  · refine ⟨.bool false, rfl, ?_⟩; (refine q0c ?_); refine q3j rfl rfl ?_; exact ⟨⟨_, rfl⟩, .inr hjx⟩
theorem gclosedMk (lo hi : Nat) (v : Value) (hv : v.oneCell' = true) (w : World) :
    Calls Tryz.prog 122 #[.agg (sub lo hi v).toArray] w fun e w' => ∃ q, e = .returned q ∧ ∃ b, q = .func (.func 169) #[] #[.pointer (some ⟨b, 0, none⟩)] ∧ Ext w w' ∧ Blk w' b 163 (sub lo hi v) ∧ w.heap.size = b := by
  refine q0j Tryz.func122 rfl Tryz.ntmps122 rfl ?_; (refine q0b<|q0a ?_); refine q1t rfl ?_; intro g1 w1 B1 hg1 E1 hs1; (refine Ls (q0k (v := Value.nilFunc) rfl)<|q0c<|tn<|q0b<|q0a ?_); refine Ls (q2r (vf := []) (vc := [.pointer (some ⟨g1, 0, none⟩)]) rfl rfl) ?_; (refine Ls (q0k (v := .func _ _ _) rfl)<|q0c<|tn<|q0s ?_); refine q0e rfl rfl (v := .func _ _ _) rfl ⟨_, rfl, g1, rfl, E1, B1, hg1⟩
theorem q2o {w : World} {g : Nat} {t t' : TypeId} {cs : List Value} {cs' : Array Value} {fz : Nat × Nat} (h : Blk w g t cs) (e : w.heap[g]? = some (.cells cs' t' fz)) (hne : t ≠ t') : False := by
  unfold Blk at h; rw [h] at e; cases e
  exact hne rfl
theorem cls_count : ∀ (n : Nat) (I : List Nat), 0 < n → n ≤ 65536 → (cls 0 n I).length ≤ 65536 := by
  have key : ∀ (f lo hi : Nat) (I : List Nat), hi - lo < f → lo < hi → (cls lo hi I).length ≤ hi - lo := by
    intro f; induction f with
    | zero => intro lo hi I h; omega
    | succ f ih =>
      intro lo hi I hf hlo; by_cases h0 : I = []
      · subst h0; rw [q6f]; simp; omega
      · by_cases h1 : hi - lo ≤ 1
        · rw [q5j h1 h0]; simp
        · have h2 : 2 ≤ hi - lo := (by omega); have hs1 := q3h h2; have hs0 := q2q (hi - lo); rw [q5i h2 h0, List.length_append]; have := ih lo (lo + spl (hi - lo)) (I.filter fun i => Nat.blt i (lo + spl (hi - lo))) (by omega) (by omega); have := ih (lo + spl (hi - lo)) hi (I.filter fun i => Nat.ble (lo + spl (hi - lo)) i) (by omega) (by omega); omega
  intro n I h0 hn; have := key (n + 1) 0 n I (by omega) h0; omega
def OpInv (w0 : World) (g4 g7 g8 gd c8 m : Nat) (D : List (List Nat)) (nodes : List (List Nat)) (i : Nat) (y : World) : Prop :=
  ∃ v, Blk y g7 48 [v] ∧ y.ownsRow w0.heap.size 43 32 v i (dgs (nodes.take i)) ∧ (∀ q, v.ownBlock = some q → q ≠ gd) ∧ i ≤ nodes.length ∧
    Blk y g8 46 [.slice (some ⟨gd, 0, none⟩) m c8] ∧ y.ownsRow w0.heap.size 43 32 (.slice (some ⟨gd, 0, none⟩) m c8) m (dgs D) ∧ Ext w0 y ∧ Blk y g4 48 [.slice none 0 0]
theorem OpInv.calm {w0 : World} {g4 g7 g8 gd c8 m B i : Nat} {D nodes : List (List Nat)} {x y : World} (h : OpInv w0 g4 g7 g8 gd c8 m D nodes i x) (C : K.Calm B x y) (hB : w0.heap.size ≤ B) : OpInv w0 g4 g7 g8 gd c8 m D nodes i y := by
  obtain ⟨v, h1, h2, h3, h4, h5, h6, h7, h8⟩ := h; exact ⟨v, C.blk h1, C.own h2, h3, h4, C.blk h5, C.own h6, C.toExt h7 hB, C.blk h8⟩
theorem opening_ok (M : List (List Nat)) {I : List Nat} (h0 : 0 < M.length) (hI : ∀ p ∈ cls 0 M.length I, p.1 < p.2 ∧ p.2 ≤ M.length) : DgOk (Mk.opening lf nd M I) := by
  intro d hd; obtain ⟨p, hp, rfl⟩ := List.mem_map.1 hd; obtain ⟨h1, h2⟩ := hI p hp; exact q3v _ (((q4c M).drop _).take _) (by unfold Mk.hashes; rw [List.length_take, List.length_drop, List.length_map]; omega)
theorem node_ok (M : List (List Nat)) {p : Nat × Nat} (h1 : p.1 < p.2) (h2 : p.2 ≤ M.length) : (tree nd (((M.map lf).drop p.1).take (p.2 - p.1))).length = 32 :=
  (q3v _ (((q4c M).drop _).take _) (by rw [List.length_take, List.length_drop, List.length_map]; omega)).1
set_option maxRecDepth 100000 in
set_option maxHeartbeats 4000000 in
theorem gmopen (N : Nat → Prop) (v : Value) (M : List (List Nat)) (h1 : 1 ≤ M.length) (hM : M.length ≤ 65536) (hM8 : ∀ b ∈ M, Sha.bytesOk b ∧ b.length ≤ 100000000) (lo hi' : Nat) (u : Value) (I : List Nat) (hp : I.Pairwise (· < ·)) (hin : ∀ i ∈ I, i < M.length) (w : World) (hw : Tb w) (hr : q2l N w .u8 v M) (hru : Row w lo hi' 1 u I.length (ints .i64 I)) :
    Calls Tryz.prog 64 #[v, u] w fun e w' => ∃ q, e = .returned (.tuple #[.agg #[q], .int .i64 0]) ∧ Ext w w' ∧ w'.ownsRow w.heap.size 43 32 q (Mk.opening lf nd M I).length (dgs (Mk.opening lf nd M I)) := by
  have hIl : I.length ≤ 65536 := by
    have := q6q hp (lo := 0) (hi := M.length) fun i h => ⟨Nat.zero_le _, hin i h⟩; omega
  have hcl := Mk.cls_in (M.length + 1) 0 M.length I (by omega) (by omega); have hml : (M.map lf).length = M.length := by simp
  obtain ⟨A, c, rfl, hmc, hcm⟩ := hr.form; have hu1 := q0g hru; have hru := hru.tightN (by decide); refine q5m Tryz.func64 rfl Tryz.ntmps64 rfl ?_; refine q3z ?_; (refine q0a ?_); refine q0w ?_; intro g4 w1 B4 hg4 E1 hs1; (refine a_I rfl<|q0c<|tn ?_); refine q3z ?_; (refine q0b<|q0a<|m_S rfl<|Ls (q0f rfl)<|Ls (q0d (v := u) rfl) ?_); refine L_fv rfl (gcheck h1 hM lo _ u I hin hp hIl w1 (hru.ext E1)) ?_; intro w2 E2; (refine a_I rfl<|q0c<|tn<|q0b<|q0a<|m_I rfl<|Ls (X_neq rfl rfl)<|q0c<|tn ?_); refine q0z rfl ?_; (refine q0p<|tn ?_); refine q3z ?_; (refine q0a ?_); refine q0w ?_; intro g7 w3 B7 hg7 E3 hs3; (refine q0c<|tn ?_); refine q3z ?_; (refine q0a<|m_S rfl ?_); have E13 := E1.trans (E2.trans E3); refine L_fo rfl (ghashes N _ M hM hM8 w3 (hw.ext E13) (hr.ext E13)) ?_; rintro q8 w4 ⟨E4, o4⟩; obtain ⟨gd, c8, rfl, hgd1, hgd2, hgd3, hgd4⟩ := q7s o4 h1; refine q0w ?_; intro g8 w5 B8 hg8 E5 hs5; refine q1k (v := .slice (some ⟨gd, 0, none⟩) M.length c8) rfl rfl rfl B8 (by simp) ?_; intro w6 B8' hg8' hs6; have E6 : Ext w3 w6 := (E4.trans E5).then hg8' (fun g h => by cases h; have := E4.size; omega); have o6 := (q0h o4 E5); have o6 := q1g o6 hg8' (fun q hq h => by
    obtain rfl : gd = q := Option.some.inj hq
    have := Option.some.inj h
    omega)
  have C7 := B7.ext E6; have E06 := E13.trans E6; (refine q0c<|tn ?_); refine q9p ?_; (refine q0a<|m_S rfl<|Ls (q0f rfl)<|Ls (q0d (v := u) rfl) ?_); refine Ls (z3d (a := 0) (b := M.length) hu1 rfl rfl rfl) ?_; refine L_fo rfl (gclosedMk 0 M.length u hu1 w6) ?_; rintro q7 w7 ⟨bq, rfl, E7, Bq, hbq⟩; (refine q0c<|tn ?_); have E07 := E06.trans E7; have hz1 := E1.size; have hz2 := E2.size; have hz4 := E4.size; have hz6 := E6.size; have hz7 := E7.size; have hB7 : g7 < w7.heap.size := (C7.ext E7).lt; obtain ⟨nodes, hnodes⟩ : ∃ nodes, nodes = Mk.opening lf nd M I := ⟨_, rfl⟩; have hnl : nodes.length = (cls 0 M.length I).length := by rw [hnodes]; unfold Mk.opening; simp
  have hnl2 : nodes.length ≤ 65536 := by
    rw [hnl]; exact cls_count M.length I (by omega) hM
  rw [← hnodes]; have hcb : ∀ i x y, OpInv w g4 g7 g8 gd c8 M.length (M.map lf) nodes i x → K.Calm w7.heap.size x y → OpInv w g4 g7 g8 gd c8 M.length (M.map lf) nodes i y := fun i x y h C => h.calm C (by omega); refine T_rangeL (ps := [25]) (Kp := KeepTy w.heap.size g7 43) (It := Ext) (Ix := Ext) rfl (enters_of Tryz.func169 (by kernel_rfl) rfl) (fun i vs a h => by obtain ⟨_, _, _, _, rfl⟩ := h; rfl)
    (gclosed g7 w.heap.size bq M.length lo w.heap.size u I (by omega) hM hp hin (Nat.le_refl _) (by omega) w7 hB7 Bq (hru.ext E07)) (fun _ _ _ h k => h.trans k) (fun _ _ _ o' _ h hc => KeepTy.put o' h hc)
    (fun _ _ E => KeepsFrom.of_ext E) (fun _ _ E => KeepsFrom.of_ext E) (OpInv w g4 g7 g8 gd c8 M.length (M.map lf) nodes) (fun _ => False)
    (fun i x y h E => hcb i x y h (K.Calm.of_ext E)) (fun i x y h hb => hcb i x y h (K.Calm.of_book hb)) (fun _ _ h _ => h) (fun _ _ h _ => h) (fun _ _ _ h _ => h) ⟨.slice none 0 0, C7.ext E7, ⟨rfl, .inl ⟨rfl, rfl⟩⟩, (fun _ h => by cases h), by omega, B8'.ext E7, q1u (q0h o6 E7) (by omega), E07, B4.ext (E2.trans (E3.trans (E6.trans E7)))⟩
    (fun i vs a f' y => ∃ p q g9, (cls 0 M.length I)[i]? = some p ∧ Ext a y ∧ Blk y g9 163 (sub p.1 p.2 q) ∧ f' 7 = .pointer (some ⟨g7, 0, none⟩) ∧ f' 8 = .pointer (some ⟨g8, 0, none⟩) ∧ f' 9 = .pointer (some ⟨g9, 0, none⟩)) (fun i vs a f' b h => by obtain ⟨_, _, _, _, h, _⟩ := h; exact h) (fun a b E => KeepTy.of_ext E) (fun lp vs i x hi hp => ?_) (fun lp i vs x f' y z hi hp hga hbk => ?_) (fun D y hD hdn hyD => ?_)
  · obtain ⟨p, q, hp1, hq1, rfl⟩ := hp; (refine q0a ?_); refine q0w ?_; intro g9 a1 C9 hg9 F9 hs9; refine q0l (l := sub p.1 p.2 q) rfl rfl rfl (q5c hq1) C9 rfl ?_; intro a2 C10 hg10 hs10; (refine q0c ?_); exact ⟨rfl, p, q, g9, hp1, F9.then hg10 (fun g h => by cases h; omega), C10, rfl, rfl, rfl⟩
  · obtain ⟨p, q, g9, hp1, hxy, D9, f7, f8, f9⟩ := hga; have hiz := hcb _ _ _ (hcb _ _ _ hi (K.Calm.of_ext hxy)) (K.Calm.of_book hbk); obtain ⟨v, I1, I2, I3, I4, I5, I6, I7, I8⟩ := hiz; have D9 := (K.Calm.of_book hbk).blk D9; obtain ⟨p1, p2, p3⟩ := hcl p (List.mem_of_getElem? hp1); rw [fold f7, fold f8, fold f9]; have hv1 := q0g (Row.of_own I2); have hIr := q7r I6; have hnd : nodes[i]? = some (tree nd (((M.map lf).drop p.1).take (p.2 - p.1))) := (by rw [hnodes]; unfold Mk.opening; rw [List.getElem?_map, hp1]; rfl); have hni : i < nodes.length := (List.getElem?_eq_some_iff.1 hnd).1; obtain ⟨d, hd⟩ : ∃ d, d = tree nd (((M.map lf).drop p.1).take (p.2 - p.1)) := ⟨_, rfl⟩; have hd32 : d.length = 32 := (by rw [hd]; exact node_ok M p2 p3); have hrow : ∀ y, Ext z y → Row y w.heap.size y.heap.size 32 (.slice (some ⟨gd, 0 + p.1 * 32, none⟩) (p.2 - p.1) (c8 - p.1)) (((M.map lf).drop p.1).take (p.2 - p.1)).length (dgs (((M.map lf).drop p.1).take (p.2 - p.1))) := fun y E => by
      have h := z2v (q4c M) hml ⟨by omega, by have := E.size; have := (I6.lt gd rfl).2; omega⟩ (E.range hIr) hgd3 hgd4 p.1 p.2 (c8 - p.1) (by omega) (by omega) ⟨by omega, by omega⟩ (lo := w.heap.size) (hi := y.heap.size); rw [show (((M.map lf).drop p.1).take (p.2 - p.1)).length = p.2 - p.1 by rw [List.length_take, List.length_drop]; omega]; exact h
    (refine q0i ?_); apply q1f 10 (by kernel_rfl); (apply DW_x (fun r w hA hH => (q0q rfl).trans rfl); apply DW_x (fun r w hA hH => (X_ld rfl (I1.ext hA) rfl).trans rfl); apply DW_x (fun r w hA hH => (X_ld rfl (I5.ext hA) rfl).trans rfl); apply DW_x (fun r w hA hH => (q0q rfl).trans rfl); apply DW_x (fun r w hA hH => (X_ld rfl (D9.ext hA) rfl).trans rfl); apply DW_x (fun r w hA hH => (q0q rfl).trans rfl); apply DW_x (fun r w hA hH => (X_ld rfl (D9.ext hA) rfl).trans rfl)); ((with_reducible apply DW_x); (exact fun r w hA hH => (X_slice2p (size := 32) p.1 p.2 rfl rfl rfl rfl rfl (by omega) (by omega) (by omega)).trans rfl))
    ((with_reducible apply q1v); (exact fun _ => rfl); (exact fun _ => rfl); (exact fun r w hA hH => (by
      have h := gfold (((M.map lf).drop p.1).take (p.2 - p.1)).length _ _ _ (((M.map lf).drop p.1).take (p.2 - p.1)) (Nat.le_refl _) (by rw [List.length_take, List.length_drop]; omega) (by rw [List.length_take, List.length_drop]; omega) (((q4c M).drop _).take _) w (hw.ext (I7.trans hA)) (hrow w hA)
      rw [← hd] at h
      exact h)))
    ((with_reducible apply DW_d (F := fun r v w => RowF z 32 v 1 (ints .u8 d) w)); (exact fun r w hA hH => q6j (z := List.replicate 32 (.int .u8 0)) rfl (by rw [q0n, hd32]; rfl) rfl hA.size); (exact fun _ _ u w w' _ _ hR h => RowF.ext hR h); (exact fun _ _ => rfl)); ((with_reducible exact q1q); (exact rfl); (repeat (first | exact .inr (.inr (fun _ _ => by with_reducible rfl)) | (refine And.intro ?_ ?_) | exact .inr (.inl rfl) | exact .inl (by decide +kernel) | exact trivial | exact .inr (.inr (fun _ _ => rfl)))); (try dsimp only [Nat.reduceAdd])); intro r z1 F1 H1; obtain ⟨l9, h9, hl9, r9⟩ : RowF z 32 (r 9) 1 (ints .u8 d) z1 := H1 9; refine q1o (v := v) (u := r 9) rfl rfl (q0h I2 F1) r9 q1h (by omega) (by omega) (by have := I7.size; have := F1.size; omega) ?_; intro v2 z2 o2 hg2 hb2; have hMut : Mut (fun _ => True) z z2 := (Mut.of_ext F1).trans (Mut.app (q0h I2 F1) hg2 (fun _ _ => trivial)); have hv7 : ∀ q, v.ownBlock = some q → q ≠ g7 ∧ q ≠ g8 := fun q hq => by
      obtain ⟨_, cs, fz, e⟩ := q1i I2 q hq; constructor
      · rintro rfl; exact q2o I1 e (by decide)
      · rintro rfl; exact q2o I5 e (by decide)
    have G7 := (I1.ext F1).grown hg2 (fun h => (hv7 g7 h).1 rfl); have G8 := (I5.ext F1).grown hg2 (fun h => (hv7 g8 h).2 rfl); have G6 := q1g (q0h I6 F1) hg2 (fun q hq h => I3 q h (Option.some.inj hq).symm); have hv2 := q0g (Row.of_own o2); have hK1 : KeepTy w.heap.size g7 43 z z2 := (KeepTy.of_ext F1).trans (KeepTy.of_grown hg2 (fun q hq => .inr (q1i (q0h I2 F1) q hq))); have hE2 : Ext w z2 := (I7.trans F1).then hg2 (fun q hq => (q1i I2 q hq).1); (refine Ls (q0q rfl) ?_); refine q1k (v := v2) rfl rfl hv2 G7 (by simp) ?_; intro z3 G7' hg3 hs3; (refine q0c<|bn ?_); have hgd8 : (gd : Nat) < w5.heap.size := (by have := (q0h o4 E5).lt gd rfl; omega); refine ⟨(hMut.trans (Mut.store G7 hg3 trivial)).keeps, hK1.trans (KeepTy.of_grown hg3 (fun q hq => .inl (Option.some.inj hq).symm)), v2, G7', ?_, fun q hq => ?_, by omega, G8.grown hg3 (by simp; omega), q1g G6 hg3 (fun q hq h => ?_), hE2.then hg3 (fun g h => by cases h; omega), ((I8.ext F1).grown hg2 (fun h => by
      obtain ⟨_, cs, fz, e⟩ := q1i I2 g4 h
      exact q2o I8 e (by decide))).grown hg3 (by simp; omega)⟩
    · rw [List.take_add_one, hnd, ← hd]; have := q1g o2 hg3 (fun q hq h => by
        obtain rfl : g7 = q := Option.some.inj h
        obtain ⟨_, cs, fz, e⟩ := q1i o2 g7 hq
        exact q2o G7 e (by decide))
      rw [show nodes.take i ++ (some d).toList = nodes.take i ++ [d] from rfl, z2x, dgs_one]; exact this
    · rcases hb2 with h | h
      · rw [h] at hq; exact I3 q hq
      · rw [h] at hq; have := Option.some.inj hq; have := (q0h I6 F1).lt gd rfl; omega
    · obtain rfl : gd = q := Option.some.inj hq; obtain ⟨_, cs, fz, e⟩ := q1i G6 gd rfl; obtain rfl : g7 = gd := Option.some.inj h; exact q2o G7 e (by decide)
  · obtain ⟨i, hfin, v, I1, I2, I3, I4, I5, I6, I7, D4⟩ : ∃ i, i = (cls 0 M.length I).length ∧ OpInv w g4 g7 g8 gd c8 M.length (M.map lf) nodes i y := hdn.elim id False.elim; rw [hfin, ← hnl, List.take_length] at I2; have hv1 := q0g (Row.of_own I2); refine q9q ?_; (refine q0b<|q0a<|Ls (q0x (cs := [v]) rfl I1 rfl) ?_); refine q0l (l := [v]) rfl rfl rfl (fun x hx => by rw [List.mem_singleton.1 hx]; exact hv1) D4 rfl ?_; intro y2 D4' hg4' hs4'; (refine a_I rfl<|q0c<|tn<|q0s ?_); refine q4b w7.heap.size [D] rfl rfl (by simp) (fun D' h => ?_) (fun w' hc => ⟨Res.cellA inferInstance rfl ((hc.blk D4').range (fun j u h => by simpa using h)) rfl (Res.tmp rfl .nil), v, rfl, ?_, ?_⟩)
    · rw [List.mem_singleton.1 h]; exact ⟨by omega, (hg4'.block D (Array.getElem?_eq_some_iff.1 hyD).1 (by simp; omega)).trans hyD⟩
    · exact hc.toExt (I7.then hg4' (fun g h => by cases h; omega)) (by omega)
    · refine hc.own (q1g I2 hg4' (fun q hq h => ?_)); obtain rfl : g4 = q := Option.some.inj h; obtain ⟨_, cs, fz, e⟩ := q1i I2 g4 hq; exact q2o D4 e (by decide)
end Go.Proofs.YtpohjepbmgeplaaGreatDoor
namespace Go.Proofs.YtpohjepbmgeplaaGreatDoor
open Go.RowKit Go.Proofs.K
open _root_.Mk (spl q2q q3h reb q8n q8m q8l)
structure VS (NN : Nat → Prop) (gc gN gL : Nat) (cb : Bool) (ns bs : List (List Nat)) (w : World) : Prop where
  c : Blk w gc 4 [.bool cb]
  n : ∃ v, Blk w gN 46 [v] ∧ RowN NN w 32 v ns.length (dgs ns)
  l : ∃ v, Blk w gL 102 [v] ∧ q2l NN w .u8 v bs
def VSs (gc gN gL : Nat) (k : Nat) : Prop := k = gc ∨ k = gN ∨ k = gL
theorem VS.ext {NN : Nat → Prop} {gc gN gL : Nat} {cb : Bool} {ns bs : List (List Nat)} {w w' : World} (h : VS NN gc gN gL cb ns bs w) (E : Ext w w') : VS NN gc gN gL cb ns bs w' := by
  obtain ⟨h1, ⟨v, h2, h3⟩, u, h4, h5⟩ := h; exact ⟨h1.ext E, ⟨v, h2.ext E, h3.ext E⟩, u, h4.ext E, h5.ext E⟩
structure VP (NN : Nat → Prop) (gc gN gL : Nat) : Prop where
  c : ¬ NN gc
  n : ¬ NN gN
  l : ¬ NN gL
  cn : gc ≠ gN
  cl : gc ≠ gL
  nl : gN ≠ gL
theorem VP.out {NN : Nat → Prop} {gc gN gL : Nat} (h : VP NN gc gN gL) : ∀ k, NN k → ¬ VSs gc gN gL k := by
  rintro k hk (rfl | rfl | rfl)
  · exact h.c hk
  · exact h.n hk
  · exact h.l hk
theorem rowN_tail {NN : Nat → Prop} {w : World} {b o m c : Nat} {d : List Nat} {r : List (List Nat)} (hd : d.length = 32) (hok : DgOk r) (h : RowN NN w 32 (.slice (some ⟨b, o, none⟩) m c) (r.length + 1) (dgs (d :: r))) :
    ∃ A, (if c = 1 then (some ⟨b, o, none⟩ : Option Addr) else (some ⟨b, o, none⟩ : Option Addr).map (·.add (1 * 32))) = A ∧ RowN NN w 32 (.slice A (m - 1) (c - 1)) r.length (dgs r) ∧ m = r.length + 1 ∧ m ≤ c := by
  obtain ⟨lo, hi, hN, hr⟩ := h; have hm : m = r.length + 1 ∧ m ≤ c := by
    obtain ⟨_, A, c', e, h1, _⟩ := hr; cases e
    exact ⟨rfl, h1⟩
  have := hr.slice (i := 1) (j := m) (by rw [hm.1]) (by omega) (by omega); refine ⟨_, rfl, ⟨lo, hi, hN, ?_⟩, hm⟩; have e : ((dgs (d :: r)).drop (1 * 32)).take ((m - 1) * 32) = dgs r := by
    have e1 : dgs (d :: r) = ints .u8 d ++ dgs r := rfl; rw [e1, show 1 * 32 = (ints .u8 d).length by rw [q0n, hd], List.drop_left, List.take_of_length_le (by rw [z0o hok]; omega)]
  rw [e] at this; rw [show m - 1 = r.length by omega] at this ⊢; exact this
theorem z2k {w w' : World} {b o g : Nat} {cs : List Value} (h : w.rangeAt b o cs) (hg : w.grownBy w' (some g)) (hb : g ≠ b) : w'.rangeAt b o cs := fun j u hu => World.grownBy.cell hg (h j u hu) (fun e => hb (Option.some.inj e).symm)
set_option maxRecDepth 100000 in
set_option maxHeartbeats 2000000 in
theorem gsrcN {NN : Nat → Prop} {gc gN gL : Nat} (hP : VP NN gc gN gL) (cb : Bool) (ns bs : List (List Nat)) (hn : ns.length ≤ 1000000) (hok : DgOk ns) (w : World) (hV : VS NN gc gN gL cb ns bs w) :
    Calls Tryz.prog 177 #[.pointer (some ⟨gN, 0, none⟩)] w fun e w' => e = .returned (.tuple #[.agg (ints .u8 (ns.headD (List.replicate 32 0))).toArray, .bool (!ns.isEmpty)]) ∧ Mut (VSs gc gN gL) w w' ∧ VS NN gc gN gL cb ns.tail bs w' := by
  obtain ⟨hVc, ⟨v, hVn, hVr⟩, u, hVl, hVp⟩ := hV; obtain ⟨A, c, rfl, hmc, hcm⟩ := hVr.form; have hlN := hVn.lt; refine q0j Tryz.func177 rfl Tryz.ntmps177 rfl ?_; (refine q0b<|q0a ?_); refine q0w ?_; intro g1 w1 B1 hg1 E1 hs1; have C := hVn.ext E1; cases ns with
  | nil =>
    (refine a_B rfl<|q0c<|tn<|q0b<|q0b<|q0a<|Ls (X_ld rfl C rfl)<|Ls (q0f rfl)<|Ls (z1f rfl rfl)<|q0c<|tn ?_); refine q0z rfl ?_; (refine q0p<|tn<|q0b<|q0a<|Ls (q0x rfl B1 rfl)<|m_B rfl ?_); refine q0l (l := ints .u8 (List.replicate 32 0)) (size := 32) rfl rfl rfl q1h B1 rfl ?_; intro w2 B2 hg2 hs2; (refine a_B rfl<|q0c<|tn<|q0s ?_); refine q1c rfl rfl (Res.cellA inferInstance rfl (B2.range (fun j u h => by simpa using h)) rfl (Res.tmp rfl .nil)) ?_; have E2 : Ext w w2 := E1.then hg2 (fun g h => by cases h; omega); exact ⟨rfl, Mut.of_ext E2, (VS.mk hVc ⟨_, hVn, hVr⟩ ⟨_, hVl, hVp⟩ : VS NN gc gN gL cb [] bs w).ext E2⟩
  | cons d rs =>
    have hd := hok d (by simp); obtain ⟨b, o, c', e, hbc, hNb, hR⟩ : ∃ b o c', (Value.slice A (rs.length + 1) c) = .slice (some ⟨b, o, none⟩) (rs.length + 1) c' ∧ b < w.heap.size ∧ rs.length + 1 ≤ c' ∧ w.rangeAt b o (dgs (d :: rs)) := by
      obtain ⟨b, o, c', h1, h2, _, h4, h5⟩ := (hVr.tight (by decide)).at (k := 0) (by simp); exact ⟨b, o, c', h1, h4.2, h2, h5⟩
    cases e
    obtain ⟨A', hA', hT, _, _⟩ := rowN_tail hd.1 (fun x hx => hok x (by simp [hx])) hVr; have hR' : w1.rangeAt b (o + 0 * 32) (ints .u8 d) := by
      rw [Nat.zero_mul, Nat.add_zero]; intro j u hu; refine (E1.range hR) j u ?_; rw [show dgs (d :: rs) = ints .u8 d ++ dgs rs from rfl, List.getElem?_append_left (List.getElem?_eq_some_iff.1 hu).1]; exact hu
    (refine a_B rfl<|q0c<|tn<|q0b<|q0b<|q0a<|Ls (X_ld rfl C rfl)<|Ls (q0f rfl)<|Ls (z1f rfl rfl)<|q0c<|tn ?_); refine q0y rfl (fun _ => ?_) (fun h => (h (by simp)).elim); skip; apply W_dagR (R := RB g1 43 _ _) (AB g1 43 _ (ints .u8 d) w1) 7 (by kernel_rfl) (RB.refl _ _ _ _) (AB.new B1) AB.step; (apply DW_x (fun r w hA hH => (X_ld rfl (C.grown hA.1 (by simp; omega)) rfl).trans rfl); apply DW_x (fun r w hA hH => (q0o (i := 0) rfl rfl (by simp)).trans rfl); apply DW_x (fun r w hA hH => (q1r (size := 32) (cs := ints .u8 d) rfl (z2k hR' hA.1 (by omega)) (by rw [q0n]; exact hd.1)).trans rfl); apply DW_x (fun r w hA hH => (X_ld rfl (C.grown hA.1 (by simp; omega)) rfl).trans rfl)); ((with_reducible apply DW_x); (exact fun r w hA hH => ((q4q (size := 32) (i := 1) (j := rs.length + 1) rfl (by exact ⟨_, rfl⟩) (by exact rfl) (by omega) (by omega)).trans (by rw [hA'])).trans rfl)); apply z3g (o := List.replicate 32 (Value.int .u8 0)) (l := ints .u8 d) (fun _ => rfl) (fun _ => rfl) rfl (by rw [q0n]; exact hd.1) q1h; (apply DW_x (fun r w hA hH => (q0k (v := .bool _) rfl).trans rfl)); ((with_reducible exact q1q); (exact rfl); (repeat (first | exact .inr (.inr (fun _ _ => by with_reducible rfl)) | (refine And.intro ?_ ?_) | exact .inr (.inl rfl) | exact .inl (by decide +kernel) | exact trivial | exact .inr (.inr (fun _ _ => rfl)))); (try dsimp only [Nat.reduceAdd])); intro q w2 A2 H2; have B2 : Blk w2 g1 43 (ints .u8 d) := H2 5; have C2 := C.grown A2.1 (by simp; omega); refine q1k (v := .slice _ _ _) rfl rfl rfl C2 (by simp) ?_; intro w3 C3 hg3 hs3; have B3 := B2.grown hg3 (by simp; omega); (refine q0c<|tn<|q0b<|q0a<|Ls (q0x rfl B3 (by rw [q0n]; exact hd.1))<|m_B rfl ?_); refine q0l (l := ints .u8 d) (size := 32) rfl rfl (by rw [q0n]; exact hd.1) q1h B3 (by rw [q0n]; exact hd.1) ?_; intro w4 B4 hg4 hs4; have C4 := C3.grown hg4 (by simp; omega); (refine a_B rfl<|q0c<|tn<|q0s ?_); refine q1c rfl rfl (Res.cellA inferInstance rfl (B4.range (fun j u h => by simpa using h)) (by rw [q0n]; exact hd.1) (Res.tmp rfl .nil)) ?_; have E2 : Ext w w2 := E1.then A2.1 (fun g h => by cases h; omega); have M3 : Mut (VSs gc gN gL) w w3 := (Mut.of_ext E2).trans (Mut.store C2 hg3 (.inr (.inl rfl))); have M4 : Mut (VSs gc gN gL) w w4 := M3.new B3 hg4 (by omega); have hC4 := ((((hVc.ext E1).grown A2.1 (by have := hVc.lt; simp; omega)).grown hg3 (by have := hP.cn; simp; omega)).grown hg4 (by have := hVc.lt; simp; omega)); have hL4 := ((((hVl.ext E1).grown A2.1 (by have := hVl.lt; simp; omega)).grown hg3 (by have := hP.nl; simp; omega)).grown hg4 (by have := hVl.lt; simp; omega)); exact ⟨rfl, M4, hC4, ⟨_, C4, hT.mut M4 hP.out⟩, u, hL4, hVp.mut M4 hP.out⟩
theorem partN_tail {NN : Nat → Prop} {w : World} {b o m c : Nat} {d : List Nat} {r : List (List Nat)} (h : q2l NN w .u8 (.slice (some ⟨b, o, none⟩) m c) (d :: r)) :
    ∃ A x, (if c = 1 then (some ⟨b, o, none⟩ : Option Addr) else (some ⟨b, o, none⟩ : Option Addr).map (·.add (1 * 1))) = A ∧ q2l NN w .u8 (.slice A (m - 1) (c - 1)) r ∧ m = r.length + 1 ∧ m ≤ c ∧ w.cell? ⟨b, o, none⟩ = some x ∧ x.oneCell' = true ∧ RowN NN w 1 x d.length (ints .u8 d) := by
  obtain ⟨vs, hvl, ⟨lo, hi, hN, hr⟩, he⟩ := h; have hm : m = r.length + 1 ∧ m ≤ c := by
    obtain ⟨_, A, c', e, h1, _⟩ := hr; cases e
    exact ⟨rfl, h1⟩
  cases vs with
  | nil => simp at hvl
  | cons x vs =>
    have hx := he 0 x d rfl rfl; have hc : w.cell? ⟨b, o, none⟩ = some x := by
      obtain ⟨b', o', c', e, _, _, _, h5⟩ := hr.at (k := 0) (by simp); cases e
      have := h5 0 x rfl; exact this
    have := hr.slice (i := 1) (j := m) (by rw [hm.1]; rfl) (by omega) (by rw [hm.1]; simp); refine ⟨_, x, rfl, ⟨vs, by simpa using hvl, ⟨lo, hi, hN, ?_⟩, fun i y z h1 h2 => he (i + 1) y z h1 h2⟩, hm.1, hm.2, hc, hx.cell1, hx⟩; have e : ((x :: vs).drop (1 * 1)).take ((m - 1) * 1) = vs := by
      rw [show ((x :: vs).drop (1 * 1)) = vs from rfl, List.take_of_length_le (by simp at hvl; omega)]
    rw [e] at this; rw [show m - 1 = r.length by omega] at this ⊢; exact this
set_option maxRecDepth 100000 in
set_option maxHeartbeats 2000000 in
theorem gsrcL {NN : Nat → Prop} {gc gN gL : Nat} (hP : VP NN gc gN gL) (cb : Bool) (ns bs : List (List Nat)) (hn : bs.length ≤ 1000000) (w : World) (hV : VS NN gc gN gL cb ns bs w) :
    Calls Tryz.prog 176 #[.pointer (some ⟨gL, 0, none⟩)] w fun e w' => ∃ q, e = .returned (.tuple #[q, .bool (!bs.isEmpty)]) ∧ RowN NN w' 1 q (bs.headD []).length (ints .u8 (bs.headD [])) ∧ Mut (VSs gc gN gL) w w' ∧ VS NN gc gN gL cb ns bs.tail w' := by
  obtain ⟨hVc, ⟨v, hVn, hVr⟩, u, hVl, hVp⟩ := hV; obtain ⟨A, c, rfl, hmc, hcm⟩ := hVp.form; refine q0j Tryz.func176 rfl Tryz.ntmps176 rfl ?_; (refine q0b<|q0a<|a_S rfl<|a_B rfl<|q0c<|tn<|q0b<|q0b<|q0a ?_); cases bs with
  | nil =>
    (refine Ls (X_ld rfl hVl rfl)<|Ls (q0f rfl)<|Ls (z1f rfl rfl)<|q0c<|tn ?_); refine q0z rfl ?_; (refine q0p<|tn<|q0b<|q0a<|m_S rfl<|m_B rfl<|a_S rfl<|a_B rfl<|q0c<|tn<|q0s ?_); refine q2y rfl rfl (v := .slice none 0 0) (x := .bool _) rfl rfl ⟨_, rfl, ⟨0, 0, fun k h1 h2 => by omega, Row.nil _ _ _ _⟩, Mut.refl _, hVc, ⟨_, hVn, hVr⟩, _, hVl, hVp⟩
  | cons d rs =>
    obtain ⟨b, o, c', e, hbc⟩ : ∃ b o c', (Value.slice A (rs.length + 1) c) = .slice (some ⟨b, o, none⟩) (rs.length + 1) c' ∧ rs.length + 1 ≤ c' := by
      obtain ⟨vs, hvl, hvr, _⟩ := hVp; obtain ⟨b, o, c', h1, h2, _⟩ := hvr.at (k := 0) (by simp); exact ⟨b, o, c', h1, h2⟩
    cases e
    obtain ⟨A', x, hA', hT, _, _, hx, hx1, hxr⟩ := partN_tail hVp; have hx' : ∀ w', Ext w w' → w'.cell? ⟨b, o + 0 * 1, none⟩ = some x := fun w' E => (by rw [Nat.zero_mul, Nat.add_zero]; exact E.cell hx); (refine Ls (X_ld rfl hVl rfl)<|Ls (q0f rfl)<|Ls (z1f rfl rfl)<|q0c<|tn ?_); refine q0y rfl (fun _ => ?_) (fun h => (h (by simp)).elim); skip; apply q1f 7 (by kernel_rfl); (apply DW_x (fun r w hA hH => (X_ld rfl (hVl.ext hA) rfl).trans rfl); apply DW_x (fun r w hA hH => (q0o (i := 0) rfl rfl (by simp)).trans rfl); apply DW_x (fun r w hA hH => (q9c rfl (hx' w hA)).trans rfl); apply DW_x (fun r w hA hH => (X_ld rfl (hVl.ext hA) rfl).trans rfl)); ((with_reducible apply DW_x); (exact fun r w hA hH => ((q4q (size := 1) (i := 1) (j := rs.length + 1) rfl (by exact ⟨_, rfl⟩) (by exact rfl) (by omega) (by omega)).trans (by rw [hA'])).trans rfl)); (apply DW_x (fun r w hA hH => (q0k (v := x) rfl).trans rfl); apply DW_x (fun r w hA hH => (q0k (v := .bool _) rfl).trans rfl)); ((with_reducible exact q1q); (exact rfl); (repeat (first | exact .inr (.inr (fun _ _ => by with_reducible rfl)) | (refine And.intro ?_ ?_) | exact .inr (.inl rfl) | exact .inl (by decide +kernel) | exact trivial | exact .inr (.inr (fun _ _ => rfl)))); (try dsimp only [Nat.reduceAdd])); intro q w2 E2 _; refine q1k (v := .slice _ _ _) rfl rfl rfl (hVl.ext E2) (by simp) ?_; intro w3 C3 hg3 hs3; (refine q0c<|tn<|q0b<|q0a<|Ls (q0d (v := x) rfl)<|m_B rfl<|Ls (q0k (v := x) rfl)<|a_B rfl<|q0c<|tn<|q0s ?_); have M3 : Mut (VSs gc gN gL) w w3 := (Mut.of_ext E2).trans (Mut.store (hVl.ext E2) hg3 (.inr (.inr rfl))); refine q2y rfl rfl (v := x) (x := .bool _) rfl rfl ⟨_, rfl, hxr.mut M3 hP.out, M3, (hVc.ext E2).grown hg3 (by have := hP.cl; simp; omega), ⟨_, (hVn.ext E2).grown hg3 (by have := hP.nl; simp; omega), hVr.mut M3 hP.out⟩, _, C3, hT.mut M3 hP.out⟩
structure TbB (B : Nat) : Prop where
  k : 3 < B
  i : 2 < B
  d : 5 < B
  one : 1 < B
  mix : 0 < B
theorem Tb.below {w : World} (h : Tb w) : TbB w.heap.size := ⟨h.k.lt (by decide), h.i.lt (by decide), h.d.lt (by decide), h.one.lt (by decide), h.mix.lt (by decide)⟩
theorem Tb.mut {S : Nat → Prop} {B : Nat} {a b : World} (h : Tb a) (m : Mut S a b) (hB : TbB B) (hS : ∀ k, k < B → ¬ S k) : Tb b :=
  ⟨m.rng h.k (hS _ hB.k), m.rng h.i (hS _ hB.i), m.rng h.d (hS _ hB.d), m.rng h.one (hS _ hB.one), m.rng h.mix (hS _ hB.mix)⟩
structure Fx (gn gl gr gc gN gL : Nat) (w : World) : Prop where
  n : Blk w gn 175 [.func (.func 177) #[] #[.pointer (some ⟨gN, 0, none⟩)]]
  l : Blk w gl 173 [.func (.func 176) #[] #[.pointer (some ⟨gL, 0, none⟩)]]
  r : Blk w gr 177 [.func (.func 133) #[] #[.pointer (some ⟨gn, 0, none⟩), .pointer (some ⟨gc, 0, none⟩), .pointer (some ⟨gl, 0, none⟩), .pointer (some ⟨gr, 0, none⟩)]]
theorem Fx.ext {gn gl gr gc gN gL : Nat} {w w' : World} (h : Fx gn gl gr gc gN gL w) (E : Ext w w') : Fx gn gl gr gc gN gL w' := ⟨h.n.ext E, h.l.ext E, h.r.ext E⟩
theorem Fx.mut {gn gl gr gc gN gL : Nat} {w w' : World} (h : Fx gn gl gr gc gN gL w) (m : Mut (VSs gc gN gL) w w') (h1 : ¬ VSs gc gN gL gn) (h2 : ¬ VSs gc gN gL gl) (h3 : ¬ VSs gc gN gL gr) : Fx gn gl gr gc gN gL w' := ⟨m.blk h.n h1, m.blk h.l h2, m.blk h.r h3⟩
theorem ok_head {ns : List (List Nat)} (h : DgOk ns) : (ns.headD (List.replicate 32 0)).length = 32 ∧ Sha.bytesOk (ns.headD (List.replicate 32 0)) := by
  cases ns with
  | nil => exact z0a 1 _ (by simp)
  | cons d r => exact h d (by simp)
theorem VS.other {B gc gN gL g : Nat} {cb : Bool} {ns bs : List (List Nat)} {w w' : World} (h : VS (fun k => k < B) gc gN gL cb ns bs w) (hG : w.grownBy w' (some g)) (hg : ¬ VSs gc gN gL g) (hB : B ≤ g) : VS (fun k => k < B) gc gN gL cb ns bs w' := by
  obtain ⟨h1, ⟨v, h2, h3⟩, u, h4, h5⟩ := h; have hM : KeepS (fun k => k = g) w w' := ⟨hG.size, fun k o hk _ hne => (hG.block k (q2m hk) (fun e => hne (Option.some.inj e))).trans hk⟩; exact ⟨h1.grown hG (fun e => hg (.inl (Option.some.inj e))), ⟨v, h2.grown hG (fun e => hg (.inr (.inl (Option.some.inj e)))), h3.keepS hM (fun k hk e => by have : k < B := hk; omega)⟩, u, h4.grown hG (fun e => hg (.inr (.inr (Option.some.inj e)))), h5.keepS hM (fun k hk e => by have : k < B := hk; omega)⟩
theorem VS.setc {B gc gN gL : Nat} {cb cb' : Bool} {ns bs : List (List Nat)} {w w' : World} (hP : VP (fun k => k < B) gc gN gL) (h : VS (fun k => k < B) gc gN gL cb ns bs w) (hG : w.grownBy w' (some gc)) (hc : Blk w' gc 4 [.bool cb']) : VS (fun k => k < B) gc gN gL cb' ns bs w' := by
  obtain ⟨h1, ⟨v, h2, h3⟩, u, h4, h5⟩ := h; have hM : KeepS (fun k => k = gc) w w' := ⟨hG.size, fun k o hk _ hne => (hG.block k (q2m hk) (fun e => hne (Option.some.inj e))).trans hk⟩; have hc' := hP.c; exact ⟨hc, ⟨v, h2.grown hG (by have := hP.cn; simp; omega), h3.keepS hM (fun k hk e => by have : k < B := hk; subst e; exact hc' this)⟩, u, h4.grown hG (by have := hP.cl; simp; omega), h5.keepS hM (fun k hk e => by have : k < B := hk; subst e; exact hc' this)⟩
def BsOk (bs : List (List Nat)) : Prop := ∀ b ∈ bs, Sha.bytesOk b ∧ b.length ≤ 100000000
theorem bs_head {bs : List (List Nat)} (h : BsOk bs) : Sha.bytesOk (bs.headD []) ∧ (bs.headD []).length ≤ 100000000 := by
  cases bs with
  | nil => exact ⟨(fun x hx => by cases hx), by simp⟩
  | cons d r => exact h d (by simp)
theorem tail_ok {ns : List (List Nat)} (h : DgOk ns) : DgOk ns.tail := fun d hd => h d (List.mem_of_mem_tail hd)
theorem tail_bs {ns : List (List Nat)} (h : BsOk ns) : BsOk ns.tail := fun d hd => h d (List.mem_of_mem_tail hd)
theorem reb_ok : ∀ (fu lo hi : Nat) (I : List Nat) (ns bs : List (List Nat)), hi - lo < fu → lo < hi → DgOk ns → BsOk bs → ns.length ≤ 1000000 → bs.length ≤ 1000000 →
    ((reb lf nd fu lo hi I ns bs).1.length = 32 ∧ Sha.bytesOk (reb lf nd fu lo hi I ns bs).1) ∧ DgOk (reb lf nd fu lo hi I ns bs).2.1 ∧ BsOk (reb lf nd fu lo hi I ns bs).2.2.1 ∧ (reb lf nd fu lo hi I ns bs).2.1.length ≤ 1000000 ∧ (reb lf nd fu lo hi I ns bs).2.2.1.length ≤ 1000000
  | 0, _, _, _, _, _, h, _, _, _, _, _ => by omega
  | fu + 1, lo, hi, I, ns, bs, hf, hlo, hn, hb, hnl, hbl => by
    by_cases h0 : I = []
    · subst h0; rw [q8n]; cases ns with
      | nil => exact ⟨z0a 1 _ (by simp), hn, hb, hnl, hbl⟩
      | cons d r => exact ⟨hn d (by simp), tail_ok hn, hb, by simp at hnl ⊢; omega, hbl⟩
    · by_cases h1 : hi - lo ≤ 1
      · rw [q8m lf nd h1 h0]; exact ⟨⟨z1p _, lf_ok _⟩, hn, tail_bs hb, hnl, by rw [List.length_tail]; omega⟩
      · have h2 : 2 ≤ hi - lo := (by omega); have hs1 := q3h h2; have hs2 := q2q (hi - lo); rw [q8l lf nd h2 h0]; obtain ⟨a1, a2, a3, a4, a5⟩ := reb_ok fu lo (lo + spl (hi - lo)) (I.filter fun i => Nat.blt i (lo + spl (hi - lo))) ns bs (by omega) (by omega) hn hb hnl hbl; obtain ⟨b1, b2, b3, b4, b5⟩ := reb_ok fu (lo + spl (hi - lo)) hi (I.filter fun i => Nat.ble (lo + spl (hi - lo)) i) _ _ (by omega) (by omega) a2 a3 a4 a5; exact ⟨⟨z1m _ _, nd_ok _ _⟩, b2, b3, b4, b5⟩
set_option maxRecDepth 100000 in
set_option maxHeartbeats 4000000 in
theorem z2p {B gc gN gL gn gl gr : Nat} (hP : VP (fun k => k < B) gc gN gL) (hgn : ¬ VSs gc gN gL gn) (hgl : ¬ VSs gc gN gL gl) (hgr : ¬ VSs gc gN gL gr) (hTB : TbB B) :
    ∀ (fu lo hi bl bh : Nat) (v : Value) (I : List Nat) (cb : Bool) (ns bs : List (List Nat)) (_ : hi - lo < fu) (_ : lo < hi) (_ : hi ≤ 65536) (_ : I.Pairwise (· < ·)) (_ : ∀ i ∈ I, lo ≤ i ∧ i < hi) (_ : bh ≤ B)
      (_ : DgOk ns) (_ : BsOk bs) (_ : ns.length ≤ 1000000) (_ : bs.length ≤ 1000000) (w : World) (_ : Tb w) (_ : Row w bl bh 1 v I.length (ints .i64 I)) (_ : Fx gn gl gr gc gN gL w) (_ : VS (fun k => k < B) gc gN gL cb ns bs w),
    Calls Tryz.prog 133 #[.agg (sub lo hi v).toArray, .pointer (some ⟨gn, 0, none⟩), .pointer (some ⟨gc, 0, none⟩), .pointer (some ⟨gl, 0, none⟩), .pointer (some ⟨gr, 0, none⟩)] w fun e w' =>
      e = .returned (.agg (ints .u8 (reb lf nd fu lo hi I ns bs).1).toArray) ∧ Mut (VSs gc gN gL) w w' ∧ VS (fun k => k < B) gc gN gL (cb && (reb lf nd fu lo hi I ns bs).2.2.2) (reb lf nd fu lo hi I ns bs).2.1 (reb lf nd fu lo hi I ns bs).2.2.1 w'
  | 0, _, _, _, _, _, _, _, _, _, h, _, _, _, _, _, _, _, _, _, _, _, _, _, _ => by omega
  | fu + 1, lo, hi, bl, bh, v, I, cb, ns, bs, hf, hlo, hh, hp, hin, hbB, hn, hb, hnl, hbl, w, hw, hr, hF, hV => by
    have hv1 := q0g hr; have hIl : I.length ≤ 65536 := by
      have : I.length ≤ hi - lo := q6q hp hin; omega
    have hbS : ∀ k, bl ≤ k → k < bh → ¬ VSs gc gN gL k := fun k _ hk => hP.out k (by show k < B; omega); refine q0j Tryz.func133 rfl Tryz.ntmps133 rfl ?_; (refine q0b<|q0a ?_); refine q1t rfl ?_; intro g5 w1 B5 hg5 E1 hs1; refine q0w ?_; intro g6 w2 B6 hg6 E2 hs2; have E12 := E1.trans E2; have C5 := B5.ext E2; have F2 := hF.ext E12; have V2 := hV.ext E12; have hcl : gc < w.heap.size := hV.c.lt; have hnl' : gN < w.heap.size := (by obtain ⟨_, h, _⟩ := hV.n; exact h.lt); have hll' : gL < w.heap.size := (by obtain ⟨_, h, _⟩ := hV.l; exact h.lt); have hnw : ∀ k, w.heap.size ≤ k → ¬ VSs gc gN gL k := by
      rintro k hk (rfl | rfl | rfl) <;> omega
    by_cases h0 : I = []
    · subst h0; (refine q0c<|tn<|q0b<|q0i<|q0b<|q0a<|Ls (q0q rfl)<|Ls (X_ld rfl C5 rfl)<|Ls (q3m (v := v) rfl hr)<|Ls (X_eql rfl rfl)<|a_B rfl<|q0c<|tn<|q1e rfl<|q0b<|q0a ?_); (refine Ls (X_ld rfl F2.n rfl) ?_); refine q5u (vl := []) rfl (gsrcN hP cb ns bs hnl hn w2 V2) rfl ?_; rintro e w3 ⟨rfl, M3, V3⟩; refine ⟨_, rfl, ?_⟩; have hd := ok_head hn; have hres : (reb lf nd (fu + 1) lo hi [] ns bs) = (ns.headD (List.replicate 32 0), ns.tail, bs, !ns.isEmpty) := by
        rw [q8n]; cases ns <;> rfl
      rw [hres]; clear hres; generalize ns.headD (List.replicate 32 0) = D0 at hd ⊢; (refine m_T rfl<|Ls (q0m rfl rfl)<|Ls (q0m rfl rfl) ?_); refine q0w ?_; intro g7 w4 B7 hg7 E4 hs4; have hz3 := M3.size; refine q0l (size := 32) (l := ints .u8 (D0)) rfl rfl (by rw [q0n]; exact hd.1) q1h B7 rfl ?_; intro w5 B7' hg7' hs5; have E35 : Ext w3 w5 := E4.then hg7' (fun g h => by cases h; omega); have V5 := V3.ext E35; have C6 : Blk w5 g6 43 _ := (M3.blk B6 (hnw _ (by omega))).ext E35; have M5 : Mut (VSs gc gN gL) w w5 := ((Mut.of_ext E12).trans M3).ext_ E35; have hfin : ∀ (w6 w7 : World), w5.grownBy w6 (some gc) → Blk w6 gc 4 [.bool (cb && !ns.isEmpty)] → w6.grownBy w7 (some g6) → Mut (VSs gc gN gL) w w7 ∧ VS (fun k => k < B) gc gN gL (cb && !ns.isEmpty) ns.tail bs w7 := by
        intro w6 w7 hG hc hG7; have M6 : Mut (VSs gc gN gL) w w6 := M5.trans (Mut.store V5.c hG (.inl rfl)); have D6 := C6.grown hG (by have := hnw g6 (by omega); intro h; exact this (.inl (Option.some.inj h).symm)); have hBg : B ≤ g6 := by
          have h1 : ¬ gc < B := hP.c; omega
        exact ⟨M6.new D6 hG7 (by omega), (V5.setc hP hG hc).other hG7 (hnw g6 (by omega)) hBg⟩
      have hn6 : some gc ≠ some g6 := (by simp; omega); have hn7 : some gc ≠ some g7 := (by simp; omega); cases cb with
      | false =>
        (refine a_B rfl<|q0c<|tn<|q0b<|q0a<|Ls (X_ld rfl V5.c rfl)<|m_B rfl<|Lo2 rfl rfl rfl rfl<|Ls (q0u (v := .bool _) rfl rfl) ?_); refine q1k (v := .bool false) rfl rfl rfl V5.c (by simp) ?_; intro w6 D gG hs6; (refine q0c<|tn<|q0b<|q0a<|Ls (q0x rfl (B7'.grown gG hn7) (by rw [q0n]; exact hd.1)) ?_); refine q0l (size := 32) (l := ints .u8 (D0)) rfl rfl (by rw [q0n]; exact hd.1) q1h (C6.grown gG hn6) rfl ?_; intro w7 D7 hg7 hs7; (refine q0c<|tn<|q0s<|br<|tr ?_); refine q1c rfl rfl (Res.cellA inferInstance rfl (D7.range (fun j u h => by simpa using h)) (by rw [q0n]; exact hd.1) .nil) ?_; exact ⟨rfl, hfin w6 w7 gG D hg7⟩
      | true =>
        (refine a_B rfl<|q0c<|tn<|q0b<|q0a<|Ls (X_ld rfl V5.c rfl)<|m_B rfl<|Lg2 rfl rfl rfl (q0d (v := .bool _) rfl)<|Ls (q0v (v := .bool _) rfl rfl) ?_); refine q1k (v := .bool (!ns.isEmpty)) rfl rfl rfl V5.c (by simp) ?_; intro w6 D gG hs6; (refine q0c<|tn<|q0b<|q0a<|Ls (q0x rfl (B7'.grown gG hn7) (by rw [q0n]; exact hd.1)) ?_); refine q0l (size := 32) (l := ints .u8 (D0)) rfl rfl (by rw [q0n]; exact hd.1) q1h (C6.grown gG hn6) rfl ?_; intro w7 D7 hg7 hs7; (refine q0c<|tn<|q0s<|br<|tr ?_); refine q1c rfl rfl (Res.cellA inferInstance rfl (D7.range (fun j u h => by simpa using h)) (by rw [q0n]; exact hd.1) .nil) ?_; exact ⟨rfl, hfin w6 w7 gG (by rw [Bool.true_and]; exact D) hg7⟩
    · have hI0 : 0 < I.length := List.length_pos_iff.2 h0; have hBg : B ≤ g6 := by
        have h1 : ¬ gc < B := hP.c; omega
      by_cases h1 : hi - lo ≤ 1
      · (refine q0c<|tn<|q0b<|q0i<|q0b<|q0a<|Ls (q0q rfl)<|Ls (X_ld rfl C5 rfl)<|Ls (q3m (v := v) rfl hr)<|Ls (q3t rfl rfl (by omega))<|a_B rfl<|q0c<|tn<|q0z rfl<|q0b<|q0a<|Ls (q0q rfl)<|Ls (X_ld rfl C5 rfl)<|Ls (q0q rfl)<|Ls (X_ld rfl C5 rfl)<|Ls (q2j rfl rfl (by omega))<|Ls (q1y rfl rfl (by omega))<|a_B rfl<|q0c<|tn<|q1e rfl<|q0b<|q0a ?_); (refine Ls (X_ld rfl F2.l rfl) ?_); refine q5u (vl := []) rfl (gsrcL hP cb ns bs hbl w2 V2) rfl ?_; rintro e w3 ⟨q, rfl, ⟨ql, qh, hqN, rq⟩, M3, V3⟩; refine ⟨_, rfl, ?_⟩; have hd := bs_head hb; have hq1 := q0g rq; rw [q8m lf nd h1 h0]; have hw3 := (hw.ext E12).mut M3 hTB (fun k hk => hP.out k hk); (refine m_T rfl<|Ls (q0m rfl rfl)<|Ls (q0m rfl rfl)<|Ls (q0k (v := q) rfl)<|a_B rfl<|q0c<|tn<|q0b<|q0a<|Ls (q0d (v := q) rfl) ?_); refine L_fv rfl (gleaf ql qh q (bs.headD []) hd.1 hd.2 w3 hw3 rq) ?_; intro w4 E4; have hz3 := M3.size; have C6 : Blk w4 g6 43 _ := (M3.blk B6 (hnw _ (by omega))).ext E4; have M4 : Mut (VSs gc gN gL) w w4 := ((Mut.of_ext E12).trans M3).ext_ E4; generalize bs.headD [] = D0 at hd ⊢; refine q0l (size := 32) (l := ints .u8 (lf D0)) rfl rfl (by rw [q0n]; exact z1p _) q1h C6 rfl ?_; intro w7 D7 hg7 hs7; (refine q0c<|tn<|q0s<|br<|tr ?_); refine q1c rfl rfl (Res.cellA inferInstance rfl (D7.range (fun j u h => by simpa using h)) (by rw [q0n]; exact z1p _) .nil) ?_; refine ⟨rfl, M4.new C6 hg7 (by omega), ?_⟩; rw [Bool.and_true]; exact (V3.ext E4).other hg7 (hnw g6 (by omega)) hBg
      · have h2 : 2 ≤ hi - lo := (by omega); have hs1' := q3h h2; have hs0 := q2q (hi - lo); obtain ⟨k, hk⟩ : ∃ k, k = lo + spl (hi - lo) := ⟨_, rfl⟩; have hgp := gparts h2 hh bl bh v I hp hIl w2 (hr.ext E12); obtain ⟨fa, fb⟩ := filt_in (k := k) hin; have hrb := q8l (f := fu) lf nd h2 h0 ns bs; rw [← hk] at hgp hrb; obtain ⟨Ia, hIa⟩ : ∃ Ia, Ia = I.filter fun i => Nat.blt i k := ⟨_, rfl⟩; obtain ⟨Ib, hIb⟩ : ∃ Ib, Ib = I.filter fun i => Nat.ble k i := ⟨_, rfl⟩; have pa : Ia.Pairwise (· < ·) := (by rw [hIa]; exact hp.filter _); have pb : Ib.Pairwise (· < ·) := (by rw [hIb]; exact hp.filter _); rw [← hIa, ← hIb] at hgp hrb; rw [← hIa] at fa; rw [← hIb] at fb; obtain ⟨a1, a2, a3, a4, a5⟩ := reb_ok fu lo k Ia ns bs (by omega) (by omega) hn hb hnl hbl; obtain ⟨ra, hra⟩ : ∃ ra, ra = reb lf nd fu lo k Ia ns bs := ⟨_, rfl⟩; obtain ⟨rb, hrb'⟩ : ∃ rb, rb = reb lf nd fu k hi Ib ra.2.1 ra.2.2.1 := ⟨_, rfl⟩; rw [← hra] at a1 a2 a3 a4 a5 hrb; have b1 := (reb_ok fu k hi Ib ra.2.1 ra.2.2.1 (by omega) (by omega) a2 a3 a4 a5).1; dsimp only at hrb; rw [← hrb'] at hrb b1; rw [hrb]; (refine q0c<|tn<|q0b<|q0i<|q0b<|q0a<|Ls (q0q rfl)<|Ls (X_ld rfl C5 rfl)<|Ls (q3m (v := v) rfl hr)<|Ls (q3t rfl rfl (by omega))<|a_B rfl<|q0c<|tn<|q0z rfl<|q0b<|q0a<|Ls (q0q rfl)<|Ls (X_ld rfl C5 rfl)<|Ls (q0q rfl)<|Ls (X_ld rfl C5 rfl)<|Ls (q2j rfl rfl (by omega))<|Ls (q3t rfl rfl (by omega))<|a_B rfl<|q0c<|tn<|q0z rfl<|q0p<|bn<|tn<|q0b<|q0a<|Ls (q0x rfl C5 rfl) ?_); refine L_fo (F := fun u w' => ∃ x y, u = .tuple #[.agg (sub lo k x).toArray, .agg (sub k hi y).toArray] ∧ Ext w2 w' ∧ Row w' bl bh 1 x Ia.length (ints .i64 Ia) ∧ Row w' bl bh 1 y Ib.length (ints .i64 Ib)) rfl (hgp.mono fun e w' ⟨x, y, h1, h2⟩ => ⟨_, h1, x, y, rfl, h2⟩) ?_; rintro _ w3 ⟨x, y, rfl, E3, rx, ry⟩; have hx1 := q0g rx; have hy1 := q0g ry; (refine m_T rfl<|Ls (q0m rfl rfl)<|Ls (q0m rfl rfl) ?_); refine q0w ?_; intro g11 w4 B11 hg11 E4 hs11; refine q0w ?_; intro g12 w5 B12 hg12 E5 hs12; refine q0l (l := sub lo k x) rfl rfl rfl (q5c hx1) (B11.ext E5) rfl ?_; intro w6 C11 hg6' hs6'; refine q0l (l := sub k hi y) rfl rfl rfl (q5c hy1) (B12.grown hg6' (by simp; omega)) rfl ?_; intro w7 C12 hg7 hs7; have C11 := C11.grown hg7 (by simp; omega); have hz3 := (E12.trans E3).size; have E7 : Ext w w7 := ((((E12.trans E3).trans E4).trans E5).then hg6' (fun g h => by cases h; omega)).then hg7 (fun g h => by cases h; omega); have E37 : Ext w3 w7 := ((E4.trans E5).then hg6' (fun g h => by cases h; omega)).then hg7 (fun g h => by cases h; omega); have E27 := E3.trans E37; have F7 := F2.ext E27; (refine q0c<|tn<|q0b<|q0a<|Ls (X_ld rfl F7.r rfl)<|Ls (q0x rfl C11 rfl) ?_); refine q5u (vl := [.agg (sub lo k x).toArray]) rfl (z2p hP hgn hgl hgr hTB fu lo k bl bh x Ia cb ns bs (by omega) (by omega) (by omega) pa fa hbB hn hb hnl hbl w7 (hw.ext E7) (rx.ext E37) F7 (V2.ext E27)) rfl ?_; rintro e w8 ⟨rfl, M8, V8⟩; rw [← hra] at V8 ⊢; refine ⟨_, rfl, ?_⟩; skip; refine q0w ?_; intro g13 w9 B13 hg13 E9 hs13; refine q0l (size := 32) (l := ints .u8 ra.1) rfl rfl (by rw [q0n]; exact a1.1) q1h B13 rfl ?_; intro w10 C13 hg10 hs10; have hz7 := E7.size; have hz8 := M8.size; have E810 : Ext w8 w10 := E9.then hg10 (fun g h => by cases h; omega); have D12 : Blk w10 g12 163 (sub k hi y) := (M8.blk C12 (hnw _ (by omega))).ext E810; have D6 : Blk w10 g6 43 _ := (M8.blk (B6.ext E27) (hnw _ (by omega))).ext E810; have F10 := (F7.mut M8 hgn hgl hgr).ext E810; have V10 := V8.ext E810; have hw10 := ((hw.ext E7).mut M8 hTB (fun k hk => hP.out k hk)).ext E810; have ry10 := (M8.row (ry.ext E37) hbS).ext E810; have hVo : ¬ VSs gc gN gL g13 := hnw _ (by omega); have hVo12 : ¬ VSs gc gN gL g12 := hnw _ (by omega); (refine q0c<|tn<|q0b ?_); apply W_dagM 3 (VSs gc gN gL) (fun w' => Ext w10 w') 4 (by kernel_rfl) (Ext.drew _) (fun _ _ E h => h.trans E); (apply DW_x (fun r w hA hH => (q0x rfl (hA.g.blk C13 hVo) (by rw [q0n]; exact a1.1)).trans rfl); apply DW_x (fun r w hA hH => (X_ld rfl (F10.mut hA.g hgn hgl hgr).r rfl).trans rfl); apply DW_x (fun r w hA hH => (q0x rfl (hA.g.blk D12 hVo12) rfl).trans rfl)); apply DW_frc (F := fun v w' => v = .agg (ints .u8 rb.1).toArray ∧ VS (fun k => k < B) gc gN gL ((cb && ra.2.2.2) && rb.2.2.2) rb.2.1 rb.2.2.1 w') (first := #[]) (cap := #[.pointer (some ⟨gn, 0, none⟩), .pointer (some ⟨gc, 0, none⟩), .pointer (some ⟨gl, 0, none⟩), .pointer (some ⟨gr, 0, none⟩)]) (vl := fun _ => [.agg (sub k hi y).toArray]) (fun _ => rfl) (fun _ => rfl) (fun r w hA hH => by
          have hE := hA.pre (.inl rfl)
          have h := z2p hP hgn hgl hgr hTB fu k hi bl bh y Ib (cb && ra.2.2.2) ra.2.1 ra.2.2.1 (by omega) (by omega) hh pb fb hbB a2 a3 a4 a5 w (hw10.ext hE) (ry10.ext hE) (F10.ext hE) (V10.ext hE)
          rw [← hrb'] at h
          exact h.mono fun e w' ⟨h1, h2, h3⟩ => ⟨_, h1, .inr ⟨rfl, h2⟩, rfl, h3⟩) (fun i v w w' hi' _ hR h => ⟨h.1, h.2.ext (hR.other hi')⟩)
        ((with_reducible exact q1q); (exact rfl); (repeat (first | exact .inr (.inr (fun _ _ => by with_reducible rfl)) | (refine And.intro ?_ ?_) | exact .inr (.inl rfl) | exact .inl (by decide +kernel) | exact trivial | exact .inr (.inr (fun _ _ => rfl)))); (try dsimp only [Nat.reduceAdd])); intro r w11 M11 H11; obtain ⟨hr3, V11⟩ : r 3 = .agg (ints .u8 rb.1).toArray ∧ VS (fun k => k < B) gc gN gL ((cb && ra.2.2.2) && rb.2.2.2) rb.2.1 rb.2.2.1 w11 := H11 3; rw [hr3]; have hw11 := hw10.mut M11 hTB (fun k hk => hP.out k hk); refine L_fv rfl (gpair ra.1 rb.1 a1.2 b1.2 a1.1 b1.1 w11 hw11) ?_; intro w12 E12'; have G6 := (M11.blk D6 (hnw _ (by omega))).ext E12'; refine q0l (size := 32) (l := ints .u8 (nd ra.1 rb.1)) rfl rfl (by rw [q0n]; exact z1m _ _) q1h G6 rfl ?_; intro w13 G13 hg13' hs13'; (refine q0c<|tn<|q0s ?_); refine q1c rfl rfl (Res.cellA inferInstance rfl (G13.range (fun j u h => by simpa using h)) (by rw [q0n]; exact z1m _ _) .nil) ?_; have MM : Mut (VSs gc gN gL) w w12 := ((((Mut.of_ext E7).trans M8).ext_ E810).trans M11).ext_ E12'; refine ⟨rfl, MM.new G6 hg13' (by omega), ?_⟩; rw [← Bool.and_assoc]; exact (V11.ext E12').other hg13' (hnw g6 (by omega)) hBg
end Go.Proofs.YtpohjepbmgeplaaGreatDoor
namespace Go.Proofs.YtpohjepbmgeplaaGreatDoor
open Go.RowKit Go.Proofs.K
open _root_.Mk (reb okP okR)
instance (n : Nat) (I : List Nat) (bs ns : List (List Nat)) (r : List Nat) : Decidable (okP lf nd n I bs ns r) := by unfold Mk.okP; exact inferInstance
theorem gsrcNMk (v : Value) (hv : v.oneCell' = true) (w : World) :
    Calls Tryz.prog 132 #[v] w fun e w' => ∃ q, e = .returned q ∧ Ext w w' ∧ ∃ b, q = .func (.func 177) #[] #[.pointer (some ⟨b, 0, none⟩)] ∧ w.heap.size ≤ b ∧ Blk w' b 46 [v] := by
  refine q0j Tryz.func132 rfl Tryz.ntmps132 rfl ?_; (refine q0b<|q0a ?_); refine q3u rfl hv ?_; intro g1 w1 B1 hg1 E1 hs1; (refine Ls (q0k (v := Value.nilFunc) rfl)<|q0c<|tn<|q0b<|q0a ?_); refine Ls (q2r (vf := []) (vc := [.pointer (some ⟨g1, 0, none⟩)]) rfl rfl) ?_; (refine Ls (q0k (v := .func _ _ _) rfl)<|q0c<|tn<|q0s ?_); refine q0e rfl rfl (v := .func _ _ _) rfl ⟨_, rfl, E1, g1, rfl, by omega, B1⟩
theorem gsrcLMk (v : Value) (hv : v.oneCell' = true) (w : World) :
    Calls Tryz.prog 131 #[v] w fun e w' => ∃ q, e = .returned q ∧ Ext w w' ∧ ∃ b, q = .func (.func 176) #[] #[.pointer (some ⟨b, 0, none⟩)] ∧ w.heap.size ≤ b ∧ Blk w' b 102 [v] := by
  refine q0j Tryz.func131 rfl Tryz.ntmps131 rfl ?_; (refine q0b<|q0a ?_); refine q3u rfl hv ?_; intro g1 w1 B1 hg1 E1 hs1; (refine Ls (q0k (v := Value.nilFunc) rfl)<|q0c<|tn<|q0b<|q0a ?_); refine Ls (q2r (vf := []) (vc := [.pointer (some ⟨g1, 0, none⟩)]) rfl rfl) ?_; (refine Ls (q0k (v := .func _ _ _) rfl)<|q0c<|tn<|q0s ?_); refine q0e rfl rfl (v := .func _ _ _) rfl ⟨_, rfl, E1, g1, rfl, by omega, B1⟩
theorem infF0 : (Tryz.prog.info? 173).map (fun i => (i.zero, i.size, i.bytes)) = some (some Value.nilFunc, 1, 8) := by kernel_rfl
instance : TZero Tryz.prog 173 [Value.nilFunc] := q2b infF0 (by rfl)
theorem infF1 : (Tryz.prog.info? 175).map (fun i => (i.zero, i.size, i.bytes)) = some (some Value.nilFunc, 1, 8) := by kernel_rfl
instance : TZero Tryz.prog 175 [Value.nilFunc] := q2b infF1 (by rfl)
theorem infF2 : (Tryz.prog.info? 177).map (fun i => (i.zero, i.size, i.bytes)) = some (some Value.nilFunc, 1, 8) := by kernel_rfl
instance : TZero Tryz.prog 177 [Value.nilFunc] := q2b infF2 (by rfl)
set_option maxRecDepth 100000 in
set_option maxHeartbeats 4000000 in
theorem gmverify {n : Nat} (h1 : 1 ≤ n) (hn : n ≤ 65536) (rt : List Nat) (hrt : rt.length = 32) (hrt8 : Sha.bytesOk rt) (bl bh : Nat) (iv bv nv : Value) (I : List Nat) (bs ns : List (List Nat)) (hp : I.Pairwise (· < ·)) (hin : ∀ i ∈ I, i < n) (hbl : bs.length = I.length) (hb : BsOk bs) (hnk : DgOk ns) (hnl : ns.length ≤ 1000000)
    (w : World) (hw : Tb w) (hri : Row w bl bh 1 iv I.length (ints .i64 I)) (hrb : q2l (fun _ => True) w .u8 bv bs) (hrn : RowN (fun _ => True) w 32 nv ns.length (dgs ns)) :
    Calls Tryz.prog 80 #[.agg (ints .u8 rt).toArray, .int .i64 (n : Nat), .agg #[iv, bv], .agg #[nv]] w fun e w' => e = .returned (.int .i64 (if okP lf nd n I bs ns rt then 0 else 80)) ∧ Ext w w' := by
  have hIl : I.length ≤ 65536 := by
    have := q6q hp (lo := 0) (hi := n) fun i h => ⟨Nat.zero_le _, hin i h⟩; omega
  have hri := hri.tightN (by decide); have hrb := (hrb.tight).mono (N' := fun k => k < w.heap.size) fun k h => h.2; have hrn := (hrn.tight (by decide)).mono (N' := fun k => k < w.heap.size) fun k h => h.2; have hTB := hw.below; obtain ⟨Ai, ci, rfl⟩ : ∃ A c, iv = .slice A I.length c := by
    obtain ⟨_, A, c, rfl, _⟩ := hri; exact ⟨A, c, rfl⟩
  obtain ⟨Ab, cb, rfl, _⟩ := hrb.form; obtain ⟨An, cn, rfl, _⟩ := hrn.form; refine q0j Tryz.func80 rfl Tryz.ntmps80 rfl ?_; (refine q0b<|q0a ?_); refine q1t rfl ?_; intro g4 w1 B4 hg4 E1 hs1; refine q1t (l := [.slice Ai I.length ci, .slice Ab bs.length cb]) rfl ?_; intro g6 w2 B6 hg6 E2 hs2; refine q1t (l := [.slice An ns.length cn]) rfl ?_; intro g7 w3 B7 hg7 E3 hs3; have C4 := B4.ext (E2.trans E3); have C6 := B6.ext E3; have E13 := E1.trans (E2.trans E3); (refine a_I rfl<|q0c<|tn<|q0b<|q0a<|m_I rfl<|Ls (q0q rfl)<|Ls (X_ld rfl C6 rfl) ?_); refine L_fv rfl (gcheck h1 hn bl _ _ I hin hp hIl w3 (hri.ext E13)) ?_; intro w4 E4; have C4 := C4.ext E4; have C6 := C6.ext E4; have C7 := B7.ext E4; (refine a_I rfl<|q0c<|tn<|q0b<|q0b<|q0a<|m_I rfl<|Ls (q2z rfl rfl (by omega))<|m_B rfl<|Lg2 rfl rfl rfl (q0q rfl)<|Lg2 rfl rfl rfl (X_ld rfl C6 rfl)<|Lg2 rfl rfl rfl (q0f rfl)<|Lg2 rfl rfl rfl (q0q rfl)<|Lg2 rfl rfl rfl (X_ld rfl C6 rfl)<|Lg2 rfl rfl rfl (q0f rfl)<|Lg2 rfl rfl rfl (q3l rfl rfl (by omega))<|Ls (q0u (v := .bool _) rfl rfl)<|q0c<|tn<|q0z rfl<|q0p<|tn<|q0b<|q0b<|q0a<|m_I rfl<|Ls (q3l rfl rfl (by omega))<|q0c<|tn<|q0z rfl<|q0p<|tn<|q0b ?_); apply q1f 8 (by kernel_rfl); (apply DW_x (fun r w hA hH => (q0q rfl).trans rfl); apply DW_x (fun r w hA hH => (X_ld rfl (C6.ext hA) rfl).trans rfl)); ((with_reducible apply q9t (F := fun q w' => ∃ b, q = .func (.func 176) #[] #[.pointer (some ⟨b, 0, none⟩)] ∧ w4.heap.size ≤ b ∧ Blk w' b 102 [.slice Ab bs.length cb])); (exact fun _ => rfl); (exact fun _ => rfl); (exact fun r w hA hH => (gsrcLMk (.slice Ab bs.length cb) rfl w).mono fun e w' ⟨q, h1, h2, b, h3, h4, h5⟩ => ⟨q, h1, h2, b, h3, Nat.le_trans hA.size h4, h5⟩); (exact fun i u w w' hi ht hR h => (let ⟨b, h3, h4, h5⟩ := h; ⟨b, h3, h4, h5.ext hR⟩))); (apply DW_x (fun r w hA hH => (q0q rfl).trans rfl); apply DW_x (fun r w hA hH => (X_ld rfl (C7.ext hA) rfl).trans rfl)); ((with_reducible apply q9t (F := fun q w' => ∃ b, q = .func (.func 177) #[] #[.pointer (some ⟨b, 0, none⟩)] ∧ w4.heap.size ≤ b ∧ Blk w' b 46 [.slice An ns.length cn])); (exact fun _ => rfl); (exact fun _ => rfl); (exact fun r w hA hH => (gsrcNMk (.slice An ns.length cn) rfl w).mono fun e w' ⟨q, h1, h2, b, h3, h4, h5⟩ => ⟨q, h1, h2, b, h3, Nat.le_trans hA.size h4, h5⟩); (exact fun i u w w' hi ht hR h => (let ⟨b, h3, h4, h5⟩ := h; ⟨b, h3, h4, h5.ext hR⟩))); apply q8f (w0 := w4) (fun w hA => hA.size); apply q8f (w0 := w4) (fun w hA => hA.size); ((with_reducible exact q1q); (exact rfl); (repeat (first | exact .inr (.inr (fun _ _ => by with_reducible rfl)) | (refine And.intro ?_ ?_) | exact .inr (.inl rfl) | exact .inl (by decide +kernel) | exact trivial | exact .inr (.inr (fun _ _ => rfl)))); (try dsimp only [Nat.reduceAdd])); intro r w5 E5 H5; obtain ⟨gL, hr2, hgL, BL⟩ : ∃ b, r 2 = .func (.func 176) #[] #[.pointer (some ⟨b, 0, none⟩)] ∧ w4.heap.size ≤ b ∧ Blk w5 b 102 [.slice Ab bs.length cb] := H5 2; obtain ⟨gN, hr5, hgN, BN⟩ : ∃ b, r 5 = .func (.func 177) #[] #[.pointer (some ⟨b, 0, none⟩)] ∧ w4.heap.size ≤ b ∧ Blk w5 b 46 [.slice An ns.length cn] := H5 5; obtain ⟨gl, hr6, hgl, Bl⟩ : NewF w4 _ _ (r 6) w5 := H5 6; obtain ⟨gn, hr7, hgn, Bn⟩ : NewF w4 _ _ (r 7) w5 := H5 7; rw [hr2, hr5, hr6, hr7]; have n1 : gL ≠ gN := BL.ne_ BN (by decide); have n2 : gL ≠ gl := BL.ne_ Bl (by decide); have n3 : gL ≠ gn := BL.ne_ Bn (by decide); have n4 : gN ≠ gl := BN.ne_ Bl (by decide); have n5 : gN ≠ gn := BN.ne_ Bn (by decide); have n6 : gl ≠ gn := Bl.ne_ Bn (by decide); refine q1k (v := .func _ _ _) rfl rfl rfl Bl (by simp) ?_; intro w6 Dl hg6' hs6; refine q1k (v := .func _ _ _) rfl rfl rfl (Bn.grown hg6' (by simp; omega)) (by simp) ?_; intro w7 Dn hg7' hs7; have Dl := Dl.grown hg7' (by simp; omega); have DL := (BL.grown hg6' (by simp; omega)).grown hg7' (by simp; omega); have DN := (BN.grown hg6' (by simp; omega)).grown hg7' (by simp; omega); have hzL := BL.lt; have hzN := BN.lt; have hzl := Bl.lt; have hzn := Bn.lt; have hz4 : w.heap.size ≤ w4.heap.size := (E13.trans E4).size; have hl4 := B4.lt; have hz14 : w1.heap.size ≤ w4.heap.size := (E2.trans (E3.trans E4)).size; have E47 : Ext w4 w7 := (E5.then hg6' (fun g h => by cases h; omega)).then hg7' (fun g h => by cases h; omega); (refine q0c<|tn<|q0b<|q0a ?_); refine q0w ?_; intro gc w8 Bc hgc E8 hs8; refine q1k (v := .bool true) rfl rfl rfl Bc (by simp) ?_; intro w9 Dc hg9 hs9; have E79 : Ext w7 w9 := E8.then hg9 (fun g h => by cases h; omega); (refine q0c<|tn<|q0b<|q0a ?_); refine q0w ?_; intro gr w10 Br hgr E10 hs10; (refine q0c<|tn<|q0b<|q0a ?_); refine Ls (q2r (vf := []) (vc := [.pointer (some ⟨gn, 0, none⟩), .pointer (some ⟨gc, 0, none⟩), .pointer (some ⟨gl, 0, none⟩), .pointer (some ⟨gr, 0, none⟩)]) rfl rfl) ?_; refine q1k (v := .func _ _ _) rfl rfl rfl Br (by simp) ?_; intro w11 Dr hg11 hs11; have E911 : Ext w9 w11 := E10.then hg11 (fun g h => by cases h; omega); have E711 := E79.trans E911; have E411 := E47.trans E711; have E11 : Ext w w11 := (E13.trans E4).trans E411; have F11 : Fx gn gl gr gc gN gL w11 := ⟨Dn.ext E711, Dl.ext E711, Dr⟩; have C6' := C6.ext E411; have V11 : VS (fun k => k < w.heap.size) gc gN gL true ns bs w11 := ⟨Dc.ext E911, ⟨_, DN.ext E711, hrn.ext E11⟩, _, DL.ext E711, hrb.ext E11⟩; have hP : VP (fun k => k < w.heap.size) gc gN gL := ⟨(by show ¬ (gc < w.heap.size); omega), (by show ¬ (gN < w.heap.size); omega), (by show ¬ (gL < w.heap.size); omega), by omega, by omega, n1.symm⟩; have sn : ¬ VSs gc gN gL gn := by rintro (h | h | h) <;> omega
  have sl : ¬ VSs gc gN gL gl := by rintro (h | h | h) <;> omega
  have sr : ¬ VSs gc gN gL gr := by rintro (h | h | h) <;> omega
  obtain ⟨ra, hra⟩ : ∃ ra, ra = reb lf nd (n + 1) 0 n I ns bs := ⟨_, rfl⟩; obtain ⟨a1, a2, a3, a4, a5⟩ := reb_ok (n + 1) 0 n I ns bs (by omega) (by omega) hnk hb hnl (by omega); have hreb := z2p hP sn sl sr hTB (n + 1) 0 n bl w.heap.size (.slice Ai I.length ci) I true ns bs (by omega) (by omega) hn hp (fun i h => ⟨Nat.zero_le _, hin i h⟩) (Nat.le_refl _) hnk hb hnl (by omega) w11 (hw.ext E11) (hri.ext E11) F11 V11; rw [← hra] at hreb a1 a2 a3 a4 a5; have hok : okP lf nd n I bs ns rt ↔ ra.2.1 = [] ∧ ra.2.2.2 = true ∧ ra.1 = rt := by unfold Mk.okP; rw [← hra]
  (refine q0c<|tn<|q0b<|q0a<|Ls (X_ld rfl Dr rfl)<|m_I rfl<|Ls (q0q rfl)<|Ls (X_ld rfl C6' rfl) ?_); refine Ls (z3d (a := 0) (b := n) rfl rfl rfl rfl) ?_; refine q5u (vl := [.agg (sub 0 n (.slice Ai I.length ci)).toArray]) rfl hreb rfl ?_; rintro e w12 ⟨rfl, M12, V12⟩; refine ⟨_, rfl, ?_⟩; skip; refine q0w ?_; intro g14 w13 B14 hg14 E13' hs13; refine q0l (size := 32) (l := ints .u8 ra.1) rfl rfl (by rw [q0n]; exact a1.1) q1h B14 rfl ?_; intro w14 D14 hg14' hs14; have E1214 : Ext w12 w14 := E13'.then hg14' (fun g h => by cases h; omega); have F14 := (F11.mut M12 sn sl sr).ext E1214; have hz12 := M12.size; have D4 : Blk w14 g4 43 (ints .u8 rt) := (M12.blk (C4.ext E411) (by rintro (h | h | h) <;> omega)).ext E1214; have V14 := V12.ext E1214; rw [Bool.true_and] at V14; (refine q0c<|tn<|q0b<|q0b<|q0a<|Ls (X_ld rfl F14.n rfl) ?_); refine q5u (vl := []) rfl (gsrcN hP ra.2.2.2 ra.2.1 ra.2.2.1 a4 a2 w14 V14) rfl ?_; rintro e w15 ⟨rfl, M15, V15⟩; refine ⟨_, rfl, ?_⟩; have hdh := ok_head a2; (refine m_T rfl<|Ls (q0m rfl rfl)<|Ls (q0m rfl rfl) ?_); refine q0w ?_; intro g15 w16 B15 hg15 E16 hs16; refine q0l (size := 32) (l := ints .u8 (ra.2.1.headD (List.replicate 32 0))) rfl rfl (by rw [q0n]; exact hdh.1) q1h B15 rfl ?_; intro w17 D15 hg15' hs17; have E1517 : Ext w15 w17 := E16.then hg15' (fun g h => by cases h; omega); have hz15 := M15.size; have Dc' := (V15.ext E1517).c; have D14' : Blk w17 g14 43 (ints .u8 ra.1) := (M15.blk D14 (by rintro (h | h | h) <;> omega)).ext E1517; have D4' : Blk w17 g4 43 (ints .u8 rt) := (M15.blk D4 (by rintro (h | h | h) <;> omega)).ext E1517; have MM : Mut (VSs gc gN gL) w11 w17 := ((M12.ext_ E1214).trans M15).ext_ E1517; have EE : Ext w w17 := MM.toExt E11 (by rintro k (rfl | rfl | rfl) <;> omega); cases hmore : ra.2.1.isEmpty with
  | false =>
    have hno : ¬ okP lf nd n I bs ns rt := fun h => by
      rw [(hok.1 h).1] at hmore; cases hmore
    rw [if_neg hno]; (refine a_B rfl<|q0c<|tn<|q0b<|q0a<|m_B rfl<|m_B rfl<|Lo2 rfl rfl rfl rfl<|Lo2 rfl rfl rfl rfl<|Ls (q0v (v := .bool _) rfl rfl)<|m_B rfl<|Lo2 rfl rfl rfl rfl<|Lo2 rfl rfl rfl rfl<|Lo2 rfl rfl rfl rfl<|Ls (q0v (v := .bool _) rfl rfl)<|q0c<|tn<|q1e rfl<|q0b<|q0a<|a_I rfl<|q0c<|tn<|q0s<|tr ?_); exact q0e rfl rfl (v := .int _ _) rfl ⟨rfl, EE⟩
  | true =>
    have he : ra.2.1 = [] := List.isEmpty_iff.1 hmore; cases hcm : ra.2.2.2 with
    | false =>
      have hno : ¬ okP lf nd n I bs ns rt := fun h => by
        have := (hok.1 h).2.1; rw [hcm] at this; cases this
      rw [if_neg hno]; rw [hcm] at Dc'; (refine a_B rfl<|q0c<|tn<|q0b<|q0a<|m_B rfl<|m_B rfl<|Lg2 rfl rfl rfl (X_ld rfl Dc' rfl)<|Lg2 rfl rfl rfl (q1z rfl)<|Ls (q0u (v := .bool _) rfl rfl)<|m_B rfl<|Lo2 rfl rfl rfl rfl<|Lo2 rfl rfl rfl rfl<|Lo2 rfl rfl rfl rfl<|Ls (q0v (v := .bool _) rfl rfl)<|q0c<|tn<|q1e rfl<|q0b<|q0a<|a_I rfl<|q0c<|tn<|q0s<|tr ?_); exact q0e rfl rfl (v := .int _ _) rfl ⟨rfl, EE⟩
    | true =>
      rw [hcm] at Dc'; by_cases hrr : ra.1 = rt
      · rw [if_pos (hok.2 ⟨he, hcm, hrr⟩)]; (refine a_B rfl<|q0c<|tn<|q0b<|q0a<|m_B rfl<|m_B rfl<|Lg2 rfl rfl rfl (X_ld rfl Dc' rfl)<|Lg2 rfl rfl rfl (q1z rfl)<|Ls (q0u (v := .bool _) rfl rfl)<|m_B rfl<|Lg2 rfl rfl rfl (q0x rfl D14' (by rw [q0n]; exact a1.1))<|Lg2 rfl rfl rfl (q0x rfl D4' (by rw [q0n]; exact hrt))<|Lg2 rfl rfl rfl ((X_neqD a1.1 hrt a1.2 hrt8 rfl rfl).trans (by rw [decide_eq_false (fun h => h hrr)]))<|Ls (q0u (v := .bool _) rfl rfl)<|q0c<|tn<|q0z rfl<|q0p<|tn<|q0b<|q0a<|a_I rfl<|q0c<|tn<|q0s ?_); exact q0e rfl rfl (v := .int _ _) rfl ⟨rfl, EE⟩
      · rw [if_neg (fun h => hrr (hok.1 h).2.2)]; (refine a_B rfl<|q0c<|tn<|q0b<|q0a<|m_B rfl<|m_B rfl<|Lg2 rfl rfl rfl (X_ld rfl Dc' rfl)<|Lg2 rfl rfl rfl (q1z rfl)<|Ls (q0u (v := .bool _) rfl rfl)<|m_B rfl<|Lg2 rfl rfl rfl (q0x rfl D14' (by rw [q0n]; exact a1.1))<|Lg2 rfl rfl rfl (q0x rfl D4' (by rw [q0n]; exact hrt))<|Lg2 rfl rfl rfl ((X_neqD a1.1 hrt a1.2 hrt8 rfl rfl).trans (by rw [decide_eq_true hrr]))<|Ls (q0u (v := .bool _) rfl rfl)<|q0c<|tn<|q1e rfl<|q0b<|q0a<|a_I rfl<|q0c<|tn<|q0s<|tr ?_); exact q0e rfl rfl (v := .int _ _) rfl ⟨rfl, EE⟩
end Go.Proofs.YtpohjepbmgeplaaGreatDoor
namespace Go.Proofs.YtpohjepbmgeplaaGreatDoor
open Go.RowKit Go.Proofs.K
open _root_.Mk (spl q2q q3h tree q7k q6p cls q6f q5j q5i)
theorem partN_at {N : Nat → Prop} {w : World} {kd : IntKind} {A : Option Addr} {m c : Nat} {M : List (List Nat)} (h : q2l N w kd (.slice A m c) M) {i : Nat} {d : List Nat} (hd : M[i]? = some d) :
    ∃ b o x, A = some ⟨b, o, none⟩ ∧ m = M.length ∧ m ≤ c ∧ c ≤ maxLen ∧ N b ∧ w.cell? ⟨b, o + i * 1, none⟩ = some x ∧ x.oneCell' = true ∧ RowN N w 1 x d.length (ints kd d) := by
  obtain ⟨vs, hvl, hr, he⟩ := h; have hi : i < M.length := (List.getElem?_eq_some_iff.1 hd).1; obtain ⟨x, hx⟩ : ∃ x, vs[i]? = some x := ⟨vs[i]'(by omega), List.getElem?_eq_getElem (by omega)⟩; obtain ⟨b, o, c', e, h1, h2, h3, h4⟩ := hr.at hi; cases e
  have := he i x d hx hd; exact ⟨b, o, x, rfl, rfl, h1, h2, h3, by rw [Nat.mul_one]; exact h4 i x hx, this.cell1, this⟩
theorem q4n {k : IntKind} {I : List Nat} {i x : Nat} (h : I[i]? = some x) : (ints k I)[i]? = some (.int k (x : Nat)) := by unfold ints; rw [List.getElem?_map, h]; rfl
section
variable {n : NN} {f : Fr} {w : World} {d : Option Tmp} {t : TypeId} {pos : String} {af : Array Edge} {g : Option (Nat × Bool)} {x y : Operand}
end
end Go.Proofs.YtpohjepbmgeplaaGreatDoor
namespace Go.Proofs.YtpohjepbmgeplaaGreatDoor
open Go.RowKit Go.Proofs.K
open _root_.Mk (spl q2q q3h cls q6f q5j q5i q8s rref okR)
end Go.Proofs.YtpohjepbmgeplaaGreatDoor
namespace Go.Proofs.YtpohjepbmgeplaaGreatDoor
open Go.RowKit Go.Proofs.K
open _root_.Mk (cls rref okR)
section
variable {n : NN} {f : Fr} {w : World} {d : Option Tmp} {t : TypeId} {pos : String} {af : Array Edge} {g : Option (Nat × Bool)} {x y z : Operand}
end
end Go.Proofs.YtpohjepbmgeplaaGreatDoor
namespace Go.Proofs.YtpohjepbmgeplaaGreatDoor
open Go.RowKit Go.Proofs.K
open _root_.Fd (K E pw root)
open _root_.Cm (Sh)
def lgI (n : Int) : Int := if n = ((2 ^ Nat.log2 n.toNat : Nat) : Int) then ((Nat.log2 n.toNat : Nat) : Int) else -1
theorem q8t (a : Nat) : lgI ((2 ^ a : Nat) : Int) = a := by
  unfold lgI; rw [Int.toNat_natCast, Nat.log2_two_pow, if_pos rfl]
theorem z1o {n : Int} (h : 0 ≤ lgI n) : ∃ a : Nat, lgI n = a ∧ n = ((2 ^ a : Nat) : Int) := by
  unfold lgI at h ⊢; split
  · exact ⟨_, rfl, by assumption⟩
  · rename_i hn; rw [if_neg hn] at h; omega
theorem lgI_neg {n : Int} (h : n < 1) : lgI n = -1 := by
  unfold lgI; rw [if_neg]; have : 0 < 2 ^ Nat.log2 n.toNat := Nat.pow_pos (by decide); omega
theorem lgI_bd {n : Int} (h : n ≤ 9223372036854775807) : -1 ≤ lgI n ∧ lgI n ≤ 62 := by
  unfold lgI; split
  · rename_i hn; have : Nat.log2 n.toNat < 63 := by
      rcases Nat.lt_or_ge (Nat.log2 n.toNat) 63 with h1 | h1
      · exact h1
      · have : 2 ^ 63 ≤ 2 ^ Nat.log2 n.toNat := Nat.pow_le_pow_right (by decide) h1; omega
    omega
  · omega
theorem and_pred {n : Nat} (h : 1 ≤ n) : n &&& (n - 1) = 0 ↔ n = 2 ^ Nat.log2 n := by
  constructor
  · intro h0; have h1 := Nat.log2_self_le (n := n) (by omega); have h2 := Nat.lt_log2_self (n := n); rcases Nat.lt_or_ge (2 ^ Nat.log2 n) n with h3 | h3
    · exfalso; have hb : ∀ m, 2 ^ Nat.log2 n ≤ m → m < 2 ^ (Nat.log2 n + 1) → m.testBit (Nat.log2 n) = true := fun m hm1 hm2 => by
        rw [Nat.testBit_eq_decide_div_mod_eq, decide_eq_true_eq]; have : m / 2 ^ Nat.log2 n = 1 := by
          rw [Nat.pow_succ] at hm2; exact Nat.div_eq_of_lt_le (by omega) (by omega)
        rw [this]
      have := congrArg (Nat.testBit · (Nat.log2 n)) h0; simp only [Nat.testBit_and, Nat.zero_testBit] at this; rw [hb n h1 h2, hb (n - 1) (by omega) (by omega)] at this; cases this
    · omega
  · intro he; rw [he, Nat.and_two_pow_sub_one_eq_mod, Nat.mod_self]
theorem bits_i64_and (a b : Nat) (ha : a < 9223372036854775808) (hb : b < 9223372036854775808) : bits .and .i64 (a : Int) (b : Int) = ((a &&& b : Nat) : Int) := by
  show IntKind.i64.wrap ((BitVec.ofInt 64 (a : Int) &&& BitVec.ofInt 64 (b : Int)).toNat : Int) = _; rw [BitVec.toNat_and, BitVec.ofInt_natCast, BitVec.ofInt_natCast, BitVec.toNat_ofNat, BitVec.toNat_ofNat, Nat.mod_eq_of_lt (by omega), Nat.mod_eq_of_lt (by omega), q4o]; have := Nat.and_lt_two_pow (n := 63) a (y := b) (by omega); omega
set_option maxHeartbeats 1000000 in
theorem gcpow (n : Int) (h0 : -9223372036854775808 ≤ n) (h1 : n ≤ 9223372036854775807) (w : World) :
    Calls Tryz.prog 59 #[.int .i64 n] w fun e w' => e = .returned (.int .i64 (lgI n)) ∧ Ext w w' := by
  refine q0j Tryz.func59 rfl Tryz.ntmps59 rfl ?_; by_cases hn : n < 1
  · rw [lgI_neg hn]; (refine q0b<|q0a<|a_I rfl<|q0c<|tn<|q0b<|q0b<|q0a<|m_I rfl<|Ls (z1w rfl rfl (by omega))<|m_B rfl<|Lo2 rfl rfl rfl rfl<|Lo2 rfl rfl rfl rfl<|Lo2 rfl rfl rfl rfl<|Lo2 rfl rfl rfl rfl<|Lo2 rfl rfl rfl rfl<|Ls (q0v (v := .bool _) rfl rfl)<|q0c<|tn<|q1e rfl<|q0b<|q0a<|a_I rfl<|q0c<|tn<|q0s<|tr ?_); exact q0e rfl rfl (v := .int _ _) rfl ⟨rfl, Ext.refl _⟩
  · obtain ⟨m, rfl⟩ : ∃ m : Nat, n = m := ⟨n.toNat, by omega⟩; have hm : 1 ≤ m := (by omega); have ha : bits .and .i64 (m : Int) ((m : Int) - 1) = ((m &&& (m - 1) : Nat) : Int) := by
      rw [show (m : Int) - 1 = ((m - 1 : Nat) : Int) by omega, bits_i64_and _ _ (by omega) (by omega)]
    have hp := and_pred hm; by_cases h2 : m = 2 ^ Nat.log2 m
    · have hz : m &&& (m - 1) = 0 := hp.2 h2; rw [hz] at ha; have hl : lgI (m : Int) = (Nat.log2 m : Nat) := by
        unfold lgI; rw [Int.toNat_natCast, if_pos (by omega)]
      rw [hl]; (refine q0b<|q0a<|a_I rfl<|q0c<|tn<|q0b<|q0b<|q0a<|m_I rfl<|Ls (q2z rfl rfl (by omega))<|m_B rfl<|Lg2 rfl rfl rfl (q0d (v := .int _ _) rfl)<|Lg2 rfl rfl rfl (q0d (v := .int _ _) rfl)<|Lg2 rfl rfl rfl (q2j rfl rfl (by omega))<|Lg2 rfl rfl rfl ((q4s rfl rfl).trans (by rw [ha]))<|Lg2 rfl rfl rfl (q3l rfl rfl (by omega))<|Ls (q0u (v := .bool _) rfl rfl)<|q0c<|tn<|q0z rfl<|q0p<|tn<|q0b<|q0a<|m_I rfl<|Ls (q2v rfl) ?_); rw [show IntKind.u64.wrap (m : Int) = (m : Int) by rw [IntKind.wrap_u64]; omega]; refine L_fv rfl ((Tryz.bits_Len (m : Int) w (by omega) (by omega)).mono fun _ _ q => ⟨q.1, q.2 ▸ Ext.refl _⟩) ?_; intro w1 E1; have hlog : Nat.log2 m < 63 := (Nat.log2_lt (by omega)).2 (by omega); rw [Int.toNat_natCast, z1s (by omega) (by omega)]; (refine Ls (q2j rfl rfl (by omega))<|a_I rfl<|q0c<|tn<|q0s ?_); refine q0e rfl rfl (v := .int _ _) rfl ⟨?_, E1⟩; rw [show (((Nat.log2 m + 1 : Nat) : Int) - 1) = ((Nat.log2 m : Nat) : Int) by omega]
    · have hz : m &&& (m - 1) ≠ 0 := fun h => h2 (hp.1 h); obtain ⟨y, hy⟩ : ∃ y, m &&& (m - 1) = y + 1 := ⟨(m &&& (m - 1)) - 1, by omega⟩; rw [hy] at ha; have hl : lgI (m : Int) = -1 := by
        unfold lgI; rw [Int.toNat_natCast, if_neg (by omega)]
      rw [hl]; (refine q0b<|q0a<|a_I rfl<|q0c<|tn<|q0b<|q0b<|q0a<|m_I rfl<|Ls (q2z rfl rfl (by omega))<|m_B rfl<|Lg2 rfl rfl rfl (q0d (v := .int _ _) rfl)<|Lg2 rfl rfl rfl (q0d (v := .int _ _) rfl)<|Lg2 rfl rfl rfl (q2j rfl rfl (by omega))<|Lg2 rfl rfl rfl ((q4s rfl rfl).trans (by rw [ha]))<|Lg2 rfl rfl rfl (X_neqT rfl rfl (by omega))<|Ls (q0u (v := .bool _) rfl rfl)<|q0c<|tn<|q1e rfl<|q0b<|q0a<|a_I rfl<|q0c<|tn<|q0s<|tr ?_); exact q0e rfl rfl (v := .int _ _) rfl ⟨rfl, Ext.refl _⟩
structure SOk (R C B T log : Int) : Prop where
  l0 : 0 ≤ log
  l16 : log ≤ 16
  r : 0 ≤ lgI R
  c : 0 ≤ lgI C
  s : lgI R + lgI C = log
  b : B = 2 ∨ B = 4 ∨ B = 8 ∨ B = 16
  n : B * C ≤ 65536
  t1 : 1 ≤ T
  t64 : T ≤ 64
  tn : T ≤ B * C
def I64 (n : Int) : Prop := -9223372036854775808 ≤ n ∧ n ≤ 9223372036854775807
def shC (R C B T : Int) : List Value := [.int .i64 R, .int .i64 C, .int .i64 B, .int .i64 T]
theorem q3w {R C B T : Int} : ∀ v ∈ shC R C B T, v.oneCell' = true := by
  intro v hv; rcases List.mem_cons.1 hv with rfl | hv
  · rfl
  · rcases List.mem_cons.1 hv with rfl | hv
    · rfl
    · rcases List.mem_cons.1 hv with rfl | hv
      · rfl
      · rcases List.mem_cons.1 hv with rfl | hv
        · rfl
        · cases hv
theorem col_bd {R C log : Int} (hl : log ≤ 16) (hr : 0 ≤ lgI R) (hc : 0 ≤ lgI C) (hs : lgI R + lgI C = log) : 1 ≤ C ∧ C ≤ 65536 ∧ 1 ≤ R ∧ R ≤ 65536 := by
  obtain ⟨a, ha, rfl⟩ := z1o hr; obtain ⟨c, hc', rfl⟩ := z1o hc; rw [ha, hc'] at hs; have := q1b (a := a) (by omega); have := q1b (a := c) (by omega); omega
theorem mul_bd {B C : Int} (hb : B = 2 ∨ B = 4 ∨ B = 8 ∨ B = 16) (hc : 1 ≤ C ∧ C ≤ 65536) : 1 ≤ B * C ∧ B * C ≤ 1048576 := by
  rcases hb with rfl | rfl | rfl | rfl <;> omega
set_option maxRecDepth 100000 in
set_option maxHeartbeats 4000000 in
theorem z2r (R C B T log : Int) (hR : I64 R) (hC : I64 C) (hB : I64 B) (hT : I64 T) (hlog : I64 log) (w : World) :
    Calls Tryz.prog 20 #[.agg (shC R C B T).toArray, .int .i64 log] w fun e w' => ∃ b : Bool, e = .returned (.bool b) ∧ (b = true ↔ SOk R C B T log) ∧ Ext w w' := by
  obtain ⟨l1, l2⟩ := hlog; obtain ⟨t1, t2⟩ := hT; have br := lgI_bd hR.2; have bc := lgI_bd hC.2; refine q0j Tryz.func20 rfl Tryz.ntmps20 rfl ?_; (refine q0b<|q0a ?_); refine q1t rfl ?_; intro g2 w1 B2 hg2 E1 hs1; (refine a_B rfl<|q0c<|tn<|q0b ?_); apply q1f 5 (by kernel_rfl); (apply DW_x (fun r w hA hH => (q0q rfl).trans rfl); apply DW_x (fun r w hA hH => (X_ld (cs := shC R C B T) rfl (B2.ext hA) rfl).trans rfl)); ((with_reducible apply q1v); (exact fun _ => rfl); (exact fun _ => rfl); (exact fun r w hA hH => gcpow R hR.1 hR.2 w)); (apply DW_x (fun r w hA hH => (q0q rfl).trans rfl); apply DW_x (fun r w hA hH => (X_ld (cs := shC R C B T) rfl (B2.ext hA) rfl).trans rfl)); ((with_reducible exact q1q); (exact rfl); (repeat (first | exact .inr (.inr (fun _ _ => by with_reducible rfl)) | (refine And.intro ?_ ?_) | exact .inr (.inl rfl) | exact .inl (by decide +kernel) | exact trivial | exact .inr (.inr (fun _ _ => rfl)))); (try dsimp only [Nat.reduceAdd])); intro r0 w2 E2 _; refine L_fv rfl (gcpow C hC.1 hC.2 w2) ?_; intro w3 E3; have C2 := B2.ext (E2.trans E3); have E13 := E1.trans (E2.trans E3); generalize hlr : lgI R = lr at br ⊢; generalize hlc : lgI C = lc at bc ⊢; by_cases h1 : log < 0
  · (refine a_I rfl<|a_I rfl<|q0c<|tn<|q0b<|q0b<|q0a<|m_I rfl<|Ls (z1w rfl rfl (by omega))<|m_B rfl<|Lo2 rfl rfl rfl rfl<|Lo2 rfl rfl rfl rfl<|Ls (q0v (v := .bool _) rfl rfl)<|m_B rfl<|Lo2 rfl rfl rfl rfl<|Lo2 rfl rfl rfl rfl<|Ls (q0v (v := .bool _) rfl rfl)<|m_B rfl<|Lo2 rfl rfl rfl rfl<|Lo2 rfl rfl rfl rfl<|Ls (q0v (v := .bool _) rfl rfl)<|m_B rfl<|Lo2 rfl rfl rfl rfl<|Lo2 rfl rfl rfl rfl<|Lo2 rfl rfl rfl rfl<|Lo2 rfl rfl rfl rfl<|Lo2 rfl rfl rfl rfl<|Ls (q0v (v := .bool _) rfl rfl)<|m_B rfl<|Lo2 rfl rfl rfl rfl<|Lo2 rfl rfl rfl rfl<|Lo2 rfl rfl rfl rfl<|Lo2 rfl rfl rfl rfl<|Lo2 rfl rfl rfl rfl<|Ls (q0v (v := .bool _) rfl rfl)<|q0c<|tn<|q1e rfl<|q0b<|q0a<|a_B rfl<|q0c<|tn<|q0s<|tr ?_); exact q0e rfl rfl (v := .bool _) rfl ⟨false, rfl, ⟨(fun h => by cases h), fun h => by have := h.l0; omega⟩, E13⟩
  by_cases h2 : 16 < log
  · (refine a_I rfl<|a_I rfl<|q0c<|tn<|q0b<|q0b<|q0a<|m_I rfl<|Ls (q2z rfl rfl (by omega))<|m_B rfl<|Lg2 rfl rfl rfl (q0d (v := .int _ _) rfl)<|Lg2 rfl rfl rfl (z0y rfl rfl (by omega))<|Ls (q0u (v := .bool _) rfl rfl)<|m_B rfl<|Lo2 rfl rfl rfl rfl<|Lo2 rfl rfl rfl rfl<|Ls (q0v (v := .bool _) rfl rfl)<|m_B rfl<|Lo2 rfl rfl rfl rfl<|Lo2 rfl rfl rfl rfl<|Ls (q0v (v := .bool _) rfl rfl)<|m_B rfl<|Lo2 rfl rfl rfl rfl<|Lo2 rfl rfl rfl rfl<|Lo2 rfl rfl rfl rfl<|Lo2 rfl rfl rfl rfl<|Lo2 rfl rfl rfl rfl<|Ls (q0v (v := .bool _) rfl rfl)<|m_B rfl<|Lo2 rfl rfl rfl rfl<|Lo2 rfl rfl rfl rfl<|Lo2 rfl rfl rfl rfl<|Lo2 rfl rfl rfl rfl<|Lo2 rfl rfl rfl rfl<|Ls (q0v (v := .bool _) rfl rfl)<|q0c<|tn<|q1e rfl<|q0b<|q0a<|a_B rfl<|q0c<|tn<|q0s<|tr ?_); exact q0e rfl rfl (v := .bool _) rfl ⟨false, rfl, ⟨(fun h => by cases h), fun h => by have := h.l16; omega⟩, E13⟩
  by_cases h3 : lr < 0
  · (refine a_I rfl<|a_I rfl<|q0c<|tn<|q0b<|q0b<|q0a<|m_I rfl<|Ls (q2z rfl rfl (by omega))<|m_B rfl<|Lg2 rfl rfl rfl (q0d (v := .int _ _) rfl)<|Lg2 rfl rfl rfl (q4d rfl rfl (by omega))<|Ls (q0u (v := .bool _) rfl rfl)<|m_B rfl<|Lg2 rfl rfl rfl (q0d (v := .int _ _) rfl)<|Lg2 rfl rfl rfl (z1w rfl rfl (by omega))<|Ls (q0u (v := .bool _) rfl rfl)<|m_B rfl<|Lo2 rfl rfl rfl rfl<|Lo2 rfl rfl rfl rfl<|Ls (q0v (v := .bool _) rfl rfl)<|m_B rfl<|Lo2 rfl rfl rfl rfl<|Lo2 rfl rfl rfl rfl<|Lo2 rfl rfl rfl rfl<|Lo2 rfl rfl rfl rfl<|Lo2 rfl rfl rfl rfl<|Ls (q0v (v := .bool _) rfl rfl)<|m_B rfl<|Lo2 rfl rfl rfl rfl<|Lo2 rfl rfl rfl rfl<|Lo2 rfl rfl rfl rfl<|Lo2 rfl rfl rfl rfl<|Lo2 rfl rfl rfl rfl<|Ls (q0v (v := .bool _) rfl rfl)<|q0c<|tn<|q1e rfl<|q0b<|q0a<|a_B rfl<|q0c<|tn<|q0s<|tr ?_); exact q0e rfl rfl (v := .bool _) rfl ⟨false, rfl, ⟨(fun h => by cases h), fun h => by have := h.r; omega⟩, E13⟩
  by_cases h4 : lc < 0
  · (refine a_I rfl<|a_I rfl<|q0c<|tn<|q0b<|q0b<|q0a<|m_I rfl<|Ls (q2z rfl rfl (by omega))<|m_B rfl<|Lg2 rfl rfl rfl (q0d (v := .int _ _) rfl)<|Lg2 rfl rfl rfl (q4d rfl rfl (by omega))<|Ls (q0u (v := .bool _) rfl rfl)<|m_B rfl<|Lg2 rfl rfl rfl (q0d (v := .int _ _) rfl)<|Lg2 rfl rfl rfl (q2z rfl rfl (by omega))<|Ls (q0u (v := .bool _) rfl rfl)<|m_B rfl<|Lg2 rfl rfl rfl (q0d (v := .int _ _) rfl)<|Lg2 rfl rfl rfl (z1w rfl rfl (by omega))<|Ls (q0u (v := .bool _) rfl rfl)<|m_B rfl<|Lo2 rfl rfl rfl rfl<|Lo2 rfl rfl rfl rfl<|Lo2 rfl rfl rfl rfl<|Lo2 rfl rfl rfl rfl<|Lo2 rfl rfl rfl rfl<|Ls (q0v (v := .bool _) rfl rfl)<|m_B rfl<|Lo2 rfl rfl rfl rfl<|Lo2 rfl rfl rfl rfl<|Lo2 rfl rfl rfl rfl<|Lo2 rfl rfl rfl rfl<|Lo2 rfl rfl rfl rfl<|Ls (q0v (v := .bool _) rfl rfl)<|q0c<|tn<|q1e rfl<|q0b<|q0a<|a_B rfl<|q0c<|tn<|q0s<|tr ?_); exact q0e rfl rfl (v := .bool _) rfl ⟨false, rfl, ⟨(fun h => by cases h), fun h => by have := h.c; omega⟩, E13⟩
  by_cases h5 : lr + lc = log
  · have hcb := col_bd (R := R) (C := C) (log := log) (by omega) (by omega) (by omega) (by omega); (refine a_I rfl<|a_I rfl<|q0c<|tn<|q0b<|q0b<|q0a<|m_I rfl<|Ls (q2z rfl rfl (by omega))<|m_B rfl<|Lg2 rfl rfl rfl (q0d (v := .int _ _) rfl)<|Lg2 rfl rfl rfl (q4d rfl rfl (by omega))<|Ls (q0u (v := .bool _) rfl rfl)<|m_B rfl<|Lg2 rfl rfl rfl (q0d (v := .int _ _) rfl)<|Lg2 rfl rfl rfl (q2z rfl rfl (by omega))<|Ls (q0u (v := .bool _) rfl rfl)<|m_B rfl<|Lg2 rfl rfl rfl (q0d (v := .int _ _) rfl)<|Lg2 rfl rfl rfl (q2z rfl rfl (by omega))<|Ls (q0u (v := .bool _) rfl rfl)<|m_B rfl<|Lg2 rfl rfl rfl (q0d (v := .int _ _) rfl)<|Lg2 rfl rfl rfl (q0d (v := .int _ _) rfl)<|Lg2 rfl rfl rfl (q1a rfl rfl (by omega))<|Lg2 rfl rfl rfl (q0d (v := .int _ _) rfl)<|Lg2 rfl rfl rfl (q3l rfl rfl (by omega))<|Ls (q0u (v := .bool _) rfl rfl)<|m_B rfl ?_); refine q1w rfl rfl rfl ?_; refine L_lits (z := [.int .i64 0]) (zs' := [[.int .i64 2], [.int .i64 4], [.int .i64 8], [.int .i64 16]]) (cs := ints .i64 [2, 4, 8, 16]) (len := 4) ?_ rfl rfl rfl rfl ?_
    · repeat (first | exact Parts.nil _ | refine Parts.cons rfl rfl rfl rfl ?_)
    intro q w4 r4 E4 hs4 o4 hq; subst hq; have C2 := C2.ext E4; have hct : ∀ w5, w5 = w4 → Calls Tryz.prog 71 #[.slice (some ⟨w3.heap.size, 0, none⟩) 4 4, .int .i64 B] w5 fun e w' => e = .returned (.bool (decide (B = 2 ∨ B = 4 ∨ B = 8 ∨ B = 16))) ∧ Ext w5 w' := by
      rintro w5 rfl; have h := Tryz.slices_Contains_int w3.heap.size 0 4 4 [2, 4, 8, 16] B w5 (by decide) (by decide) (fun j hj => q7r o4 j _ (by
        match j, hj with
        | 0, _ => rfl
        | 1, _ => rfl
        | 2, _ => rfl
        | 3, _ => rfl))
      refine h.mono fun e w' ⟨h1, h2⟩ => ⟨?_, by rw [h2]; exact Ext.refl _⟩; rw [h1]; congr 2; rw [Bool.eq_iff_iff]; simp
    (refine Lg2 rfl rfl rfl (q0q rfl)<|Lg2 rfl rfl rfl (X_ld (cs := shC R C B T) rfl C2 rfl) ?_); refine q1w rfl rfl rfl ?_; refine L_fv rfl (hct w4 rfl) ?_; intro w5 E5; have C2 := C2.ext E5; have E15 := E13.trans (E4.trans E5); by_cases h6 : B = 2 ∨ B = 4 ∨ B = 8 ∨ B = 16
    · rw [decide_eq_true h6]; have hmb := mul_bd h6 ⟨hcb.1, hcb.2.1⟩; by_cases h7 : B * C ≤ 65536
      · by_cases h8 : 1 ≤ T
        · (refine Lg2 rfl rfl rfl (q1z rfl)<|Ls (q0u (v := .bool _) rfl rfl)<|q0c<|tn<|q0z rfl<|q0p<|tn<|q0b<|q0a<|Ls (q0q rfl)<|Ls (X_ld (cs := shC R C B T) rfl C2 rfl)<|Ls (q0q rfl)<|Ls (X_ld (cs := shC R C B T) rfl C2 rfl)<|Ls (q2i rfl rfl ⟨by omega, by omega⟩)<|a_I rfl<|q0c<|tn<|q0b<|q0a<|m_I rfl<|Ls (q6w rfl rfl (by omega))<|m_B rfl<|Lg2 rfl rfl rfl (q0q rfl)<|Lg2 rfl rfl rfl (X_ld (cs := shC R C B T) rfl C2 rfl)<|Lg2 rfl rfl rfl (q6w rfl rfl (by omega))<|Ls (q0v (v := .bool _) rfl rfl)<|m_B rfl<|Lg2 rfl rfl rfl (q0q rfl)<|Lg2 rfl rfl rfl (X_ld (cs := shC R C B T) rfl C2 rfl)<|Lg2 rfl rfl rfl (q0d (v := .int _ _) rfl)<|Lg2 rfl rfl rfl ((X_min rfl rfl).trans (by rfl))<|Lg2 rfl rfl rfl (X_leq rfl rfl)<|Ls (q0v (v := .bool _) rfl rfl)<|a_B rfl<|q0c<|tn<|q0s ?_); refine q0e rfl rfl (v := .bool _) rfl ⟨_, rfl, ?_, E15⟩; rw [decide_eq_true_eq]; constructor
          · intro h; refine ⟨by omega, by omega, by omega, by omega, by omega, h6, h7, h8, ?_, ?_⟩
            · split at h <;> omega
            · split at h <;> omega
          · intro h; have := h.t64; have := h.tn; split <;> omega
        · (refine Lg2 rfl rfl rfl (q1z rfl)<|Ls (q0u (v := .bool _) rfl rfl)<|q0c<|tn<|q0z rfl<|q0p<|tn<|q0b<|q0a<|Ls (q0q rfl)<|Ls (X_ld (cs := shC R C B T) rfl C2 rfl)<|Ls (q0q rfl)<|Ls (X_ld (cs := shC R C B T) rfl C2 rfl)<|Ls (q2i rfl rfl ⟨by omega, by omega⟩)<|a_I rfl<|q0c<|tn<|q0b<|q0a<|m_I rfl<|Ls (q6w rfl rfl (by omega))<|m_B rfl<|Lg2 rfl rfl rfl (q0q rfl)<|Lg2 rfl rfl rfl (X_ld (cs := shC R C B T) rfl C2 rfl)<|Lg2 rfl rfl rfl (X_leqF rfl rfl (by omega))<|Ls (q0v (v := .bool _) rfl rfl)<|m_B rfl<|Lo2 rfl rfl rfl rfl<|Lo2 rfl rfl rfl rfl<|Lo2 rfl rfl rfl rfl<|Lo2 rfl rfl rfl rfl<|Lo2 rfl rfl rfl rfl<|Ls (q0u (v := .bool _) rfl rfl)<|a_B rfl<|q0c<|tn<|q0s ?_); exact q0e rfl rfl (v := .bool _) rfl ⟨false, rfl, ⟨(fun h => by cases h), fun h => (h8 h.t1).elim⟩, E15⟩
      · (refine Lg2 rfl rfl rfl (q1z rfl)<|Ls (q0u (v := .bool _) rfl rfl)<|q0c<|tn<|q0z rfl<|q0p<|tn<|q0b<|q0a<|Ls (q0q rfl)<|Ls (X_ld (cs := shC R C B T) rfl C2 rfl)<|Ls (q0q rfl)<|Ls (X_ld (cs := shC R C B T) rfl C2 rfl)<|Ls (q2i rfl rfl ⟨by omega, by omega⟩)<|a_I rfl<|q0c<|tn<|q0b<|q0a<|m_I rfl<|Ls (X_leqF rfl rfl (by omega))<|m_B rfl<|Lo2 rfl rfl rfl rfl<|Lo2 rfl rfl rfl rfl<|Lo2 rfl rfl rfl rfl<|Ls (q0u (v := .bool _) rfl rfl)<|m_B rfl<|Lo2 rfl rfl rfl rfl<|Lo2 rfl rfl rfl rfl<|Lo2 rfl rfl rfl rfl<|Lo2 rfl rfl rfl rfl<|Lo2 rfl rfl rfl rfl<|Ls (q0u (v := .bool _) rfl rfl)<|a_B rfl<|q0c<|tn<|q0s ?_); exact q0e rfl rfl (v := .bool _) rfl ⟨false, rfl, ⟨(fun h => by cases h), fun h => (h7 h.n).elim⟩, E15⟩
    · rw [decide_eq_false h6]; (refine Lg2 rfl rfl rfl (q1z rfl)<|Ls (q0u (v := .bool _) rfl rfl)<|q0c<|tn<|q1e rfl<|q0b<|q0a<|a_B rfl<|q0c<|tn<|q0s<|tr ?_); exact q0e rfl rfl (v := .bool _) rfl ⟨false, rfl, ⟨(fun h => by cases h), fun h => (h6 h.b).elim⟩, E15⟩
  · (refine a_I rfl<|a_I rfl<|q0c<|tn<|q0b<|q0b<|q0a<|m_I rfl<|Ls (q2z rfl rfl (by omega))<|m_B rfl<|Lg2 rfl rfl rfl (q0d (v := .int _ _) rfl)<|Lg2 rfl rfl rfl (q4d rfl rfl (by omega))<|Ls (q0u (v := .bool _) rfl rfl)<|m_B rfl<|Lg2 rfl rfl rfl (q0d (v := .int _ _) rfl)<|Lg2 rfl rfl rfl (q2z rfl rfl (by omega))<|Ls (q0u (v := .bool _) rfl rfl)<|m_B rfl<|Lg2 rfl rfl rfl (q0d (v := .int _ _) rfl)<|Lg2 rfl rfl rfl (q2z rfl rfl (by omega))<|Ls (q0u (v := .bool _) rfl rfl)<|m_B rfl<|Lg2 rfl rfl rfl (q0d (v := .int _ _) rfl)<|Lg2 rfl rfl rfl (q0d (v := .int _ _) rfl)<|Lg2 rfl rfl rfl (q1a rfl rfl (by omega))<|Lg2 rfl rfl rfl (q0d (v := .int _ _) rfl)<|Lg2 rfl rfl rfl (X_neqT rfl rfl (by omega))<|Ls (q0u (v := .bool _) rfl rfl)<|m_B rfl<|Lo2 rfl rfl rfl rfl<|Lo2 rfl rfl rfl rfl<|Lo2 rfl rfl rfl rfl<|Lo2 rfl rfl rfl rfl<|Lo2 rfl rfl rfl rfl<|Ls (q0v (v := .bool _) rfl rfl)<|q0c<|tn<|q1e rfl<|q0b<|q0a<|a_B rfl<|q0c<|tn<|q0s<|tr ?_); exact q0e rfl rfl (v := .bool _) rfl ⟨false, rfl, ⟨(fun h => by cases h), fun h => by have := h.s; omega⟩, E13⟩
end Go.Proofs.YtpohjepbmgeplaaGreatDoor
namespace Go.Proofs.YtpohjepbmgeplaaGreatDoor
open Go.RowKit Go.Proofs.K
open _root_.Fd (K E pw root)
def q3d (P : Program) (fid : FuncId) (fc : Array Value) (vals : List Value) (Q : Nat → Bool) (w : World) : Prop :=
  ∀ (i : Nat) (x : Value) (w' : World), Ext w w' → vals[i]? = some x → Calls P fid (#[] ++ [x].toArray ++ fc) w' fun e w'' => e = .returned (.bool (Q i)) ∧ Ext w' w''
theorem q3d.ext {P : Program} {fid : FuncId} {fc : Array Value} {vals : List Value} {Q : Nat → Bool} {w w' : World} (h : q3d P fid fc vals Q w) (E : Ext w w') : q3d P fid fc vals Q w' := fun i x w2 E2 hx => h i x w2 (E.trans E2) hx
theorem all_iff {m : Nat} {Q : Nat → Bool} {r : Int} (h : 0 ≤ r ↔ ∃ i, i < m ∧ Q i = false) : (!decide (0 ≤ r)) = decide (∀ i, i < m → Q i = true) := by
  rw [Bool.eq_iff_iff, Bool.not_eq_true', decide_eq_false_iff_not, decide_eq_true_eq, h]; constructor
  · intro h i hi; cases hq : Q i with
    | true => rfl
    | false => exact (h ⟨i, hi, hq⟩).elim
  · rintro h ⟨i, hi, hq⟩; rw [h i hi] at hq; cases hq
set_option maxHeartbeats 1000000 in
theorem gidx_u (lo hi : Nat) (v : Value) (vals : List Value) (hl : vals.length ≤ 1000000) (w : World) (hr : Row w lo hi 1 v vals.length vals) (h1 : ∀ x ∈ vals, x.oneCell' = true) (Q : Nat → Bool) (fid : FuncId) [TFun Tryz.prog fid] (fc : Array Value) (hf : q3d Tryz.prog fid fc vals (fun i => !Q i) w) :
    Calls Tryz.prog 184 #[v, .func (.func fid) #[] fc] w fun e w' => ∃ r : Int, e = .returned (.int .i64 r) ∧ (0 ≤ r ↔ ∃ i, i < vals.length ∧ Q i = false) ∧ Ext w w' := by
  obtain ⟨A, c, rfl⟩ : ∃ A c, v = .slice A vals.length c := by
    obtain ⟨_, A, c, rfl, _⟩ := hr; exact ⟨A, c, rfl⟩
  refine q0j Tryz.func184 rfl Tryz.ntmps184 rfl ?_; (refine q0b<|q0a<|a_I rfl<|q0c<|tn<|q0b<|q0b<|q0a<|m_S rfl<|Ls (q0f rfl)<|m_I rfl<|q0c<|tn<|q0i ?_); refine q1l (fun q f w' => ∃ i, q = vals.length - i ∧ i ≤ vals.length ∧ (∀ j, j < i → Q j = true) ∧ f 0 = .slice A vals.length c ∧ f 1 = .func (.func fid) #[] fc ∧ f 7 = .int .i64 (vals.length : Nat) ∧ f 8 = .int .i64 (i : Nat) ∧ Ext w w') vals.length ?_ ?_
  · exact ⟨0, rfl, by omega, fun _ h => by omega, rfl, rfl, rfl, rfl, Ext.refl _⟩
  · rintro q f wr ⟨i, hq, hil, hall, f0, f1, f7, f8, hE⟩; rw [fold f0, fold f1, fold f7, fold f8]; (refine q0b<|q0a<|Ls (q1s rfl rfl)<|q0c<|tn<|q0b ?_); refine q0y rfl (fun h => ?_) (fun h => ?_)
    · have hlt : i < vals.length := (by omega); obtain ⟨x, hx⟩ : ∃ x, vals[i]? = some x := ⟨_, List.getElem?_eq_getElem hlt⟩; obtain ⟨b0, o0, c0, hA, _, _, _, hc0⟩ := hr.at hlt; cases hA
      (refine q0p<|tn<|q0b<|q0i<|q0b<|q0a<|m_I rfl<|a_I rfl<|q0c<|tn<|q0b<|q0a<|Ls (q0d (v := .func _ _ _) rfl)<|m_S rfl<|m_I rfl<|Ls (q0o rfl rfl (by omega))<|Ls (q2n rfl (hE.range hc0) (j := i) (by omega) hx) ?_); refine q5u (vl := [x]) rfl (hf i _ wr hE hx) rfl ?_; rintro e w2 ⟨rfl, E2⟩; refine ⟨_, rfl, ?_⟩; (refine q0c<|tn ?_); refine q9o (b := !Q i) rfl (fun h => ?_) (fun h => ?_)
      · have hQ : Q i = false := (by simpa using h); (refine q0b<|q0a<|m_I rfl<|a_I rfl<|q0c<|tn<|q0s<|br<|tr<|tr<|br<|tr ?_); exact q0e rfl rfl (v := .int _ _) rfl ⟨_, rfl, ⟨fun _ => ⟨i, hlt, hQ⟩, fun _ => by omega⟩, hE.trans E2⟩
      · have hQ : Q i = true := (by simpa using h); (refine q0p<|bn<|tn<|q0a<|Ls (q1a rfl rfl (by omega))<|m_I rfl<|q0c<|tn ?_); refine ⟨vals.length - (i + 1), by omega, i + 1, rfl, by omega, fun j hj => ?_, rfl, rfl, rfl, rfl, hE.trans E2⟩; rcases Nat.lt_or_ge j i with h | h
        · exact hall j h
        · obtain rfl : j = i := (by omega); exact hQ
    · (refine q1j<|te<|te<|bx<|tn<|q0b<|q0a<|a_I rfl<|q0c<|tn<|q0s ?_); refine q0e rfl rfl (v := .int _ _) rfl ⟨_, rfl, ⟨fun h => by omega, ?_⟩, hE⟩; rintro ⟨j, hj, hQ⟩; rw [hall j (by omega)] at hQ; cases hQ
theorem gcon_u (lo hi : Nat) (v : Value) (vals : List Value) (hl : vals.length ≤ 1000000) (w : World) (hr : Row w lo hi 1 v vals.length vals) (h1 : ∀ x ∈ vals, x.oneCell' = true) (Q : Nat → Bool) (fid : FuncId) [TFun Tryz.prog fid] (fc : Array Value) (hf : q3d Tryz.prog fid fc vals (fun i => !Q i) w) :
    Calls Tryz.prog 145 #[v, .func (.func fid) #[] fc] w fun e w' => e = .returned (.bool (!decide (∀ i, i < vals.length → Q i = true))) ∧ Ext w w' := by
  have hv1 := q0g hr; refine q0j Tryz.func145 rfl Tryz.ntmps145 rfl ?_; (refine q0b<|q0a<|a_B rfl<|q0c<|tn<|q0b<|q0a<|Ls (q0d (v := v) rfl)<|Ls (q0d (v := .func _ _ _) rfl) ?_); refine L_fo (F := fun u w' => ∃ r : Int, u = .int .i64 r ∧ (0 ≤ r ↔ ∃ i, i < vals.length ∧ Q i = false) ∧ Ext w w') rfl ((gidx_u lo hi v vals hl w hr h1 Q fid fc hf).mono fun e w' ⟨r, h1, h2, h3⟩ => ⟨_, h1, r, rfl, h2, h3⟩) ?_; rintro _ w1 ⟨r, rfl, hr', E1⟩; (refine Ls (z1g rfl rfl)<|a_B rfl<|q0c<|tn<|q0s ?_); refine q0e rfl rfl (v := .bool _) rfl ⟨?_, E1⟩; rw [← all_iff hr', Bool.not_not]
theorem gvclo_u (b : Nat) (fid : FuncId) [TFun Tryz.prog fid] (fc : Array Value) (vals : List Value) (h1 : ∀ x ∈ vals, x.oneCell' = true) (Q : Nat → Bool) (w : World) (hB : Blk w b 144 [.func (.func fid) #[] fc]) (hf : q3d Tryz.prog fid fc vals Q w) : q3d Tryz.prog 146 #[.pointer (some ⟨b, 0, none⟩)] vals (fun i => !Q i) w := by
  intro i x w1 E1 hx; have hx1 := h1 x (List.mem_of_getElem? hx); refine q0j Tryz.func146 rfl Tryz.ntmps146 rfl ?_; (refine q0b<|q0a<|a_B rfl<|q0c<|tn<|q0b<|q0a<|Ls (X_ld rfl (hB.ext E1) rfl)<|Ls (q0d (v := x) rfl) ?_); refine q5u (vl := [x]) rfl (hf i x w1 E1 hx) rfl ?_; rintro e w2 ⟨rfl, E2⟩; refine ⟨_, rfl, ?_⟩; (refine Ls (q1z rfl)<|a_B rfl<|q0c<|tn<|q0s ?_); exact q0e rfl rfl (v := .bool _) rfl ⟨rfl, E2⟩
theorem gval_u (lo hi : Nat) (v : Value) (vals : List Value) (hl : vals.length ≤ 1000000) (w : World) (hr : Row w lo hi 1 v vals.length vals) (h1 : ∀ x ∈ vals, x.oneCell' = true) (Q : Nat → Bool) (fid : FuncId) [TFun Tryz.prog fid] (fc : Array Value) (hf : q3d Tryz.prog fid fc vals Q w) :
    Calls Tryz.prog 100 #[v, .func (.func fid) #[] fc] w fun e w' => e = .returned (.bool (decide (∀ i, i < vals.length → Q i = true))) ∧ Ext w w' := by
  have hv1 := q0g hr; refine q0j Tryz.func100 rfl Tryz.ntmps100 rfl ?_; (refine q0b<|q0a ?_); refine q3u (v := .func (.func fid) #[] fc) rfl rfl ?_; intro g3 w1 B3 hg3 E1 hs1; (refine a_B rfl<|q0c<|tn<|q0b<|q0a<|Ls (q0d (v := v) rfl) ?_); refine Ls (q2r (vf := []) (vc := [.pointer (some ⟨g3, 0, none⟩)]) rfl rfl) ?_; skip; refine L_fv rfl (gcon_u lo hi v vals hl w1 (hr.ext E1) h1 Q 146 #[.pointer (some ⟨g3, 0, none⟩)] (gvclo_u g3 fid fc vals h1 Q w1 B3 (hf.ext E1))) ?_; intro w2 E2; (refine Ls (q1z rfl)<|a_B rfl<|q0c<|tn<|q0s ?_); refine q0e rfl rfl (v := .bool _) rfl ⟨?_, E1.trans E2⟩; rw [Bool.not_not]
set_option maxHeartbeats 1000000 in
theorem gidx_l (lo hi : Nat) (v : Value) (vals : List Value) (hl : vals.length ≤ 1000000) (w : World) (hr : Row w lo hi 1 v vals.length vals) (h1 : ∀ x ∈ vals, x.oneCell' = true) (Q : Nat → Bool) (fid : FuncId) [TFun Tryz.prog fid] (fc : Array Value) (hf : q3d Tryz.prog fid fc vals (fun i => !Q i) w) :
    Calls Tryz.prog 194 #[v, .func (.func fid) #[] fc] w fun e w' => ∃ r : Int, e = .returned (.int .i64 r) ∧ (0 ≤ r ↔ ∃ i, i < vals.length ∧ Q i = false) ∧ Ext w w' := by
  obtain ⟨A, c, rfl⟩ : ∃ A c, v = .slice A vals.length c := by
    obtain ⟨_, A, c, rfl, _⟩ := hr; exact ⟨A, c, rfl⟩
  refine q0j Tryz.func194 rfl Tryz.ntmps194 rfl ?_; (refine q0b<|q0a<|a_I rfl<|q0c<|tn<|q0b<|q0b<|q0a<|m_S rfl<|Ls (q0f rfl)<|m_I rfl<|q0c<|tn<|q0i ?_); refine q1l (fun q f w' => ∃ i, q = vals.length - i ∧ i ≤ vals.length ∧ (∀ j, j < i → Q j = true) ∧ f 0 = .slice A vals.length c ∧ f 1 = .func (.func fid) #[] fc ∧ f 7 = .int .i64 (vals.length : Nat) ∧ f 8 = .int .i64 (i : Nat) ∧ Ext w w') vals.length ?_ ?_
  · exact ⟨0, rfl, by omega, fun _ h => by omega, rfl, rfl, rfl, rfl, Ext.refl _⟩
  · rintro q f wr ⟨i, hq, hil, hall, f0, f1, f7, f8, hE⟩; rw [fold f0, fold f1, fold f7, fold f8]; (refine q0b<|q0a<|Ls (q1s rfl rfl)<|q0c<|tn<|q0b ?_); refine q0y rfl (fun h => ?_) (fun h => ?_)
    · have hlt : i < vals.length := (by omega); obtain ⟨x, hx⟩ : ∃ x, vals[i]? = some x := ⟨_, List.getElem?_eq_getElem hlt⟩; obtain ⟨b0, o0, c0, hA, _, _, _, hc0⟩ := hr.at hlt; cases hA
      (refine q0p<|tn<|q0b<|q0i<|q0b<|q0a<|m_I rfl<|a_I rfl<|q0c<|tn<|q0b<|q0a<|Ls (q0d (v := .func _ _ _) rfl)<|m_S rfl<|m_I rfl<|Ls (q0o rfl rfl (by omega))<|Ls (q2n rfl (hE.range hc0) (j := i) (by omega) hx) ?_); refine q5u (vl := [x]) rfl (hf i _ wr hE hx) rfl ?_; rintro e w2 ⟨rfl, E2⟩; refine ⟨_, rfl, ?_⟩; (refine q0c<|tn ?_); refine q9o (b := !Q i) rfl (fun h => ?_) (fun h => ?_)
      · have hQ : Q i = false := (by simpa using h); (refine q0b<|q0a<|m_I rfl<|a_I rfl<|q0c<|tn<|q0s<|br<|tr<|tr<|br<|tr ?_); exact q0e rfl rfl (v := .int _ _) rfl ⟨_, rfl, ⟨fun _ => ⟨i, hlt, hQ⟩, fun _ => by omega⟩, hE.trans E2⟩
      · have hQ : Q i = true := (by simpa using h); (refine q0p<|bn<|tn<|q0a<|Ls (q1a rfl rfl (by omega))<|m_I rfl<|q0c<|tn ?_); refine ⟨vals.length - (i + 1), by omega, i + 1, rfl, by omega, fun j hj => ?_, rfl, rfl, rfl, rfl, hE.trans E2⟩; rcases Nat.lt_or_ge j i with h | h
        · exact hall j h
        · obtain rfl : j = i := (by omega); exact hQ
    · (refine q1j<|te<|te<|bx<|tn<|q0b<|q0a<|a_I rfl<|q0c<|tn<|q0s ?_); refine q0e rfl rfl (v := .int _ _) rfl ⟨_, rfl, ⟨fun h => by omega, ?_⟩, hE⟩; rintro ⟨j, hj, hQ⟩; rw [hall j (by omega)] at hQ; cases hQ
theorem gcon_l (lo hi : Nat) (v : Value) (vals : List Value) (hl : vals.length ≤ 1000000) (w : World) (hr : Row w lo hi 1 v vals.length vals) (h1 : ∀ x ∈ vals, x.oneCell' = true) (Q : Nat → Bool) (fid : FuncId) [TFun Tryz.prog fid] (fc : Array Value) (hf : q3d Tryz.prog fid fc vals (fun i => !Q i) w) :
    Calls Tryz.prog 174 #[v, .func (.func fid) #[] fc] w fun e w' => e = .returned (.bool (!decide (∀ i, i < vals.length → Q i = true))) ∧ Ext w w' := by
  have hv1 := q0g hr; refine q0j Tryz.func174 rfl Tryz.ntmps174 rfl ?_; (refine q0b<|q0a<|a_B rfl<|q0c<|tn<|q0b<|q0a<|Ls (q0d (v := v) rfl)<|Ls (q0d (v := .func _ _ _) rfl) ?_); refine L_fo (F := fun u w' => ∃ r : Int, u = .int .i64 r ∧ (0 ≤ r ↔ ∃ i, i < vals.length ∧ Q i = false) ∧ Ext w w') rfl ((gidx_l lo hi v vals hl w hr h1 Q fid fc hf).mono fun e w' ⟨r, h1, h2, h3⟩ => ⟨_, h1, r, rfl, h2, h3⟩) ?_; rintro _ w1 ⟨r, rfl, hr', E1⟩; (refine Ls (z1g rfl rfl)<|a_B rfl<|q0c<|tn<|q0s ?_); refine q0e rfl rfl (v := .bool _) rfl ⟨?_, E1⟩; rw [← all_iff hr', Bool.not_not]
theorem gvclo_l (b : Nat) (fid : FuncId) [TFun Tryz.prog fid] (fc : Array Value) (vals : List Value) (h1 : ∀ x ∈ vals, x.oneCell' = true) (Q : Nat → Bool) (w : World) (hB : Blk w b 100 [.func (.func fid) #[] fc]) (hf : q3d Tryz.prog fid fc vals Q w) : q3d Tryz.prog 175 #[.pointer (some ⟨b, 0, none⟩)] vals (fun i => !Q i) w := by
  intro i x w1 E1 hx; have hx1 := h1 x (List.mem_of_getElem? hx); refine q0j Tryz.func175 rfl Tryz.ntmps175 rfl ?_; (refine q0b<|q0a<|a_B rfl<|q0c<|tn<|q0b<|q0a<|Ls (X_ld rfl (hB.ext E1) rfl)<|Ls (q0d (v := x) rfl) ?_); refine q5u (vl := [x]) rfl (hf i x w1 E1 hx) rfl ?_; rintro e w2 ⟨rfl, E2⟩; refine ⟨_, rfl, ?_⟩; (refine Ls (q1z rfl)<|a_B rfl<|q0c<|tn<|q0s ?_); exact q0e rfl rfl (v := .bool _) rfl ⟨rfl, E2⟩
theorem gval_l (lo hi : Nat) (v : Value) (vals : List Value) (hl : vals.length ≤ 1000000) (w : World) (hr : Row w lo hi 1 v vals.length vals) (h1 : ∀ x ∈ vals, x.oneCell' = true) (Q : Nat → Bool) (fid : FuncId) [TFun Tryz.prog fid] (fc : Array Value) (hf : q3d Tryz.prog fid fc vals Q w) :
    Calls Tryz.prog 129 #[v, .func (.func fid) #[] fc] w fun e w' => e = .returned (.bool (decide (∀ i, i < vals.length → Q i = true))) ∧ Ext w w' := by
  have hv1 := q0g hr; refine q0j Tryz.func129 rfl Tryz.ntmps129 rfl ?_; (refine q0b<|q0a ?_); refine q3u (v := .func (.func fid) #[] fc) rfl rfl ?_; intro g3 w1 B3 hg3 E1 hs1; (refine a_B rfl<|q0c<|tn<|q0b<|q0a<|Ls (q0d (v := v) rfl) ?_); refine Ls (q2r (vf := []) (vc := [.pointer (some ⟨g3, 0, none⟩)]) rfl rfl) ?_; skip; refine L_fv rfl (gcon_l lo hi v vals hl w1 (hr.ext E1) h1 Q 175 #[.pointer (some ⟨g3, 0, none⟩)] (gvclo_l g3 fid fc vals h1 Q w1 B3 (hf.ext E1))) ?_; intro w2 E2; (refine Ls (q1z rfl)<|a_B rfl<|q0c<|tn<|q0s ?_); refine q0e rfl rfl (v := .bool _) rfl ⟨?_, E1.trans E2⟩; rw [Bool.not_not]
set_option maxHeartbeats 1000000 in
theorem gidx_e (lo hi : Nat) (v : Value) (l : List (Nat × Nat)) (vals : List Value) (hvals : vals = l.map fun p => Value.agg (exC p.1 p.2).toArray) (hl : vals.length ≤ 1000000) (w : World) (hr : Row w lo hi 2 v vals.length (exs l)) (Q : Nat → Bool) (fid : FuncId) [TFun Tryz.prog fid] (fc : Array Value) (hf : q3d Tryz.prog fid fc vals (fun i => !Q i) w) :
    Calls Tryz.prog 191 #[v, .func (.func fid) #[] fc] w fun e w' => ∃ r : Int, e = .returned (.int .i64 r) ∧ (0 ≤ r ↔ ∃ i, i < vals.length ∧ Q i = false) ∧ Ext w w' := by
  obtain ⟨A, c, rfl⟩ : ∃ A c, v = .slice A vals.length c := by
    obtain ⟨_, A, c, rfl, _⟩ := hr; exact ⟨A, c, rfl⟩
  refine q0j Tryz.func191 rfl Tryz.ntmps191 rfl ?_; (refine q0b<|q0a<|a_I rfl<|q0c<|tn<|q0b<|q0b<|q0a<|m_S rfl<|Ls (q0f rfl)<|m_I rfl<|q0c<|tn<|q0i ?_); refine q1l (fun q f w' => ∃ i, q = vals.length - i ∧ i ≤ vals.length ∧ (∀ j, j < i → Q j = true) ∧ f 0 = .slice A vals.length c ∧ f 1 = .func (.func fid) #[] fc ∧ f 7 = .int .i64 (vals.length : Nat) ∧ f 8 = .int .i64 (i : Nat) ∧ Ext w w') vals.length ?_ ?_
  · exact ⟨0, rfl, by omega, fun _ h => by omega, rfl, rfl, rfl, rfl, Ext.refl _⟩
  · rintro q f wr ⟨i, hq, hil, hall, f0, f1, f7, f8, hE⟩; rw [fold f0, fold f1, fold f7, fold f8]; (refine q0b<|q0a<|Ls (q1s rfl rfl)<|q0c<|tn<|q0b ?_); refine q0y rfl (fun h => ?_) (fun h => ?_)
    · have hlt : i < vals.length := (by omega); obtain ⟨x, hx⟩ : ∃ x, vals[i]? = some x := ⟨_, List.getElem?_eq_getElem hlt⟩; have hr3 := hr.ext hE; have hvl : vals.length = l.length := (by rw [hvals, List.length_map]); obtain ⟨p, hp⟩ : ∃ p, l[i]? = some p := ⟨_, List.getElem?_eq_getElem (by omega)⟩; obtain rfl : x = .agg (exC p.1 p.2).toArray := by
        rw [hvals, List.getElem?_map, hp] at hx; exact (Option.some.inj hx).symm
      have hr4 : Row wr lo hi 2 (.slice A vals.length c) l.length (exs l) := hvl ▸ hr3; obtain ⟨b0, o0, hA, _, _, _, _, _, hR⟩ := q6d hr4 hp; cases hA
      (refine q0p<|tn<|q0b<|q0i<|q0b<|q0a<|m_I rfl<|a_I rfl<|q0c<|tn<|q0b<|q0a<|Ls (q0d (v := .func _ _ _) rfl)<|m_S rfl<|m_I rfl<|Ls (q0o rfl rfl (by omega))<|Ls (q1r (size := 2) (cs := exC p.1 p.2) rfl hR rfl) ?_); refine q5u (vl := [.agg (exC p.1 p.2).toArray]) rfl (hf i _ wr hE hx) rfl ?_; rintro e w2 ⟨rfl, E2⟩; refine ⟨_, rfl, ?_⟩; (refine q0c<|tn ?_); refine q9o (b := !Q i) rfl (fun h => ?_) (fun h => ?_)
      · have hQ : Q i = false := (by simpa using h); (refine q0b<|q0a<|m_I rfl<|a_I rfl<|q0c<|tn<|q0s<|br<|tr<|tr<|br<|tr ?_); exact q0e rfl rfl (v := .int _ _) rfl ⟨_, rfl, ⟨fun _ => ⟨i, hlt, hQ⟩, fun _ => by omega⟩, hE.trans E2⟩
      · have hQ : Q i = true := (by simpa using h); (refine q0p<|bn<|tn<|q0a<|Ls (q1a rfl rfl (by omega))<|m_I rfl<|q0c<|tn ?_); refine ⟨vals.length - (i + 1), by omega, i + 1, rfl, by omega, fun j hj => ?_, rfl, rfl, rfl, rfl, hE.trans E2⟩; rcases Nat.lt_or_ge j i with h | h
        · exact hall j h
        · obtain rfl : j = i := (by omega); exact hQ
    · (refine q1j<|te<|te<|bx<|tn<|q0b<|q0a<|a_I rfl<|q0c<|tn<|q0s ?_); refine q0e rfl rfl (v := .int _ _) rfl ⟨_, rfl, ⟨fun h => by omega, ?_⟩, hE⟩; rintro ⟨j, hj, hQ⟩; rw [hall j (by omega)] at hQ; cases hQ
theorem gcon_e (lo hi : Nat) (v : Value) (l : List (Nat × Nat)) (vals : List Value) (hvals : vals = l.map fun p => Value.agg (exC p.1 p.2).toArray) (hl : vals.length ≤ 1000000) (w : World) (hr : Row w lo hi 2 v vals.length (exs l)) (Q : Nat → Bool) (fid : FuncId) [TFun Tryz.prog fid] (fc : Array Value) (hf : q3d Tryz.prog fid fc vals (fun i => !Q i) w) :
    Calls Tryz.prog 161 #[v, .func (.func fid) #[] fc] w fun e w' => e = .returned (.bool (!decide (∀ i, i < vals.length → Q i = true))) ∧ Ext w w' := by
  have hv1 := q0g hr; refine q0j Tryz.func161 rfl Tryz.ntmps161 rfl ?_; (refine q0b<|q0a<|a_B rfl<|q0c<|tn<|q0b<|q0a<|Ls (q0d (v := v) rfl)<|Ls (q0d (v := .func _ _ _) rfl) ?_); refine L_fo (F := fun u w' => ∃ r : Int, u = .int .i64 r ∧ (0 ≤ r ↔ ∃ i, i < vals.length ∧ Q i = false) ∧ Ext w w') rfl ((gidx_e lo hi v l vals hvals hl w hr Q fid fc hf).mono fun e w' ⟨r, h1, h2, h3⟩ => ⟨_, h1, r, rfl, h2, h3⟩) ?_; rintro _ w1 ⟨r, rfl, hr', E1⟩; (refine Ls (z1g rfl rfl)<|a_B rfl<|q0c<|tn<|q0s ?_); refine q0e rfl rfl (v := .bool _) rfl ⟨?_, E1⟩; rw [← all_iff hr', Bool.not_not]
theorem gvclo_e (b : Nat) (fid : FuncId) [TFun Tryz.prog fid] (fc : Array Value) (vals : List Value) (l : List (Nat × Nat)) (hvals : vals = l.map fun p => Value.agg (exC p.1 p.2).toArray) (Q : Nat → Bool) (w : World) (hB : Blk w b 86 [.func (.func fid) #[] fc]) (hf : q3d Tryz.prog fid fc vals Q w) : q3d Tryz.prog 162 #[.pointer (some ⟨b, 0, none⟩)] vals (fun i => !Q i) w := by
  intro i x w1 E1 hx; obtain ⟨p, hp⟩ : ∃ p : Nat × Nat, x = .agg (exC p.1 p.2).toArray := by
    rw [hvals, List.getElem?_map] at hx; cases h : l[i]? with
    | none => rw [h] at hx; cases hx
    | some p => rw [h] at hx; exact ⟨p, (Option.some.inj hx).symm⟩
  refine q0j Tryz.func162 rfl Tryz.ntmps162 rfl ?_; subst hp; (refine q0b<|q0a ?_); refine q1t rfl ?_; intro g2 w0 B2 hg2 E0 hs0; (refine a_B rfl<|q0c<|tn<|q0b<|q0a<|Ls (X_ld rfl ((hB.ext E1).ext E0) rfl)<|Ls (q0x rfl B2 rfl) ?_); refine q5u (vl := [.agg (exC p.1 p.2).toArray]) rfl (hf i _ w0 (E1.trans E0) hx) rfl ?_; rintro e w2 ⟨rfl, E2'⟩; have E2 := E0.trans E2'; refine ⟨_, rfl, ?_⟩; (refine Ls (q1z rfl)<|a_B rfl<|q0c<|tn<|q0s ?_); exact q0e rfl rfl (v := .bool _) rfl ⟨rfl, E2⟩
theorem gval_e (lo hi : Nat) (v : Value) (l : List (Nat × Nat)) (vals : List Value) (hvals : vals = l.map fun p => Value.agg (exC p.1 p.2).toArray) (hl : vals.length ≤ 1000000) (w : World) (hr : Row w lo hi 2 v vals.length (exs l)) (Q : Nat → Bool) (fid : FuncId) [TFun Tryz.prog fid] (fc : Array Value) (hf : q3d Tryz.prog fid fc vals Q w) :
    Calls Tryz.prog 114 #[v, .func (.func fid) #[] fc] w fun e w' => e = .returned (.bool (decide (∀ i, i < vals.length → Q i = true))) ∧ Ext w w' := by
  have hv1 := q0g hr; refine q0j Tryz.func114 rfl Tryz.ntmps114 rfl ?_; (refine q0b<|q0a ?_); refine q3u (v := .func (.func fid) #[] fc) rfl rfl ?_; intro g3 w1 B3 hg3 E1 hs1; (refine a_B rfl<|q0c<|tn<|q0b<|q0a<|Ls (q0d (v := v) rfl) ?_); refine Ls (q2r (vf := []) (vc := [.pointer (some ⟨g3, 0, none⟩)]) rfl rfl) ?_; skip; refine L_fv rfl (gcon_e lo hi v l vals hvals hl w1 (hr.ext E1) Q 162 #[.pointer (some ⟨g3, 0, none⟩)] (gvclo_e g3 fid fc vals l hvals Q w1 B3 (hf.ext E1))) ?_; intro w2 E2; (refine Ls (q1z rfl)<|a_B rfl<|q0c<|tn<|q0s ?_); refine q0e rfl rfl (v := .bool _) rfl ⟨?_, E1.trans E2⟩; rw [Bool.not_not]
end Go.Proofs.YtpohjepbmgeplaaGreatDoor
namespace Go.Proofs.YtpohjepbmgeplaaGreatDoor
open Go.RowKit Go.Proofs.K
open _root_.Fd (K E pw root trow)
def chk (b o C i : Nat) : Value := .slice (some ⟨b, o + i * C * 1, none⟩) C C
def PreCk (b o R C : Nat) (i : Nat) (vs : List Value) (_ : World) : Prop := i < R ∧ vs = [chk b o C i]
set_option maxRecDepth 100000 in
set_option maxHeartbeats 2000000 in
theorem gchunk (S : Nat → Prop) (g1 g2 b o n c R C : Nat) (hC : 1 ≤ C) (hn : n = R * C) (hnc : n ≤ c) (hn6 : n ≤ 1000000) (w : World) (hB1 : Blk w g1 22 [.slice (some ⟨b, o, none⟩) n c]) (hB2 : Blk w g2 3 [.int .i64 (C : Nat)]) (h1 : ¬ S g1) (h2 : ¬ S g2) :
    q9e Tryz.prog 148 #[.pointer (some ⟨g1, 0, none⟩), .pointer (some ⟨g2, 0, none⟩)] w S (PreCk b o R C) (fun i => i = R) := by
  intro lp J Jx w1 E1 hJ hJx hY h0; refine q0j Tryz.func148 rfl Tryz.ntmps148 rfl ?_; (refine q0b<|q0a<|a_I rfl<|q0c<|tn<|q0i ?_); refine q1l (fun q f w' => ∃ i, q = R - i ∧ i ≤ R ∧ f 0 = q2u lp ∧ f 1 = .pointer (some ⟨g1, 0, none⟩) ∧ f 2 = .pointer (some ⟨g2, 0, none⟩) ∧ f 4 = .int .i64 ((i * C : Nat) : Int) ∧ J i w' ∧ Blk w' g1 22 [.slice (some ⟨b, o, none⟩) n c] ∧ Blk w' g2 3 [.int .i64 (C : Nat)]) R ?_ ?_
  · exact ⟨0, rfl, by omega, rfl, rfl, rfl, by rw [Nat.zero_mul]; rfl, h0, hB1.ext E1, hB2.ext E1⟩
  · rintro q f wr ⟨i, hq, hi, f0, f1, f2, f4, hj, C1, C2⟩; rw [fold f0, fold f1, fold f2, fold f4]; (refine q0b<|q0b<|q0a<|m_I rfl<|Ls (X_ld rfl C1 rfl)<|Ls (q0f rfl)<|Ls (q1s rfl rfl)<|q0c<|tn ?_); refine q0y rfl (fun h => ?_) (fun h => ?_)
    · have hiR : i < R := by
        have : i * C < R * C := (by rw [← hn]; omega); exact Nat.lt_of_mul_lt_mul_right this
      have hz : i * C + C ≤ n := (by rw [hn, ← Nat.succ_mul]; exact Nat.mul_le_mul_right _ hiR); have hsucc : (i + 1) * C = i * C + C := Nat.succ_mul i C; have hck : chk b o C i = .slice (some ⟨b, o + i * C * 1, none⟩) C C := rfl; have hYi := hY i [chk b o C i]; rw [hck] at hYi; generalize hzz : i * C = z at *; (refine q0p<|tn<|q0b<|q0i<|q0b ?_); apply q1f 7 (by kernel_rfl); (apply DW_x (fun r w hA hH => (X_ld rfl (C2.ext hA) rfl).trans rfl); apply DW_x (fun r w hA hH => (X_ld rfl (C1.ext hA) rfl).trans rfl); apply DW_x (fun r w hA hH => (q0d (v := .int _ _) rfl).trans rfl)); ((with_reducible apply DW_x); (exact fun r w hA hH => (X_sliceAp (size := 1) z rfl rfl rfl (by omega) hnc (by omega)).trans rfl)); (apply DW_x (fun r w hA hH => (q0f rfl).trans rfl); apply DW_x (fun r w hA hH => ((X_min rfl rfl).trans (by rw [if_neg (by omega)])).trans rfl); apply DW_x (fun r w hA hH => (q0k (v := .int _ _) rfl).trans rfl)); ((with_reducible exact q1q); (exact rfl); (repeat (first | exact .inr (.inr (fun _ _ => by with_reducible rfl)) | (refine And.intro ?_ ?_) | exact .inr (.inl rfl) | exact .inl (by decide +kernel) | exact trivial | exact .inr (.inr (fun _ _ => rfl)))); (try dsimp only [Nat.reduceAdd])); intro r w2 E2 _; have D1 := C1.ext E2; have D2 := C2.ext E2; (refine q0c<|tn<|q0b<|q0a<|Ls (q0d (v := .func _ _ _) rfl)<|Ls (X_ld rfl D1 rfl)<|m_I rfl<|m_I rfl<|m_I rfl<|Ls (q1a rfl rfl (by omega))<|m_I rfl<|m_I rfl<|Ls (q1a rfl rfl (by omega)) ?_); refine Ls (z0v (size := 1) z C C (o + z * 1) rfl rfl rfl rfl rfl (by omega) (by omega) (Nat.le_refl _) (by omega) (by omega) rfl) ?_; refine q6l rfl rfl rfl (hYi w2 (hJ _ _ _ hj E2) ⟨hiR, by rw [hck]⟩) ?_; rintro e w3 (⟨rfl, hj2, hk2⟩ | ⟨rfl, hjx⟩)
      · refine ⟨.bool true, rfl, ?_⟩; have F1 := hk2.blk D1 h1; have F2 := hk2.blk D2 h2; (refine Ls (q1z rfl)<|q0c<|tn<|q0z rfl<|q0p<|bn<|tn<|q0a<|m_I rfl<|Ls (X_ld rfl F2 rfl)<|Ls (q1a rfl rfl (by omega))<|a_I rfl<|q0c<|tn ?_); exact ⟨R - (i + 1), by omega, i + 1, rfl, by omega, rfl, rfl, rfl, by rw [hsucc]; rfl, hj2, F1, F2⟩
      · refine ⟨.bool false, rfl, ?_⟩; (refine Ls (q1z rfl)<|q0c<|tn<|q1e rfl<|q0s<|br<|tr<|tr<|br ?_); refine q3i rfl rfl ?_; exact ⟨⟨_, rfl⟩, .inr hjx⟩
    · have hiR : i = R := by
        have : ¬ i < R := fun hlt => by
          have : i * C < R * C := Nat.mul_lt_mul_of_pos_right hlt (by omega); rw [← hn] at this; omega
        omega
      (refine q1j<|te<|te<|bx ?_); refine q3j rfl rfl ?_; exact ⟨⟨_, rfl⟩, .inl ⟨_, hiR, hj⟩⟩
theorem gchunkMk (v : Value) (hv : v.oneCell' = true) (C : Nat) (hC : 1 ≤ C) (w : World) :
    Calls Tryz.prog 103 #[v, .int .i64 (C : Nat)] w fun e w' => ∃ q, e = .returned q ∧ ∃ g1 g2, q = .func (.func 148) #[] #[.pointer (some ⟨g1, 0, none⟩), .pointer (some ⟨g2, 0, none⟩)] ∧ Ext w w' ∧ Blk w' g1 22 [v] ∧ Blk w' g2 3 [.int .i64 (C : Nat)] := by
  refine q0j Tryz.func103 rfl Tryz.ntmps103 rfl ?_; (refine q0b<|q0a ?_); refine q3u rfl hv ?_; intro g1 w1 B1 hg1 E1 hs1; refine q3u rfl rfl ?_; intro g2 w2 B2 hg2 E2 hs2; (refine Ls (q0k (v := Value.nilFunc) rfl)<|q0c<|tn<|q0b<|q0b<|q0a<|Ls (X_ld rfl B2 rfl)<|Ls (q2z rfl rfl (by omega))<|q0c<|tn<|q0z rfl<|q0p<|tn<|q0b<|q0a ?_); refine Ls (q2r (vf := []) (vc := [.pointer (some ⟨g1, 0, none⟩), .pointer (some ⟨g2, 0, none⟩)]) rfl rfl) ?_; (refine Ls (q0k (v := .func _ _ _) rfl)<|q0c<|tn<|q0s ?_); refine q0e rfl rfl (v := .func _ _ _) rfl ⟨_, rfl, g1, g2, rfl, E1.trans E2, B1.ext E2, B2⟩
set_option maxRecDepth 100000 in
set_option maxHeartbeats 2000000 in
theorem gappseq (gf : FuncId) (lb : Array Value) (he : Enters Tryz.prog gf) (xs : List Value) (h1 : ∀ x ∈ xs, x.oneCell' = true) (hl : xs.length ≤ 1000000) (w : World)
    (hit : ∀ w1, Ext w w1 → q9e Tryz.prog gf lb w1 (fun k => w.heap.size ≤ k) (fun i vs _ => ∃ x, xs[i]? = some x ∧ vs = [x]) (fun i => i = xs.length)) :
    Calls Tryz.prog 147 #[.slice none 0 0, .func (.func gf) #[] lb] w fun e w' => ∃ q, e = .returned q ∧ Ext w w' ∧ w'.ownsRow w.heap.size 22 1 q xs.length xs := by
  refine q5m Tryz.func147 rfl Tryz.ntmps147 rfl ?_; refine q3z ?_; (refine q0a ?_); refine q3u (v := .slice none 0 0) rfl rfl ?_; intro g2 w1 B2 hg2 E1 hs1; (refine a_S rfl<|q0c<|tn ?_); refine q9p ?_; (refine q0a<|Ls (q0d (v := .func _ _ _) rfl)<|q0c<|tn ?_); refine q8e (ps := [7]) (fun k => w.heap.size ≤ k) rfl he (fun i vs a h => by obtain ⟨_, _, rfl⟩ := h; rfl) (hit w1 E1)
    (fun i y => ∃ v, Blk y g2 38 [v] ∧ y.ownsRow w.heap.size 22 1 v i (xs.take i) ∧ i ≤ xs.length) (fun _ => False)
    (fun i x y h C => by obtain ⟨v, h1, h2, h3⟩ := h; exact ⟨v, C.blk h1, C.own h2, h3⟩) (fun _ _ h _ => h) ⟨.slice none 0 0, B2, ⟨rfl, .inl ⟨rfl, rfl⟩⟩, by omega⟩
    (fun i vs a f' y => ∃ x, xs[i]? = some x ∧ y = a ∧ f' 2 = .pointer (some ⟨g2, 0, none⟩) ∧ f' 5 = x) (fun i vs a f' b h => by obtain ⟨_, _, rfl, _⟩ := h; exact Ext.refl _) (fun lp vs i y hi hM hp => ?_) (fun lp i vs a f' z y hi hM hp hga hac hbc => ?_) (fun D y hD hdn hM hbD => ?_)
  · obtain ⟨x, hx, rfl⟩ := hp; (refine q0a<|Ls (q0k (v := x) rfl)<|q0c ?_); exact ⟨rfl, x, hx, rfl, rfl, rfl⟩
  · obtain ⟨v, I1, I2, I3⟩ := hi; obtain ⟨x, hx, rfl, f2, f5⟩ := hga; have hix : i < xs.length := (List.getElem?_eq_some_iff.1 hx).1; have hx1 := h1 x (List.mem_of_getElem? hx); have hv1 := q0g (Row.of_own I2); have hMs := hM.size; rw [fold f2, fold f5]; (refine q0i<|q0a<|Ls (X_ld rfl I1 rfl)<|Ls (q0d (v := x) rfl) ?_); refine q4w (v := x) rfl hx1 ?_; intro u w3 r3 E3 hs3 _; refine q1o (v := v) (u := u) rfl rfl (q0h I2 E3) r3 (fun q hq => by rw [List.mem_singleton.1 hq]; exact hx1) (by omega) (by omega) (by have := E3.size; have := E1.size; omega) ?_; intro v4 w4 o4 hg4 _; have hv4 := q0g (Row.of_own o4); have G2 := (I1.ext E3).grown hg4 (fun h => by
      obtain ⟨_, cs, fz, e⟩ := q1i I2 g2 h
      exact q2o I1 e (by decide))
    have M4 : Mut (fun k => w.heap.size ≤ k) y w4 := (Mut.of_ext E3).trans (Mut.app (q0h I2 E3) hg4 (fun q hq => (q1i I2 q hq).1)); skip; refine q1k (v := v4) rfl rfl hv4 G2 (by simp) ?_; intro w5 G2' hg5 hs5; (refine q0c<|bn ?_); refine ⟨M4.trans (Mut.store G2 hg5 (by show w.heap.size ≤ g2; omega)), v4, G2', ?_, by omega⟩; rw [List.take_add_one, hx]; exact q1g o4 hg5 (fun q hq h => by
      obtain rfl : g2 = q := Option.some.inj h
      obtain ⟨_, cs, fz, e⟩ := q1i o4 g2 hq
      exact q2o G2 e (by decide))
  · obtain ⟨i, hfin, v, I1, I2, I3⟩ : ∃ i, i = xs.length ∧ ∃ v, Blk y g2 38 [v] ∧ y.ownsRow w.heap.size 22 1 v i (xs.take i) ∧ i ≤ xs.length := hdn.elim id False.elim; subst hfin; rw [List.take_length] at I2; have hv1 := q0g (Row.of_own I2); refine q9q ?_; (refine q0b<|q0a<|Ls (X_ld rfl I1 rfl)<|Ls (q0k (v := v) rfl)<|q0c<|tn<|q0s ?_); refine q4b w1.heap.size [D] rfl rfl (by simp) (fun D' h => ?_) (fun w' hc => ⟨Res.tmp (v := v) rfl .nil, v, rfl, ?_, hc.own I2⟩)
    · rw [List.mem_singleton.1 h]; exact ⟨by omega, hbD⟩
    · exact hc.toExt (hM.toExt E1 (fun k h => h)) (by omega)
theorem gcollect (gf : FuncId) (lb : Array Value) (he : Enters Tryz.prog gf) (xs : List Value) (h1 : ∀ x ∈ xs, x.oneCell' = true) (hl : xs.length ≤ 1000000) (w : World)
    (hit : ∀ w1, Ext w w1 → q9e Tryz.prog gf lb w1 (fun k => w.heap.size ≤ k) (fun i vs _ => ∃ x, xs[i]? = some x ∧ vs = [x]) (fun i => i = xs.length)) :
    Calls Tryz.prog 102 #[.func (.func gf) #[] lb] w fun e w' => ∃ q, e = .returned q ∧ Ext w w' ∧ w'.ownsRow w.heap.size 22 1 q xs.length xs := by
  refine q0j Tryz.func102 rfl Tryz.ntmps102 rfl ?_; (refine q0b<|q0a<|a_S rfl<|q0c<|tn<|q0b<|q0a<|Ls (q0d (v := .func _ _ _) rfl) ?_); refine L_fo rfl (gappseq gf lb he xs h1 hl w hit) ?_; rintro q w1 ⟨E1, o1⟩; have hq1 := q0g (Row.of_own o1); (refine Ls (q0k (v := q) rfl)<|q0c<|tn<|q0s ?_); exact q0e rfl rfl (v := q) rfl ⟨q, rfl, E1, o1⟩
end Go.Proofs.YtpohjepbmgeplaaGreatDoor
namespace Go.Proofs.YtpohjepbmgeplaaGreatDoor
open Go.RowKit Go.Proofs.K
open _root_.Fd (K E pw root trow enc)
open _root_.Cm (Sh)
theorem SOk.sh {R C B T log : Int} (h : SOk R C B T log) : ∃ s : Sh, s.Ok ∧ R = ((s.R : Nat) : Int) ∧ C = ((s.C : Nat) : Int) ∧ B = ((s.B : Nat) : Int) ∧ T = ((s.t : Nat) : Int) ∧ log = ((s.a + s.c : Nat) : Int) := by
  obtain ⟨a, ha, hRa⟩ := z1o h.r; obtain ⟨c, hc, hCc⟩ := z1o h.c; have hs := h.s; rw [ha, hc] at hs; have hl := h.l16; obtain ⟨b, hb1, hb4, hBb⟩ : ∃ b : Nat, 1 ≤ b ∧ b ≤ 4 ∧ B = ((2 ^ b : Nat) : Int) := by
    rcases h.b with e | e | e | e
    · exact ⟨1, by omega, by omega, e⟩
    · exact ⟨2, by omega, by omega, e⟩
    · exact ⟨3, by omega, by omega, e⟩
    · exact ⟨4, by omega, by omega, e⟩
  have hn := h.n; have hBC : B * C = ((2 ^ (c + b) : Nat) : Int) := by rw [hBb, hCc, Nat.add_comm, Nat.pow_add, Int.natCast_mul]
  have ht1 := h.t1; have ht64 := h.t64; have htn := h.tn; rw [hBC] at hn htn; have hcb : c + b ≤ 16 := by
    rcases Nat.lt_or_ge 16 (c + b) with h1 | h1
    · have : 2 ^ 17 ≤ 2 ^ (c + b) := Nat.pow_le_pow_right (by decide) h1; generalize 2 ^ (c + b) = z at *; omega
    · exact h1
  refine ⟨⟨a, c, b, T.toNat⟩, ⟨by show a + c ≤ 16; omega, hb1, hb4, hcb, by show 1 ≤ T.toNat; omega, by show T.toNat ≤ 64; omega, ?_⟩, hRa, hCc, hBb, by show T = ((T.toNat : Nat) : Int); omega, by show log = ((a + c : Nat) : Int); omega⟩; show T.toNat ≤ 2 ^ (c + b); generalize 2 ^ (c + b) = z at *; omega
theorem sh_ok {s : Sh} (h : s.Ok) : SOk (s.R : Nat) (s.C : Nat) (s.B : Nat) (s.t : Nat) ((s.a + s.c : Nat) : Int) := by
  have p1 : lgI ((s.R : Nat) : Int) = s.a := q8t s.a; have p2 : lgI ((s.C : Nat) : Int) = s.c := q8t s.c; have hac := h.ac; have hBC : ((s.B : Nat) : Int) * ((s.C : Nat) : Int) = ((s.n : Nat) : Int) := by rw [← Int.natCast_mul, Cm.Sh.BC]
  have hn : s.n ≤ 65536 := (q1b h.cb).2; have ht : s.t ≤ s.n := h.tn; refine ⟨by omega, by omega, by omega, by omega, by omega, ?_, by rw [hBC]; omega, by have := h.t1; omega, by have := h.t64; omega, by rw [hBC]; omega⟩; have b1 := h.b1; have b4 := h.b4; unfold Cm.Sh.B; have hb : s.b = 1 ∨ s.b = 2 ∨ s.b = 3 ∨ s.b = 4 := by omega
  rcases hb with e | e | e | e <;> rw [e] <;> simp
theorem q9e.imp {P : Program} {gf : FuncId} {lb : Array Value} {w : World} {S : Nat → Prop} {Pre Pre' : Nat → List Value → World → Prop} {Fin : Nat → Prop} (h : q9e P gf lb w S Pre Fin) (hp : ∀ i vs a, Pre i vs a → Pre' i vs a) : q9e P gf lb w S Pre' Fin :=
  fun l J Jx w1 E hJ hJx hY h0 => h l J Jx w1 E hJ hJx (fun i v a hj hq => hY i v a hj (hp i v a hq)) h0
theorem z0b {t : List K} {i : Nat} {x : K} (h : t[i]? = some x) : (vals t)[i]? = some x.val := by unfold vals; rw [List.getElem?_map, h]; rfl
theorem chk_row {w : World} {lo hi b o n c R C r : Nat} {t : List K} (hr : Row w lo hi 1 (.slice (some ⟨b, o, none⟩) n c) n (ints .u64 (vals t))) (hl : t.length = n) (hn : n = R * C) (hrR : r < R) (hC : 1 ≤ C) : Row w lo hi 1 (chk b o C r) C (ints .u64 (vals (trow t C r))) := by
  have hz : r * C + C ≤ n := by rw [hn, ← Nat.succ_mul]; exact Nat.mul_le_mul_right _ hrR
  obtain ⟨b', o', c', e, hc, h1, h2, h3⟩ := hr.at (k := 0) (by omega); cases e
  have hcm : c ≤ maxLen := by
    obtain ⟨_, A, c', e, _, h, _⟩ := hr; cases e; exact h
  refine ⟨by rw [q0n, q2g, Fd.trow_len, Nat.mul_one], _, C, rfl, Nat.le_refl _, by omega, fun _ => ⟨b, _, rfl, h1, h2, z0f h3 fun j u hu => ?_⟩⟩; have hj : j < C := by
    have := (List.getElem?_eq_some_iff.1 hu).1; rw [q0n, q2g, Fd.trow_len] at this; exact this
  have hin : j + C * r < t.length := by rw [hl, Nat.mul_comm]; omega
  have e1 : (trow t C r)[j]? = some t[j + C * r] := by
    unfold Fd.trow; rw [List.getElem?_map, List.getElem?_range hj]; show some (t.getD (j + C * r) 0) = _; rw [List.getD_eq_getElem?_getD, List.getElem?_eq_getElem hin]; rfl
  rw [q4n (z0b e1)] at hu; rw [← hu, Nat.mul_one, show r * C + j = j + C * r by rw [Nat.mul_comm]; omega]; exact q4n (z0b (List.getElem?_eq_getElem hin))
theorem z1r (l : List Nat) (w : World) : q3d Tryz.prog 101 #[] (ints .u64 l) (fun i => decide (l.getD i 0 < Fd.pr)) w := by
  intro i x w' E hx; have hi : i < l.length := by
    have := (List.getElem?_eq_some_iff.1 hx).1; rwa [q0n] at this
  have hg : l[i]? = some (l.getD i 0) := by rw [List.getD_eq_getElem?_getD, List.getElem?_eq_getElem hi]; rfl
  rw [q4n hg] at hx; cases hx
  exact gvalid (l.getD i 0) w'
theorem vals_lt (t : List K) : decide (∀ i, i < (ints .u64 (vals t)).length → decide ((vals t).getD i 0 < Fd.pr) = true) = true := by
  rw [decide_eq_true_eq]; intro i hi; rw [q0n, q2g] at hi; rw [decide_eq_true_eq, List.getD_eq_getElem?_getD, z0b (List.getElem?_eq_getElem hi)]; exact (t[i]).isLt
def RowsAt (w0 w : World) (lo hi : Nat) (q : Value) (t : List K) (R C : Nat) : Prop :=
  ∃ xs : List Value, w.ownsRow w0.heap.size 22 1 q R xs ∧ ∀ r x, xs[r]? = some x → Row w lo hi 1 x C (ints .u64 (vals (trow t C r)))
set_option maxRecDepth 100000 in
set_option maxHeartbeats 2000000 in
theorem grows (lo hi : Nat) (v : Value) (t : List K) (ht : t.length ≤ 1000000) (R C B T : Int) (hR : I64 R) (hC : I64 C) (hB : I64 B) (hT : I64 T) (w : World) (hr : Row w lo hi 1 v t.length (ints .u64 (vals t))) :
    Calls Tryz.prog 50 #[v, .agg (shC R C B T).toArray] w fun e w' => Ext w w' ∧ ((SOk R C B T (lgI (t.length : Nat)) ∧ ∃ q, e = .returned (.tuple #[q, .bool true]) ∧ RowsAt w w' lo hi q t R.toNat C.toNat) ∨ (¬ SOk R C B T (lgI (t.length : Nat)) ∧ e = .returned (.tuple #[.slice none 0 0, .bool false]))) := by
  obtain ⟨A, c, rfl⟩ : ∃ A c, v = .slice A t.length c := by
    obtain ⟨_, A, c, rfl, _⟩ := hr; exact ⟨A, c, rfl⟩
  have hlb := lgI_bd (n := ((t.length : Nat) : Int)) (by omega); refine q0j Tryz.func50 rfl Tryz.ntmps50 rfl ?_; (refine q0b<|q0a ?_); refine q1t rfl ?_; intro g3 w1 B3 hg3 E1 hs1; (refine a_S rfl<|a_B rfl<|q0c<|tn<|q0b<|q0b ?_); apply q1f 4 (by kernel_rfl); (apply DW_x (fun r w hA hH => (q0x (cs := shC R C B T) rfl (B3.ext hA) rfl).trans rfl); apply DW_x (fun r w hA hH => (q0d (v := .slice _ _ _) rfl).trans rfl); apply DW_x (fun r w hA hH => (q0f rfl).trans rfl)); ((with_reducible apply q1v); (exact fun _ => rfl); (exact fun _ => rfl); (exact fun r w hA hH => gcpow ((t.length : Nat) : Int) (by omega) (by omega) w)); ((with_reducible exact q1q); (exact rfl); (repeat (first | exact .inr (.inr (fun _ _ => by with_reducible rfl)) | (refine And.intro ?_ ?_) | exact .inr (.inl rfl) | exact .inl (by decide +kernel) | exact trivial | exact .inr (.inr (fun _ _ => rfl)))); (try dsimp only [Nat.reduceAdd])); intro r0 w2 E2 _; have C3 := B3.ext E2; refine L_fo (F := fun u w' => ∃ b : Bool, u = .bool b ∧ (b = true ↔ SOk R C B T (lgI (t.length : Nat))) ∧ Ext w2 w') rfl ((z2r R C B T (lgI (t.length : Nat)) hR hC hB hT ⟨by omega, by omega⟩ w2).mono fun e w' ⟨b, h1, h2, h3⟩ => ⟨_, h1, b, rfl, h2, h3⟩) ?_; rintro _ w3 ⟨b, rfl, hb, E3⟩; have C3 := C3.ext E3; have E13 := E1.trans (E2.trans E3); cases b with
  | false =>
    (refine Ls (q1z rfl)<|m_B rfl<|Lo2 rfl rfl rfl rfl<|Lo2 rfl rfl rfl rfl<|Lo2 rfl rfl rfl rfl<|Ls (q0v (v := .bool _) rfl rfl)<|q0c<|tn<|q1e rfl<|q0b<|q0a<|a_S rfl<|a_B rfl<|q0c<|tn<|q0s<|tr ?_); exact q2y rfl rfl (v := .slice none 0 0) (x := .bool _) rfl rfl ⟨E13, .inr ⟨fun h => (by have := hb.2 h; cases this), rfl⟩⟩
  | true =>
    have hok := hb.1 rfl; obtain ⟨s, hs, rfl, rfl, rfl, rfl, hlog⟩ := hok.sh; have hn : t.length = s.R * s.C := by
      have h0 : 0 ≤ lgI ((t.length : Nat) : Int) := (by rw [hlog]; omega); obtain ⟨a, h1, h2⟩ := z1o h0; rw [h1] at hlog; rw [Cm.Sh.RC, show s.a + s.c = a by omega]; exact Int.ofNat.inj h2
    have hC1 : 1 ≤ s.C := Nat.pow_pos (by decide); have hR1 : 1 ≤ s.R := Nat.pow_pos (by decide); have hR16 : s.R ≤ 65536 := (q1b (a := s.a) (by have := hs.ac; omega)).2; have ht1 : 1 ≤ t.length := (by rw [hn]; exact Nat.mul_pos hR1 hC1); obtain ⟨b0, o0, c0, e, hmc, h1, h2, h3⟩ := hr.at (k := 0) (by omega); cases e
    (refine Ls (q1z rfl)<|m_B rfl<|Lg2 rfl rfl rfl (q0d (v := .slice _ _ _) rfl) ?_); refine q1w rfl rfl rfl ?_; refine L_fv rfl (gval_u lo hi _ (ints .u64 (vals t)) (by rw [q0n, q2g]; omega) w3 ((hr.ext E13).re (by rw [q0n, q2g]) rfl) q1h (fun i => decide ((vals t).getD i 0 < Fd.pr)) 101 #[] (z1r (vals t) w3)) ?_; intro w4 E4; rw [vals_lt]; have C3 := C3.ext E4; (refine Lg2 rfl rfl rfl (q1z rfl)<|Ls (q0u (v := .bool _) rfl rfl)<|q0c<|tn<|q0z rfl<|q0p<|tn<|q0b<|q0a<|m_S rfl<|Ls (q0q rfl)<|Ls (X_ld (cs := shC (s.R : Nat) (s.C : Nat) (s.B : Nat) (s.t : Nat)) rfl C3 rfl) ?_); refine L_fo rfl (gchunkMk (.slice (some ⟨b0, o0, none⟩) t.length c) rfl s.C hC1 w4) ?_; rintro q w5 ⟨g1, g2, rfl, E5, D1, D2⟩; obtain ⟨xs, hxs⟩ : ∃ xs, xs = (List.range s.R).map (chk b0 o0 s.C) := ⟨_, rfl⟩; have hxl : xs.length = s.R := (by rw [hxs]; simp); have hxg : ∀ r x, xs[r]? = some x → r < s.R ∧ x = chk b0 o0 s.C r := fun r x h => by
      have hr := (List.getElem?_eq_some_iff.1 h).1; rw [hxl] at hr; rw [hxs, List.getElem?_map, List.getElem?_range hr] at h; exact ⟨hr, (Option.some.inj h).symm⟩
    have hE5 := E13.trans (E4.trans E5); refine L_fo rfl (gcollect 148 #[.pointer (some ⟨g1, 0, none⟩), .pointer (some ⟨g2, 0, none⟩)] (enters_of Tryz.func148 (by kernel_rfl) rfl) xs (fun x hx => by
      obtain ⟨r, hr⟩ := List.mem_iff_getElem?.1 hx
      rw [(hxg r x hr).2]; rfl) (by omega) w5 (fun y E => by
      have hh := gchunk (fun k => w5.heap.size ≤ k) g1 g2 b0 o0 t.length c s.R s.C hC1 hn hmc (by omega) y (D1.ext E) (D2.ext E) (by have := D1.lt; show ¬ (w5.heap.size ≤ g1); omega) (by have := D2.lt; show ¬ (w5.heap.size ≤ g2); omega)
      rw [hxl]
      refine q9e.imp hh fun i vs a hp => ⟨chk b0 o0 s.C i, ?_, hp.2⟩
      rw [hxs, List.getElem?_map, List.getElem?_range hp.1]; rfl)) ?_
    rintro q6 w6 ⟨E6, o6⟩; have hq6 := q0g (Row.of_own o6); (refine Ls (q0k (v := q6) rfl)<|a_B rfl<|q0c<|tn<|q0s ?_); refine q2y rfl rfl (v := q6) (x := .bool _) rfl rfl ⟨hE5.trans E6, .inl ⟨hok, q6, rfl, xs, ?_, fun r x h => ?_⟩⟩
    · rw [Int.toNat_natCast, ← hxl]; exact q1u o6 hE5.size
    · obtain ⟨h4, rfl⟩ := hxg r x h; rw [Int.toNat_natCast]; exact chk_row (hr.ext (hE5.trans E6)) rfl hn h4 hC1
def cws (t : List K) (s : Sh) : List (List Nat) := (List.range s.R).map fun r => vals (enc (trow t s.C r) (s.c + s.b))
theorem q5g (t : List K) (s : Sh) : (cws t s).length = s.R := by unfold cws; simp
set_option maxRecDepth 100000 in
set_option maxHeartbeats 4000000 in
theorem q8v (lo hi : Nat) (v : Value) (t : List K) (ht : t.length ≤ 1000000) (R C B T : Int) (hR : I64 R) (hC : I64 C) (hB : I64 B) (hT : I64 T) (w : World) (hw : Tb w) (hr : Row w lo hi 1 v t.length (ints .u64 (vals t))) :
    Calls Tryz.prog 12 #[v, .agg (shC R C B T).toArray] w fun e w' => Ext w w' ∧ ((∃ s : Sh, s.Ok ∧ R = ((s.R : Nat) : Int) ∧ C = ((s.C : Nat) : Int) ∧ B = ((s.B : Nat) : Int) ∧ T = ((s.t : Nat) : Int) ∧ lgI (t.length : Nat) = ((s.a + s.c : Nat) : Int) ∧ t.length = s.R * s.C ∧ ∃ q, e = .returned (.tuple #[q, .int .i64 0]) ∧ q2l (fun k => w.heap.size ≤ k ∧ k < w'.heap.size) w' .u64 q (cws t s)) ∨ (¬ SOk R C B T (lgI (t.length : Nat)) ∧ e = .returned (.tuple #[.slice none 0 0, .int .i64 1]))) := by
  have hv1 := q0g hr; have hr := hr.tightN (by decide); refine q0j Tryz.func12 rfl Tryz.ntmps12 rfl ?_; (refine q0b<|q0a ?_); refine q1t rfl ?_; intro g3 w1 B3 hg3 E1 hs1; (refine a_S rfl<|a_I rfl<|q0c<|tn<|q0b<|q0a<|Ls (q0d (v := v) rfl)<|Ls (q0x (cs := shC R C B T) rfl B3 rfl) ?_); refine L_fo (F := fun u w' => Ext w1 w' ∧ ((SOk R C B T (lgI (t.length : Nat)) ∧ ∃ q, u = .tuple #[q, .bool true] ∧ RowsAt w1 w' lo w.heap.size q t R.toNat C.toNat) ∨ (¬ SOk R C B T (lgI (t.length : Nat)) ∧ u = .tuple #[.slice none 0 0, .bool false]))) rfl ((grows lo w.heap.size v t ht R C B T hR hC hB hT w1 (hr.ext E1)).mono fun e w' ⟨h1, h2⟩ => by
    rcases h2 with ⟨h2, q, h3, h4⟩ | ⟨h2, h3⟩
    · exact ⟨_, h3, h1, .inl ⟨h2, q, rfl, h4⟩⟩
    · exact ⟨_, h3, h1, .inr ⟨h2, rfl⟩⟩) ?_
  rintro _ w2 ⟨E2, ⟨hok, q, rfl, xs, o2, hx2⟩ | ⟨hno, rfl⟩⟩
  · obtain ⟨s, hs, rfl, rfl, rfl, rfl, hlog⟩ := hok.sh; have hn : t.length = s.R * s.C := by
      have h0 : 0 ≤ lgI ((t.length : Nat) : Int) := (by rw [hlog]; omega); obtain ⟨a, h1, h2⟩ := z1o h0; rw [h1] at hlog; rw [Cm.Sh.RC, show s.a + s.c = a by omega]; exact Int.ofNat.inj h2
    rw [Int.toNat_natCast] at o2 hx2; have hR1 : 1 ≤ s.R := Nat.pow_pos (by decide); have hR16 : s.R ≤ 65536 := (q1b (a := s.a) (by have := hs.ac; omega)).2; have hxl : xs.length = s.R := (by rw [o2.1, Nat.mul_one]); obtain ⟨gq, cq, rfl, hgq1, hgq2, hgq3, hgq4⟩ := q7s o2 hR1; have E12 := E1.trans E2; have C3 := B3.ext E2; have hz1 := E1.size; have hl3 := B3.lt; have hgB : w1.heap.size ≤ gq := hgq1; (refine m_T rfl<|Ls (q0m rfl rfl)<|Ls (q0m rfl rfl)<|a_S rfl<|a_B rfl<|q0c<|tn<|q0b<|q0b<|q0a<|m_B rfl<|Ls (q1z rfl)<|q0c<|tn ?_); refine q0z rfl ?_; (refine q0p<|tn<|q0b<|q0b<|q0a<|m_S rfl<|Ls (q0f rfl)<|m_I rfl<|q0c<|tn<|q0i ?_); refine q1l (fun q f w' => ∃ i zs, q = s.R - i ∧ i ≤ s.R ∧ f 3 = .pointer (some ⟨g3, 0, none⟩) ∧ f 6 = .slice (some ⟨gq, 0, none⟩) s.R cq ∧ f 18 = .slice (some ⟨gq, 0, none⟩) s.R cq ∧ f 19 = .int .i64 (s.R : Nat) ∧ f 20 = .int .i64 (i : Nat) ∧ Blk w' g3 28 (shC (s.R : Nat) (s.C : Nat) (s.B : Nat) (s.t : Nat)) ∧
      w'.ownsRow w1.heap.size 22 1 (.slice (some ⟨gq, 0, none⟩) s.R cq) s.R zs ∧ (∀ r x, i ≤ r → zs[r]? = some x → xs[r]? = some x) ∧ (∀ r x, r < i → zs[r]? = some x → w'.ownsRow w.heap.size 29 1 x (s.B * s.C) (ints .u64 (vals (enc (trow t s.C r) (s.c + s.b))))) ∧ Ext w w' ∧ w2.heap.size ≤ w'.heap.size ∧ w2.grownBy w' (some gq)) s.R ?_ ?_
    · exact ⟨0, xs, rfl, by omega, rfl, rfl, rfl, rfl, rfl, C3, o2, fun _ _ _ h => h, fun _ _ h => by omega, E12, Nat.le_refl _, (Ext.refl w2).row _⟩
    · rintro q f wr ⟨i, zs, hq, hi', f3, f6, f18, f19, f20, D3, oz, hz1', hz2', hE, hsz, hG⟩; rw [fold f3, fold f6, fold f18, fold f19, fold f20]; (refine q0b<|q0a<|Ls (q1s rfl rfl)<|q0c<|tn<|q0b ?_); refine q0y rfl (fun h => ?_) (fun h => ?_)
      · have hlt : i < s.R := (by omega); have hzl : zs.length = s.R := (by rw [oz.1, Nat.mul_one]); obtain ⟨x, hx⟩ : ∃ x, zs[i]? = some x := ⟨_, List.getElem?_eq_getElem (by omega)⟩; have hxx := hz1' i x (Nat.le_refl _) hx; have hrx := hx2 i x hxx; have hx1 := q0g hrx; have hRz := q7r oz; have hrw : Row wr lo w.heap.size 1 x s.C (ints .u64 (vals (trow t s.C i))) := hrx.grown hG (fun g h => by cases h; right; omega); have hEs := hE.size; have hl3' := D3.lt; (refine q0p<|tn<|q0b<|q0i<|q0b<|q0a<|m_I rfl<|Ls (q0o rfl rfl (by omega))<|Ls (q2n rfl hRz (j := i) (by omega) hx)<|a_I rfl<|Ls (q0k (v := x) rfl)<|q0c<|tn<|q0a<|m_S rfl<|m_I rfl<|Ls (q0d (v := x) rfl)<|Ls (q0q rfl)<|Ls (X_ld (cs := shC (s.R : Nat) (s.C : Nat) (s.B : Nat) (s.t : Nat)) rfl D3 rfl) ?_); refine L_fo (F := fun u w' => ∃ y, u = .tuple #[y, .int .i64 0] ∧ Ext wr w' ∧ w'.ownsRow wr.heap.size 29 1 y (s.B * s.C) (ints .u64 (vals (enc (trow t s.C i) (s.c + s.b))))) rfl ((gencode (a := s.c) (b := s.b) (c := s.C) (m := s.B) hs.b1 hs.b4 hs.cb rfl rfl lo w.heap.size x (trow t s.C i) (Fd.trow_len _ _ _) wr (hw.ext hE) hrw).mono fun e w' ⟨y, h1, h2, h3⟩ => ⟨_, h1, y, rfl, h2, h3⟩) ?_; rintro _ w4 ⟨y, rfl, E4, o4⟩; have hy1 := q0g (Row.of_own o4); (refine m_T rfl<|Ls (q0m rfl rfl)<|Ls (q0m rfl rfl)<|Ls (q0o rfl rfl (by omega)) ?_); refine z1c (i := i) (v := y) (q0h oz E4) rfl rfl (by omega) hy1 hlt ?_; intro w5 o5 hg5 hs5; (refine q0c<|bn<|tn<|q0a<|Ls (q1a rfl rfl (by omega))<|m_I rfl<|q0c<|tn ?_); have hx5 : ∀ (z : Value) (m : Nat) (l : List Value), w4.ownsRow w.heap.size 29 1 z m l → w5.ownsRow w.heap.size 29 1 z m l := fun z m l h => q1g h hg5 (fun g hg e => by
          obtain rfl : gq = g := Option.some.inj e
          obtain ⟨_, cs, fz, e1⟩ := q1i h gq hg
          obtain ⟨_, cs', fz', e2⟩ := q1i (q0h oz E4) gq rfl
          rw [e1] at e2
          cases e2)
        refine ⟨s.R - (i + 1), by omega, i + 1, zs.set i y, rfl, by omega, rfl, rfl, rfl, rfl, rfl, (D3.ext E4).grown hg5 (by simp; omega), o5, fun r z hr' hz => ?_, fun r z hr' hz => ?_, (hE.trans E4).then hg5 (fun g h => by cases h; omega), by have := E4.size; omega, q1d (q1d hG E4 (fun _ h => by cases h)) hg5 (fun g h => .inl h)⟩
        · rw [List.getElem?_set_ne (by omega)] at hz; exact hz1' r z (by omega) hz
        · by_cases hri : r = i
          · subst hri; rw [List.getElem?_set_self (by omega)] at hz; cases hz
            exact hx5 _ _ _ (q1u o4 hEs)
          · rw [List.getElem?_set_ne (by omega)] at hz; exact hx5 _ _ _ (q0h (hz2' r z (by omega) hz) E4)
      · have hiR : i = s.R := (by omega); subst hiR; have hzl : zs.length = s.R := (by rw [oz.1, Nat.mul_one]); (refine q1j<|te<|te<|bx<|tn<|q0b<|q0a<|m_S rfl<|a_S rfl<|a_I rfl<|q0c<|tn<|q0s ?_); refine q2y rfl rfl (v := .slice _ _ _) (x := .int _ _) rfl rfl ⟨hE, .inl ⟨s, hs, rfl, rfl, rfl, rfl, hlog, hn, _, rfl, zs, by rw [q5g]; exact hzl, ?_, fun r x y hx hy => ?_⟩⟩
        · rw [q5g]; refine (RowN.of_own oz).mono fun k hk => ⟨by omega, hk.2⟩
        · have hrl : r < s.R := by
            have := (List.getElem?_eq_some_iff.1 hx).1; omega
          have hy' : y = vals (enc (trow t s.C r) (s.c + s.b)) := by
            unfold cws at hy; rw [List.getElem?_map, List.getElem?_range hrl] at hy; exact (Option.some.inj hy).symm
          rw [hy']; have hh := RowN.of_own (hz2' r x hrl hx); exact hh.re (by rw [q2g, Fd.enc_len, Cm.Sh.BC]; rfl) rfl
  · (refine m_T rfl<|Ls (q0m rfl rfl)<|Ls (q0m rfl rfl)<|a_S rfl<|a_B rfl<|q0c<|tn<|q0b<|q0b<|q0a<|m_B rfl<|Ls (q1z rfl)<|q0c<|tn ?_); refine q1e rfl ?_; (refine q0b<|q0a<|a_S rfl<|a_I rfl<|q0c<|tn<|q0s<|tr ?_); exact q2y rfl rfl (v := .slice none 0 0) (x := .int _ _) rfl rfl ⟨E1.trans E2, .inr ⟨hno, rfl⟩⟩
end Go.Proofs.YtpohjepbmgeplaaGreatDoor
