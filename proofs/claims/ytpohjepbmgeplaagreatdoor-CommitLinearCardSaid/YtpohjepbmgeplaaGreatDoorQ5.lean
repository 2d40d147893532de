/- HL, HM, HN, HO, HP, HQ, HR, HS, HT, IA, IB, IC, ID, IE, IF. -/
import Derived.Test.YtpohjepbmgeplaaGreatDoorQ4
/- Hash trees: the program's closed subtrees and openings. -/
namespace Go.Proofs.YtpohjepbmgeplaaGreatDoor
open Go.RowKit Go.Proofs.K
open _root_.Mk (spl spl_pos spl_lt tree tree_one tree_two cls cls_nil cls_one cls_two)

/-- what the iterator of closed subtrees yields -/
def PreCl (all : List (Nat × Nat)) (i : Nat) (vs : List Value) (_ : World) : Prop := ∃ p q, all[i]? = some p ∧ q.oneCell' = true ∧ vs = [.agg (sub p.1 p.2 q).toArray]
theorem filt_in {I : List Nat} {lo k hi : Nat} (h : ∀ i ∈ I, lo ≤ i ∧ i < hi) : (∀ i ∈ I.filter (fun i => Nat.blt i k), lo ≤ i ∧ i < k) ∧ (∀ i ∈ I.filter (fun i => Nat.ble k i), k ≤ i ∧ i < hi) := by
  constructor
  · intro i hi'
    obtain ⟨q1, q2⟩ := List.mem_filter.1 hi'
    rw [Nat.blt_eq] at q2
    exact ⟨(h i q1).1, q2⟩
  · intro i hi'
    obtain ⟨q1, q2⟩ := List.mem_filter.1 hi'
    exact ⟨Nat.le_of_ble_eq_true q2, (h i q1).2⟩
theorem sorted_len {I : List Nat} {lo hi : Nat} (hp : I.Pairwise (· < ·)) (h : ∀ i ∈ I, lo ≤ i ∧ i < hi) : I.length ≤ hi - lo := by
  induction I generalizing lo with
  | nil => simp
  | cons i r ih =>
    obtain ⟨ha, hb⟩ := List.pairwise_cons.1 hp
    have h1 := h i (by simp)
    have := ih (lo := i + 1) hb fun j hj => ⟨ha j hj, (h j (by simp [hj])).2⟩
    rw [List.length_cons]
    omega
set_option maxRecDepth 100000 in
set_option maxHeartbeats 4000000 in
theorem gwalk (g B lp : Nat) (all : List (Nat × Nat)) (J : Nat → World → Prop) (Jx : World → Prop) (hJ : ∀ i a b, J i a → Ext a b → J i b) (hJx : ∀ a b, Jx a → Ext a b → Jx b)
    (hY : ∀ i v a, J i a → PreCl all i v a → YieldAt Fence.wide 8 Tryz.prog lp v.toArray a fun e b => (e = .returned (.bool true) ∧ J (i + 1) b ∧ KeepTy B g 43 a b) ∨ (e = .returned (.bool false) ∧ Jx b)) :
    ∀ (fu lo hi bl bh cnt : Nat) (v : Value) (I : List Nat) (_ : hi - lo < fu) (_ : lo < hi) (_ : hi ≤ 65536) (_ : I.Pairwise (· < ·)) (_ : ∀ i ∈ I, lo ≤ i ∧ i < hi) (_ : bh ≤ B) (_ : ¬ (bl ≤ g ∧ g < bh))
      (_ : ∀ i p, (cls lo hi I)[i]? = some p → all[cnt + i]? = some p) (w : World) (_ : g < w.heap.size) (_ : Row w bl bh 1 v I.length (ints .i64 I)) (_ : J cnt w),
    Calls Tryz.prog 170 #[.agg (sub lo hi v).toArray, yieldV lp] w fun e b => (e = .returned (.bool true) ∧ J (cnt + (cls lo hi I).length) b ∧ KeepTy B g 43 w b) ∨ (e = .returned (.bool false) ∧ Jx b)
  | 0, _, _, _, _, _, _, _, h, _, _, _, _, _, _, _, _, _, _, _ => by omega
  | fu + 1, lo, hi, bl, bh, cnt, v, I, hf, hlo, hh, hp, hin, hbB, hgb, hall, w, hgw, hr, hj => by
    have hv1 := row_cell1 hr
    have hIl : I.length ≤ 65536 := by
      have : I.length ≤ hi - lo := sorted_len hp hin
      omega
    refine calls_W Tryz.func170 rfl Tryz.ntmps170 rfl ?_
    (refine W_seq ?_; refine W_region ?_)
    refine L_box rfl ?_
    intro g2 w2 B2 hg2 E2 hs2
    by_cases h0 : I = []
    · subst h0
      (refine Ls (X_assign (v := .bool _) rfl) ?_; refine L_nil ?_; refine tn ?_; refine W_seq ?_; refine W_block ?_; refine W_seq ?_; refine W_region ?_; refine Ls (X_fld rfl) ?_; refine Ls (X_ld rfl B2 rfl) ?_; refine Ls (X_lenRow (v := v) rfl hr) ?_; refine Ls (X_eql rfl rfl) ?_; refine Ls (X_assign (v := .bool _) rfl) ?_; refine L_nil ?_; refine tn ?_; refine W_condT rfl ?_; refine W_seq ?_; refine W_region ?_; refine Ls (X_move (v := .func _ _ _) rfl) ?_)
      (refine Ls (X_ldW rfl B2 rfl) ?_)
      refine L_yield rfl rfl rfl (hY cnt [.agg (sub lo hi v).toArray] w2 (hJ _ _ _ hj E2) ⟨(lo, hi), v, hall 0 _ rfl, hv1, rfl⟩) ?_
      rintro e w4 (⟨rfl, hj2, hk2⟩ | ⟨rfl, hjx⟩)
      · refine ⟨.bool true, rfl, ?_⟩
        (refine Ls (X_assign (v := .bool _) rfl) ?_; refine L_nil ?_; refine tn ?_; refine W_ret ?_; refine br ?_; refine tr ?_)
        exact endQ_ret1 rfl rfl (v := .bool _) rfl (.inl ⟨rfl, hj2, (KeepTy.of_ext E2).trans hk2⟩)
      · refine ⟨.bool false, rfl, ?_⟩
        (refine Ls (X_assign (v := .bool _) rfl) ?_; refine L_nil ?_; refine tn ?_; refine W_ret ?_; refine br ?_; refine tr ?_)
        exact endQ_ret1 rfl rfl (v := .bool _) rfl (.inr ⟨rfl, hjx⟩)
    · have hI0 : 0 < I.length := List.length_pos_iff.2 h0
      by_cases h1 : hi - lo ≤ 1
      · have hcl := cls_one h1 h0
        (refine Ls (X_assign (v := .bool _) rfl) ?_; refine L_nil ?_; refine tn ?_; refine W_seq ?_; refine W_block ?_; refine W_seq ?_; refine W_region ?_; refine Ls (X_fld rfl) ?_; refine Ls (X_ld rfl B2 rfl) ?_; refine Ls (X_lenRow (v := v) rfl hr) ?_; refine Ls (X_eqlF rfl rfl (by omega)) ?_; refine Ls (X_assign (v := .bool _) rfl) ?_; refine L_nil ?_; refine tn ?_; refine W_condF rfl ?_; refine W_seq ?_; refine W_region ?_; refine Ls (X_fld rfl) ?_; refine Ls (X_ld rfl B2 rfl) ?_; refine Ls (X_fld rfl) ?_; refine Ls (X_ld rfl B2 rfl) ?_; refine Ls (X_subi rfl rfl (by omega)) ?_; refine Ls (X_eqlT rfl rfl (by omega)) ?_; refine Ls (X_assign (v := .bool _) rfl) ?_; refine L_nil ?_; refine tn ?_; refine W_condT rfl ?_; refine W_seq ?_; refine W_region ?_; refine Ls (X_assign (v := .bool _) rfl) ?_; refine L_nil ?_; refine tn ?_; refine W_ret ?_; refine br ?_; refine tr ?_)
        refine endQ_ret1 rfl rfl (v := .bool _) rfl (.inl ⟨rfl, ?_, KeepTy.of_ext E2⟩)
        rw [hcl]
        exact hJ _ _ _ hj E2
      · have h2 : 2 ≤ hi - lo := by omega
        have hs1 := spl_lt h2
        have hs0 := spl_pos (hi - lo)
        have hcl := cls_two h2 h0
        obtain ⟨k, hk⟩ : ∃ k, k = lo + spl (hi - lo) := ⟨_, rfl⟩
        have hgp := gparts h2 hh bl bh v I hp hIl w2 (hr.ext E2)
        obtain ⟨fa, fb⟩ := filt_in (k := k) hin
        rw [← hk] at hcl hgp
        obtain ⟨Ia, hIa⟩ : ∃ Ia, Ia = I.filter fun i => Nat.blt i k := ⟨_, rfl⟩
        obtain ⟨Ib, hIb⟩ : ∃ Ib, Ib = I.filter fun i => Nat.ble k i := ⟨_, rfl⟩
        have pa : Ia.Pairwise (· < ·) := by rw [hIa]; exact hp.filter _
        have pb : Ib.Pairwise (· < ·) := by rw [hIb]; exact hp.filter _
        rw [← hIa, ← hIb] at hcl hgp
        rw [← hIa] at fa
        rw [← hIb] at fb
        (refine Ls (X_assign (v := .bool _) rfl) ?_; refine L_nil ?_; refine tn ?_; refine W_seq ?_; refine W_block ?_; refine W_seq ?_; refine W_region ?_; refine Ls (X_fld rfl) ?_; refine Ls (X_ld rfl B2 rfl) ?_; refine Ls (X_lenRow (v := v) rfl hr) ?_; refine Ls (X_eqlF rfl rfl (by omega)) ?_; refine Ls (X_assign (v := .bool _) rfl) ?_; refine L_nil ?_; refine tn ?_; refine W_condF rfl ?_; refine W_seq ?_; refine W_region ?_; refine Ls (X_fld rfl) ?_; refine Ls (X_ld rfl B2 rfl) ?_; refine Ls (X_fld rfl) ?_; refine Ls (X_ld rfl B2 rfl) ?_; refine Ls (X_subi rfl rfl (by omega)) ?_; refine Ls (X_eqlF rfl rfl (by omega)) ?_; refine Ls (X_assign (v := .bool _) rfl) ?_; refine L_nil ?_; refine tn ?_; refine W_condF rfl ?_; refine W_skip ?_; refine bn ?_; refine tn ?_; refine W_seq ?_; refine W_region ?_; refine Ls (X_ldW rfl B2 rfl) ?_)
        refine L_fo (F := fun u w' => ∃ x y, u = .tuple #[.agg (sub lo k x).toArray, .agg (sub k hi y).toArray] ∧ Ext w2 w' ∧ Row w' bl bh 1 x Ia.length (ints .i64 Ia) ∧ Row w' bl bh 1 y Ib.length (ints .i64 Ib)) rfl (hgp.mono fun e w' ⟨x, y, h1, h2⟩ => ⟨_, h1, x, y, rfl, h2⟩) ?_
        rintro _ w3 ⟨x, y, rfl, E3, rx, ry⟩
        have hx1 := row_cell1 rx
        have hy1 := row_cell1 ry
        (refine Ls (X_move (v := .tuple _) rfl) ?_; refine Ls (X_extract rfl rfl) ?_; refine Ls (X_extract rfl rfl) ?_)
        refine L_alloc ?_
        intro g5 w4 B5 hg5 E4 hs5
        refine L_alloc ?_
        intro g6 w5 B6 hg6 E5 hs6
        refine L_storeW (l := sub lo k x) rfl rfl rfl (sub_cell hx1) (B5.ext E5) rfl ?_
        intro w6 C5 hg6' hs6'
        refine L_storeW (l := sub k hi y) rfl rfl rfl (sub_cell hy1) (B6.grown hg6' (by simp; omega)) rfl ?_
        intro w7 C6 hg7 hs7
        have C5 := C5.grown hg7 (by simp; omega)
        have hz3 := (E2.trans E3).size
        have E7 : Ext w w7 := ((((E2.trans E3).trans E4).trans E5).then hg6' (fun g h => by cases h; omega)).then hg7 (fun g h => by cases h; omega)
        have E37 : Ext w3 w7 := ((E4.trans E5).then hg6' (fun g h => by cases h; omega)).then hg7 (fun g h => by cases h; omega)
        have hca : ∀ i p, (cls lo k Ia)[i]? = some p → all[cnt + i]? = some p := fun i p h => hall i p (by rw [hcl, List.getElem?_append_left (List.getElem?_eq_some_iff.1 h).1]; exact h)
        have hcb : ∀ i p, (cls k hi Ib)[i]? = some p → all[cnt + (cls lo k Ia).length + i]? = some p := fun i p h => by
          rw [Nat.add_assoc]
          exact hall _ p (by rw [hcl, List.getElem?_append_right (by omega), Nat.add_sub_cancel_left]; exact h)
        have hgw7 : g < w7.heap.size := Nat.lt_of_lt_of_le hgw E7.size
        (refine L_nil ?_; refine tn ?_; refine W_seq ?_; refine W_region ?_; refine Ls (X_ldW rfl C5 rfl) ?_; refine Ls (X_move (v := .func _ _ _) rfl) ?_)
        refine L_fn (gwalk g B lp all J Jx hJ hJx hY fu lo k bl bh cnt x Ia (by omega) (by omega) (by omega) pa fa hbB hgb hca w7 hgw7 (rx.ext E37) (hJ _ _ _ hj E7)) rfl ?_
        rintro e w8 (⟨rfl, hj2, hk2⟩ | ⟨rfl, hjx⟩)
        · have D6 := hk2.blk C6 (by omega) (.inr (by decide))
          refine ⟨.bool true, rfl, ?_⟩
          (refine Ls (X_move (v := .bool _) rfl) ?_)
          refine L_strip rfl rfl rfl ?_
          (refine Ls (X_ldW rfl D6 rfl) ?_; refine Lg2 rfl rfl rfl (X_move (v := .func _ _ _) rfl) ?_)
          refine L_strip rfl rfl rfl ?_
          refine L_fn (gwalk g B lp all J Jx hJ hJx hY fu k hi bl bh (cnt + (cls lo k Ia).length) y Ib (by omega) (by omega) hh pb fb hbB hgb hcb w8 (Nat.lt_of_lt_of_le hgw7 hk2.size) (hk2.row (ry.ext E37) hgb hbB) hj2) rfl ?_
          rintro e w9 (⟨rfl, hj3, hk3⟩ | ⟨rfl, hjx⟩)
          · refine ⟨.bool true, rfl, ?_⟩
            (refine Ls (X_pickT (v := .bool _) rfl rfl) ?_; refine Ls (X_assign (v := .bool _) rfl) ?_; refine L_nil ?_; refine tn ?_; refine W_ret ?_)
            refine endQ_ret1 rfl rfl (v := .bool _) rfl (.inl ⟨rfl, ?_, ((KeepTy.of_ext E7).trans hk2).trans hk3⟩)
            rw [hcl, List.length_append, ← Nat.add_assoc]
            exact hj3
          · refine ⟨.bool false, rfl, ?_⟩
            (refine Ls (X_pickT (v := .bool _) rfl rfl) ?_; refine Ls (X_assign (v := .bool _) rfl) ?_; refine L_nil ?_; refine tn ?_; refine W_ret ?_)
            exact endQ_ret1 rfl rfl (v := .bool _) rfl (.inr ⟨rfl, hjx⟩)
        · refine ⟨.bool false, rfl, ?_⟩
          (refine Ls (X_move (v := .bool _) rfl) ?_; refine Lo2 rfl rfl rfl rfl ?_; refine Lo2 rfl rfl rfl rfl ?_; refine Lo2 rfl rfl rfl rfl ?_; refine Ls (X_pickF (v := .bool _) rfl rfl) ?_; refine Ls (X_assign (v := .bool _) rfl) ?_; refine L_nil ?_; refine tn ?_; refine W_ret ?_)
          exact endQ_ret1 rfl rfl (v := .bool _) rfl (.inr ⟨rfl, hjx⟩)
end Go.Proofs.YtpohjepbmgeplaaGreatDoor

/- Hash trees: the program's openings, joined. -/
namespace Go.Proofs.YtpohjepbmgeplaaGreatDoor
open Go.RowKit Go.Proofs.K
open _root_.Mk (spl spl_pos spl_lt tree tree_one tree_two cls cls_nil cls_one cls_two)

section
variable {P : Program} {n : NN} {f : Fr} {w : World} {d : Option Tmp} {t ty e : TypeId} {pos : String} {af : Array Edge} {g : Option (Nat × Bool)} {x y z : Operand}
/-- x[i:j], x a slice that has a block -/
theorem X_slice2p {size m c b o : Nat} [TSlice P ty e] [TSz P e size] {ky kz : IntKind} {iy iz : Int} (i j : Nat) (hx : ev n f x = .slice (some ⟨b, o, none⟩) m c) (hy : ev n f y = .int ky iy) (hz : ev n f z = .int kz iz) (hi : iy = (i : Int)) (hj : iz = (j : Int)) (hij : i ≤ j) (hjc : j ≤ c) (hic : i < c) :
    X P n ⟨d, .slice ty x (some y) (some z) none, t, pos, af, g⟩ f w = .ok (.value (.slice (some ⟨b, o + i * size, none⟩) (j - i) (c - i))) w := by
  subst hi; subst hj
  have h := X_slice (P := P) (n := n) (f := f) (w := w) (d := d) (t := t) (ty := ty) (pos := pos) (af := af) (g := g) (x := x) (size := size) (lo := some y) (hi := some z) (i := i) (j := j) hx ⟨_, hy⟩ ⟨_, hz⟩ hij hjc
  rw [if_neg (show ¬ c = i by omega), Option.map_some, addr_add] at h
  exact h
end
set_option maxHeartbeats 1000000 in
theorem gclosed (g B bq hi bl bh : Nat) (v : Value) (I : List Nat) (hlo : 0 < hi) (hh : hi ≤ 65536) (hp : I.Pairwise (· < ·)) (hin : ∀ i ∈ I, i < hi) (hbB : bh ≤ B) (hgb : ¬ (bl ≤ g ∧ g < bh)) (w : World) (hg : g < w.heap.size) (hB : Blk w bq 163 (sub 0 hi v)) (hr : Row w bl bh 1 v I.length (ints .i64 I)) :
    IterL Tryz.prog 169 #[.pointer (some ⟨bq, 0, none⟩)] w (PreCl (cls 0 hi I)) (KeepTy B g 43) Ext Ext (fun i _ => i = (cls 0 hi I).length) := by
  intro lp J Jx w1 E1 hJ hJx hY h0
  refine calls_W Tryz.func169 rfl Tryz.ntmps169 rfl ?_
  have hB1 := hB.ext E1
  (refine W_region ?_; refine Ls (X_ldW rfl hB1 rfl) ?_; refine Ls (X_move (v := .func _ _ _) rfl) ?_)
  refine L_fn (gwalk g B lp (cls 0 hi I) J Jx hJ hJx hY (hi + 1) 0 hi bl bh 0 v I (by omega) hlo hh hp (fun i h => ⟨Nat.zero_le _, hin i h⟩) hbB hgb (fun i p h => by rw [Nat.zero_add]; exact h) w1 (Nat.lt_of_lt_of_le hg E1.size) (hr.ext E1) h0) rfl ?_
  rintro e w2 (⟨rfl, hj, _⟩ | ⟨rfl, hjx⟩)
  · refine ⟨.bool true, rfl, ?_⟩
    (refine L_nil ?_)
    refine endQ_end0 rfl rfl ?_
    rw [Nat.zero_add] at hj
    exact ⟨⟨_, rfl⟩, .inl ⟨_, rfl, hj⟩⟩
  · refine ⟨.bool false, rfl, ?_⟩
    (refine L_nil ?_)
    refine endQ_end0 rfl rfl ?_
    exact ⟨⟨_, rfl⟩, .inr hjx⟩
theorem gclosedMk (lo hi : Nat) (v : Value) (hv : v.oneCell' = true) (w : World) :
    Calls Tryz.prog 122 #[.agg (sub lo hi v).toArray] w fun e w' => ∃ q, e = .returned q ∧ ∃ b, q = .func (.func 169) #[] #[.pointer (some ⟨b, 0, none⟩)] ∧ Ext w w' ∧ Blk w' b 163 (sub lo hi v) ∧ w.heap.size = b := by
  refine calls_W Tryz.func122 rfl Tryz.ntmps122 rfl ?_
  (refine W_seq ?_; refine W_region ?_)
  refine L_box rfl ?_
  intro g1 w1 B1 hg1 E1 hs1
  (refine Ls (X_assign (v := Value.nilFunc) rfl) ?_; refine L_nil ?_; refine tn ?_; refine W_seq ?_; refine W_region ?_)
  refine Ls (X_mkFunc (vf := []) (vc := [.pointer (some ⟨g1, 0, none⟩)]) rfl rfl) ?_
  (refine Ls (X_assign (v := .func _ _ _) rfl) ?_; refine L_nil ?_; refine tn ?_; refine W_ret ?_)
  refine endQ_ret1 rfl rfl (v := .func _ _ _) rfl ⟨_, rfl, g1, rfl, E1, B1, hg1⟩
theorem blk_ty {w : World} {g : Nat} {t t' : TypeId} {cs : List Value} {cs' : Array Value} {fz : Nat × Nat} (h : Blk w g t cs) (e : w.heap[g]? = some (.cells cs' t' fz)) (hne : t ≠ t') : False := by
  unfold Blk at h
  rw [h] at e
  cases e
  exact hne rfl
theorem cls_count : ∀ (n : Nat) (I : List Nat), 0 < n → n ≤ 65536 → (cls 0 n I).length ≤ 65536 := by
  have key : ∀ (f lo hi : Nat) (I : List Nat), hi - lo < f → lo < hi → (cls lo hi I).length ≤ hi - lo := by
    intro f
    induction f with
    | zero => intro lo hi I h; omega
    | succ f ih =>
      intro lo hi I hf hlo
      by_cases h0 : I = []
      · subst h0; rw [cls_nil]; simp; omega
      · by_cases h1 : hi - lo ≤ 1
        · rw [cls_one h1 h0]; simp
        · have h2 : 2 ≤ hi - lo := by omega
          have hs1 := spl_lt h2
          have hs0 := spl_pos (hi - lo)
          rw [cls_two h2 h0, List.length_append]
          have := ih lo (lo + spl (hi - lo)) (I.filter fun i => Nat.blt i (lo + spl (hi - lo))) (by omega) (by omega)
          have := ih (lo + spl (hi - lo)) hi (I.filter fun i => Nat.ble (lo + spl (hi - lo)) i) (by omega) (by omega)
          omega
  intro n I h0 hn
  have := key (n + 1) 0 n I (by omega) h0
  omega
/-- the state of the loop of an opening -/
def OpInv (w0 : World) (g4 g7 g8 gd c8 m : Nat) (D : List (List Nat)) (nodes : List (List Nat)) (i : Nat) (y : World) : Prop :=
  ∃ v, Blk y g7 48 [v] ∧ y.ownsRow w0.heap.size 43 32 v i (dgs (nodes.take i)) ∧ (∀ q, v.ownBlock = some q → q ≠ gd) ∧ i ≤ nodes.length ∧
    Blk y g8 46 [.slice (some ⟨gd, 0, none⟩) m c8] ∧ y.ownsRow w0.heap.size 43 32 (.slice (some ⟨gd, 0, none⟩) m c8) m (dgs D) ∧ Ext w0 y ∧ Blk y g4 48 [.slice none 0 0]
theorem OpInv.calm {w0 : World} {g4 g7 g8 gd c8 m B i : Nat} {D nodes : List (List Nat)} {x y : World} (h : OpInv w0 g4 g7 g8 gd c8 m D nodes i x) (C : K.Calm B x y) (hB : w0.heap.size ≤ B) : OpInv w0 g4 g7 g8 gd c8 m D nodes i y := by
  obtain ⟨v, h1, h2, h3, h4, h5, h6, h7, h8⟩ := h
  exact ⟨v, C.blk h1, C.own h2, h3, h4, C.blk h5, C.own h6, C.toExt h7 hB, C.blk h8⟩
theorem opening_ok (M : List (List Nat)) {I : List Nat} (h0 : 0 < M.length) (hI : ∀ p ∈ cls 0 M.length I, p.1 < p.2 ∧ p.2 ≤ M.length) : DgOk (Mk.opening lf nd M I) := by
  intro d hd
  obtain ⟨p, hp, rfl⟩ := List.mem_map.1 hd
  obtain ⟨h1, h2⟩ := hI p hp
  exact tree_len _ (((hash_ok M).drop _).take _) (by unfold Mk.hashes; rw [List.length_take, List.length_drop, List.length_map]; omega)
theorem node_ok (M : List (List Nat)) {p : Nat × Nat} (h1 : p.1 < p.2) (h2 : p.2 ≤ M.length) : (tree nd (((M.map lf).drop p.1).take (p.2 - p.1))).length = 32 :=
  (tree_len _ (((hash_ok M).drop _).take _) (by rw [List.length_take, List.length_drop, List.length_map]; omega)).1
set_option maxRecDepth 100000 in
set_option maxHeartbeats 4000000 in
theorem gmopen (N : Nat → Prop) (v : Value) (M : List (List Nat)) (h1 : 1 ≤ M.length) (hM : M.length ≤ 65536) (hM8 : ∀ b ∈ M, Sha.bytesOk b ∧ b.length ≤ 100000000) (lo hi' : Nat) (u : Value) (I : List Nat) (hp : I.Pairwise (· < ·)) (hin : ∀ i ∈ I, i < M.length) (w : World) (hw : Tb w) (hr : PartN N w .u8 v M) (hru : Row w lo hi' 1 u I.length (ints .i64 I)) :
    Calls Tryz.prog 64 #[v, u] w fun e w' => ∃ q, e = .returned (.tuple #[.agg #[q], .int .i64 0]) ∧ Ext w w' ∧ w'.ownsRow w.heap.size 43 32 q (Mk.opening lf nd M I).length (dgs (Mk.opening lf nd M I)) := by
  have hIl : I.length ≤ 65536 := by
    have := sorted_len hp (lo := 0) (hi := M.length) fun i h => ⟨Nat.zero_le _, hin i h⟩
    omega
  have hcl := Mk.cls_in (M.length + 1) 0 M.length I (by omega) (by omega)
  have hml : (M.map lf).length = M.length := by simp
  obtain ⟨A, c, rfl, hmc, hcm⟩ := hr.form
  have hu1 := row_cell1 hru
  have hru := hru.tightN (by decide)
  refine calls_T Tryz.func64 rfl Tryz.ntmps64 rfl ?_
  refine T_seq ?_
  (refine W_region ?_)
  refine L_alloc ?_
  intro g4 w1 B4 hg4 E1 hs1
  (refine Ls (X_assign (v := .int _ _) rfl) ?_; refine L_nil ?_; refine tn ?_)
  refine T_seq ?_
  (refine W_seq ?_; refine W_region ?_; refine Ls (X_move (v := .slice _ _ _) rfl) ?_; refine Ls (X_lenSlice rfl) ?_; refine Ls (X_move (v := u) rfl) ?_)
  refine L_fv rfl (gcheck h1 hM lo _ u I hin hp hIl w1 (hru.ext E1)) ?_
  intro w2 E2
  (refine Ls (X_assign (v := .int _ _) rfl) ?_; refine L_nil ?_; refine tn ?_; refine W_seq ?_; refine W_region ?_; refine Ls (X_move (v := .int _ _) rfl) ?_; refine Ls (X_neq rfl rfl) ?_; refine L_nil ?_; refine tn ?_)
  refine W_condF rfl ?_
  (refine W_skip ?_; refine tn ?_)
  refine T_seq ?_
  (refine W_region ?_)
  refine L_alloc ?_
  intro g7 w3 B7 hg7 E3 hs3
  (refine L_nil ?_; refine tn ?_)
  refine T_seq ?_
  (refine W_region ?_; refine Ls (X_move (v := .slice _ _ _) rfl) ?_)
  have E13 := E1.trans (E2.trans E3)
  refine L_fo rfl (ghashes N _ M hM hM8 w3 (hw.ext E13) (hr.ext E13)) ?_
  rintro q8 w4 ⟨E4, o4⟩
  obtain ⟨gd, c8, rfl, hgd1, hgd2, hgd3, hgd4⟩ := own_form o4 h1
  refine L_alloc ?_
  intro g8 w5 B8 hg8 E5 hs5
  refine L_store1 (v := .slice (some ⟨gd, 0, none⟩) M.length c8) rfl rfl rfl B8 (by simp) ?_
  intro w6 B8' hg8' hs6
  have E6 : Ext w3 w6 := (E4.trans E5).then hg8' (fun g h => by cases h; have := E4.size; omega)
  have o6 := (own_ext o4 E5)
  have o6 := own_other o6 hg8' (fun q hq h => by
    obtain rfl : gd = q := Option.some.inj hq
    have := Option.some.inj h
    omega)
  have C7 := B7.ext E6
  have E06 := E13.trans E6
  (refine L_nil ?_; refine tn ?_)
  refine T_seq2 ?_
  (refine W_region ?_; refine Ls (X_move (v := .slice _ _ _) rfl) ?_; refine Ls (X_lenSlice rfl) ?_; refine Ls (X_move (v := u) rfl) ?_)
  refine Ls (X_mkSub (a := 0) (b := M.length) hu1 rfl rfl rfl) ?_
  refine L_fo rfl (gclosedMk 0 M.length u hu1 w6) ?_
  rintro q7 w7 ⟨bq, rfl, E7, Bq, hbq⟩
  (refine L_nil ?_; refine tn ?_)
  have E07 := E06.trans E7
  have hz1 := E1.size
  have hz2 := E2.size
  have hz4 := E4.size
  have hz6 := E6.size
  have hz7 := E7.size
  have hB7 : g7 < w7.heap.size := (C7.ext E7).lt
  obtain ⟨nodes, hnodes⟩ : ∃ nodes, nodes = Mk.opening lf nd M I := ⟨_, rfl⟩
  have hnl : nodes.length = (cls 0 M.length I).length := by rw [hnodes]; unfold Mk.opening; simp
  have hnl2 : nodes.length ≤ 65536 := by
    rw [hnl]; exact cls_count M.length I (by omega) hM
  rw [← hnodes]
  have hcb : ∀ i x y, OpInv w g4 g7 g8 gd c8 M.length (M.map lf) nodes i x → K.Calm w7.heap.size x y → OpInv w g4 g7 g8 gd c8 M.length (M.map lf) nodes i y := fun i x y h C => h.calm C (by omega)
  refine T_rangeL (ps := [25]) (Kp := KeepTy w.heap.size g7 43) (It := Ext) (Ix := Ext) rfl (enters_of Tryz.func169 (by kernel_rfl) rfl) (fun i vs a h => by obtain ⟨_, _, _, _, rfl⟩ := h; rfl)
    (gclosed g7 w.heap.size bq M.length lo w.heap.size u I (by omega) hM hp hin (Nat.le_refl _) (by omega) w7 hB7 Bq (hru.ext E07)) (fun _ _ _ h k => h.trans k) (fun _ _ _ o' _ h hc => KeepTy.put o' h hc)
    (fun _ _ E => KeepsFrom.of_ext E) (fun _ _ E => KeepsFrom.of_ext E) (OpInv w g4 g7 g8 gd c8 M.length (M.map lf) nodes) (fun _ => False)
    (fun i x y h E => hcb i x y h (K.Calm.of_ext E)) (fun i x y h hb => hcb i x y h (K.Calm.of_book hb)) (fun _ _ h _ => h) (fun _ _ h _ => h) (fun _ _ _ h _ => h) ⟨.slice none 0 0, C7.ext E7, ⟨rfl, .inl ⟨rfl, rfl⟩⟩, (fun _ h => by cases h), by omega, B8'.ext E7, own_base (own_ext o6 E7) (by omega), E07, B4.ext (E2.trans (E3.trans (E6.trans E7)))⟩
    (fun i vs a f' y => ∃ p q g9, (cls 0 M.length I)[i]? = some p ∧ Ext a y ∧ Blk y g9 163 (sub p.1 p.2 q) ∧ f' 7 = .pointer (some ⟨g7, 0, none⟩) ∧ f' 8 = .pointer (some ⟨g8, 0, none⟩) ∧ f' 9 = .pointer (some ⟨g9, 0, none⟩)) (fun i vs a f' b h => by obtain ⟨_, _, _, _, h, _⟩ := h; exact h) (fun a b E => KeepTy.of_ext E) (fun lp vs i x hi hp => ?_) (fun lp i vs x f' y z hi hp hga hbk => ?_) (fun D y hD hdn hyD => ?_)
  · obtain ⟨p, q, hp1, hq1, rfl⟩ := hp
    (refine W_region ?_)
    refine L_alloc ?_
    intro g9 a1 C9 hg9 F9 hs9
    refine L_storeW (l := sub p.1 p.2 q) rfl rfl rfl (sub_cell hq1) C9 rfl ?_
    intro a2 C10 hg10 hs10
    (refine L_nil ?_)
    exact ⟨rfl, p, q, g9, hp1, F9.then hg10 (fun g h => by cases h; omega), C10, rfl, rfl, rfl⟩
  · obtain ⟨p, q, g9, hp1, hxy, D9, f7, f8, f9⟩ := hga
    have hiz := hcb _ _ _ (hcb _ _ _ hi (K.Calm.of_ext hxy)) (K.Calm.of_book hbk)
    obtain ⟨v, I1, I2, I3, I4, I5, I6, I7, I8⟩ := hiz
    have D9 := (K.Calm.of_book hbk).blk D9
    obtain ⟨p1, p2, p3⟩ := hcl p (List.mem_of_getElem? hp1)
    rw [fold f7, fold f8, fold f9]
    have hv1 := row_cell1 (Row.of_own I2)
    have hIr := own_range I6
    have hnd : nodes[i]? = some (tree nd (((M.map lf).drop p.1).take (p.2 - p.1))) := by rw [hnodes]; unfold Mk.opening; rw [List.getElem?_map, hp1]; rfl
    have hni : i < nodes.length := (List.getElem?_eq_some_iff.1 hnd).1
    obtain ⟨d, hd⟩ : ∃ d, d = tree nd (((M.map lf).drop p.1).take (p.2 - p.1)) := ⟨_, rfl⟩
    have hd32 : d.length = 32 := by rw [hd]; exact node_ok M p2 p3
    have hrow : ∀ y, Ext z y → Row y w.heap.size y.heap.size 32 (.slice (some ⟨gd, 0 + p.1 * 32, none⟩) (p.2 - p.1) (c8 - p.1)) (((M.map lf).drop p.1).take (p.2 - p.1)).length (dgs (((M.map lf).drop p.1).take (p.2 - p.1))) := fun y E => by
      have h := dgs_part (hash_ok M) hml ⟨by omega, by have := E.size; have := (I6.lt gd rfl).2; omega⟩ (E.range hIr) hgd3 hgd4 p.1 p.2 (c8 - p.1) (by omega) (by omega) ⟨by omega, by omega⟩ (lo := w.heap.size) (hi := y.heap.size)
      rw [show (((M.map lf).drop p.1).take (p.2 - p.1)).length = p.2 - p.1 by rw [List.length_take, List.length_drop]; omega]
      exact h
    (refine W_block ?_)
    apply W_dagE 10 (by kernel_rfl)
    (apply DW_x (fun r w hA hH => (X_fld rfl).trans rfl); apply DW_x (fun r w hA hH => (X_ld rfl (I1.ext hA) rfl).trans rfl); apply DW_x (fun r w hA hH => (X_ld rfl (I5.ext hA) rfl).trans rfl); apply DW_x (fun r w hA hH => (X_fld rfl).trans rfl); apply DW_x (fun r w hA hH => (X_ld rfl (D9.ext hA) rfl).trans rfl); apply DW_x (fun r w hA hH => (X_fld rfl).trans rfl); apply DW_x (fun r w hA hH => (X_ld rfl (D9.ext hA) rfl).trans rfl))
    ((with_reducible apply DW_x); (exact fun r w hA hH => (X_slice2p (size := 32) p.1 p.2 rfl rfl rfl rfl rfl (by omega) (by omega) (by omega)).trans rfl))
    ((with_reducible apply DW_fn); (exact fun _ => rfl); (exact fun _ => rfl); (exact fun r w hA hH => (by
      have h := gfold (((M.map lf).drop p.1).take (p.2 - p.1)).length _ _ _ (((M.map lf).drop p.1).take (p.2 - p.1)) (Nat.le_refl _) (by rw [List.length_take, List.length_drop]; omega) (by rw [List.length_take, List.length_drop]; omega) (((hash_ok M).drop _).take _) w (hw.ext (I7.trans hA)) (hrow w hA)
      rw [← hd] at h
      exact h)))
    ((with_reducible apply DW_d (F := fun r v w => RowF z 32 v 1 (ints .u8 d) w)); (exact fun r w hA hH => X_litA (z := List.replicate 32 (.int .u8 0)) rfl (by rw [ints_len, hd32]; rfl) rfl hA.size); (exact fun _ _ u w w' _ _ hR h => RowF.ext hR h); (exact fun _ _ => rfl))
    ((with_reducible exact D_end); (exact rfl); (repeat (first | exact .inr (.inr (fun _ _ => by with_reducible rfl)) | (refine And.intro ?_ ?_) | exact .inr (.inl rfl) | exact .inl (by decide +kernel) | exact trivial | exact .inr (.inr (fun _ _ => rfl)))); (try dsimp only [Nat.reduceAdd]))
    intro r z1 F1 H1
    obtain ⟨l9, h9, hl9, r9⟩ : RowF z 32 (r 9) 1 (ints .u8 d) z1 := H1 9
    refine L_append (v := v) (u := r 9) rfl rfl (own_ext I2 F1) r9 ints_cell (by omega) (by omega) (by have := I7.size; have := F1.size; omega) ?_
    intro v2 z2 o2 hg2 hb2
    have hMut : Mut (fun _ => True) z z2 := (Mut.of_ext F1).trans (Mut.app (own_ext I2 F1) hg2 (fun _ _ => trivial))
    have hv7 : ∀ q, v.ownBlock = some q → q ≠ g7 ∧ q ≠ g8 := fun q hq => by
      obtain ⟨_, cs, fz, e⟩ := own_obj I2 q hq
      constructor
      · rintro rfl; exact blk_ty I1 e (by decide)
      · rintro rfl; exact blk_ty I5 e (by decide)
    have G7 := (I1.ext F1).grown hg2 (fun h => (hv7 g7 h).1 rfl)
    have G8 := (I5.ext F1).grown hg2 (fun h => (hv7 g8 h).2 rfl)
    have G6 := own_other (own_ext I6 F1) hg2 (fun q hq h => I3 q h (Option.some.inj hq).symm)
    have hv2 := row_cell1 (Row.of_own o2)
    have hK1 : KeepTy w.heap.size g7 43 z z2 := (KeepTy.of_ext F1).trans (KeepTy.of_grown hg2 (fun q hq => .inr (own_obj (own_ext I2 F1) q hq)))
    have hE2 : Ext w z2 := (I7.trans F1).then hg2 (fun q hq => (own_obj I2 q hq).1)
    (refine Ls (X_fld rfl) ?_)
    refine L_store1 (v := v2) rfl rfl hv2 G7 (by simp) ?_
    intro z3 G7' hg3 hs3
    (refine L_nil ?_; refine bn ?_)
    have hgd8 : (gd : Nat) < w5.heap.size := by have := (own_ext o4 E5).lt gd rfl; omega
    refine ⟨(hMut.trans (Mut.store G7 hg3 trivial)).keeps, hK1.trans (KeepTy.of_grown hg3 (fun q hq => .inl (Option.some.inj hq).symm)), v2, G7', ?_, fun q hq => ?_, by omega, G8.grown hg3 (by simp; omega), own_other G6 hg3 (fun q hq h => ?_), hE2.then hg3 (fun g h => by cases h; omega), ((I8.ext F1).grown hg2 (fun h => by
      obtain ⟨_, cs, fz, e⟩ := own_obj I2 g4 h
      exact blk_ty I8 e (by decide))).grown hg3 (by simp; omega)⟩
    · rw [List.take_add_one, hnd, ← hd]
      have := own_other o2 hg3 (fun q hq h => by
        obtain rfl : g7 = q := Option.some.inj h
        obtain ⟨_, cs, fz, e⟩ := own_obj o2 g7 hq
        exact blk_ty G7 e (by decide))
      rw [show nodes.take i ++ (some d).toList = nodes.take i ++ [d] from rfl, dgs_app, dgs_one]
      exact this
    · rcases hb2 with h | h
      · rw [h] at hq; exact I3 q hq
      · rw [h] at hq
        have := Option.some.inj hq
        have := (own_ext I6 F1).lt gd rfl
        omega
    · obtain rfl : gd = q := Option.some.inj hq
      obtain ⟨_, cs, fz, e⟩ := own_obj G6 gd rfl
      obtain rfl : g7 = gd := Option.some.inj h
      exact blk_ty G7 e (by decide)
  · obtain ⟨i, hfin, v, I1, I2, I3, I4, I5, I6, I7, D4⟩ : ∃ i, i = (cls 0 M.length I).length ∧ OpInv w g4 g7 g8 gd c8 M.length (M.map lf) nodes i y := hdn.elim id False.elim
    rw [hfin, ← hnl, List.take_length] at I2
    have hv1 := row_cell1 (Row.of_own I2)
    refine T_of_W ?_
    (refine W_seq ?_; refine W_region ?_; refine Ls (X_ldW (cs := [v]) rfl I1 rfl) ?_)
    refine L_storeW (l := [v]) rfl rfl rfl (fun x hx => by rw [List.mem_singleton.1 hx]; exact hv1) D4 rfl ?_
    intro y2 D4' hg4' hs4'
    (refine Ls (X_assign (v := .int _ _) rfl) ?_; refine L_nil ?_; refine tn ?_; refine W_ret ?_)
    refine endQ_marks w7.heap.size [D] rfl rfl (by simp) (fun D' h => ?_) (fun w' hc => ⟨Res.cellA inferInstance rfl ((hc.blk D4').range (fun j u h => by simpa using h)) rfl (Res.tmp rfl .nil), v, rfl, ?_, ?_⟩)
    · rw [List.mem_singleton.1 h]
      exact ⟨by omega, (hg4'.block D (Array.getElem?_eq_some_iff.1 hyD).1 (by simp; omega)).trans hyD⟩
    · exact hc.toExt (I7.then hg4' (fun g h => by cases h; omega)) (by omega)
    · refine hc.own (own_other I2 hg4' (fun q hq h => ?_))
      obtain rfl : g4 = q := Option.some.inj h
      obtain ⟨_, cs, fz, e⟩ := own_obj I2 g4 hq
      exact blk_ty D4 e (by decide)
end Go.Proofs.YtpohjepbmgeplaaGreatDoor

/- Hash trees: the program's verification. -/
namespace Go.Proofs.YtpohjepbmgeplaaGreatDoor
open Go.RowKit Go.Proofs.K
open _root_.Mk (spl spl_pos spl_lt reb reb_nil reb_one reb_two)

/-- what is left of the nodes and leaves, and whether none was lacking -/
structure VS (NN : Nat → Prop) (gc gN gL : Nat) (cb : Bool) (ns bs : List (List Nat)) (w : World) : Prop where
  c : Blk w gc 4 [.bool cb]
  n : ∃ v, Blk w gN 46 [v] ∧ RowN NN w 32 v ns.length (dgs ns)
  l : ∃ v, Blk w gL 102 [v] ∧ PartN NN w .u8 v bs
def VSs (gc gN gL : Nat) (k : Nat) : Prop := k = gc ∨ k = gN ∨ k = gL
theorem VS.ext {NN : Nat → Prop} {gc gN gL : Nat} {cb : Bool} {ns bs : List (List Nat)} {w w' : World} (h : VS NN gc gN gL cb ns bs w) (E : Ext w w') : VS NN gc gN gL cb ns bs w' := by
  obtain ⟨h1, ⟨v, h2, h3⟩, u, h4, h5⟩ := h
  exact ⟨h1.ext E, ⟨v, h2.ext E, h3.ext E⟩, u, h4.ext E, h5.ext E⟩
/-- where the three variables are -/
structure VP (NN : Nat → Prop) (gc gN gL : Nat) : Prop where
  c : ¬ NN gc
  n : ¬ NN gN
  l : ¬ NN gL
  cn : gc ≠ gN
  cl : gc ≠ gL
  nl : gN ≠ gL
theorem VP.out {NN : Nat → Prop} {gc gN gL : Nat} (h : VP NN gc gN gL) : ∀ k, NN k → ¬ VSs gc gN gL k := by
  rintro k hk (rfl | rfl | rfl)
  · exact h.c hk
  · exact h.n hk
  · exact h.l hk
/-- the rest of a row of digests -/
theorem rowN_tail {NN : Nat → Prop} {w : World} {b o m c : Nat} {d : List Nat} {r : List (List Nat)} (hd : d.length = 32) (hok : DgOk r) (h : RowN NN w 32 (.slice (some ⟨b, o, none⟩) m c) (r.length + 1) (dgs (d :: r))) :
    ∃ A, (if c = 1 then (some ⟨b, o, none⟩ : Option Addr) else (some ⟨b, o, none⟩ : Option Addr).map (·.add (1 * 32))) = A ∧ RowN NN w 32 (.slice A (m - 1) (c - 1)) r.length (dgs r) ∧ m = r.length + 1 ∧ m ≤ c := by
  obtain ⟨lo, hi, hN, hr⟩ := h
  have hm : m = r.length + 1 ∧ m ≤ c := by
    obtain ⟨_, A, c', e, h1, _⟩ := hr
    cases e
    exact ⟨rfl, h1⟩
  have := hr.slice (i := 1) (j := m) (by rw [hm.1]) (by omega) (by omega)
  refine ⟨_, rfl, ⟨lo, hi, hN, ?_⟩, hm⟩
  have e : ((dgs (d :: r)).drop (1 * 32)).take ((m - 1) * 32) = dgs r := by
    have e1 : dgs (d :: r) = ints .u8 d ++ dgs r := rfl
    rw [e1, show 1 * 32 = (ints .u8 d).length by rw [ints_len, hd], List.drop_left, List.take_of_length_le (by rw [dgs_len hok]; omega)]
  rw [e] at this
  rw [show m - 1 = r.length by omega] at this ⊢
  exact this
theorem rangeAt_grown {w w' : World} {b o g : Nat} {cs : List Value} (h : w.rangeAt b o cs) (hg : w.grownBy w' (some g)) (hb : g ≠ b) : w'.rangeAt b o cs := fun j u hu => World.grownBy.cell hg (h j u hu) (fun e => hb (Option.some.inj e).symm)
set_option maxRecDepth 100000 in
set_option maxHeartbeats 2000000 in
theorem gsrcN {NN : Nat → Prop} {gc gN gL : Nat} (hP : VP NN gc gN gL) (cb : Bool) (ns bs : List (List Nat)) (hn : ns.length ≤ 1000000) (hok : DgOk ns) (w : World) (hV : VS NN gc gN gL cb ns bs w) :
    Calls Tryz.prog 177 #[.pointer (some ⟨gN, 0, none⟩)] w fun e w' => e = .returned (.tuple #[.agg (ints .u8 (ns.headD (List.replicate 32 0))).toArray, .bool (!ns.isEmpty)]) ∧ Mut (VSs gc gN gL) w w' ∧ VS NN gc gN gL cb ns.tail bs w' := by
  obtain ⟨hVc, ⟨v, hVn, hVr⟩, u, hVl, hVp⟩ := hV
  obtain ⟨A, c, rfl, hmc, hcm⟩ := hVr.form
  have hlN := hVn.lt
  refine calls_W Tryz.func177 rfl Tryz.ntmps177 rfl ?_
  (refine W_seq ?_; refine W_region ?_)
  refine L_alloc ?_
  intro g1 w1 B1 hg1 E1 hs1
  have C := hVn.ext E1
  cases ns with
  | nil =>
    (refine Ls (X_assign (v := .bool _) rfl) ?_; refine L_nil ?_; refine tn ?_; refine W_seq ?_; refine W_seq ?_; refine W_region ?_; refine Ls (X_ld rfl C rfl) ?_; refine Ls (X_lenSlice rfl) ?_; refine Ls (X_gtr rfl rfl) ?_; refine L_nil ?_; refine tn ?_)
    refine W_condF rfl ?_
    (refine W_skip ?_; refine tn ?_; refine W_seq ?_; refine W_region ?_; refine Ls (X_ldW rfl B1 rfl) ?_; refine Ls (X_move (v := .bool _) rfl) ?_)
    refine L_storeW (l := ints .u8 (List.replicate 32 0)) (size := 32) rfl rfl rfl ints_cell B1 rfl ?_
    intro w2 B2 hg2 hs2
    (refine Ls (X_assign (v := .bool _) rfl) ?_; refine L_nil ?_; refine tn ?_; refine W_ret ?_)
    refine endQ_res rfl rfl (Res.cellA inferInstance rfl (B2.range (fun j u h => by simpa using h)) rfl (Res.tmp rfl .nil)) ?_
    have E2 : Ext w w2 := E1.then hg2 (fun g h => by cases h; omega)
    exact ⟨rfl, Mut.of_ext E2, (VS.mk hVc ⟨_, hVn, hVr⟩ ⟨_, hVl, hVp⟩ : VS NN gc gN gL cb [] bs w).ext E2⟩
  | cons d rs =>
    have hd := hok d (by simp)
    obtain ⟨b, o, c', e, hbc, hNb, hR⟩ : ∃ b o c', (Value.slice A (rs.length + 1) c) = .slice (some ⟨b, o, none⟩) (rs.length + 1) c' ∧ b < w.heap.size ∧ rs.length + 1 ≤ c' ∧ w.rangeAt b o (dgs (d :: rs)) := by
      obtain ⟨b, o, c', h1, h2, _, h4, h5⟩ := (hVr.tight (by decide)).at (k := 0) (by simp)
      exact ⟨b, o, c', h1, h4.2, h2, h5⟩
    cases e
    obtain ⟨A', hA', hT, _, _⟩ := rowN_tail hd.1 (fun x hx => hok x (by simp [hx])) hVr
    have hR' : w1.rangeAt b (o + 0 * 32) (ints .u8 d) := by
      rw [Nat.zero_mul, Nat.add_zero]
      intro j u hu
      refine (E1.range hR) j u ?_
      rw [show dgs (d :: rs) = ints .u8 d ++ dgs rs from rfl, List.getElem?_append_left (List.getElem?_eq_some_iff.1 hu).1]; exact hu
    (refine Ls (X_assign (v := .bool _) rfl) ?_; refine L_nil ?_; refine tn ?_; refine W_seq ?_; refine W_seq ?_; refine W_region ?_; refine Ls (X_ld rfl C rfl) ?_; refine Ls (X_lenSlice rfl) ?_; refine Ls (X_gtr rfl rfl) ?_; refine L_nil ?_; refine tn ?_)
    refine W_condp rfl (fun _ => ?_) (fun h => (h (by simp)).elim)
    skip
    apply W_dagR (R := RB g1 43 _ _) (AB g1 43 _ (ints .u8 d) w1) 7 (by kernel_rfl) (RB.refl _ _ _ _) (AB.new B1) AB.step
    (apply DW_x (fun r w hA hH => (X_ld rfl (C.grown hA.1 (by simp; omega)) rfl).trans rfl); apply DW_x (fun r w hA hH => (X_indexSn (i := 0) rfl rfl (by simp)).trans rfl); apply DW_x (fun r w hA hH => (X_loadA (size := 32) (cs := ints .u8 d) rfl (rangeAt_grown hR' hA.1 (by omega)) (by rw [ints_len]; exact hd.1)).trans rfl); apply DW_x (fun r w hA hH => (X_ld rfl (C.grown hA.1 (by simp; omega)) rfl).trans rfl))
    ((with_reducible apply DW_x); (exact fun r w hA hH => ((X_slice (size := 32) (i := 1) (j := rs.length + 1) rfl (by exact ⟨_, rfl⟩) (by exact rfl) (by omega) (by omega)).trans (by rw [hA'])).trans rfl))
    apply DW_store (o := List.replicate 32 (Value.int .u8 0)) (l := ints .u8 d) (fun _ => rfl) (fun _ => rfl) rfl (by rw [ints_len]; exact hd.1) ints_cell
    (apply DW_x (fun r w hA hH => (X_assign (v := .bool _) rfl).trans rfl))
    ((with_reducible exact D_end); (exact rfl); (repeat (first | exact .inr (.inr (fun _ _ => by with_reducible rfl)) | (refine And.intro ?_ ?_) | exact .inr (.inl rfl) | exact .inl (by decide +kernel) | exact trivial | exact .inr (.inr (fun _ _ => rfl)))); (try dsimp only [Nat.reduceAdd]))
    intro q w2 A2 H2
    have B2 : Blk w2 g1 43 (ints .u8 d) := H2 5
    have C2 := C.grown A2.1 (by simp; omega)
    refine L_store1 (v := .slice _ _ _) rfl rfl rfl C2 (by simp) ?_
    intro w3 C3 hg3 hs3
    have B3 := B2.grown hg3 (by simp; omega)
    (refine L_nil ?_; refine tn ?_; refine W_seq ?_; refine W_region ?_; refine Ls (X_ldW rfl B3 (by rw [ints_len]; exact hd.1)) ?_; refine Ls (X_move (v := .bool _) rfl) ?_)
    refine L_storeW (l := ints .u8 d) (size := 32) rfl rfl (by rw [ints_len]; exact hd.1) ints_cell B3 (by rw [ints_len]; exact hd.1) ?_
    intro w4 B4 hg4 hs4
    have C4 := C3.grown hg4 (by simp; omega)
    (refine Ls (X_assign (v := .bool _) rfl) ?_; refine L_nil ?_; refine tn ?_; refine W_ret ?_)
    refine endQ_res rfl rfl (Res.cellA inferInstance rfl (B4.range (fun j u h => by simpa using h)) (by rw [ints_len]; exact hd.1) (Res.tmp rfl .nil)) ?_
    have E2 : Ext w w2 := E1.then A2.1 (fun g h => by cases h; omega)
    have M3 : Mut (VSs gc gN gL) w w3 := (Mut.of_ext E2).trans (Mut.store C2 hg3 (.inr (.inl rfl)))
    have M4 : Mut (VSs gc gN gL) w w4 := M3.new B3 hg4 (by omega)
    have hC4 := ((((hVc.ext E1).grown A2.1 (by have := hVc.lt; simp; omega)).grown hg3 (by have := hP.cn; simp; omega)).grown hg4 (by have := hVc.lt; simp; omega))
    have hL4 := ((((hVl.ext E1).grown A2.1 (by have := hVl.lt; simp; omega)).grown hg3 (by have := hP.nl; simp; omega)).grown hg4 (by have := hVl.lt; simp; omega))
    exact ⟨rfl, M4, hC4, ⟨_, C4, hT.mut M4 hP.out⟩, u, hL4, hVp.mut M4 hP.out⟩
/-- the rest of a slice of byte slices -/
theorem partN_tail {NN : Nat → Prop} {w : World} {b o m c : Nat} {d : List Nat} {r : List (List Nat)} (h : PartN NN w .u8 (.slice (some ⟨b, o, none⟩) m c) (d :: r)) :
    ∃ A x, (if c = 1 then (some ⟨b, o, none⟩ : Option Addr) else (some ⟨b, o, none⟩ : Option Addr).map (·.add (1 * 1))) = A ∧ PartN NN w .u8 (.slice A (m - 1) (c - 1)) r ∧ m = r.length + 1 ∧ m ≤ c ∧ w.cell? ⟨b, o, none⟩ = some x ∧ x.oneCell' = true ∧ RowN NN w 1 x d.length (ints .u8 d) := by
  obtain ⟨vs, hvl, ⟨lo, hi, hN, hr⟩, he⟩ := h
  have hm : m = r.length + 1 ∧ m ≤ c := by
    obtain ⟨_, A, c', e, h1, _⟩ := hr
    cases e
    exact ⟨rfl, h1⟩
  cases vs with
  | nil => simp at hvl
  | cons x vs =>
    have hx := he 0 x d rfl rfl
    have hc : w.cell? ⟨b, o, none⟩ = some x := by
      obtain ⟨b', o', c', e, _, _, _, h5⟩ := hr.at (k := 0) (by simp)
      cases e
      have := h5 0 x rfl
      exact this
    have := hr.slice (i := 1) (j := m) (by rw [hm.1]; rfl) (by omega) (by rw [hm.1]; simp)
    refine ⟨_, x, rfl, ⟨vs, by simpa using hvl, ⟨lo, hi, hN, ?_⟩, fun i y z h1 h2 => he (i + 1) y z h1 h2⟩, hm.1, hm.2, hc, hx.cell1, hx⟩
    have e : ((x :: vs).drop (1 * 1)).take ((m - 1) * 1) = vs := by
      rw [show ((x :: vs).drop (1 * 1)) = vs from rfl, List.take_of_length_le (by simp at hvl; omega)]
    rw [e] at this
    rw [show m - 1 = r.length by omega] at this ⊢
    exact this
set_option maxRecDepth 100000 in
set_option maxHeartbeats 2000000 in
theorem gsrcL {NN : Nat → Prop} {gc gN gL : Nat} (hP : VP NN gc gN gL) (cb : Bool) (ns bs : List (List Nat)) (hn : bs.length ≤ 1000000) (w : World) (hV : VS NN gc gN gL cb ns bs w) :
    Calls Tryz.prog 176 #[.pointer (some ⟨gL, 0, none⟩)] w fun e w' => ∃ q, e = .returned (.tuple #[q, .bool (!bs.isEmpty)]) ∧ RowN NN w' 1 q (bs.headD []).length (ints .u8 (bs.headD [])) ∧ Mut (VSs gc gN gL) w w' ∧ VS NN gc gN gL cb ns bs.tail w' := by
  obtain ⟨hVc, ⟨v, hVn, hVr⟩, u, hVl, hVp⟩ := hV
  obtain ⟨A, c, rfl, hmc, hcm⟩ := hVp.form
  refine calls_W Tryz.func176 rfl Tryz.ntmps176 rfl ?_
  (refine W_seq ?_; refine W_region ?_; refine Ls (X_assign (v := .slice _ _ _) rfl) ?_; refine Ls (X_assign (v := .bool _) rfl) ?_; refine L_nil ?_; refine tn ?_; refine W_seq ?_; refine W_seq ?_; refine W_region ?_)
  cases bs with
  | nil =>
    (refine Ls (X_ld rfl hVl rfl) ?_; refine Ls (X_lenSlice rfl) ?_; refine Ls (X_gtr rfl rfl) ?_; refine L_nil ?_; refine tn ?_)
    refine W_condF rfl ?_
    (refine W_skip ?_; refine tn ?_; refine W_seq ?_; refine W_region ?_; refine Ls (X_move (v := .slice _ _ _) rfl) ?_; refine Ls (X_move (v := .bool _) rfl) ?_; refine Ls (X_assign (v := .slice _ _ _) rfl) ?_; refine Ls (X_assign (v := .bool _) rfl) ?_; refine L_nil ?_; refine tn ?_; refine W_ret ?_)
    refine endQ_ret2 rfl rfl (v := .slice none 0 0) (x := .bool _) rfl rfl ⟨_, rfl, ⟨0, 0, fun k h1 h2 => by omega, Row.nil _ _ _ _⟩, Mut.refl _, hVc, ⟨_, hVn, hVr⟩, _, hVl, hVp⟩
  | cons d rs =>
    obtain ⟨b, o, c', e, hbc⟩ : ∃ b o c', (Value.slice A (rs.length + 1) c) = .slice (some ⟨b, o, none⟩) (rs.length + 1) c' ∧ rs.length + 1 ≤ c' := by
      obtain ⟨vs, hvl, hvr, _⟩ := hVp
      obtain ⟨b, o, c', h1, h2, _⟩ := hvr.at (k := 0) (by simp)
      exact ⟨b, o, c', h1, h2⟩
    cases e
    obtain ⟨A', x, hA', hT, _, _, hx, hx1, hxr⟩ := partN_tail hVp
    have hx' : ∀ w', Ext w w' → w'.cell? ⟨b, o + 0 * 1, none⟩ = some x := fun w' E => by rw [Nat.zero_mul, Nat.add_zero]; exact E.cell hx
    (refine Ls (X_ld rfl hVl rfl) ?_; refine Ls (X_lenSlice rfl) ?_; refine Ls (X_gtr rfl rfl) ?_; refine L_nil ?_; refine tn ?_)
    refine W_condp rfl (fun _ => ?_) (fun h => (h (by simp)).elim)
    skip
    apply W_dagE 7 (by kernel_rfl)
    (apply DW_x (fun r w hA hH => (X_ld rfl (hVl.ext hA) rfl).trans rfl); apply DW_x (fun r w hA hH => (X_indexSn (i := 0) rfl rfl (by simp)).trans rfl); apply DW_x (fun r w hA hH => (X_load1 rfl (hx' w hA)).trans rfl); apply DW_x (fun r w hA hH => (X_ld rfl (hVl.ext hA) rfl).trans rfl))
    ((with_reducible apply DW_x); (exact fun r w hA hH => ((X_slice (size := 1) (i := 1) (j := rs.length + 1) rfl (by exact ⟨_, rfl⟩) (by exact rfl) (by omega) (by omega)).trans (by rw [hA'])).trans rfl))
    (apply DW_x (fun r w hA hH => (X_assign (v := x) rfl).trans rfl); apply DW_x (fun r w hA hH => (X_assign (v := .bool _) rfl).trans rfl))
    ((with_reducible exact D_end); (exact rfl); (repeat (first | exact .inr (.inr (fun _ _ => by with_reducible rfl)) | (refine And.intro ?_ ?_) | exact .inr (.inl rfl) | exact .inl (by decide +kernel) | exact trivial | exact .inr (.inr (fun _ _ => rfl)))); (try dsimp only [Nat.reduceAdd]))
    intro q w2 E2 _
    refine L_store1 (v := .slice _ _ _) rfl rfl rfl (hVl.ext E2) (by simp) ?_
    intro w3 C3 hg3 hs3
    (refine L_nil ?_; refine tn ?_; refine W_seq ?_; refine W_region ?_; refine Ls (X_move (v := x) rfl) ?_; refine Ls (X_move (v := .bool _) rfl) ?_; refine Ls (X_assign (v := x) rfl) ?_; refine Ls (X_assign (v := .bool _) rfl) ?_; refine L_nil ?_; refine tn ?_; refine W_ret ?_)
    have M3 : Mut (VSs gc gN gL) w w3 := (Mut.of_ext E2).trans (Mut.store (hVl.ext E2) hg3 (.inr (.inr rfl)))
    refine endQ_ret2 rfl rfl (v := x) (x := .bool _) rfl rfl ⟨_, rfl, hxr.mut M3 hP.out, M3, (hVc.ext E2).grown hg3 (by have := hP.cl; simp; omega), ⟨_, (hVn.ext E2).grown hg3 (by have := hP.nl; simp; omega), hVr.mut M3 hP.out⟩, _, C3, hT.mut M3 hP.out⟩
end Go.Proofs.YtpohjepbmgeplaaGreatDoor

/- Hash trees: the program's rebuilding. -/
namespace Go.Proofs.YtpohjepbmgeplaaGreatDoor
open Go.RowKit Go.Proofs.K
open _root_.Mk (spl spl_pos spl_lt reb reb_nil reb_one reb_two)

/-- the tables lie below B -/
structure TbB (B : Nat) : Prop where
  k : 3 < B
  i : 2 < B
  d : 5 < B
  one : 1 < B
  mix : 0 < B
theorem Tb.below {w : World} (h : Tb w) : TbB w.heap.size := ⟨h.k.lt (by decide), h.i.lt (by decide), h.d.lt (by decide), h.one.lt (by decide), h.mix.lt (by decide)⟩
theorem Tb.mut {S : Nat → Prop} {B : Nat} {a b : World} (h : Tb a) (m : Mut S a b) (hB : TbB B) (hS : ∀ k, k < B → ¬ S k) : Tb b :=
  ⟨m.rng h.k (hS _ hB.k), m.rng h.i (hS _ hB.i), m.rng h.d (hS _ hB.d), m.rng h.one (hS _ hB.one), m.rng h.mix (hS _ hB.mix)⟩
/-- the closures that the rebuilding calls -/
structure Fx (gn gl gr gc gN gL : Nat) (w : World) : Prop where
  n : Blk w gn 175 [.func (.func 177) #[] #[.pointer (some ⟨gN, 0, none⟩)]]
  l : Blk w gl 173 [.func (.func 176) #[] #[.pointer (some ⟨gL, 0, none⟩)]]
  r : Blk w gr 177 [.func (.func 133) #[] #[.pointer (some ⟨gn, 0, none⟩), .pointer (some ⟨gc, 0, none⟩), .pointer (some ⟨gl, 0, none⟩), .pointer (some ⟨gr, 0, none⟩)]]
theorem Fx.ext {gn gl gr gc gN gL : Nat} {w w' : World} (h : Fx gn gl gr gc gN gL w) (E : Ext w w') : Fx gn gl gr gc gN gL w' := ⟨h.n.ext E, h.l.ext E, h.r.ext E⟩
theorem Fx.mut {gn gl gr gc gN gL : Nat} {w w' : World} (h : Fx gn gl gr gc gN gL w) (m : Mut (VSs gc gN gL) w w') (h1 : ¬ VSs gc gN gL gn) (h2 : ¬ VSs gc gN gL gl) (h3 : ¬ VSs gc gN gL gr) : Fx gn gl gr gc gN gL w' := ⟨m.blk h.n h1, m.blk h.l h2, m.blk h.r h3⟩
theorem ok_head {ns : List (List Nat)} (h : DgOk ns) : (ns.headD (List.replicate 32 0)).length = 32 ∧ Sha.bytesOk (ns.headD (List.replicate 32 0)) := by
  cases ns with
  | nil => exact zero_ok 1 _ (by simp)
  | cons d r => exact h d (by simp)
theorem VS.other {B gc gN gL g : Nat} {cb : Bool} {ns bs : List (List Nat)} {w w' : World} (h : VS (fun k => k < B) gc gN gL cb ns bs w) (hG : w.grownBy w' (some g)) (hg : ¬ VSs gc gN gL g) (hB : B ≤ g) : VS (fun k => k < B) gc gN gL cb ns bs w' := by
  obtain ⟨h1, ⟨v, h2, h3⟩, u, h4, h5⟩ := h
  have hM : KeepS (fun k => k = g) w w' := ⟨hG.size, fun k o hk _ hne => (hG.block k (lt_of_heap hk) (fun e => hne (Option.some.inj e))).trans hk⟩
  exact ⟨h1.grown hG (fun e => hg (.inl (Option.some.inj e))), ⟨v, h2.grown hG (fun e => hg (.inr (.inl (Option.some.inj e)))), h3.keepS hM (fun k hk e => by have : k < B := hk; omega)⟩, u, h4.grown hG (fun e => hg (.inr (.inr (Option.some.inj e)))), h5.keepS hM (fun k hk e => by have : k < B := hk; omega)⟩
theorem VS.setc {B gc gN gL : Nat} {cb cb' : Bool} {ns bs : List (List Nat)} {w w' : World} (hP : VP (fun k => k < B) gc gN gL) (h : VS (fun k => k < B) gc gN gL cb ns bs w) (hG : w.grownBy w' (some gc)) (hc : Blk w' gc 4 [.bool cb']) : VS (fun k => k < B) gc gN gL cb' ns bs w' := by
  obtain ⟨h1, ⟨v, h2, h3⟩, u, h4, h5⟩ := h
  have hM : KeepS (fun k => k = gc) w w' := ⟨hG.size, fun k o hk _ hne => (hG.block k (lt_of_heap hk) (fun e => hne (Option.some.inj e))).trans hk⟩
  have hc' := hP.c
  exact ⟨hc, ⟨v, h2.grown hG (by have := hP.cn; simp; omega), h3.keepS hM (fun k hk e => by have : k < B := hk; subst e; exact hc' this)⟩, u, h4.grown hG (by have := hP.cl; simp; omega), h5.keepS hM (fun k hk e => by have : k < B := hk; subst e; exact hc' this)⟩
def BsOk (bs : List (List Nat)) : Prop := ∀ b ∈ bs, Sha.bytesOk b ∧ b.length ≤ 100000000
theorem bs_head {bs : List (List Nat)} (h : BsOk bs) : Sha.bytesOk (bs.headD []) ∧ (bs.headD []).length ≤ 100000000 := by
  cases bs with
  | nil => exact ⟨(fun x hx => by cases hx), by simp⟩
  | cons d r => exact h d (by simp)
theorem tail_ok {ns : List (List Nat)} (h : DgOk ns) : DgOk ns.tail := fun d hd => h d (List.mem_of_mem_tail hd)
theorem tail_bs {ns : List (List Nat)} (h : BsOk ns) : BsOk ns.tail := fun d hd => h d (List.mem_of_mem_tail hd)
/-- what the rebuilding leaves is as good as what it had -/
theorem reb_ok : ∀ (fu lo hi : Nat) (I : List Nat) (ns bs : List (List Nat)), hi - lo < fu → lo < hi → DgOk ns → BsOk bs → ns.length ≤ 1000000 → bs.length ≤ 1000000 →
    ((reb lf nd fu lo hi I ns bs).1.length = 32 ∧ Sha.bytesOk (reb lf nd fu lo hi I ns bs).1) ∧ DgOk (reb lf nd fu lo hi I ns bs).2.1 ∧ BsOk (reb lf nd fu lo hi I ns bs).2.2.1 ∧ (reb lf nd fu lo hi I ns bs).2.1.length ≤ 1000000 ∧ (reb lf nd fu lo hi I ns bs).2.2.1.length ≤ 1000000
  | 0, _, _, _, _, _, h, _, _, _, _, _ => by omega
  | fu + 1, lo, hi, I, ns, bs, hf, hlo, hn, hb, hnl, hbl => by
    by_cases h0 : I = []
    · subst h0
      rw [reb_nil]
      cases ns with
      | nil => exact ⟨zero_ok 1 _ (by simp), hn, hb, hnl, hbl⟩
      | cons d r => exact ⟨hn d (by simp), tail_ok hn, hb, by simp at hnl ⊢; omega, hbl⟩
    · by_cases h1 : hi - lo ≤ 1
      · rw [reb_one lf nd h1 h0]
        exact ⟨⟨lf_len _, lf_ok _⟩, hn, tail_bs hb, hnl, by rw [List.length_tail]; omega⟩
      · have h2 : 2 ≤ hi - lo := by omega
        have hs1 := spl_lt h2
        have hs2 := spl_pos (hi - lo)
        rw [reb_two lf nd h2 h0]
        obtain ⟨a1, a2, a3, a4, a5⟩ := reb_ok fu lo (lo + spl (hi - lo)) (I.filter fun i => Nat.blt i (lo + spl (hi - lo))) ns bs (by omega) (by omega) hn hb hnl hbl
        obtain ⟨b1, b2, b3, b4, b5⟩ := reb_ok fu (lo + spl (hi - lo)) hi (I.filter fun i => Nat.ble (lo + spl (hi - lo)) i) _ _ (by omega) (by omega) a2 a3 a4 a5
        exact ⟨⟨nd_len _ _, nd_ok _ _⟩, b2, b3, b4, b5⟩
set_option maxRecDepth 100000 in
set_option maxHeartbeats 4000000 in
theorem grebuild {B gc gN gL gn gl gr : Nat} (hP : VP (fun k => k < B) gc gN gL) (hgn : ¬ VSs gc gN gL gn) (hgl : ¬ VSs gc gN gL gl) (hgr : ¬ VSs gc gN gL gr) (hTB : TbB B) :
    ∀ (fu lo hi bl bh : Nat) (v : Value) (I : List Nat) (cb : Bool) (ns bs : List (List Nat)) (_ : hi - lo < fu) (_ : lo < hi) (_ : hi ≤ 65536) (_ : I.Pairwise (· < ·)) (_ : ∀ i ∈ I, lo ≤ i ∧ i < hi) (_ : bh ≤ B)
      (_ : DgOk ns) (_ : BsOk bs) (_ : ns.length ≤ 1000000) (_ : bs.length ≤ 1000000) (w : World) (_ : Tb w) (_ : Row w bl bh 1 v I.length (ints .i64 I)) (_ : Fx gn gl gr gc gN gL w) (_ : VS (fun k => k < B) gc gN gL cb ns bs w),
    Calls Tryz.prog 133 #[.agg (sub lo hi v).toArray, .pointer (some ⟨gn, 0, none⟩), .pointer (some ⟨gc, 0, none⟩), .pointer (some ⟨gl, 0, none⟩), .pointer (some ⟨gr, 0, none⟩)] w fun e w' =>
      e = .returned (.agg (ints .u8 (reb lf nd fu lo hi I ns bs).1).toArray) ∧ Mut (VSs gc gN gL) w w' ∧ VS (fun k => k < B) gc gN gL (cb && (reb lf nd fu lo hi I ns bs).2.2.2) (reb lf nd fu lo hi I ns bs).2.1 (reb lf nd fu lo hi I ns bs).2.2.1 w'
  | 0, _, _, _, _, _, _, _, _, _, h, _, _, _, _, _, _, _, _, _, _, _, _, _, _ => by omega
  | fu + 1, lo, hi, bl, bh, v, I, cb, ns, bs, hf, hlo, hh, hp, hin, hbB, hn, hb, hnl, hbl, w, hw, hr, hF, hV => by
    have hv1 := row_cell1 hr
    have hIl : I.length ≤ 65536 := by
      have : I.length ≤ hi - lo := sorted_len hp hin
      omega
    have hbS : ∀ k, bl ≤ k → k < bh → ¬ VSs gc gN gL k := fun k _ hk => hP.out k (by show k < B; omega)
    refine calls_W Tryz.func133 rfl Tryz.ntmps133 rfl ?_
    (refine W_seq ?_; refine W_region ?_)
    refine L_box rfl ?_
    intro g5 w1 B5 hg5 E1 hs1
    refine L_alloc ?_
    intro g6 w2 B6 hg6 E2 hs2
    have E12 := E1.trans E2
    have C5 := B5.ext E2
    have F2 := hF.ext E12
    have V2 := hV.ext E12
    have hcl : gc < w.heap.size := hV.c.lt
    have hnl' : gN < w.heap.size := by obtain ⟨_, h, _⟩ := hV.n; exact h.lt
    have hll' : gL < w.heap.size := by obtain ⟨_, h, _⟩ := hV.l; exact h.lt
    have hnw : ∀ k, w.heap.size ≤ k → ¬ VSs gc gN gL k := by
      rintro k hk (rfl | rfl | rfl) <;> omega
    by_cases h0 : I = []
    · subst h0
      (refine L_nil ?_; refine tn ?_; refine W_seq ?_; refine W_block ?_; refine W_seq ?_; refine W_region ?_; refine Ls (X_fld rfl) ?_; refine Ls (X_ld rfl C5 rfl) ?_; refine Ls (X_lenRow (v := v) rfl hr) ?_; refine Ls (X_eql rfl rfl) ?_; refine Ls (X_assign (v := .bool _) rfl) ?_; refine L_nil ?_; refine tn ?_; refine W_condT rfl ?_; refine W_seq ?_; refine W_region ?_)
      (refine Ls (X_ld rfl F2.n rfl) ?_)
      refine L_clo (vl := []) rfl (gsrcN hP cb ns bs hnl hn w2 V2) rfl ?_
      rintro e w3 ⟨rfl, M3, V3⟩
      refine ⟨_, rfl, ?_⟩
      have hd := ok_head hn
      have hres : (reb lf nd (fu + 1) lo hi [] ns bs) = (ns.headD (List.replicate 32 0), ns.tail, bs, !ns.isEmpty) := by
        rw [reb_nil]; cases ns <;> rfl
      rw [hres]
      clear hres
      generalize ns.headD (List.replicate 32 0) = D0 at hd ⊢
      (refine Ls (X_move (v := .tuple _) rfl) ?_; refine Ls (X_extract rfl rfl) ?_; refine Ls (X_extract rfl rfl) ?_)
      refine L_alloc ?_
      intro g7 w4 B7 hg7 E4 hs4
      have hz3 := M3.size
      refine L_storeW (size := 32) (l := ints .u8 (D0)) rfl rfl (by rw [ints_len]; exact hd.1) ints_cell B7 rfl ?_
      intro w5 B7' hg7' hs5
      have E35 : Ext w3 w5 := E4.then hg7' (fun g h => by cases h; omega)
      have V5 := V3.ext E35
      have C6 : Blk w5 g6 43 _ := (M3.blk B6 (hnw _ (by omega))).ext E35
      have M5 : Mut (VSs gc gN gL) w w5 := ((Mut.of_ext E12).trans M3).ext_ E35
      have hfin : ∀ (w6 w7 : World), w5.grownBy w6 (some gc) → Blk w6 gc 4 [.bool (cb && !ns.isEmpty)] → w6.grownBy w7 (some g6) → Mut (VSs gc gN gL) w w7 ∧ VS (fun k => k < B) gc gN gL (cb && !ns.isEmpty) ns.tail bs w7 := by
        intro w6 w7 hG hc hG7
        have M6 : Mut (VSs gc gN gL) w w6 := M5.trans (Mut.store V5.c hG (.inl rfl))
        have D6 := C6.grown hG (by have := hnw g6 (by omega); intro h; exact this (.inl (Option.some.inj h).symm))
        have hBg : B ≤ g6 := by
          have h1 : ¬ gc < B := hP.c
          omega
        exact ⟨M6.new D6 hG7 (by omega), (V5.setc hP hG hc).other hG7 (hnw g6 (by omega)) hBg⟩
      have hn6 : some gc ≠ some g6 := by simp; omega
      have hn7 : some gc ≠ some g7 := by simp; omega
      cases cb with
      | false =>
        (refine Ls (X_assign (v := .bool _) rfl) ?_; refine L_nil ?_; refine tn ?_; refine W_seq ?_; refine W_region ?_; refine Ls (X_ld rfl V5.c rfl) ?_; refine Ls (X_move (v := .bool _) rfl) ?_; refine Lo2 rfl rfl rfl rfl ?_; refine Ls (X_pickF (v := .bool _) rfl rfl) ?_)
        refine L_store1 (v := .bool false) rfl rfl rfl V5.c (by simp) ?_
        intro w6 D gG hs6
        (refine L_nil ?_; refine tn ?_; refine W_seq ?_; refine W_region ?_; refine Ls (X_ldW rfl (B7'.grown gG hn7) (by rw [ints_len]; exact hd.1)) ?_)
        refine L_storeW (size := 32) (l := ints .u8 (D0)) rfl rfl (by rw [ints_len]; exact hd.1) ints_cell (C6.grown gG hn6) rfl ?_
        intro w7 D7 hg7 hs7
        (refine L_nil ?_; refine tn ?_; refine W_ret ?_; refine br ?_; refine tr ?_)
        refine endQ_res rfl rfl (Res.cellA inferInstance rfl (D7.range (fun j u h => by simpa using h)) (by rw [ints_len]; exact hd.1) .nil) ?_
        exact ⟨rfl, hfin w6 w7 gG D hg7⟩
      | true =>
        (refine Ls (X_assign (v := .bool _) rfl) ?_; refine L_nil ?_; refine tn ?_; refine W_seq ?_; refine W_region ?_; refine Ls (X_ld rfl V5.c rfl) ?_; refine Ls (X_move (v := .bool _) rfl) ?_; refine Lg2 rfl rfl rfl (X_move (v := .bool _) rfl) ?_; refine Ls (X_pickT (v := .bool _) rfl rfl) ?_)
        refine L_store1 (v := .bool (!ns.isEmpty)) rfl rfl rfl V5.c (by simp) ?_
        intro w6 D gG hs6
        (refine L_nil ?_; refine tn ?_; refine W_seq ?_; refine W_region ?_; refine Ls (X_ldW rfl (B7'.grown gG hn7) (by rw [ints_len]; exact hd.1)) ?_)
        refine L_storeW (size := 32) (l := ints .u8 (D0)) rfl rfl (by rw [ints_len]; exact hd.1) ints_cell (C6.grown gG hn6) rfl ?_
        intro w7 D7 hg7 hs7
        (refine L_nil ?_; refine tn ?_; refine W_ret ?_; refine br ?_; refine tr ?_)
        refine endQ_res rfl rfl (Res.cellA inferInstance rfl (D7.range (fun j u h => by simpa using h)) (by rw [ints_len]; exact hd.1) .nil) ?_
        exact ⟨rfl, hfin w6 w7 gG (by rw [Bool.true_and]; exact D) hg7⟩
    · have hI0 : 0 < I.length := List.length_pos_iff.2 h0
      have hBg : B ≤ g6 := by
        have h1 : ¬ gc < B := hP.c
        omega
      by_cases h1 : hi - lo ≤ 1
      · (refine L_nil ?_; refine tn ?_; refine W_seq ?_; refine W_block ?_; refine W_seq ?_; refine W_region ?_; refine Ls (X_fld rfl) ?_; refine Ls (X_ld rfl C5 rfl) ?_; refine Ls (X_lenRow (v := v) rfl hr) ?_; refine Ls (X_eqlF rfl rfl (by omega)) ?_; refine Ls (X_assign (v := .bool _) rfl) ?_; refine L_nil ?_; refine tn ?_; refine W_condF rfl ?_; refine W_seq ?_; refine W_region ?_; refine Ls (X_fld rfl) ?_; refine Ls (X_ld rfl C5 rfl) ?_; refine Ls (X_fld rfl) ?_; refine Ls (X_ld rfl C5 rfl) ?_; refine Ls (X_subi rfl rfl (by omega)) ?_; refine Ls (X_eqlT rfl rfl (by omega)) ?_; refine Ls (X_assign (v := .bool _) rfl) ?_; refine L_nil ?_; refine tn ?_; refine W_condT rfl ?_; refine W_seq ?_; refine W_region ?_)
        (refine Ls (X_ld rfl F2.l rfl) ?_)
        refine L_clo (vl := []) rfl (gsrcL hP cb ns bs hbl w2 V2) rfl ?_
        rintro e w3 ⟨q, rfl, ⟨ql, qh, hqN, rq⟩, M3, V3⟩
        refine ⟨_, rfl, ?_⟩
        have hd := bs_head hb
        have hq1 := row_cell1 rq
        rw [reb_one lf nd h1 h0]
        have hw3 := (hw.ext E12).mut M3 hTB (fun k hk => hP.out k hk)
        (refine Ls (X_move (v := .tuple _) rfl) ?_; refine Ls (X_extract rfl rfl) ?_; refine Ls (X_extract rfl rfl) ?_; refine Ls (X_assign (v := q) rfl) ?_; refine Ls (X_assign (v := .bool _) rfl) ?_; refine L_nil ?_; refine tn ?_; refine W_seq ?_; refine W_region ?_; refine Ls (X_move (v := q) rfl) ?_)
        refine L_fv rfl (gleaf ql qh q (bs.headD []) hd.1 hd.2 w3 hw3 rq) ?_
        intro w4 E4
        have hz3 := M3.size
        have C6 : Blk w4 g6 43 _ := (M3.blk B6 (hnw _ (by omega))).ext E4
        have M4 : Mut (VSs gc gN gL) w w4 := ((Mut.of_ext E12).trans M3).ext_ E4
        generalize bs.headD [] = D0 at hd ⊢
        refine L_storeW (size := 32) (l := ints .u8 (lf D0)) rfl rfl (by rw [ints_len]; exact lf_len _) ints_cell C6 rfl ?_
        intro w7 D7 hg7 hs7
        (refine L_nil ?_; refine tn ?_; refine W_ret ?_; refine br ?_; refine tr ?_)
        refine endQ_res rfl rfl (Res.cellA inferInstance rfl (D7.range (fun j u h => by simpa using h)) (by rw [ints_len]; exact lf_len _) .nil) ?_
        refine ⟨rfl, M4.new C6 hg7 (by omega), ?_⟩
        rw [Bool.and_true]
        exact (V3.ext E4).other hg7 (hnw g6 (by omega)) hBg
      · have h2 : 2 ≤ hi - lo := by omega
        have hs1' := spl_lt h2
        have hs0 := spl_pos (hi - lo)
        obtain ⟨k, hk⟩ : ∃ k, k = lo + spl (hi - lo) := ⟨_, rfl⟩
        have hgp := gparts h2 hh bl bh v I hp hIl w2 (hr.ext E12)
        obtain ⟨fa, fb⟩ := filt_in (k := k) hin
        have hrb := reb_two (f := fu) lf nd h2 h0 ns bs
        rw [← hk] at hgp hrb
        obtain ⟨Ia, hIa⟩ : ∃ Ia, Ia = I.filter fun i => Nat.blt i k := ⟨_, rfl⟩
        obtain ⟨Ib, hIb⟩ : ∃ Ib, Ib = I.filter fun i => Nat.ble k i := ⟨_, rfl⟩
        have pa : Ia.Pairwise (· < ·) := by rw [hIa]; exact hp.filter _
        have pb : Ib.Pairwise (· < ·) := by rw [hIb]; exact hp.filter _
        rw [← hIa, ← hIb] at hgp hrb
        rw [← hIa] at fa
        rw [← hIb] at fb
        obtain ⟨a1, a2, a3, a4, a5⟩ := reb_ok fu lo k Ia ns bs (by omega) (by omega) hn hb hnl hbl
        obtain ⟨ra, hra⟩ : ∃ ra, ra = reb lf nd fu lo k Ia ns bs := ⟨_, rfl⟩
        obtain ⟨rb, hrb'⟩ : ∃ rb, rb = reb lf nd fu k hi Ib ra.2.1 ra.2.2.1 := ⟨_, rfl⟩
        rw [← hra] at a1 a2 a3 a4 a5 hrb
        have b1 := (reb_ok fu k hi Ib ra.2.1 ra.2.2.1 (by omega) (by omega) a2 a3 a4 a5).1
        dsimp only at hrb
        rw [← hrb'] at hrb b1
        rw [hrb]
        (refine L_nil ?_; refine tn ?_; refine W_seq ?_; refine W_block ?_; refine W_seq ?_; refine W_region ?_; refine Ls (X_fld rfl) ?_; refine Ls (X_ld rfl C5 rfl) ?_; refine Ls (X_lenRow (v := v) rfl hr) ?_; refine Ls (X_eqlF rfl rfl (by omega)) ?_; refine Ls (X_assign (v := .bool _) rfl) ?_; refine L_nil ?_; refine tn ?_; refine W_condF rfl ?_; refine W_seq ?_; refine W_region ?_; refine Ls (X_fld rfl) ?_; refine Ls (X_ld rfl C5 rfl) ?_; refine Ls (X_fld rfl) ?_; refine Ls (X_ld rfl C5 rfl) ?_; refine Ls (X_subi rfl rfl (by omega)) ?_; refine Ls (X_eqlF rfl rfl (by omega)) ?_; refine Ls (X_assign (v := .bool _) rfl) ?_; refine L_nil ?_; refine tn ?_; refine W_condF rfl ?_; refine W_skip ?_; refine bn ?_; refine tn ?_; refine W_seq ?_; refine W_region ?_; refine Ls (X_ldW rfl C5 rfl) ?_)
        refine L_fo (F := fun u w' => ∃ x y, u = .tuple #[.agg (sub lo k x).toArray, .agg (sub k hi y).toArray] ∧ Ext w2 w' ∧ Row w' bl bh 1 x Ia.length (ints .i64 Ia) ∧ Row w' bl bh 1 y Ib.length (ints .i64 Ib)) rfl (hgp.mono fun e w' ⟨x, y, h1, h2⟩ => ⟨_, h1, x, y, rfl, h2⟩) ?_
        rintro _ w3 ⟨x, y, rfl, E3, rx, ry⟩
        have hx1 := row_cell1 rx
        have hy1 := row_cell1 ry
        (refine Ls (X_move (v := .tuple _) rfl) ?_; refine Ls (X_extract rfl rfl) ?_; refine Ls (X_extract rfl rfl) ?_)
        refine L_alloc ?_
        intro g11 w4 B11 hg11 E4 hs11
        refine L_alloc ?_
        intro g12 w5 B12 hg12 E5 hs12
        refine L_storeW (l := sub lo k x) rfl rfl rfl (sub_cell hx1) (B11.ext E5) rfl ?_
        intro w6 C11 hg6' hs6'
        refine L_storeW (l := sub k hi y) rfl rfl rfl (sub_cell hy1) (B12.grown hg6' (by simp; omega)) rfl ?_
        intro w7 C12 hg7 hs7
        have C11 := C11.grown hg7 (by simp; omega)
        have hz3 := (E12.trans E3).size
        have E7 : Ext w w7 := ((((E12.trans E3).trans E4).trans E5).then hg6' (fun g h => by cases h; omega)).then hg7 (fun g h => by cases h; omega)
        have E37 : Ext w3 w7 := ((E4.trans E5).then hg6' (fun g h => by cases h; omega)).then hg7 (fun g h => by cases h; omega)
        have E27 := E3.trans E37
        have F7 := F2.ext E27
        (refine L_nil ?_; refine tn ?_; refine W_seq ?_; refine W_region ?_; refine Ls (X_ld rfl F7.r rfl) ?_; refine Ls (X_ldW rfl C11 rfl) ?_)
        refine L_clo (vl := [.agg (sub lo k x).toArray]) rfl (grebuild hP hgn hgl hgr hTB fu lo k bl bh x Ia cb ns bs (by omega) (by omega) (by omega) pa fa hbB hn hb hnl hbl w7 (hw.ext E7) (rx.ext E37) F7 (V2.ext E27)) rfl ?_
        rintro e w8 ⟨rfl, M8, V8⟩
        rw [← hra] at V8 ⊢
        refine ⟨_, rfl, ?_⟩
        skip
        refine L_alloc ?_
        intro g13 w9 B13 hg13 E9 hs13
        refine L_storeW (size := 32) (l := ints .u8 ra.1) rfl rfl (by rw [ints_len]; exact a1.1) ints_cell B13 rfl ?_
        intro w10 C13 hg10 hs10
        have hz7 := E7.size
        have hz8 := M8.size
        have E810 : Ext w8 w10 := E9.then hg10 (fun g h => by cases h; omega)
        have D12 : Blk w10 g12 163 (sub k hi y) := (M8.blk C12 (hnw _ (by omega))).ext E810
        have D6 : Blk w10 g6 43 _ := (M8.blk (B6.ext E27) (hnw _ (by omega))).ext E810
        have F10 := (F7.mut M8 hgn hgl hgr).ext E810
        have V10 := V8.ext E810
        have hw10 := ((hw.ext E7).mut M8 hTB (fun k hk => hP.out k hk)).ext E810
        have ry10 := (M8.row (ry.ext E37) hbS).ext E810
        have hVo : ¬ VSs gc gN gL g13 := hnw _ (by omega)
        have hVo12 : ¬ VSs gc gN gL g12 := hnw _ (by omega)
        (refine L_nil ?_; refine tn ?_; refine W_seq ?_)
        apply W_dagM 3 (VSs gc gN gL) (fun w' => Ext w10 w') 4 (by kernel_rfl) (Ext.drew _) (fun _ _ E h => h.trans E)
        (apply DW_x (fun r w hA hH => (X_ldW rfl (hA.g.blk C13 hVo) (by rw [ints_len]; exact a1.1)).trans rfl); apply DW_x (fun r w hA hH => (X_ld rfl (F10.mut hA.g hgn hgl hgr).r rfl).trans rfl); apply DW_x (fun r w hA hH => (X_ldW rfl (hA.g.blk D12 hVo12) rfl).trans rfl))
        apply DW_frc (F := fun v w' => v = .agg (ints .u8 rb.1).toArray ∧ VS (fun k => k < B) gc gN gL ((cb && ra.2.2.2) && rb.2.2.2) rb.2.1 rb.2.2.1 w') (first := #[]) (cap := #[.pointer (some ⟨gn, 0, none⟩), .pointer (some ⟨gc, 0, none⟩), .pointer (some ⟨gl, 0, none⟩), .pointer (some ⟨gr, 0, none⟩)]) (vl := fun _ => [.agg (sub k hi y).toArray]) (fun _ => rfl) (fun _ => rfl) (fun r w hA hH => by
          have hE := hA.pre (.inl rfl)
          have h := grebuild hP hgn hgl hgr hTB fu k hi bl bh y Ib (cb && ra.2.2.2) ra.2.1 ra.2.2.1 (by omega) (by omega) hh pb fb hbB a2 a3 a4 a5 w (hw10.ext hE) (ry10.ext hE) (F10.ext hE) (V10.ext hE)
          rw [← hrb'] at h
          exact h.mono fun e w' ⟨h1, h2, h3⟩ => ⟨_, h1, .inr ⟨rfl, h2⟩, rfl, h3⟩) (fun i v w w' hi' _ hR h => ⟨h.1, h.2.ext (hR.other hi')⟩)
        ((with_reducible exact D_end); (exact rfl); (repeat (first | exact .inr (.inr (fun _ _ => by with_reducible rfl)) | (refine And.intro ?_ ?_) | exact .inr (.inl rfl) | exact .inl (by decide +kernel) | exact trivial | exact .inr (.inr (fun _ _ => rfl)))); (try dsimp only [Nat.reduceAdd]))
        intro r w11 M11 H11
        obtain ⟨hr3, V11⟩ : r 3 = .agg (ints .u8 rb.1).toArray ∧ VS (fun k => k < B) gc gN gL ((cb && ra.2.2.2) && rb.2.2.2) rb.2.1 rb.2.2.1 w11 := H11 3
        rw [hr3]
        have hw11 := hw10.mut M11 hTB (fun k hk => hP.out k hk)
        refine L_fv rfl (gpair ra.1 rb.1 a1.2 b1.2 a1.1 b1.1 w11 hw11) ?_
        intro w12 E12'
        have G6 := (M11.blk D6 (hnw _ (by omega))).ext E12'
        refine L_storeW (size := 32) (l := ints .u8 (nd ra.1 rb.1)) rfl rfl (by rw [ints_len]; exact nd_len _ _) ints_cell G6 rfl ?_
        intro w13 G13 hg13' hs13'
        (refine L_nil ?_; refine tn ?_; refine W_ret ?_)
        refine endQ_res rfl rfl (Res.cellA inferInstance rfl (G13.range (fun j u h => by simpa using h)) (by rw [ints_len]; exact nd_len _ _) .nil) ?_
        have MM : Mut (VSs gc gN gL) w w12 := ((((Mut.of_ext E7).trans M8).ext_ E810).trans M11).ext_ E12'
        refine ⟨rfl, MM.new G6 hg13' (by omega), ?_⟩
        rw [← Bool.and_assoc]
        exact (V11.ext E12').other hg13' (hnw g6 (by omega)) hBg
end Go.Proofs.YtpohjepbmgeplaaGreatDoor

/- Hash trees: the program's verification, joined. -/
namespace Go.Proofs.YtpohjepbmgeplaaGreatDoor
open Go.RowKit Go.Proofs.K
open _root_.Mk (reb okP okR)

instance (n : Nat) (I : List Nat) (bs ns : List (List Nat)) (r : List Nat) : Decidable (okP lf nd n I bs ns r) := by unfold Mk.okP; exact inferInstance
theorem gsrcNMk (v : Value) (hv : v.oneCell' = true) (w : World) :
    Calls Tryz.prog 132 #[v] w fun e w' => ∃ q, e = .returned q ∧ Ext w w' ∧ ∃ b, q = .func (.func 177) #[] #[.pointer (some ⟨b, 0, none⟩)] ∧ w.heap.size ≤ b ∧ Blk w' b 46 [v] := by
  refine calls_W Tryz.func132 rfl Tryz.ntmps132 rfl ?_
  (refine W_seq ?_; refine W_region ?_)
  refine L_box1 rfl hv ?_
  intro g1 w1 B1 hg1 E1 hs1
  (refine Ls (X_assign (v := Value.nilFunc) rfl) ?_; refine L_nil ?_; refine tn ?_; refine W_seq ?_; refine W_region ?_)
  refine Ls (X_mkFunc (vf := []) (vc := [.pointer (some ⟨g1, 0, none⟩)]) rfl rfl) ?_
  (refine Ls (X_assign (v := .func _ _ _) rfl) ?_; refine L_nil ?_; refine tn ?_; refine W_ret ?_)
  refine endQ_ret1 rfl rfl (v := .func _ _ _) rfl ⟨_, rfl, E1, g1, rfl, by omega, B1⟩
theorem gsrcLMk (v : Value) (hv : v.oneCell' = true) (w : World) :
    Calls Tryz.prog 131 #[v] w fun e w' => ∃ q, e = .returned q ∧ Ext w w' ∧ ∃ b, q = .func (.func 176) #[] #[.pointer (some ⟨b, 0, none⟩)] ∧ w.heap.size ≤ b ∧ Blk w' b 102 [v] := by
  refine calls_W Tryz.func131 rfl Tryz.ntmps131 rfl ?_
  (refine W_seq ?_; refine W_region ?_)
  refine L_box1 rfl hv ?_
  intro g1 w1 B1 hg1 E1 hs1
  (refine Ls (X_assign (v := Value.nilFunc) rfl) ?_; refine L_nil ?_; refine tn ?_; refine W_seq ?_; refine W_region ?_)
  refine Ls (X_mkFunc (vf := []) (vc := [.pointer (some ⟨g1, 0, none⟩)]) rfl rfl) ?_
  (refine Ls (X_assign (v := .func _ _ _) rfl) ?_; refine L_nil ?_; refine tn ?_; refine W_ret ?_)
  refine endQ_ret1 rfl rfl (v := .func _ _ _) rfl ⟨_, rfl, E1, g1, rfl, by omega, B1⟩
theorem infF0 : (Tryz.prog.info? 173).map (fun i => (i.zero, i.size, i.bytes)) = some (some Value.nilFunc, 1, 8) := by kernel_rfl
instance : TZero Tryz.prog 173 [Value.nilFunc] := zero_mk infF0 (by rfl)
theorem infF1 : (Tryz.prog.info? 175).map (fun i => (i.zero, i.size, i.bytes)) = some (some Value.nilFunc, 1, 8) := by kernel_rfl
instance : TZero Tryz.prog 175 [Value.nilFunc] := zero_mk infF1 (by rfl)
theorem infF2 : (Tryz.prog.info? 177).map (fun i => (i.zero, i.size, i.bytes)) = some (some Value.nilFunc, 1, 8) := by kernel_rfl
instance : TZero Tryz.prog 177 [Value.nilFunc] := zero_mk infF2 (by rfl)
set_option maxRecDepth 100000 in
set_option maxHeartbeats 4000000 in
theorem gmverify {n : Nat} (h1 : 1 ≤ n) (hn : n ≤ 65536) (rt : List Nat) (hrt : rt.length = 32) (hrt8 : Sha.bytesOk rt) (bl bh : Nat) (iv bv nv : Value) (I : List Nat) (bs ns : List (List Nat)) (hp : I.Pairwise (· < ·)) (hin : ∀ i ∈ I, i < n) (hbl : bs.length = I.length) (hb : BsOk bs) (hnk : DgOk ns) (hnl : ns.length ≤ 1000000)
    (w : World) (hw : Tb w) (hri : Row w bl bh 1 iv I.length (ints .i64 I)) (hrb : PartN (fun _ => True) w .u8 bv bs) (hrn : RowN (fun _ => True) w 32 nv ns.length (dgs ns)) :
    Calls Tryz.prog 80 #[.agg (ints .u8 rt).toArray, .int .i64 (n : Nat), .agg #[iv, bv], .agg #[nv]] w fun e w' => e = .returned (.int .i64 (if okP lf nd n I bs ns rt then 0 else 80)) ∧ Ext w w' := by
  have hIl : I.length ≤ 65536 := by
    have := sorted_len hp (lo := 0) (hi := n) fun i h => ⟨Nat.zero_le _, hin i h⟩
    omega
  have hri := hri.tightN (by decide)
  have hrb := (hrb.tight).mono (N' := fun k => k < w.heap.size) fun k h => h.2
  have hrn := (hrn.tight (by decide)).mono (N' := fun k => k < w.heap.size) fun k h => h.2
  have hTB := hw.below
  obtain ⟨Ai, ci, rfl⟩ : ∃ A c, iv = .slice A I.length c := by
    obtain ⟨_, A, c, rfl, _⟩ := hri
    exact ⟨A, c, rfl⟩
  obtain ⟨Ab, cb, rfl, _⟩ := hrb.form
  obtain ⟨An, cn, rfl, _⟩ := hrn.form
  refine calls_W Tryz.func80 rfl Tryz.ntmps80 rfl ?_
  (refine W_seq ?_; refine W_region ?_)
  refine L_box rfl ?_
  intro g4 w1 B4 hg4 E1 hs1
  refine L_box (l := [.slice Ai I.length ci, .slice Ab bs.length cb]) rfl ?_
  intro g6 w2 B6 hg6 E2 hs2
  refine L_box (l := [.slice An ns.length cn]) rfl ?_
  intro g7 w3 B7 hg7 E3 hs3
  have C4 := B4.ext (E2.trans E3)
  have C6 := B6.ext E3
  have E13 := E1.trans (E2.trans E3)
  (refine Ls (X_assign (v := .int _ _) rfl) ?_; refine L_nil ?_; refine tn ?_; refine W_seq ?_; refine W_region ?_; refine Ls (X_move (v := .int _ _) rfl) ?_; refine Ls (X_fld rfl) ?_; refine Ls (X_ld rfl C6 rfl) ?_)
  refine L_fv rfl (gcheck h1 hn bl _ _ I hin hp hIl w3 (hri.ext E13)) ?_
  intro w4 E4
  have C4 := C4.ext E4
  have C6 := C6.ext E4
  have C7 := B7.ext E4
  (refine Ls (X_assign (v := .int _ _) rfl) ?_; refine L_nil ?_; refine tn ?_; refine W_seq ?_; refine W_seq ?_; refine W_region ?_; refine Ls (X_move (v := .int _ _) rfl) ?_; refine Ls (X_lssF rfl rfl (by omega)) ?_; refine Ls (X_move (v := .bool _) rfl) ?_; refine Lg2 rfl rfl rfl (X_fld rfl) ?_; refine Lg2 rfl rfl rfl (X_ld rfl C6 rfl) ?_; refine Lg2 rfl rfl rfl (X_lenSlice rfl) ?_; refine Lg2 rfl rfl rfl (X_fld rfl) ?_; refine Lg2 rfl rfl rfl (X_ld rfl C6 rfl) ?_; refine Lg2 rfl rfl rfl (X_lenSlice rfl) ?_; refine Lg2 rfl rfl rfl (X_neqF rfl rfl (by omega)) ?_; refine Ls (X_pickF (v := .bool _) rfl rfl) ?_; refine L_nil ?_; refine tn ?_; refine W_condF rfl ?_; refine W_skip ?_; refine tn ?_; refine W_seq ?_; refine W_seq ?_; refine W_region ?_; refine Ls (X_move (v := .int _ _) rfl) ?_; refine Ls (X_neqF rfl rfl (by omega)) ?_; refine L_nil ?_; refine tn ?_; refine W_condF rfl ?_; refine W_skip ?_; refine tn ?_; refine W_seq ?_)
  apply W_dagE 8 (by kernel_rfl)
  (apply DW_x (fun r w hA hH => (X_fld rfl).trans rfl); apply DW_x (fun r w hA hH => (X_ld rfl (C6.ext hA) rfl).trans rfl))
  ((with_reducible apply DW_fo (F := fun q w' => ∃ b, q = .func (.func 176) #[] #[.pointer (some ⟨b, 0, none⟩)] ∧ w4.heap.size ≤ b ∧ Blk w' b 102 [.slice Ab bs.length cb])); (exact fun _ => rfl); (exact fun _ => rfl); (exact fun r w hA hH => (gsrcLMk (.slice Ab bs.length cb) rfl w).mono fun e w' ⟨q, h1, h2, b, h3, h4, h5⟩ => ⟨q, h1, h2, b, h3, Nat.le_trans hA.size h4, h5⟩); (exact fun i u w w' hi ht hR h => (let ⟨b, h3, h4, h5⟩ := h; ⟨b, h3, h4, h5.ext hR⟩)))
  (apply DW_x (fun r w hA hH => (X_fld rfl).trans rfl); apply DW_x (fun r w hA hH => (X_ld rfl (C7.ext hA) rfl).trans rfl))
  ((with_reducible apply DW_fo (F := fun q w' => ∃ b, q = .func (.func 177) #[] #[.pointer (some ⟨b, 0, none⟩)] ∧ w4.heap.size ≤ b ∧ Blk w' b 46 [.slice An ns.length cn])); (exact fun _ => rfl); (exact fun _ => rfl); (exact fun r w hA hH => (gsrcNMk (.slice An ns.length cn) rfl w).mono fun e w' ⟨q, h1, h2, b, h3, h4, h5⟩ => ⟨q, h1, h2, b, h3, Nat.le_trans hA.size h4, h5⟩); (exact fun i u w w' hi ht hR h => (let ⟨b, h3, h4, h5⟩ := h; ⟨b, h3, h4, h5.ext hR⟩)))
  apply DW_alloc (w0 := w4) (fun w hA => hA.size)
  apply DW_alloc (w0 := w4) (fun w hA => hA.size)
  ((with_reducible exact D_end); (exact rfl); (repeat (first | exact .inr (.inr (fun _ _ => by with_reducible rfl)) | (refine And.intro ?_ ?_) | exact .inr (.inl rfl) | exact .inl (by decide +kernel) | exact trivial | exact .inr (.inr (fun _ _ => rfl)))); (try dsimp only [Nat.reduceAdd]))
  intro r w5 E5 H5
  obtain ⟨gL, hr2, hgL, BL⟩ : ∃ b, r 2 = .func (.func 176) #[] #[.pointer (some ⟨b, 0, none⟩)] ∧ w4.heap.size ≤ b ∧ Blk w5 b 102 [.slice Ab bs.length cb] := H5 2
  obtain ⟨gN, hr5, hgN, BN⟩ : ∃ b, r 5 = .func (.func 177) #[] #[.pointer (some ⟨b, 0, none⟩)] ∧ w4.heap.size ≤ b ∧ Blk w5 b 46 [.slice An ns.length cn] := H5 5
  obtain ⟨gl, hr6, hgl, Bl⟩ : NewF w4 _ _ (r 6) w5 := H5 6
  obtain ⟨gn, hr7, hgn, Bn⟩ : NewF w4 _ _ (r 7) w5 := H5 7
  rw [hr2, hr5, hr6, hr7]
  have n1 : gL ≠ gN := BL.ne_ BN (by decide)
  have n2 : gL ≠ gl := BL.ne_ Bl (by decide)
  have n3 : gL ≠ gn := BL.ne_ Bn (by decide)
  have n4 : gN ≠ gl := BN.ne_ Bl (by decide)
  have n5 : gN ≠ gn := BN.ne_ Bn (by decide)
  have n6 : gl ≠ gn := Bl.ne_ Bn (by decide)
  refine L_store1 (v := .func _ _ _) rfl rfl rfl Bl (by simp) ?_
  intro w6 Dl hg6' hs6
  refine L_store1 (v := .func _ _ _) rfl rfl rfl (Bn.grown hg6' (by simp; omega)) (by simp) ?_
  intro w7 Dn hg7' hs7
  have Dl := Dl.grown hg7' (by simp; omega)
  have DL := (BL.grown hg6' (by simp; omega)).grown hg7' (by simp; omega)
  have DN := (BN.grown hg6' (by simp; omega)).grown hg7' (by simp; omega)
  have hzL := BL.lt
  have hzN := BN.lt
  have hzl := Bl.lt
  have hzn := Bn.lt
  have hz4 : w.heap.size ≤ w4.heap.size := (E13.trans E4).size
  have hl4 := B4.lt
  have hz14 : w1.heap.size ≤ w4.heap.size := (E2.trans (E3.trans E4)).size
  have E47 : Ext w4 w7 := (E5.then hg6' (fun g h => by cases h; omega)).then hg7' (fun g h => by cases h; omega)
  (refine L_nil ?_; refine tn ?_; refine W_seq ?_; refine W_region ?_)
  refine L_alloc ?_
  intro gc w8 Bc hgc E8 hs8
  refine L_store1 (v := .bool true) rfl rfl rfl Bc (by simp) ?_
  intro w9 Dc hg9 hs9
  have E79 : Ext w7 w9 := E8.then hg9 (fun g h => by cases h; omega)
  (refine L_nil ?_; refine tn ?_; refine W_seq ?_; refine W_region ?_)
  refine L_alloc ?_
  intro gr w10 Br hgr E10 hs10
  (refine L_nil ?_; refine tn ?_; refine W_seq ?_; refine W_region ?_)
  refine Ls (X_mkFunc (vf := []) (vc := [.pointer (some ⟨gn, 0, none⟩), .pointer (some ⟨gc, 0, none⟩), .pointer (some ⟨gl, 0, none⟩), .pointer (some ⟨gr, 0, none⟩)]) rfl rfl) ?_
  refine L_store1 (v := .func _ _ _) rfl rfl rfl Br (by simp) ?_
  intro w11 Dr hg11 hs11
  have E911 : Ext w9 w11 := E10.then hg11 (fun g h => by cases h; omega)
  have E711 := E79.trans E911
  have E411 := E47.trans E711
  have E11 : Ext w w11 := (E13.trans E4).trans E411
  have F11 : Fx gn gl gr gc gN gL w11 := ⟨Dn.ext E711, Dl.ext E711, Dr⟩
  have C6' := C6.ext E411
  have V11 : VS (fun k => k < w.heap.size) gc gN gL true ns bs w11 := ⟨Dc.ext E911, ⟨_, DN.ext E711, hrn.ext E11⟩, _, DL.ext E711, hrb.ext E11⟩
  have hP : VP (fun k => k < w.heap.size) gc gN gL := ⟨(by show ¬ (gc < w.heap.size); omega), (by show ¬ (gN < w.heap.size); omega), (by show ¬ (gL < w.heap.size); omega), by omega, by omega, n1.symm⟩
  have sn : ¬ VSs gc gN gL gn := by rintro (h | h | h) <;> omega
  have sl : ¬ VSs gc gN gL gl := by rintro (h | h | h) <;> omega
  have sr : ¬ VSs gc gN gL gr := by rintro (h | h | h) <;> omega
  obtain ⟨ra, hra⟩ : ∃ ra, ra = reb lf nd (n + 1) 0 n I ns bs := ⟨_, rfl⟩
  obtain ⟨a1, a2, a3, a4, a5⟩ := reb_ok (n + 1) 0 n I ns bs (by omega) (by omega) hnk hb hnl (by omega)
  have hreb := grebuild hP sn sl sr hTB (n + 1) 0 n bl w.heap.size (.slice Ai I.length ci) I true ns bs (by omega) (by omega) hn hp (fun i h => ⟨Nat.zero_le _, hin i h⟩) (Nat.le_refl _) hnk hb hnl (by omega) w11 (hw.ext E11) (hri.ext E11) F11 V11
  rw [← hra] at hreb a1 a2 a3 a4 a5
  have hok : okP lf nd n I bs ns rt ↔ ra.2.1 = [] ∧ ra.2.2.2 = true ∧ ra.1 = rt := by unfold Mk.okP; rw [← hra]
  (refine L_nil ?_; refine tn ?_; refine W_seq ?_; refine W_region ?_; refine Ls (X_ld rfl Dr rfl) ?_; refine Ls (X_move (v := .int _ _) rfl) ?_; refine Ls (X_fld rfl) ?_; refine Ls (X_ld rfl C6' rfl) ?_)
  refine Ls (X_mkSub (a := 0) (b := n) rfl rfl rfl rfl) ?_
  refine L_clo (vl := [.agg (sub 0 n (.slice Ai I.length ci)).toArray]) rfl hreb rfl ?_
  rintro e w12 ⟨rfl, M12, V12⟩
  refine ⟨_, rfl, ?_⟩
  skip
  refine L_alloc ?_
  intro g14 w13 B14 hg14 E13' hs13
  refine L_storeW (size := 32) (l := ints .u8 ra.1) rfl rfl (by rw [ints_len]; exact a1.1) ints_cell B14 rfl ?_
  intro w14 D14 hg14' hs14
  have E1214 : Ext w12 w14 := E13'.then hg14' (fun g h => by cases h; omega)
  have F14 := (F11.mut M12 sn sl sr).ext E1214
  have hz12 := M12.size
  have D4 : Blk w14 g4 43 (ints .u8 rt) := (M12.blk (C4.ext E411) (by rintro (h | h | h) <;> omega)).ext E1214
  have V14 := V12.ext E1214
  rw [Bool.true_and] at V14
  (refine L_nil ?_; refine tn ?_; refine W_seq ?_; refine W_seq ?_; refine W_region ?_; refine Ls (X_ld rfl F14.n rfl) ?_)
  refine L_clo (vl := []) rfl (gsrcN hP ra.2.2.2 ra.2.1 ra.2.2.1 a4 a2 w14 V14) rfl ?_
  rintro e w15 ⟨rfl, M15, V15⟩
  refine ⟨_, rfl, ?_⟩
  have hdh := ok_head a2
  (refine Ls (X_move (v := .tuple _) rfl) ?_; refine Ls (X_extract rfl rfl) ?_; refine Ls (X_extract rfl rfl) ?_)
  refine L_alloc ?_
  intro g15 w16 B15 hg15 E16 hs16
  refine L_storeW (size := 32) (l := ints .u8 (ra.2.1.headD (List.replicate 32 0))) rfl rfl (by rw [ints_len]; exact hdh.1) ints_cell B15 rfl ?_
  intro w17 D15 hg15' hs17
  have E1517 : Ext w15 w17 := E16.then hg15' (fun g h => by cases h; omega)
  have hz15 := M15.size
  have Dc' := (V15.ext E1517).c
  have D14' : Blk w17 g14 43 (ints .u8 ra.1) := (M15.blk D14 (by rintro (h | h | h) <;> omega)).ext E1517
  have D4' : Blk w17 g4 43 (ints .u8 rt) := (M15.blk D4 (by rintro (h | h | h) <;> omega)).ext E1517
  have MM : Mut (VSs gc gN gL) w11 w17 := ((M12.ext_ E1214).trans M15).ext_ E1517
  have EE : Ext w w17 := MM.toExt E11 (by rintro k (rfl | rfl | rfl) <;> omega)
  cases hmore : ra.2.1.isEmpty with
  | false =>
    have hno : ¬ okP lf nd n I bs ns rt := fun h => by
      rw [(hok.1 h).1] at hmore; cases hmore
    rw [if_neg hno]
    (refine Ls (X_assign (v := .bool _) rfl) ?_; refine L_nil ?_; refine tn ?_; refine W_seq ?_; refine W_region ?_; refine Ls (X_move (v := .bool _) rfl) ?_; refine Ls (X_move (v := .bool _) rfl) ?_; refine Lo2 rfl rfl rfl rfl ?_; refine Lo2 rfl rfl rfl rfl ?_; refine Ls (X_pickT (v := .bool _) rfl rfl) ?_; refine Ls (X_move (v := .bool _) rfl) ?_; refine Lo2 rfl rfl rfl rfl ?_; refine Lo2 rfl rfl rfl rfl ?_; refine Lo2 rfl rfl rfl rfl ?_; refine Ls (X_pickT (v := .bool _) rfl rfl) ?_; refine L_nil ?_; refine tn ?_; refine W_condT rfl ?_; refine W_seq ?_; refine W_region ?_; refine Ls (X_assign (v := .int _ _) rfl) ?_; refine L_nil ?_; refine tn ?_; refine W_ret ?_; refine tr ?_)
    exact endQ_ret1 rfl rfl (v := .int _ _) rfl ⟨rfl, EE⟩
  | true =>
    have he : ra.2.1 = [] := List.isEmpty_iff.1 hmore
    cases hcm : ra.2.2.2 with
    | false =>
      have hno : ¬ okP lf nd n I bs ns rt := fun h => by
        have := (hok.1 h).2.1
        rw [hcm] at this; cases this
      rw [if_neg hno]
      rw [hcm] at Dc'
      (refine Ls (X_assign (v := .bool _) rfl) ?_; refine L_nil ?_; refine tn ?_; refine W_seq ?_; refine W_region ?_; refine Ls (X_move (v := .bool _) rfl) ?_; refine Ls (X_move (v := .bool _) rfl) ?_; refine Lg2 rfl rfl rfl (X_ld rfl Dc' rfl) ?_; refine Lg2 rfl rfl rfl (X_not rfl) ?_; refine Ls (X_pickF (v := .bool _) rfl rfl) ?_; refine Ls (X_move (v := .bool _) rfl) ?_; refine Lo2 rfl rfl rfl rfl ?_; refine Lo2 rfl rfl rfl rfl ?_; refine Lo2 rfl rfl rfl rfl ?_; refine Ls (X_pickT (v := .bool _) rfl rfl) ?_; refine L_nil ?_; refine tn ?_; refine W_condT rfl ?_; refine W_seq ?_; refine W_region ?_; refine Ls (X_assign (v := .int _ _) rfl) ?_; refine L_nil ?_; refine tn ?_; refine W_ret ?_; refine tr ?_)
      exact endQ_ret1 rfl rfl (v := .int _ _) rfl ⟨rfl, EE⟩
    | true =>
      rw [hcm] at Dc'
      by_cases hrr : ra.1 = rt
      · rw [if_pos (hok.2 ⟨he, hcm, hrr⟩)]
        (refine Ls (X_assign (v := .bool _) rfl) ?_; refine L_nil ?_; refine tn ?_; refine W_seq ?_; refine W_region ?_; refine Ls (X_move (v := .bool _) rfl) ?_; refine Ls (X_move (v := .bool _) rfl) ?_; refine Lg2 rfl rfl rfl (X_ld rfl Dc' rfl) ?_; refine Lg2 rfl rfl rfl (X_not rfl) ?_; refine Ls (X_pickF (v := .bool _) rfl rfl) ?_; refine Ls (X_move (v := .bool _) rfl) ?_; refine Lg2 rfl rfl rfl (X_ldW rfl D14' (by rw [ints_len]; exact a1.1)) ?_; refine Lg2 rfl rfl rfl (X_ldW rfl D4' (by rw [ints_len]; exact hrt)) ?_; refine Lg2 rfl rfl rfl ((X_neqD a1.1 hrt a1.2 hrt8 rfl rfl).trans (by rw [decide_eq_false (fun h => h hrr)])) ?_; refine Ls (X_pickF (v := .bool _) rfl rfl) ?_; refine L_nil ?_; refine tn ?_; refine W_condF rfl ?_; refine W_skip ?_; refine tn ?_; refine W_seq ?_; refine W_region ?_; refine Ls (X_assign (v := .int _ _) rfl) ?_; refine L_nil ?_; refine tn ?_; refine W_ret ?_)
        exact endQ_ret1 rfl rfl (v := .int _ _) rfl ⟨rfl, EE⟩
      · rw [if_neg (fun h => hrr (hok.1 h).2.2)]
        (refine Ls (X_assign (v := .bool _) rfl) ?_; refine L_nil ?_; refine tn ?_; refine W_seq ?_; refine W_region ?_; refine Ls (X_move (v := .bool _) rfl) ?_; refine Ls (X_move (v := .bool _) rfl) ?_; refine Lg2 rfl rfl rfl (X_ld rfl Dc' rfl) ?_; refine Lg2 rfl rfl rfl (X_not rfl) ?_; refine Ls (X_pickF (v := .bool _) rfl rfl) ?_; refine Ls (X_move (v := .bool _) rfl) ?_; refine Lg2 rfl rfl rfl (X_ldW rfl D14' (by rw [ints_len]; exact a1.1)) ?_; refine Lg2 rfl rfl rfl (X_ldW rfl D4' (by rw [ints_len]; exact hrt)) ?_; refine Lg2 rfl rfl rfl ((X_neqD a1.1 hrt a1.2 hrt8 rfl rfl).trans (by rw [decide_eq_true hrr])) ?_; refine Ls (X_pickF (v := .bool _) rfl rfl) ?_; refine L_nil ?_; refine tn ?_; refine W_condT rfl ?_; refine W_seq ?_; refine W_region ?_; refine Ls (X_assign (v := .int _ _) rfl) ?_; refine L_nil ?_; refine tn ?_; refine W_ret ?_; refine tr ?_)
        exact endQ_ret1 rfl rfl (v := .int _ _) rfl ⟨rfl, EE⟩
end Go.Proofs.YtpohjepbmgeplaaGreatDoor

/- Hash trees: the reference's roots and openings. -/
namespace Go.Proofs.YtpohjepbmgeplaaGreatDoor
open Go.RowKit Go.Proofs.K
open _root_.Mk (spl spl_pos spl_lt tree tree_one tree_two cls cls_nil cls_one cls_two)

theorem partN_at {N : Nat → Prop} {w : World} {kd : IntKind} {A : Option Addr} {m c : Nat} {M : List (List Nat)} (h : PartN N w kd (.slice A m c) M) {i : Nat} {d : List Nat} (hd : M[i]? = some d) :
    ∃ b o x, A = some ⟨b, o, none⟩ ∧ m = M.length ∧ m ≤ c ∧ c ≤ maxLen ∧ N b ∧ w.cell? ⟨b, o + i * 1, none⟩ = some x ∧ x.oneCell' = true ∧ RowN N w 1 x d.length (ints kd d) := by
  obtain ⟨vs, hvl, hr, he⟩ := h
  have hi : i < M.length := (List.getElem?_eq_some_iff.1 hd).1
  obtain ⟨x, hx⟩ : ∃ x, vs[i]? = some x := ⟨vs[i]'(by omega), List.getElem?_eq_getElem (by omega)⟩
  obtain ⟨b, o, c', e, h1, h2, h3, h4⟩ := hr.at hi
  cases e
  have := he i x d hx hd
  exact ⟨b, o, x, rfl, rfl, h1, h2, h3, by rw [Nat.mul_one]; exact h4 i x hx, this.cell1, this⟩
theorem ints_at {k : IntKind} {I : List Nat} {i x : Nat} (h : I[i]? = some x) : (ints k I)[i]? = some (.int k (x : Nat)) := by unfold ints; rw [List.getElem?_map, h]; rfl
end Go.Proofs.YtpohjepbmgeplaaGreatDoor

/- Hash trees: the reference's closed subtrees and openings. -/
namespace Go.Proofs.YtpohjepbmgeplaaGreatDoor
open Go.RowKit Go.Proofs.K
open _root_.Mk (spl spl_pos spl_lt tree tree_one tree_two cls cls_nil cls_one cls_two)

section
variable {n : NN} {f : Fr} {w : World} {d : Option Tmp} {t : TypeId} {pos : String} {af : Array Edge} {g : Option (Nat × Bool)} {x y : Operand}
end
end Go.Proofs.YtpohjepbmgeplaaGreatDoor

/- Hash trees: the reference's verification. -/
namespace Go.Proofs.YtpohjepbmgeplaaGreatDoor
open Go.RowKit Go.Proofs.K
open _root_.Mk (spl spl_pos spl_lt cls cls_nil cls_one cls_two posOf rref okR)

end Go.Proofs.YtpohjepbmgeplaaGreatDoor

/- Hash trees: the reference's verification, joined. -/
namespace Go.Proofs.YtpohjepbmgeplaaGreatDoor
open Go.RowKit Go.Proofs.K
open _root_.Mk (cls rref okR)

section
variable {n : NN} {f : Fr} {w : World} {d : Option Tmp} {t : TypeId} {pos : String} {af : Array Edge} {g : Option (Nat × Bool)} {x y z : Operand}
end
end Go.Proofs.YtpohjepbmgeplaaGreatDoor

/- Commitments: shapes. -/
namespace Go.Proofs.YtpohjepbmgeplaaGreatDoor
open Go.RowKit Go.Proofs.K
open _root_.Fd (K E pw root)
open _root_.Cm (Sh)

/-- the logarithm of a power of two, or -1 -/
def lgI (n : Int) : Int := if n = ((2 ^ Nat.log2 n.toNat : Nat) : Int) then ((Nat.log2 n.toNat : Nat) : Int) else -1
theorem lgI_pow (a : Nat) : lgI ((2 ^ a : Nat) : Int) = a := by
  unfold lgI
  rw [Int.toNat_natCast, Nat.log2_two_pow, if_pos rfl]
theorem lgI_of {n : Int} (h : 0 ≤ lgI n) : ∃ a : Nat, lgI n = a ∧ n = ((2 ^ a : Nat) : Int) := by
  unfold lgI at h ⊢
  split
  · exact ⟨_, rfl, by assumption⟩
  · rename_i hn; rw [if_neg hn] at h; omega
theorem lgI_neg {n : Int} (h : n < 1) : lgI n = -1 := by
  unfold lgI
  rw [if_neg]
  have : 0 < 2 ^ Nat.log2 n.toNat := Nat.pow_pos (by decide)
  omega
theorem lgI_bd {n : Int} (h : n ≤ 9223372036854775807) : -1 ≤ lgI n ∧ lgI n ≤ 62 := by
  unfold lgI
  split
  · rename_i hn
    have : Nat.log2 n.toNat < 63 := by
      rcases Nat.lt_or_ge (Nat.log2 n.toNat) 63 with h1 | h1
      · exact h1
      · have : 2 ^ 63 ≤ 2 ^ Nat.log2 n.toNat := Nat.pow_le_pow_right (by decide) h1
        omega
    omega
  · omega
theorem and_pred {n : Nat} (h : 1 ≤ n) : n &&& (n - 1) = 0 ↔ n = 2 ^ Nat.log2 n := by
  constructor
  · intro h0
    have h1 := Nat.log2_self_le (n := n) (by omega)
    have h2 := Nat.lt_log2_self (n := n)
    rcases Nat.lt_or_ge (2 ^ Nat.log2 n) n with h3 | h3
    · exfalso
      have hb : ∀ m, 2 ^ Nat.log2 n ≤ m → m < 2 ^ (Nat.log2 n + 1) → m.testBit (Nat.log2 n) = true := fun m hm1 hm2 => by
        rw [Nat.testBit_eq_decide_div_mod_eq, decide_eq_true_eq]
        have : m / 2 ^ Nat.log2 n = 1 := by
          rw [Nat.pow_succ] at hm2
          exact Nat.div_eq_of_lt_le (by omega) (by omega)
        rw [this]
      have := congrArg (Nat.testBit · (Nat.log2 n)) h0
      simp only [Nat.testBit_and, Nat.zero_testBit] at this
      rw [hb n h1 h2, hb (n - 1) (by omega) (by omega)] at this
      cases this
    · omega
  · intro he
    rw [he, Nat.and_two_pow_sub_one_eq_mod, Nat.mod_self]
theorem bits_i64_and (a b : Nat) (ha : a < 9223372036854775808) (hb : b < 9223372036854775808) : bits .and .i64 (a : Int) (b : Int) = ((a &&& b : Nat) : Int) := by
  show IntKind.i64.wrap ((BitVec.ofInt 64 (a : Int) &&& BitVec.ofInt 64 (b : Int)).toNat : Int) = _
  rw [BitVec.toNat_and, BitVec.ofInt_natCast, BitVec.ofInt_natCast, BitVec.toNat_ofNat, BitVec.toNat_ofNat, Nat.mod_eq_of_lt (by omega), Nat.mod_eq_of_lt (by omega), i64_nat]
  have := Nat.and_lt_two_pow (n := 63) a (y := b) (by omega)
  omega
set_option maxHeartbeats 1000000 in
theorem gcpow (n : Int) (h0 : -9223372036854775808 ≤ n) (h1 : n ≤ 9223372036854775807) (w : World) :
    Calls Tryz.prog 59 #[.int .i64 n] w fun e w' => e = .returned (.int .i64 (lgI n)) ∧ Ext w w' := by
  refine calls_W Tryz.func59 rfl Tryz.ntmps59 rfl ?_
  by_cases hn : n < 1
  · rw [lgI_neg hn]
    (refine W_seq ?_; refine W_region ?_; refine Ls (X_assign (v := .int _ _) rfl) ?_; refine L_nil ?_; refine tn ?_; refine W_seq ?_; refine W_seq ?_; refine W_region ?_; refine Ls (X_move (v := .int _ _) rfl) ?_; refine Ls (X_lssT rfl rfl (by omega)) ?_; refine Ls (X_move (v := .bool _) rfl) ?_; refine Lo2 rfl rfl rfl rfl ?_; refine Lo2 rfl rfl rfl rfl ?_; refine Lo2 rfl rfl rfl rfl ?_; refine Lo2 rfl rfl rfl rfl ?_; refine Lo2 rfl rfl rfl rfl ?_; refine Ls (X_pickT (v := .bool _) rfl rfl) ?_; refine L_nil ?_; refine tn ?_; refine W_condT rfl ?_; refine W_seq ?_; refine W_region ?_; refine Ls (X_assign (v := .int _ _) rfl) ?_; refine L_nil ?_; refine tn ?_; refine W_ret ?_; refine tr ?_)
    exact endQ_ret1 rfl rfl (v := .int _ _) rfl ⟨rfl, Ext.refl _⟩
  · obtain ⟨m, rfl⟩ : ∃ m : Nat, n = m := ⟨n.toNat, by omega⟩
    have hm : 1 ≤ m := by omega
    have ha : bits .and .i64 (m : Int) ((m : Int) - 1) = ((m &&& (m - 1) : Nat) : Int) := by
      rw [show (m : Int) - 1 = ((m - 1 : Nat) : Int) by omega, bits_i64_and _ _ (by omega) (by omega)]
    have hp := and_pred hm
    by_cases h2 : m = 2 ^ Nat.log2 m
    · have hz : m &&& (m - 1) = 0 := hp.2 h2
      rw [hz] at ha
      have hl : lgI (m : Int) = (Nat.log2 m : Nat) := by
        unfold lgI
        rw [Int.toNat_natCast, if_pos (by omega)]
      rw [hl]
      (refine W_seq ?_; refine W_region ?_; refine Ls (X_assign (v := .int _ _) rfl) ?_; refine L_nil ?_; refine tn ?_; refine W_seq ?_; refine W_seq ?_; refine W_region ?_; refine Ls (X_move (v := .int _ _) rfl) ?_; refine Ls (X_lssF rfl rfl (by omega)) ?_; refine Ls (X_move (v := .bool _) rfl) ?_; refine Lg2 rfl rfl rfl (X_move (v := .int _ _) rfl) ?_; refine Lg2 rfl rfl rfl (X_move (v := .int _ _) rfl) ?_; refine Lg2 rfl rfl rfl (X_subi rfl rfl (by omega)) ?_; refine Lg2 rfl rfl rfl ((X_and rfl rfl).trans (by rw [ha])) ?_; refine Lg2 rfl rfl rfl (X_neqF rfl rfl (by omega)) ?_; refine Ls (X_pickF (v := .bool _) rfl rfl) ?_; refine L_nil ?_; refine tn ?_; refine W_condF rfl ?_; refine W_skip ?_; refine tn ?_; refine W_seq ?_; refine W_region ?_; refine Ls (X_move (v := .int _ _) rfl) ?_; refine Ls (X_conv rfl) ?_)
      rw [show IntKind.u64.wrap (m : Int) = (m : Int) by rw [IntKind.wrap_u64]; omega]
      refine L_fv rfl ((Tryz.bits_Len (m : Int) w (by omega) (by omega)).mono fun _ _ q => ⟨q.1, q.2 ▸ Ext.refl _⟩) ?_
      intro w1 E1
      have hlog : Nat.log2 m < 63 := (Nat.log2_lt (by omega)).2 (by omega)
      rw [Int.toNat_natCast, bitLen_log (by omega) (by omega)]
      (refine Ls (X_subi rfl rfl (by omega)) ?_; refine Ls (X_assign (v := .int _ _) rfl) ?_; refine L_nil ?_; refine tn ?_; refine W_ret ?_)
      refine endQ_ret1 rfl rfl (v := .int _ _) rfl ⟨?_, E1⟩
      rw [show (((Nat.log2 m + 1 : Nat) : Int) - 1) = ((Nat.log2 m : Nat) : Int) by omega]
    · have hz : m &&& (m - 1) ≠ 0 := fun h => h2 (hp.1 h)
      obtain ⟨y, hy⟩ : ∃ y, m &&& (m - 1) = y + 1 := ⟨(m &&& (m - 1)) - 1, by omega⟩
      rw [hy] at ha
      have hl : lgI (m : Int) = -1 := by
        unfold lgI
        rw [Int.toNat_natCast, if_neg (by omega)]
      rw [hl]
      (refine W_seq ?_; refine W_region ?_; refine Ls (X_assign (v := .int _ _) rfl) ?_; refine L_nil ?_; refine tn ?_; refine W_seq ?_; refine W_seq ?_; refine W_region ?_; refine Ls (X_move (v := .int _ _) rfl) ?_; refine Ls (X_lssF rfl rfl (by omega)) ?_; refine Ls (X_move (v := .bool _) rfl) ?_; refine Lg2 rfl rfl rfl (X_move (v := .int _ _) rfl) ?_; refine Lg2 rfl rfl rfl (X_move (v := .int _ _) rfl) ?_; refine Lg2 rfl rfl rfl (X_subi rfl rfl (by omega)) ?_; refine Lg2 rfl rfl rfl ((X_and rfl rfl).trans (by rw [ha])) ?_; refine Lg2 rfl rfl rfl (X_neqT rfl rfl (by omega)) ?_; refine Ls (X_pickF (v := .bool _) rfl rfl) ?_; refine L_nil ?_; refine tn ?_; refine W_condT rfl ?_; refine W_seq ?_; refine W_region ?_; refine Ls (X_assign (v := .int _ _) rfl) ?_; refine L_nil ?_; refine tn ?_; refine W_ret ?_; refine tr ?_)
      exact endQ_ret1 rfl rfl (v := .int _ _) rfl ⟨rfl, Ext.refl _⟩
/-- a shape that is valid for a logarithm -/
structure SOk (R C B T log : Int) : Prop where
  l0 : 0 ≤ log
  l16 : log ≤ 16
  r : 0 ≤ lgI R
  c : 0 ≤ lgI C
  s : lgI R + lgI C = log
  b : B = 2 ∨ B = 4 ∨ B = 8 ∨ B = 16
  n : B * C ≤ 65536
  t1 : 1 ≤ T
  t64 : T ≤ 64
  tn : T ≤ B * C
def I64 (n : Int) : Prop := -9223372036854775808 ≤ n ∧ n ≤ 9223372036854775807
/-- a shape, in the machine -/
def shC (R C B T : Int) : List Value := [.int .i64 R, .int .i64 C, .int .i64 B, .int .i64 T]
theorem shC_cell {R C B T : Int} : ∀ v ∈ shC R C B T, v.oneCell' = true := by
  intro v hv
  rcases List.mem_cons.1 hv with rfl | hv
  · rfl
  · rcases List.mem_cons.1 hv with rfl | hv
    · rfl
    · rcases List.mem_cons.1 hv with rfl | hv
      · rfl
      · rcases List.mem_cons.1 hv with rfl | hv
        · rfl
        · cases hv
theorem col_bd {R C log : Int} (hl : log ≤ 16) (hr : 0 ≤ lgI R) (hc : 0 ≤ lgI C) (hs : lgI R + lgI C = log) : 1 ≤ C ∧ C ≤ 65536 ∧ 1 ≤ R ∧ R ≤ 65536 := by
  obtain ⟨a, ha, rfl⟩ := lgI_of hr
  obtain ⟨c, hc', rfl⟩ := lgI_of hc
  rw [ha, hc'] at hs
  have := pow_le16 (a := a) (by omega)
  have := pow_le16 (a := c) (by omega)
  omega
theorem mul_bd {B C : Int} (hb : B = 2 ∨ B = 4 ∨ B = 8 ∨ B = 16) (hc : 1 ≤ C ∧ C ≤ 65536) : 1 ≤ B * C ∧ B * C ≤ 1048576 := by
  rcases hb with rfl | rfl | rfl | rfl <;> omega
set_option maxRecDepth 100000 in
set_option maxHeartbeats 4000000 in
theorem gcvalid (R C B T log : Int) (hR : I64 R) (hC : I64 C) (hB : I64 B) (hT : I64 T) (hlog : I64 log) (w : World) :
    Calls Tryz.prog 20 #[.agg (shC R C B T).toArray, .int .i64 log] w fun e w' => ∃ b : Bool, e = .returned (.bool b) ∧ (b = true ↔ SOk R C B T log) ∧ Ext w w' := by
  obtain ⟨l1, l2⟩ := hlog
  obtain ⟨t1, t2⟩ := hT
  have br := lgI_bd hR.2
  have bc := lgI_bd hC.2
  refine calls_W Tryz.func20 rfl Tryz.ntmps20 rfl ?_
  (refine W_seq ?_; refine W_region ?_)
  refine L_box rfl ?_
  intro g2 w1 B2 hg2 E1 hs1
  (refine Ls (X_assign (v := .bool _) rfl) ?_; refine L_nil ?_; refine tn ?_; refine W_seq ?_)
  apply W_dagE 5 (by kernel_rfl)
  (apply DW_x (fun r w hA hH => (X_fld rfl).trans rfl); apply DW_x (fun r w hA hH => (X_ld (cs := shC R C B T) rfl (B2.ext hA) rfl).trans rfl))
  ((with_reducible apply DW_fn); (exact fun _ => rfl); (exact fun _ => rfl); (exact fun r w hA hH => gcpow R hR.1 hR.2 w))
  (apply DW_x (fun r w hA hH => (X_fld rfl).trans rfl); apply DW_x (fun r w hA hH => (X_ld (cs := shC R C B T) rfl (B2.ext hA) rfl).trans rfl))
  ((with_reducible exact D_end); (exact rfl); (repeat (first | exact .inr (.inr (fun _ _ => by with_reducible rfl)) | (refine And.intro ?_ ?_) | exact .inr (.inl rfl) | exact .inl (by decide +kernel) | exact trivial | exact .inr (.inr (fun _ _ => rfl)))); (try dsimp only [Nat.reduceAdd]))
  intro r0 w2 E2 _
  refine L_fv rfl (gcpow C hC.1 hC.2 w2) ?_
  intro w3 E3
  have C2 := B2.ext (E2.trans E3)
  have E13 := E1.trans (E2.trans E3)
  generalize hlr : lgI R = lr at br ⊢
  generalize hlc : lgI C = lc at bc ⊢
  by_cases h1 : log < 0
  · (refine Ls (X_assign (v := .int _ _) rfl) ?_; refine Ls (X_assign (v := .int _ _) rfl) ?_; refine L_nil ?_; refine tn ?_; refine W_seq ?_; refine W_seq ?_; refine W_region ?_; refine Ls (X_move (v := .int _ _) rfl) ?_; refine Ls (X_lssT rfl rfl (by omega)) ?_; refine Ls (X_move (v := .bool _) rfl) ?_; refine Lo2 rfl rfl rfl rfl ?_; refine Lo2 rfl rfl rfl rfl ?_; refine Ls (X_pickT (v := .bool _) rfl rfl) ?_; refine Ls (X_move (v := .bool _) rfl) ?_; refine Lo2 rfl rfl rfl rfl ?_; refine Lo2 rfl rfl rfl rfl ?_; refine Ls (X_pickT (v := .bool _) rfl rfl) ?_; refine Ls (X_move (v := .bool _) rfl) ?_; refine Lo2 rfl rfl rfl rfl ?_; refine Lo2 rfl rfl rfl rfl ?_; refine Ls (X_pickT (v := .bool _) rfl rfl) ?_; refine Ls (X_move (v := .bool _) rfl) ?_; refine Lo2 rfl rfl rfl rfl ?_; refine Lo2 rfl rfl rfl rfl ?_; refine Lo2 rfl rfl rfl rfl ?_; refine Lo2 rfl rfl rfl rfl ?_; refine Lo2 rfl rfl rfl rfl ?_; refine Ls (X_pickT (v := .bool _) rfl rfl) ?_; refine Ls (X_move (v := .bool _) rfl) ?_; refine Lo2 rfl rfl rfl rfl ?_; refine Lo2 rfl rfl rfl rfl ?_; refine Lo2 rfl rfl rfl rfl ?_; refine Lo2 rfl rfl rfl rfl ?_; refine Lo2 rfl rfl rfl rfl ?_; refine Ls (X_pickT (v := .bool _) rfl rfl) ?_; refine L_nil ?_; refine tn ?_; refine W_condT rfl ?_; refine W_seq ?_; refine W_region ?_; refine Ls (X_assign (v := .bool _) rfl) ?_; refine L_nil ?_; refine tn ?_; refine W_ret ?_; refine tr ?_)
    exact endQ_ret1 rfl rfl (v := .bool _) rfl ⟨false, rfl, ⟨(fun h => by cases h), fun h => by have := h.l0; omega⟩, E13⟩
  by_cases h2 : 16 < log
  · (refine Ls (X_assign (v := .int _ _) rfl) ?_; refine Ls (X_assign (v := .int _ _) rfl) ?_; refine L_nil ?_; refine tn ?_; refine W_seq ?_; refine W_seq ?_; refine W_region ?_; refine Ls (X_move (v := .int _ _) rfl) ?_; refine Ls (X_lssF rfl rfl (by omega)) ?_; refine Ls (X_move (v := .bool _) rfl) ?_; refine Lg2 rfl rfl rfl (X_move (v := .int _ _) rfl) ?_; refine Lg2 rfl rfl rfl (X_gtrT rfl rfl (by omega)) ?_; refine Ls (X_pickF (v := .bool _) rfl rfl) ?_; refine Ls (X_move (v := .bool _) rfl) ?_; refine Lo2 rfl rfl rfl rfl ?_; refine Lo2 rfl rfl rfl rfl ?_; refine Ls (X_pickT (v := .bool _) rfl rfl) ?_; refine Ls (X_move (v := .bool _) rfl) ?_; refine Lo2 rfl rfl rfl rfl ?_; refine Lo2 rfl rfl rfl rfl ?_; refine Ls (X_pickT (v := .bool _) rfl rfl) ?_; refine Ls (X_move (v := .bool _) rfl) ?_; refine Lo2 rfl rfl rfl rfl ?_; refine Lo2 rfl rfl rfl rfl ?_; refine Lo2 rfl rfl rfl rfl ?_; refine Lo2 rfl rfl rfl rfl ?_; refine Lo2 rfl rfl rfl rfl ?_; refine Ls (X_pickT (v := .bool _) rfl rfl) ?_; refine Ls (X_move (v := .bool _) rfl) ?_; refine Lo2 rfl rfl rfl rfl ?_; refine Lo2 rfl rfl rfl rfl ?_; refine Lo2 rfl rfl rfl rfl ?_; refine Lo2 rfl rfl rfl rfl ?_; refine Lo2 rfl rfl rfl rfl ?_; refine Ls (X_pickT (v := .bool _) rfl rfl) ?_; refine L_nil ?_; refine tn ?_; refine W_condT rfl ?_; refine W_seq ?_; refine W_region ?_; refine Ls (X_assign (v := .bool _) rfl) ?_; refine L_nil ?_; refine tn ?_; refine W_ret ?_; refine tr ?_)
    exact endQ_ret1 rfl rfl (v := .bool _) rfl ⟨false, rfl, ⟨(fun h => by cases h), fun h => by have := h.l16; omega⟩, E13⟩
  by_cases h3 : lr < 0
  · (refine Ls (X_assign (v := .int _ _) rfl) ?_; refine Ls (X_assign (v := .int _ _) rfl) ?_; refine L_nil ?_; refine tn ?_; refine W_seq ?_; refine W_seq ?_; refine W_region ?_; refine Ls (X_move (v := .int _ _) rfl) ?_; refine Ls (X_lssF rfl rfl (by omega)) ?_; refine Ls (X_move (v := .bool _) rfl) ?_; refine Lg2 rfl rfl rfl (X_move (v := .int _ _) rfl) ?_; refine Lg2 rfl rfl rfl (X_gtrF rfl rfl (by omega)) ?_; refine Ls (X_pickF (v := .bool _) rfl rfl) ?_; refine Ls (X_move (v := .bool _) rfl) ?_; refine Lg2 rfl rfl rfl (X_move (v := .int _ _) rfl) ?_; refine Lg2 rfl rfl rfl (X_lssT rfl rfl (by omega)) ?_; refine Ls (X_pickF (v := .bool _) rfl rfl) ?_; refine Ls (X_move (v := .bool _) rfl) ?_; refine Lo2 rfl rfl rfl rfl ?_; refine Lo2 rfl rfl rfl rfl ?_; refine Ls (X_pickT (v := .bool _) rfl rfl) ?_; refine Ls (X_move (v := .bool _) rfl) ?_; refine Lo2 rfl rfl rfl rfl ?_; refine Lo2 rfl rfl rfl rfl ?_; refine Lo2 rfl rfl rfl rfl ?_; refine Lo2 rfl rfl rfl rfl ?_; refine Lo2 rfl rfl rfl rfl ?_; refine Ls (X_pickT (v := .bool _) rfl rfl) ?_; refine Ls (X_move (v := .bool _) rfl) ?_; refine Lo2 rfl rfl rfl rfl ?_; refine Lo2 rfl rfl rfl rfl ?_; refine Lo2 rfl rfl rfl rfl ?_; refine Lo2 rfl rfl rfl rfl ?_; refine Lo2 rfl rfl rfl rfl ?_; refine Ls (X_pickT (v := .bool _) rfl rfl) ?_; refine L_nil ?_; refine tn ?_; refine W_condT rfl ?_; refine W_seq ?_; refine W_region ?_; refine Ls (X_assign (v := .bool _) rfl) ?_; refine L_nil ?_; refine tn ?_; refine W_ret ?_; refine tr ?_)
    exact endQ_ret1 rfl rfl (v := .bool _) rfl ⟨false, rfl, ⟨(fun h => by cases h), fun h => by have := h.r; omega⟩, E13⟩
  by_cases h4 : lc < 0
  · (refine Ls (X_assign (v := .int _ _) rfl) ?_; refine Ls (X_assign (v := .int _ _) rfl) ?_; refine L_nil ?_; refine tn ?_; refine W_seq ?_; refine W_seq ?_; refine W_region ?_; refine Ls (X_move (v := .int _ _) rfl) ?_; refine Ls (X_lssF rfl rfl (by omega)) ?_; refine Ls (X_move (v := .bool _) rfl) ?_; refine Lg2 rfl rfl rfl (X_move (v := .int _ _) rfl) ?_; refine Lg2 rfl rfl rfl (X_gtrF rfl rfl (by omega)) ?_; refine Ls (X_pickF (v := .bool _) rfl rfl) ?_; refine Ls (X_move (v := .bool _) rfl) ?_; refine Lg2 rfl rfl rfl (X_move (v := .int _ _) rfl) ?_; refine Lg2 rfl rfl rfl (X_lssF rfl rfl (by omega)) ?_; refine Ls (X_pickF (v := .bool _) rfl rfl) ?_; refine Ls (X_move (v := .bool _) rfl) ?_; refine Lg2 rfl rfl rfl (X_move (v := .int _ _) rfl) ?_; refine Lg2 rfl rfl rfl (X_lssT rfl rfl (by omega)) ?_; refine Ls (X_pickF (v := .bool _) rfl rfl) ?_; refine Ls (X_move (v := .bool _) rfl) ?_; refine Lo2 rfl rfl rfl rfl ?_; refine Lo2 rfl rfl rfl rfl ?_; refine Lo2 rfl rfl rfl rfl ?_; refine Lo2 rfl rfl rfl rfl ?_; refine Lo2 rfl rfl rfl rfl ?_; refine Ls (X_pickT (v := .bool _) rfl rfl) ?_; refine Ls (X_move (v := .bool _) rfl) ?_; refine Lo2 rfl rfl rfl rfl ?_; refine Lo2 rfl rfl rfl rfl ?_; refine Lo2 rfl rfl rfl rfl ?_; refine Lo2 rfl rfl rfl rfl ?_; refine Lo2 rfl rfl rfl rfl ?_; refine Ls (X_pickT (v := .bool _) rfl rfl) ?_; refine L_nil ?_; refine tn ?_; refine W_condT rfl ?_; refine W_seq ?_; refine W_region ?_; refine Ls (X_assign (v := .bool _) rfl) ?_; refine L_nil ?_; refine tn ?_; refine W_ret ?_; refine tr ?_)
    exact endQ_ret1 rfl rfl (v := .bool _) rfl ⟨false, rfl, ⟨(fun h => by cases h), fun h => by have := h.c; omega⟩, E13⟩
  by_cases h5 : lr + lc = log
  · have hcb := col_bd (R := R) (C := C) (log := log) (by omega) (by omega) (by omega) (by omega)
    (refine Ls (X_assign (v := .int _ _) rfl) ?_; refine Ls (X_assign (v := .int _ _) rfl) ?_; refine L_nil ?_; refine tn ?_; refine W_seq ?_; refine W_seq ?_; refine W_region ?_; refine Ls (X_move (v := .int _ _) rfl) ?_; refine Ls (X_lssF rfl rfl (by omega)) ?_; refine Ls (X_move (v := .bool _) rfl) ?_; refine Lg2 rfl rfl rfl (X_move (v := .int _ _) rfl) ?_; refine Lg2 rfl rfl rfl (X_gtrF rfl rfl (by omega)) ?_; refine Ls (X_pickF (v := .bool _) rfl rfl) ?_; refine Ls (X_move (v := .bool _) rfl) ?_; refine Lg2 rfl rfl rfl (X_move (v := .int _ _) rfl) ?_; refine Lg2 rfl rfl rfl (X_lssF rfl rfl (by omega)) ?_; refine Ls (X_pickF (v := .bool _) rfl rfl) ?_; refine Ls (X_move (v := .bool _) rfl) ?_; refine Lg2 rfl rfl rfl (X_move (v := .int _ _) rfl) ?_; refine Lg2 rfl rfl rfl (X_lssF rfl rfl (by omega)) ?_; refine Ls (X_pickF (v := .bool _) rfl rfl) ?_; refine Ls (X_move (v := .bool _) rfl) ?_; refine Lg2 rfl rfl rfl (X_move (v := .int _ _) rfl) ?_; refine Lg2 rfl rfl rfl (X_move (v := .int _ _) rfl) ?_; refine Lg2 rfl rfl rfl (X_addi rfl rfl (by omega)) ?_; refine Lg2 rfl rfl rfl (X_move (v := .int _ _) rfl) ?_; refine Lg2 rfl rfl rfl (X_neqF rfl rfl (by omega)) ?_; refine Ls (X_pickF (v := .bool _) rfl rfl) ?_; refine Ls (X_move (v := .bool _) rfl) ?_)
    refine L_strip rfl rfl rfl ?_
    refine L_lits (z := [.int .i64 0]) (zs' := [[.int .i64 2], [.int .i64 4], [.int .i64 8], [.int .i64 16]]) (cs := ints .i64 [2, 4, 8, 16]) (len := 4) ?_ rfl rfl rfl rfl ?_
    · repeat (first | exact Parts.nil _ | refine Parts.cons rfl rfl rfl rfl ?_)
    intro q w4 r4 E4 hs4 o4 hq
    subst hq
    have C2 := C2.ext E4
    have hct : ∀ w5, w5 = w4 → Calls Tryz.prog 71 #[.slice (some ⟨w3.heap.size, 0, none⟩) 4 4, .int .i64 B] w5 fun e w' => e = .returned (.bool (decide (B = 2 ∨ B = 4 ∨ B = 8 ∨ B = 16))) ∧ Ext w5 w' := by
      rintro w5 rfl
      have h := Tryz.slices_Contains_int w3.heap.size 0 4 4 [2, 4, 8, 16] B w5 (by decide) (by decide) (fun j hj => own_range o4 j _ (by
        match j, hj with
        | 0, _ => rfl
        | 1, _ => rfl
        | 2, _ => rfl
        | 3, _ => rfl))
      refine h.mono fun e w' ⟨h1, h2⟩ => ⟨?_, by rw [h2]; exact Ext.refl _⟩
      rw [h1]
      congr 2
      rw [Bool.eq_iff_iff]
      simp
    (refine Lg2 rfl rfl rfl (X_fld rfl) ?_; refine Lg2 rfl rfl rfl (X_ld (cs := shC R C B T) rfl C2 rfl) ?_)
    refine L_strip rfl rfl rfl ?_
    refine L_fv rfl (hct w4 rfl) ?_
    intro w5 E5
    have C2 := C2.ext E5
    have E15 := E13.trans (E4.trans E5)
    by_cases h6 : B = 2 ∨ B = 4 ∨ B = 8 ∨ B = 16
    · rw [decide_eq_true h6]
      have hmb := mul_bd h6 ⟨hcb.1, hcb.2.1⟩
      by_cases h7 : B * C ≤ 65536
      · by_cases h8 : 1 ≤ T
        · (refine Lg2 rfl rfl rfl (X_not rfl) ?_; refine Ls (X_pickF (v := .bool _) rfl rfl) ?_; refine L_nil ?_; refine tn ?_; refine W_condF rfl ?_; refine W_skip ?_; refine tn ?_; refine W_seq ?_; refine W_region ?_; refine Ls (X_fld rfl) ?_; refine Ls (X_ld (cs := shC R C B T) rfl C2 rfl) ?_; refine Ls (X_fld rfl) ?_; refine Ls (X_ld (cs := shC R C B T) rfl C2 rfl) ?_; refine Ls (X_muli rfl rfl ⟨by omega, by omega⟩) ?_; refine Ls (X_assign (v := .int _ _) rfl) ?_; refine L_nil ?_; refine tn ?_; refine W_seq ?_; refine W_region ?_; refine Ls (X_move (v := .int _ _) rfl) ?_; refine Ls (X_leqT rfl rfl (by omega)) ?_; refine Ls (X_move (v := .bool _) rfl) ?_; refine Lg2 rfl rfl rfl (X_fld rfl) ?_; refine Lg2 rfl rfl rfl (X_ld (cs := shC R C B T) rfl C2 rfl) ?_; refine Lg2 rfl rfl rfl (X_leqT rfl rfl (by omega)) ?_; refine Ls (X_pickT (v := .bool _) rfl rfl) ?_; refine Ls (X_move (v := .bool _) rfl) ?_; refine Lg2 rfl rfl rfl (X_fld rfl) ?_; refine Lg2 rfl rfl rfl (X_ld (cs := shC R C B T) rfl C2 rfl) ?_; refine Lg2 rfl rfl rfl (X_move (v := .int _ _) rfl) ?_; refine Lg2 rfl rfl rfl ((X_min rfl rfl).trans (by rfl)) ?_; refine Lg2 rfl rfl rfl (X_leq rfl rfl) ?_; refine Ls (X_pickT (v := .bool _) rfl rfl) ?_; refine Ls (X_assign (v := .bool _) rfl) ?_; refine L_nil ?_; refine tn ?_; refine W_ret ?_)
          refine endQ_ret1 rfl rfl (v := .bool _) rfl ⟨_, rfl, ?_, E15⟩
          rw [decide_eq_true_eq]
          constructor
          · intro h
            refine ⟨by omega, by omega, by omega, by omega, by omega, h6, h7, h8, ?_, ?_⟩
            · split at h <;> omega
            · split at h <;> omega
          · intro h
            have := h.t64
            have := h.tn
            split <;> omega
        · (refine Lg2 rfl rfl rfl (X_not rfl) ?_; refine Ls (X_pickF (v := .bool _) rfl rfl) ?_; refine L_nil ?_; refine tn ?_; refine W_condF rfl ?_; refine W_skip ?_; refine tn ?_; refine W_seq ?_; refine W_region ?_; refine Ls (X_fld rfl) ?_; refine Ls (X_ld (cs := shC R C B T) rfl C2 rfl) ?_; refine Ls (X_fld rfl) ?_; refine Ls (X_ld (cs := shC R C B T) rfl C2 rfl) ?_; refine Ls (X_muli rfl rfl ⟨by omega, by omega⟩) ?_; refine Ls (X_assign (v := .int _ _) rfl) ?_; refine L_nil ?_; refine tn ?_; refine W_seq ?_; refine W_region ?_; refine Ls (X_move (v := .int _ _) rfl) ?_; refine Ls (X_leqT rfl rfl (by omega)) ?_; refine Ls (X_move (v := .bool _) rfl) ?_; refine Lg2 rfl rfl rfl (X_fld rfl) ?_; refine Lg2 rfl rfl rfl (X_ld (cs := shC R C B T) rfl C2 rfl) ?_; refine Lg2 rfl rfl rfl (X_leqF rfl rfl (by omega)) ?_; refine Ls (X_pickT (v := .bool _) rfl rfl) ?_; refine Ls (X_move (v := .bool _) rfl) ?_; refine Lo2 rfl rfl rfl rfl ?_; refine Lo2 rfl rfl rfl rfl ?_; refine Lo2 rfl rfl rfl rfl ?_; refine Lo2 rfl rfl rfl rfl ?_; refine Lo2 rfl rfl rfl rfl ?_; refine Ls (X_pickF (v := .bool _) rfl rfl) ?_; refine Ls (X_assign (v := .bool _) rfl) ?_; refine L_nil ?_; refine tn ?_; refine W_ret ?_)
          exact endQ_ret1 rfl rfl (v := .bool _) rfl ⟨false, rfl, ⟨(fun h => by cases h), fun h => (h8 h.t1).elim⟩, E15⟩
      · (refine Lg2 rfl rfl rfl (X_not rfl) ?_; refine Ls (X_pickF (v := .bool _) rfl rfl) ?_; refine L_nil ?_; refine tn ?_; refine W_condF rfl ?_; refine W_skip ?_; refine tn ?_; refine W_seq ?_; refine W_region ?_; refine Ls (X_fld rfl) ?_; refine Ls (X_ld (cs := shC R C B T) rfl C2 rfl) ?_; refine Ls (X_fld rfl) ?_; refine Ls (X_ld (cs := shC R C B T) rfl C2 rfl) ?_; refine Ls (X_muli rfl rfl ⟨by omega, by omega⟩) ?_; refine Ls (X_assign (v := .int _ _) rfl) ?_; refine L_nil ?_; refine tn ?_; refine W_seq ?_; refine W_region ?_; refine Ls (X_move (v := .int _ _) rfl) ?_; refine Ls (X_leqF rfl rfl (by omega)) ?_; refine Ls (X_move (v := .bool _) rfl) ?_; refine Lo2 rfl rfl rfl rfl ?_; refine Lo2 rfl rfl rfl rfl ?_; refine Lo2 rfl rfl rfl rfl ?_; refine Ls (X_pickF (v := .bool _) rfl rfl) ?_; refine Ls (X_move (v := .bool _) rfl) ?_; refine Lo2 rfl rfl rfl rfl ?_; refine Lo2 rfl rfl rfl rfl ?_; refine Lo2 rfl rfl rfl rfl ?_; refine Lo2 rfl rfl rfl rfl ?_; refine Lo2 rfl rfl rfl rfl ?_; refine Ls (X_pickF (v := .bool _) rfl rfl) ?_; refine Ls (X_assign (v := .bool _) rfl) ?_; refine L_nil ?_; refine tn ?_; refine W_ret ?_)
        exact endQ_ret1 rfl rfl (v := .bool _) rfl ⟨false, rfl, ⟨(fun h => by cases h), fun h => (h7 h.n).elim⟩, E15⟩
    · rw [decide_eq_false h6]
      (refine Lg2 rfl rfl rfl (X_not rfl) ?_; refine Ls (X_pickF (v := .bool _) rfl rfl) ?_; refine L_nil ?_; refine tn ?_; refine W_condT rfl ?_; refine W_seq ?_; refine W_region ?_; refine Ls (X_assign (v := .bool _) rfl) ?_; refine L_nil ?_; refine tn ?_; refine W_ret ?_; refine tr ?_)
      exact endQ_ret1 rfl rfl (v := .bool _) rfl ⟨false, rfl, ⟨(fun h => by cases h), fun h => (h6 h.b).elim⟩, E15⟩
  · (refine Ls (X_assign (v := .int _ _) rfl) ?_; refine Ls (X_assign (v := .int _ _) rfl) ?_; refine L_nil ?_; refine tn ?_; refine W_seq ?_; refine W_seq ?_; refine W_region ?_; refine Ls (X_move (v := .int _ _) rfl) ?_; refine Ls (X_lssF rfl rfl (by omega)) ?_; refine Ls (X_move (v := .bool _) rfl) ?_; refine Lg2 rfl rfl rfl (X_move (v := .int _ _) rfl) ?_; refine Lg2 rfl rfl rfl (X_gtrF rfl rfl (by omega)) ?_; refine Ls (X_pickF (v := .bool _) rfl rfl) ?_; refine Ls (X_move (v := .bool _) rfl) ?_; refine Lg2 rfl rfl rfl (X_move (v := .int _ _) rfl) ?_; refine Lg2 rfl rfl rfl (X_lssF rfl rfl (by omega)) ?_; refine Ls (X_pickF (v := .bool _) rfl rfl) ?_; refine Ls (X_move (v := .bool _) rfl) ?_; refine Lg2 rfl rfl rfl (X_move (v := .int _ _) rfl) ?_; refine Lg2 rfl rfl rfl (X_lssF rfl rfl (by omega)) ?_; refine Ls (X_pickF (v := .bool _) rfl rfl) ?_; refine Ls (X_move (v := .bool _) rfl) ?_; refine Lg2 rfl rfl rfl (X_move (v := .int _ _) rfl) ?_; refine Lg2 rfl rfl rfl (X_move (v := .int _ _) rfl) ?_; refine Lg2 rfl rfl rfl (X_addi rfl rfl (by omega)) ?_; refine Lg2 rfl rfl rfl (X_move (v := .int _ _) rfl) ?_; refine Lg2 rfl rfl rfl (X_neqT rfl rfl (by omega)) ?_; refine Ls (X_pickF (v := .bool _) rfl rfl) ?_; refine Ls (X_move (v := .bool _) rfl) ?_; refine Lo2 rfl rfl rfl rfl ?_; refine Lo2 rfl rfl rfl rfl ?_; refine Lo2 rfl rfl rfl rfl ?_; refine Lo2 rfl rfl rfl rfl ?_; refine Lo2 rfl rfl rfl rfl ?_; refine Ls (X_pickT (v := .bool _) rfl rfl) ?_; refine L_nil ?_; refine tn ?_; refine W_condT rfl ?_; refine W_seq ?_; refine W_region ?_; refine Ls (X_assign (v := .bool _) rfl) ?_; refine L_nil ?_; refine tn ?_; refine W_ret ?_; refine tr ?_)
    exact endQ_ret1 rfl rfl (v := .bool _) rfl ⟨false, rfl, ⟨(fun h => by cases h), fun h => by have := h.s; omega⟩, E13⟩
end Go.Proofs.YtpohjepbmgeplaaGreatDoor

/- Commitments: the reference's shapes, default shapes. -/
namespace Go.Proofs.YtpohjepbmgeplaaGreatDoor
open Go.RowKit Go.Proofs.K
open _root_.Fd (K E pw root)
open _root_.Cm (Sh)

end Go.Proofs.YtpohjepbmgeplaaGreatDoor

/- Commitments: whether all elements satisfy a condition, at the three types of elements (printed by gen_valid.py). -/
namespace Go.Proofs.YtpohjepbmgeplaaGreatDoor
open Go.RowKit Go.Proofs.K
open _root_.Fd (K E pw root)

/-- a condition on the elements of a row, by their places -/
def CondAt (P : Program) (fid : FuncId) (fc : Array Value) (vals : List Value) (Q : Nat → Bool) (w : World) : Prop :=
  ∀ (i : Nat) (x : Value) (w' : World), Ext w w' → vals[i]? = some x → Calls P fid (#[] ++ [x].toArray ++ fc) w' fun e w'' => e = .returned (.bool (Q i)) ∧ Ext w' w''
theorem CondAt.ext {P : Program} {fid : FuncId} {fc : Array Value} {vals : List Value} {Q : Nat → Bool} {w w' : World} (h : CondAt P fid fc vals Q w) (E : Ext w w') : CondAt P fid fc vals Q w' := fun i x w2 E2 hx => h i x w2 (E.trans E2) hx
theorem all_iff {m : Nat} {Q : Nat → Bool} {r : Int} (h : 0 ≤ r ↔ ∃ i, i < m ∧ Q i = false) : (!decide (0 ≤ r)) = decide (∀ i, i < m → Q i = true) := by
  rw [Bool.eq_iff_iff, Bool.not_eq_true', decide_eq_false_iff_not, decide_eq_true_eq, h]
  constructor
  · intro h i hi
    cases hq : Q i with
    | true => rfl
    | false => exact (h ⟨i, hi, hq⟩).elim
  · rintro h ⟨i, hi, hq⟩
    rw [h i hi] at hq; cases hq
set_option maxHeartbeats 1000000 in
theorem gidx_u (lo hi : Nat) (v : Value) (vals : List Value) (hl : vals.length ≤ 1000000) (w : World) (hr : Row w lo hi 1 v vals.length vals) (h1 : ∀ x ∈ vals, x.oneCell' = true) (Q : Nat → Bool) (fid : FuncId) [TFun Tryz.prog fid] (fc : Array Value) (hf : CondAt Tryz.prog fid fc vals (fun i => !Q i) w) :
    Calls Tryz.prog 184 #[v, .func (.func fid) #[] fc] w fun e w' => ∃ r : Int, e = .returned (.int .i64 r) ∧ (0 ≤ r ↔ ∃ i, i < vals.length ∧ Q i = false) ∧ Ext w w' := by
  obtain ⟨A, c, rfl⟩ : ∃ A c, v = .slice A vals.length c := by
    obtain ⟨_, A, c, rfl, _⟩ := hr
    exact ⟨A, c, rfl⟩
  refine calls_W Tryz.func184 rfl Tryz.ntmps184 rfl ?_
  (refine W_seq ?_; refine W_region ?_; refine Ls (X_assign (v := .int _ _) rfl) ?_; refine L_nil ?_; refine tn ?_; refine W_seq ?_; refine W_seq ?_; refine W_region ?_; refine Ls (X_move (v := .slice _ _ _) rfl) ?_; refine Ls (X_lenSlice rfl) ?_; refine Ls (X_move (v := .int _ _) rfl) ?_; refine L_nil ?_; refine tn ?_; refine W_block ?_)
  refine W_loop (fun q f w' => ∃ i, q = vals.length - i ∧ i ≤ vals.length ∧ (∀ j, j < i → Q j = true) ∧ f 0 = .slice A vals.length c ∧ f 1 = .func (.func fid) #[] fc ∧ f 7 = .int .i64 (vals.length : Nat) ∧ f 8 = .int .i64 (i : Nat) ∧ Ext w w') vals.length ?_ ?_
  · exact ⟨0, rfl, by omega, fun _ h => by omega, rfl, rfl, rfl, rfl, Ext.refl _⟩
  · rintro q f wr ⟨i, hq, hil, hall, f0, f1, f7, f8, hE⟩
    rw [fold f0, fold f1, fold f7, fold f8]
    (refine W_seq ?_; refine W_region ?_; refine Ls (X_lss rfl rfl) ?_; refine L_nil ?_; refine tn ?_; refine W_seq ?_)
    refine W_condp rfl (fun h => ?_) (fun h => ?_)
    · have hlt : i < vals.length := by omega
      obtain ⟨x, hx⟩ : ∃ x, vals[i]? = some x := ⟨_, List.getElem?_eq_getElem hlt⟩
      obtain ⟨b0, o0, c0, hA, _, _, _, hc0⟩ := hr.at hlt
      cases hA
      (refine W_skip ?_; refine tn ?_; refine W_seq ?_; refine W_block ?_; refine W_seq ?_; refine W_region ?_; refine Ls (X_move (v := .int _ _) rfl) ?_; refine Ls (X_assign (v := .int _ _) rfl) ?_; refine L_nil ?_; refine tn ?_; refine W_seq ?_; refine W_region ?_; refine Ls (X_move (v := .func _ _ _) rfl) ?_; refine Ls (X_move (v := .slice _ _ _) rfl) ?_; refine Ls (X_move (v := .int _ _) rfl) ?_; refine Ls (X_indexSn rfl rfl (by omega)) ?_; refine Ls (X_ldR rfl (hE.range hc0) (j := i) (by omega) hx) ?_)
      refine L_clo (vl := [x]) rfl (hf i _ wr hE hx) rfl ?_
      rintro e w2 ⟨rfl, E2⟩
      refine ⟨_, rfl, ?_⟩
      (refine L_nil ?_; refine tn ?_)
      refine W_cond (b := !Q i) rfl (fun h => ?_) (fun h => ?_)
      · have hQ : Q i = false := by simpa using h
        (refine W_seq ?_; refine W_region ?_; refine Ls (X_move (v := .int _ _) rfl) ?_; refine Ls (X_assign (v := .int _ _) rfl) ?_; refine L_nil ?_; refine tn ?_; refine W_ret ?_; refine br ?_; refine tr ?_; refine tr ?_; refine br ?_; refine tr ?_)
        exact endQ_ret1 rfl rfl (v := .int _ _) rfl ⟨_, rfl, ⟨fun _ => ⟨i, hlt, hQ⟩, fun _ => by omega⟩, hE.trans E2⟩
      · have hQ : Q i = true := by simpa using h
        (refine W_skip ?_; refine bn ?_; refine tn ?_; refine W_region ?_; refine Ls (X_addi rfl rfl (by omega)) ?_; refine Ls (X_move (v := .int _ _) rfl) ?_; refine L_nil ?_; refine tn ?_)
        refine ⟨vals.length - (i + 1), by omega, i + 1, rfl, by omega, fun j hj => ?_, rfl, rfl, rfl, rfl, hE.trans E2⟩
        rcases Nat.lt_or_ge j i with h | h
        · exact hall j h
        · obtain rfl : j = i := by omega
          exact hQ
    · (refine W_exit ?_; refine te ?_; refine te ?_; refine bx ?_; refine tn ?_; refine W_seq ?_; refine W_region ?_; refine Ls (X_assign (v := .int _ _) rfl) ?_; refine L_nil ?_; refine tn ?_; refine W_ret ?_)
      refine endQ_ret1 rfl rfl (v := .int _ _) rfl ⟨_, rfl, ⟨fun h => by omega, ?_⟩, hE⟩
      rintro ⟨j, hj, hQ⟩
      rw [hall j (by omega)] at hQ; cases hQ
theorem gcon_u (lo hi : Nat) (v : Value) (vals : List Value) (hl : vals.length ≤ 1000000) (w : World) (hr : Row w lo hi 1 v vals.length vals) (h1 : ∀ x ∈ vals, x.oneCell' = true) (Q : Nat → Bool) (fid : FuncId) [TFun Tryz.prog fid] (fc : Array Value) (hf : CondAt Tryz.prog fid fc vals (fun i => !Q i) w) :
    Calls Tryz.prog 145 #[v, .func (.func fid) #[] fc] w fun e w' => e = .returned (.bool (!decide (∀ i, i < vals.length → Q i = true))) ∧ Ext w w' := by
  have hv1 := row_cell1 hr
  refine calls_W Tryz.func145 rfl Tryz.ntmps145 rfl ?_
  (refine W_seq ?_; refine W_region ?_; refine Ls (X_assign (v := .bool _) rfl) ?_; refine L_nil ?_; refine tn ?_; refine W_seq ?_; refine W_region ?_; refine Ls (X_move (v := v) rfl) ?_; refine Ls (X_move (v := .func _ _ _) rfl) ?_)
  refine L_fo (F := fun u w' => ∃ r : Int, u = .int .i64 r ∧ (0 ≤ r ↔ ∃ i, i < vals.length ∧ Q i = false) ∧ Ext w w') rfl ((gidx_u lo hi v vals hl w hr h1 Q fid fc hf).mono fun e w' ⟨r, h1, h2, h3⟩ => ⟨_, h1, r, rfl, h2, h3⟩) ?_
  rintro _ w1 ⟨r, rfl, hr', E1⟩
  (refine Ls (X_geq rfl rfl) ?_; refine Ls (X_assign (v := .bool _) rfl) ?_; refine L_nil ?_; refine tn ?_; refine W_ret ?_)
  refine endQ_ret1 rfl rfl (v := .bool _) rfl ⟨?_, E1⟩
  rw [← all_iff hr', Bool.not_not]
theorem gvclo_u (b : Nat) (fid : FuncId) [TFun Tryz.prog fid] (fc : Array Value) (vals : List Value) (h1 : ∀ x ∈ vals, x.oneCell' = true) (Q : Nat → Bool) (w : World) (hB : Blk w b 144 [.func (.func fid) #[] fc]) (hf : CondAt Tryz.prog fid fc vals Q w) : CondAt Tryz.prog 146 #[.pointer (some ⟨b, 0, none⟩)] vals (fun i => !Q i) w := by
  intro i x w1 E1 hx
  have hx1 := h1 x (List.mem_of_getElem? hx)
  refine calls_W Tryz.func146 rfl Tryz.ntmps146 rfl ?_
  (refine W_seq ?_; refine W_region ?_; refine Ls (X_assign (v := .bool _) rfl) ?_; refine L_nil ?_; refine tn ?_; refine W_seq ?_; refine W_region ?_; refine Ls (X_ld rfl (hB.ext E1) rfl) ?_; refine Ls (X_move (v := x) rfl) ?_)
  refine L_clo (vl := [x]) rfl (hf i x w1 E1 hx) rfl ?_
  rintro e w2 ⟨rfl, E2⟩
  refine ⟨_, rfl, ?_⟩
  (refine Ls (X_not rfl) ?_; refine Ls (X_assign (v := .bool _) rfl) ?_; refine L_nil ?_; refine tn ?_; refine W_ret ?_)
  exact endQ_ret1 rfl rfl (v := .bool _) rfl ⟨rfl, E2⟩
theorem gval_u (lo hi : Nat) (v : Value) (vals : List Value) (hl : vals.length ≤ 1000000) (w : World) (hr : Row w lo hi 1 v vals.length vals) (h1 : ∀ x ∈ vals, x.oneCell' = true) (Q : Nat → Bool) (fid : FuncId) [TFun Tryz.prog fid] (fc : Array Value) (hf : CondAt Tryz.prog fid fc vals Q w) :
    Calls Tryz.prog 100 #[v, .func (.func fid) #[] fc] w fun e w' => e = .returned (.bool (decide (∀ i, i < vals.length → Q i = true))) ∧ Ext w w' := by
  have hv1 := row_cell1 hr
  refine calls_W Tryz.func100 rfl Tryz.ntmps100 rfl ?_
  (refine W_seq ?_; refine W_region ?_)
  refine L_box1 (v := .func (.func fid) #[] fc) rfl rfl ?_
  intro g3 w1 B3 hg3 E1 hs1
  (refine Ls (X_assign (v := .bool _) rfl) ?_; refine L_nil ?_; refine tn ?_; refine W_seq ?_; refine W_region ?_; refine Ls (X_move (v := v) rfl) ?_)
  refine Ls (X_mkFunc (vf := []) (vc := [.pointer (some ⟨g3, 0, none⟩)]) rfl rfl) ?_
  skip
  refine L_fv rfl (gcon_u lo hi v vals hl w1 (hr.ext E1) h1 Q 146 #[.pointer (some ⟨g3, 0, none⟩)] (gvclo_u g3 fid fc vals h1 Q w1 B3 (hf.ext E1))) ?_
  intro w2 E2
  (refine Ls (X_not rfl) ?_; refine Ls (X_assign (v := .bool _) rfl) ?_; refine L_nil ?_; refine tn ?_; refine W_ret ?_)
  refine endQ_ret1 rfl rfl (v := .bool _) rfl ⟨?_, E1.trans E2⟩
  rw [Bool.not_not]
set_option maxHeartbeats 1000000 in
theorem gidx_l (lo hi : Nat) (v : Value) (vals : List Value) (hl : vals.length ≤ 1000000) (w : World) (hr : Row w lo hi 1 v vals.length vals) (h1 : ∀ x ∈ vals, x.oneCell' = true) (Q : Nat → Bool) (fid : FuncId) [TFun Tryz.prog fid] (fc : Array Value) (hf : CondAt Tryz.prog fid fc vals (fun i => !Q i) w) :
    Calls Tryz.prog 194 #[v, .func (.func fid) #[] fc] w fun e w' => ∃ r : Int, e = .returned (.int .i64 r) ∧ (0 ≤ r ↔ ∃ i, i < vals.length ∧ Q i = false) ∧ Ext w w' := by
  obtain ⟨A, c, rfl⟩ : ∃ A c, v = .slice A vals.length c := by
    obtain ⟨_, A, c, rfl, _⟩ := hr
    exact ⟨A, c, rfl⟩
  refine calls_W Tryz.func194 rfl Tryz.ntmps194 rfl ?_
  (refine W_seq ?_; refine W_region ?_; refine Ls (X_assign (v := .int _ _) rfl) ?_; refine L_nil ?_; refine tn ?_; refine W_seq ?_; refine W_seq ?_; refine W_region ?_; refine Ls (X_move (v := .slice _ _ _) rfl) ?_; refine Ls (X_lenSlice rfl) ?_; refine Ls (X_move (v := .int _ _) rfl) ?_; refine L_nil ?_; refine tn ?_; refine W_block ?_)
  refine W_loop (fun q f w' => ∃ i, q = vals.length - i ∧ i ≤ vals.length ∧ (∀ j, j < i → Q j = true) ∧ f 0 = .slice A vals.length c ∧ f 1 = .func (.func fid) #[] fc ∧ f 7 = .int .i64 (vals.length : Nat) ∧ f 8 = .int .i64 (i : Nat) ∧ Ext w w') vals.length ?_ ?_
  · exact ⟨0, rfl, by omega, fun _ h => by omega, rfl, rfl, rfl, rfl, Ext.refl _⟩
  · rintro q f wr ⟨i, hq, hil, hall, f0, f1, f7, f8, hE⟩
    rw [fold f0, fold f1, fold f7, fold f8]
    (refine W_seq ?_; refine W_region ?_; refine Ls (X_lss rfl rfl) ?_; refine L_nil ?_; refine tn ?_; refine W_seq ?_)
    refine W_condp rfl (fun h => ?_) (fun h => ?_)
    · have hlt : i < vals.length := by omega
      obtain ⟨x, hx⟩ : ∃ x, vals[i]? = some x := ⟨_, List.getElem?_eq_getElem hlt⟩
      obtain ⟨b0, o0, c0, hA, _, _, _, hc0⟩ := hr.at hlt
      cases hA
      (refine W_skip ?_; refine tn ?_; refine W_seq ?_; refine W_block ?_; refine W_seq ?_; refine W_region ?_; refine Ls (X_move (v := .int _ _) rfl) ?_; refine Ls (X_assign (v := .int _ _) rfl) ?_; refine L_nil ?_; refine tn ?_; refine W_seq ?_; refine W_region ?_; refine Ls (X_move (v := .func _ _ _) rfl) ?_; refine Ls (X_move (v := .slice _ _ _) rfl) ?_; refine Ls (X_move (v := .int _ _) rfl) ?_; refine Ls (X_indexSn rfl rfl (by omega)) ?_; refine Ls (X_ldR rfl (hE.range hc0) (j := i) (by omega) hx) ?_)
      refine L_clo (vl := [x]) rfl (hf i _ wr hE hx) rfl ?_
      rintro e w2 ⟨rfl, E2⟩
      refine ⟨_, rfl, ?_⟩
      (refine L_nil ?_; refine tn ?_)
      refine W_cond (b := !Q i) rfl (fun h => ?_) (fun h => ?_)
      · have hQ : Q i = false := by simpa using h
        (refine W_seq ?_; refine W_region ?_; refine Ls (X_move (v := .int _ _) rfl) ?_; refine Ls (X_assign (v := .int _ _) rfl) ?_; refine L_nil ?_; refine tn ?_; refine W_ret ?_; refine br ?_; refine tr ?_; refine tr ?_; refine br ?_; refine tr ?_)
        exact endQ_ret1 rfl rfl (v := .int _ _) rfl ⟨_, rfl, ⟨fun _ => ⟨i, hlt, hQ⟩, fun _ => by omega⟩, hE.trans E2⟩
      · have hQ : Q i = true := by simpa using h
        (refine W_skip ?_; refine bn ?_; refine tn ?_; refine W_region ?_; refine Ls (X_addi rfl rfl (by omega)) ?_; refine Ls (X_move (v := .int _ _) rfl) ?_; refine L_nil ?_; refine tn ?_)
        refine ⟨vals.length - (i + 1), by omega, i + 1, rfl, by omega, fun j hj => ?_, rfl, rfl, rfl, rfl, hE.trans E2⟩
        rcases Nat.lt_or_ge j i with h | h
        · exact hall j h
        · obtain rfl : j = i := by omega
          exact hQ
    · (refine W_exit ?_; refine te ?_; refine te ?_; refine bx ?_; refine tn ?_; refine W_seq ?_; refine W_region ?_; refine Ls (X_assign (v := .int _ _) rfl) ?_; refine L_nil ?_; refine tn ?_; refine W_ret ?_)
      refine endQ_ret1 rfl rfl (v := .int _ _) rfl ⟨_, rfl, ⟨fun h => by omega, ?_⟩, hE⟩
      rintro ⟨j, hj, hQ⟩
      rw [hall j (by omega)] at hQ; cases hQ
theorem gcon_l (lo hi : Nat) (v : Value) (vals : List Value) (hl : vals.length ≤ 1000000) (w : World) (hr : Row w lo hi 1 v vals.length vals) (h1 : ∀ x ∈ vals, x.oneCell' = true) (Q : Nat → Bool) (fid : FuncId) [TFun Tryz.prog fid] (fc : Array Value) (hf : CondAt Tryz.prog fid fc vals (fun i => !Q i) w) :
    Calls Tryz.prog 174 #[v, .func (.func fid) #[] fc] w fun e w' => e = .returned (.bool (!decide (∀ i, i < vals.length → Q i = true))) ∧ Ext w w' := by
  have hv1 := row_cell1 hr
  refine calls_W Tryz.func174 rfl Tryz.ntmps174 rfl ?_
  (refine W_seq ?_; refine W_region ?_; refine Ls (X_assign (v := .bool _) rfl) ?_; refine L_nil ?_; refine tn ?_; refine W_seq ?_; refine W_region ?_; refine Ls (X_move (v := v) rfl) ?_; refine Ls (X_move (v := .func _ _ _) rfl) ?_)
  refine L_fo (F := fun u w' => ∃ r : Int, u = .int .i64 r ∧ (0 ≤ r ↔ ∃ i, i < vals.length ∧ Q i = false) ∧ Ext w w') rfl ((gidx_l lo hi v vals hl w hr h1 Q fid fc hf).mono fun e w' ⟨r, h1, h2, h3⟩ => ⟨_, h1, r, rfl, h2, h3⟩) ?_
  rintro _ w1 ⟨r, rfl, hr', E1⟩
  (refine Ls (X_geq rfl rfl) ?_; refine Ls (X_assign (v := .bool _) rfl) ?_; refine L_nil ?_; refine tn ?_; refine W_ret ?_)
  refine endQ_ret1 rfl rfl (v := .bool _) rfl ⟨?_, E1⟩
  rw [← all_iff hr', Bool.not_not]
theorem gvclo_l (b : Nat) (fid : FuncId) [TFun Tryz.prog fid] (fc : Array Value) (vals : List Value) (h1 : ∀ x ∈ vals, x.oneCell' = true) (Q : Nat → Bool) (w : World) (hB : Blk w b 100 [.func (.func fid) #[] fc]) (hf : CondAt Tryz.prog fid fc vals Q w) : CondAt Tryz.prog 175 #[.pointer (some ⟨b, 0, none⟩)] vals (fun i => !Q i) w := by
  intro i x w1 E1 hx
  have hx1 := h1 x (List.mem_of_getElem? hx)
  refine calls_W Tryz.func175 rfl Tryz.ntmps175 rfl ?_
  (refine W_seq ?_; refine W_region ?_; refine Ls (X_assign (v := .bool _) rfl) ?_; refine L_nil ?_; refine tn ?_; refine W_seq ?_; refine W_region ?_; refine Ls (X_ld rfl (hB.ext E1) rfl) ?_; refine Ls (X_move (v := x) rfl) ?_)
  refine L_clo (vl := [x]) rfl (hf i x w1 E1 hx) rfl ?_
  rintro e w2 ⟨rfl, E2⟩
  refine ⟨_, rfl, ?_⟩
  (refine Ls (X_not rfl) ?_; refine Ls (X_assign (v := .bool _) rfl) ?_; refine L_nil ?_; refine tn ?_; refine W_ret ?_)
  exact endQ_ret1 rfl rfl (v := .bool _) rfl ⟨rfl, E2⟩
theorem gval_l (lo hi : Nat) (v : Value) (vals : List Value) (hl : vals.length ≤ 1000000) (w : World) (hr : Row w lo hi 1 v vals.length vals) (h1 : ∀ x ∈ vals, x.oneCell' = true) (Q : Nat → Bool) (fid : FuncId) [TFun Tryz.prog fid] (fc : Array Value) (hf : CondAt Tryz.prog fid fc vals Q w) :
    Calls Tryz.prog 129 #[v, .func (.func fid) #[] fc] w fun e w' => e = .returned (.bool (decide (∀ i, i < vals.length → Q i = true))) ∧ Ext w w' := by
  have hv1 := row_cell1 hr
  refine calls_W Tryz.func129 rfl Tryz.ntmps129 rfl ?_
  (refine W_seq ?_; refine W_region ?_)
  refine L_box1 (v := .func (.func fid) #[] fc) rfl rfl ?_
  intro g3 w1 B3 hg3 E1 hs1
  (refine Ls (X_assign (v := .bool _) rfl) ?_; refine L_nil ?_; refine tn ?_; refine W_seq ?_; refine W_region ?_; refine Ls (X_move (v := v) rfl) ?_)
  refine Ls (X_mkFunc (vf := []) (vc := [.pointer (some ⟨g3, 0, none⟩)]) rfl rfl) ?_
  skip
  refine L_fv rfl (gcon_l lo hi v vals hl w1 (hr.ext E1) h1 Q 175 #[.pointer (some ⟨g3, 0, none⟩)] (gvclo_l g3 fid fc vals h1 Q w1 B3 (hf.ext E1))) ?_
  intro w2 E2
  (refine Ls (X_not rfl) ?_; refine Ls (X_assign (v := .bool _) rfl) ?_; refine L_nil ?_; refine tn ?_; refine W_ret ?_)
  refine endQ_ret1 rfl rfl (v := .bool _) rfl ⟨?_, E1.trans E2⟩
  rw [Bool.not_not]
set_option maxHeartbeats 1000000 in
theorem gidx_e (lo hi : Nat) (v : Value) (l : List (Nat × Nat)) (vals : List Value) (hvals : vals = l.map fun p => Value.agg (exC p.1 p.2).toArray) (hl : vals.length ≤ 1000000) (w : World) (hr : Row w lo hi 2 v vals.length (exs l)) (Q : Nat → Bool) (fid : FuncId) [TFun Tryz.prog fid] (fc : Array Value) (hf : CondAt Tryz.prog fid fc vals (fun i => !Q i) w) :
    Calls Tryz.prog 191 #[v, .func (.func fid) #[] fc] w fun e w' => ∃ r : Int, e = .returned (.int .i64 r) ∧ (0 ≤ r ↔ ∃ i, i < vals.length ∧ Q i = false) ∧ Ext w w' := by
  obtain ⟨A, c, rfl⟩ : ∃ A c, v = .slice A vals.length c := by
    obtain ⟨_, A, c, rfl, _⟩ := hr
    exact ⟨A, c, rfl⟩
  refine calls_W Tryz.func191 rfl Tryz.ntmps191 rfl ?_
  (refine W_seq ?_; refine W_region ?_; refine Ls (X_assign (v := .int _ _) rfl) ?_; refine L_nil ?_; refine tn ?_; refine W_seq ?_; refine W_seq ?_; refine W_region ?_; refine Ls (X_move (v := .slice _ _ _) rfl) ?_; refine Ls (X_lenSlice rfl) ?_; refine Ls (X_move (v := .int _ _) rfl) ?_; refine L_nil ?_; refine tn ?_; refine W_block ?_)
  refine W_loop (fun q f w' => ∃ i, q = vals.length - i ∧ i ≤ vals.length ∧ (∀ j, j < i → Q j = true) ∧ f 0 = .slice A vals.length c ∧ f 1 = .func (.func fid) #[] fc ∧ f 7 = .int .i64 (vals.length : Nat) ∧ f 8 = .int .i64 (i : Nat) ∧ Ext w w') vals.length ?_ ?_
  · exact ⟨0, rfl, by omega, fun _ h => by omega, rfl, rfl, rfl, rfl, Ext.refl _⟩
  · rintro q f wr ⟨i, hq, hil, hall, f0, f1, f7, f8, hE⟩
    rw [fold f0, fold f1, fold f7, fold f8]
    (refine W_seq ?_; refine W_region ?_; refine Ls (X_lss rfl rfl) ?_; refine L_nil ?_; refine tn ?_; refine W_seq ?_)
    refine W_condp rfl (fun h => ?_) (fun h => ?_)
    · have hlt : i < vals.length := by omega
      obtain ⟨x, hx⟩ : ∃ x, vals[i]? = some x := ⟨_, List.getElem?_eq_getElem hlt⟩
      have hr3 := hr.ext hE
      have hvl : vals.length = l.length := by rw [hvals, List.length_map]
      obtain ⟨p, hp⟩ : ∃ p, l[i]? = some p := ⟨_, List.getElem?_eq_getElem (by omega)⟩
      obtain rfl : x = .agg (exC p.1 p.2).toArray := by
        rw [hvals, List.getElem?_map, hp] at hx
        exact (Option.some.inj hx).symm
      have hr4 : Row wr lo hi 2 (.slice A vals.length c) l.length (exs l) := hvl ▸ hr3
      obtain ⟨b0, o0, hA, _, _, _, _, _, hR⟩ := ex_at hr4 hp
      cases hA
      (refine W_skip ?_; refine tn ?_; refine W_seq ?_; refine W_block ?_; refine W_seq ?_; refine W_region ?_; refine Ls (X_move (v := .int _ _) rfl) ?_; refine Ls (X_assign (v := .int _ _) rfl) ?_; refine L_nil ?_; refine tn ?_; refine W_seq ?_; refine W_region ?_; refine Ls (X_move (v := .func _ _ _) rfl) ?_; refine Ls (X_move (v := .slice _ _ _) rfl) ?_; refine Ls (X_move (v := .int _ _) rfl) ?_; refine Ls (X_indexSn rfl rfl (by omega)) ?_; refine Ls (X_loadA (size := 2) (cs := exC p.1 p.2) rfl hR rfl) ?_)
      refine L_clo (vl := [.agg (exC p.1 p.2).toArray]) rfl (hf i _ wr hE hx) rfl ?_
      rintro e w2 ⟨rfl, E2⟩
      refine ⟨_, rfl, ?_⟩
      (refine L_nil ?_; refine tn ?_)
      refine W_cond (b := !Q i) rfl (fun h => ?_) (fun h => ?_)
      · have hQ : Q i = false := by simpa using h
        (refine W_seq ?_; refine W_region ?_; refine Ls (X_move (v := .int _ _) rfl) ?_; refine Ls (X_assign (v := .int _ _) rfl) ?_; refine L_nil ?_; refine tn ?_; refine W_ret ?_; refine br ?_; refine tr ?_; refine tr ?_; refine br ?_; refine tr ?_)
        exact endQ_ret1 rfl rfl (v := .int _ _) rfl ⟨_, rfl, ⟨fun _ => ⟨i, hlt, hQ⟩, fun _ => by omega⟩, hE.trans E2⟩
      · have hQ : Q i = true := by simpa using h
        (refine W_skip ?_; refine bn ?_; refine tn ?_; refine W_region ?_; refine Ls (X_addi rfl rfl (by omega)) ?_; refine Ls (X_move (v := .int _ _) rfl) ?_; refine L_nil ?_; refine tn ?_)
        refine ⟨vals.length - (i + 1), by omega, i + 1, rfl, by omega, fun j hj => ?_, rfl, rfl, rfl, rfl, hE.trans E2⟩
        rcases Nat.lt_or_ge j i with h | h
        · exact hall j h
        · obtain rfl : j = i := by omega
          exact hQ
    · (refine W_exit ?_; refine te ?_; refine te ?_; refine bx ?_; refine tn ?_; refine W_seq ?_; refine W_region ?_; refine Ls (X_assign (v := .int _ _) rfl) ?_; refine L_nil ?_; refine tn ?_; refine W_ret ?_)
      refine endQ_ret1 rfl rfl (v := .int _ _) rfl ⟨_, rfl, ⟨fun h => by omega, ?_⟩, hE⟩
      rintro ⟨j, hj, hQ⟩
      rw [hall j (by omega)] at hQ; cases hQ
theorem gcon_e (lo hi : Nat) (v : Value) (l : List (Nat × Nat)) (vals : List Value) (hvals : vals = l.map fun p => Value.agg (exC p.1 p.2).toArray) (hl : vals.length ≤ 1000000) (w : World) (hr : Row w lo hi 2 v vals.length (exs l)) (Q : Nat → Bool) (fid : FuncId) [TFun Tryz.prog fid] (fc : Array Value) (hf : CondAt Tryz.prog fid fc vals (fun i => !Q i) w) :
    Calls Tryz.prog 161 #[v, .func (.func fid) #[] fc] w fun e w' => e = .returned (.bool (!decide (∀ i, i < vals.length → Q i = true))) ∧ Ext w w' := by
  have hv1 := row_cell1 hr
  refine calls_W Tryz.func161 rfl Tryz.ntmps161 rfl ?_
  (refine W_seq ?_; refine W_region ?_; refine Ls (X_assign (v := .bool _) rfl) ?_; refine L_nil ?_; refine tn ?_; refine W_seq ?_; refine W_region ?_; refine Ls (X_move (v := v) rfl) ?_; refine Ls (X_move (v := .func _ _ _) rfl) ?_)
  refine L_fo (F := fun u w' => ∃ r : Int, u = .int .i64 r ∧ (0 ≤ r ↔ ∃ i, i < vals.length ∧ Q i = false) ∧ Ext w w') rfl ((gidx_e lo hi v l vals hvals hl w hr Q fid fc hf).mono fun e w' ⟨r, h1, h2, h3⟩ => ⟨_, h1, r, rfl, h2, h3⟩) ?_
  rintro _ w1 ⟨r, rfl, hr', E1⟩
  (refine Ls (X_geq rfl rfl) ?_; refine Ls (X_assign (v := .bool _) rfl) ?_; refine L_nil ?_; refine tn ?_; refine W_ret ?_)
  refine endQ_ret1 rfl rfl (v := .bool _) rfl ⟨?_, E1⟩
  rw [← all_iff hr', Bool.not_not]
theorem gvclo_e (b : Nat) (fid : FuncId) [TFun Tryz.prog fid] (fc : Array Value) (vals : List Value) (l : List (Nat × Nat)) (hvals : vals = l.map fun p => Value.agg (exC p.1 p.2).toArray) (Q : Nat → Bool) (w : World) (hB : Blk w b 86 [.func (.func fid) #[] fc]) (hf : CondAt Tryz.prog fid fc vals Q w) : CondAt Tryz.prog 162 #[.pointer (some ⟨b, 0, none⟩)] vals (fun i => !Q i) w := by
  intro i x w1 E1 hx
  obtain ⟨p, hp⟩ : ∃ p : Nat × Nat, x = .agg (exC p.1 p.2).toArray := by
    rw [hvals, List.getElem?_map] at hx
    cases h : l[i]? with
    | none => rw [h] at hx; cases hx
    | some p => rw [h] at hx; exact ⟨p, (Option.some.inj hx).symm⟩
  refine calls_W Tryz.func162 rfl Tryz.ntmps162 rfl ?_
  subst hp
  (refine W_seq ?_; refine W_region ?_)
  refine L_box rfl ?_
  intro g2 w0 B2 hg2 E0 hs0
  (refine Ls (X_assign (v := .bool _) rfl) ?_; refine L_nil ?_; refine tn ?_; refine W_seq ?_; refine W_region ?_; refine Ls (X_ld rfl ((hB.ext E1).ext E0) rfl) ?_; refine Ls (X_ldW rfl B2 rfl) ?_)
  refine L_clo (vl := [.agg (exC p.1 p.2).toArray]) rfl (hf i _ w0 (E1.trans E0) hx) rfl ?_
  rintro e w2 ⟨rfl, E2'⟩
  have E2 := E0.trans E2'
  refine ⟨_, rfl, ?_⟩
  (refine Ls (X_not rfl) ?_; refine Ls (X_assign (v := .bool _) rfl) ?_; refine L_nil ?_; refine tn ?_; refine W_ret ?_)
  exact endQ_ret1 rfl rfl (v := .bool _) rfl ⟨rfl, E2⟩
theorem gval_e (lo hi : Nat) (v : Value) (l : List (Nat × Nat)) (vals : List Value) (hvals : vals = l.map fun p => Value.agg (exC p.1 p.2).toArray) (hl : vals.length ≤ 1000000) (w : World) (hr : Row w lo hi 2 v vals.length (exs l)) (Q : Nat → Bool) (fid : FuncId) [TFun Tryz.prog fid] (fc : Array Value) (hf : CondAt Tryz.prog fid fc vals Q w) :
    Calls Tryz.prog 114 #[v, .func (.func fid) #[] fc] w fun e w' => e = .returned (.bool (decide (∀ i, i < vals.length → Q i = true))) ∧ Ext w w' := by
  have hv1 := row_cell1 hr
  refine calls_W Tryz.func114 rfl Tryz.ntmps114 rfl ?_
  (refine W_seq ?_; refine W_region ?_)
  refine L_box1 (v := .func (.func fid) #[] fc) rfl rfl ?_
  intro g3 w1 B3 hg3 E1 hs1
  (refine Ls (X_assign (v := .bool _) rfl) ?_; refine L_nil ?_; refine tn ?_; refine W_seq ?_; refine W_region ?_; refine Ls (X_move (v := v) rfl) ?_)
  refine Ls (X_mkFunc (vf := []) (vc := [.pointer (some ⟨g3, 0, none⟩)]) rfl rfl) ?_
  skip
  refine L_fv rfl (gcon_e lo hi v l vals hvals hl w1 (hr.ext E1) Q 162 #[.pointer (some ⟨g3, 0, none⟩)] (gvclo_e g3 fid fc vals l hvals Q w1 B3 (hf.ext E1))) ?_
  intro w2 E2
  (refine Ls (X_not rfl) ?_; refine Ls (X_assign (v := .bool _) rfl) ?_; refine L_nil ?_; refine tn ?_; refine W_ret ?_)
  refine endQ_ret1 rfl rfl (v := .bool _) rfl ⟨?_, E1.trans E2⟩
  rw [Bool.not_not]
end Go.Proofs.YtpohjepbmgeplaaGreatDoor

/- Commitments: the rows of a table. -/
namespace Go.Proofs.YtpohjepbmgeplaaGreatDoor
open Go.RowKit Go.Proofs.K
open _root_.Fd (K E pw root trow)

/-- what slices.Chunk yields -/
def chk (b o C i : Nat) : Value := .slice (some ⟨b, o + i * C * 1, none⟩) C C
def PreCk (b o R C : Nat) (i : Nat) (vs : List Value) (_ : World) : Prop := i < R ∧ vs = [chk b o C i]
set_option maxRecDepth 100000 in
set_option maxHeartbeats 2000000 in
theorem gchunk (S : Nat → Prop) (g1 g2 b o n c R C : Nat) (hC : 1 ≤ C) (hn : n = R * C) (hnc : n ≤ c) (hn6 : n ≤ 1000000) (w : World) (hB1 : Blk w g1 22 [.slice (some ⟨b, o, none⟩) n c]) (hB2 : Blk w g2 3 [.int .i64 (C : Nat)]) (h1 : ¬ S g1) (h2 : ¬ S g2) :
    IterS Tryz.prog 148 #[.pointer (some ⟨g1, 0, none⟩), .pointer (some ⟨g2, 0, none⟩)] w S (PreCk b o R C) (fun i => i = R) := by
  intro lp J Jx w1 E1 hJ hJx hY h0
  refine calls_W Tryz.func148 rfl Tryz.ntmps148 rfl ?_
  (refine W_seq ?_; refine W_region ?_; refine Ls (X_assign (v := .int _ _) rfl) ?_; refine L_nil ?_; refine tn ?_; refine W_block ?_)
  refine W_loop (fun q f w' => ∃ i, q = R - i ∧ i ≤ R ∧ f 0 = yieldV lp ∧ f 1 = .pointer (some ⟨g1, 0, none⟩) ∧ f 2 = .pointer (some ⟨g2, 0, none⟩) ∧ f 4 = .int .i64 ((i * C : Nat) : Int) ∧ J i w' ∧ Blk w' g1 22 [.slice (some ⟨b, o, none⟩) n c] ∧ Blk w' g2 3 [.int .i64 (C : Nat)]) R ?_ ?_
  · exact ⟨0, rfl, by omega, rfl, rfl, rfl, by rw [Nat.zero_mul]; rfl, h0, hB1.ext E1, hB2.ext E1⟩
  · rintro q f wr ⟨i, hq, hi, f0, f1, f2, f4, hj, C1, C2⟩
    rw [fold f0, fold f1, fold f2, fold f4]
    (refine W_seq ?_; refine W_seq ?_; refine W_region ?_; refine Ls (X_move (v := .int _ _) rfl) ?_; refine Ls (X_ld rfl C1 rfl) ?_; refine Ls (X_lenSlice rfl) ?_; refine Ls (X_lss rfl rfl) ?_; refine L_nil ?_; refine tn ?_)
    refine W_condp rfl (fun h => ?_) (fun h => ?_)
    · have hiR : i < R := by
        have : i * C < R * C := by rw [← hn]; omega
        exact Nat.lt_of_mul_lt_mul_right this
      have hz : i * C + C ≤ n := by rw [hn, ← Nat.succ_mul]; exact Nat.mul_le_mul_right _ hiR
      have hsucc : (i + 1) * C = i * C + C := Nat.succ_mul i C
      have hck : chk b o C i = .slice (some ⟨b, o + i * C * 1, none⟩) C C := rfl
      have hYi := hY i [chk b o C i]
      rw [hck] at hYi
      generalize hzz : i * C = z at *
      (refine W_skip ?_; refine tn ?_; refine W_seq ?_; refine W_block ?_; refine W_seq ?_)
      apply W_dagE 7 (by kernel_rfl)
      (apply DW_x (fun r w hA hH => (X_ld rfl (C2.ext hA) rfl).trans rfl); apply DW_x (fun r w hA hH => (X_ld rfl (C1.ext hA) rfl).trans rfl); apply DW_x (fun r w hA hH => (X_move (v := .int _ _) rfl).trans rfl))
      ((with_reducible apply DW_x); (exact fun r w hA hH => (X_sliceAp (size := 1) z rfl rfl rfl (by omega) hnc (by omega)).trans rfl))
      (apply DW_x (fun r w hA hH => (X_lenSlice rfl).trans rfl); apply DW_x (fun r w hA hH => ((X_min rfl rfl).trans (by rw [if_neg (by omega)])).trans rfl); apply DW_x (fun r w hA hH => (X_assign (v := .int _ _) rfl).trans rfl))
      ((with_reducible exact D_end); (exact rfl); (repeat (first | exact .inr (.inr (fun _ _ => by with_reducible rfl)) | (refine And.intro ?_ ?_) | exact .inr (.inl rfl) | exact .inl (by decide +kernel) | exact trivial | exact .inr (.inr (fun _ _ => rfl)))); (try dsimp only [Nat.reduceAdd]))
      intro r w2 E2 _
      have D1 := C1.ext E2
      have D2 := C2.ext E2
      (refine L_nil ?_; refine tn ?_; refine W_seq ?_; refine W_region ?_; refine Ls (X_move (v := .func _ _ _) rfl) ?_; refine Ls (X_ld rfl D1 rfl) ?_; refine Ls (X_move (v := .int _ _) rfl) ?_; refine Ls (X_move (v := .int _ _) rfl) ?_; refine Ls (X_move (v := .int _ _) rfl) ?_; refine Ls (X_addi rfl rfl (by omega)) ?_; refine Ls (X_move (v := .int _ _) rfl) ?_; refine Ls (X_move (v := .int _ _) rfl) ?_; refine Ls (X_addi rfl rfl (by omega)) ?_)
      refine Ls (X_slice3p (size := 1) z C C (o + z * 1) rfl rfl rfl rfl rfl (by omega) (by omega) (Nat.le_refl _) (by omega) (by omega) rfl) ?_
      refine L_yield rfl rfl rfl (hYi w2 (hJ _ _ _ hj E2) ⟨hiR, by rw [hck]⟩) ?_
      rintro e w3 (⟨rfl, hj2, hk2⟩ | ⟨rfl, hjx⟩)
      · refine ⟨.bool true, rfl, ?_⟩
        have F1 := hk2.blk D1 h1
        have F2 := hk2.blk D2 h2
        (refine Ls (X_not rfl) ?_; refine L_nil ?_; refine tn ?_; refine W_condF rfl ?_; refine W_skip ?_; refine bn ?_; refine tn ?_; refine W_region ?_; refine Ls (X_move (v := .int _ _) rfl) ?_; refine Ls (X_ld rfl F2 rfl) ?_; refine Ls (X_addi rfl rfl (by omega)) ?_; refine Ls (X_assign (v := .int _ _) rfl) ?_; refine L_nil ?_; refine tn ?_)
        exact ⟨R - (i + 1), by omega, i + 1, rfl, by omega, rfl, rfl, rfl, by rw [hsucc]; rfl, hj2, F1, F2⟩
      · refine ⟨.bool false, rfl, ?_⟩
        (refine Ls (X_not rfl) ?_; refine L_nil ?_; refine tn ?_; refine W_condT rfl ?_; refine W_ret ?_; refine br ?_; refine tr ?_; refine tr ?_; refine br ?_)
        refine endQ_ret0 rfl rfl ?_
        exact ⟨⟨_, rfl⟩, .inr hjx⟩
    · have hiR : i = R := by
        have : ¬ i < R := fun hlt => by
          have : i * C < R * C := Nat.mul_lt_mul_of_pos_right hlt (by omega)
          rw [← hn] at this; omega
        omega
      (refine W_exit ?_; refine te ?_; refine te ?_; refine bx ?_)
      refine endQ_end0 rfl rfl ?_
      exact ⟨⟨_, rfl⟩, .inl ⟨_, hiR, hj⟩⟩
theorem gchunkMk (v : Value) (hv : v.oneCell' = true) (C : Nat) (hC : 1 ≤ C) (w : World) :
    Calls Tryz.prog 103 #[v, .int .i64 (C : Nat)] w fun e w' => ∃ q, e = .returned q ∧ ∃ g1 g2, q = .func (.func 148) #[] #[.pointer (some ⟨g1, 0, none⟩), .pointer (some ⟨g2, 0, none⟩)] ∧ Ext w w' ∧ Blk w' g1 22 [v] ∧ Blk w' g2 3 [.int .i64 (C : Nat)] := by
  refine calls_W Tryz.func103 rfl Tryz.ntmps103 rfl ?_
  (refine W_seq ?_; refine W_region ?_)
  refine L_box1 rfl hv ?_
  intro g1 w1 B1 hg1 E1 hs1
  refine L_box1 rfl rfl ?_
  intro g2 w2 B2 hg2 E2 hs2
  (refine Ls (X_assign (v := Value.nilFunc) rfl) ?_; refine L_nil ?_; refine tn ?_; refine W_seq ?_; refine W_seq ?_; refine W_region ?_; refine Ls (X_ld rfl B2 rfl) ?_; refine Ls (X_lssF rfl rfl (by omega)) ?_; refine L_nil ?_; refine tn ?_; refine W_condF rfl ?_; refine W_skip ?_; refine tn ?_; refine W_seq ?_; refine W_region ?_)
  refine Ls (X_mkFunc (vf := []) (vc := [.pointer (some ⟨g1, 0, none⟩), .pointer (some ⟨g2, 0, none⟩)]) rfl rfl) ?_
  (refine Ls (X_assign (v := .func _ _ _) rfl) ?_; refine L_nil ?_; refine tn ?_; refine W_ret ?_)
  refine endQ_ret1 rfl rfl (v := .func _ _ _) rfl ⟨_, rfl, g1, g2, rfl, E1.trans E2, B1.ext E2, B2⟩
set_option maxRecDepth 100000 in
set_option maxHeartbeats 2000000 in
theorem gappseq (gf : FuncId) (lb : Array Value) (he : Enters Tryz.prog gf) (xs : List Value) (h1 : ∀ x ∈ xs, x.oneCell' = true) (hl : xs.length ≤ 1000000) (w : World)
    (hit : ∀ w1, Ext w w1 → IterS Tryz.prog gf lb w1 (fun k => w.heap.size ≤ k) (fun i vs _ => ∃ x, xs[i]? = some x ∧ vs = [x]) (fun i => i = xs.length)) :
    Calls Tryz.prog 147 #[.slice none 0 0, .func (.func gf) #[] lb] w fun e w' => ∃ q, e = .returned q ∧ Ext w w' ∧ w'.ownsRow w.heap.size 22 1 q xs.length xs := by
  refine calls_T Tryz.func147 rfl Tryz.ntmps147 rfl ?_
  refine T_seq ?_
  (refine W_region ?_)
  refine L_box1 (v := .slice none 0 0) rfl rfl ?_
  intro g2 w1 B2 hg2 E1 hs1
  (refine Ls (X_assign (v := .slice _ _ _) rfl) ?_; refine L_nil ?_; refine tn ?_)
  refine T_seq2 ?_
  (refine W_region ?_; refine Ls (X_move (v := .func _ _ _) rfl) ?_; refine L_nil ?_; refine tn ?_)
  refine T_rangeM (ps := [7]) (fun k => w.heap.size ≤ k) rfl he (fun i vs a h => by obtain ⟨_, _, rfl⟩ := h; rfl) (hit w1 E1)
    (fun i y => ∃ v, Blk y g2 38 [v] ∧ y.ownsRow w.heap.size 22 1 v i (xs.take i) ∧ i ≤ xs.length) (fun _ => False)
    (fun i x y h C => by obtain ⟨v, h1, h2, h3⟩ := h; exact ⟨v, C.blk h1, C.own h2, h3⟩) (fun _ _ h _ => h) ⟨.slice none 0 0, B2, ⟨rfl, .inl ⟨rfl, rfl⟩⟩, by omega⟩
    (fun i vs a f' y => ∃ x, xs[i]? = some x ∧ y = a ∧ f' 2 = .pointer (some ⟨g2, 0, none⟩) ∧ f' 5 = x) (fun i vs a f' b h => by obtain ⟨_, _, rfl, _⟩ := h; exact Ext.refl _) (fun lp vs i y hi hM hp => ?_) (fun lp i vs a f' z y hi hM hp hga hac hbc => ?_) (fun D y hD hdn hM hbD => ?_)
  · obtain ⟨x, hx, rfl⟩ := hp
    (refine W_region ?_; refine Ls (X_assign (v := x) rfl) ?_; refine L_nil ?_)
    exact ⟨rfl, x, hx, rfl, rfl, rfl⟩
  · obtain ⟨v, I1, I2, I3⟩ := hi
    obtain ⟨x, hx, rfl, f2, f5⟩ := hga
    have hix : i < xs.length := (List.getElem?_eq_some_iff.1 hx).1
    have hx1 := h1 x (List.mem_of_getElem? hx)
    have hv1 := row_cell1 (Row.of_own I2)
    have hMs := hM.size
    rw [fold f2, fold f5]
    (refine W_block ?_; refine W_region ?_; refine Ls (X_ld rfl I1 rfl) ?_; refine Ls (X_move (v := x) rfl) ?_)
    refine L_lit1 (v := x) rfl hx1 ?_
    intro u w3 r3 E3 hs3 _
    refine L_append (v := v) (u := u) rfl rfl (own_ext I2 E3) r3 (fun q hq => by rw [List.mem_singleton.1 hq]; exact hx1) (by omega) (by omega) (by have := E3.size; have := E1.size; omega) ?_
    intro v4 w4 o4 hg4 _
    have hv4 := row_cell1 (Row.of_own o4)
    have G2 := (I1.ext E3).grown hg4 (fun h => by
      obtain ⟨_, cs, fz, e⟩ := own_obj I2 g2 h
      exact blk_ty I1 e (by decide))
    have M4 : Mut (fun k => w.heap.size ≤ k) y w4 := (Mut.of_ext E3).trans (Mut.app (own_ext I2 E3) hg4 (fun q hq => (own_obj I2 q hq).1))
    skip
    refine L_store1 (v := v4) rfl rfl hv4 G2 (by simp) ?_
    intro w5 G2' hg5 hs5
    (refine L_nil ?_; refine bn ?_)
    refine ⟨M4.trans (Mut.store G2 hg5 (by show w.heap.size ≤ g2; omega)), v4, G2', ?_, by omega⟩
    rw [List.take_add_one, hx]
    exact own_other o4 hg5 (fun q hq h => by
      obtain rfl : g2 = q := Option.some.inj h
      obtain ⟨_, cs, fz, e⟩ := own_obj o4 g2 hq
      exact blk_ty G2 e (by decide))
  · obtain ⟨i, hfin, v, I1, I2, I3⟩ : ∃ i, i = xs.length ∧ ∃ v, Blk y g2 38 [v] ∧ y.ownsRow w.heap.size 22 1 v i (xs.take i) ∧ i ≤ xs.length := hdn.elim id False.elim
    subst hfin
    rw [List.take_length] at I2
    have hv1 := row_cell1 (Row.of_own I2)
    refine T_of_W ?_
    (refine W_seq ?_; refine W_region ?_; refine Ls (X_ld rfl I1 rfl) ?_; refine Ls (X_assign (v := v) rfl) ?_; refine L_nil ?_; refine tn ?_; refine W_ret ?_)
    refine endQ_marks w1.heap.size [D] rfl rfl (by simp) (fun D' h => ?_) (fun w' hc => ⟨Res.tmp (v := v) rfl .nil, v, rfl, ?_, hc.own I2⟩)
    · rw [List.mem_singleton.1 h]; exact ⟨by omega, hbD⟩
    · exact hc.toExt (hM.toExt E1 (fun k h => h)) (by omega)
theorem gcollect (gf : FuncId) (lb : Array Value) (he : Enters Tryz.prog gf) (xs : List Value) (h1 : ∀ x ∈ xs, x.oneCell' = true) (hl : xs.length ≤ 1000000) (w : World)
    (hit : ∀ w1, Ext w w1 → IterS Tryz.prog gf lb w1 (fun k => w.heap.size ≤ k) (fun i vs _ => ∃ x, xs[i]? = some x ∧ vs = [x]) (fun i => i = xs.length)) :
    Calls Tryz.prog 102 #[.func (.func gf) #[] lb] w fun e w' => ∃ q, e = .returned q ∧ Ext w w' ∧ w'.ownsRow w.heap.size 22 1 q xs.length xs := by
  refine calls_W Tryz.func102 rfl Tryz.ntmps102 rfl ?_
  (refine W_seq ?_; refine W_region ?_; refine Ls (X_assign (v := .slice _ _ _) rfl) ?_; refine L_nil ?_; refine tn ?_; refine W_seq ?_; refine W_region ?_; refine Ls (X_move (v := .func _ _ _) rfl) ?_)
  refine L_fo rfl (gappseq gf lb he xs h1 hl w hit) ?_
  rintro q w1 ⟨E1, o1⟩
  have hq1 := row_cell1 (Row.of_own o1)
  (refine Ls (X_assign (v := q) rfl) ?_; refine L_nil ?_; refine tn ?_; refine W_ret ?_)
  exact endQ_ret1 rfl rfl (v := q) rfl ⟨q, rfl, E1, o1⟩
end Go.Proofs.YtpohjepbmgeplaaGreatDoor

/- Commitments: rows and codewords. -/
namespace Go.Proofs.YtpohjepbmgeplaaGreatDoor
open Go.RowKit Go.Proofs.K
open _root_.Fd (K E pw root trow enc)
open _root_.Cm (Sh)

theorem SOk.sh {R C B T log : Int} (h : SOk R C B T log) : ∃ s : Sh, s.Ok ∧ R = ((s.R : Nat) : Int) ∧ C = ((s.C : Nat) : Int) ∧ B = ((s.B : Nat) : Int) ∧ T = ((s.t : Nat) : Int) ∧ log = ((s.a + s.c : Nat) : Int) := by
  obtain ⟨a, ha, hRa⟩ := lgI_of h.r
  obtain ⟨c, hc, hCc⟩ := lgI_of h.c
  have hs := h.s
  rw [ha, hc] at hs
  have hl := h.l16
  obtain ⟨b, hb1, hb4, hBb⟩ : ∃ b : Nat, 1 ≤ b ∧ b ≤ 4 ∧ B = ((2 ^ b : Nat) : Int) := by
    rcases h.b with e | e | e | e
    · exact ⟨1, by omega, by omega, e⟩
    · exact ⟨2, by omega, by omega, e⟩
    · exact ⟨3, by omega, by omega, e⟩
    · exact ⟨4, by omega, by omega, e⟩
  have hn := h.n
  have hBC : B * C = ((2 ^ (c + b) : Nat) : Int) := by rw [hBb, hCc, Nat.add_comm, Nat.pow_add, Int.natCast_mul]
  have ht1 := h.t1
  have ht64 := h.t64
  have htn := h.tn
  rw [hBC] at hn htn
  have hcb : c + b ≤ 16 := by
    rcases Nat.lt_or_ge 16 (c + b) with h1 | h1
    · have : 2 ^ 17 ≤ 2 ^ (c + b) := Nat.pow_le_pow_right (by decide) h1
      generalize 2 ^ (c + b) = z at *
      omega
    · exact h1
  refine ⟨⟨a, c, b, T.toNat⟩, ⟨by show a + c ≤ 16; omega, hb1, hb4, hcb, by show 1 ≤ T.toNat; omega, by show T.toNat ≤ 64; omega, ?_⟩, hRa, hCc, hBb, by show T = ((T.toNat : Nat) : Int); omega, by show log = ((a + c : Nat) : Int); omega⟩
  show T.toNat ≤ 2 ^ (c + b)
  generalize 2 ^ (c + b) = z at *
  omega
theorem sh_ok {s : Sh} (h : s.Ok) : SOk (s.R : Nat) (s.C : Nat) (s.B : Nat) (s.t : Nat) ((s.a + s.c : Nat) : Int) := by
  have p1 : lgI ((s.R : Nat) : Int) = s.a := lgI_pow s.a
  have p2 : lgI ((s.C : Nat) : Int) = s.c := lgI_pow s.c
  have hac := h.ac
  have hBC : ((s.B : Nat) : Int) * ((s.C : Nat) : Int) = ((s.n : Nat) : Int) := by rw [← Int.natCast_mul, Cm.Sh.BC]
  have hn : s.n ≤ 65536 := (pow_le16 h.cb).2
  have ht : s.t ≤ s.n := h.tn
  refine ⟨by omega, by omega, by omega, by omega, by omega, ?_, by rw [hBC]; omega, by have := h.t1; omega, by have := h.t64; omega, by rw [hBC]; omega⟩
  have b1 := h.b1
  have b4 := h.b4
  unfold Cm.Sh.B
  have hb : s.b = 1 ∨ s.b = 2 ∨ s.b = 3 ∨ s.b = 4 := by omega
  rcases hb with e | e | e | e <;> rw [e] <;> simp
theorem IterS.imp {P : Program} {gf : FuncId} {lb : Array Value} {w : World} {S : Nat → Prop} {Pre Pre' : Nat → List Value → World → Prop} {Fin : Nat → Prop} (h : IterS P gf lb w S Pre Fin) (hp : ∀ i vs a, Pre i vs a → Pre' i vs a) : IterS P gf lb w S Pre' Fin :=
  fun l J Jx w1 E hJ hJx hY h0 => h l J Jx w1 E hJ hJx (fun i v a hj hq => hY i v a hj (hp i v a hq)) h0
theorem vals_at {t : List K} {i : Nat} {x : K} (h : t[i]? = some x) : (vals t)[i]? = some x.val := by unfold vals; rw [List.getElem?_map, h]; rfl
/-- a chunk of a table is a row of it -/
theorem chk_row {w : World} {lo hi b o n c R C r : Nat} {t : List K} (hr : Row w lo hi 1 (.slice (some ⟨b, o, none⟩) n c) n (ints .u64 (vals t))) (hl : t.length = n) (hn : n = R * C) (hrR : r < R) (hC : 1 ≤ C) : Row w lo hi 1 (chk b o C r) C (ints .u64 (vals (trow t C r))) := by
  have hz : r * C + C ≤ n := by rw [hn, ← Nat.succ_mul]; exact Nat.mul_le_mul_right _ hrR
  obtain ⟨b', o', c', e, hc, h1, h2, h3⟩ := hr.at (k := 0) (by omega)
  cases e
  have hcm : c ≤ maxLen := by
    obtain ⟨_, A, c', e, _, h, _⟩ := hr
    cases e; exact h
  refine ⟨by rw [ints_len, vals_len, Fd.trow_len, Nat.mul_one], _, C, rfl, Nat.le_refl _, by omega, fun _ => ⟨b, _, rfl, h1, h2, rangeAt_mid h3 fun j u hu => ?_⟩⟩
  have hj : j < C := by
    have := (List.getElem?_eq_some_iff.1 hu).1
    rw [ints_len, vals_len, Fd.trow_len] at this
    exact this
  have hin : j + C * r < t.length := by rw [hl, Nat.mul_comm]; omega
  have e1 : (trow t C r)[j]? = some t[j + C * r] := by
    unfold Fd.trow
    rw [List.getElem?_map, List.getElem?_range hj]
    show some (t.getD (j + C * r) 0) = _
    rw [List.getD_eq_getElem?_getD, List.getElem?_eq_getElem hin]; rfl
  rw [ints_at (vals_at e1)] at hu
  rw [← hu, Nat.mul_one, show r * C + j = j + C * r by rw [Nat.mul_comm]; omega]
  exact ints_at (vals_at (List.getElem?_eq_getElem hin))
/-- the condition of an element of the field -/
theorem cond_valid (l : List Nat) (w : World) : CondAt Tryz.prog 101 #[] (ints .u64 l) (fun i => decide (l.getD i 0 < Fd.pr)) w := by
  intro i x w' E hx
  have hi : i < l.length := by
    have := (List.getElem?_eq_some_iff.1 hx).1
    rwa [ints_len] at this
  have hg : l[i]? = some (l.getD i 0) := by rw [List.getD_eq_getElem?_getD, List.getElem?_eq_getElem hi]; rfl
  rw [ints_at hg] at hx
  cases hx
  exact gvalid (l.getD i 0) w'
theorem vals_lt (t : List K) : decide (∀ i, i < (ints .u64 (vals t)).length → decide ((vals t).getD i 0 < Fd.pr) = true) = true := by
  rw [decide_eq_true_eq]
  intro i hi
  rw [ints_len, vals_len] at hi
  rw [decide_eq_true_eq, List.getD_eq_getElem?_getD, vals_at (List.getElem?_eq_getElem hi)]
  exact (t[i]).isLt
/-- the rows of a table, chunk by chunk -/
def RowsAt (w0 w : World) (lo hi : Nat) (q : Value) (t : List K) (R C : Nat) : Prop :=
  ∃ xs : List Value, w.ownsRow w0.heap.size 22 1 q R xs ∧ ∀ r x, xs[r]? = some x → Row w lo hi 1 x C (ints .u64 (vals (trow t C r)))
set_option maxRecDepth 100000 in
set_option maxHeartbeats 2000000 in
theorem grows (lo hi : Nat) (v : Value) (t : List K) (ht : t.length ≤ 1000000) (R C B T : Int) (hR : I64 R) (hC : I64 C) (hB : I64 B) (hT : I64 T) (w : World) (hr : Row w lo hi 1 v t.length (ints .u64 (vals t))) :
    Calls Tryz.prog 50 #[v, .agg (shC R C B T).toArray] w fun e w' => Ext w w' ∧ ((SOk R C B T (lgI (t.length : Nat)) ∧ ∃ q, e = .returned (.tuple #[q, .bool true]) ∧ RowsAt w w' lo hi q t R.toNat C.toNat) ∨ (¬ SOk R C B T (lgI (t.length : Nat)) ∧ e = .returned (.tuple #[.slice none 0 0, .bool false]))) := by
  obtain ⟨A, c, rfl⟩ : ∃ A c, v = .slice A t.length c := by
    obtain ⟨_, A, c, rfl, _⟩ := hr
    exact ⟨A, c, rfl⟩
  have hlb := lgI_bd (n := ((t.length : Nat) : Int)) (by omega)
  refine calls_W Tryz.func50 rfl Tryz.ntmps50 rfl ?_
  (refine W_seq ?_; refine W_region ?_)
  refine L_box rfl ?_
  intro g3 w1 B3 hg3 E1 hs1
  (refine Ls (X_assign (v := .slice _ _ _) rfl) ?_; refine Ls (X_assign (v := .bool _) rfl) ?_; refine L_nil ?_; refine tn ?_; refine W_seq ?_; refine W_seq ?_)
  apply W_dagE 4 (by kernel_rfl)
  (apply DW_x (fun r w hA hH => (X_ldW (cs := shC R C B T) rfl (B3.ext hA) rfl).trans rfl); apply DW_x (fun r w hA hH => (X_move (v := .slice _ _ _) rfl).trans rfl); apply DW_x (fun r w hA hH => (X_lenSlice rfl).trans rfl))
  ((with_reducible apply DW_fn); (exact fun _ => rfl); (exact fun _ => rfl); (exact fun r w hA hH => gcpow ((t.length : Nat) : Int) (by omega) (by omega) w))
  ((with_reducible exact D_end); (exact rfl); (repeat (first | exact .inr (.inr (fun _ _ => by with_reducible rfl)) | (refine And.intro ?_ ?_) | exact .inr (.inl rfl) | exact .inl (by decide +kernel) | exact trivial | exact .inr (.inr (fun _ _ => rfl)))); (try dsimp only [Nat.reduceAdd]))
  intro r0 w2 E2 _
  have C3 := B3.ext E2
  refine L_fo (F := fun u w' => ∃ b : Bool, u = .bool b ∧ (b = true ↔ SOk R C B T (lgI (t.length : Nat))) ∧ Ext w2 w') rfl ((gcvalid R C B T (lgI (t.length : Nat)) hR hC hB hT ⟨by omega, by omega⟩ w2).mono fun e w' ⟨b, h1, h2, h3⟩ => ⟨_, h1, b, rfl, h2, h3⟩) ?_
  rintro _ w3 ⟨b, rfl, hb, E3⟩
  have C3 := C3.ext E3
  have E13 := E1.trans (E2.trans E3)
  cases b with
  | false =>
    (refine Ls (X_not rfl) ?_; refine Ls (X_move (v := .bool _) rfl) ?_; refine Lo2 rfl rfl rfl rfl ?_; refine Lo2 rfl rfl rfl rfl ?_; refine Lo2 rfl rfl rfl rfl ?_; refine Ls (X_pickT (v := .bool _) rfl rfl) ?_; refine L_nil ?_; refine tn ?_; refine W_condT rfl ?_; refine W_seq ?_; refine W_region ?_; refine Ls (X_assign (v := .slice _ _ _) rfl) ?_; refine Ls (X_assign (v := .bool _) rfl) ?_; refine L_nil ?_; refine tn ?_; refine W_ret ?_; refine tr ?_)
    exact endQ_ret2 rfl rfl (v := .slice none 0 0) (x := .bool _) rfl rfl ⟨E13, .inr ⟨fun h => (by have := hb.2 h; cases this), rfl⟩⟩
  | true =>
    have hok := hb.1 rfl
    obtain ⟨s, hs, rfl, rfl, rfl, rfl, hlog⟩ := hok.sh
    have hn : t.length = s.R * s.C := by
      have h0 : 0 ≤ lgI ((t.length : Nat) : Int) := by rw [hlog]; omega
      obtain ⟨a, h1, h2⟩ := lgI_of h0
      rw [h1] at hlog
      rw [Cm.Sh.RC, show s.a + s.c = a by omega]
      exact Int.ofNat.inj h2
    have hC1 : 1 ≤ s.C := Nat.pow_pos (by decide)
    have hR1 : 1 ≤ s.R := Nat.pow_pos (by decide)
    have hR16 : s.R ≤ 65536 := (pow_le16 (a := s.a) (by have := hs.ac; omega)).2
    have ht1 : 1 ≤ t.length := by rw [hn]; exact Nat.mul_pos hR1 hC1
    obtain ⟨b0, o0, c0, e, hmc, h1, h2, h3⟩ := hr.at (k := 0) (by omega)
    cases e
    (refine Ls (X_not rfl) ?_; refine Ls (X_move (v := .bool _) rfl) ?_; refine Lg2 rfl rfl rfl (X_move (v := .slice _ _ _) rfl) ?_)
    refine L_strip rfl rfl rfl ?_
    refine L_fv rfl (gval_u lo hi _ (ints .u64 (vals t)) (by rw [ints_len, vals_len]; omega) w3 ((hr.ext E13).re (by rw [ints_len, vals_len]) rfl) ints_cell (fun i => decide ((vals t).getD i 0 < Fd.pr)) 101 #[] (cond_valid (vals t) w3)) ?_
    intro w4 E4
    rw [vals_lt]
    have C3 := C3.ext E4
    (refine Lg2 rfl rfl rfl (X_not rfl) ?_; refine Ls (X_pickF (v := .bool _) rfl rfl) ?_; refine L_nil ?_; refine tn ?_; refine W_condF rfl ?_; refine W_skip ?_; refine tn ?_; refine W_seq ?_; refine W_region ?_; refine Ls (X_move (v := .slice _ _ _) rfl) ?_; refine Ls (X_fld rfl) ?_; refine Ls (X_ld (cs := shC (s.R : Nat) (s.C : Nat) (s.B : Nat) (s.t : Nat)) rfl C3 rfl) ?_)
    refine L_fo rfl (gchunkMk (.slice (some ⟨b0, o0, none⟩) t.length c) rfl s.C hC1 w4) ?_
    rintro q w5 ⟨g1, g2, rfl, E5, D1, D2⟩
    obtain ⟨xs, hxs⟩ : ∃ xs, xs = (List.range s.R).map (chk b0 o0 s.C) := ⟨_, rfl⟩
    have hxl : xs.length = s.R := by rw [hxs]; simp
    have hxg : ∀ r x, xs[r]? = some x → r < s.R ∧ x = chk b0 o0 s.C r := fun r x h => by
      have hr := (List.getElem?_eq_some_iff.1 h).1
      rw [hxl] at hr
      rw [hxs, List.getElem?_map, List.getElem?_range hr] at h
      exact ⟨hr, (Option.some.inj h).symm⟩
    have hE5 := E13.trans (E4.trans E5)
    refine L_fo rfl (gcollect 148 #[.pointer (some ⟨g1, 0, none⟩), .pointer (some ⟨g2, 0, none⟩)] (enters_of Tryz.func148 (by kernel_rfl) rfl) xs (fun x hx => by
      obtain ⟨r, hr⟩ := List.mem_iff_getElem?.1 hx
      rw [(hxg r x hr).2]; rfl) (by omega) w5 (fun y E => by
      have hh := gchunk (fun k => w5.heap.size ≤ k) g1 g2 b0 o0 t.length c s.R s.C hC1 hn hmc (by omega) y (D1.ext E) (D2.ext E) (by have := D1.lt; show ¬ (w5.heap.size ≤ g1); omega) (by have := D2.lt; show ¬ (w5.heap.size ≤ g2); omega)
      rw [hxl]
      refine IterS.imp hh fun i vs a hp => ⟨chk b0 o0 s.C i, ?_, hp.2⟩
      rw [hxs, List.getElem?_map, List.getElem?_range hp.1]; rfl)) ?_
    rintro q6 w6 ⟨E6, o6⟩
    have hq6 := row_cell1 (Row.of_own o6)
    (refine Ls (X_assign (v := q6) rfl) ?_; refine Ls (X_assign (v := .bool _) rfl) ?_; refine L_nil ?_; refine tn ?_; refine W_ret ?_)
    refine endQ_ret2 rfl rfl (v := q6) (x := .bool _) rfl rfl ⟨hE5.trans E6, .inl ⟨hok, q6, rfl, xs, ?_, fun r x h => ?_⟩⟩
    · rw [Int.toNat_natCast, ← hxl]
      exact own_base o6 hE5.size
    · obtain ⟨h4, rfl⟩ := hxg r x h
      rw [Int.toNat_natCast]
      exact chk_row (hr.ext (hE5.trans E6)) rfl hn h4 hC1
/-- the codewords of a table, as numbers -/
def cws (t : List K) (s : Sh) : List (List Nat) := (List.range s.R).map fun r => vals (enc (trow t s.C r) (s.c + s.b))
theorem cws_len (t : List K) (s : Sh) : (cws t s).length = s.R := by unfold cws; simp
set_option maxRecDepth 100000 in
set_option maxHeartbeats 4000000 in
theorem gcodewords (lo hi : Nat) (v : Value) (t : List K) (ht : t.length ≤ 1000000) (R C B T : Int) (hR : I64 R) (hC : I64 C) (hB : I64 B) (hT : I64 T) (w : World) (hw : Tb w) (hr : Row w lo hi 1 v t.length (ints .u64 (vals t))) :
    Calls Tryz.prog 12 #[v, .agg (shC R C B T).toArray] w fun e w' => Ext w w' ∧ ((∃ s : Sh, s.Ok ∧ R = ((s.R : Nat) : Int) ∧ C = ((s.C : Nat) : Int) ∧ B = ((s.B : Nat) : Int) ∧ T = ((s.t : Nat) : Int) ∧ lgI (t.length : Nat) = ((s.a + s.c : Nat) : Int) ∧ t.length = s.R * s.C ∧ ∃ q, e = .returned (.tuple #[q, .int .i64 0]) ∧ PartN (fun k => w.heap.size ≤ k ∧ k < w'.heap.size) w' .u64 q (cws t s)) ∨ (¬ SOk R C B T (lgI (t.length : Nat)) ∧ e = .returned (.tuple #[.slice none 0 0, .int .i64 1]))) := by
  have hv1 := row_cell1 hr
  have hr := hr.tightN (by decide)
  refine calls_W Tryz.func12 rfl Tryz.ntmps12 rfl ?_
  (refine W_seq ?_; refine W_region ?_)
  refine L_box rfl ?_
  intro g3 w1 B3 hg3 E1 hs1
  (refine Ls (X_assign (v := .slice _ _ _) rfl) ?_; refine Ls (X_assign (v := .int _ _) rfl) ?_; refine L_nil ?_; refine tn ?_; refine W_seq ?_; refine W_region ?_; refine Ls (X_move (v := v) rfl) ?_; refine Ls (X_ldW (cs := shC R C B T) rfl B3 rfl) ?_)
  refine L_fo (F := fun u w' => Ext w1 w' ∧ ((SOk R C B T (lgI (t.length : Nat)) ∧ ∃ q, u = .tuple #[q, .bool true] ∧ RowsAt w1 w' lo w.heap.size q t R.toNat C.toNat) ∨ (¬ SOk R C B T (lgI (t.length : Nat)) ∧ u = .tuple #[.slice none 0 0, .bool false]))) rfl ((grows lo w.heap.size v t ht R C B T hR hC hB hT w1 (hr.ext E1)).mono fun e w' ⟨h1, h2⟩ => by
    rcases h2 with ⟨h2, q, h3, h4⟩ | ⟨h2, h3⟩
    · exact ⟨_, h3, h1, .inl ⟨h2, q, rfl, h4⟩⟩
    · exact ⟨_, h3, h1, .inr ⟨h2, rfl⟩⟩) ?_
  rintro _ w2 ⟨E2, ⟨hok, q, rfl, xs, o2, hx2⟩ | ⟨hno, rfl⟩⟩
  · obtain ⟨s, hs, rfl, rfl, rfl, rfl, hlog⟩ := hok.sh
    have hn : t.length = s.R * s.C := by
      have h0 : 0 ≤ lgI ((t.length : Nat) : Int) := by rw [hlog]; omega
      obtain ⟨a, h1, h2⟩ := lgI_of h0
      rw [h1] at hlog
      rw [Cm.Sh.RC, show s.a + s.c = a by omega]
      exact Int.ofNat.inj h2
    rw [Int.toNat_natCast] at o2 hx2
    have hR1 : 1 ≤ s.R := Nat.pow_pos (by decide)
    have hR16 : s.R ≤ 65536 := (pow_le16 (a := s.a) (by have := hs.ac; omega)).2
    have hxl : xs.length = s.R := by rw [o2.1, Nat.mul_one]
    obtain ⟨gq, cq, rfl, hgq1, hgq2, hgq3, hgq4⟩ := own_form o2 hR1
    have E12 := E1.trans E2
    have C3 := B3.ext E2
    have hz1 := E1.size
    have hl3 := B3.lt
    have hgB : w1.heap.size ≤ gq := hgq1
    (refine Ls (X_move (v := .tuple _) rfl) ?_; refine Ls (X_extract rfl rfl) ?_; refine Ls (X_extract rfl rfl) ?_; refine Ls (X_assign (v := .slice _ _ _) rfl) ?_; refine Ls (X_assign (v := .bool _) rfl) ?_; refine L_nil ?_; refine tn ?_; refine W_seq ?_; refine W_seq ?_; refine W_region ?_; refine Ls (X_move (v := .bool _) rfl) ?_; refine Ls (X_not rfl) ?_; refine L_nil ?_; refine tn ?_)
    refine W_condF rfl ?_
    (refine W_skip ?_; refine tn ?_; refine W_seq ?_; refine W_seq ?_; refine W_region ?_; refine Ls (X_move (v := .slice _ _ _) rfl) ?_; refine Ls (X_lenSlice rfl) ?_; refine Ls (X_move (v := .int _ _) rfl) ?_; refine L_nil ?_; refine tn ?_; refine W_block ?_)
    refine W_loop (fun q f w' => ∃ i zs, q = s.R - i ∧ i ≤ s.R ∧ f 3 = .pointer (some ⟨g3, 0, none⟩) ∧ f 6 = .slice (some ⟨gq, 0, none⟩) s.R cq ∧ f 18 = .slice (some ⟨gq, 0, none⟩) s.R cq ∧ f 19 = .int .i64 (s.R : Nat) ∧ f 20 = .int .i64 (i : Nat) ∧ Blk w' g3 28 (shC (s.R : Nat) (s.C : Nat) (s.B : Nat) (s.t : Nat)) ∧
      w'.ownsRow w1.heap.size 22 1 (.slice (some ⟨gq, 0, none⟩) s.R cq) s.R zs ∧ (∀ r x, i ≤ r → zs[r]? = some x → xs[r]? = some x) ∧ (∀ r x, r < i → zs[r]? = some x → w'.ownsRow w.heap.size 29 1 x (s.B * s.C) (ints .u64 (vals (enc (trow t s.C r) (s.c + s.b))))) ∧ Ext w w' ∧ w2.heap.size ≤ w'.heap.size ∧ w2.grownBy w' (some gq)) s.R ?_ ?_
    · exact ⟨0, xs, rfl, by omega, rfl, rfl, rfl, rfl, rfl, C3, o2, fun _ _ _ h => h, fun _ _ h => by omega, E12, Nat.le_refl _, (Ext.refl w2).row _⟩
    · rintro q f wr ⟨i, zs, hq, hi', f3, f6, f18, f19, f20, D3, oz, hz1', hz2', hE, hsz, hG⟩
      rw [fold f3, fold f6, fold f18, fold f19, fold f20]
      (refine W_seq ?_; refine W_region ?_; refine Ls (X_lss rfl rfl) ?_; refine L_nil ?_; refine tn ?_; refine W_seq ?_)
      refine W_condp rfl (fun h => ?_) (fun h => ?_)
      · have hlt : i < s.R := by omega
        have hzl : zs.length = s.R := by rw [oz.1, Nat.mul_one]
        obtain ⟨x, hx⟩ : ∃ x, zs[i]? = some x := ⟨_, List.getElem?_eq_getElem (by omega)⟩
        have hxx := hz1' i x (Nat.le_refl _) hx
        have hrx := hx2 i x hxx
        have hx1 := row_cell1 hrx
        have hRz := own_range oz
        have hrw : Row wr lo w.heap.size 1 x s.C (ints .u64 (vals (trow t s.C i))) := hrx.grown hG (fun g h => by cases h; right; omega)
        have hEs := hE.size
        have hl3' := D3.lt
        (refine W_skip ?_; refine tn ?_; refine W_seq ?_; refine W_block ?_; refine W_seq ?_; refine W_region ?_; refine Ls (X_move (v := .int _ _) rfl) ?_; refine Ls (X_indexSn rfl rfl (by omega)) ?_; refine Ls (X_ldR rfl hRz (j := i) (by omega) hx) ?_; refine Ls (X_assign (v := .int _ _) rfl) ?_; refine Ls (X_assign (v := x) rfl) ?_; refine L_nil ?_; refine tn ?_; refine W_region ?_; refine Ls (X_move (v := .slice _ _ _) rfl) ?_; refine Ls (X_move (v := .int _ _) rfl) ?_; refine Ls (X_move (v := x) rfl) ?_; refine Ls (X_fld rfl) ?_; refine Ls (X_ld (cs := shC (s.R : Nat) (s.C : Nat) (s.B : Nat) (s.t : Nat)) rfl D3 rfl) ?_)
        refine L_fo (F := fun u w' => ∃ y, u = .tuple #[y, .int .i64 0] ∧ Ext wr w' ∧ w'.ownsRow wr.heap.size 29 1 y (s.B * s.C) (ints .u64 (vals (enc (trow t s.C i) (s.c + s.b))))) rfl ((gencode (a := s.c) (b := s.b) (c := s.C) (m := s.B) hs.b1 hs.b4 hs.cb rfl rfl lo w.heap.size x (trow t s.C i) (Fd.trow_len _ _ _) wr (hw.ext hE) hrw).mono fun e w' ⟨y, h1, h2, h3⟩ => ⟨_, h1, y, rfl, h2, h3⟩) ?_
        rintro _ w4 ⟨y, rfl, E4, o4⟩
        have hy1 := row_cell1 (Row.of_own o4)
        (refine Ls (X_move (v := .tuple _) rfl) ?_; refine Ls (X_extract rfl rfl) ?_; refine Ls (X_extract rfl rfl) ?_; refine Ls (X_indexSn rfl rfl (by omega)) ?_)
        refine L_storeRow1 (i := i) (v := y) (own_ext oz E4) rfl rfl (by omega) hy1 hlt ?_
        intro w5 o5 hg5 hs5
        (refine L_nil ?_; refine bn ?_; refine tn ?_; refine W_region ?_; refine Ls (X_addi rfl rfl (by omega)) ?_; refine Ls (X_move (v := .int _ _) rfl) ?_; refine L_nil ?_; refine tn ?_)
        have hx5 : ∀ (z : Value) (m : Nat) (l : List Value), w4.ownsRow w.heap.size 29 1 z m l → w5.ownsRow w.heap.size 29 1 z m l := fun z m l h => own_other h hg5 (fun g hg e => by
          obtain rfl : gq = g := Option.some.inj e
          obtain ⟨_, cs, fz, e1⟩ := own_obj h gq hg
          obtain ⟨_, cs', fz', e2⟩ := own_obj (own_ext oz E4) gq rfl
          rw [e1] at e2
          cases e2)
        refine ⟨s.R - (i + 1), by omega, i + 1, zs.set i y, rfl, by omega, rfl, rfl, rfl, rfl, rfl, (D3.ext E4).grown hg5 (by simp; omega), o5, fun r z hr' hz => ?_, fun r z hr' hz => ?_, (hE.trans E4).then hg5 (fun g h => by cases h; omega), by have := E4.size; omega, grown_trans' (grown_trans' hG E4 (fun _ h => by cases h)) hg5 (fun g h => .inl h)⟩
        · rw [List.getElem?_set_ne (by omega)] at hz
          exact hz1' r z (by omega) hz
        · by_cases hri : r = i
          · subst hri
            rw [List.getElem?_set_self (by omega)] at hz
            cases hz
            exact hx5 _ _ _ (own_base o4 hEs)
          · rw [List.getElem?_set_ne (by omega)] at hz
            exact hx5 _ _ _ (own_ext (hz2' r z (by omega) hz) E4)
      · have hiR : i = s.R := by omega
        subst hiR
        have hzl : zs.length = s.R := by rw [oz.1, Nat.mul_one]
        (refine W_exit ?_; refine te ?_; refine te ?_; refine bx ?_; refine tn ?_; refine W_seq ?_; refine W_region ?_; refine Ls (X_move (v := .slice _ _ _) rfl) ?_; refine Ls (X_assign (v := .slice _ _ _) rfl) ?_; refine Ls (X_assign (v := .int _ _) rfl) ?_; refine L_nil ?_; refine tn ?_; refine W_ret ?_)
        refine endQ_ret2 rfl rfl (v := .slice _ _ _) (x := .int _ _) rfl rfl ⟨hE, .inl ⟨s, hs, rfl, rfl, rfl, rfl, hlog, hn, _, rfl, zs, by rw [cws_len]; exact hzl, ?_, fun r x y hx hy => ?_⟩⟩
        · rw [cws_len]
          refine (RowN.of_own oz).mono fun k hk => ⟨by omega, hk.2⟩
        · have hrl : r < s.R := by
            have := (List.getElem?_eq_some_iff.1 hx).1
            omega
          have hy' : y = vals (enc (trow t s.C r) (s.c + s.b)) := by
            unfold cws at hy
            rw [List.getElem?_map, List.getElem?_range hrl] at hy
            exact (Option.some.inj hy).symm
          rw [hy']
          have hh := RowN.of_own (hz2' r x hrl hx)
          exact hh.re (by rw [vals_len, Fd.enc_len, Cm.Sh.BC]; rfl) rfl
  · (refine Ls (X_move (v := .tuple _) rfl) ?_; refine Ls (X_extract rfl rfl) ?_; refine Ls (X_extract rfl rfl) ?_; refine Ls (X_assign (v := .slice _ _ _) rfl) ?_; refine Ls (X_assign (v := .bool _) rfl) ?_; refine L_nil ?_; refine tn ?_; refine W_seq ?_; refine W_seq ?_; refine W_region ?_; refine Ls (X_move (v := .bool _) rfl) ?_; refine Ls (X_not rfl) ?_; refine L_nil ?_; refine tn ?_)
    refine W_condT rfl ?_
    (refine W_seq ?_; refine W_region ?_; refine Ls (X_assign (v := .slice _ _ _) rfl) ?_; refine Ls (X_assign (v := .int _ _) rfl) ?_; refine L_nil ?_; refine tn ?_; refine W_ret ?_; refine tr ?_)
    exact endQ_ret2 rfl rfl (v := .slice none 0 0) (x := .int _ _) rfl rfl ⟨E1.trans E2, .inr ⟨hno, rfl⟩⟩
end Go.Proofs.YtpohjepbmgeplaaGreatDoor

/- Commitments: columns, their bytes, the root. -/
namespace Go.Proofs.YtpohjepbmgeplaaGreatDoor
open Go.RowKit Go.Proofs.K
open _root_.Fd (K E pw root trow enc ccol)
open _root_.Cm (Sh)

/-- a column of a matrix -/
def colM (M : List (List Nat)) (j : Nat) : List Nat := M.map fun r => r.getD j 0
theorem colM_len (M : List (List Nat)) (j : Nat) : (colM M j).length = M.length := by unfold colM; simp
theorem colM_get {M : List (List Nat)} {r j : Nat} {d : List Nat} (h : M[r]? = some d) : (colM M j)[r]? = some (d.getD j 0) := by unfold colM; rw [List.getElem?_map, h]; rfl
def PreCol (w0 : World) (M : List (List Nat)) (L : Nat) (i : Nat) (vs : List Value) (a : World) : Prop := i < L ∧ ∃ q, vs = [.int .i64 (i : Nat), q] ∧ a.ownsRow w0.heap.size 29 1 q M.length (ints .u64 (colM M i))
set_option maxRecDepth 100000 in
set_option maxHeartbeats 4000000 in
theorem gcols (S N : Nat → Prop) (g : Nat) (v : Value) (M : List (List Nat)) (L : Nat) (hL : ∀ r ∈ M, r.length = L) (hM1 : 1 ≤ M.length) (hM : M.length ≤ 65536) (hL6 : L ≤ 1000000) (w : World) (hB : Blk w g 38 [v]) (hP : PartN N w .u64 v M) (h1 : ¬ S g) (h2 : ∀ k, N k → ¬ S k) :
    IterS Tryz.prog 118 #[.pointer (some ⟨g, 0, none⟩)] w S (PreCol w M L) (fun i => i = L) := by
  intro lp J Jx w1 E1 hJ hJx hY h0
  obtain ⟨A, c, rfl, hmc, hcm⟩ := hP.form
  refine calls_W Tryz.func118 rfl Tryz.ntmps118 rfl ?_
  obtain ⟨d0, hd0⟩ : ∃ d, M[0]? = some d := ⟨_, List.getElem?_eq_getElem (by omega)⟩
  have hd0l := hL d0 (List.mem_of_getElem? hd0)
  obtain ⟨b0, o0, x0, rfl, _, _, _, _, hx0, hx01, hr0⟩ := partN_at (hP.ext E1) hd0
  obtain ⟨A0, c0, rfl, _⟩ := hr0.form
  (refine W_seq ?_; refine W_region ?_; refine Ls (X_ld rfl (hB.ext E1) rfl) ?_; refine Ls (X_indexSn (i := 0) rfl rfl (by omega)) ?_; refine Ls (X_load1 rfl hx0) ?_; refine Ls (X_lenSlice rfl) ?_; refine Ls (X_move (v := .int _ _) rfl) ?_; refine L_nil ?_; refine tn ?_; refine W_block ?_)
  rw [hd0l]
  refine W_loop (fun q f w' => ∃ j, q = L - j ∧ j ≤ L ∧ f 0 = yieldV lp ∧ f 1 = .pointer (some ⟨g, 0, none⟩) ∧ f 10 = .int .i64 (L : Nat) ∧ f 11 = .int .i64 (j : Nat) ∧ J j w' ∧ Blk w' g 38 [.slice (some ⟨b0, o0, none⟩) M.length c] ∧ PartN N w' .u64 (.slice (some ⟨b0, o0, none⟩) M.length c) M ∧ w.heap.size ≤ w'.heap.size) L ?_ ?_
  · exact ⟨0, rfl, by omega, rfl, rfl, rfl, rfl, h0, hB.ext E1, hP.ext E1, E1.size⟩
  · rintro q f wr ⟨j, hq, hj, f0, f1, f10, f11, hJj, C1, P1, hsz⟩
    rw [fold f0, fold f1, fold f10, fold f11]
    (refine W_seq ?_; refine W_region ?_; refine Ls (X_lss rfl rfl) ?_; refine L_nil ?_; refine tn ?_; refine W_seq ?_)
    refine W_condp rfl (fun h => ?_) (fun h => ?_)
    · have hlt : j < L := by omega
      (refine W_skip ?_; refine tn ?_; refine W_seq ?_; refine W_block ?_; refine W_seq ?_; refine W_region ?_; refine Ls (X_move (v := .int _ _) rfl) ?_; refine Ls (X_assign (v := .int _ _) rfl) ?_; refine L_nil ?_; refine tn ?_; refine W_seq ?_; refine W_region ?_; refine Ls (X_ld rfl C1 rfl) ?_; refine Ls (X_lenSlice rfl) ?_)
      refine L_make (z := [.int .u64 0]) M.length M.length rfl rfl rfl rfl (Nat.le_refl _) (by omega) (by omega) ?_
      intro gc w3 B3 hgc E3 hs3
      have C3 := C1.ext E3
      have P3 := P1.ext E3
      have hrep : (List.replicate M.length [Value.int .u64 0]).flatten = ints .u64 (List.replicate M.length 0) := ints_rep .u64 M.length 0
      rw [hrep] at B3
      have o3 : w3.ownsRow w.heap.size 29 1 (.slice (some ⟨gc, 0, none⟩) M.length M.length) M.length (ints .u64 ((colM M j).take 0 ++ List.replicate (M.length - 0) 0)) := own_of_blk B3 (by omega) (Nat.le_refl _) (by unfold maxLen; omega) (by rw [ints_len]; simp) (by rw [List.take_of_length_le (by rw [ints_len]; simp)]; rfl)
      have hJ3 := hJ _ _ _ hJj E3
      (refine Ls (X_assign (v := .slice _ _ _) rfl) ?_; refine L_nil ?_; refine tn ?_; refine W_seq ?_; refine W_seq ?_; refine W_region ?_; refine Ls (X_ld rfl C3 rfl) ?_; refine Ls (X_lenSlice rfl) ?_; refine Ls (X_move (v := .int _ _) rfl) ?_; refine L_nil ?_; refine tn ?_; refine W_block ?_)
      refine W_loop (fun q f w' => ∃ r, q = M.length - r ∧ r ≤ M.length ∧ f 0 = yieldV lp ∧ f 1 = .pointer (some ⟨g, 0, none⟩) ∧ f 3 = .int .i64 (j : Nat) ∧ f 4 = .slice (some ⟨gc, 0, none⟩) M.length M.length ∧ f 10 = .int .i64 (L : Nat) ∧ f 11 = .int .i64 (j : Nat) ∧ f 17 = .slice (some ⟨b0, o0, none⟩) M.length c ∧ f 18 = .int .i64 (M.length : Nat) ∧ f 19 = .int .i64 (r : Nat) ∧ Ext wr w' ∧ w'.ownsRow w.heap.size 29 1 (.slice (some ⟨gc, 0, none⟩) M.length M.length) M.length (ints .u64 ((colM M j).take r ++ List.replicate (M.length - r) 0))) M.length ?_ ?_
      · exact ⟨0, rfl, by omega, rfl, rfl, rfl, rfl, rfl, rfl, rfl, rfl, rfl, E3, o3⟩
      · rintro q f wi ⟨r, hq, hr, f0, f1, f3, f4, f10, f11, f17, f18, f19, hE, oc⟩
        rw [fold f0, fold f1, fold f3, fold f4, fold f10, fold f11, fold f17, fold f18, fold f19]
        (refine W_seq ?_; refine W_region ?_; refine Ls (X_lss rfl rfl) ?_; refine L_nil ?_; refine tn ?_; refine W_seq ?_)
        refine W_condp rfl (fun h => ?_) (fun h => ?_)
        · have hrl : r < M.length := by omega
          obtain ⟨d, hd⟩ : ∃ d, M[r]? = some d := ⟨_, List.getElem?_eq_getElem hrl⟩
          have hdl := hL d (List.mem_of_getElem? hd)
          obtain ⟨b1, o1, x, e1, _, _, _, _, hx, hx1, hrx⟩ := partN_at (P1.ext hE) hd
          cases e1
          obtain ⟨bx, ox, cx, rfl, hcx, _, _, hRx⟩ := hrx.at (k := j) (by omega)
          have hdj : d[j]? = some (d.getD j 0) := by rw [List.getD_eq_getElem?_getD, List.getElem?_eq_getElem (by omega)]; rfl
          (refine W_skip ?_; refine tn ?_; refine W_seq ?_; refine W_block ?_; refine W_seq ?_; refine W_region ?_; refine Ls (X_move (v := .int _ _) rfl) ?_; refine Ls (X_indexSn rfl rfl (by omega)) ?_; refine Ls (X_load1 rfl hx) ?_; refine Ls (X_assign (v := .int _ _) rfl) ?_; refine Ls (X_assign (v := .slice _ _ _) rfl) ?_; refine L_nil ?_; refine tn ?_; refine W_region ?_; refine Ls (X_move (v := .slice _ _ _) rfl) ?_; refine Ls (X_move (v := .int _ _) rfl) ?_; refine Ls (X_move (v := .slice _ _ _) rfl) ?_; refine Ls (X_move (v := .int _ _) rfl) ?_; refine Ls (X_indexSn rfl rfl (by omega)) ?_; refine Ls (X_ldR rfl hRx (j := j) (by omega) (ints_at hdj)) ?_; refine Ls (X_indexSn rfl rfl (by omega)) ?_)
          refine L_storeRow1 (i := r) (v := .int .u64 ((d.getD j 0 : Nat) : Int)) oc rfl rfl (by omega) rfl hrl ?_
          intro w5 o5 hg5 hs5
          (refine L_nil ?_; refine bn ?_; refine tn ?_; refine W_region ?_; refine Ls (X_addi rfl rfl (by omega)) ?_; refine Ls (X_move (v := .int _ _) rfl) ?_; refine L_nil ?_; refine tn ?_)
          refine ⟨M.length - (r + 1), by omega, r + 1, rfl, by omega, rfl, rfl, rfl, rfl, rfl, rfl, rfl, rfl, rfl, hE.then hg5 (fun g h => by cases h; omega), ?_⟩
          rw [ints_set, show M.length - r = M.length - (r + 1) + 1 by omega, tab_set _ _ _ _ (by rw [List.length_take, colM_len]; omega)] at o5
          rw [List.take_add_one, colM_get hd]
          exact o5
        · have hrM : r = M.length := by omega
          rw [hrM, Nat.sub_self, List.replicate_zero, List.append_nil, List.take_of_length_le (by rw [colM_len]; exact Nat.le_refl _)] at oc
          have CC := C1.ext hE
          have PP := P1.ext hE
          have hEs := hE.size
          (refine W_exit ?_; refine te ?_; refine te ?_; refine bx ?_; refine tn ?_; refine W_seq ?_; refine W_region ?_; refine Ls (X_move (v := .func _ _ _) rfl) ?_; refine Ls (X_move (v := .int _ _) rfl) ?_; refine Ls (X_move (v := .slice _ _ _) rfl) ?_)
          refine L_yield rfl rfl rfl (hY j [.int .i64 (j : Nat), .slice (some ⟨gc, 0, none⟩) M.length M.length] wi (hJ _ _ _ hJj hE) ⟨hlt, _, rfl, oc⟩) ?_
          rintro e w6 (⟨rfl, hj2, hk2⟩ | ⟨rfl, hjx⟩)
          · refine ⟨.bool true, rfl, ?_⟩
            (refine Ls (X_not rfl) ?_; refine L_nil ?_; refine tn ?_; refine W_condF rfl ?_; refine W_skip ?_; refine bn ?_; refine tn ?_; refine W_region ?_; refine Ls (X_addi rfl rfl (by omega)) ?_; refine Ls (X_move (v := .int _ _) rfl) ?_; refine L_nil ?_; refine tn ?_)
            exact ⟨L - (j + 1), by omega, j + 1, rfl, by omega, rfl, rfl, rfl, rfl, hj2, hk2.blk CC h1, PP.keepS hk2 h2, by have := hk2.size; omega⟩
          · refine ⟨.bool false, rfl, ?_⟩
            (refine Ls (X_not rfl) ?_; refine L_nil ?_; refine tn ?_; refine W_condT rfl ?_; refine W_ret ?_; refine br ?_; refine tr ?_; refine tr ?_; refine br ?_)
            refine endQ_ret0 rfl rfl ?_
            exact ⟨⟨_, rfl⟩, .inr hjx⟩
    · have hjL : j = L := by omega
      (refine W_exit ?_; refine te ?_; refine te ?_; refine bx ?_)
      refine endQ_end0 rfl rfl ?_
      exact ⟨⟨_, rfl⟩, .inl ⟨_, hjL, hJj⟩⟩
theorem gcolsMk (v : Value) (hv : v.oneCell' = true) (w : World) :
    Calls Tryz.prog 61 #[v] w fun e w' => ∃ q, e = .returned q ∧ ∃ b, q = .func (.func 118) #[] #[.pointer (some ⟨b, 0, none⟩)] ∧ Ext w w' ∧ Blk w' b 38 [v] ∧ w.heap.size = b := by
  refine calls_W Tryz.func61 rfl Tryz.ntmps61 rfl ?_
  (refine W_seq ?_; refine W_region ?_)
  refine L_box1 rfl hv ?_
  intro g1 w1 B1 hg1 E1 hs1
  (refine Ls (X_assign (v := Value.nilFunc) rfl) ?_; refine L_nil ?_; refine tn ?_; refine W_seq ?_; refine W_region ?_)
  refine Ls (X_mkFunc (vf := []) (vc := [.pointer (some ⟨g1, 0, none⟩)]) rfl rfl) ?_
  (refine Ls (X_assign (v := .func _ _ _) rfl) ?_; refine L_nil ?_; refine tn ?_; refine W_ret ?_)
  refine endQ_ret1 rfl rfl (v := .func _ _ _) rfl ⟨_, rfl, g1, rfl, E1, B1, hg1⟩
/-- the bytes of a column -/
def encB (l : List Nat) : List Nat := (l.map fun x => word x 8).flatten
theorem encB_app (a b : List Nat) : encB (a ++ b) = encB a ++ encB b := by unfold encB; rw [List.map_append, List.flatten_append]
theorem encB_one (x : Nat) : encB [x] = word x 8 := by unfold encB; simp
theorem encB_len (l : List Nat) : (encB l).length = l.length * 8 := by
  unfold encB
  induction l with
  | nil => rfl
  | cons x l ih => rw [List.map_cons, List.flatten_cons, List.length_append, ih, word_len, List.length_cons]; omega
theorem encB_ok (l : List Nat) : Sha.bytesOk (encB l) := by
  intro y hy
  obtain ⟨c, hc, hyc⟩ := List.mem_flatten.1 hy
  obtain ⟨x, _, rfl⟩ := List.mem_map.1 hc
  obtain ⟨k, _, rfl⟩ := List.mem_map.1 hyc
  unfold byteAt
  exact Nat.mod_lt _ (by decide)
set_option maxRecDepth 100000 in
set_option maxHeartbeats 2000000 in
theorem gencodeB (lo hi : Nat) (v : Value) (l : List Nat) (hl : l.length ≤ 1000000) (w : World) (hr : Row w lo hi 1 v l.length (ints .u64 l)) :
    Calls Tryz.prog 79 #[v] w fun e w' => ∃ q, e = .returned q ∧ Ext w w' ∧ w'.ownsRow w.heap.size 5 1 q (encB l).length (ints .u8 (encB l)) := by
  obtain ⟨A, c, rfl⟩ : ∃ A c, v = .slice A l.length c := by
    obtain ⟨_, A, c, rfl, _⟩ := hr
    exact ⟨A, c, rfl⟩
  refine calls_W Tryz.func79 rfl Tryz.ntmps79 rfl ?_
  (refine W_seq ?_; refine W_region ?_; refine Ls (X_assign (v := .slice _ _ _) rfl) ?_; refine L_nil ?_; refine tn ?_; refine W_seq ?_; refine W_region ?_; refine Ls (X_assign (v := .slice _ _ _) rfl) ?_; refine L_nil ?_; refine tn ?_; refine W_seq ?_; refine W_seq ?_; refine W_region ?_; refine Ls (X_move (v := .slice _ _ _) rfl) ?_; refine Ls (X_lenSlice rfl) ?_; refine Ls (X_move (v := .int _ _) rfl) ?_; refine L_nil ?_; refine tn ?_; refine W_block ?_)
  refine W_loop (fun q f w' => ∃ i u, q = l.length - i ∧ i ≤ l.length ∧ f 3 = u ∧ f 7 = .slice A l.length c ∧ f 8 = .int .i64 (l.length : Nat) ∧ f 9 = .int .i64 (i : Nat) ∧ Ext w w' ∧ w'.ownsRow w.heap.size 5 1 u (i * 8) (ints .u8 (encB (l.take i)))) l.length ?_ ?_
  · exact ⟨0, .slice none 0 0, rfl, by omega, rfl, rfl, rfl, rfl, Ext.refl _, ⟨rfl, .inl ⟨rfl, rfl⟩⟩⟩
  · rintro q f wr ⟨i, u, hq, hi', f3, f7, f8, f9, hE, ho⟩
    rw [fold f3, fold f7, fold f8, fold f9]
    have hu1 := row_cell1 (Row.of_own ho)
    (refine W_seq ?_; refine W_region ?_; refine Ls (X_lss rfl rfl) ?_; refine L_nil ?_; refine tn ?_; refine W_seq ?_)
    refine W_condp rfl (fun h => ?_) (fun h => ?_)
    · have hlt : i < l.length := by omega
      obtain ⟨x, hx⟩ : ∃ x, l[i]? = some x := ⟨_, List.getElem?_eq_getElem hlt⟩
      obtain ⟨b, o, c', e, _, _, _, hR⟩ := hr.at hlt
      cases e
      (refine W_skip ?_; refine tn ?_; refine W_seq ?_; refine W_block ?_; refine W_seq ?_; refine W_region ?_; refine Ls (X_indexSn rfl rfl (by omega)) ?_; refine Ls (X_ldR rfl (hE.range hR) (j := i) (by omega) (ints_at hx)) ?_; refine Ls (X_assign (v := .int _ _) rfl) ?_; refine L_nil ?_; refine tn ?_; refine W_seq ?_; refine W_region ?_; refine Ls (X_assign (v := .int _ _) rfl) ?_; refine L_nil ?_; refine tn ?_; refine W_block ?_)
      refine W_loop (fun q f w' => ∃ k u, q = 8 - k ∧ k ≤ 8 ∧ f 3 = u ∧ f 5 = .int .u64 (x : Nat) ∧ f 6 = .int .i64 ((8 : Int) * (k : Nat)) ∧ f 7 = .slice (some ⟨b, o, none⟩) l.length c ∧ f 8 = .int .i64 (l.length : Nat) ∧ f 9 = .int .i64 (i : Nat) ∧ Ext w w' ∧ w'.ownsRow w.heap.size 5 1 u (i * 8 + k) (ints .u8 (encB (l.take i) ++ word x k))) 8 ?_ ?_
      · exact ⟨0, u, rfl, by omega, rfl, rfl, rfl, rfl, rfl, rfl, hE, by rw [show word x 0 = [] from rfl, List.append_nil]; exact ho⟩
      · clear hu1 ho f3
        rintro q f wi ⟨k, u, hq, hk, f3, f5, f6, f7, f8, f9, hE, ho⟩
        rw [fold f3, fold f5, fold f6, fold f7, fold f8, fold f9]
        have hu1 := row_cell1 (Row.of_own ho)
        (refine W_seq ?_; refine W_seq ?_; refine W_region ?_; refine Ls (X_move (v := .int _ _) rfl) ?_; refine Ls (X_lss rfl rfl) ?_; refine L_nil ?_; refine tn ?_)
        refine W_condp rfl (fun h => ?_) (fun h => ?_)
        · have hk7 : k ≤ 7 := by omega
          (refine W_skip ?_; refine tn ?_; refine W_seq ?_; refine W_block ?_; refine W_region ?_; refine Ls (X_move (v := u) rfl) ?_; refine Ls (X_move (v := .int _ _) rfl) ?_; refine Ls (X_move (v := .int _ _) rfl) ?_; refine Ls (X_shr rfl rfl (by omega)) ?_; refine Ls ((X_conv rfl).trans (by rw [shr_byte x k hk7])) ?_)
          refine L_lit1 (v := .int .u8 _) rfl rfl ?_
          intro u2 w3 r3 E3 hs3 _
          refine L_append (v := u) (u := u2) rfl rfl (own_ext ho E3) r3 (fun q hq => by rw [List.mem_singleton.1 hq]; rfl) (by omega) (by omega) (by have := hE.size; have := E3.size; omega) ?_
          intro u4 w4 o4 hg4 _
          (refine Ls (X_assign (v := u4) rfl) ?_; refine L_nil ?_; refine bn ?_; refine tn ?_; refine W_region ?_; refine Ls (X_move (v := .int _ _) rfl) ?_; refine Ls (X_addi rfl rfl (by omega)) ?_; refine Ls (X_assign (v := .int _ _) rfl) ?_; refine L_nil ?_; refine tn ?_)
          refine ⟨8 - (k + 1), by omega, k + 1, u4, rfl, by omega, rfl, rfl, ?_, rfl, rfl, rfl, (hE.trans E3).then hg4 (fun q hq => (own_obj ho q hq).1), ?_⟩
          · rw [show (8 : Int) * ((k + 1 : Nat) : Int) = 8 * (k : Int) + 8 by omega]; rfl
          · rw [word_succ, ← List.append_assoc, ints_app]
            exact o4
        · have hk8 : k = 8 := by omega
          subst hk8
          (refine W_exit ?_; refine te ?_; refine te ?_; refine bx ?_; refine bn ?_; refine tn ?_; refine W_region ?_; refine Ls (X_addi rfl rfl (by omega)) ?_; refine Ls (X_move (v := .int _ _) rfl) ?_; refine L_nil ?_; refine tn ?_)
          refine ⟨l.length - (i + 1), by omega, i + 1, u, rfl, by omega, rfl, rfl, rfl, rfl, hE, ?_⟩
          rw [List.take_add_one, hx, encB_app, show (some x).toList = [x] from rfl, encB_one, Nat.succ_mul]
          exact ho
    · have hil : i = l.length := by omega
      rw [hil, List.take_length] at ho
      (refine W_exit ?_; refine te ?_; refine te ?_; refine bx ?_; refine tn ?_; refine W_seq ?_; refine W_region ?_; refine Ls (X_move (v := u) rfl) ?_; refine Ls (X_assign (v := u) rfl) ?_; refine L_nil ?_; refine tn ?_; refine W_ret ?_)
      exact endQ_ret1 rfl rfl (v := u) rfl ⟨u, rfl, hE, by rw [encB_len]; exact ho⟩
set_option maxRecDepth 100000 in
set_option maxHeartbeats 4000000 in
theorem gleaves (N : Nat → Prop) (v : Value) (M : List (List Nat)) (L : Nat) (hL : ∀ r ∈ M, r.length = L) (hM1 : 1 ≤ M.length) (hM : M.length ≤ 65536) (hL6 : L ≤ 65536) (w : World) (hP : PartN N w .u64 v M) :
    Calls Tryz.prog 55 #[v] w fun e w' => ∃ q, e = .returned q ∧ Ext w w' ∧ PartN (fun k => w.heap.size ≤ k) w' .u8 q ((List.range L).map fun j => encB (colM M j)) := by
  obtain ⟨A, c, rfl, _⟩ := hP.form
  have hP := hP.tight
  refine calls_T Tryz.func55 rfl Tryz.ntmps55 rfl ?_
  refine T_seq ?_
  (refine W_region ?_; refine Ls (X_assign (v := .slice _ _ _) rfl) ?_; refine L_nil ?_; refine tn ?_)
  refine T_seq ?_
  (refine W_region ?_)
  refine L_alloc ?_
  intro g3 w1 B3 hg3 E1 hs1
  (refine L_nil ?_; refine tn ?_)
  refine T_seq2 ?_
  (refine W_region ?_; refine Ls (X_move (v := .slice _ _ _) rfl) ?_)
  refine L_fo rfl (gcolsMk (.slice A M.length c) rfl w1) ?_
  rintro q w2 ⟨b, rfl, E2, Bb, hb⟩
  (refine L_nil ?_; refine tn ?_)
  have E12 := E1.trans E2
  have hlb := Bb.lt
  refine T_rangeM (ps := [8, 9]) (fun k => w.heap.size ≤ k ∧ k ≠ b) rfl (enters_of Tryz.func118 (by kernel_rfl) rfl) (fun i vs a h => by obtain ⟨_, _, rfl, _⟩ := h; rfl) (gcols (fun k => w.heap.size ≤ k ∧ k ≠ b) (fun k => N k ∧ k < w.heap.size) b _ M L hL hM1 hM (by omega) w2 Bb (hP.ext E12) (fun h => h.2 rfl) (fun k hk h => by omega))
    (fun i y => ∃ u xs, Blk y g3 102 [u] ∧ y.ownsRow w.heap.size 129 1 u i xs ∧ (∀ j x, xs[j]? = some x → y.ownsRow w.heap.size 5 1 x (encB (colM M j)).length (ints .u8 (encB (colM M j)))) ∧ (∀ q, u.ownBlock = some q → q ≠ b) ∧ i ≤ L) (fun _ => False)
    (fun i x y h C => by obtain ⟨u, xs, h1, h2, h3, h4, h5⟩ := h; exact ⟨u, xs, C.blk h1, C.own h2, fun j z hz => C.own (h3 j z hz), h4, h5⟩) (fun _ _ h _ => h) ⟨.slice none 0 0, [], B3.ext E2, ⟨rfl, .inl ⟨rfl, rfl⟩⟩, (fun _ _ h => by cases h), (fun _ h => by cases h), by omega⟩
    (fun i vs a f' y => i < L ∧ ∃ q, y = a ∧ a.ownsRow w2.heap.size 29 1 q M.length (ints .u64 (colM M i)) ∧ f' 3 = .pointer (some ⟨g3, 0, none⟩) ∧ f' 5 = q) (fun i vs a f' b h => by obtain ⟨_, _, rfl, _⟩ := h; exact Ext.refl _) (fun lp vs i y hi hM hp => ?_) (fun lp i vs a f' z y hi hMu hp hga hac hbc => ?_) (fun D y hD hdn hMu hbD => ?_)
  · obtain ⟨hiL, q, rfl, oq⟩ := hp
    have hq1 := row_cell1 (Row.of_own oq)
    (refine W_region ?_; refine Ls (X_assign (v := q) rfl) ?_; refine L_nil ?_)
    exact ⟨rfl, hiL, q, rfl, oq, rfl, rfl⟩
  · obtain ⟨u, xs, I1, I2, I3, I4, I5⟩ := hi
    obtain ⟨hiL, q, rfl, oq, f3, f5⟩ := hga
    have oq := hac.own oq
    have hq1 := row_cell1 (Row.of_own oq)
    have hu1 := row_cell1 (Row.of_own I2)
    have hMs := hMu.size
    have hlb' : b < y.heap.size := by omega
    have hcl := colM_len M i
    rw [fold f3, fold f5]
    (refine W_block ?_)
    apply W_dagE 4 (by kernel_rfl)
    (apply DW_x (fun r w hA hH => (X_ld rfl (I1.ext hA) rfl).trans rfl); apply DW_x (fun r w hA hH => (X_move (v := q) rfl).trans rfl))
    ((with_reducible apply DW_fo); (exact fun _ => rfl); (exact fun _ => rfl); (exact fun r w hA hH => calls_own hA (gencodeB _ _ q (colM M i) (by omega) w ((Row.of_own (own_ext oq hA)).re hcl.symm rfl))); (exact fun _ _ _ _ _ _ E h => OwnF.ext E h))
    apply DW_lit1 (w0 := y) (fun r => r 2) (fun r => rfl) (fun r w hA hH => (by obtain ⟨_, _, o⟩ := hH 2 rfl; exact row_cell1 (Row.of_own o))) (fun w hA => hA.size) (fun r v => rfl)
    ((with_reducible exact D_end); (exact rfl); (repeat (first | exact .inr (.inr (fun _ _ => by with_reducible rfl)) | (refine And.intro ?_ ?_) | exact .inr (.inl rfl) | exact .inl (by decide +kernel) | exact trivial | exact .inr (.inr (fun _ _ => rfl)))); (try dsimp only [Nat.reduceAdd]))
    intro r y1 F1 H1
    obtain ⟨bq, hbq, o2⟩ : OwnF y 5 1 (r 2) _ _ y1 := H1 2
    obtain ⟨l3, h3, hl3, r3⟩ : RowF y 1 (r 3) 1 [r 2] y1 := H1 3
    have hr2 := row_cell1 (Row.of_own o2)
    refine L_append (v := u) (u := r 3) rfl rfl (own_ext I2 F1) r3 (fun x hx => by rw [List.mem_singleton.1 hx]; exact hr2) (by omega) (by omega) (by have := F1.size; have := E12.size; omega) ?_
    intro u4 y4 o4 hg4 hb4
    have hu4 := row_cell1 (Row.of_own o4)
    have I2' := own_ext I2 F1
    have G3 := (I1.ext F1).grown hg4 (fun h => by
      obtain ⟨_, cs, fz, e⟩ := own_obj I2' g3 h
      exact blk_ty (I1.ext F1) e (by decide))
    have hxo : ∀ (x : Value) (m : Nat) (l : List Value) (bs : Nat), y1.ownsRow bs 5 1 x m l → y4.ownsRow bs 5 1 x m l := fun x m l bs h => own_other h hg4 (fun g hg e => by
      obtain ⟨_, cs, fz, e1⟩ := own_obj h g hg
      obtain ⟨_, cs', fz', e2⟩ := own_obj I2' g e
      rw [e1] at e2
      cases e2)
    have hub4 : ∀ q, u4.ownBlock = some q → q ≠ b := fun q hq => by
      rcases hb4 with h | h
      · rw [h] at hq; exact I4 q hq
      · rw [h] at hq
        have := Option.some.inj hq
        have := F1.size
        omega
    have M4 : Mut (fun k => w.heap.size ≤ k ∧ k ≠ b) y y4 := (Mut.of_ext F1).trans (Mut.app I2' hg4 (fun q hq => ⟨(own_obj I2' q hq).1, I4 q hq⟩))
    refine L_store1 (v := u4) rfl rfl hu4 G3 (by simp) ?_
    intro y5 G3' hg5 hs5
    (refine L_nil ?_; refine bn ?_)
    have hx5 : ∀ (x : Value) (m : Nat) (l : List Value) (bs : Nat), y4.ownsRow bs 5 1 x m l → y5.ownsRow bs 5 1 x m l := fun x m l bs h => own_other h hg5 (fun g hg e => by
      obtain rfl : g3 = g := Option.some.inj e
      obtain ⟨_, cs, fz, e1⟩ := own_obj h g3 hg
      exact blk_ty G3 e1 (by decide))
    have hil : xs.length = i := by rw [I2.1, Nat.mul_one]
    refine ⟨M4.trans (Mut.store G3 hg5 ⟨by omega, by omega⟩), u4, xs ++ [r 2], G3', own_other o4 hg5 (fun g hg e => by
      obtain rfl : g3 = g := Option.some.inj e
      obtain ⟨_, cs, fz, e1⟩ := own_obj o4 g3 hg
      exact blk_ty G3 e1 (by decide)), fun j x hx => ?_, hub4, by omega⟩
    rcases Nat.lt_or_ge j i with hji | hji
    · rw [List.getElem?_append_left (by omega)] at hx
      exact hx5 _ _ _ _ (hxo _ _ _ _ (own_ext (I3 j x hx) F1))
    · have hje : j = i := by
        have := (List.getElem?_eq_some_iff.1 hx).1
        rw [List.length_append, hil] at this
        simp at this
        omega
      subst hje
      rw [List.getElem?_append_right (by omega), hil, Nat.sub_self] at hx
      cases hx
      exact hx5 _ _ _ _ (hxo _ _ _ _ (own_base o2 (by have := E12.size; omega)))
  · obtain ⟨i, hfin, u, xs, I1, I2, I3, I4, I5⟩ : ∃ i, i = L ∧ ∃ u xs, Blk y g3 102 [u] ∧ y.ownsRow w.heap.size 129 1 u i xs ∧ (∀ j x, xs[j]? = some x → y.ownsRow w.heap.size 5 1 x (encB (colM M j)).length (ints .u8 (encB (colM M j)))) ∧ (∀ q, u.ownBlock = some q → q ≠ b) ∧ i ≤ L := hdn.elim id False.elim
    rw [hfin] at I2
    have hu1 := row_cell1 (Row.of_own I2)
    refine T_of_W ?_
    (refine W_seq ?_; refine W_region ?_; refine Ls (X_ld rfl I1 rfl) ?_; refine Ls (X_assign (v := u) rfl) ?_; refine L_nil ?_; refine tn ?_; refine W_ret ?_)
    refine endQ_marks w2.heap.size [D] rfl rfl (by simp) (fun D' h => ?_) (fun w' hc => ⟨Res.tmp (v := u) rfl .nil, u, rfl, ?_, xs, ?_, ?_, fun j x d hx hd => ?_⟩)
    · rw [List.mem_singleton.1 h]; exact ⟨by omega, hbD⟩
    · exact hc.toExt (hMu.toExt E12 (fun k h => h.1)) (by have := E12.size; omega)
    · rw [I2.1]; simp
    · rw [List.length_map, List.length_range]
      exact (RowN.of_own (hc.own I2)).mono fun k hk => hk.1
    · have hjL : j < L := by
        have := (List.getElem?_eq_some_iff.1 hd).1
        simpa using this
      rw [List.getElem?_map, List.getElem?_range hjL] at hd
      cases hd
      exact (RowN.of_own (hc.own (I3 j x hx))).mono fun k hk => hk.1
end Go.Proofs.YtpohjepbmgeplaaGreatDoor
