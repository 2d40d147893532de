/- VH, VJ, VI, VK, VL, VM, VO, VP, VQ, VR. -/
import Derived.Test.YtlggfbglpcegoaaGreatDoorQ2
import Derived.RecoverIn
import Derived.WideLaws
import Derived.TacticsInMore
namespace Go.Proofs.K
open Go.RowKit
section
variable {R : Nat → World → World → Prop} {P : Program} {n : NN} {ops : Array Oper} {A : Nat → World → Prop} {Fin : List Oper → (Rho → Fr) → (Rho → Nat → World → Prop) → Prop} {rest : List Oper} {k : Nat} {E : List Ent} {g : Rho → Fr} {H : Rho → Nat → World → Prop} {d : Tmp} {t : TypeId} {pos : String} {af : Array Edge}
theorem DW_appS {bl : Option Nat} {size bytes m q base : Nat} {ty e : TypeId} {v u : Value} {xs ys : List Value} {x y : Operand} [TSlice P ty e] [hz : TElem P e size bytes]
    (hx : ∀ r, ev n (g r) x = v) (hy : ∀ r, ev n (g r) y = u) (hbl : v.ownBlock = bl) (hA : ∀ w, A k w → w.ownsRow base e size v m xs ∧ base ≤ w.heap.size) (hrow : ∀ w, A k w → ∃ lo hi, Row w lo hi size u q ys)
    (h1 : ∀ q ∈ ys, q.oneCell' = true) (hb : (m + q) * bytes ≤ 140737488355328) (hm : m + q ≤ 9223372036854775807)
    (hr : DW (RA k bl e size m) P n ops A Fin rest (k + 1) E (fun r => upd (g r) d (r k)) (fun r j w => bif Nat.beq j k then w.ownsRow base e size (r k) (m + q) (xs ++ ys) else H r j w)) :
    DW (RA k bl e size m) P n ops A Fin (⟨some d, .call ⟨.builtin .append, #[x, y], #[ty, ty]⟩, t, pos, af, none⟩ :: rest) k (.op (fun r w => w.ownsRow base e size (r k) (m + q) (xs ++ ys)) :: E) g H := by
  obtain ⟨z, h0, hzs, hsz⟩ := hz.h; haveI : TInfo P e size bytes z := ⟨h0⟩; refine DW_dr (F := fun _ u w => w.ownsRow base e size u (m + q) (xs ++ ys)) ?_ ?_ (fun _ _ => rfl) hr
  · intro r w hAw hH; obtain ⟨lo, hi, hR⟩ := hrow w hAw; obtain ⟨ho, hbs⟩ := hA w hAw; obtain ⟨v', w', hX, h2, h3, _, h5⟩ := q7e (P := P) (ty := t) (t := ty) hzs hsz ho hR h1 hb hm hbs; exact ⟨v', w', q7s (hx r) (hy r) hX, .inr ⟨rfl, hbl ▸ h3, h5⟩, h2⟩
  · exact fun i r u w w' hi _ hR hF => q2p hF (hR.other hi)
end
end Go.Proofs.K
namespace Go.Proofs.YtlggfbglpcegoaaGreatDoor
open Go.RowKit Go.Proofs.K
theorem q8o {k : IntKind} {I : List Nat} {i x : Nat} (h : I[i]? = some x) : (ints k I)[i]? = some (.int k (x : Nat)) := by unfold ints; rw [List.getElem?_map, h]; rfl
set_option maxRecDepth 100000 in
set_option maxHeartbeats 1000000 in
theorem gdigest (B p : Nat) (ds : List Nat) (l : List Nat) (w : World) (hd : ds.length = 32) (hl : l.length ≤ 99999000) (hB : B ≤ w.heap.size) (he : EncAt B p w l) :
    Calls Tryz.prog 32 #[ptr p, .agg (ints .u8 ds).toArray] w (EncR B p l ds w) := by
  refine q0k Tryz.func32 rfl Tryz.ntmps32 rfl ?_; have hp := he.lt; (refine q0b<|q0a ?_); refine q3k (l := ints .u8 ds) rfl ?_; intro g2 w2 B2 hg2 E2 hs2; obtain ⟨v, bv, ov⟩ := he.ext E2; have hne := z0j ov bv; have hv1 := q5l (Row.of_own ov); have hne2 : ∀ q, v.ownBlock = some q → q ≠ g2 := by
    rintro q hq rfl; obtain ⟨_, cs, fz, h⟩ := q8f ov q hq; have h' : w2.heap[q]? = some (.cells _ _ _) := B2; rw [h] at h'; cases h'
  have BA : ∀ {u : World}, AA w2 v.ownBlock B 5 1 v l.length (ints .u8 l) u → Blk u p 88 [v] := fun hA => bv.grown hA.g (fun h => hne _ h rfl); have BD : ∀ {u : World}, AA w2 v.ownBlock B 5 1 v l.length (ints .u8 l) u → Blk u g2 23 (ints .u8 ds) := fun hA => B2.grown hA.g (fun h => hne2 _ h rfl); have hB2 := Nat.le_trans hB E2.size; (refine q0c<|tn ?_); apply W_dagR (R := RA 6 v.ownBlock 5 1 l.length) (AA w2 v.ownBlock B 5 1 v l.length (ints .u8 l)) 7 (by kernel_rfl) (RA.refl _ _ _ _ _) (AA.new ov) AA.step; (apply DW_x (fun r w hA hH => (q0e (v := .pointer _) rfl).trans rfl); apply DW_x (fun r w hA hH => (q0e (v := .pointer _) rfl).trans rfl); apply DW_x (fun r w hA hH => (q1t rfl).trans rfl); apply DW_x (fun r w hA hH => (q0g rfl).trans rfl); apply DW_x (fun r w hA hH => (X_ld rfl (BA hA) rfl).trans rfl)); with_reducible apply DW_x (V := fun _ => .slice (some ⟨g2, 0, none⟩) 32 32)
  exact fun r u hA hH => q6t (m := 32) (size := 1) (i := 0) (j := 32) rfl rfl rfl (by decide) (by decide); with_reducible apply DW_appS (v := v) (u := .slice (some ⟨g2, 0, none⟩) 32 32) (q := 32) (size := 1) (bytes := 1) (m := l.length) (base := B) (xs := ints .u8 l) (ys := ints .u8 ds)
  exact fun r => rfl; exact fun r => rfl; rfl; exact fun u hA => ⟨hA.o, Nat.le_trans hB2 hA.g.size⟩; exact fun u hA => ⟨g2, g2 + 1, Row.of_blkH (BD hA) (by omega) (by unfold maxLen; omega) (by rw [q0v, hd]) fun j u h => by rw [Nat.zero_add]; exact h⟩; exact fun q hq => q1v q hq; omega; omega; ((with_reducible exact q1y); (exact rfl); (repeat (first | exact .inr (.inr (fun _ _ => by with_reducible rfl)) | (refine And.intro ?_ ?_) | exact .inr (.inl rfl) | exact .inl (by decide +kernel) | exact trivial | exact .inr (.inr (fun _ _ => rfl)))); (try dsimp only [Nat.reduceAdd])); intro r w3 hA H; have o3 : w3.ownsRow B 5 1 (r 6) (l.length + 32) (ints .u8 l ++ ints .u8 ds) := H 6; have b3 := BA hA; have k3 : EncK B p w w3 := (EncK.of_ext E2).trans (EncK.own ov hA.g); generalize r 6 = v3 at *; have hv3 := q5l (Row.of_own o3); (refine Ls (q1t rfl)<|Ls (q0g rfl) ?_); refine q1d (v := v3) rfl rfl hv3 b3 (by simp) ?_; intro w4 b4 hg4 _; have hne4 := z0j o3 b3; have o4 := q7i o3 hg4 fun q hq e => hne4 q hq (Option.some.inj e).symm; (refine q0c ?_); refine q1n rfl rfl ?_; refine ⟨rfl, ⟨v3, b4, ?_⟩, k3.trans (EncK.set hg4)⟩; rw [q4a, List.length_append, hd]; exact o4
end Go.Proofs.YtlggfbglpcegoaaGreatDoor
namespace Go.Proofs.K
open Go.RowKit
section
variable {P : Program} {n : NN} {Q : Exit → Fr → World → Prop} {f : Fr} {w : World} {ops : Array Oper} {rest : List Oper} {d : Tmp} {t ty e : TypeId} {pos : String} {af : Array Edge} {x : Operand} {k : IntKind}
theorem q9v {dd : Option Tmp} {g : Option (Nat × Bool)} {T : TypeId} {v : Value} (hx : ev n f x = .iface T v) : X P n ⟨dd, .panic x, t, pos, af, g⟩ f w = .halt (.panic (.iface T v)) w := by
  simp [X, execOp, hx, Instr.panic, goPanic]
theorem q6l {dd : Option Tmp} {g : Option (Nat × Bool)} [hs : TInt P ty k] {v : Value} (hx : ev n f x = v) : X P n ⟨dd, .makeInterface ty x, t, pos, af, g⟩ f w = .ok (.value (.iface ty v)) w := by
  subst hx; simp [X, execOp, Instr.makeInterface, run_underlying hs.h]
theorem X_s2ap {dd : Option Tmp} {g : Option (Nat × Bool)} {m : Nat} [hs : TArr P ty m e] {A : Option Addr} {len c : Nat} (hx : ev n f x = .slice A len c) (h : m ≤ len) : X P n ⟨dd, .sliceToArrayPointer ty x, t, pos, af, g⟩ f w = .ok (.value (.pointer A)) w := by
  have h' : ¬ len < m := by omega
  simp [X, execOp, hx, Instr.arrayAt, run_underlying hs.h, h']
theorem q6n {id : FuncId} [TFun P id] {l : List Operand} {vl : List Value} {tys : Array TypeId} {R : Ending → World → Prop} (c : Calls P id vl.toArray w R) (ha : l.map (ev n f) = vl)
    (h : ∀ e w', R e w' → (∃ v, e = .returned v ∧ L P n ops Q rest (upd f d v) w') ∨ ∃ ch, e = .panicked ch ∧ Q (.panic ch) f w') : L P n ops Q (⟨some d, .call ⟨.value (.func id), l.toArray, tys⟩, t, pos, af, none⟩ :: rest) f w :=
  L_callZ rfl (X_fn ha) c h
theorem q8r {id : FuncId} [TFun P id] {l : List Operand} {vl : List Value} {tys : Array TypeId} {first cap : Array Value} {R : Ending → World → Prop} (hx : ev n f x = .func (.func id) first cap) (c : Calls P id (first ++ vl.toArray ++ cap) w R) (ha : l.map (ev n f) = vl)
    (h : ∀ e w', R e w' → (∃ v, e = .returned v ∧ L P n ops Q rest (upd f d v) w') ∨ ∃ ch, e = .panicked ch ∧ Q (.panic ch) f w') : L P n ops Q (⟨some d, .call ⟨.value x, l.toArray, tys⟩, t, pos, af, none⟩ :: rest) f w :=
  L_callZ rfl (X_clo hx ha) c h
theorem L_sliceN {N : Nat → Prop} {size m i j : Nat} [hs : TSlice P ty e] [hz : TSz P e size] {v : Value} {xs : List Value} {lo hi : Option Operand} (hx : ev n f x = v) (hr : RowN N w size v m xs)
    (hlo : match lo with | none => i = 0 | some o => ∃ k, ev n f o = .int k (i : Int)) (hhi : match hi with | none => j = m | some o => ∃ k, ev n f o = .int k (j : Int)) (hij : i ≤ j) (hj : j ≤ m)
    (h : ∀ u, RowN N w size u (j - i) ((xs.drop (i * size)).take ((j - i) * size)) → L P n ops Q rest (upd f d u) w) : L P n ops Q (⟨some d, .slice ty x lo hi none, t, pos, af, none⟩ :: rest) f w := by
  obtain ⟨l, hh, hN, R⟩ := hr; obtain ⟨A, c, e, hc, hm⟩ := RowN.form ⟨l, hh, hN, R⟩; subst e; exact Ls (q3z hx hlo hhi hij (Nat.le_trans hj hc)) (h _ ⟨l, hh, hN, R.slice rfl hij hj⟩)
end
end Go.Proofs.K
namespace Ce
theorem numN_snoc : ∀ (l : List Nat) (x : Nat), numN (l ++ [x]) = numN l + x * 256 ^ l.length
  | [], x => by simp [numN]
  | b :: l, x => by
    show b + 256 * numN (l ++ [x]) = b + 256 * numN l + x * 256 ^ (l.length + 1); rw [numN_snoc l x, Nat.pow_succ, Nat.mul_add]; have : 256 * (x * 256 ^ l.length) = x * (256 ^ l.length * 256) := (by rw [← Nat.mul_assoc, Nat.mul_comm 256 x, Nat.mul_assoc, Nat.mul_comm 256 (256 ^ l.length)]); omega
end Ce
namespace Go.Proofs.YtlggfbglpcegoaaGreatDoor
open Go.RowKit Go.Proofs.K
structure DecAt (N : Nat → Prop) (p : Nat) (w : World) (l : List Nat) : Prop where
  h : ∃ v, Blk w p 81 [v] ∧ RowN N w 1 v l.length (ints .u8 l)
  b : ∀ b ∈ l, b < 256
  n : ∀ q, N q → q ≠ p ∧ q < w.heap.size
theorem DecAt.grown {N : Nat → Prop} {p : Nat} {w w' : World} {l : List Nat} {row : Option Nat} (h : DecAt N p w l) (hg : w.grownBy w' row) (hp : row ≠ some p) (hN : ∀ q, row = some q → ¬ N q) : DecAt N p w' l := by
  obtain ⟨⟨v, b, r⟩, h8, hn⟩ := h; exact ⟨⟨v, b.grown hg hp, r.grown hg hN⟩, h8, fun q hq => ⟨(hn q hq).1, Nat.lt_of_lt_of_le (hn q hq).2 hg.size⟩⟩
theorem DecAt.ext {N : Nat → Prop} {p : Nat} {w w' : World} {l : List Nat} (h : DecAt N p w l) (E : Ext w w') : DecAt N p w' l := by
  obtain ⟨⟨v, b, r⟩, h8, hn⟩ := h; exact ⟨⟨v, b.ext E, r.ext E⟩, h8, fun q hq => ⟨(hn q hq).1, Nat.lt_of_lt_of_le (hn q hq).2 E.size⟩⟩
theorem DecAt.lt {N : Nat → Prop} {p : Nat} {w : World} {l : List Nat} (h : DecAt N p w l) : p < w.heap.size := by
  obtain ⟨⟨v, b, r⟩, h8, hn⟩ := h; exact q2b b
abbrev erV (x : Nat) : List PanicEntry := [{ v := .iface 55 (.int .i64 (x : Nat)), recovered := false }]
def DecR {α : Type} (S : Ce.Ps α) (R : Rep α) (V : List Value → Value) (N : Nat → Prop) (p : Nat) (l : List Nat) (w : World) (e : Ending) (w' : World) : Prop :=
  w.grownBy w' (some p) ∧ match S l with
    | .err x => e = .panicked (erV x)
    | .got a r => ∃ y, e = .returned (V y) ∧ R (fun k => w.heap.size ≤ k ∧ k < w'.heap.size) w' y a ∧ DecAt N p w' r
set_option maxRecDepth 100000 in
set_option maxHeartbeats 1000000 in
theorem dtake (N : Nat → Prop) (p n : Nat) (l : List Nat) (w : World) (hn : n ≤ 4294967296) (he : DecAt N p w l) :
    Calls Tryz.prog 97 #[.pointer (some ⟨p, 0, none⟩), .int .i64 (n : Nat)] w fun e w' => w.grownBy w' (some p) ∧ match Ce.take n l with
      | .err x => e = .panicked (erV x)
      | .got a r => ∃ v, e = .returned v ∧ a.length = n ∧ RowN N w' 1 v a.length (ints .u8 a) ∧ DecAt N p w' r := by
  refine q0k Tryz.func97 rfl Tryz.ntmps97 rfl ?_; obtain ⟨⟨v, bv, rv⟩, h8, hn8⟩ := he; obtain ⟨A, c, e, hlc, hcm⟩ := rv.form; subst e; (refine q0b<|q0a<|a_S rfl<|q0c<|tn<|q0b<|q0b<|q0a<|m_P rfl<|Ls (q1t rfl)<|Ls (q0g rfl)<|Ls (X_ld rfl bv rfl)<|Ls (q0h rfl)<|m_I rfl<|Ls (q2f rfl rfl)<|q0c<|tn ?_); refine q1b rfl (fun h => ?_) (fun h => ?_)
  · have hl : l.length < n := (by omega); (refine q0a ?_); refine Ls (q6l rfl) ?_; refine L_halt rfl rfl (q9v rfl) ?_; refine ⟨rfl, World.grownBy.refl _ _, ?_⟩; unfold Ce.take; rw [if_pos hl]; rfl
  · have hl : n ≤ l.length := (by omega); (refine q0n<|tn<|q0b<|q0a<|m_P rfl<|Ls (q1t rfl)<|Ls (q0g rfl)<|Ls (X_ld rfl bv rfl)<|m_I rfl ?_); refine L_sliceN (i := 0) (j := n) rfl rv rfl ⟨_, rfl⟩ (by omega) hl ?_; intro u1 r1; have hu1 := r1.cell1; (refine Ls (q0i (v := u1) rfl)<|q0c<|tn<|q0b<|q0a<|m_P rfl<|m_P rfl<|Ls (q1t rfl)<|Ls (q0g rfl)<|Ls (X_ld rfl bv rfl)<|m_I rfl ?_); refine L_sliceN (i := n) (j := l.length) rfl rv ⟨_, rfl⟩ rfl hl (Nat.le_refl _) ?_; intro u2 r2; have hu2 := r2.cell1; (refine Ls (q1t rfl)<|Ls (q0g rfl) ?_); refine q1d (v := u2) rfl rfl hu2 bv (by simp) ?_; intro w1 b1 hg1 _; (refine q0c<|tn<|q0b<|q0a<|Ls (q0e (v := u1) rfl)<|Ls (q0i (v := u1) rfl)<|q0c<|tn<|q0s ?_); refine q0f rfl rfl (v := u1) rfl ?_; refine ⟨hg1, ?_⟩; have hN : ∀ q, some p = some q → ¬ N q := fun q hq h => (by cases hq; exact (hn8 _ h).1 rfl); have ht : (l.take n).length = n := (by rw [List.length_take]; omega); unfold Ce.take; rw [if_neg (by omega)]; refine ⟨u1, rfl, ht, (r1.re (by omega) ?_).grown hg1 hN, ⟨u2, b1, (r2.re ?_ ?_).grown hg1 hN⟩, fun b hb => h8 b (List.mem_of_mem_drop hb), fun q hq => ⟨(hn8 q hq).1, Nat.lt_of_lt_of_le (hn8 q hq).2 hg1.size⟩⟩
    · rw [Nat.zero_mul, List.drop_zero, Nat.mul_one, Nat.sub_zero, q9k]
    · rw [List.length_drop]
    · rw [Nat.mul_one, Nat.mul_one, ints_drop, q9k, List.take_of_length_le (by rw [List.length_drop]; omega)]
theorem shlB {x i : Nat} (hx : x < 256) (hi : i ≤ 7) : IntKind.u64.wrap ((x : Int) * 2 ^ min ((8 : Int) * (i : Int)).toNat IntKind.u64.bits) = ((x * 256 ^ i : Nat) : Int) := by
  have h1 : ((8 : Int) * (i : Int)).toNat = 8 * i := by omega
  have h2 : min (8 * i) IntKind.u64.bits = 8 * i := by
    show min (8 * i) 64 = 8 * i; omega
  have h3 : x * 256 ^ i < 18446744073709551616 := by
    have h4 : 256 ^ i ≤ 256 ^ 7 := Nat.pow_le_pow_right (by decide) hi; have h5 : x * 256 ^ i ≤ 255 * 256 ^ 7 := Nat.mul_le_mul (by omega) h4; exact Nat.lt_of_le_of_lt h5 (by decide)
  rw [h1, h2, show ((x : Int) * 2 ^ (8 * i)) = ((x * 256 ^ i : Nat) : Int) by rw [show (256 : Nat) = 2 ^ 8 from rfl, ← Nat.pow_mul]; push_cast; rfl, z0z, Nat.mod_eq_of_lt h3]
theorem orB {s x i : Nat} (hs : s < 256 ^ i) (hx : x < 256) (hi : i ≤ 7) : bits .or .u64 (s : Int) ((x * 256 ^ i : Nat) : Int) = ((s + x * 256 ^ i : Nat) : Int) := by
  have h4 : 256 ^ i ≤ 256 ^ 7 := Nat.pow_le_pow_right (by decide) hi; have h5 : x * 256 ^ i ≤ 255 * 256 ^ 7 := Nat.mul_le_mul (by omega) h4; have h6 : (255 * 256 ^ 7 : Nat) < 18446744073709551616 := by decide
  have h7 : (256 ^ 7 : Nat) < 18446744073709551616 := by decide
  rw [bits_u64_or s _ (by omega) (by omega)]; have h8 : (256 : Nat) ^ i = 2 ^ (8 * i) := by rw [Nat.pow_mul]
  rw [h8] at hs ⊢; rw [Nat.or_comm, Nat.mul_comm, ← Nat.two_pow_add_eq_or_of_lt hs, Nat.add_comm]
set_option maxRecDepth 100000 in
set_option maxHeartbeats 1000000 in
theorem dfixed (N : Nat → Prop) (p k : Nat) (l : List Nat) (w : World) (hk : k ≤ 8) (he : DecAt N p w l) :
    Calls Tryz.prog 98 #[.pointer (some ⟨p, 0, none⟩), .int .i64 (k : Nat)] w fun e w' => w.grownBy w' (some p) ∧ match Ce.num k l with
      | .err x => e = .panicked (erV x)
      | .got a r => e = .returned (.int .u64 (a : Nat)) ∧ a < 256 ^ k ∧ DecAt N p w' r := by
  refine q0k Tryz.func98 rfl Tryz.ntmps98 rfl ?_; have hl8 : ∀ b ∈ l, b < 256 := he.b; have ct := dtake N p k l w (by omega) he; have hnum : ∀ x, Ce.take k l = x → Ce.num k l = x.bind fun l => Ce.Ps.pure (Ce.numN l) := fun x h => by rw [← h]; rfl
  (refine q0b<|q0a<|a_I rfl<|q0c<|tn<|q0b<|q0a<|a_I rfl<|q0c<|tn<|q0b<|q0b<|q0a<|m_P rfl<|m_I rfl ?_); cases hS : Ce.take k l with
  | err x =>
    rw [hS] at ct; rw [hnum _ hS]; refine q6n ct rfl ?_; rintro e w1 ⟨hg1, rfl⟩; exact .inr ⟨_, rfl, rfl, hg1, rfl⟩
  | got a r =>
    rw [hS] at ct; rw [hnum _ hS]; have ha8 : ∀ b ∈ a, b < 256 := by
      have h1 : Ce.take k l = .got a r := hS; unfold Ce.take at h1; split at h1
      · cases h1
      · cases h1
        exact fun b hb => hl8 b (List.mem_of_mem_take hb)
    refine L_fn ct rfl ?_; rintro e w1 ⟨hg1, v, rfl, hak, rv, e1⟩; refine ⟨_, rfl, ?_⟩; obtain ⟨A, c, e, hlc, hcm⟩ := rv.form; subst e; (refine Ls (q0h rfl)<|m_I rfl<|q0c<|tn<|q0j ?_); refine q1k (fun q f w' => ∃ i, q = k - i ∧ i ≤ k ∧ f 5 = .int .u64 (Ce.numN (a.take i) : Nat) ∧ f 10 = .slice A a.length c ∧ f 11 = .int .i64 (a.length : Nat) ∧ f 12 = .int .i64 (i : Nat) ∧ w' = w1) k ?_ ?_
    · exact ⟨0, rfl, by omega, rfl, rfl, rfl, rfl, rfl⟩
    · rintro q f w2 ⟨i, rfl, hi, f5, f10, f11, f12, rfl⟩; rw [fold f5, fold f10, fold f11, fold f12]; have hlt := Ce.num_lt (a.take i) fun b hb => ha8 b (List.mem_of_mem_take hb); rw [List.length_take, Nat.min_eq_left (by omega)] at hlt; (refine q0b<|q0a<|Ls (q2f rfl rfl)<|q0c<|tn<|q0b ?_); refine q1b rfl (fun h => ?_) (fun h => ?_)
      · have hi' : i < a.length := (by omega); obtain ⟨x, hx⟩ : ∃ x, a[i]? = some x := ⟨_, List.getElem?_eq_getElem hi'⟩; have hx8 := ha8 x (List.mem_of_getElem? hx); have hi7 : i ≤ 7 := (by omega); obtain ⟨b, o, c', e, _, _, _, hcell⟩ := rv.at hi'; cases e
        (refine q0n<|tn<|q0b<|q0j<|q0b<|q0a<|m_I rfl<|Ls (q0p rfl rfl (by omega))<|Ls (q2g rfl hcell (j := i) (by omega) (q8o hx))<|a_I rfl<|a_I rfl<|q0c<|tn<|q0a<|m_I rfl<|m_I rfl<|Ls ((q3w rfl).trans (by rw [z0z, Nat.mod_eq_of_lt (show x < 18446744073709551616 by omega)]))<|m_I rfl<|Ls (q8p rfl rfl (by omega))<|Ls ((X_shl rfl rfl (by omega)).trans (by rw [shlB hx8 hi7]))<|Ls ((X_or rfl rfl).trans (by rw [orB hlt hx8 hi7]))<|a_I rfl<|q0c<|bn<|tn<|q0a<|Ls (q1j rfl rfl (by omega))<|m_I rfl<|q0c<|tn ?_); refine ⟨k - (i + 1), by omega, i + 1, rfl, by omega, ?_, rfl, rfl, rfl, rfl⟩; have : a.take (i + 1) = a.take i ++ [x] := (by rw [List.take_add_one, hx]; rfl); rw [this, Ce.numN_snoc, List.length_take, Nat.min_eq_left (by omega)]; rfl
      · obtain rfl : i = k := (by omega); (refine q1g<|te<|te<|bx<|tn<|q0b<|q0a<|m_I rfl<|a_I rfl<|q0c<|tn<|q0s ?_); refine q0f rfl rfl (v := .int .u64 _) rfl ?_; rw [List.take_of_length_le (by omega)] at hlt ⊢; exact ⟨hg1, rfl, hlt, e1⟩
end Go.Proofs.YtlggfbglpcegoaaGreatDoor
namespace Go.Proofs.YtlggfbglpcegoaaGreatDoor
open Go.RowKit Go.Proofs.K
theorem elemB {B p : Nat} {N : Nat → Prop} {l : List Nat} {w0 : World} (h : ∀ e ∈ l, e < 256) : q6y 30 #[ptr p] #[] B p N (numR .u8) (fun x => x.headD .nilIface) Ce.byteC.w l w0 := by
  intro i a ha w x l0 k hx hlen hB he; obtain rfl : x = [.int .u8 (a : Nat)] := hx; have h1 := h a (List.mem_of_getElem? ha); rw [show Ce.byteC.w a = [a] from by
    show Ce.byN 1 a = [a]
    simp [Ce.byN, List.range_succ]
    omega]
  exact gbyte B p a l0 w (by omega) hB he
def sumR : Rep Nat := fun _ _ x a => ∃ z : Int, x = [.int .i64 z] ∧ u64v z = a ∧ -9223372036854775808 ≤ z ∧ z ≤ 9223372036854775807
theorem q2l : sumR.Ok := ⟨fun h _ => h, fun h _ _ => h, fun h _ _ => h, fun h => h, fun h v hv => by
  obtain ⟨z, h, _⟩ := h
  subst h
  simp at hv
  subst hv
  rfl⟩
theorem elemI {B p : Nat} {N : Nat → Prop} {l : List Nat} {w0 : World} : q6y 34 #[ptr p] #[] B p N sumR (fun x => x.headD .nilIface) (Ce.numC 8).w l w0 := by
  intro i a ha w x l0 k hx hlen hB he; obtain ⟨z, rfl, rfl, _⟩ := hx; exact gsum B p z l0 w (by omega) hB he
theorem elemD {B p : Nat} {N : Nat → Prop} {l : List (List Nat)} {w0 : World} : q6y 32 #[ptr p] #[] B p N (byR 32) (fun x => .agg x.toArray) (Ce.raw 32).w l w0 := by
  intro i a ha w x l0 k hx hlen hB he; obtain ⟨rfl, hl⟩ := hx; exact gdigest B p a l0 w hl (by omega) hB he
structure CerAt (N : Nat → Prop) (w : World) (c : Ce.Cert) (qb : ByteArray) (s1 p1 p2 p3 b1 o1 o2 o3 o4 : Value) : Prop where
  q : c.q = sb qb
  s1 : slR 1 sumR N w [s1] c.sums
  p1 : slR 1 (slR 2 exR) N w [p1] c.rows
  p2 : slR 6 lpR N w [p2] c.ps
  p3 : slR 6 lpR N w [p3] c.pz
  b1 : slR 1 (slR 2 exR) N w [b1] c.batch
  o1 : slR 2 exR N w [o1] c.orow
  o2 : slR 2 exR N w [o2] c.ornd
  o3 : slR 1 (slR 1 (numR .u64)) N w [o3] c.cols
  o4 : slR 32 (byR 32) N w [o4] c.nodes
def cerC (c : Ce.Cert) (qb : ByteArray) (s1 p1 p2 p3 b1 o1 o2 o3 o4 : Value) : List Value :=
  [.string qb, .int .i64 (c.log : Nat)] ++ ints .u8 c.root ++ [.int .i64 (c.sR : Nat), .int .i64 (c.sC : Nat), .int .i64 (c.sB : Nat), .int .i64 (c.sT : Nat), s1, p1, p2, p3, b1, .int .u64 (c.v.1 : Nat), .int .u64 (c.v.2 : Nat), o1, o2, o3, o4]
theorem q1w {c : Ce.Cert} {qb : ByteArray} {s1 p1 p2 p3 b1 o1 o2 o3 o4 : Value} (hc : c.root.length = 32) {j : Nat} {u : Value} (h : [.int .i64 (c.sR : Nat), .int .i64 (c.sC : Nat), .int .i64 (c.sB : Nat), .int .i64 (c.sT : Nat), s1, p1, p2, p3, b1, .int .u64 (c.v.1 : Nat), .int .u64 (c.v.2 : Nat), o1, o2, o3, o4][j]? = some u) : (cerC c qb s1 p1 p2 p3 b1 o1 o2 o3 o4)[j + 34]? = some u := by
  unfold cerC; rw [List.append_assoc, List.getElem?_append_right (by simp), List.getElem?_append_right (by rw [q0v, hc]; simp)]; rw [show j + 34 - [Value.string qb, .int .i64 (c.log : Nat)].length - (ints .u8 c.root).length = j by rw [q0v, hc]; simp]; exact h
def cerR : Rep Ce.Cert := fun N w x c => ∃ qb s1 p1 p2 p3 b1 o1 o2 o3 o4, x = cerC c qb s1 p1 p2 p3 b1 o1 o2 o3 o4 ∧ c.root.length = 32 ∧ CerAt N w c qb s1 p1 p2 p3 b1 o1 o2 o3 o4
theorem CerAt.ext {N : Nat → Prop} {w w' : World} {c : Ce.Cert} {qb : ByteArray} {s1 p1 p2 p3 b1 o1 o2 o3 o4 : Value} (h : CerAt N w c qb s1 p1 p2 p3 b1 o1 o2 o3 o4) (E : Ext w w') : CerAt N w' c qb s1 p1 p2 p3 b1 o1 o2 o3 o4 :=
  ⟨h.q, (q0z (by decide) q2l).ext h.s1 E, q1c.ext h.p1 E, q1m.ext h.p2 E, q1m.ext h.p3 E, q1c.ext h.b1 E, q0w.ext h.o1 E, q0w.ext h.o2 E, q4h.ext h.o3 E, q4g.ext h.o4 E⟩
theorem CerAt.keep {N : Nat → Prop} {w w' : World} {c : Ce.Cert} {qb : ByteArray} {s1 p1 p2 p3 b1 o1 o2 o3 o4 : Value} {B g : Nat} {T : TypeId} (h : CerAt N w c qb s1 p1 p2 p3 b1 o1 o2 o3 o4) (k : KeepTy B g T w w') (hN : ∀ q, N q → q ≠ g ∧ q < B) : CerAt N w' c qb s1 p1 p2 p3 b1 o1 o2 o3 o4 :=
  ⟨h.q, (q0z (by decide) q2l).keep h.s1 k hN, q1c.keep h.p1 k hN, q1m.keep h.p2 k hN, q1m.keep h.p3 k hN, q1c.keep h.b1 k hN, q0w.keep h.o1 k hN, q0w.keep h.o2 k hN, q4h.keep h.o3 k hN, q4g.keep h.o4 k hN⟩
theorem CerAt.tight {N : Nat → Prop} {w : World} {c : Ce.Cert} {qb : ByteArray} {s1 p1 p2 p3 b1 o1 o2 o3 o4 : Value} (h : CerAt N w c qb s1 p1 p2 p3 b1 o1 o2 o3 o4) : CerAt (fun k => N k ∧ k < w.heap.size) w c qb s1 p1 p2 p3 b1 o1 o2 o3 o4 :=
  ⟨h.q, (q0z (by decide) q2l).tight h.s1, q1c.tight h.p1, q1m.tight h.p2, q1m.tight h.p3, q1c.tight h.b1, q0w.tight h.o1, q0w.tight h.o2, q4h.tight h.o3, q4g.tight h.o4⟩
structure Cert64 (c : Ce.Cert) : Prop where
  root : c.root.length = 32
  log : c.log < 4294967296
  sR : c.sR < 4294967296
  sC : c.sC < 4294967296
  sB : c.sB < 4294967296
  sT : c.sT < 4294967296
  q : c.q.length < 4294967296
  sums : c.sums.length < 4294967296
  rows : c.rows.length < 4294967296 ∧ ∀ r ∈ c.rows, Rd64 r
  ps : c.ps.length < 4294967296 ∧ ∀ r ∈ c.ps, Lp64 r
  pz : c.pz.length < 4294967296 ∧ ∀ r ∈ c.pz, Lp64 r
  batch : c.batch.length < 4294967296 ∧ ∀ r ∈ c.batch, Rd64 r
  v : E64 c.v
  orow : Rd64 c.orow
  ornd : Rd64 c.ornd
  cols : c.cols.length < 4294967296 ∧ ∀ r ∈ c.cols, r.length < 4294967296 ∧ ∀ e ∈ r, e < 18446744073709551616
  nodes : c.nodes.length < 4294967296
  all : (Ce.certC.w c).length ≤ 99990000
theorem by4_len : ∀ l : List Nat, (l.flatMap (Ce.byN 4)).length = 4 * l.length
  | [] => rfl
  | x :: l => by
    rw [List.flatMap_cons, List.length_append, Ce.byN_len, by4_len l, List.length_cons]; omega
theorem cert_w (c : Ce.Cert) : Ce.certC.w c = (Ce.lst Ce.byteC).w c.q ++ (Ce.byN 4 c.log ++ (c.root ++ (Ce.byN 4 c.sR ++ (Ce.byN 4 c.sC ++ (Ce.byN 4 c.sB ++ (Ce.byN 4 c.sT ++ ((Ce.lst (Ce.numC 8)).w c.sums ++ ((Ce.lst Ce.roundC).w c.rows ++ ((Ce.lst Ce.lpC).w c.ps ++ ((Ce.lst Ce.lpC).w c.pz ++ ((Ce.lst Ce.roundC).w c.batch ++ (Ce.extC.w c.v ++ (Ce.roundC.w c.orow ++ (Ce.roundC.w c.ornd ++ ((Ce.lst (Ce.lst Ce.wordC)).w c.cols ++ (Ce.lst (Ce.raw 32)).w c.nodes))))))))))))))) := rfl
theorem round_len (l : List (Nat × Nat)) : (Ce.roundC.w l).length = 4 + (l.flatMap Ce.extC.w).length := z1m _ _
theorem DecR.err {α : Type} {S : Ce.Ps α} {R : Rep α} {V : List Value → Value} {N : Nat → Prop} {p x : Nat} {l : List Nat} {w w' : World} (hg : w.grownBy w' (some p)) (h : S l = .err x) : DecR S R V N p l w (.panicked (erV x)) w' := ⟨hg, by rw [h]⟩
theorem DecR.got {α : Type} {S : Ce.Ps α} {R : Rep α} {V : List Value → Value} {N : Nat → Prop} {p : Nat} {l r : List Nat} {a : α} {w w' : World} (hg : w.grownBy w' (some p)) (h : S l = .got a r) (y : List Value) (hy : R (fun k => w.heap.size ≤ k ∧ k < w'.heap.size) w' y a) (he : DecAt N p w' r) : DecR S R V N p l w (.returned (V y)) w' := ⟨hg, by rw [h]; exact ⟨y, rfl, hy, he⟩⟩
abbrev hdV : List Value → Value := fun y => y.headD .nilIface
abbrev agV : List Value → Value := fun y => .agg y.toArray
theorem i64N {x : Nat} (h : x < 4294967296) : IntKind.i64.wrap (x : Int) = (x : Int) := by rw [IntKind.wrap_i64]; omega
theorem u64v_i64 {x : Nat} (h : x < 18446744073709551616) : u64v (IntKind.i64.wrap (x : Int)) = x := by
  unfold u64v; rw [IntKind.wrap_i64]; omega
theorem i64_rng (z : Int) : -9223372036854775808 ≤ IntKind.i64.wrap z ∧ IntKind.i64.wrap z ≤ 9223372036854775807 := by rw [IntKind.wrap_i64]; omega
theorem q8i (x : Nat) (w : World) : Calls Tryz.prog 99 #[.int .u64 (x : Nat)] w fun e w' => e = .returned (.bool (decide (x < Ce.pr))) ∧ w' = w := by
  refine q0k Tryz.func99 rfl Tryz.ntmps99 rfl ?_; (refine q0b<|q0a<|a_B rfl<|q0c<|tn<|q0b<|q0a<|m_I rfl<|Ls (q2f rfl rfl)<|a_B rfl<|q0c<|tn<|q0s ?_); refine q0f rfl rfl (v := .bool _) rfl ⟨?_, rfl⟩; have : (decide ((x : Int) < 18446744069414584321)) = decide (x < Ce.pr) := by
    apply decide_eq_decide.2; unfold Ce.pr; omega
  rw [← this]
set_option maxRecDepth 100000 in
set_option maxHeartbeats 1000000 in
theorem dint (N : Nat → Prop) (p : Nat) (l : List Nat) (w : World) (he : DecAt N p w l) :
    Calls Tryz.prog 58 #[.pointer (some ⟨p, 0, none⟩)] w fun e w' => w.grownBy w' (some p) ∧ match Ce.num 4 l with
      | .err x => e = .panicked (erV x)
      | .got a r => e = .returned (.int .i64 (a : Nat)) ∧ a < 4294967296 ∧ DecAt N p w' r := by
  refine q0k Tryz.func58 rfl Tryz.ntmps58 rfl ?_; have ct := dfixed N p 4 l w (by omega) he; (refine q0b<|q0a<|a_I rfl<|q0c<|tn<|q0b<|q0a<|m_P rfl ?_); cases hS : Ce.num 4 l with
  | err x =>
    rw [hS] at ct; refine q6n ct rfl ?_; rintro e w1 ⟨hg1, rfl⟩; exact .inr ⟨_, rfl, rfl, hg1, rfl⟩
  | got a r =>
    rw [hS] at ct; refine L_fn ct rfl ?_; rintro e w1 ⟨hg1, rfl, ha, e1⟩; refine ⟨_, rfl, ?_⟩; have ha' : a < 4294967296 := ha; (refine Ls ((q3w rfl).trans (by rw [i64N ha']))<|a_I rfl<|q0c<|tn<|q0s ?_); exact q0f rfl rfl (v := .int .i64 _) rfl ⟨hg1, rfl, ha, e1⟩
set_option maxRecDepth 100000 in
set_option maxHeartbeats 1000000 in
theorem dsum (N : Nat → Prop) (p : Nat) (l : List Nat) (w : World) (he : DecAt N p w l) :
    Calls Tryz.prog 61 #[.pointer (some ⟨p, 0, none⟩)] w (DecR (Ce.numC 8).p sumR hdV N p l w) := by
  refine q0k Tryz.func61 rfl Tryz.ntmps61 rfl ?_; have ct := dfixed N p 8 l w (by omega) he; (refine q0b<|q0a<|a_I rfl<|q0c<|tn<|q0b<|q0a<|m_P rfl ?_); cases hS : Ce.num 8 l with
  | err x =>
    rw [hS] at ct; refine q6n ct rfl ?_; rintro e w1 ⟨hg1, rfl⟩; exact .inr ⟨_, rfl, rfl, DecR.err hg1 hS⟩
  | got a r =>
    rw [hS] at ct; refine L_fn ct rfl ?_; rintro e w1 ⟨hg1, rfl, ha, e1⟩; refine ⟨_, rfl, ?_⟩; (refine Ls (q3w rfl)<|a_I rfl<|q0c<|tn<|q0s ?_); exact q0f rfl rfl (v := .int .i64 _) rfl (DecR.got hg1 hS [_] ⟨_, rfl, u64v_i64 ha, i64_rng _⟩ e1)
set_option maxRecDepth 100000 in
set_option maxHeartbeats 1000000 in
theorem dbyte (N : Nat → Prop) (p : Nat) (l : List Nat) (w : World) (he : DecAt N p w l) :
    Calls Tryz.prog 57 #[.pointer (some ⟨p, 0, none⟩)] w (DecR Ce.byteC.p (numR .u8) hdV N p l w) := by
  refine q0k Tryz.func57 rfl Tryz.ntmps57 rfl ?_; have ct := dtake N p 1 l w (by omega) he; have hb : ∀ x, Ce.take 1 l = x → Ce.byteC.p l = x.bind fun a => Ce.Ps.pure (Ce.numN a) := fun x h => by rw [← h]; rfl
  (refine q0b<|q0a<|a_I rfl<|q0c<|tn<|q0b<|q0a<|m_P rfl ?_); cases hS : Ce.take 1 l with
  | err x =>
    rw [hS] at ct; refine q6n ct rfl ?_; rintro e w1 ⟨hg1, rfl⟩; exact .inr ⟨_, rfl, rfl, DecR.err hg1 (hb _ hS)⟩
  | got a r =>
    rw [hS] at ct; refine L_fn ct rfl ?_; rintro e w1 ⟨hg1, v, rfl, hak, rv, e1⟩; refine ⟨_, rfl, ?_⟩; obtain ⟨x, rfl⟩ : ∃ x, a = [x] := by
      match a, hak with
      | [x], _ => exact ⟨x, rfl⟩
    obtain ⟨b, o, c', rfl, _, _, _, hcell⟩ := rv.at (k := 0) (by simp); (refine Ls (q0p (i := 0) rfl rfl (by simp))<|Ls (q2g rfl hcell (j := 0) (by omega) rfl)<|a_I rfl<|q0c<|tn<|q0s ?_); exact q0f rfl rfl (v := .int .u8 _) rfl (DecR.got hg1 (hb _ hS) [.int .u8 ((Ce.numN [x] : Nat) : Int)] rfl e1)
set_option maxRecDepth 100000 in
set_option maxHeartbeats 1000000 in
theorem ddigest (N : Nat → Prop) (p : Nat) (l : List Nat) (w : World) (he : DecAt N p w l) :
    Calls Tryz.prog 59 #[.pointer (some ⟨p, 0, none⟩)] w (DecR (Ce.raw 32).p (byR 32) agV N p l w) := by
  refine q0k Tryz.func59 rfl Tryz.ntmps59 rfl ?_; (refine q0b<|q0a ?_); refine q0x ?_; intro g2 w2 B2 hg2 E2 hs2; have he2 := he.ext E2; have hpl := he.lt; have ct := dtake N p 32 l w2 (by omega) he2; (refine q0c<|tn<|q0b<|q0a<|m_P rfl ?_); cases hS : Ce.take 32 l with
  | err x =>
    rw [hS] at ct; refine q6n ct rfl ?_; rintro e w1 ⟨hg1, rfl⟩; exact .inr ⟨_, rfl, rfl, DecR.err (q0d (E2.row _) hg1 fun q h => .inl h) hS⟩
  | got a r =>
    rw [hS] at ct; refine L_fn ct rfl ?_; rintro e w1 ⟨hg1, v, rfl, hak, rv, e1⟩; refine ⟨_, rfl, ?_⟩; obtain ⟨b, o, c', rfl, _, _, _, hcell⟩ := rv.at (k := 0) (by omega); have B1 := B2.grown hg1 (by intro h; cases h; omega); have hcl : (ints .u8 a).length = 32 := (by rw [q0v, hak]); refine Ls (X_s2ap (m := 32) rfl (by omega)) ?_; refine Ls (q2k (size := 32) (cs := ints .u8 a) rfl hcell hcl) ?_; refine q0l rfl rfl hcl q1v B1 rfl ?_; intro w3 B3 hg3 hs3; (refine q0c<|tn<|q0s ?_); refine q1i rfl rfl (Res.cellA inferInstance rfl (B3.range (o := 0) (fun j u h => by simpa using h)) hcl .nil) ?_; have hg13 := q0d (q0d (E2.row (some p)) hg1 fun q h => .inl h) hg3 fun q h => (by cases h; exact .inr (by omega)); refine DecR.got hg13 hS (ints .u8 a) ⟨rfl, hak⟩ (e1.grown hg3 (by intro h; cases h; omega) fun q h k => by cases h; have := (he.n _ k).2; omega)
set_option maxRecDepth 100000 in
set_option maxHeartbeats 1000000 in
theorem dword (N : Nat → Prop) (p : Nat) (l : List Nat) (w : World) (he : DecAt N p w l) :
    Calls Tryz.prog 101 #[.pointer (some ⟨p, 0, none⟩)] w (DecR Ce.wordC.p (numR .u64) hdV N p l w) := by
  refine q0k Tryz.func101 rfl Tryz.ntmps101 rfl ?_; have ct := dfixed N p 8 l w (by omega) he; have hb : ∀ x, Ce.num 8 l = x → Ce.wordC.p l = x.bind (Ce.chk fun x => decide (x < Ce.pr)) := fun x h => by rw [← h]; rfl
  (refine q0b<|q0a<|a_I rfl<|q0c<|tn<|q0b<|q0a<|m_P rfl ?_); cases hS : Ce.num 8 l with
  | err x =>
    rw [hS] at ct; refine q6n ct rfl ?_; rintro e w1 ⟨hg1, rfl⟩; exact .inr ⟨_, rfl, rfl, DecR.err hg1 (hb _ hS)⟩
  | got a r =>
    rw [hS] at ct; refine L_fn ct rfl ?_; rintro e w1 ⟨hg1, rfl, ha, e1⟩; refine ⟨_, rfl, ?_⟩; have hS2 := hb _ hS; (refine a_I rfl<|q0c<|tn<|q0b<|q0b<|q0a<|m_I rfl ?_); refine L_fn (q8i a w1) rfl ?_; rintro e _ ⟨rfl, rfl⟩; refine ⟨_, rfl, ?_⟩; by_cases hv : a < Ce.pr
    · rw [decide_eq_true hv]; (refine Ls (q1x rfl)<|q0c<|tn ?_); refine q7w rfl (fun h => by cases h) (fun _ => ?_); (refine q0n<|tn<|q0b<|q0a<|m_I rfl<|a_I rfl<|q0c<|tn<|q0s ?_); refine q0f rfl rfl (v := .int .u64 _) rfl (DecR.got hg1 (hS2.trans ?_) [.int .u64 ((a : Nat) : Int)] rfl e1); show Ce.chk (fun x => decide (x < Ce.pr)) a r = _; unfold Ce.chk; rw [if_pos (decide_eq_true hv)]
    · rw [decide_eq_false hv]; (refine Ls (q1x rfl)<|q0c<|tn ?_); refine q7w rfl (fun _ => ?_) (fun h => by cases h); (refine q0a ?_); refine Ls (q6l rfl) ?_; refine L_halt rfl rfl (q9v rfl) ?_; refine ⟨rfl, DecR.err hg1 (hS2.trans ?_)⟩; show Ce.chk (fun x => decide (x < Ce.pr)) a r = _; unfold Ce.chk; rw [if_neg (by simpa using hv)]
theorem ext_err1 {l : List Nat} {x : Nat} (h : Ce.num 8 l = .err x) : Ce.extC.p l = .err x := by
  show ((Ce.num 8 l).bind _).bind _ = _; rw [h]; rfl
theorem ext_err2 {l r : List Nat} {a x : Nat} (h : Ce.num 8 l = .got a r) (h2 : Ce.num 8 r = .err x) : Ce.extC.p l = .err x := by
  show ((Ce.num 8 l).bind _).bind _ = _; rw [h]; show ((Ce.num 8 r).bind _).bind _ = _; rw [h2]; rfl
theorem ext_got {l r r' : List Nat} {a b : Nat} (h : Ce.num 8 l = .got a r) (h2 : Ce.num 8 r = .got b r') : Ce.extC.p l = if decide (a < Ce.pr) && decide (b < Ce.pr) then .got (a, b) r' else .err 5 := by
  show ((Ce.num 8 l).bind _).bind _ = _; rw [h]; show ((Ce.num 8 r).bind _).bind _ = _; rw [h2]; rfl
set_option maxRecDepth 100000 in
set_option maxHeartbeats 2000000 in
theorem dext (N : Nat → Prop) (p : Nat) (l : List Nat) (w : World) (he : DecAt N p w l) :
    Calls Tryz.prog 66 #[.pointer (some ⟨p, 0, none⟩)] w (DecR Ce.extC.p exR agV N p l w) := by
  refine q0k Tryz.func66 rfl Tryz.ntmps66 rfl ?_; (refine q0b<|q0a ?_); refine q0x ?_; intro g2 w2 B2 hg2 E2 hs2; have he2 := he.ext E2; have hpl := he.lt; have ct := dfixed N p 8 l w2 (by omega) he2; (refine q0c<|tn<|q0b<|q0a<|m_P rfl ?_); cases hS : Ce.num 8 l with
  | err x =>
    rw [hS] at ct; refine q6n ct rfl ?_; rintro e w3 ⟨hg3, rfl⟩; exact .inr ⟨_, rfl, rfl, DecR.err (q0d (E2.row _) hg3 fun q h => .inl h) (ext_err1 hS)⟩
  | got a r =>
    rw [hS] at ct; refine L_fn ct rfl ?_; rintro e w3 ⟨hg3, rfl, ha, e3⟩; refine ⟨_, rfl, ?_⟩; have ct := dfixed N p 8 r w3 (by omega) e3; have hg23 := q0d (E2.row (some p)) hg3 fun q h => .inl h; have B3 := B2.grown hg3 (by intro h; cases h; omega); (refine m_P rfl ?_); cases hS2 : Ce.num 8 r with
    | err x =>
      rw [hS2] at ct; refine q6n ct rfl ?_; rintro e w4 ⟨hg4, rfl⟩; exact .inr ⟨_, rfl, rfl, DecR.err (q0d hg23 hg4 fun q h => .inl h) (ext_err2 hS hS2)⟩
    | got b r' =>
      rw [hS2] at ct; refine L_fn ct rfl ?_; rintro e w4 ⟨hg4, rfl, hb, e4⟩; refine ⟨_, rfl, ?_⟩; have hg24 := q0d hg23 hg4 fun q h => .inl h; have B4 := B3.grown hg4 (by intro h; cases h; omega); refine Ls (X_mkEx rfl rfl) ?_; refine q0x ?_; intro g5 w5 B5 hg5 E5 hs5; refine q0l (l := exC a b) rfl rfl rfl q5f B5 rfl ?_; intro w6 B6 hg6 hs6; have B4' := (B4.ext E5).grown hg6 (by intro h; cases h; have := q2b B4; omega); have hs3 := hg3.size; have hs4 := hg4.size; have hg25 := q0d hg24 (E5.row (some p)) fun q h => .inl h; have hg26 := q0d hg25 hg6 fun q h => (by cases h; exact .inr (by omega)); have e6 : DecAt N p w6 r' := (e4.ext E5).grown hg6 (by intro h; cases h; omega) fun q h k => (by cases h; have := (he.n _ k).2; omega); have hx := ext_got hS hS2; (refine q0c<|tn<|q0b<|q0b<|q0a<|Ls (q0g rfl)<|Ls (X_ld rfl B6 rfl) ?_); refine L_fn (q8i a w6) rfl ?_; rintro e w6 ⟨rfl, rfl⟩; refine ⟨_, rfl, ?_⟩; by_cases hv : a < Ce.pr
      · rw [decide_eq_true hv]; (refine Ls (q1x rfl)<|m_B rfl<|Lg2 rfl rfl rfl (q0g rfl)<|Lg2 rfl rfl rfl (X_ld rfl B6 rfl) ?_); refine q1u rfl rfl rfl ?_; refine L_fn (q8i b w6) rfl ?_; rintro e w6 ⟨rfl, rfl⟩; refine ⟨_, rfl, ?_⟩; by_cases hv2 : b < Ce.pr
        · rw [decide_eq_true hv2]; (refine Lg2 rfl rfl rfl (q1x rfl)<|Ls (q0r (v := .bool _) rfl rfl)<|q0c<|tn<|q0o rfl<|q0n<|tn<|q0b<|q0a<|Ls (q2m rfl B6 rfl) ?_); refine q0l (l := exC a b) rfl rfl rfl q5f B4' rfl ?_; intro w7 B7 hg7 hs7; (refine q0c<|tn<|q0s ?_); refine q1i rfl rfl (Res.cellA inferInstance rfl (B7.range (o := 0) (fun j u h => by simpa using h)) rfl .nil) ?_; refine DecR.got (a := (a, b)) (q0d hg26 hg7 fun q h => by cases h; exact .inr (by omega)) (hx.trans ?_) (exC a b) rfl (e6.grown hg7 (by intro h; cases h; omega) fun q h k => by cases h; have := (he.n _ k).2; omega); rw [if_pos (by simp [hv, hv2])]
        · rw [decide_eq_false hv2]; (refine Lg2 rfl rfl rfl (q1x rfl)<|Ls (q0r (v := .bool _) rfl rfl)<|q0c<|tn<|q0t rfl<|q0a ?_); refine Ls (q6l rfl) ?_; refine L_halt rfl rfl (q9v rfl) ?_; refine ⟨rfl, DecR.err hg26 (hx.trans ?_)⟩; rw [if_neg (by simp [hv2])]
      · rw [decide_eq_false hv]; (refine Ls (q1x rfl)<|m_B rfl<|Lo2 rfl rfl rfl rfl<|Lo2 rfl rfl rfl rfl<|Lo2 rfl rfl rfl rfl<|Lo2 rfl rfl rfl rfl<|Ls (q0m (v := .bool _) rfl rfl)<|q0c<|tn<|q0t rfl<|q0a ?_); refine Ls (q6l rfl) ?_; refine L_halt rfl rfl (q9v rfl) ?_; refine ⟨rfl, DecR.err hg26 (hx.trans ?_)⟩; rw [if_neg (by simp [hv])]
end Go.Proofs.YtlggfbglpcegoaaGreatDoor
namespace Ce
def Res.app {α : Type} (xs : List α) : Res (List α) → Res (List α)
  | .err e => .err e
  | .got l r => .got (xs ++ l) r
theorem Res.app_nil {α : Type} (x : Res (List α)) : Res.app [] x = x := by cases x <;> rfl
theorem Res.app_app {α : Type} (xs ys : List α) (x : Res (List α)) : Res.app xs (Res.app ys x) = Res.app (xs ++ ys) x := by
  cases x with
  | err e => rfl
  | got l r =>
    show Res.got (xs ++ (ys ++ l)) r = Res.got (xs ++ ys ++ l) r; rw [List.append_assoc]
theorem rep_err {α : Type} {p : Ps α} {b : List Nat} {e : Nat} (h : p b = .err e) (n : Nat) : rep p (n + 1) b = .err e := by
  rw [rep_step, h]; rfl
theorem rep_got {α : Type} {p : Ps α} {b r : List Nat} {a : α} (h : p b = .got a r) (n : Nat) : rep p (n + 1) b = Res.app [a] (rep p n r) := by
  rw [rep_step, h]; show (rep p n r).bind _ = _; cases rep p n r <;> rfl
end Ce
namespace Go.Proofs.YtlggfbglpcegoaaGreatDoor
open Go.RowKit Go.Proofs.K
def DecF (id : FuncId) (first cap : Array Value) (p : Nat) (N : Nat → Prop) {α : Type} (S : Ce.Ps α) (R : Rep α) (V : List Value → Value) : Prop :=
  ∀ (w : World) (l : List Nat), DecAt N p w l → Calls Tryz.prog id (first ++ #[] ++ cap) w (DecR S R V N p l w)
structure OutAt {α : Type} (T : TypeId) (size : Nat) (R : Rep α) (w0 w : World) (v : Value) (xs : List α) : Prop where
  h : ∃ ys : List (List Value), ys.length = xs.length ∧ (∀ y ∈ ys, y.length = size) ∧ w.ownsRow w0.heap.size T size v xs.length ys.flatten ∧ ∀ (i : Nat) (y : List Value) (a : α), ys[i]? = some y → xs[i]? = some a → R (fun k => w0.heap.size ≤ k ∧ k < w.heap.size ∧ v.ownBlock ≠ some k) w y a
theorem OutAt.other {α : Type} {T : TypeId} {size : Nat} {R : Rep α} (hR : R.Ok) {w0 w w' : World} {v : Value} {xs : List α} {p : Nat} (h : OutAt T size R w0 w v xs) (hg : w.grownBy w' (some p)) (hp : p < w0.heap.size) : OutAt T size R w0 w' v xs := by
  obtain ⟨ys, h1, h2, h3, h4⟩ := h; refine ⟨ys, h1, h2, q7i h3 hg (fun g hg' e => ?_), fun i y a hy ha => hR.mono (hR.grown (h4 i y a hy ha) hg fun q hq k => ?_) fun k hk => ⟨hk.1, Nat.lt_of_lt_of_le hk.2.1 hg.size, hk.2.2⟩⟩
  · have := (h3.lt g hg').1; cases e
    omega
  · cases hq
    omega
theorem OutAt.ext {α : Type} {T : TypeId} {size : Nat} {R : Rep α} (hR : R.Ok) {w0 w w' : World} {v : Value} {xs : List α} (h : OutAt T size R w0 w v xs) (E : Ext w w') : OutAt T size R w0 w' v xs := by
  obtain ⟨ys, h1, h2, h3, h4⟩ := h; exact ⟨ys, h1, h2, q2p h3 E, fun i y a hy ha => hR.mono (hR.ext (h4 i y a hy ha) E) fun k hk => ⟨hk.1, Nat.lt_of_lt_of_le hk.2.1 E.size, hk.2.2⟩⟩
theorem OutAt.app {α : Type} {T : TypeId} {size : Nat} {R : Rep α} (hR : R.Ok) {w0 w1 w w' : World} {v v' : Value} {xs : List α} {a : α} {y : List Value} {ys : List (List Value)} (h1 : ys.length = xs.length) (h2 : ∀ y ∈ ys, y.length = size) (h3 : w.ownsRow w0.heap.size T size v xs.length ys.flatten)
    (h4 : ∀ (i : Nat) (y : List Value) (a : α), ys[i]? = some y → xs[i]? = some a → R (fun k => w0.heap.size ≤ k ∧ k < w.heap.size ∧ v.ownBlock ≠ some k) w y a) (hy : R (fun k => w1.heap.size ≤ k ∧ k < w.heap.size) w y a) (hyl : y.length = size)
    (h0 : w0.heap.size ≤ w1.heap.size) (hv1 : ∀ q, v.ownBlock = some q → q < w1.heap.size)
    (ho : w'.ownsRow w0.heap.size T size v' (xs.length + 1) (ys.flatten ++ y)) (hg : w.grownBy w' v.ownBlock) (hb : v'.ownBlock = v.ownBlock ∨ v'.ownBlock = some w.heap.size) : OutAt T size R w0 w' v' (xs ++ [a]) := by
  have hlt := h3.lt; have hs := hg.size; refine ⟨ys ++ [y], by simp [h1], fun u hu => ?_, ?_, fun i u b hu hb' => ?_⟩
  · rcases List.mem_append.1 hu with hu | hu
    · exact h2 u hu
    · rw [List.mem_singleton.1 hu]; exact hyl
  · rw [List.flatten_append, List.length_append]; simpa using ho
  · rcases Nat.lt_trichotomy i xs.length with hi | hi | hi
    · rw [List.getElem?_append_left (by omega)] at hu hb'; refine hR.mono (hR.grown (h4 i u b hu hb') hg fun q hq k => k.2.2 hq) fun k hk => ⟨hk.1, by omega, fun e => ?_⟩; rcases hb with hb | hb
      · rw [hb] at e; exact hk.2.2 e
      · rw [hb] at e; cases e; omega
    · subst hi; rw [List.getElem?_append_right (by omega), h1, Nat.sub_self] at hu; rw [List.getElem?_append_right (by omega), Nat.sub_self] at hb'; cases hu
      cases hb'
      refine hR.mono (hR.grown hy hg fun q hq k => ?_) fun k hk => ⟨by omega, by omega, fun e => ?_⟩
      · have := hv1 q hq; omega
      · rcases hb with hb | hb
        · rw [hb] at e; have := hv1 k e; omega
        · rw [hb] at e; cases e; omega
    · rw [List.getElem?_append_right (by omega), List.getElem?_eq_none (by simp; omega)] at hb'; cases hb'
theorem OutAt.slR {α : Type} {T : TypeId} {size : Nat} {R : Rep α} (hR : R.Ok) {w0 w : World} {v : Value} {xs : List α} (h : OutAt T size R w0 w v xs) : slR size R (fun k => w0.heap.size ≤ k ∧ k < w.heap.size) w [v] xs := by
  obtain ⟨ys, h1, h2, h3, h4⟩ := h; exact ⟨v, rfl, ys, h1, h2, RowN.of_own h3, fun i y a hy ha => hR.mono (h4 i y a hy ha) fun k hk => ⟨hk.1, hk.2.1⟩⟩
theorem OutAt.cell1 {α : Type} {T : TypeId} {size : Nat} {R : Rep α} {w0 w : World} {v : Value} {xs : List α} (h : OutAt T size R w0 w v xs) : v.oneCell' = true := by
  obtain ⟨ys, h1, h2, h3, h4⟩ := h; exact q5l (Row.of_own h3)
set_option maxRecDepth 100000 in
set_option maxHeartbeats 1000000 in
theorem delB {α : Type} {R : Rep α} (hR : R.Ok) (hz : ∀ {N : Nat → Prop} {w : World} {y : List Value} {a : α}, R N w y a → y.length = 1) (id : FuncId) [TFun Tryz.prog id] (first cap : Array Value) (N : Nat → Prop) (p : Nat) (S : Ce.Ps α) (l : List Nat) (w : World)
    (hf : DecF id first cap p N S R hdV) (he : DecAt N p w l) :
    Calls Tryz.prog 56 #[.pointer (some ⟨p, 0, none⟩), .func (.func id) first cap] w (DecR (Ce.els S) (slR 1 R) hdV N p l w) := by
  refine q0k Tryz.func56 rfl Tryz.ntmps56 rfl ?_; have ct := dint N p l w he; have hb : ∀ x, Ce.num 4 l = x → Ce.els S l = x.bind (Ce.rep S) := fun x h => by rw [← h]; rfl
  have hpl := he.lt; (refine q0b<|q0a<|a_S rfl<|q0c<|tn<|q0b<|q0a<|a_S rfl<|q0c<|tn<|q0b<|q0b<|q0a<|m_P rfl ?_); cases hS : Ce.num 4 l with
  | err x =>
    rw [hS] at ct; refine q6n ct rfl ?_; rintro e w1 ⟨hg1, rfl⟩; exact .inr ⟨_, rfl, rfl, DecR.err hg1 (hb _ hS)⟩
  | got m r =>
    rw [hS] at ct; refine L_fn ct rfl ?_; rintro e w1 ⟨hg1, rfl, hm, e1⟩; refine ⟨_, rfl, ?_⟩; have hS2 : Ce.els S l = Ce.rep S m r := hb _ hS; clear hS hb ct; (refine m_I rfl<|q0c<|tn<|q0j ?_); refine q1k (fun q f w' => ∃ i xs v l', q = m - i ∧ i ≤ m ∧ f 1 = .func (.func id) first cap ∧ f 5 = v ∧ f 7 = .int .i64 (m : Nat) ∧ f 8 = .int .i64 (i : Nat) ∧ xs.length = i ∧ OutAt 5 1 R w w' v xs ∧ w.grownBy w' (some p) ∧ DecAt N p w' l' ∧ Ce.els S l = Ce.Res.app xs (Ce.rep S (m - i) l')) m ?_ ?_
    · refine ⟨0, [], .slice none 0 0, r, rfl, by omega, rfl, rfl, rfl, rfl, rfl, ⟨[], rfl, (fun _ h => by cases h), ⟨rfl, .inl ⟨rfl, rfl⟩⟩, (fun _ _ _ h => by cases h)⟩, hg1, e1, ?_⟩; rw [Ce.Res.app_nil]; exact hS2
    · rintro q f w2 ⟨i, xs, v, l', rfl, hi, f1, f5, f7, f8, hxs, ho, hg2, e2, hdec⟩; rw [fold f1, fold f5, fold f7, fold f8]; have hv := ho.cell1; (refine q0b<|q0a<|Ls (q2f rfl rfl)<|q0c<|tn<|q0b ?_); refine q1b rfl (fun h => ?_) (fun h => ?_)
      · have hi' : i < m := (by omega); have ct := hf w2 l' e2; (refine q0n<|tn<|q0b<|q0j<|q0a<|Ls (q0e (v := v) rfl)<|Ls (q0e (v := .func _ _ _) rfl) ?_); rw [show m - i = (m - (i + 1)) + 1 by omega] at hdec; cases hS3 : S l' with
        | err x =>
          refine q8r (vl := []) rfl ct rfl ?_; rintro e w3 ⟨hg3, h3⟩; rw [hS3] at h3; obtain rfl : e = _ := h3; refine .inr ⟨_, rfl, rfl, DecR.err (q0d hg2 hg3 fun q h => .inl h) ?_⟩; rw [hdec, Ce.rep_err hS3]; rfl
        | got a r' =>
          refine q5a (vl := []) rfl ct rfl ?_; rintro e w3 ⟨hg3, h3⟩; rw [hS3] at h3; obtain ⟨y, rfl, hy, e3⟩ := h3; refine ⟨_, rfl, ?_⟩; rw [Ce.rep_got hS3, Ce.Res.app_app] at hdec; have hyl := hz hy; have hg23 := q0d hg2 hg3 fun q h => .inl h; have hvb : ∀ q, v.ownBlock = some q → q < w2.heap.size := by
            obtain ⟨ys, _, _, h3, _⟩ := ho; exact fun q hq => (h3.lt q hq).2
          have ho3 := ho.other hR hg3 hpl; obtain ⟨u, rfl⟩ : ∃ u, y = [u] := by
            match y, hyl with
            | [u], _ => exact ⟨u, rfl⟩
          have hu1 := hR.one hy u (List.mem_singleton.2 rfl); refine q4k (v := u) rfl hu1 ?_; intro u4 w4 r4 E4 hs4 _; obtain ⟨ys, y1, y2, own4, yR⟩ := (ho3.ext hR E4).h; have e4 := e3.ext E4; have hg4 := q0d hg23 (E4.row (some p)) fun q h => .inl h; have hs4 := E4.size; have hs3 := hg3.size; have hs2 := hg2.size; have hy4 : R (fun k => w2.heap.size ≤ k ∧ k < w4.heap.size) w4 [u] a := hR.mono (hR.ext hy E4) fun k hk => ⟨hk.1, by omega⟩; refine q1s rfl rfl own4 r4 (fun q hq => by rw [List.mem_singleton.1 hq]; exact hu1) (by omega) (by omega) (by omega) ?_; intro v5 w5 o5 hg5 hb5; have ho5 := OutAt.app (a := a) hR y1 y2 own4 yR hy4 hyl hs2 hvb o5 hg5 hb5; have hv5 := ho5.cell1; have hg05 := q0d hg4 hg5 fun q hq => .inr ((own4.lt q hq).1); have hpv : v.ownBlock ≠ some p := fun e => (by have := (own4.lt p e).1; omega); have e5 : DecAt N p w5 r' := e4.grown hg5 hpv fun q hq k => (by have := (own4.lt q hq).1; have := (he.n q k).2; omega); (refine Ls (q0i (v := v5) rfl)<|q0c<|bn<|tn<|q0a<|Ls (q1j rfl rfl (by omega))<|m_I rfl<|q0c<|tn ?_); exact ⟨m - (i + 1), by omega, i + 1, xs ++ [a], v5, r', rfl, by omega, rfl, rfl, rfl, rfl, by rw [List.length_append, hxs]; rfl, ho5, hg05, e5, hdec⟩
      · obtain rfl : i = m := (by omega); (refine q1g<|te<|te<|bx<|tn<|q0b<|q0a<|Ls (q0e (v := v) rfl)<|Ls (q0i (v := v) rfl)<|q0c<|tn<|q0s ?_); refine q0f rfl rfl (v := v) rfl ?_; rw [Nat.sub_self] at hdec; refine DecR.got hg2 (hdec.trans (show _ = Ce.Res.got xs l' from ?_)) [v] (ho.slR hR) e2; show Ce.Res.got (xs ++ []) l' = _; rw [List.append_nil]
set_option maxRecDepth 100000 in
set_option maxHeartbeats 1000000 in
theorem delI {α : Type} {R : Rep α} (hR : R.Ok) (hz : ∀ {N : Nat → Prop} {w : World} {y : List Value} {a : α}, R N w y a → y.length = 1) (id : FuncId) [TFun Tryz.prog id] (first cap : Array Value) (N : Nat → Prop) (p : Nat) (S : Ce.Ps α) (l : List Nat) (w : World)
    (hf : DecF id first cap p N S R hdV) (he : DecAt N p w l) :
    Calls Tryz.prog 60 #[.pointer (some ⟨p, 0, none⟩), .func (.func id) first cap] w (DecR (Ce.els S) (slR 1 R) hdV N p l w) := by
  refine q0k Tryz.func60 rfl Tryz.ntmps60 rfl ?_; have ct := dint N p l w he; have hb : ∀ x, Ce.num 4 l = x → Ce.els S l = x.bind (Ce.rep S) := fun x h => by rw [← h]; rfl
  have hpl := he.lt; (refine q0b<|q0a<|a_S rfl<|q0c<|tn<|q0b<|q0a<|a_S rfl<|q0c<|tn<|q0b<|q0b<|q0a<|m_P rfl ?_); cases hS : Ce.num 4 l with
  | err x =>
    rw [hS] at ct; refine q6n ct rfl ?_; rintro e w1 ⟨hg1, rfl⟩; exact .inr ⟨_, rfl, rfl, DecR.err hg1 (hb _ hS)⟩
  | got m r =>
    rw [hS] at ct; refine L_fn ct rfl ?_; rintro e w1 ⟨hg1, rfl, hm, e1⟩; refine ⟨_, rfl, ?_⟩; have hS2 : Ce.els S l = Ce.rep S m r := hb _ hS; clear hS hb ct; (refine m_I rfl<|q0c<|tn<|q0j ?_); refine q1k (fun q f w' => ∃ i xs v l', q = m - i ∧ i ≤ m ∧ f 1 = .func (.func id) first cap ∧ f 5 = v ∧ f 7 = .int .i64 (m : Nat) ∧ f 8 = .int .i64 (i : Nat) ∧ xs.length = i ∧ OutAt 2 1 R w w' v xs ∧ w.grownBy w' (some p) ∧ DecAt N p w' l' ∧ Ce.els S l = Ce.Res.app xs (Ce.rep S (m - i) l')) m ?_ ?_
    · refine ⟨0, [], .slice none 0 0, r, rfl, by omega, rfl, rfl, rfl, rfl, rfl, ⟨[], rfl, (fun _ h => by cases h), ⟨rfl, .inl ⟨rfl, rfl⟩⟩, (fun _ _ _ h => by cases h)⟩, hg1, e1, ?_⟩; rw [Ce.Res.app_nil]; exact hS2
    · rintro q f w2 ⟨i, xs, v, l', rfl, hi, f1, f5, f7, f8, hxs, ho, hg2, e2, hdec⟩; rw [fold f1, fold f5, fold f7, fold f8]; have hv := ho.cell1; (refine q0b<|q0a<|Ls (q2f rfl rfl)<|q0c<|tn<|q0b ?_); refine q1b rfl (fun h => ?_) (fun h => ?_)
      · have hi' : i < m := (by omega); have ct := hf w2 l' e2; (refine q0n<|tn<|q0b<|q0j<|q0a<|Ls (q0e (v := v) rfl)<|Ls (q0e (v := .func _ _ _) rfl) ?_); rw [show m - i = (m - (i + 1)) + 1 by omega] at hdec; cases hS3 : S l' with
        | err x =>
          refine q8r (vl := []) rfl ct rfl ?_; rintro e w3 ⟨hg3, h3⟩; rw [hS3] at h3; obtain rfl : e = _ := h3; refine .inr ⟨_, rfl, rfl, DecR.err (q0d hg2 hg3 fun q h => .inl h) ?_⟩; rw [hdec, Ce.rep_err hS3]; rfl
        | got a r' =>
          refine q5a (vl := []) rfl ct rfl ?_; rintro e w3 ⟨hg3, h3⟩; rw [hS3] at h3; obtain ⟨y, rfl, hy, e3⟩ := h3; refine ⟨_, rfl, ?_⟩; rw [Ce.rep_got hS3, Ce.Res.app_app] at hdec; have hyl := hz hy; have hg23 := q0d hg2 hg3 fun q h => .inl h; have hvb : ∀ q, v.ownBlock = some q → q < w2.heap.size := by
            obtain ⟨ys, _, _, h3, _⟩ := ho; exact fun q hq => (h3.lt q hq).2
          have ho3 := ho.other hR hg3 hpl; obtain ⟨u, rfl⟩ : ∃ u, y = [u] := by
            match y, hyl with
            | [u], _ => exact ⟨u, rfl⟩
          have hu1 := hR.one hy u (List.mem_singleton.2 rfl); refine q4k (v := u) rfl hu1 ?_; intro u4 w4 r4 E4 hs4 _; obtain ⟨ys, y1, y2, own4, yR⟩ := (ho3.ext hR E4).h; have e4 := e3.ext E4; have hg4 := q0d hg23 (E4.row (some p)) fun q h => .inl h; have hs4 := E4.size; have hs3 := hg3.size; have hs2 := hg2.size; have hy4 : R (fun k => w2.heap.size ≤ k ∧ k < w4.heap.size) w4 [u] a := hR.mono (hR.ext hy E4) fun k hk => ⟨hk.1, by omega⟩; refine q1s rfl rfl own4 r4 (fun q hq => by rw [List.mem_singleton.1 hq]; exact hu1) (by omega) (by omega) (by omega) ?_; intro v5 w5 o5 hg5 hb5; have ho5 := OutAt.app (a := a) hR y1 y2 own4 yR hy4 hyl hs2 hvb o5 hg5 hb5; have hv5 := ho5.cell1; have hg05 := q0d hg4 hg5 fun q hq => .inr ((own4.lt q hq).1); have hpv : v.ownBlock ≠ some p := fun e => (by have := (own4.lt p e).1; omega); have e5 : DecAt N p w5 r' := e4.grown hg5 hpv fun q hq k => (by have := (own4.lt q hq).1; have := (he.n q k).2; omega); (refine Ls (q0i (v := v5) rfl)<|q0c<|bn<|tn<|q0a<|Ls (q1j rfl rfl (by omega))<|m_I rfl<|q0c<|tn ?_); exact ⟨m - (i + 1), by omega, i + 1, xs ++ [a], v5, r', rfl, by omega, rfl, rfl, rfl, rfl, by rw [List.length_append, hxs]; rfl, ho5, hg05, e5, hdec⟩
      · obtain rfl : i = m := (by omega); (refine q1g<|te<|te<|bx<|tn<|q0b<|q0a<|Ls (q0e (v := v) rfl)<|Ls (q0i (v := v) rfl)<|q0c<|tn<|q0s ?_); refine q0f rfl rfl (v := v) rfl ?_; rw [Nat.sub_self] at hdec; refine DecR.got hg2 (hdec.trans (show _ = Ce.Res.got xs l' from ?_)) [v] (ho.slR hR) e2; show Ce.Res.got (xs ++ []) l' = _; rw [List.append_nil]
set_option maxRecDepth 100000 in
set_option maxHeartbeats 1000000 in
theorem delR {α : Type} {R : Rep α} (hR : R.Ok) (hz : ∀ {N : Nat → Prop} {w : World} {y : List Value} {a : α}, R N w y a → y.length = 1) (id : FuncId) [TFun Tryz.prog id] (first cap : Array Value) (N : Nat → Prop) (p : Nat) (S : Ce.Ps α) (l : List Nat) (w : World)
    (hf : DecF id first cap p N S R hdV) (he : DecAt N p w l) :
    Calls Tryz.prog 62 #[.pointer (some ⟨p, 0, none⟩), .func (.func id) first cap] w (DecR (Ce.els S) (slR 1 R) hdV N p l w) := by
  refine q0k Tryz.func62 rfl Tryz.ntmps62 rfl ?_; have ct := dint N p l w he; have hb : ∀ x, Ce.num 4 l = x → Ce.els S l = x.bind (Ce.rep S) := fun x h => by rw [← h]; rfl
  have hpl := he.lt; (refine q0b<|q0a<|a_S rfl<|q0c<|tn<|q0b<|q0a<|a_S rfl<|q0c<|tn<|q0b<|q0b<|q0a<|m_P rfl ?_); cases hS : Ce.num 4 l with
  | err x =>
    rw [hS] at ct; refine q6n ct rfl ?_; rintro e w1 ⟨hg1, rfl⟩; exact .inr ⟨_, rfl, rfl, DecR.err hg1 (hb _ hS)⟩
  | got m r =>
    rw [hS] at ct; refine L_fn ct rfl ?_; rintro e w1 ⟨hg1, rfl, hm, e1⟩; refine ⟨_, rfl, ?_⟩; have hS2 : Ce.els S l = Ce.rep S m r := hb _ hS; clear hS hb ct; (refine m_I rfl<|q0c<|tn<|q0j ?_); refine q1k (fun q f w' => ∃ i xs v l', q = m - i ∧ i ≤ m ∧ f 1 = .func (.func id) first cap ∧ f 5 = v ∧ f 7 = .int .i64 (m : Nat) ∧ f 8 = .int .i64 (i : Nat) ∧ xs.length = i ∧ OutAt 35 1 R w w' v xs ∧ w.grownBy w' (some p) ∧ DecAt N p w' l' ∧ Ce.els S l = Ce.Res.app xs (Ce.rep S (m - i) l')) m ?_ ?_
    · refine ⟨0, [], .slice none 0 0, r, rfl, by omega, rfl, rfl, rfl, rfl, rfl, ⟨[], rfl, (fun _ h => by cases h), ⟨rfl, .inl ⟨rfl, rfl⟩⟩, (fun _ _ _ h => by cases h)⟩, hg1, e1, ?_⟩; rw [Ce.Res.app_nil]; exact hS2
    · rintro q f w2 ⟨i, xs, v, l', rfl, hi, f1, f5, f7, f8, hxs, ho, hg2, e2, hdec⟩; rw [fold f1, fold f5, fold f7, fold f8]; have hv := ho.cell1; (refine q0b<|q0a<|Ls (q2f rfl rfl)<|q0c<|tn<|q0b ?_); refine q1b rfl (fun h => ?_) (fun h => ?_)
      · have hi' : i < m := (by omega); have ct := hf w2 l' e2; (refine q0n<|tn<|q0b<|q0j<|q0a<|Ls (q0e (v := v) rfl)<|Ls (q0e (v := .func _ _ _) rfl) ?_); rw [show m - i = (m - (i + 1)) + 1 by omega] at hdec; cases hS3 : S l' with
        | err x =>
          refine q8r (vl := []) rfl ct rfl ?_; rintro e w3 ⟨hg3, h3⟩; rw [hS3] at h3; obtain rfl : e = _ := h3; refine .inr ⟨_, rfl, rfl, DecR.err (q0d hg2 hg3 fun q h => .inl h) ?_⟩; rw [hdec, Ce.rep_err hS3]; rfl
        | got a r' =>
          refine q5a (vl := []) rfl ct rfl ?_; rintro e w3 ⟨hg3, h3⟩; rw [hS3] at h3; obtain ⟨y, rfl, hy, e3⟩ := h3; refine ⟨_, rfl, ?_⟩; rw [Ce.rep_got hS3, Ce.Res.app_app] at hdec; have hyl := hz hy; have hg23 := q0d hg2 hg3 fun q h => .inl h; have hvb : ∀ q, v.ownBlock = some q → q < w2.heap.size := by
            obtain ⟨ys, _, _, h3, _⟩ := ho; exact fun q hq => (h3.lt q hq).2
          have ho3 := ho.other hR hg3 hpl; obtain ⟨u, rfl⟩ : ∃ u, y = [u] := by
            match y, hyl with
            | [u], _ => exact ⟨u, rfl⟩
          have hu1 := hR.one hy u (List.mem_singleton.2 rfl); refine q4k (v := u) rfl hu1 ?_; intro u4 w4 r4 E4 hs4 _; obtain ⟨ys, y1, y2, own4, yR⟩ := (ho3.ext hR E4).h; have e4 := e3.ext E4; have hg4 := q0d hg23 (E4.row (some p)) fun q h => .inl h; have hs4 := E4.size; have hs3 := hg3.size; have hs2 := hg2.size; have hy4 : R (fun k => w2.heap.size ≤ k ∧ k < w4.heap.size) w4 [u] a := hR.mono (hR.ext hy E4) fun k hk => ⟨hk.1, by omega⟩; refine q1s rfl rfl own4 r4 (fun q hq => by rw [List.mem_singleton.1 hq]; exact hu1) (by omega) (by omega) (by omega) ?_; intro v5 w5 o5 hg5 hb5; have ho5 := OutAt.app (a := a) hR y1 y2 own4 yR hy4 hyl hs2 hvb o5 hg5 hb5; have hv5 := ho5.cell1; have hg05 := q0d hg4 hg5 fun q hq => .inr ((own4.lt q hq).1); have hpv : v.ownBlock ≠ some p := fun e => (by have := (own4.lt p e).1; omega); have e5 : DecAt N p w5 r' := e4.grown hg5 hpv fun q hq k => (by have := (own4.lt q hq).1; have := (he.n q k).2; omega); (refine Ls (q0i (v := v5) rfl)<|q0c<|bn<|tn<|q0a<|Ls (q1j rfl rfl (by omega))<|m_I rfl<|q0c<|tn ?_); exact ⟨m - (i + 1), by omega, i + 1, xs ++ [a], v5, r', rfl, by omega, rfl, rfl, rfl, rfl, by rw [List.length_append, hxs]; rfl, ho5, hg05, e5, hdec⟩
      · obtain rfl : i = m := (by omega); (refine q1g<|te<|te<|bx<|tn<|q0b<|q0a<|Ls (q0e (v := v) rfl)<|Ls (q0i (v := v) rfl)<|q0c<|tn<|q0s ?_); refine q0f rfl rfl (v := v) rfl ?_; rw [Nat.sub_self] at hdec; refine DecR.got hg2 (hdec.trans (show _ = Ce.Res.got xs l' from ?_)) [v] (ho.slR hR) e2; show Ce.Res.got (xs ++ []) l' = _; rw [List.append_nil]
set_option maxRecDepth 100000 in
set_option maxHeartbeats 1000000 in
theorem delC {α : Type} {R : Rep α} (hR : R.Ok) (hz : ∀ {N : Nat → Prop} {w : World} {y : List Value} {a : α}, R N w y a → y.length = 1) (id : FuncId) [TFun Tryz.prog id] (first cap : Array Value) (N : Nat → Prop) (p : Nat) (S : Ce.Ps α) (l : List Nat) (w : World)
    (hf : DecF id first cap p N S R hdV) (he : DecAt N p w l) :
    Calls Tryz.prog 68 #[.pointer (some ⟨p, 0, none⟩), .func (.func id) first cap] w (DecR (Ce.els S) (slR 1 R) hdV N p l w) := by
  refine q0k Tryz.func68 rfl Tryz.ntmps68 rfl ?_; have ct := dint N p l w he; have hb : ∀ x, Ce.num 4 l = x → Ce.els S l = x.bind (Ce.rep S) := fun x h => by rw [← h]; rfl
  have hpl := he.lt; (refine q0b<|q0a<|a_S rfl<|q0c<|tn<|q0b<|q0a<|a_S rfl<|q0c<|tn<|q0b<|q0b<|q0a<|m_P rfl ?_); cases hS : Ce.num 4 l with
  | err x =>
    rw [hS] at ct; refine q6n ct rfl ?_; rintro e w1 ⟨hg1, rfl⟩; exact .inr ⟨_, rfl, rfl, DecR.err hg1 (hb _ hS)⟩
  | got m r =>
    rw [hS] at ct; refine L_fn ct rfl ?_; rintro e w1 ⟨hg1, rfl, hm, e1⟩; refine ⟨_, rfl, ?_⟩; have hS2 : Ce.els S l = Ce.rep S m r := hb _ hS; clear hS hb ct; (refine m_I rfl<|q0c<|tn<|q0j ?_); refine q1k (fun q f w' => ∃ i xs v l', q = m - i ∧ i ≤ m ∧ f 1 = .func (.func id) first cap ∧ f 5 = v ∧ f 7 = .int .i64 (m : Nat) ∧ f 8 = .int .i64 (i : Nat) ∧ xs.length = i ∧ OutAt 73 1 R w w' v xs ∧ w.grownBy w' (some p) ∧ DecAt N p w' l' ∧ Ce.els S l = Ce.Res.app xs (Ce.rep S (m - i) l')) m ?_ ?_
    · refine ⟨0, [], .slice none 0 0, r, rfl, by omega, rfl, rfl, rfl, rfl, rfl, ⟨[], rfl, (fun _ h => by cases h), ⟨rfl, .inl ⟨rfl, rfl⟩⟩, (fun _ _ _ h => by cases h)⟩, hg1, e1, ?_⟩; rw [Ce.Res.app_nil]; exact hS2
    · rintro q f w2 ⟨i, xs, v, l', rfl, hi, f1, f5, f7, f8, hxs, ho, hg2, e2, hdec⟩; rw [fold f1, fold f5, fold f7, fold f8]; have hv := ho.cell1; (refine q0b<|q0a<|Ls (q2f rfl rfl)<|q0c<|tn<|q0b ?_); refine q1b rfl (fun h => ?_) (fun h => ?_)
      · have hi' : i < m := (by omega); have ct := hf w2 l' e2; (refine q0n<|tn<|q0b<|q0j<|q0a<|Ls (q0e (v := v) rfl)<|Ls (q0e (v := .func _ _ _) rfl) ?_); rw [show m - i = (m - (i + 1)) + 1 by omega] at hdec; cases hS3 : S l' with
        | err x =>
          refine q8r (vl := []) rfl ct rfl ?_; rintro e w3 ⟨hg3, h3⟩; rw [hS3] at h3; obtain rfl : e = _ := h3; refine .inr ⟨_, rfl, rfl, DecR.err (q0d hg2 hg3 fun q h => .inl h) ?_⟩; rw [hdec, Ce.rep_err hS3]; rfl
        | got a r' =>
          refine q5a (vl := []) rfl ct rfl ?_; rintro e w3 ⟨hg3, h3⟩; rw [hS3] at h3; obtain ⟨y, rfl, hy, e3⟩ := h3; refine ⟨_, rfl, ?_⟩; rw [Ce.rep_got hS3, Ce.Res.app_app] at hdec; have hyl := hz hy; have hg23 := q0d hg2 hg3 fun q h => .inl h; have hvb : ∀ q, v.ownBlock = some q → q < w2.heap.size := by
            obtain ⟨ys, _, _, h3, _⟩ := ho; exact fun q hq => (h3.lt q hq).2
          have ho3 := ho.other hR hg3 hpl; obtain ⟨u, rfl⟩ : ∃ u, y = [u] := by
            match y, hyl with
            | [u], _ => exact ⟨u, rfl⟩
          have hu1 := hR.one hy u (List.mem_singleton.2 rfl); refine q4k (v := u) rfl hu1 ?_; intro u4 w4 r4 E4 hs4 _; obtain ⟨ys, y1, y2, own4, yR⟩ := (ho3.ext hR E4).h; have e4 := e3.ext E4; have hg4 := q0d hg23 (E4.row (some p)) fun q h => .inl h; have hs4 := E4.size; have hs3 := hg3.size; have hs2 := hg2.size; have hy4 : R (fun k => w2.heap.size ≤ k ∧ k < w4.heap.size) w4 [u] a := hR.mono (hR.ext hy E4) fun k hk => ⟨hk.1, by omega⟩; refine q1s rfl rfl own4 r4 (fun q hq => by rw [List.mem_singleton.1 hq]; exact hu1) (by omega) (by omega) (by omega) ?_; intro v5 w5 o5 hg5 hb5; have ho5 := OutAt.app (a := a) hR y1 y2 own4 yR hy4 hyl hs2 hvb o5 hg5 hb5; have hv5 := ho5.cell1; have hg05 := q0d hg4 hg5 fun q hq => .inr ((own4.lt q hq).1); have hpv : v.ownBlock ≠ some p := fun e => (by have := (own4.lt p e).1; omega); have e5 : DecAt N p w5 r' := e4.grown hg5 hpv fun q hq k => (by have := (own4.lt q hq).1; have := (he.n q k).2; omega); (refine Ls (q0i (v := v5) rfl)<|q0c<|bn<|tn<|q0a<|Ls (q1j rfl rfl (by omega))<|m_I rfl<|q0c<|tn ?_); exact ⟨m - (i + 1), by omega, i + 1, xs ++ [a], v5, r', rfl, by omega, rfl, rfl, rfl, rfl, by rw [List.length_append, hxs]; rfl, ho5, hg05, e5, hdec⟩
      · obtain rfl : i = m := (by omega); (refine q1g<|te<|te<|bx<|tn<|q0b<|q0a<|Ls (q0e (v := v) rfl)<|Ls (q0i (v := v) rfl)<|q0c<|tn<|q0s ?_); refine q0f rfl rfl (v := v) rfl ?_; rw [Nat.sub_self] at hdec; refine DecR.got hg2 (hdec.trans (show _ = Ce.Res.got xs l' from ?_)) [v] (ho.slR hR) e2; show Ce.Res.got (xs ++ []) l' = _; rw [List.append_nil]
set_option maxRecDepth 100000 in
set_option maxHeartbeats 1000000 in
theorem delW {α : Type} {R : Rep α} (hR : R.Ok) (hz : ∀ {N : Nat → Prop} {w : World} {y : List Value} {a : α}, R N w y a → y.length = 1) (id : FuncId) [TFun Tryz.prog id] (first cap : Array Value) (N : Nat → Prop) (p : Nat) (S : Ce.Ps α) (l : List Nat) (w : World)
    (hf : DecF id first cap p N S R hdV) (he : DecAt N p w l) :
    Calls Tryz.prog 100 #[.pointer (some ⟨p, 0, none⟩), .func (.func id) first cap] w (DecR (Ce.els S) (slR 1 R) hdV N p l w) := by
  refine q0k Tryz.func100 rfl Tryz.ntmps100 rfl ?_; have ct := dint N p l w he; have hb : ∀ x, Ce.num 4 l = x → Ce.els S l = x.bind (Ce.rep S) := fun x h => by rw [← h]; rfl
  have hpl := he.lt; (refine q0b<|q0a<|a_S rfl<|q0c<|tn<|q0b<|q0a<|a_S rfl<|q0c<|tn<|q0b<|q0b<|q0a<|m_P rfl ?_); cases hS : Ce.num 4 l with
  | err x =>
    rw [hS] at ct; refine q6n ct rfl ?_; rintro e w1 ⟨hg1, rfl⟩; exact .inr ⟨_, rfl, rfl, DecR.err hg1 (hb _ hS)⟩
  | got m r =>
    rw [hS] at ct; refine L_fn ct rfl ?_; rintro e w1 ⟨hg1, rfl, hm, e1⟩; refine ⟨_, rfl, ?_⟩; have hS2 : Ce.els S l = Ce.rep S m r := hb _ hS; clear hS hb ct; (refine m_I rfl<|q0c<|tn<|q0j ?_); refine q1k (fun q f w' => ∃ i xs v l', q = m - i ∧ i ≤ m ∧ f 1 = .func (.func id) first cap ∧ f 5 = v ∧ f 7 = .int .i64 (m : Nat) ∧ f 8 = .int .i64 (i : Nat) ∧ xs.length = i ∧ OutAt 32 1 R w w' v xs ∧ w.grownBy w' (some p) ∧ DecAt N p w' l' ∧ Ce.els S l = Ce.Res.app xs (Ce.rep S (m - i) l')) m ?_ ?_
    · refine ⟨0, [], .slice none 0 0, r, rfl, by omega, rfl, rfl, rfl, rfl, rfl, ⟨[], rfl, (fun _ h => by cases h), ⟨rfl, .inl ⟨rfl, rfl⟩⟩, (fun _ _ _ h => by cases h)⟩, hg1, e1, ?_⟩; rw [Ce.Res.app_nil]; exact hS2
    · rintro q f w2 ⟨i, xs, v, l', rfl, hi, f1, f5, f7, f8, hxs, ho, hg2, e2, hdec⟩; rw [fold f1, fold f5, fold f7, fold f8]; have hv := ho.cell1; (refine q0b<|q0a<|Ls (q2f rfl rfl)<|q0c<|tn<|q0b ?_); refine q1b rfl (fun h => ?_) (fun h => ?_)
      · have hi' : i < m := (by omega); have ct := hf w2 l' e2; (refine q0n<|tn<|q0b<|q0j<|q0a<|Ls (q0e (v := v) rfl)<|Ls (q0e (v := .func _ _ _) rfl) ?_); rw [show m - i = (m - (i + 1)) + 1 by omega] at hdec; cases hS3 : S l' with
        | err x =>
          refine q8r (vl := []) rfl ct rfl ?_; rintro e w3 ⟨hg3, h3⟩; rw [hS3] at h3; obtain rfl : e = _ := h3; refine .inr ⟨_, rfl, rfl, DecR.err (q0d hg2 hg3 fun q h => .inl h) ?_⟩; rw [hdec, Ce.rep_err hS3]; rfl
        | got a r' =>
          refine q5a (vl := []) rfl ct rfl ?_; rintro e w3 ⟨hg3, h3⟩; rw [hS3] at h3; obtain ⟨y, rfl, hy, e3⟩ := h3; refine ⟨_, rfl, ?_⟩; rw [Ce.rep_got hS3, Ce.Res.app_app] at hdec; have hyl := hz hy; have hg23 := q0d hg2 hg3 fun q h => .inl h; have hvb : ∀ q, v.ownBlock = some q → q < w2.heap.size := by
            obtain ⟨ys, _, _, h3, _⟩ := ho; exact fun q hq => (h3.lt q hq).2
          have ho3 := ho.other hR hg3 hpl; obtain ⟨u, rfl⟩ : ∃ u, y = [u] := by
            match y, hyl with
            | [u], _ => exact ⟨u, rfl⟩
          have hu1 := hR.one hy u (List.mem_singleton.2 rfl); refine q4k (v := u) rfl hu1 ?_; intro u4 w4 r4 E4 hs4 _; obtain ⟨ys, y1, y2, own4, yR⟩ := (ho3.ext hR E4).h; have e4 := e3.ext E4; have hg4 := q0d hg23 (E4.row (some p)) fun q h => .inl h; have hs4 := E4.size; have hs3 := hg3.size; have hs2 := hg2.size; have hy4 : R (fun k => w2.heap.size ≤ k ∧ k < w4.heap.size) w4 [u] a := hR.mono (hR.ext hy E4) fun k hk => ⟨hk.1, by omega⟩; refine q1s rfl rfl own4 r4 (fun q hq => by rw [List.mem_singleton.1 hq]; exact hu1) (by omega) (by omega) (by omega) ?_; intro v5 w5 o5 hg5 hb5; have ho5 := OutAt.app (a := a) hR y1 y2 own4 yR hy4 hyl hs2 hvb o5 hg5 hb5; have hv5 := ho5.cell1; have hg05 := q0d hg4 hg5 fun q hq => .inr ((own4.lt q hq).1); have hpv : v.ownBlock ≠ some p := fun e => (by have := (own4.lt p e).1; omega); have e5 : DecAt N p w5 r' := e4.grown hg5 hpv fun q hq k => (by have := (own4.lt q hq).1; have := (he.n q k).2; omega); (refine Ls (q0i (v := v5) rfl)<|q0c<|bn<|tn<|q0a<|Ls (q1j rfl rfl (by omega))<|m_I rfl<|q0c<|tn ?_); exact ⟨m - (i + 1), by omega, i + 1, xs ++ [a], v5, r', rfl, by omega, rfl, rfl, rfl, rfl, by rw [List.length_append, hxs]; rfl, ho5, hg05, e5, hdec⟩
      · obtain rfl : i = m := (by omega); (refine q1g<|te<|te<|bx<|tn<|q0b<|q0a<|Ls (q0e (v := v) rfl)<|Ls (q0i (v := v) rfl)<|q0c<|tn<|q0s ?_); refine q0f rfl rfl (v := v) rfl ?_; rw [Nat.sub_self] at hdec; refine DecR.got hg2 (hdec.trans (show _ = Ce.Res.got xs l' from ?_)) [v] (ho.slR hR) e2; show Ce.Res.got (xs ++ []) l' = _; rw [List.append_nil]
set_option maxRecDepth 100000 in
set_option maxHeartbeats 1000000 in
theorem delE {α : Type} {R : Rep α} (hR : R.Ok) (hz : ∀ {N : Nat → Prop} {w : World} {y : List Value} {a : α}, R N w y a → y.length = 2) (id : FuncId) [TFun Tryz.prog id] (first cap : Array Value) (N : Nat → Prop) (p : Nat) (S : Ce.Ps α) (l : List Nat) (w : World)
    (hf : DecF id first cap p N S R agV) (he : DecAt N p w l) :
    Calls Tryz.prog 67 #[.pointer (some ⟨p, 0, none⟩), .func (.func id) first cap] w (DecR (Ce.els S) (slR 2 R) hdV N p l w) := by
  refine q0k Tryz.func67 rfl Tryz.ntmps67 rfl ?_; have ct := dint N p l w he; have hb : ∀ x, Ce.num 4 l = x → Ce.els S l = x.bind (Ce.rep S) := fun x h => by rw [← h]; rfl
  have hpl := he.lt; (refine q0b<|q0a<|a_S rfl<|q0c<|tn<|q0b<|q0a<|a_S rfl<|q0c<|tn<|q0b<|q0b<|q0a<|m_P rfl ?_); cases hS : Ce.num 4 l with
  | err x =>
    rw [hS] at ct; refine q6n ct rfl ?_; rintro e w1 ⟨hg1, rfl⟩; exact .inr ⟨_, rfl, rfl, DecR.err hg1 (hb _ hS)⟩
  | got m r =>
    rw [hS] at ct; refine L_fn ct rfl ?_; rintro e w1 ⟨hg1, rfl, hm, e1⟩; refine ⟨_, rfl, ?_⟩; have hS2 : Ce.els S l = Ce.rep S m r := hb _ hS; clear hS hb ct; (refine m_I rfl<|q0c<|tn<|q0j ?_); refine q1k (fun q f w' => ∃ i xs v l', q = m - i ∧ i ≤ m ∧ f 1 = .func (.func id) first cap ∧ f 5 = v ∧ f 7 = .int .i64 (m : Nat) ∧ f 8 = .int .i64 (i : Nat) ∧ xs.length = i ∧ OutAt 34 2 R w w' v xs ∧ w.grownBy w' (some p) ∧ DecAt N p w' l' ∧ Ce.els S l = Ce.Res.app xs (Ce.rep S (m - i) l')) m ?_ ?_
    · refine ⟨0, [], .slice none 0 0, r, rfl, by omega, rfl, rfl, rfl, rfl, rfl, ⟨[], rfl, (fun _ h => by cases h), ⟨rfl, .inl ⟨rfl, rfl⟩⟩, (fun _ _ _ h => by cases h)⟩, hg1, e1, ?_⟩; rw [Ce.Res.app_nil]; exact hS2
    · rintro q f w2 ⟨i, xs, v, l', rfl, hi, f1, f5, f7, f8, hxs, ho, hg2, e2, hdec⟩; rw [fold f1, fold f5, fold f7, fold f8]; have hv := ho.cell1; (refine q0b<|q0a<|Ls (q2f rfl rfl)<|q0c<|tn<|q0b ?_); refine q1b rfl (fun h => ?_) (fun h => ?_)
      · have hi' : i < m := (by omega); have ct := hf w2 l' e2; (refine q0n<|tn<|q0b<|q0j<|q0a<|Ls (q0e (v := v) rfl)<|Ls (q0e (v := .func _ _ _) rfl) ?_); rw [show m - i = (m - (i + 1)) + 1 by omega] at hdec; cases hS3 : S l' with
        | err x =>
          refine q8r (vl := []) rfl ct rfl ?_; rintro e w3 ⟨hg3, h3⟩; rw [hS3] at h3; obtain rfl : e = _ := h3; refine .inr ⟨_, rfl, rfl, DecR.err (q0d hg2 hg3 fun q h => .inl h) ?_⟩; rw [hdec, Ce.rep_err hS3]; rfl
        | got a r' =>
          refine q5a (vl := []) rfl ct rfl ?_; rintro e w3 ⟨hg3, h3⟩; rw [hS3] at h3; obtain ⟨y, rfl, hy, e3⟩ := h3; refine ⟨_, rfl, ?_⟩; rw [Ce.rep_got hS3, Ce.Res.app_app] at hdec; have hyl := hz hy; have hg23 := q0d hg2 hg3 fun q h => .inl h; have hvb : ∀ q, v.ownBlock = some q → q < w2.heap.size := by
            obtain ⟨ys, _, _, h3, _⟩ := ho; exact fun q hq => (h3.lt q hq).2
          have ho3 := ho.other hR hg3 hpl; refine L_litA (l := y) rfl ?_ ?_ ?_
          · exact hyl
          · decide
          intro u4 w4 r4 E4 hs4; obtain ⟨ys, y1, y2, own4, yR⟩ := (ho3.ext hR E4).h; have e4 := e3.ext E4; have hg4 := q0d hg23 (E4.row (some p)) fun q h => .inl h; have hs4 := E4.size; have hs3 := hg3.size; have hs2 := hg2.size; have hy4 : R (fun k => w2.heap.size ≤ k ∧ k < w4.heap.size) w4 y a := hR.mono (hR.ext hy E4) fun k hk => ⟨hk.1, by omega⟩; refine q1s rfl rfl own4 r4 (hR.one hy) (by omega) (by omega) (by omega) ?_; intro v5 w5 o5 hg5 hb5; have ho5 := OutAt.app (a := a) hR y1 y2 own4 yR hy4 hyl hs2 hvb o5 hg5 hb5; have hv5 := ho5.cell1; have hg05 := q0d hg4 hg5 fun q hq => .inr ((own4.lt q hq).1); have hpv : v.ownBlock ≠ some p := fun e => (by have := (own4.lt p e).1; omega); have e5 : DecAt N p w5 r' := e4.grown hg5 hpv fun q hq k => (by have := (own4.lt q hq).1; have := (he.n q k).2; omega); (refine Ls (q0i (v := v5) rfl)<|q0c<|bn<|tn<|q0a<|Ls (q1j rfl rfl (by omega))<|m_I rfl<|q0c<|tn ?_); exact ⟨m - (i + 1), by omega, i + 1, xs ++ [a], v5, r', rfl, by omega, rfl, rfl, rfl, rfl, by rw [List.length_append, hxs]; rfl, ho5, hg05, e5, hdec⟩
      · obtain rfl : i = m := (by omega); (refine q1g<|te<|te<|bx<|tn<|q0b<|q0a<|Ls (q0e (v := v) rfl)<|Ls (q0i (v := v) rfl)<|q0c<|tn<|q0s ?_); refine q0f rfl rfl (v := v) rfl ?_; rw [Nat.sub_self] at hdec; refine DecR.got hg2 (hdec.trans (show _ = Ce.Res.got xs l' from ?_)) [v] (ho.slR hR) e2; show Ce.Res.got (xs ++ []) l' = _; rw [List.append_nil]
set_option maxRecDepth 100000 in
set_option maxHeartbeats 1000000 in
theorem delL {α : Type} {R : Rep α} (hR : R.Ok) (hz : ∀ {N : Nat → Prop} {w : World} {y : List Value} {a : α}, R N w y a → y.length = 6) (id : FuncId) [TFun Tryz.prog id] (first cap : Array Value) (N : Nat → Prop) (p : Nat) (S : Ce.Ps α) (l : List Nat) (w : World)
    (hf : DecF id first cap p N S R agV) (he : DecAt N p w l) :
    Calls Tryz.prog 64 #[.pointer (some ⟨p, 0, none⟩), .func (.func id) first cap] w (DecR (Ce.els S) (slR 6 R) hdV N p l w) := by
  refine q0k Tryz.func64 rfl Tryz.ntmps64 rfl ?_; have ct := dint N p l w he; have hb : ∀ x, Ce.num 4 l = x → Ce.els S l = x.bind (Ce.rep S) := fun x h => by rw [← h]; rfl
  have hpl := he.lt; (refine q0b<|q0a<|a_S rfl<|q0c<|tn<|q0b<|q0a<|a_S rfl<|q0c<|tn<|q0b<|q0b<|q0a<|m_P rfl ?_); cases hS : Ce.num 4 l with
  | err x =>
    rw [hS] at ct; refine q6n ct rfl ?_; rintro e w1 ⟨hg1, rfl⟩; exact .inr ⟨_, rfl, rfl, DecR.err hg1 (hb _ hS)⟩
  | got m r =>
    rw [hS] at ct; refine L_fn ct rfl ?_; rintro e w1 ⟨hg1, rfl, hm, e1⟩; refine ⟨_, rfl, ?_⟩; have hS2 : Ce.els S l = Ce.rep S m r := hb _ hS; clear hS hb ct; (refine m_I rfl<|q0c<|tn<|q0j ?_); refine q1k (fun q f w' => ∃ i xs v l', q = m - i ∧ i ≤ m ∧ f 1 = .func (.func id) first cap ∧ f 5 = v ∧ f 7 = .int .i64 (m : Nat) ∧ f 8 = .int .i64 (i : Nat) ∧ xs.length = i ∧ OutAt 100 6 R w w' v xs ∧ w.grownBy w' (some p) ∧ DecAt N p w' l' ∧ Ce.els S l = Ce.Res.app xs (Ce.rep S (m - i) l')) m ?_ ?_
    · refine ⟨0, [], .slice none 0 0, r, rfl, by omega, rfl, rfl, rfl, rfl, rfl, ⟨[], rfl, (fun _ h => by cases h), ⟨rfl, .inl ⟨rfl, rfl⟩⟩, (fun _ _ _ h => by cases h)⟩, hg1, e1, ?_⟩; rw [Ce.Res.app_nil]; exact hS2
    · rintro q f w2 ⟨i, xs, v, l', rfl, hi, f1, f5, f7, f8, hxs, ho, hg2, e2, hdec⟩; rw [fold f1, fold f5, fold f7, fold f8]; have hv := ho.cell1; (refine q0b<|q0a<|Ls (q2f rfl rfl)<|q0c<|tn<|q0b ?_); refine q1b rfl (fun h => ?_) (fun h => ?_)
      · have hi' : i < m := (by omega); have ct := hf w2 l' e2; (refine q0n<|tn<|q0b<|q0j<|q0a<|Ls (q0e (v := v) rfl)<|Ls (q0e (v := .func _ _ _) rfl) ?_); rw [show m - i = (m - (i + 1)) + 1 by omega] at hdec; cases hS3 : S l' with
        | err x =>
          refine q8r (vl := []) rfl ct rfl ?_; rintro e w3 ⟨hg3, h3⟩; rw [hS3] at h3; obtain rfl : e = _ := h3; refine .inr ⟨_, rfl, rfl, DecR.err (q0d hg2 hg3 fun q h => .inl h) ?_⟩; rw [hdec, Ce.rep_err hS3]; rfl
        | got a r' =>
          refine q5a (vl := []) rfl ct rfl ?_; rintro e w3 ⟨hg3, h3⟩; rw [hS3] at h3; obtain ⟨y, rfl, hy, e3⟩ := h3; refine ⟨_, rfl, ?_⟩; rw [Ce.rep_got hS3, Ce.Res.app_app] at hdec; have hyl := hz hy; have hg23 := q0d hg2 hg3 fun q h => .inl h; have hvb : ∀ q, v.ownBlock = some q → q < w2.heap.size := by
            obtain ⟨ys, _, _, h3, _⟩ := ho; exact fun q hq => (h3.lt q hq).2
          have ho3 := ho.other hR hg3 hpl; refine L_litA (l := y) rfl ?_ ?_ ?_
          · exact hyl
          · decide
          intro u4 w4 r4 E4 hs4; obtain ⟨ys, y1, y2, own4, yR⟩ := (ho3.ext hR E4).h; have e4 := e3.ext E4; have hg4 := q0d hg23 (E4.row (some p)) fun q h => .inl h; have hs4 := E4.size; have hs3 := hg3.size; have hs2 := hg2.size; have hy4 : R (fun k => w2.heap.size ≤ k ∧ k < w4.heap.size) w4 y a := hR.mono (hR.ext hy E4) fun k hk => ⟨hk.1, by omega⟩; refine q1s rfl rfl own4 r4 (hR.one hy) (by omega) (by omega) (by omega) ?_; intro v5 w5 o5 hg5 hb5; have ho5 := OutAt.app (a := a) hR y1 y2 own4 yR hy4 hyl hs2 hvb o5 hg5 hb5; have hv5 := ho5.cell1; have hg05 := q0d hg4 hg5 fun q hq => .inr ((own4.lt q hq).1); have hpv : v.ownBlock ≠ some p := fun e => (by have := (own4.lt p e).1; omega); have e5 : DecAt N p w5 r' := e4.grown hg5 hpv fun q hq k => (by have := (own4.lt q hq).1; have := (he.n q k).2; omega); (refine Ls (q0i (v := v5) rfl)<|q0c<|bn<|tn<|q0a<|Ls (q1j rfl rfl (by omega))<|m_I rfl<|q0c<|tn ?_); exact ⟨m - (i + 1), by omega, i + 1, xs ++ [a], v5, r', rfl, by omega, rfl, rfl, rfl, rfl, by rw [List.length_append, hxs]; rfl, ho5, hg05, e5, hdec⟩
      · obtain rfl : i = m := (by omega); (refine q1g<|te<|te<|bx<|tn<|q0b<|q0a<|Ls (q0e (v := v) rfl)<|Ls (q0i (v := v) rfl)<|q0c<|tn<|q0s ?_); refine q0f rfl rfl (v := v) rfl ?_; rw [Nat.sub_self] at hdec; refine DecR.got hg2 (hdec.trans (show _ = Ce.Res.got xs l' from ?_)) [v] (ho.slR hR) e2; show Ce.Res.got (xs ++ []) l' = _; rw [List.append_nil]
set_option maxRecDepth 100000 in
set_option maxHeartbeats 1000000 in
theorem delD {α : Type} {R : Rep α} (hR : R.Ok) (hz : ∀ {N : Nat → Prop} {w : World} {y : List Value} {a : α}, R N w y a → y.length = 32) (id : FuncId) [TFun Tryz.prog id] (first cap : Array Value) (N : Nat → Prop) (p : Nat) (S : Ce.Ps α) (l : List Nat) (w : World)
    (hf : DecF id first cap p N S R agV) (he : DecAt N p w l) :
    Calls Tryz.prog 70 #[.pointer (some ⟨p, 0, none⟩), .func (.func id) first cap] w (DecR (Ce.els S) (slR 32 R) hdV N p l w) := by
  refine q0k Tryz.func70 rfl Tryz.ntmps70 rfl ?_; have ct := dint N p l w he; have hb : ∀ x, Ce.num 4 l = x → Ce.els S l = x.bind (Ce.rep S) := fun x h => by rw [← h]; rfl
  have hpl := he.lt; (refine q0b<|q0a<|a_S rfl<|q0c<|tn<|q0b<|q0a<|a_S rfl<|q0c<|tn<|q0b<|q0b<|q0a<|m_P rfl ?_); cases hS : Ce.num 4 l with
  | err x =>
    rw [hS] at ct; refine q6n ct rfl ?_; rintro e w1 ⟨hg1, rfl⟩; exact .inr ⟨_, rfl, rfl, DecR.err hg1 (hb _ hS)⟩
  | got m r =>
    rw [hS] at ct; refine L_fn ct rfl ?_; rintro e w1 ⟨hg1, rfl, hm, e1⟩; refine ⟨_, rfl, ?_⟩; have hS2 : Ce.els S l = Ce.rep S m r := hb _ hS; clear hS hb ct; (refine m_I rfl<|q0c<|tn<|q0j ?_); refine q1k (fun q f w' => ∃ i xs v l', q = m - i ∧ i ≤ m ∧ f 1 = .func (.func id) first cap ∧ f 5 = v ∧ f 7 = .int .i64 (m : Nat) ∧ f 8 = .int .i64 (i : Nat) ∧ xs.length = i ∧ OutAt 23 32 R w w' v xs ∧ w.grownBy w' (some p) ∧ DecAt N p w' l' ∧ Ce.els S l = Ce.Res.app xs (Ce.rep S (m - i) l')) m ?_ ?_
    · refine ⟨0, [], .slice none 0 0, r, rfl, by omega, rfl, rfl, rfl, rfl, rfl, ⟨[], rfl, (fun _ h => by cases h), ⟨rfl, .inl ⟨rfl, rfl⟩⟩, (fun _ _ _ h => by cases h)⟩, hg1, e1, ?_⟩; rw [Ce.Res.app_nil]; exact hS2
    · rintro q f w2 ⟨i, xs, v, l', rfl, hi, f1, f5, f7, f8, hxs, ho, hg2, e2, hdec⟩; rw [fold f1, fold f5, fold f7, fold f8]; have hv := ho.cell1; (refine q0b<|q0a<|Ls (q2f rfl rfl)<|q0c<|tn<|q0b ?_); refine q1b rfl (fun h => ?_) (fun h => ?_)
      · have hi' : i < m := (by omega); have ct := hf w2 l' e2; (refine q0n<|tn<|q0b<|q0j<|q0a<|Ls (q0e (v := v) rfl)<|Ls (q0e (v := .func _ _ _) rfl) ?_); rw [show m - i = (m - (i + 1)) + 1 by omega] at hdec; cases hS3 : S l' with
        | err x =>
          refine q8r (vl := []) rfl ct rfl ?_; rintro e w3 ⟨hg3, h3⟩; rw [hS3] at h3; obtain rfl : e = _ := h3; refine .inr ⟨_, rfl, rfl, DecR.err (q0d hg2 hg3 fun q h => .inl h) ?_⟩; rw [hdec, Ce.rep_err hS3]; rfl
        | got a r' =>
          refine q5a (vl := []) rfl ct rfl ?_; rintro e w3 ⟨hg3, h3⟩; rw [hS3] at h3; obtain ⟨y, rfl, hy, e3⟩ := h3; refine ⟨_, rfl, ?_⟩; rw [Ce.rep_got hS3, Ce.Res.app_app] at hdec; have hyl := hz hy; have hg23 := q0d hg2 hg3 fun q h => .inl h; have hvb : ∀ q, v.ownBlock = some q → q < w2.heap.size := by
            obtain ⟨ys, _, _, h3, _⟩ := ho; exact fun q hq => (h3.lt q hq).2
          have ho3 := ho.other hR hg3 hpl; refine L_litA (l := y) rfl ?_ ?_ ?_
          · exact hyl
          · decide
          intro u4 w4 r4 E4 hs4; obtain ⟨ys, y1, y2, own4, yR⟩ := (ho3.ext hR E4).h; have e4 := e3.ext E4; have hg4 := q0d hg23 (E4.row (some p)) fun q h => .inl h; have hs4 := E4.size; have hs3 := hg3.size; have hs2 := hg2.size; have hy4 : R (fun k => w2.heap.size ≤ k ∧ k < w4.heap.size) w4 y a := hR.mono (hR.ext hy E4) fun k hk => ⟨hk.1, by omega⟩; refine q1s rfl rfl own4 r4 (hR.one hy) (by omega) (by omega) (by omega) ?_; intro v5 w5 o5 hg5 hb5; have ho5 := OutAt.app (a := a) hR y1 y2 own4 yR hy4 hyl hs2 hvb o5 hg5 hb5; have hv5 := ho5.cell1; have hg05 := q0d hg4 hg5 fun q hq => .inr ((own4.lt q hq).1); have hpv : v.ownBlock ≠ some p := fun e => (by have := (own4.lt p e).1; omega); have e5 : DecAt N p w5 r' := e4.grown hg5 hpv fun q hq k => (by have := (own4.lt q hq).1; have := (he.n q k).2; omega); (refine Ls (q0i (v := v5) rfl)<|q0c<|bn<|tn<|q0a<|Ls (q1j rfl rfl (by omega))<|m_I rfl<|q0c<|tn ?_); exact ⟨m - (i + 1), by omega, i + 1, xs ++ [a], v5, r', rfl, by omega, rfl, rfl, rfl, rfl, by rw [List.length_append, hxs]; rfl, ho5, hg05, e5, hdec⟩
      · obtain rfl : i = m := (by omega); (refine q1g<|te<|te<|bx<|tn<|q0b<|q0a<|Ls (q0e (v := v) rfl)<|Ls (q0i (v := v) rfl)<|q0c<|tn<|q0s ?_); refine q0f rfl rfl (v := v) rfl ?_; rw [Nat.sub_self] at hdec; refine DecR.got hg2 (hdec.trans (show _ = Ce.Res.got xs l' from ?_)) [v] (ho.slR hR) e2; show Ce.Res.got (xs ++ []) l' = _; rw [List.append_nil]
end Go.Proofs.YtlggfbglpcegoaaGreatDoor
namespace Ce
def Res.map {α β : Type} (f : α → β) : Res α → Res β
  | .err e => .err e
  | .got a r => .got (f a) r
theorem mapP_eq {α β : Type} (p : Ps α) (f : α → β) (l : List Nat) : mapP p f l = Res.map f (p l) := by
  show (p l).bind _ = _; cases p l <;> rfl
theorem seq_err {α β γ : Type} {c : Cod α} {d : Cod β} {r : List Nat} {x : Nat} (h : c.p r = .err x) (g : α × β → γ) : Res.map g ((c.seq d).p r) = .err x := by
  show Res.map g ((c.p r).bind _) = _; rw [h]; rfl
theorem seq_got {α β γ : Type} {c : Cod α} {d : Cod β} {r r' : List Nat} {a : α} (h : c.p r = .got a r') (g : α × β → γ) : Res.map g ((c.seq d).p r) = Res.map (fun b => g (a, b)) (d.p r') := by
  show Res.map g ((c.p r).bind _) = _; rw [h]; show Res.map g ((d.p r').bind _) = _; cases d.p r' <;> rfl
theorem map_errR {α γ : Type} {c : Cod α} {r : List Nat} {x : Nat} (h : c.p r = .err x) (g : α → γ) : Res.map g (c.p r) = .err x := by rw [h]; rfl
theorem map_gotR {α γ : Type} {c : Cod α} {r r' : List Nat} {a : α} (h : c.p r = .got a r') (g : α → γ) : Res.map g (c.p r) = .got (g a) r' := by rw [h]; rfl
end Ce
namespace Go.Proofs.YtlggfbglpcegoaaGreatDoor
open Go.RowKit Go.Proofs.K
section
variable {n : NN} {Q : Exit → Fr → World → Prop} {f : Fr} {w : World} {ops : Array Oper} {rest : List Oper} {d : Tmp} {t : TypeId} {pos : String} {af : Array Edge}
theorem q5i {α : Type} {S : Ce.Ps α} {R : Rep α} {V : List Value → Value} {N : Nat → Prop} {p : Nat} {l : List Nat} {id : FuncId} [TFun Tryz.prog id] {o : List Operand} {vl : List Value} {tys : Array TypeId}
    (c : Calls Tryz.prog id vl.toArray w (DecR S R V N p l w)) (ha : o.map (ev n f) = vl) (herr : ∀ x w', w.grownBy w' (some p) → S l = .err x → Q (.panic (erV x)) f w')
    (hgot : ∀ a r y w', w.grownBy w' (some p) → S l = .got a r → R (fun k => w.heap.size ≤ k ∧ k < w'.heap.size) w' y a → DecAt N p w' r → L Tryz.prog n ops Q rest (upd f d (V y)) w') :
    L Tryz.prog n ops Q (⟨some d, .call ⟨.value (.func id), o.toArray, tys⟩, t, pos, af, none⟩ :: rest) f w := by
  refine q6n c ha ?_; rintro e w' ⟨hg, h⟩; cases hS : S l with
  | err x =>
    rw [hS] at h; exact .inr ⟨_, h, herr x w' hg hS⟩
  | got a r =>
    rw [hS] at h; obtain ⟨y, he, hy, hd⟩ := h; exact .inl ⟨_, he, hgot a r y w' hg hS hy hd⟩
end
theorem dfE (N : Nat → Prop) (p : Nat) : DecF 66 #[ptr p] #[] p N Ce.extC.p exR agV := fun w l he => dext N p l w he
theorem dfW (N : Nat → Prop) (p : Nat) : DecF 101 #[ptr p] #[] p N Ce.wordC.p (numR .u64) hdV := fun w l he => dword N p l w he
theorem dfB (N : Nat → Prop) (p : Nat) : DecF 57 #[ptr p] #[] p N Ce.byteC.p (numR .u8) hdV := fun w l he => dbyte N p l w he
theorem dfI (N : Nat → Prop) (p : Nat) : DecF 61 #[ptr p] #[] p N (Ce.numC 8).p sumR hdV := fun w l he => dsum N p l w he
theorem dfD (N : Nat → Prop) (p : Nat) : DecF 59 #[ptr p] #[] p N (Ce.raw 32).p (byR 32) agV := fun w l he => ddigest N p l w he
theorem z1t {N : Nat → Prop} {w : World} {y : List Value} {a : Nat × Nat} (h : exR N w y a) : y.length = 2 := by
  have h : y = exC _ _ := h; subst h; rfl
theorem numR_len {k : IntKind} {N : Nat → Prop} {w : World} {y : List Value} {a : Nat} (h : numR k N w y a) : y.length = 1 := by
  have h : y = [_] := h; subst h; rfl
theorem sumR_len {N : Nat → Prop} {w : World} {y : List Value} {a : Nat} (h : sumR N w y a) : y.length = 1 := by
  obtain ⟨z, h, _⟩ := h; subst h; rfl
theorem byR_len {m : Nat} {N : Nat → Prop} {w : World} {y : List Value} {a : List Nat} (h : byR m N w y a) : y.length = m := by
  obtain ⟨h, h2⟩ := h; subst h; rw [q0v, h2]
theorem z1i {α : Type} {size : Nat} {R : Rep α} {N : Nat → Prop} {w : World} {y : List Value} {a : List α} (h : slR size R N w y a) : y.length = 1 := by
  obtain ⟨v, h, _⟩ := h; subst h; rfl
theorem lpR_len {N : Nat → Prop} {w : World} {y : List Value} {a : Ce.LP} (h : lpR N w y a) : y.length = 6 := by
  obtain ⟨a, b, h, _⟩ := h; subst h; rfl
set_option maxRecDepth 100000 in
set_option maxHeartbeats 1000000 in
theorem dround (N : Nat → Prop) (p : Nat) (l : List Nat) (w : World) (he : DecAt N p w l) :
    Calls Tryz.prog 63 #[.pointer (some ⟨p, 0, none⟩)] w (DecR Ce.roundC.p (slR 2 exR) hdV N p l w) := by
  refine q0k Tryz.func63 rfl Tryz.ntmps63 rfl ?_; (refine q0b<|q0a<|a_S rfl<|q0c<|tn<|q0b<|q0a<|m_P rfl<|m_P rfl ?_); refine Ls (q1l (vf := [ptr p]) (vc := []) rfl rfl) ?_; refine q5i (delE q3p z1t 66 #[ptr p] #[] N p Ce.extC.p l w (dfE N p) he) rfl ?_ ?_
  · exact fun x w1 hg1 hS => ⟨rfl, DecR.err hg1 hS⟩
  · intro a r y w1 hg1 hS hy e1; obtain ⟨v, rfl⟩ := q2j hy; have hv := q0w.one hy v (List.mem_singleton.2 rfl); (refine Ls (q0i (v := v) rfl)<|q0c<|tn<|q0s ?_); exact q0f rfl rfl (v := v) rfl (DecR.got hg1 hS [v] hy e1)
set_option maxRecDepth 100000 in
set_option maxHeartbeats 1000000 in
theorem dcolumn (N : Nat → Prop) (p : Nat) (l : List Nat) (w : World) (he : DecAt N p w l) :
    Calls Tryz.prog 69 #[.pointer (some ⟨p, 0, none⟩)] w (DecR (Ce.lst Ce.wordC).p (slR 1 (numR .u64)) hdV N p l w) := by
  refine q0k Tryz.func69 rfl Tryz.ntmps69 rfl ?_; (refine q0b<|q0a<|a_S rfl<|q0c<|tn<|q0b<|q0a<|m_P rfl<|m_P rfl ?_); refine Ls (q1l (vf := [ptr p]) (vc := []) rfl rfl) ?_; refine q5i (delW (q1o _) numR_len 101 #[ptr p] #[] N p Ce.wordC.p l w (dfW N p) he) rfl ?_ ?_
  · exact fun x w1 hg1 hS => ⟨rfl, DecR.err hg1 hS⟩
  · intro a r y w1 hg1 hS hy e1; obtain ⟨v, rfl⟩ := q2j hy; have hv := (q0z (by decide) (q1o _)).one hy v (List.mem_singleton.2 rfl); (refine Ls (q0i (v := v) rfl)<|q0c<|tn<|q0s ?_); exact q0f rfl rfl (v := v) rfl (DecR.got hg1 hS [v] hy e1)
theorem dfR (N : Nat → Prop) (p : Nat) : DecF 63 #[ptr p] #[] p N Ce.roundC.p (slR 2 exR) hdV := fun w l he => dround N p l w he
theorem dfC (N : Nat → Prop) (p : Nat) : DecF 69 #[ptr p] #[] p N (Ce.lst Ce.wordC).p (slR 1 (numR .u64)) hdV := fun w l he => dcolumn N p l w he
def Nw (w : World) (g g' : Nat) (a : World) : Nat → Prop := fun k => w.heap.size ≤ k ∧ k < a.heap.size ∧ k ≠ g ∧ k ≠ g'
theorem Rep.Ok.nw {α : Type} {R : Rep α} (hR : R.Ok) {w a b : World} {g g' q : Nat} {y : List Value} {x : α} (h : R (Nw w g g' a) a y x) (hg : a.grownBy b (some q)) (hq : q < w.heap.size ∨ q = g ∨ q = g') : R (Nw w g g' b) b y x :=
  hR.mono (hR.grown h hg fun q' e k => by
    cases e
    have := k.1
    have := k.2.2
    omega) fun k hk => ⟨hk.1, Nat.lt_of_lt_of_le hk.2.1 hg.size, hk.2.2⟩
theorem Rep.Ok.nwE {α : Type} {R : Rep α} (hR : R.Ok) {w a b : World} {g g' : Nat} {y : List Value} {x : α} (h : R (Nw w g g' a) a y x) (E : Ext a b) : R (Nw w g g' b) b y x :=
  hR.mono (hR.ext h E) fun _ hk => ⟨hk.1, Nat.lt_of_lt_of_le hk.2.1 E.size, hk.2.2⟩
theorem Rep.Ok.nw0 {α : Type} {R : Rep α} (hR : R.Ok) {w a b : World} {g g' : Nat} {y : List Value} {x : α} (h : R (fun k => a.heap.size ≤ k ∧ k < b.heap.size) b y x) (h0 : w.heap.size ≤ a.heap.size) (h1 : g < a.heap.size ∨ b.heap.size ≤ g) (h2 : g' < a.heap.size ∨ b.heap.size ≤ g') : R (Nw w g g' b) b y x :=
  hR.mono h fun k hk => ⟨by omega, hk.2, by omega, by omega⟩
structure DSt (N : Nat → Prop) (p : Nat) (w a : World) (l : List Nat) : Prop where
  g : w.grownBy a (some p)
  d : DecAt N p a l
theorem DSt.call {N : Nat → Prop} {p : Nat} {w a b : World} {l r : List Nat} (h : DSt N p w a l) (hg : a.grownBy b (some p)) (hd : DecAt N p b r) : DSt N p w b r := ⟨q0d h.g hg fun _ h => .inl h, hd⟩
theorem DSt.err {N : Nat → Prop} {p : Nat} {w a b : World} {l : List Nat} (h : DSt N p w a l) (hg : a.grownBy b (some p)) : w.grownBy b (some p) := q0d h.g hg fun _ h => .inl h
theorem DSt.ext {N : Nat → Prop} {p : Nat} {w a b : World} {l : List Nat} (h : DSt N p w a l) (E : Ext a b) : DSt N p w b l := ⟨q0d h.g (E.row (some p)) fun _ h => .inl h, h.d.ext E⟩
theorem DSt.set {N : Nat → Prop} {p q : Nat} {w a b : World} {l l0 : List Nat} (h : DSt N p w a l) (h0 : DecAt N p w l0) (hg : a.grownBy b (some q)) (hq : w.heap.size ≤ q) : DSt N p w b l :=
  ⟨q0d h.g hg fun q' e => by cases e; exact .inr hq, h.d.grown hg (by intro e; cases e; have := h0.lt; omega) fun q' e k => by cases e; have := (h0.n _ k).2; omega⟩
theorem q2v {v : Value} (h : v.oneCell' = true) : v.cells = #[v] := by cases v <;> first | rfl | cases h
end Go.Proofs.YtlggfbglpcegoaaGreatDoor
namespace Go.Proofs.YtlggfbglpcegoaaGreatDoor
open Go.RowKit Go.Proofs.K
set_option maxRecDepth 100000 in
set_option maxHeartbeats 2000000 in
theorem dlayer (N : Nat → Prop) (p : Nat) (l : List Nat) (w : World) (he : DecAt N p w l) :
    Calls Tryz.prog 65 #[.pointer (some ⟨p, 0, none⟩)] w (DecR Ce.lpC.p lpR agV N p l w) := by
  refine q0k Tryz.func65 rfl Tryz.ntmps65 rfl ?_; have h0 : Ce.lpC.p l = Ce.Res.map (fun x => (⟨x.1, x.2.1, x.2.2.1, x.2.2.2⟩ : Ce.LP)) (((Ce.lst Ce.roundC).seq (Ce.extC.seq (Ce.extC.seq Ce.roundC))).p l) := Ce.mapP_eq _ _ _; (refine q0b<|q0a ?_); refine q0x ?_; intro g2 w2 B2 hg2 E2 hs2; have hpl := he.lt; have D2 : DSt N p w w2 l := ⟨E2.row _, he.ext E2⟩; have B2l := q2b B2; (refine q0c<|tn<|q0b<|q0a<|m_P rfl<|m_P rfl ?_); refine Ls (q1l (vf := [ptr p]) (vc := []) rfl rfl) ?_; refine q5i (delR q0w z1i 63 #[ptr p] #[] N p Ce.roundC.p l w2 (dfR N p) D2.d) rfl ?_ ?_
  · exact fun x w3 hg3 hS => ⟨rfl, DecR.err (D2.err hg3) (h0.trans (Ce.seq_err (c := Ce.lst Ce.roundC) hS _))⟩
  intro a3 r3 y3 w3 hg3 hS3 hy3 e3; have h3 := h0.trans (Ce.seq_got (c := Ce.lst Ce.roundC) hS3 _); have D3 := D2.call hg3 e3; have hs3 := hg3.size; have B3 := B2.grown hg3 (by intro h; cases h; omega); obtain ⟨v3, rfl⟩ := q2j hy3; have c3 := q1c.one hy3 v3 (List.mem_singleton.2 rfl); skip; refine Ls (q1p (r := [(0, .tmp 7)]) (zs' := [[v3], [.int .u64 0, .int .u64 0], [.int .u64 0, .int .u64 0], [.slice none 0 0]]) (Parts.cons (c := [v3]) (z := [.slice none 0 0]) rfl (q2v c3) rfl rfl (Parts.nil _))) ?_; refine q0x ?_; intro g4 w4 B4 hg4 E4 hs4; have D4 := D3.ext E4; refine q0l (l := [v3, .int .u64 0, .int .u64 0, .int .u64 0, .int .u64 0, .slice none 0 0]) rfl rfl rfl ?_ B4 rfl ?_
  · intro v hv; simp at hv; rcases hv with rfl | rfl | rfl <;> first | exact c3 | rfl
  intro w5 B5 hg5 hs5; have D5 := D4.set he hg5 (by omega); have B5' := (B3.ext E4).grown hg5 (by intro h; cases h; omega); have hy5 := q1c.nw (q1c.nwE (q1c.nw0 (w := w) (g := g2) (g' := g4) hy3 (by omega) (.inl (by omega)) (.inr (by omega))) E4) hg5 (.inr (.inr rfl)); (refine q0c<|tn<|q0b<|q0a<|m_P rfl ?_); refine q5i (dext N p r3 w5 D5.d) rfl ?_ ?_
  · exact fun x w6 hg6 hS => ⟨rfl, DecR.err (D5.err hg6) (h3.trans (Ce.seq_err hS _))⟩
  intro a6 r6 y6 w6 hg6 hS6 hy6 e6; have h6 := h3.trans (Ce.seq_got hS6 _); have D6 := D5.call hg6 e6; obtain rfl : y6 = exC a6.1 a6.2 := hy6; have hs6 := hg6.size; have B6 := B5.grown hg6 (by intro h; cases h; omega); have B6' := B5'.grown hg6 (by intro h; cases h; omega); have hy6 := q1c.nw hy5 hg6 (.inl (by omega)); (refine Ls (q0g rfl) ?_); refine q5g (size := 2) (l := exC a6.1 a6.2) rfl rfl rfl q5f B6 (Nat.le_of_ble_eq_true rfl) ?_; intro w7 B7 hg7 hs7; have D7 := D6.set he hg7 (by omega); have B7' := B6'.grown hg7 (by intro h; cases h; omega); have hy7 := q1c.nw hy6 hg7 (.inr (.inr rfl)); (refine q0c<|tn<|q0b<|q0a<|m_P rfl ?_); refine q5i (dext N p r6 w7 D7.d) rfl ?_ ?_
  · exact fun x w8 hg8 hS => ⟨rfl, DecR.err (D7.err hg8) (h6.trans (Ce.seq_err hS _))⟩
  intro a8 r8 y8 w8 hg8 hS8 hy8 e8; have h8 := h6.trans (Ce.seq_got hS8 _); have D8 := D7.call hg8 e8; obtain rfl : y8 = exC a8.1 a8.2 := hy8; have hs8 := hg8.size; have B8 := B7.grown hg8 (by intro h; cases h; omega); have B8' := B7'.grown hg8 (by intro h; cases h; omega); have hy8 := q1c.nw hy7 hg8 (.inl (by omega)); (refine Ls (q0g rfl) ?_); refine q5g (size := 2) (l := exC a8.1 a8.2) rfl rfl rfl q5f B8 (Nat.le_of_ble_eq_true rfl) ?_; intro w9 B9 hg9 hs9; have D9 := D8.set he hg9 (by omega); have B9' := B8'.grown hg9 (by intro h; cases h; omega); have hy9 := q1c.nw hy8 hg9 (.inr (.inr rfl)); (refine q0c<|tn<|q0b<|q0a<|m_P rfl<|m_P rfl ?_); refine Ls (q1l (vf := [ptr p]) (vc := []) rfl rfl) ?_; refine q5i (delE q3p z1t 66 #[ptr p] #[] N p Ce.extC.p r8 w9 (dfE N p) D9.d) rfl ?_ ?_
  · exact fun x w10 hg10 hS => ⟨rfl, DecR.err (D9.err hg10) (h8.trans (Ce.map_errR (c := Ce.roundC) hS _))⟩
  intro a10 r10 y10 w10 hg10 hS10 hy10 e10; have h10 := h8.trans (Ce.map_gotR (c := Ce.roundC) hS10 _); have D10 := D9.call hg10 e10; obtain ⟨v10, rfl⟩ := q2j hy10; have c10 := q0w.one hy10 v10 (List.mem_singleton.2 rfl); have hs10 := hg10.size; have B10 := B9.grown hg10 (by intro h; cases h; omega); have B10' := B9'.grown hg10 (by intro h; cases h; omega); have hya10 := q1c.nw hy9 hg10 (.inl (by omega)); have hyb10 := q0w.nw0 (w := w) (g := g2) (g' := g4) hy10 (by omega) (.inl (by omega)) (.inl (by omega)); (refine Ls (q0g rfl) ?_); refine q1d (v := v10) rfl rfl c10 B10 (Nat.le_of_ble_eq_true rfl) ?_; intro w11 B11 hg11 hs11; have D11 := D10.set he hg11 (by omega); have B11' := B10'.grown hg11 (by intro h; cases h; omega); have hya11 := q1c.nw hya10 hg11 (.inr (.inr rfl)); have hyb11 := q0w.nw hyb10 hg11 (.inr (.inr rfl)); have B11 : Blk w11 g4 100 [v3, .int .u64 (a6.1 : Nat), .int .u64 (a6.2 : Nat), .int .u64 (a8.1 : Nat), .int .u64 (a8.2 : Nat), v10] := B11; (refine q0c<|tn<|q0b<|q0a<|Ls (q2m rfl B11 rfl) ?_); refine q0l (l := [v3, .int .u64 (a6.1 : Nat), .int .u64 (a6.2 : Nat), .int .u64 (a8.1 : Nat), .int .u64 (a8.2 : Nat), v10]) rfl rfl rfl ?_ B11' rfl ?_
  · intro v hv; simp at hv; rcases hv with rfl | rfl | rfl | rfl | rfl | rfl <;> first | exact c3 | exact c10 | rfl
  intro w12 B12 hg12 hs12; have D12 := D11.set he hg12 (by omega); have hya12 := q1c.nw hya11 hg12 (.inr (.inl rfl)); have hyb12 := q0w.nw hyb11 hg12 (.inr (.inl rfl)); (refine q0c<|tn<|q0s ?_); refine q1i rfl rfl (Res.cellA inferInstance rfl (B12.range (o := 0) (fun j u h => by simpa using h)) rfl .nil) ?_; exact DecR.got D12.g h10 [v3, .int .u64 (a6.1 : Nat), .int .u64 (a6.2 : Nat), .int .u64 (a8.1 : Nat), .int .u64 (a8.2 : Nat), v10] ⟨v3, v10, rfl, q1c.mono hya12 fun k hk => ⟨hk.1, hk.2.1⟩, q0w.mono hyb12 fun k hk => ⟨hk.1, hk.2.1⟩⟩ D12.d
theorem dfL (N : Nat → Prop) (p : Nat) : DecF 65 #[ptr p] #[] p N Ce.lpC.p lpR agV := fun w l he => dlayer N p l w he
end Go.Proofs.YtlggfbglpcegoaaGreatDoor
namespace Ce
theorem seq4 {β γ : Type} {d : Cod β} {r : List Nat} (g : Nat × Nat × Nat × Nat × β → γ) : Res.map g (((numC 4).seq ((numC 4).seq ((numC 4).seq ((numC 4).seq d)))).p r) =
    (rep (num 4) 4 r).bind fun l r' => Res.map (fun b => g (l.getD 0 0, l.getD 1 0, l.getD 2 0, l.getD 3 0, b)) (d.p r') := by
  cases h1 : (numC 4).p r with
  | err x => rw [seq_err h1, rep_err (show num 4 r = _ from h1)]; rfl
  | got a1 r1 =>
    rw [seq_got h1, rep_got (show num 4 r = _ from h1)]; cases h2 : (numC 4).p r1 with
    | err x => rw [seq_err h2, rep_err (show num 4 r1 = _ from h2)]; rfl
    | got a2 r2 =>
      rw [seq_got h2, rep_got (show num 4 r1 = _ from h2)]; cases h3 : (numC 4).p r2 with
      | err x => rw [seq_err h3, rep_err (show num 4 r2 = _ from h3)]; rfl
      | got a3 r3 =>
        rw [seq_got h3, rep_got (show num 4 r2 = _ from h3)]; cases h4 : (numC 4).p r3 with
        | err x => rw [seq_err h4, rep_err (show num 4 r3 = _ from h4)]; rfl
        | got a4 r4 => rw [seq_got h4, rep_got (show num 4 r3 = _ from h4)]; rfl
def certD : Ps Cert := fun b => (certC.p b).bind fun c r => if r = [] then .got c r else .err 5
end Ce
namespace Go.Proofs.YtlggfbglpcegoaaGreatDoor
open Go.RowKit Go.Proofs.K
theorem slR_rowNums {k : IntKind} {N : Nat → Prop} {w : World} {v : Value} {l : List Nat} (h : slR 1 (numR k) N w [v] l) : RowN N w 1 v l.length (ints k l) := by
  obtain ⟨v', e, ys, h1, h2, h3, h4⟩ := h; cases e
  have : ys.flatten = ints k l := by
    have e : ys = (ints k l).map fun u => [u] := by
      apply List.ext_getElem?; intro i; rw [List.getElem?_map]; rcases Nat.lt_or_ge i l.length with hi | hi
      · obtain ⟨y, hy⟩ : ∃ y, ys[i]? = some y := ⟨_, List.getElem?_eq_getElem (by omega)⟩; obtain ⟨a, ha⟩ : ∃ a, l[i]? = some a := ⟨_, List.getElem?_eq_getElem hi⟩; have : y = [_] := h4 i y a hy ha; rw [hy, q8o ha, this]; rfl
      · rw [List.getElem?_eq_none (by omega), List.getElem?_eq_none (by rw [q0v]; omega)]; rfl
    rw [e]; induction ints k l with
    | nil => rfl
    | cons a l ih => rw [List.map_cons, List.flatten_cons, ih]; rfl
  rw [this] at h3; exact h3
def dC (q lg : Value) (root t : List Value) : List Value := [q, lg] ++ root ++ t
section
variable {q lg v : Value} {root t l : List Value}
theorem q2s (h : root.length = 32) : (dC q lg root t).length = 34 + t.length := by
  simp [dC, h]; omega
theorem dC_root (h : root.length = 32) : (dC q lg root t).take 2 ++ l ++ (dC q lg root t).drop 34 = dC q lg l t := by
  show [q, lg] ++ l ++ ((root ++ t).drop 32) = [q, lg] ++ l ++ t; rw [← h, List.drop_left]
theorem q5o (h : root.length = 32) (j : Nat) : (dC q lg root t).set (34 + j) v = dC q lg root (t.set j v) := by
  unfold dC; have e : ([q, lg] ++ root).length = 34 := by simp [h]
  rw [List.set_append, if_neg (by omega), e, Nat.add_sub_cancel_left]
theorem z1v (h : root.length = 32) (j m : Nat) : (dC q lg root t).take (34 + j) ++ l ++ (dC q lg root t).drop (34 + j + m) = dC q lg root (t.take j ++ l ++ t.drop (j + m)) := by
  unfold dC; have e : ([q, lg] ++ root).length = 34 := by simp [h]
  rw [List.take_append, List.drop_append, e, List.take_of_length_le (by omega), List.drop_eq_nil_of_le (by omega), Nat.add_sub_cancel_left, show 34 + j + m - 34 = j + m by omega, List.nil_append]; simp only [List.append_assoc]
end
theorem CerAt.nw {w a b : World} {g g' r : Nat} {c : Ce.Cert} {qb : ByteArray} {s1 p1 p2 p3 b1 o1 o2 o3 o4 : Value} (h : CerAt (Nw w g g' a) a c qb s1 p1 p2 p3 b1 o1 o2 o3 o4) (hg : a.grownBy b (some r)) (hq : r < w.heap.size ∨ r = g ∨ r = g') : CerAt (Nw w g g' b) b c qb s1 p1 p2 p3 b1 o1 o2 o3 o4 :=
  ⟨h.q, (q0z (by decide) q2l).nw h.s1 hg hq, q1c.nw h.p1 hg hq, q1m.nw h.p2 hg hq, q1m.nw h.p3 hg hq, q1c.nw h.b1 hg hq, q0w.nw h.o1 hg hq, q0w.nw h.o2 hg hq, q4h.nw h.o3 hg hq, q4g.nw h.o4 hg hq⟩
theorem CerAt.mono {N N' : Nat → Prop} {w : World} {c : Ce.Cert} {qb : ByteArray} {s1 p1 p2 p3 b1 o1 o2 o3 o4 : Value} (h : CerAt N w c qb s1 p1 p2 p3 b1 o1 o2 o3 o4) (hN : ∀ k, N k → N' k) : CerAt N' w c qb s1 p1 p2 p3 b1 o1 o2 o3 o4 :=
  ⟨h.q, (q0z (by decide) q2l).mono h.s1 hN, q1c.mono h.p1 hN, q1m.mono h.p2 hN, q1m.mono h.p3 hN, q1c.mono h.b1 hN, q0w.mono h.o1 hN, q0w.mono h.o2 hN, q4h.mono h.o3 hN, q4g.mono h.o4 hN⟩
theorem CerAt.one {N : Nat → Prop} {w : World} {c : Ce.Cert} {qb : ByteArray} {s1 p1 p2 p3 b1 o1 o2 o3 o4 : Value} (h : CerAt N w c qb s1 p1 p2 p3 b1 o1 o2 o3 o4) : ∀ v ∈ cerC c qb s1 p1 p2 p3 b1 o1 o2 o3 o4, v.oneCell' = true := by
  intro v hv; have k1 := (q0z (by decide) q2l).one h.s1 s1 (List.mem_singleton.2 rfl); have k2 := q1c.one h.p1 p1 (List.mem_singleton.2 rfl); have k3 := q1m.one h.p2 p2 (List.mem_singleton.2 rfl); have k4 := q1m.one h.p3 p3 (List.mem_singleton.2 rfl); have k5 := q1c.one h.b1 b1 (List.mem_singleton.2 rfl); have k6 := q0w.one h.o1 o1 (List.mem_singleton.2 rfl); have k7 := q0w.one h.o2 o2 (List.mem_singleton.2 rfl); have k8 := q4h.one h.o3 o3 (List.mem_singleton.2 rfl); have k9 := q4g.one h.o4 o4 (List.mem_singleton.2 rfl); unfold cerC at hv; simp only [List.mem_append] at hv; rcases hv with (hv | hv) | hv
  · simp at hv; rcases hv with rfl | rfl <;> rfl
  · exact q1v v hv
  · simp at hv; rcases hv with rfl | rfl | rfl | rfl | rfl | rfl | rfl | rfl | rfl | rfl | rfl | rfl | rfl | rfl | rfl <;> first | assumption | rfl
theorem z1w {c : Ce.Cert} {qb : ByteArray} {s1 p1 p2 p3 b1 o1 o2 o3 o4 : Value} (h : c.root.length = 32) : (cerC c qb s1 p1 p2 p3 b1 o1 o2 o3 o4).length = 49 := by
  unfold cerC; simp [q0v, h]
theorem lstB_lt {l r : List Nat} {q : List Nat} (hb : ∀ y ∈ l, y < 256) (h : (Ce.lst Ce.byteC).p l = .got q r) : ∀ x ∈ q, x < 256 := fun x hx => by
  have := ((Ce.lst_law Ce.byteC_law).inv l q r hb h).1.2 x hx; exact Ce.numC_lt this
def natR : Rep Nat := fun _ _ x a => x = [.int .i64 (a : Nat)] ∧ a < 4294967296
theorem dintR (N : Nat → Prop) (p : Nat) (l : List Nat) (w : World) (he : DecAt N p w l) :
    Calls Tryz.prog 58 #[.pointer (some ⟨p, 0, none⟩)] w (DecR (Ce.numC 4).p natR hdV N p l w) := by
  refine (dint N p l w he).mono fun e w' h => ⟨h.1, ?_⟩; have h2 := h.2; rw [show (Ce.numC 4).p l = Ce.num 4 l from rfl]; cases hS : Ce.num 4 l with
  | err x => rw [hS] at h2; exact h2
  | got a r =>
    rw [hS] at h2; exact ⟨[_], h2.1, ⟨rfl, h2.2.1⟩, h2.2.2⟩
theorem set_mid {xs ys : List Value} {y v : Value} {i : Nat} (h : xs.length = i) : (xs ++ y :: ys).set i v = xs ++ v :: ys := by
  rw [List.set_append, if_neg (by omega), h, Nat.sub_self]; rfl
set_option maxRecDepth 100000 in
set_option maxHeartbeats 4000000 in
theorem dcert (N : Nat → Prop) (p : Nat) (l : List Nat) (w : World) (he : DecAt N p w l) :
    Calls Tryz.prog 27 #[.pointer (some ⟨p, 0, none⟩)] w (DecR Ce.certD cerR agV N p l w) := by
  refine q0k Tryz.func27 rfl Tryz.ntmps27 rfl ?_; have h0 : Ce.certC.p l = Ce.Res.map Ce.ofT (((Ce.lst Ce.byteC).seq ((Ce.numC 4).seq ((Ce.raw 32).seq ((Ce.numC 4).seq ((Ce.numC 4).seq ((Ce.numC 4).seq ((Ce.numC 4).seq ((Ce.lst (Ce.numC 8)).seq ((Ce.lst Ce.roundC).seq ((Ce.lst Ce.lpC).seq ((Ce.lst Ce.lpC).seq ((Ce.lst Ce.roundC).seq (Ce.extC.seq (Ce.roundC.seq (Ce.roundC.seq ((Ce.lst (Ce.lst Ce.wordC)).seq (Ce.lst (Ce.raw 32)))))))))))))))))).p l) := Ce.mapP_eq _ _ _; have hD : ∀ x, Ce.certC.p l = .err x → Ce.certD l = .err x := fun x h => by
    show (Ce.certC.p l).bind _ = _; rw [h]; rfl
  (refine q0b<|q0a ?_); refine q0x ?_; intro g2 w2 B2 hg2 E2 hs2; have hpl := he.lt; have D2 : DSt N p w w2 l := ⟨E2.row _, he.ext E2⟩; have B2l := q2b B2; (refine q0c<|tn<|q0b<|q0a<|m_P rfl<|m_P rfl ?_); refine Ls (q1l (vf := [ptr p]) (vc := []) rfl rfl) ?_; refine q5i (delB (q1o _) numR_len 57 #[ptr p] #[] N p Ce.byteC.p l w2 (dfB N p) D2.d) rfl ?_ ?_
  · exact fun x w3 hg3 hS => ⟨rfl, DecR.err (D2.err hg3) (hD _ (h0.trans (Ce.seq_err (c := Ce.lst Ce.byteC) hS _)))⟩
  intro q r3 y3 w3 hg3 hS3 hy3 e3; have h3 := h0.trans (Ce.seq_got (c := Ce.lst Ce.byteC) hS3 _); have hq8 := lstB_lt he.b hS3; have D3 := D2.call hg3 e3; have hs3 := hg3.size; have B3 := B2.grown hg3 (by intro h; cases h; omega); obtain ⟨v3, rfl⟩ := q2j hy3; have c3 := (q0z (by decide) (q1o _)).one hy3 v3 (List.mem_singleton.2 rfl); obtain ⟨lo, hi, _, R3⟩ := slR_rowNums hy3; (refine Ls (X_toStr rfl R3) ?_); obtain ⟨qb, hqb⟩ : ∃ qb, qb = strB q := ⟨_, rfl⟩; have hq : q = sb qb := by rw [hqb, z1j hq8]
  rw [← hqb]; refine Ls (q1p (r := [(0, .tmp 10)]) (Parts.cons (c := [.string qb]) (z := [.string ByteArray.empty]) rfl rfl rfl rfl (Parts.nil _))) ?_; refine q0x ?_; intro gc w4 B4 hg4 E4 hs4; have D4 := D3.ext E4; have hA4 : CerAt (Nw w g2 gc w4) w4 ⟨q, 0, List.replicate 32 0, 0, 0, 0, 0, [], [], [], [], [], (0, 0), [], [], [], []⟩ qb (.slice none 0 0) (.slice none 0 0) (.slice none 0 0) (.slice none 0 0) (.slice none 0 0) (.slice none 0 0) (.slice none 0 0) (.slice none 0 0) (.slice none 0 0) := ⟨hq, q1a, q1a, q1a, q1a, q1a, q1a, q1a, q1a, q1a⟩; refine q0l (l := dC (.string qb) (.int .i64 0) (ints .u8 (List.replicate 32 0)) [.int .i64 0, .int .i64 0, .int .i64 0, .int .i64 0, .slice none 0 0, .slice none 0 0, .slice none 0 0, .slice none 0 0, .slice none 0 0, .int .u64 0, .int .u64 0, .slice none 0 0, .slice none 0 0, .slice none 0 0, .slice none 0 0]) rfl rfl rfl hA4.one B4 rfl ?_; intro w5 B5 hg5 hs5; have D5 := D4.set he hg5 (by omega); have B25 := (B3.ext E4).grown hg5 (by intro h; cases h; omega); (refine q0c<|tn<|q0b<|q0a<|m_P rfl ?_); refine q5i (dintR N p r3 w5 D5.d) rfl ?_ ?_
  · exact fun x w6 hg6 hS => ⟨rfl, DecR.err (D5.err hg6) (hD _ (h3.trans (Ce.seq_err hS _)))⟩
  intro lg r6 y6 w6 hg6 hS6 hy6 e6; have h6 := h3.trans (Ce.seq_got hS6 _); have D6 := D5.call hg6 e6; obtain ⟨rfl, hlg⟩ := hy6; have hs6 := hg6.size; have B6 := B5.grown hg6 (by intro h; cases h; omega); have B26 := B25.grown hg6 (by intro h; cases h; omega); (refine Ls (q0g rfl) ?_); refine q1d (v := .int .i64 (lg : Nat)) rfl rfl rfl B6 (by rw [q2s rfl]; decide) ?_; intro w7 B7 hg7 hs7; have D7 := D6.set he hg7 (by omega); have B27 := B26.grown hg7 (by intro h; cases h; omega); have B7 : Blk w7 gc 43 (dC (.string qb) (.int .i64 (lg : Nat)) (ints .u8 (List.replicate 32 0)) [.int .i64 0, .int .i64 0, .int .i64 0, .int .i64 0, .slice none 0 0, .slice none 0 0, .slice none 0 0, .slice none 0 0, .slice none 0 0, .int .u64 0, .int .u64 0, .slice none 0 0, .slice none 0 0, .slice none 0 0, .slice none 0 0]) := B7; (refine q0c<|tn<|q0b<|q0a<|m_P rfl ?_); refine q5i (ddigest N p r6 w7 D7.d) rfl ?_ ?_
  · exact fun x w8 hg8 hS => ⟨rfl, DecR.err (D7.err hg8) (hD _ (h6.trans (Ce.seq_err hS _)))⟩
  intro root r8 y8 w8 hg8 hS8 hy8 e8; have h8 := h6.trans (Ce.seq_got hS8 _); have D8 := D7.call hg8 e8; obtain ⟨rfl, hroot⟩ := hy8; have hs8 := hg8.size; have hrl : (ints .u8 root).length = 32 := by rw [q0v, hroot]
  have B8 := B7.grown hg8 (by intro h; cases h; omega); have B28 := B27.grown hg8 (by intro h; cases h; omega); (refine Ls (q0g rfl) ?_); refine q5g (size := 32) (l := ints .u8 root) rfl rfl hrl q1v B8 (by rw [q2s rfl]; decide) ?_; intro w9 B9 hg9 hs9; have D9 := D8.set he hg9 (by omega); have B29 := B28.grown hg9 (by intro h; cases h; omega); have B9 : Blk w9 gc 43 (dC (.string qb) (.int .i64 (lg : Nat)) (ints .u8 root) [.int .i64 0, .int .i64 0, .int .i64 0, .int .i64 0, .slice none 0 0, .slice none 0 0, .slice none 0 0, .slice none 0 0, .slice none 0 0, .int .u64 0, .int .u64 0, .slice none 0 0, .slice none 0 0, .slice none 0 0, .slice none 0 0]) := (congrArg (Blk w9 gc 43) (dC_root (q := .string qb) (lg := .int .i64 (lg : Nat)) (root := ints .u8 (List.replicate 32 0)) (l := ints .u8 root) (t := [.int .i64 0, .int .i64 0, .int .i64 0, .int .i64 0, .slice none 0 0, .slice none 0 0, .slice none 0 0, .slice none 0 0, .slice none 0 0, .int .u64 0, .int .u64 0, .slice none 0 0, .slice none 0 0, .slice none 0 0, .slice none 0 0]) rfl)).mp B9; (refine q0c<|tn<|q0b<|q0b<|q0a<|Ls (q0g rfl)<|Ls (q0g rfl)<|Ls (q0g rfl)<|Ls (q0g rfl)<|Ls (q0g rfl)<|Ls (q0g rfl)<|Ls (q0g rfl)<|Ls (q0g rfl) ?_); refine Ls (q5y (z := [.pointer none]) (zs' := [[.pointer (some ⟨gc, 34, none⟩)], [.pointer (some ⟨gc, 35, none⟩)], [.pointer (some ⟨gc, 36, none⟩)], [.pointer (some ⟨gc, 37, none⟩)]]) (cs := [.pointer (some ⟨gc, 34, none⟩), .pointer (some ⟨gc, 35, none⟩), .pointer (some ⟨gc, 36, none⟩), .pointer (some ⟨gc, 37, none⟩)]) (len := 4) ?_ rfl rfl) ?_
  · repeat (first | exact Parts.nil _ | refine Parts.cons rfl rfl rfl rfl ?_)
  obtain ⟨cs, hcs⟩ : ∃ cs : List Value, cs = [.pointer (some ⟨gc, 34, none⟩), .pointer (some ⟨gc, 35, none⟩), .pointer (some ⟨gc, 36, none⟩), .pointer (some ⟨gc, 37, none⟩)] := ⟨_, rfl⟩; rw [← hcs]; have E10 : Ext w9 (w9.alloc (.cells cs.toArray 128)) := q1e _ _; have B10 : Blk (w9.alloc (.cells cs.toArray 128)) w9.heap.size 128 cs := Blk.new _ _ _; have D10 := D9.ext E10; have hs10 := E10.size; have Bc10 := B9.ext E10; have B210 := B29.ext E10; generalize w9.alloc (.cells cs.toArray 128) = w10 at *; obtain ⟨g10, hg10⟩ : ∃ g, g = w9.heap.size := ⟨_, rfl⟩; rw [← hg10] at B10 ⊢; have h10l := q2b B10; (refine Ls (q0h rfl)<|m_I rfl<|q0c<|tn<|q0j ?_); refine q1k (fun q f w' => ∃ i shs r', q = 4 - i ∧ i ≤ 4 ∧ f 0 = .pointer (some ⟨p, 0, none⟩) ∧ f 2 = .pointer (some ⟨g2, 0, none⟩) ∧ f 3 = .pointer (some ⟨gc, 0, none⟩) ∧ f 26 = .slice (some ⟨g10, 0, none⟩) 4 4 ∧ f 27 = .int .i64 4 ∧ f 28 = .int .i64 (i : Nat) ∧ shs.length = i ∧ (∀ x ∈ shs, x < 4294967296) ∧ Blk w' gc 43 (dC (.string qb) (.int .i64 (lg : Nat)) (ints .u8 root) (ints .i64 shs ++ (List.replicate (4 - i) (.int .i64 0) ++ [.slice none 0 0, .slice none 0 0, .slice none 0 0, .slice none 0 0, .slice none 0 0, .int .u64 0, .int .u64 0, .slice none 0 0, .slice none 0 0, .slice none 0 0, .slice none 0 0]))) ∧ Blk w' g10 128 cs ∧ (∃ z2, z2.length = 49 ∧ Blk w' g2 43 z2) ∧ DSt N p w w' r' ∧ w10.heap.size ≤ w'.heap.size ∧ Ce.rep (Ce.num 4) 4 r8 = Ce.Res.app shs (Ce.rep (Ce.num 4) (4 - i) r')) 4 ?_ ?_
  · exact ⟨0, [], r8, rfl, by omega, rfl, rfl, rfl, rfl, rfl, rfl, rfl, (fun _ h => by cases h), Bc10, B10, ⟨_, rfl, B210⟩, D10, Nat.le_refl _, (Ce.Res.app_nil _).symm⟩
  · rintro q' f w11 ⟨i, shs, r11, rfl, hi, f0, f2, f3, f26, f27, f28, hsh, hsh4, B11, Bp11, ⟨z2, hz2, B211⟩, D11, hs11, hdec⟩; rw [fold f0, fold f2, fold f3, fold f26, fold f27, fold f28]; (refine q0b<|q0a<|Ls (q2f rfl rfl)<|q0c<|tn<|q0b ?_); refine q1b rfl (fun h => ?_) (fun h => ?_)
    · have hi' : i < 4 := (by omega); have hci : cs[i]? = some (.pointer (some ⟨gc, 34 + i, none⟩)) := by
        rw [hcs]; match i, hi' with
        | 0, _ => rfl
        | 1, _ => rfl
        | 2, _ => rfl
        | 3, _ => rfl
      rw [show 4 - i = (4 - (i + 1)) + 1 by omega] at hdec B11; (refine q0n<|tn<|q0b<|q0j<|q0b<|q0a<|Ls (q0p rfl rfl (by omega))<|Ls (q2g rfl (Bp11.range (o := 0) fun j u h => by rw [Nat.zero_add]; exact h) (j := i) (by omega) hci)<|a_P rfl<|q0c<|tn<|q0a<|m_P rfl<|m_P rfl ?_); refine q5i (dintR N p r11 w11 D11.d) rfl ?_ ?_
      · intro x w12 hg12 hS; refine ⟨rfl, DecR.err (D11.err hg12) (hD _ (h8.trans ((Ce.seq4 _).trans ?_)))⟩; rw [hdec, Ce.rep_err (show Ce.num 4 r11 = _ from hS)]; rfl
      intro x r12 y12 w12 hg12 hS12 hy12 e12; have D12 := D11.call hg12 e12; obtain ⟨rfl, hx4⟩ := hy12; rw [Ce.rep_got (show Ce.num 4 r11 = _ from hS12), Ce.Res.app_app] at hdec; have hs12 := hg12.size; have B12 := B11.grown hg12 (by intro h; cases h; omega); have Bp12 := Bp11.grown hg12 (by intro h; cases h; omega); have B212 := B211.grown hg12 (by intro h; cases h; omega); (refine Ls (q1t rfl) ?_); refine q1d (v := .int .i64 (x : Nat)) rfl rfl rfl B12 (by rw [q2s hrl]; simp only [List.length_append, q0v, List.length_replicate, List.length_cons, List.length_nil]; omega) ?_; intro w13 B13 hg13 hs13; have D13 := D12.set he hg13 (by omega); have Bp13 := Bp12.grown hg13 (by intro h; cases h; omega); have B213 := B212.grown hg13 (by intro h; cases h; omega); rw [q5o hrl, List.replicate_succ, List.cons_append, set_mid (by rw [q0v, hsh])] at B13; (refine q0c<|bn<|tn<|q0a<|Ls (q1j rfl rfl (by omega))<|m_I rfl<|q0c<|tn ?_); refine ⟨4 - (i + 1), by omega, i + 1, shs ++ [x], r12, rfl, by omega, rfl, rfl, rfl, rfl, rfl, rfl, by rw [List.length_append, hsh]; rfl, ?_, ?_, Bp13, ⟨z2, hz2, B213⟩, D13, by omega, hdec⟩
      · intro z hz; rcases List.mem_append.1 hz with hz | hz
        · exact hsh4 z hz
        · rw [List.mem_singleton.1 hz]; exact hx4
      · rw [q4a, List.append_assoc]; exact B13
    · obtain rfl : i = 4 := (by omega); obtain ⟨sa, sbb, sc, sd, rfl⟩ : ∃ a b c d, shs = [a, b, c, d] := by
        match shs, hsh with
        | [a, b, c, d], _ => exact ⟨a, b, c, d, rfl⟩
      have hsR := hsh4 sa (by simp); have hsC := hsh4 sbb (by simp); have hsB := hsh4 sc (by simp); have hsT := hsh4 sd (by simp); have h20 := h8.trans ((Ce.seq4 _).trans (congrArg (fun z => Ce.Res.bind z _) (hdec.trans (show _ = Ce.Res.got [sa, sbb, sc, sd] r11 from rfl)))); have h20 : Ce.certC.p l = Ce.Res.map (fun b => Ce.ofT (q, lg, root, sa, sbb, sc, sd, b)) (((Ce.lst (Ce.numC 8)).seq ((Ce.lst Ce.roundC).seq ((Ce.lst Ce.lpC).seq ((Ce.lst Ce.lpC).seq ((Ce.lst Ce.roundC).seq (Ce.extC.seq (Ce.roundC.seq (Ce.roundC.seq ((Ce.lst (Ce.lst Ce.wordC)).seq (Ce.lst (Ce.raw 32))))))))))).p r11) := h20; have B20 : Blk w11 gc 43 (dC (.string qb) (.int .i64 (lg : Nat)) (ints .u8 root) [.int .i64 (sa : Nat), .int .i64 (sbb : Nat), .int .i64 (sc : Nat), .int .i64 (sd : Nat), .slice none 0 0, .slice none 0 0, .slice none 0 0, .slice none 0 0, .slice none 0 0, .int .u64 0, .int .u64 0, .slice none 0 0, .slice none 0 0, .slice none 0 0, .slice none 0 0]) := B11; have hA20 : CerAt (Nw w g2 gc w11) w11 ⟨q, lg, root, sa, sbb, sc, sd, [], [], [], [], [], (0, 0), [], [], [], []⟩ qb (.slice none 0 0) (.slice none 0 0) (.slice none 0 0) (.slice none 0 0) (.slice none 0 0) (.slice none 0 0) (.slice none 0 0) (.slice none 0 0) (.slice none 0 0) := ⟨hq, q1a, q1a, q1a, q1a, q1a, q1a, q1a, q1a, q1a⟩; clear B11 h8 hdec; (refine q1g<|te<|te<|bx<|tn<|q0b<|q0a<|m_P rfl<|m_P rfl ?_); refine Ls (q1l (vf := [ptr p]) (vc := []) rfl rfl) ?_; refine q5i (delI q2l sumR_len 61 #[ptr p] #[] N p (Ce.numC 8).p r11 w11 (dfI N p) D11.d) rfl ?_ ?_
      · exact fun x w' hg hS => ⟨rfl, DecR.err (D11.err hg) (hD _ (h20.trans (Ce.seq_err (c := (Ce.lst (Ce.numC 8))) hS _)))⟩
      intro x21 r21 y21 wa21 hga21 hS21 hy21 e21; have h21 : Ce.certC.p l = Ce.Res.map (fun b => Ce.ofT (q, lg, root, sa, sbb, sc, sd, x21, b)) (((Ce.lst Ce.roundC).seq ((Ce.lst Ce.lpC).seq ((Ce.lst Ce.lpC).seq ((Ce.lst Ce.roundC).seq (Ce.extC.seq (Ce.roundC.seq (Ce.roundC.seq ((Ce.lst (Ce.lst Ce.wordC)).seq (Ce.lst (Ce.raw 32)))))))))).p r21) := h20.trans (Ce.seq_got (c := (Ce.lst (Ce.numC 8))) hS21 _); have Da21 := D11.call hga21 e21; have hsa21 := hga21.size; have Ba21 := B20.grown hga21 (by intro h; cases h; omega); have B2a21 := B211.grown hga21 (by intro h; cases h; omega); have hAa21 := hA20.nw hga21 (.inl (by omega)); obtain ⟨v21, rfl⟩ := q2j hy21; have c21 := (q0z (by decide) q2l).one hy21 v21 (List.mem_singleton.2 rfl); have hv21 := (q0z (by decide) q2l).nw0 (w := w) (g := g2) (g' := gc) hy21 (by omega) (.inl (by omega)) (.inl (by omega)); (refine Ls (q0g rfl) ?_); refine q1d (v := v21) rfl rfl c21 Ba21 (by rw [q2s hrl]; exact Nat.le_of_ble_eq_true rfl) ?_; intro w21 Bx21 hg21 hs21; have D21 := Da21.set he hg21 (by omega); have B221 := B2a21.grown hg21 (by intro h; cases h; omega); have hA21 := hAa21.nw hg21 (.inr (.inr rfl)); have B21 : Blk w21 gc 43 (dC (.string qb) (.int .i64 (lg : Nat)) (ints .u8 root) [.int .i64 (sa : Nat), .int .i64 (sbb : Nat), .int .i64 (sc : Nat), .int .i64 (sd : Nat), v21, .slice none 0 0, .slice none 0 0, .slice none 0 0, .slice none 0 0, .int .u64 0, .int .u64 0, .slice none 0 0, .slice none 0 0, .slice none 0 0, .slice none 0 0]) := (congrArg (Blk w21 gc 43) (q5o (q := .string qb) (lg := .int .i64 (lg : Nat)) (root := ints .u8 root) (v := v21) (t := [.int .i64 (sa : Nat), .int .i64 (sbb : Nat), .int .i64 (sc : Nat), .int .i64 (sd : Nat), .slice none 0 0, .slice none 0 0, .slice none 0 0, .slice none 0 0, .slice none 0 0, .int .u64 0, .int .u64 0, .slice none 0 0, .slice none 0 0, .slice none 0 0, .slice none 0 0]) hrl 4)).mp Bx21; have hv21 := (q0z (by decide) q2l).nw hv21 hg21 (.inr (.inr rfl)); have hA21 : CerAt (Nw w g2 gc w21) w21 ⟨q, lg, root, sa, sbb, sc, sd, x21, [], [], [], [], (0, 0), [], [], [], []⟩ qb v21 (.slice none 0 0) (.slice none 0 0) (.slice none 0 0) (.slice none 0 0) (.slice none 0 0) (.slice none 0 0) (.slice none 0 0) (.slice none 0 0) := ⟨hA21.q, hv21, hA21.p1, hA21.p2, hA21.p3, hA21.b1, hA21.o1, hA21.o2, hA21.o3, hA21.o4⟩; clear B20 Ba21 B211 B2a21 hAa21 Da21 Bx21; (refine q0c<|tn<|q0b<|q0a<|m_P rfl<|m_P rfl ?_); refine Ls (q1l (vf := [ptr p]) (vc := []) rfl rfl) ?_; refine q5i (delR q0w z1i 63 #[ptr p] #[] N p Ce.roundC.p r21 w21 (dfR N p) D21.d) rfl ?_ ?_
      · exact fun x w' hg hS => ⟨rfl, DecR.err (D21.err hg) (hD _ (h21.trans (Ce.seq_err (c := (Ce.lst Ce.roundC)) hS _)))⟩
      intro x22 r22 y22 wa22 hga22 hS22 hy22 e22; have h22 : Ce.certC.p l = Ce.Res.map (fun b => Ce.ofT (q, lg, root, sa, sbb, sc, sd, x21, x22, b)) (((Ce.lst Ce.lpC).seq ((Ce.lst Ce.lpC).seq ((Ce.lst Ce.roundC).seq (Ce.extC.seq (Ce.roundC.seq (Ce.roundC.seq ((Ce.lst (Ce.lst Ce.wordC)).seq (Ce.lst (Ce.raw 32))))))))).p r22) := h21.trans (Ce.seq_got (c := (Ce.lst Ce.roundC)) hS22 _); have Da22 := D21.call hga22 e22; have hsa22 := hga22.size; have Ba22 := B21.grown hga22 (by intro h; cases h; omega); have B2a22 := B221.grown hga22 (by intro h; cases h; omega); have hAa22 := hA21.nw hga22 (.inl (by omega)); obtain ⟨v22, rfl⟩ := q2j hy22; have c22 := q1c.one hy22 v22 (List.mem_singleton.2 rfl); have hv22 := q1c.nw0 (w := w) (g := g2) (g' := gc) hy22 (by omega) (.inl (by omega)) (.inl (by omega)); (refine Ls (q0g rfl)<|Ls (q0g rfl) ?_); refine q1d (v := v22) rfl rfl c22 Ba22 (by rw [q2s hrl]; exact Nat.le_of_ble_eq_true rfl) ?_; intro w22 Bx22 hg22 hs22; have D22 := Da22.set he hg22 (by omega); have B222 := B2a22.grown hg22 (by intro h; cases h; omega); have hA22 := hAa22.nw hg22 (.inr (.inr rfl)); have B22 : Blk w22 gc 43 (dC (.string qb) (.int .i64 (lg : Nat)) (ints .u8 root) [.int .i64 (sa : Nat), .int .i64 (sbb : Nat), .int .i64 (sc : Nat), .int .i64 (sd : Nat), v21, v22, .slice none 0 0, .slice none 0 0, .slice none 0 0, .int .u64 0, .int .u64 0, .slice none 0 0, .slice none 0 0, .slice none 0 0, .slice none 0 0]) := (congrArg (Blk w22 gc 43) (q5o (q := .string qb) (lg := .int .i64 (lg : Nat)) (root := ints .u8 root) (v := v22) (t := [.int .i64 (sa : Nat), .int .i64 (sbb : Nat), .int .i64 (sc : Nat), .int .i64 (sd : Nat), v21, .slice none 0 0, .slice none 0 0, .slice none 0 0, .slice none 0 0, .int .u64 0, .int .u64 0, .slice none 0 0, .slice none 0 0, .slice none 0 0, .slice none 0 0]) hrl 5)).mp Bx22; have hv22 := q1c.nw hv22 hg22 (.inr (.inr rfl)); have hA22 : CerAt (Nw w g2 gc w22) w22 ⟨q, lg, root, sa, sbb, sc, sd, x21, x22, [], [], [], (0, 0), [], [], [], []⟩ qb v21 v22 (.slice none 0 0) (.slice none 0 0) (.slice none 0 0) (.slice none 0 0) (.slice none 0 0) (.slice none 0 0) (.slice none 0 0) := ⟨hA22.q, hA22.s1, hv22, hA22.p2, hA22.p3, hA22.b1, hA22.o1, hA22.o2, hA22.o3, hA22.o4⟩; clear B21 Ba22 B221 B2a22 hAa22 Da22 Bx22 hA21; (refine q0c<|tn<|q0b<|q0a<|m_P rfl<|m_P rfl ?_); refine Ls (q1l (vf := [ptr p]) (vc := []) rfl rfl) ?_; refine q5i (delL q5x lpR_len 65 #[ptr p] #[] N p Ce.lpC.p r22 w22 (dfL N p) D22.d) rfl ?_ ?_
      · exact fun x w' hg hS => ⟨rfl, DecR.err (D22.err hg) (hD _ (h22.trans (Ce.seq_err (c := (Ce.lst Ce.lpC)) hS _)))⟩
      intro x23 r23 y23 wa23 hga23 hS23 hy23 e23; have h23 : Ce.certC.p l = Ce.Res.map (fun b => Ce.ofT (q, lg, root, sa, sbb, sc, sd, x21, x22, x23, b)) (((Ce.lst Ce.lpC).seq ((Ce.lst Ce.roundC).seq (Ce.extC.seq (Ce.roundC.seq (Ce.roundC.seq ((Ce.lst (Ce.lst Ce.wordC)).seq (Ce.lst (Ce.raw 32)))))))).p r23) := h22.trans (Ce.seq_got (c := (Ce.lst Ce.lpC)) hS23 _); have Da23 := D22.call hga23 e23; have hsa23 := hga23.size; have Ba23 := B22.grown hga23 (by intro h; cases h; omega); have B2a23 := B222.grown hga23 (by intro h; cases h; omega); have hAa23 := hA22.nw hga23 (.inl (by omega)); obtain ⟨v23, rfl⟩ := q2j hy23; have c23 := q1m.one hy23 v23 (List.mem_singleton.2 rfl); have hv23 := q1m.nw0 (w := w) (g := g2) (g' := gc) hy23 (by omega) (.inl (by omega)) (.inl (by omega)); (refine Ls (q0g rfl)<|Ls (q0g rfl) ?_); refine q1d (v := v23) rfl rfl c23 Ba23 (by rw [q2s hrl]; exact Nat.le_of_ble_eq_true rfl) ?_; intro w23 Bx23 hg23 hs23; have D23 := Da23.set he hg23 (by omega); have B223 := B2a23.grown hg23 (by intro h; cases h; omega); have hA23 := hAa23.nw hg23 (.inr (.inr rfl)); have B23 : Blk w23 gc 43 (dC (.string qb) (.int .i64 (lg : Nat)) (ints .u8 root) [.int .i64 (sa : Nat), .int .i64 (sbb : Nat), .int .i64 (sc : Nat), .int .i64 (sd : Nat), v21, v22, v23, .slice none 0 0, .slice none 0 0, .int .u64 0, .int .u64 0, .slice none 0 0, .slice none 0 0, .slice none 0 0, .slice none 0 0]) := (congrArg (Blk w23 gc 43) (q5o (q := .string qb) (lg := .int .i64 (lg : Nat)) (root := ints .u8 root) (v := v23) (t := [.int .i64 (sa : Nat), .int .i64 (sbb : Nat), .int .i64 (sc : Nat), .int .i64 (sd : Nat), v21, v22, .slice none 0 0, .slice none 0 0, .slice none 0 0, .int .u64 0, .int .u64 0, .slice none 0 0, .slice none 0 0, .slice none 0 0, .slice none 0 0]) hrl 6)).mp Bx23; have hv23 := q1m.nw hv23 hg23 (.inr (.inr rfl)); have hA23 : CerAt (Nw w g2 gc w23) w23 ⟨q, lg, root, sa, sbb, sc, sd, x21, x22, x23, [], [], (0, 0), [], [], [], []⟩ qb v21 v22 v23 (.slice none 0 0) (.slice none 0 0) (.slice none 0 0) (.slice none 0 0) (.slice none 0 0) (.slice none 0 0) := ⟨hA23.q, hA23.s1, hA23.p1, hv23, hA23.p3, hA23.b1, hA23.o1, hA23.o2, hA23.o3, hA23.o4⟩; clear B22 Ba23 B222 B2a23 hAa23 Da23 Bx23 hA22; (refine q0c<|tn<|q0b<|q0a<|m_P rfl<|m_P rfl ?_); refine Ls (q1l (vf := [ptr p]) (vc := []) rfl rfl) ?_; refine q5i (delL q5x lpR_len 65 #[ptr p] #[] N p Ce.lpC.p r23 w23 (dfL N p) D23.d) rfl ?_ ?_
      · exact fun x w' hg hS => ⟨rfl, DecR.err (D23.err hg) (hD _ (h23.trans (Ce.seq_err (c := (Ce.lst Ce.lpC)) hS _)))⟩
      intro x24 r24 y24 wa24 hga24 hS24 hy24 e24; have h24 : Ce.certC.p l = Ce.Res.map (fun b => Ce.ofT (q, lg, root, sa, sbb, sc, sd, x21, x22, x23, x24, b)) (((Ce.lst Ce.roundC).seq (Ce.extC.seq (Ce.roundC.seq (Ce.roundC.seq ((Ce.lst (Ce.lst Ce.wordC)).seq (Ce.lst (Ce.raw 32))))))).p r24) := h23.trans (Ce.seq_got (c := (Ce.lst Ce.lpC)) hS24 _); have Da24 := D23.call hga24 e24; have hsa24 := hga24.size; have Ba24 := B23.grown hga24 (by intro h; cases h; omega); have B2a24 := B223.grown hga24 (by intro h; cases h; omega); have hAa24 := hA23.nw hga24 (.inl (by omega)); obtain ⟨v24, rfl⟩ := q2j hy24; have c24 := q1m.one hy24 v24 (List.mem_singleton.2 rfl); have hv24 := q1m.nw0 (w := w) (g := g2) (g' := gc) hy24 (by omega) (.inl (by omega)) (.inl (by omega)); (refine Ls (q0g rfl)<|Ls (q0g rfl) ?_); refine q1d (v := v24) rfl rfl c24 Ba24 (by rw [q2s hrl]; exact Nat.le_of_ble_eq_true rfl) ?_; intro w24 Bx24 hg24 hs24; have D24 := Da24.set he hg24 (by omega); have B224 := B2a24.grown hg24 (by intro h; cases h; omega); have hA24 := hAa24.nw hg24 (.inr (.inr rfl)); have B24 : Blk w24 gc 43 (dC (.string qb) (.int .i64 (lg : Nat)) (ints .u8 root) [.int .i64 (sa : Nat), .int .i64 (sbb : Nat), .int .i64 (sc : Nat), .int .i64 (sd : Nat), v21, v22, v23, v24, .slice none 0 0, .int .u64 0, .int .u64 0, .slice none 0 0, .slice none 0 0, .slice none 0 0, .slice none 0 0]) := (congrArg (Blk w24 gc 43) (q5o (q := .string qb) (lg := .int .i64 (lg : Nat)) (root := ints .u8 root) (v := v24) (t := [.int .i64 (sa : Nat), .int .i64 (sbb : Nat), .int .i64 (sc : Nat), .int .i64 (sd : Nat), v21, v22, v23, .slice none 0 0, .slice none 0 0, .int .u64 0, .int .u64 0, .slice none 0 0, .slice none 0 0, .slice none 0 0, .slice none 0 0]) hrl 7)).mp Bx24; have hv24 := q1m.nw hv24 hg24 (.inr (.inr rfl)); have hA24 : CerAt (Nw w g2 gc w24) w24 ⟨q, lg, root, sa, sbb, sc, sd, x21, x22, x23, x24, [], (0, 0), [], [], [], []⟩ qb v21 v22 v23 v24 (.slice none 0 0) (.slice none 0 0) (.slice none 0 0) (.slice none 0 0) (.slice none 0 0) := ⟨hA24.q, hA24.s1, hA24.p1, hA24.p2, hv24, hA24.b1, hA24.o1, hA24.o2, hA24.o3, hA24.o4⟩; clear B23 Ba24 B223 B2a24 hAa24 Da24 Bx24 hA23; (refine q0c<|tn<|q0b<|q0a<|m_P rfl<|m_P rfl ?_); refine Ls (q1l (vf := [ptr p]) (vc := []) rfl rfl) ?_; refine q5i (delR q0w z1i 63 #[ptr p] #[] N p Ce.roundC.p r24 w24 (dfR N p) D24.d) rfl ?_ ?_
      · exact fun x w' hg hS => ⟨rfl, DecR.err (D24.err hg) (hD _ (h24.trans (Ce.seq_err (c := (Ce.lst Ce.roundC)) hS _)))⟩
      intro x25 r25 y25 wa25 hga25 hS25 hy25 e25; have h25 : Ce.certC.p l = Ce.Res.map (fun b => Ce.ofT (q, lg, root, sa, sbb, sc, sd, x21, x22, x23, x24, x25, b)) ((Ce.extC.seq (Ce.roundC.seq (Ce.roundC.seq ((Ce.lst (Ce.lst Ce.wordC)).seq (Ce.lst (Ce.raw 32)))))).p r25) := h24.trans (Ce.seq_got (c := (Ce.lst Ce.roundC)) hS25 _); have Da25 := D24.call hga25 e25; have hsa25 := hga25.size; have Ba25 := B24.grown hga25 (by intro h; cases h; omega); have B2a25 := B224.grown hga25 (by intro h; cases h; omega); have hAa25 := hA24.nw hga25 (.inl (by omega)); obtain ⟨v25, rfl⟩ := q2j hy25; have c25 := q1c.one hy25 v25 (List.mem_singleton.2 rfl); have hv25 := q1c.nw0 (w := w) (g := g2) (g' := gc) hy25 (by omega) (.inl (by omega)) (.inl (by omega)); (refine Ls (q0g rfl) ?_); refine q1d (v := v25) rfl rfl c25 Ba25 (by rw [q2s hrl]; exact Nat.le_of_ble_eq_true rfl) ?_; intro w25 Bx25 hg25 hs25; have D25 := Da25.set he hg25 (by omega); have B225 := B2a25.grown hg25 (by intro h; cases h; omega); have hA25 := hAa25.nw hg25 (.inr (.inr rfl)); have B25 : Blk w25 gc 43 (dC (.string qb) (.int .i64 (lg : Nat)) (ints .u8 root) [.int .i64 (sa : Nat), .int .i64 (sbb : Nat), .int .i64 (sc : Nat), .int .i64 (sd : Nat), v21, v22, v23, v24, v25, .int .u64 0, .int .u64 0, .slice none 0 0, .slice none 0 0, .slice none 0 0, .slice none 0 0]) := (congrArg (Blk w25 gc 43) (q5o (q := .string qb) (lg := .int .i64 (lg : Nat)) (root := ints .u8 root) (v := v25) (t := [.int .i64 (sa : Nat), .int .i64 (sbb : Nat), .int .i64 (sc : Nat), .int .i64 (sd : Nat), v21, v22, v23, v24, .slice none 0 0, .int .u64 0, .int .u64 0, .slice none 0 0, .slice none 0 0, .slice none 0 0, .slice none 0 0]) hrl 8)).mp Bx25; have hv25 := q1c.nw hv25 hg25 (.inr (.inr rfl)); have hA25 : CerAt (Nw w g2 gc w25) w25 ⟨q, lg, root, sa, sbb, sc, sd, x21, x22, x23, x24, x25, (0, 0), [], [], [], []⟩ qb v21 v22 v23 v24 v25 (.slice none 0 0) (.slice none 0 0) (.slice none 0 0) (.slice none 0 0) := ⟨hA25.q, hA25.s1, hA25.p1, hA25.p2, hA25.p3, hv25, hA25.o1, hA25.o2, hA25.o3, hA25.o4⟩; clear B24 Ba25 B224 B2a25 hAa25 Da25 Bx25 hA24; (refine q0c<|tn<|q0b<|q0a<|m_P rfl ?_); refine q5i (dext N p r25 w25 D25.d) rfl ?_ ?_
      · exact fun x w' hg hS => ⟨rfl, DecR.err (D25.err hg) (hD _ (h25.trans (Ce.seq_err (c := Ce.extC) hS _)))⟩
      intro x26 r26 y26 wa26 hga26 hS26 hy26 e26; have h26 : Ce.certC.p l = Ce.Res.map (fun b => Ce.ofT (q, lg, root, sa, sbb, sc, sd, x21, x22, x23, x24, x25, x26, b)) ((Ce.roundC.seq (Ce.roundC.seq ((Ce.lst (Ce.lst Ce.wordC)).seq (Ce.lst (Ce.raw 32))))).p r26) := h25.trans (Ce.seq_got (c := Ce.extC) hS26 _); have Da26 := D25.call hga26 e26; have hsa26 := hga26.size; have Ba26 := B25.grown hga26 (by intro h; cases h; omega); have B2a26 := B225.grown hga26 (by intro h; cases h; omega); have hAa26 := hA25.nw hga26 (.inl (by omega)); obtain rfl : y26 = exC x26.1 x26.2 := hy26; (refine Ls (q0g rfl) ?_); refine q5g (size := 2) (l := exC x26.1 x26.2) rfl rfl rfl q5f Ba26 (by rw [q2s hrl]; exact Nat.le_of_ble_eq_true rfl) ?_; intro w26 Bx26 hg26 hs26; have D26 := Da26.set he hg26 (by omega); have B226 := B2a26.grown hg26 (by intro h; cases h; omega); have hA26 := hAa26.nw hg26 (.inr (.inr rfl)); have B26 : Blk w26 gc 43 (dC (.string qb) (.int .i64 (lg : Nat)) (ints .u8 root) [.int .i64 (sa : Nat), .int .i64 (sbb : Nat), .int .i64 (sc : Nat), .int .i64 (sd : Nat), v21, v22, v23, v24, v25, .int .u64 (x26.1 : Nat), .int .u64 (x26.2 : Nat), .slice none 0 0, .slice none 0 0, .slice none 0 0, .slice none 0 0]) := (congrArg (Blk w26 gc 43) (z1v (q := .string qb) (lg := .int .i64 (lg : Nat)) (root := ints .u8 root) (l := exC x26.1 x26.2) (t := [.int .i64 (sa : Nat), .int .i64 (sbb : Nat), .int .i64 (sc : Nat), .int .i64 (sd : Nat), v21, v22, v23, v24, v25, .int .u64 0, .int .u64 0, .slice none 0 0, .slice none 0 0, .slice none 0 0, .slice none 0 0]) hrl 9 2)).mp Bx26; have hA26 : CerAt (Nw w g2 gc w26) w26 ⟨q, lg, root, sa, sbb, sc, sd, x21, x22, x23, x24, x25, x26, [], [], [], []⟩ qb v21 v22 v23 v24 v25 (.slice none 0 0) (.slice none 0 0) (.slice none 0 0) (.slice none 0 0) := ⟨hA26.q, hA26.s1, hA26.p1, hA26.p2, hA26.p3, hA26.b1, hA26.o1, hA26.o2, hA26.o3, hA26.o4⟩; clear B25 Ba26 B225 B2a26 hAa26 Da26 Bx26 hA25; (refine q0c<|tn<|q0b<|q0a<|m_P rfl<|m_P rfl ?_); refine Ls (q1l (vf := [ptr p]) (vc := []) rfl rfl) ?_; refine q5i (delE q3p z1t 66 #[ptr p] #[] N p Ce.extC.p r26 w26 (dfE N p) D26.d) rfl ?_ ?_
      · exact fun x w' hg hS => ⟨rfl, DecR.err (D26.err hg) (hD _ (h26.trans (Ce.seq_err (c := Ce.roundC) hS _)))⟩
      intro x27 r27 y27 wa27 hga27 hS27 hy27 e27; have h27 : Ce.certC.p l = Ce.Res.map (fun b => Ce.ofT (q, lg, root, sa, sbb, sc, sd, x21, x22, x23, x24, x25, x26, x27, b)) ((Ce.roundC.seq ((Ce.lst (Ce.lst Ce.wordC)).seq (Ce.lst (Ce.raw 32)))).p r27) := h26.trans (Ce.seq_got (c := Ce.roundC) hS27 _); have Da27 := D26.call hga27 e27; have hsa27 := hga27.size; have Ba27 := B26.grown hga27 (by intro h; cases h; omega); have B2a27 := B226.grown hga27 (by intro h; cases h; omega); have hAa27 := hA26.nw hga27 (.inl (by omega)); obtain ⟨v27, rfl⟩ := q2j hy27; have c27 := q0w.one hy27 v27 (List.mem_singleton.2 rfl); have hv27 := q0w.nw0 (w := w) (g := g2) (g' := gc) hy27 (by omega) (.inl (by omega)) (.inl (by omega)); (refine Ls (q0g rfl)<|Ls (q0g rfl) ?_); refine q1d (v := v27) rfl rfl c27 Ba27 (by rw [q2s hrl]; exact Nat.le_of_ble_eq_true rfl) ?_; intro w27 Bx27 hg27 hs27; have D27 := Da27.set he hg27 (by omega); have B227 := B2a27.grown hg27 (by intro h; cases h; omega); have hA27 := hAa27.nw hg27 (.inr (.inr rfl)); have B27 : Blk w27 gc 43 (dC (.string qb) (.int .i64 (lg : Nat)) (ints .u8 root) [.int .i64 (sa : Nat), .int .i64 (sbb : Nat), .int .i64 (sc : Nat), .int .i64 (sd : Nat), v21, v22, v23, v24, v25, .int .u64 (x26.1 : Nat), .int .u64 (x26.2 : Nat), v27, .slice none 0 0, .slice none 0 0, .slice none 0 0]) := (congrArg (Blk w27 gc 43) (q5o (q := .string qb) (lg := .int .i64 (lg : Nat)) (root := ints .u8 root) (v := v27) (t := [.int .i64 (sa : Nat), .int .i64 (sbb : Nat), .int .i64 (sc : Nat), .int .i64 (sd : Nat), v21, v22, v23, v24, v25, .int .u64 (x26.1 : Nat), .int .u64 (x26.2 : Nat), .slice none 0 0, .slice none 0 0, .slice none 0 0, .slice none 0 0]) hrl 11)).mp Bx27; have hv27 := q0w.nw hv27 hg27 (.inr (.inr rfl)); have hA27 : CerAt (Nw w g2 gc w27) w27 ⟨q, lg, root, sa, sbb, sc, sd, x21, x22, x23, x24, x25, x26, x27, [], [], []⟩ qb v21 v22 v23 v24 v25 v27 (.slice none 0 0) (.slice none 0 0) (.slice none 0 0) := ⟨hA27.q, hA27.s1, hA27.p1, hA27.p2, hA27.p3, hA27.b1, hv27, hA27.o2, hA27.o3, hA27.o4⟩; clear B26 Ba27 B226 B2a27 hAa27 Da27 Bx27 hA26; (refine q0c<|tn<|q0b<|q0a<|m_P rfl<|m_P rfl ?_); refine Ls (q1l (vf := [ptr p]) (vc := []) rfl rfl) ?_; refine q5i (delE q3p z1t 66 #[ptr p] #[] N p Ce.extC.p r27 w27 (dfE N p) D27.d) rfl ?_ ?_
      · exact fun x w' hg hS => ⟨rfl, DecR.err (D27.err hg) (hD _ (h27.trans (Ce.seq_err (c := Ce.roundC) hS _)))⟩
      intro x28 r28 y28 wa28 hga28 hS28 hy28 e28; have h28 : Ce.certC.p l = Ce.Res.map (fun b => Ce.ofT (q, lg, root, sa, sbb, sc, sd, x21, x22, x23, x24, x25, x26, x27, x28, b)) (((Ce.lst (Ce.lst Ce.wordC)).seq (Ce.lst (Ce.raw 32))).p r28) := h27.trans (Ce.seq_got (c := Ce.roundC) hS28 _); have Da28 := D27.call hga28 e28; have hsa28 := hga28.size; have Ba28 := B27.grown hga28 (by intro h; cases h; omega); have B2a28 := B227.grown hga28 (by intro h; cases h; omega); have hAa28 := hA27.nw hga28 (.inl (by omega)); obtain ⟨v28, rfl⟩ := q2j hy28; have c28 := q0w.one hy28 v28 (List.mem_singleton.2 rfl); have hv28 := q0w.nw0 (w := w) (g := g2) (g' := gc) hy28 (by omega) (.inl (by omega)) (.inl (by omega)); (refine Ls (q0g rfl)<|Ls (q0g rfl) ?_); refine q1d (v := v28) rfl rfl c28 Ba28 (by rw [q2s hrl]; exact Nat.le_of_ble_eq_true rfl) ?_; intro w28 Bx28 hg28 hs28; have D28 := Da28.set he hg28 (by omega); have B228 := B2a28.grown hg28 (by intro h; cases h; omega); have hA28 := hAa28.nw hg28 (.inr (.inr rfl)); have B28 : Blk w28 gc 43 (dC (.string qb) (.int .i64 (lg : Nat)) (ints .u8 root) [.int .i64 (sa : Nat), .int .i64 (sbb : Nat), .int .i64 (sc : Nat), .int .i64 (sd : Nat), v21, v22, v23, v24, v25, .int .u64 (x26.1 : Nat), .int .u64 (x26.2 : Nat), v27, v28, .slice none 0 0, .slice none 0 0]) := (congrArg (Blk w28 gc 43) (q5o (q := .string qb) (lg := .int .i64 (lg : Nat)) (root := ints .u8 root) (v := v28) (t := [.int .i64 (sa : Nat), .int .i64 (sbb : Nat), .int .i64 (sc : Nat), .int .i64 (sd : Nat), v21, v22, v23, v24, v25, .int .u64 (x26.1 : Nat), .int .u64 (x26.2 : Nat), v27, .slice none 0 0, .slice none 0 0, .slice none 0 0]) hrl 12)).mp Bx28; have hv28 := q0w.nw hv28 hg28 (.inr (.inr rfl)); have hA28 : CerAt (Nw w g2 gc w28) w28 ⟨q, lg, root, sa, sbb, sc, sd, x21, x22, x23, x24, x25, x26, x27, x28, [], []⟩ qb v21 v22 v23 v24 v25 v27 v28 (.slice none 0 0) (.slice none 0 0) := ⟨hA28.q, hA28.s1, hA28.p1, hA28.p2, hA28.p3, hA28.b1, hA28.o1, hv28, hA28.o3, hA28.o4⟩; clear B27 Ba28 B227 B2a28 hAa28 Da28 Bx28 hA27; (refine q0c<|tn<|q0b<|q0a<|m_P rfl<|m_P rfl ?_); refine Ls (q1l (vf := [ptr p]) (vc := []) rfl rfl) ?_; refine q5i (delC (q0z (by decide) (q1o _)) z1i 69 #[ptr p] #[] N p (Ce.lst Ce.wordC).p r28 w28 (dfC N p) D28.d) rfl ?_ ?_
      · exact fun x w' hg hS => ⟨rfl, DecR.err (D28.err hg) (hD _ (h28.trans (Ce.seq_err (c := (Ce.lst (Ce.lst Ce.wordC))) hS _)))⟩
      intro x29 r29 y29 wa29 hga29 hS29 hy29 e29; have h29 : Ce.certC.p l = Ce.Res.map (fun b => Ce.ofT (q, lg, root, sa, sbb, sc, sd, x21, x22, x23, x24, x25, x26, x27, x28, x29, b)) ((Ce.lst (Ce.raw 32)).p r29) := h28.trans (Ce.seq_got (c := (Ce.lst (Ce.lst Ce.wordC))) hS29 _); have Da29 := D28.call hga29 e29; have hsa29 := hga29.size; have Ba29 := B28.grown hga29 (by intro h; cases h; omega); have B2a29 := B228.grown hga29 (by intro h; cases h; omega); have hAa29 := hA28.nw hga29 (.inl (by omega)); obtain ⟨v29, rfl⟩ := q2j hy29; have c29 := q4h.one hy29 v29 (List.mem_singleton.2 rfl); have hv29 := q4h.nw0 (w := w) (g := g2) (g' := gc) hy29 (by omega) (.inl (by omega)) (.inl (by omega)); (refine Ls (q0g rfl)<|Ls (q0g rfl) ?_); refine q1d (v := v29) rfl rfl c29 Ba29 (by rw [q2s hrl]; exact Nat.le_of_ble_eq_true rfl) ?_; intro w29 Bx29 hg29 hs29; have D29 := Da29.set he hg29 (by omega); have B229 := B2a29.grown hg29 (by intro h; cases h; omega); have hA29 := hAa29.nw hg29 (.inr (.inr rfl)); have B29 : Blk w29 gc 43 (dC (.string qb) (.int .i64 (lg : Nat)) (ints .u8 root) [.int .i64 (sa : Nat), .int .i64 (sbb : Nat), .int .i64 (sc : Nat), .int .i64 (sd : Nat), v21, v22, v23, v24, v25, .int .u64 (x26.1 : Nat), .int .u64 (x26.2 : Nat), v27, v28, v29, .slice none 0 0]) := (congrArg (Blk w29 gc 43) (q5o (q := .string qb) (lg := .int .i64 (lg : Nat)) (root := ints .u8 root) (v := v29) (t := [.int .i64 (sa : Nat), .int .i64 (sbb : Nat), .int .i64 (sc : Nat), .int .i64 (sd : Nat), v21, v22, v23, v24, v25, .int .u64 (x26.1 : Nat), .int .u64 (x26.2 : Nat), v27, v28, .slice none 0 0, .slice none 0 0]) hrl 13)).mp Bx29; have hv29 := q4h.nw hv29 hg29 (.inr (.inr rfl)); have hA29 : CerAt (Nw w g2 gc w29) w29 ⟨q, lg, root, sa, sbb, sc, sd, x21, x22, x23, x24, x25, x26, x27, x28, x29, []⟩ qb v21 v22 v23 v24 v25 v27 v28 v29 (.slice none 0 0) := ⟨hA29.q, hA29.s1, hA29.p1, hA29.p2, hA29.p3, hA29.b1, hA29.o1, hA29.o2, hv29, hA29.o4⟩; clear B28 Ba29 B228 B2a29 hAa29 Da29 Bx29 hA28; (refine q0c<|tn<|q0b<|q0a<|m_P rfl<|m_P rfl ?_); refine Ls (q1l (vf := [ptr p]) (vc := []) rfl rfl) ?_; refine q5i (delD (byR_ok 32) byR_len 59 #[ptr p] #[] N p (Ce.raw 32).p r29 w29 (dfD N p) D29.d) rfl ?_ ?_
      · exact fun x w' hg hS => ⟨rfl, DecR.err (D29.err hg) (hD _ (h29.trans (Ce.map_errR (c := (Ce.lst (Ce.raw 32))) hS _)))⟩
      intro x30 r30 y30 wa30 hga30 hS30 hy30 e30; have h30 : Ce.certC.p l = .got (Ce.ofT (q, lg, root, sa, sbb, sc, sd, x21, x22, x23, x24, x25, x26, x27, x28, x29, x30)) r30 := h29.trans (Ce.map_gotR (c := (Ce.lst (Ce.raw 32))) hS30 _); have Da30 := D29.call hga30 e30; have hsa30 := hga30.size; have Ba30 := B29.grown hga30 (by intro h; cases h; omega); have B2a30 := B229.grown hga30 (by intro h; cases h; omega); have hAa30 := hA29.nw hga30 (.inl (by omega)); obtain ⟨v30, rfl⟩ := q2j hy30; have c30 := q4g.one hy30 v30 (List.mem_singleton.2 rfl); have hv30 := q4g.nw0 (w := w) (g := g2) (g' := gc) hy30 (by omega) (.inl (by omega)) (.inl (by omega)); (refine Ls (q0g rfl)<|Ls (q0g rfl)<|Ls (q0g rfl) ?_); refine q1d (v := v30) rfl rfl c30 Ba30 (by rw [q2s hrl]; exact Nat.le_of_ble_eq_true rfl) ?_; intro w30 Bx30 hg30 hs30; have D30 := Da30.set he hg30 (by omega); have B230 := B2a30.grown hg30 (by intro h; cases h; omega); have hA30 := hAa30.nw hg30 (.inr (.inr rfl)); have B30 : Blk w30 gc 43 (dC (.string qb) (.int .i64 (lg : Nat)) (ints .u8 root) [.int .i64 (sa : Nat), .int .i64 (sbb : Nat), .int .i64 (sc : Nat), .int .i64 (sd : Nat), v21, v22, v23, v24, v25, .int .u64 (x26.1 : Nat), .int .u64 (x26.2 : Nat), v27, v28, v29, v30]) := (congrArg (Blk w30 gc 43) (q5o (q := .string qb) (lg := .int .i64 (lg : Nat)) (root := ints .u8 root) (v := v30) (t := [.int .i64 (sa : Nat), .int .i64 (sbb : Nat), .int .i64 (sc : Nat), .int .i64 (sd : Nat), v21, v22, v23, v24, v25, .int .u64 (x26.1 : Nat), .int .u64 (x26.2 : Nat), v27, v28, v29, .slice none 0 0]) hrl 14)).mp Bx30; have hv30 := q4g.nw hv30 hg30 (.inr (.inr rfl)); have hA30 : CerAt (Nw w g2 gc w30) w30 ⟨q, lg, root, sa, sbb, sc, sd, x21, x22, x23, x24, x25, x26, x27, x28, x29, x30⟩ qb v21 v22 v23 v24 v25 v27 v28 v29 v30 := ⟨hA30.q, hA30.s1, hA30.p1, hA30.p2, hA30.p3, hA30.b1, hA30.o1, hA30.o2, hA30.o3, hv30⟩; clear B29 Ba30 B229 B2a30 hAa30 Da30 Bx30 hA29; obtain ⟨⟨vb, bb, rb⟩, _, _⟩ := D30.d; obtain ⟨Ab, cb, eb, _, _⟩ := rb.form; subst eb; (refine q0c<|tn<|q0b<|q0b<|q0a<|m_P rfl<|Ls (q1t rfl)<|Ls (q0g rfl)<|Ls (X_ld rfl bb rfl)<|Ls (q0h rfl)<|Ls (X_gtr rfl rfl)<|q0c<|tn ?_); refine q1b rfl (fun h => ?_) (fun h => ?_)
      · have hr : r30 ≠ [] := by
          intro e; rw [e] at h; simp at h
        (refine q0a ?_); refine Ls (q6l rfl) ?_; refine L_halt rfl rfl (q9v rfl) ?_; refine ⟨rfl, DecR.err D30.g ?_⟩; show (Ce.certC.p l).bind _ = _; rw [h30]; exact if_neg hr
      · have hr : r30 = [] := by
          apply List.eq_nil_of_length_eq_zero; omega
        have hx : Ce.certD l = .got ⟨q, lg, root, sa, sbb, sc, sd, x21, x22, x23, x24, x25, x26, x27, x28, x29, x30⟩ r30 := by
          show (Ce.certC.p l).bind _ = _; rw [h30]; exact if_pos hr
        (refine q0n<|tn<|q0b<|q0a<|Ls (q2m rfl B30 (by rw [q2s hrl]; rfl)) ?_); refine q0l (l := (dC (.string qb) (.int .i64 (lg : Nat)) (ints .u8 root) [.int .i64 (sa : Nat), .int .i64 (sbb : Nat), .int .i64 (sc : Nat), .int .i64 (sd : Nat), v21, v22, v23, v24, v25, .int .u64 (x26.1 : Nat), .int .u64 (x26.2 : Nat), v27, v28, v29, v30])) rfl rfl (by rw [q2s hrl]; rfl) hA30.one B230 hz2 ?_; intro w40 B40 hg40 hs40; have D40 := D30.set he hg40 (by omega); have hA40 := hA30.nw hg40 (.inr (.inl rfl)); (refine q0c<|tn<|q0s ?_); refine q1i rfl rfl (Res.cellA inferInstance rfl (B40.range (o := 0) (fun j u h => by simpa using h)) (by rw [q2s hrl]; rfl) .nil) ?_; exact DecR.got D40.g hx (dC (.string qb) (.int .i64 (lg : Nat)) (ints .u8 root) [.int .i64 (sa : Nat), .int .i64 (sbb : Nat), .int .i64 (sc : Nat), .int .i64 (sd : Nat), v21, v22, v23, v24, v25, .int .u64 (x26.1 : Nat), .int .u64 (x26.2 : Nat), v27, v28, v29, v30]) ⟨qb, v21, v22, v23, v24, v25, v27, v28, v29, v30, rfl, hroot, hA40.mono fun k hk => ⟨hk.1, hk.2.1⟩⟩ D40.d
end Go.Proofs.YtlggfbglpcegoaaGreatDoor
namespace Go.Proofs.K
open Go.RowKit
section
variable {P : Program} {n : NN} {Q : Exit → Fr → World → Prop} {f : Fr} {w : World}
theorem T_of_WD {fn : Func} {R : Ending → World → Prop} {c : Code} (h : W P n c (fun e f w => bodyPostM n.fen 9 P fn R e (act n f) w) f w) : T P n fn R c f w :=
  wpIn_mono h (by rintro e a w ⟨f, rfl, hq⟩; exact hq)
theorem T_defer1 {k id : Nat} {dv : List Deferred} {fn : Func} {R : Ending → World → Prop} {rest : Code} {o1 o2 : Oper} {v : Value} {w1 : World} {D : Deferred} (g1 : o1.guard = none) (h1 : X P ⟨k, dv, none⟩ o1 f w = .ok (.value v) w1)
    (g2 : o2.guard = none) (hd : o2.dst = none) (h2 : X P ⟨k, dv, none⟩ o2 (updo f o1.dst v) w1 = .ok (.defer D) w1) (h : T P ⟨k, D :: dv, none⟩ fn R rest (updo f o1.dst v) w1) :
    T P ⟨k, dv, none⟩ fn R (.seq (.region id #[o1, o2] false) rest) f w := by
  refine wpIn_seq (wpIn_region_lit (l := [o1, o2]) ?_); unfold wpListIn; rw [if_pos (by simp [Region.wanted, g1])]; refine (q7g (K := fun u w' => u = v ∧ w' = w1) h1 ⟨rfl, rfl⟩).wp ?_; rintro u w' ⟨rfl, rfl⟩; unfold wpListIn; rw [if_pos (by simp [Region.wanted, g2])]; refine ⟨fun _ _ => trivial, ?_⟩; have h2' : (execOp (act ⟨k, dv, none⟩ (updo f o1.dst u)).eval o2).run P w' = .ok (.defer D) w' := by rw [q6s]; exact h2
  show Oper.uponIn _ _ _ _ _ _ _ ((o2.semAt none _).run P w'); rw [Oper.semAt_none, h2', Oper.uponIn_defer]; unfold wpListIn; rw [hd]; exact h
theorem z0e {k m : Nat} {c : Code} {Q : Exit → Act → List Frame → World → Prop} {cs : List Frame} (h : W P ⟨k, [], none⟩ c (fun e f w => Q e (act ⟨k, [], none⟩ f) cs w) f w) : c.wpSIn Fence.wide m P Q (act ⟨k, [], none⟩ f) cs w :=
  wpSIn_of_wpIn rfl (z0y (F := Fence.wide) rfl (m := 9) (wpIn_mono h (by rintro e a w ⟨f, rfl, hq⟩; exact hq)))
theorem q9d {m d1 d2 id : Nat} {cs : List Frame} {R : Exit → Act → List Frame → World → Prop} {tys : Array TypeId} {t1 t2 : TypeId} {p1 p2 : String} {a1 a2 : Array Edge} {rest : Code} (hd : d1 < n.k)
    (h : match recoverD cs with
      | some (v, cs') => rest.wpSIn Fence.wide m P R (act n (upd (upd f d1 v) d2 v)) cs' w
      | none => rest.wpSIn Fence.wide m P R (act n (upd (upd f d1 .nilIface) d2 .nilIface)) cs w) :
    (Code.seq (.region id #[⟨some d1, .call ⟨.builtin .recover, #[], tys⟩, t1, p1, a1, none⟩, ⟨some d2, .assign (.tmp d1), t2, p2, a2, none⟩] false) rest).wpSIn Fence.wide m P R (act n f) cs w := by
  apply wpSIn_seq; apply wpSIn_region; have hev : ∀ v, ev n (upd f d1 v) (.tmp d1) = v := fun v => by simp [ev, blt_true hd, q8x]
  have e : ∀ u, act n (upd (upd f d1 u) d2 u) = ⟨((act n f).tmps.setIfInBounds d1 u).setIfInBounds d2 (if d1 < (act n f).tmps.size then u else undef), (act n f).defers⟩ := fun u => by
    have h1 : d1 < (arr n f).size := (by rw [arr_size]; exact hd); show (⟨arr n _, n.dv⟩ : Act) = ⟨((arr n f).setIfInBounds d1 u).setIfInBounds d2 (if d1 < (arr n f).size then u else undef), n.dv⟩; rw [if_pos h1, z1x, z1x]
  cases hr : recoverD cs with
  | none =>
    rw [hr] at h; dsimp only at h; rw [e] at h; simp [wpOpsSIn, go_sem, Region.wanted, hr, q6s, Exit.thenS]; exact h
  | some q =>
    obtain ⟨v, cs'⟩ := q; rw [hr] at h; dsimp only at h; rw [e] at h; simp [wpOpsSIn, go_sem, Region.wanted, hr, q6s, Exit.thenS]; exact h
variable {d : Option Tmp} {t ty ty' : TypeId} {pos : String} {af : Array Edge} {g : Option (Nat × Bool)} {x y : Operand} {k : IntKind}
theorem X_neqNN {ms : Array (String × TypeId)} (h : P.underlying ty = some (.interface ms)) (hx : ev n f x = .nilIface) : X P n ⟨d, .binOp .neq ty x (.const .nilIface) ty', t, pos, af, g⟩ f w = .ok (.value (.bool false)) w := by
  have e : P.underlying ty = some (.interface (P.methodsAt ty)) := by rw [h]; simp [Program.methodsAt, h]
  simp only [X, execOp, hx, show ev n f (.const .nilIface) = .nilIface from rfl, eqGuard_nil_constR]; simp [run_neq_nil_nil w ty e]
theorem X_neqIN {ms : Array (String × TypeId)} {T : TypeId} {v : Value} (h : P.underlying ty = some (.interface ms)) (hx : ev n f x = .iface T v) : X P n ⟨d, .binOp .neq ty x (.const .nilIface) ty', t, pos, af, g⟩ f w = .ok (.value (.bool true)) w := by
  have e : P.underlying ty = some (.interface (P.methodsAt ty)) := by rw [h]; simp [Program.methodsAt, h]
  simp only [X, execOp, hx, show ev n f (.const .nilIface) = .nilIface from rfl]; simp [go_sem, run_neq_held_nil w ty T v e]
theorem X_assertOk {T xT : TypeId} {v : Value} [hs : TInt P T k] (hx : ev n f x = .iface T v) : X P n ⟨d, .typeAssert x xT T true, t, pos, af, g⟩ f w = .ok (.value (.tuple #[v, .bool true])) w := by
  simp [X, execOp, hx, Instr.typeAssert, run_underlying hs.h]
end
end Go.Proofs.K
namespace Go.Proofs.YtlggfbglpcegoaaGreatDoor
open Go.RowKit Go.Proofs.K
theorem idleD (c r : Nat) (w : World) : CallsDIn Fence.wide 8 Tryz.prog 26 #[ptr c, ptr r] .returning w fun e u' w' => e = .returned (.tuple #[]) ∧ u' = .returning ∧ w' = w := by
  refine callsDIn_of_wpSIn Tryz.func26 rfl trivial fun c₀ cs hu => ?_; rw [show (Tryz.f26).ntmps = 18 from rfl, arr_fr0 _ ⟨18, [], none⟩ (Nat.le_of_ble_eq_true rfl)]; refine q9d (by decide) ?_; rw [show recoverD (c₀ :: cs) = none by simp [recoverD, hu]]; refine z0e ?_; (refine q0b<|q0a<|Ls (q0e (v := .nilIface) rfl)<|Ls (X_neqNN Tryz.underlying20 rfl)<|q0c<|tn ?_); refine q7w rfl (fun h => by cases h) (fun _ => ?_); (refine q0n ?_); exact ⟨rfl, .returning, by rw [← hu], _, results_none rfl _ _ _, rfl, rfl, rfl⟩
theorem catchD (x c r : Nat) (zc ze : List Value) (hzc : zc.length = 49) (hze : ze.length = 1) (w : World) (hB : Blk w c 43 zc) (hr : Blk w r 55 ze) (hne : c ≠ r) :
    CallsDIn Fence.wide 8 Tryz.prog 26 #[ptr c, ptr r] (.panicking (erV x)) w fun e u' w' => e = .returned (.tuple #[]) ∧ u' = .panicking [{ v := .iface 55 (.int .i64 (x : Nat)), recovered := true }] ∧
      (∃ w1, w.grownBy w1 (some c) ∧ w1.grownBy w' (some r)) ∧ Blk w' c 43 (cerC ⟨[], 0, List.replicate 32 0, 0, 0, 0, 0, [], [], [], [], [], (0, 0), [], [], [], []⟩ ByteArray.empty (.slice none 0 0) (.slice none 0 0) (.slice none 0 0) (.slice none 0 0) (.slice none 0 0) (.slice none 0 0) (.slice none 0 0) (.slice none 0 0) (.slice none 0 0)) ∧ Blk w' r 55 [.int .i64 (x : Nat)] := by
  refine callsDIn_of_wpSIn Tryz.func26 rfl trivial fun c₀ cs hu => ?_; rw [show (Tryz.f26).ntmps = 18 from rfl, arr_fr0 _ ⟨18, [], none⟩ (Nat.le_of_ble_eq_true rfl)]; refine q9d (by decide) ?_; rw [show recoverD (c₀ :: cs) = some (.iface 55 (.int .i64 (x : Nat)), { c₀ with mode := .panicking [{ v := .iface 55 (.int .i64 (x : Nat)), recovered := true }] } :: cs) by simp [recoverD, hu]]; refine z0e ?_; (refine q0b<|q0a<|Ls (q0e (v := .iface _ _) rfl)<|Ls (X_neqIN Tryz.underlying20 rfl)<|q0c<|tn ?_); refine q7w rfl (fun _ => ?_) (fun h => by cases h); (refine q0b<|q0a<|Ls (q0e (v := .iface _ _) rfl) ?_); refine Ls (X_assertOk rfl) ?_; (refine m_T rfl<|Ls (q0y rfl rfl)<|Ls (q0y rfl rfl)<|a_I rfl<|a_B rfl<|q0c<|tn<|q0b<|q0b<|q0a<|m_B rfl<|Ls (q1x rfl)<|q0c<|tn ?_); refine q7w rfl (fun h => by cases h) (fun _ => ?_); (refine q0n<|tn<|q0a ?_); refine Ls (q1p (r := []) (Parts.nil _)) ?_; (refine m_I rfl ?_); refine q0l (l := cerC ⟨[], 0, List.replicate 32 0, 0, 0, 0, 0, [], [], [], [], [], (0, 0), [], [], [], []⟩ ByteArray.empty (.slice none 0 0) (.slice none 0 0) (.slice none 0 0) (.slice none 0 0) (.slice none 0 0) (.slice none 0 0) (.slice none 0 0) (.slice none 0 0) (.slice none 0 0)) rfl rfl rfl ?_ hB hzc ?_
  · exact (CerAt.one (N := fun _ => True) (w := w) ⟨rfl, q1a, q1a, q1a, q1a, q1a, q1a, q1a, q1a, q1a⟩)
  intro w1 B1 hg1 hs1; refine q1d (v := .int .i64 (x : Nat)) rfl rfl rfl (hr.grown hg1 (by intro h; cases h; exact hne rfl)) (by omega) ?_; intro w2 B2 hg2 hs2; (refine q0c ?_); refine ⟨rfl, _, rfl, _, results_none rfl _ _ _, rfl, rfl, ⟨w1, hg1, hg2⟩, B1.grown hg2 (by intro h; cases h; exact hne rfl), ?_⟩; match ze, hze with
  | [z], _ => exact B2
end Go.Proofs.YtlggfbglpcegoaaGreatDoor
namespace Go.Proofs.K
open Go.RowKit
section
variable {P : Program} {n : NN} {Q : Exit → Fr → World → Prop} {f : Fr} {w : World}
theorem X_defer {d : Option Tmp} {t : TypeId} {pos : String} {af : Array Edge} {g : Option (Nat × Bool)} {x : Operand} {fv : Fn} {cap : Array Value} {tys : Array TypeId} (hx : ev n f x = .func fv #[] cap) : X P n ⟨d, .defer ⟨.value x, #[], tys⟩, t, pos, af, g⟩ f w = .ok (.defer { target := .fn fv cap, args := #[] }) w := by
  simp [X, execOp, resolve, hx, Deferred.ofValue]
theorem z0k {id : FuncId} [TFun P id] {fn : Func} {tm : Array Value} {R : Ending → World → Prop} {cap : Array Value} {u : FrameMode} {R' : Ending → FrameMode → World → Prop} (hu : u ≠ .run) (c : CallsDIn Fence.wide 8 P id cap u w R')
    (h : ∀ e u' w', R' e u' w' → ∃ v, e = .returned v ∧ settle u' = .returning ∧ q7a P fn R tm [] w') : LeavesInM Fence.wide 9 P fn tm R [{ target := .fn (.func id) cap, args := #[] }] u w := by
  refine ⟨hu, .inr ⟨fun _ => by omega, .func id, cap, id, cap, rfl, ?_, fun _ _ => trivial, c.mono ?_⟩⟩
  · show (callFunc id (#[] ++ cap)).run P w = _; rw [TFun.run]; simp
  · intro e u' w' hR; obtain ⟨v, rfl, hs, hl⟩ := h e u' w' hR; show LeavesInM Fence.wide 9 P fn tm R [] (settle u') w'; rw [hs]; exact hl
end
end Go.Proofs.K
namespace Ce
def zero : Cert := ⟨[], 0, List.replicate 32 0, 0, 0, 0, 0, [], [], [], [], [], (0, 0), [], [], [], []⟩
theorem decode_certD {l : List Nat} (h : l.length ≤ 65536) : decode l = match certD l with
    | .err e => .err e
    | .got c _ => .ok c := by
  unfold decode certD; rw [if_neg (by omega)]; cases certC.p l with
  | err e => rfl
  | got c r =>
    show (if r = [] then Ans.ok c else .err 5) = match (if r = [] then Res.got c r else .err 5) with
      | .err e => .err e
      | .got c _ => .ok c
    by_cases hr : r = []
    · rw [if_pos hr, if_pos hr]
    · rw [if_neg hr, if_neg hr]
theorem certD_err {l : List Nat} {x : Nat} (h : certD l = .err x) : x = 5 ∨ x = 6 := by
  unfold certD at h; cases hp : certC.p l with
  | err e => rw [hp] at h; cases h; exact only_cert l _ hp
  | got c r =>
    rw [hp] at h; have h : (if r = [] then Res.got c r else .err 5) = .err x := h; split at h
    · cases h
    · cases h; exact .inl rfl
end Ce
namespace Go.Proofs.YtlggfbglpcegoaaGreatDoor
open Go.RowKit Go.Proofs.K
theorem CerAt.grown {N : Nat → Prop} {a b : World} {row : Option Nat} {c : Ce.Cert} {qb : ByteArray} {s1 p1 p2 p3 b1 o1 o2 o3 o4 : Value} (h : CerAt N a c qb s1 p1 p2 p3 b1 o1 o2 o3 o4) (hg : a.grownBy b row) (hr : ∀ q, row = some q → ¬ N q) : CerAt N b c qb s1 p1 p2 p3 b1 o1 o2 o3 o4 :=
  ⟨h.q, (q0z (by decide) q2l).grown h.s1 hg hr, q1c.grown h.p1 hg hr, q1m.grown h.p2 hg hr, q1m.grown h.p3 hg hr, q1c.grown h.b1 hg hr, q0w.grown h.o1 hg hr, q0w.grown h.o2 hg hr, q4h.grown h.o3 hg hr, q4g.grown h.o4 hg hr⟩
theorem q2e : cerR.Ok where
  mono := fun ⟨qb, s1, p1, p2, p3, b1, o1, o2, o3, o4, hx, hr, h⟩ hN => ⟨qb, s1, p1, p2, p3, b1, o1, o2, o3, o4, hx, hr, h.mono hN⟩
  grown := fun ⟨qb, s1, p1, p2, p3, b1, o1, o2, o3, o4, hx, hr, h⟩ hg hn => ⟨qb, s1, p1, p2, p3, b1, o1, o2, o3, o4, hx, hr, h.grown hg hn⟩
  keep := fun ⟨qb, s1, p1, p2, p3, b1, o1, o2, o3, o4, hx, hr, h⟩ k hn => ⟨qb, s1, p1, p2, p3, b1, o1, o2, o3, o4, hx, hr, h.keep k hn⟩
  tight := fun ⟨qb, s1, p1, p2, p3, b1, o1, o2, o3, o4, hx, hr, h⟩ => ⟨qb, s1, p1, p2, p3, b1, o1, o2, o3, o4, hx, hr, h.tight⟩
  one := fun ⟨qb, s1, p1, p2, p3, b1, o1, o2, o3, o4, hx, hr, h⟩ v hv => by subst hx; exact h.one v hv
theorem q4c {N : Nat → Prop} {w : World} {y : List Value} {c : Ce.Cert} (h : cerR N w y c) : y.length = 49 := by
  obtain ⟨qb, s1, p1, p2, p3, b1, o1, o2, o3, o4, hx, hr, h⟩ := h; subst hx; exact z1w hr
def zerC : List Value := cerC Ce.zero ByteArray.empty (.slice none 0 0) (.slice none 0 0) (.slice none 0 0) (.slice none 0 0) (.slice none 0 0) (.slice none 0 0) (.slice none 0 0) (.slice none 0 0) (.slice none 0 0)
theorem q3e {N : Nat → Prop} {w : World} : cerR N w zerC Ce.zero := ⟨_, _, _, _, _, _, _, _, _, _, rfl, rfl, rfl, q1a, q1a, q1a, q1a, q1a, q1a, q1a, q1a, q1a⟩
def DecA (l : List Nat) (w : World) (e : Ending) (w' : World) : Prop :=
  Ext w w' ∧ ∃ y c x, e = .returned (.tuple #[.agg y.toArray, .int .i64 (x : Nat)]) ∧ cerR (fun k => w.heap.size ≤ k ∧ k < w'.heap.size) w' y c ∧ Ce.decode l = (if x = 0 then .ok c else .err x) ∧ (x ≠ 0 → c = Ce.zero)
set_option maxRecDepth 100000 in
set_option maxHeartbeats 2000000 in
theorem z1r (N : Nat → Prop) (b : Value) (l : List Nat) (w : World) (hb : RowN N w 1 b l.length (ints .u8 l)) (h8 : ∀ x ∈ l, x < 256) :
    Calls Tryz.prog 11 #[b] w (DecA l w) := by
  refine calls_T Tryz.func11 rfl Tryz.ntmps11 rfl ?_; have hb := hb.tight (by decide); obtain ⟨A, cb, e, hlc, hcm⟩ := hb.form; subst e; refine T_seq ?_; (refine q0a ?_); refine q0x ?_; intro g2 w2 B2 hg2 E2 hs2; refine q0x ?_; intro g3 w3 B3 hg3 E3 hs3; (refine q0c<|tn ?_); refine T_seq ?_; (refine q0b<|q0a<|m_S rfl<|Ls (q0h rfl)<|Ls (X_gtr rfl rfl)<|q0c<|tn ?_); refine q1b rfl (fun h => ?_) (fun h => ?_)
  · have hl : 65536 < l.length := (by omega); (refine q0b<|q0a ?_); refine Ls (q1p (r := []) (Parts.nil _)) ?_; refine q0l (l := zerC) rfl rfl rfl (q2e.one (N := fun _ => True) (w := w) q3e) (B2.ext E3) rfl ?_; intro w4 B4 hg4 hs4; refine q1d (v := .int .i64 2) rfl rfl rfl (B3.grown hg4 (by intro h; cases h; omega)) (by decide) ?_; intro w5 B5 hg5 hs5; (refine q0c<|tn<|q0s<|tr ?_); have B45 := B4.grown hg5 (by intro h; cases h; omega); refine q1i rfl rfl (Res.cellA inferInstance rfl (B45.range (o := 0) (fun j u h => by simpa using h)) rfl (Res.cell1 inferInstance rfl (B5.cell 0) .nil)) ?_; have h2s := E2.size; have h3s := E3.size; refine ⟨((E2.trans E3).then hg4 fun g hg => by cases hg; omega).then hg5 fun g hg => by cases hg; omega, zerC, Ce.zero, 2, rfl, q3e, ?_, fun _ => rfl⟩; unfold Ce.decode; rw [if_pos hl]; rfl
  · have hl : l.length ≤ 65536 := (by omega); (refine q0n<|tn ?_); refine T_defer1 rfl (q1l (fi := []) (ca := [.tmp 2, .tmp 3]) (vf := []) (vc := [ptr g2, ptr g3]) rfl rfl) rfl rfl (X_defer rfl) ?_; refine T_of_WD ?_; (refine q0b<|q0a<|m_S rfl ?_); refine Ls (q1p (r := [(0, .tmp 9)]) (zs' := [[.slice A l.length cb]]) (Parts.cons (c := [.slice A l.length cb]) (z := [.slice none 0 0]) rfl rfl rfl rfl (Parts.nil _))) ?_; refine q3k (l := [.slice A l.length cb]) rfl ?_; intro g4 w4 B4 hg4 E4 hs4; have h2s := E2.size; have h3s := E3.size; have h4s := E4.size; have E24 := E2.trans (E3.trans E4); have he : DecAt (fun k => N k ∧ k < w.heap.size) g4 w4 l := ⟨⟨_, B4, hb.ext E24⟩, h8, fun q hq => ⟨by omega, by omega⟩⟩; have B24 := (B2.ext E3).ext E4; have B34 := B3.ext E4; refine q5i (dcert _ g4 l w4 he) rfl ?_ ?_
    · intro x w5 hg5 hS; have B25 := B24.grown hg5 (by intro h; cases h; omega); have B35 := B34.grown hg5 (by intro h; cases h; omega); have hx := Ce.certD_err hS; refine z0k (by intro h; cases h) (catchD x g2 g3 _ _ rfl rfl w5 B25 B35 (by omega)) ?_; rintro e u' w' ⟨rfl, rfl, ⟨w6, hg6, hg7⟩, B27, B37⟩; refine ⟨_, rfl, rfl, ?_⟩; refine q6o (n := ⟨13, [], none⟩) rfl (Res.cellA inferInstance rfl (B27.range (o := 0) (fun j u h => by simpa using h)) rfl (Res.cell1 inferInstance rfl (B37.cell 0) .nil)) ?_; refine ⟨((E24.then hg5 fun g hg => by cases hg; omega).then hg6 fun g hg => by cases hg; omega).then hg7 fun g hg => by cases hg; omega, zerC, Ce.zero, x, rfl, q3e, ?_, fun _ => rfl⟩; rw [Ce.decode_certD hl, hS, if_neg (by omega)]
    · intro c r y w5 hg5 hS hy e5; have h5s := hg5.size; have B25 := B24.grown hg5 (by intro h; cases h; omega); have B35 := B34.grown hg5 (by intro h; cases h; omega); refine q0l (l := y) rfl rfl (q4c hy) (q2e.one hy) B25 rfl ?_; intro w6 B6 hg6 hs6; refine q1d (v := .int .i64 0) rfl rfl rfl (B35.grown hg6 (by intro h; cases h; omega)) (by decide) ?_; intro w7 B7 hg7 hs7; have hy7 := q2e.grown (q2e.grown hy hg6 fun q hq k => by cases hq; omega) hg7 fun q hq k => (by cases hq; omega); have B67 := B6.grown hg7 (by intro h; cases h; omega); (refine q0c<|tn<|q0s ?_); refine z0k (by intro h; cases h) (idleD g2 g3 w7) ?_; rintro e u' w' ⟨rfl, rfl, rfl⟩; refine ⟨_, rfl, rfl, ?_⟩; refine q6o (n := ⟨13, [], none⟩) rfl (Res.cellA inferInstance rfl (B67.range (o := 0) (fun j u h => by simpa using h)) (q4c hy) (Res.cell1 inferInstance rfl (B7.cell 0) .nil)) ?_; refine ⟨((E24.then hg5 fun g hg => by cases hg; omega).then hg6 fun g hg => by cases hg; omega).then hg7 fun g hg => by cases hg; omega, y, c, 0, rfl, q2e.mono hy7 fun k hk => ⟨by omega, by omega⟩, ?_, fun h => absurd rfl h⟩; rw [Ce.decode_certD hl, hS]; rfl
end Go.Proofs.YtlggfbglpcegoaaGreatDoor
