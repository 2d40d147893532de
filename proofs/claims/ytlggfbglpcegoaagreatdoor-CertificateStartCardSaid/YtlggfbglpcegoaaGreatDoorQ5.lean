/- Y1, Y2, Y3, Y4, SO, KZ, Y5, Y6, Y7, Y8, Y9, YA, YB, YC. -/
import Derived.Test.YtlggfbglpcegoaaGreatDoorQ2
import Derived.Test.YtlggfbglpcegoaaGreatDoorQ4
import Derived.Shelf.Strings.Builder1
import Derived.Shelf.Strings.Builder2
import Derived.Shelf.Strings.OnBuilder
import Derived.Shelf.Small.Bits
import Derived.Shelf.Small.Strs
import Derived.Shelf.Strconv.Atoi
import Derived.Shelf.Strconv.Itoa0
import Derived.Shelf.Strconv.Itoa1
import Derived.Shelf.LaysM
import Derived.Shelf.Strconv.Itoa2
import Derived.Shelf.Strconv.Itoa3
import Derived.Shelf.Strconv.AtoiErrFast
import Derived.Shelf.Strconv.ParseIntEmpty
import Derived.Shelf.Strconv.AtoiFail
import Derived.Shelf.Strconv.Clone
import Derived.Shelf.Strconv.SyntaxError
import Derived.Shelf.LaysC
import Derived.Shelf.Strconv.ToError
import Derived.Shelf.Strconv.Lower
import Derived.Shelf.Strconv.ParseUint10
import Derived.Shelf.Strconv.ParseUint10Empty
import Derived.Shelf.Strconv.ParseUint10Any
import Derived.Shelf.Strconv.ParseInt10
import Derived.Shelf.Strconv.AtoiLong
import Derived.Shelf.Strconv.AtoiInnerAll
import Derived.Shelf.Strconv.RangeError
import Derived.Shelf.Strconv.ToErrorRange
import Derived.Shelf.Strconv.AtoiAll
import Derived.Shelf.Strings.Search1
import Derived.Shelf.Sort.Plain
import Derived.Shelf.Strings.Prefix
import Derived.Shelf.Bits.Mul64
import Derived.Ground.Names2Prog
import Derived.Shelf.Slices.SearchI
import Derived.Shelf.Slices.Empties
import Derived.Ground.SlgnProg
import Derived.Shelf.SlicesE.Clone
import Derived.Test.YtlggfbglpcegoaaGreatDoorProg
import Derived.ProofKit
import Derived.OpenShut
import Derived.Deep.DeepHandedRow
import Derived.Deep.SlicePairs
import Derived.Lib.LaidTab
import Derived.WideKeyArgs
import Derived.Lib.SmallJoins
namespace Go.Proofs.YtlggfbglpcegoaaGreatDoor
open Go.RowKit Go.Proofs.K
def cndI (c : Qy.CndI) : List Value := [.int .i64 c.1, .int .i64 c.2.1, .int .i64 c.2.2]
def q5h (l : List Qy.CndI) : List Value := (l.map cndI).flatten
theorem cndsI_cons (c : Qy.CndI) (l : List Qy.CndI) : q5h (c :: l) = cndI c ++ q5h l := by simp [q5h]
theorem cndsI_app (a b : List Qy.CndI) : q5h (a ++ b) = q5h a ++ q5h b := by simp [q5h]
theorem cndsI_part {l : List Qy.CndI} {i : Nat} {c : Qy.CndI} (h : l[i]? = some c) : ((q5h l).drop (i * 3)).take 3 = cndI c := by
  induction l generalizing i with
  | nil => simp at h
  | cons d l ih =>
    cases i with
    | zero => simp at h; subst h; rfl
    | succ i =>
      have := ih (i := i) (by simpa using h); rw [cndsI_cons, show (i + 1) * 3 = 3 + i * 3 by omega, ← List.drop_drop]; exact this
theorem q7o {c : Qy.CndI} : ∀ v ∈ cndI c, v.oneCell' = true := by
  intro v hv; simp only [cndI, List.mem_cons, List.not_mem_nil, or_false] at hv; rcases hv with rfl | rfl | rfl <;> rfl
theorem Rng3 {w : World} {b o i : Nat} {l : List Qy.CndI} {c : Qy.CndI} (h : w.rangeAt b o (q5h l)) (hi : l[i]? = some c) : w.rangeAt b (o + i * 3) (cndI c) := by
  intro j v hj; have hlt : j < 3 := by have := (List.getElem?_eq_some_iff.1 hj).1; simpa [cndI] using this
  rw [Nat.add_assoc]; refine h (i * 3 + j) v ?_; rw [← hj, ← cndsI_part hi, List.getElem?_take_of_lt hlt, List.getElem?_drop]
def strs (l : List (List Nat)) : List Value := l.map fun s => .string (strB s)
def names4 : List (List Nat) := [Qy.tWho, Qy.tWhen, Qy.tKind, Qy.tValue]
theorem gcolumns (w : World) : Calls Tryz.prog 134 #[] w fun e w' => ∃ q, e = .returned q ∧ Ext w w' ∧ w'.ownsRow w.heap.size 9 1 q 4 (strs names4) := by
  refine q0k Tryz.func134 rfl Tryz.ntmps134 rfl ?_; (refine q0b<|q0a<|a_S rfl<|q0c<|tn<|q0b<|q0a ?_); refine L_lits (zs' := (strs names4).map fun x => [x]) (cs := strs names4) ?_ rfl rfl rfl rfl ?_
  · repeat (first | exact Parts.nil _ | refine Parts.cons rfl rfl rfl rfl ?_)
  intro q2 w2 r2 E2 hs2 o2 _; (refine Ls (q0i (v := q2) rfl)<|q0c<|tn<|q0s ?_); refine q0f rfl rfl (v := q2) rfl ?_; exact ⟨q2, rfl, E2, o2⟩
theorem gcmax (c : Int) (w : World) : Calls Tryz.prog 273 #[.int .i64 c] w fun e w' => e = .returned (.int .i64 (Qy.cmaxI c)) ∧ Ext w w' := by
  refine q0k Tryz.func273 rfl Tryz.ntmps273 rfl ?_; unfold Qy.cmaxI; by_cases h0 : c = 0
  · rw [if_pos (.inl h0)]; (refine q0b<|q0a<|a_I rfl<|q0c<|tn<|q0b<|q0b<|q0a<|m_I rfl<|Ls (q3v rfl rfl (by omega))<|m_B rfl<|Lo2 rfl rfl rfl rfl<|Lo2 rfl rfl rfl rfl<|Ls (q0m (v := .bool _) rfl rfl)<|q0c<|tn<|q0t rfl<|q0b<|q0a<|a_I rfl<|q0c<|tn<|q0s<|tr ?_); exact q0f rfl rfl (v := .int _ _) rfl ⟨rfl, Ext.refl w⟩
  · by_cases h2 : c = 2
    · rw [if_pos (.inr h2)]; (refine q0b<|q0a<|a_I rfl<|q0c<|tn<|q0b<|q0b<|q0a<|m_I rfl<|Ls (q5p rfl rfl (by omega))<|m_B rfl<|Lg2 rfl rfl rfl (q0e (v := .int _ _) rfl)<|Lg2 rfl rfl rfl (q3v rfl rfl (by omega))<|Ls (q0r (v := .bool _) rfl rfl)<|q0c<|tn<|q0t rfl<|q0b<|q0a<|a_I rfl<|q0c<|tn<|q0s<|tr ?_); exact q0f rfl rfl (v := .int _ _) rfl ⟨rfl, Ext.refl w⟩
    · rw [if_neg (by omega)]; (refine q0b<|q0a<|a_I rfl<|q0c<|tn<|q0b<|q0b<|q0a<|m_I rfl<|Ls (q5p rfl rfl (by omega))<|m_B rfl<|Lg2 rfl rfl rfl (q0e (v := .int _ _) rfl)<|Lg2 rfl rfl rfl (q5p rfl rfl (by omega))<|Ls (q0r (v := .bool _) rfl rfl)<|q0c<|tn<|q0o rfl<|q0n<|tn<|q0b<|q0a<|a_I rfl<|q0c<|tn<|q0s ?_); exact q0f rfl rfl (v := .int _ _) rfl ⟨rfl, Ext.refl w⟩
theorem gvcol (c : Int) (w : World) : Calls Tryz.prog 174 #[.int .i64 c] w fun e w' => e = .returned (.bool (decide (0 ≤ c ∧ c < 4))) ∧ Ext w w' := by
  refine q0k Tryz.func174 rfl Tryz.ntmps174 rfl ?_; by_cases h0 : 0 ≤ c
  · (refine q0b<|q0a<|a_B rfl<|q0c<|tn<|q0b<|q0a<|m_I rfl<|Ls (q5z rfl rfl (by omega))<|m_B rfl<|Lg2 rfl rfl rfl (q0e (v := .int _ _) rfl) ?_); refine q1u rfl rfl rfl ?_; refine L_fo rfl (gcolumns w) ?_; rintro q w1 ⟨E1, o1⟩; obtain ⟨_, aq, cq, rfl, _⟩ := Row.of_own o1; by_cases h4 : c < 4
    · rw [decide_eq_true (show 0 ≤ c ∧ c < 4 from ⟨h0, h4⟩)]; (refine Lg2 rfl rfl rfl (q0h rfl)<|Lg2 rfl rfl rfl (q3j rfl rfl (by omega))<|Ls (q0m (v := .bool _) rfl rfl)<|a_B rfl<|q0c<|tn<|q0s ?_); exact q0f rfl rfl (v := .bool true) rfl ⟨rfl, E1⟩
    · rw [decide_eq_false (show ¬ (0 ≤ c ∧ c < 4) by omega)]; (refine Lg2 rfl rfl rfl (q0h rfl)<|Lg2 rfl rfl rfl (q3f rfl rfl (by omega))<|Ls (q0m (v := .bool _) rfl rfl)<|a_B rfl<|q0c<|tn<|q0s ?_); exact q0f rfl rfl (v := .bool false) rfl ⟨rfl, E1⟩
  · rw [decide_eq_false (show ¬ (0 ≤ c ∧ c < 4) by omega)]; (refine q0b<|q0a<|a_B rfl<|q0c<|tn<|q0b<|q0a<|m_I rfl<|Ls (q6a rfl rfl (by omega))<|m_B rfl<|Lo2 rfl rfl rfl rfl<|Lo2 rfl rfl rfl rfl<|Lo2 rfl rfl rfl rfl<|Lo2 rfl rfl rfl rfl<|Ls (q0r (v := .bool _) rfl rfl)<|a_B rfl<|q0c<|tn<|q0s ?_); exact q0f rfl rfl (v := .bool false) rfl ⟨rfl, Ext.refl w⟩
theorem z0o (c : Int) (b : Bool) (hb : decide (0 ≤ c ∧ c < 4) = b) (w : World) : Calls Tryz.prog 174 #[.int .i64 c] w fun e w' => e = .returned (.bool b) ∧ Ext w w' := by
  rw [← hb]; exact gvcol c w
set_option maxHeartbeats 1000000 in
theorem gvcond (c : Qy.CndI) (w : World) : Calls Tryz.prog 177 #[.agg (cndI c).toArray] w fun e w' => e = .returned (.bool (decide (Qy.okCI c))) ∧ Ext w w' := by
  refine q0k Tryz.func177 rfl Tryz.ntmps177 rfl ?_; obtain ⟨a, lo, hi⟩ := c; (refine q0b<|q0a ?_); refine q3k (l := cndI (a, lo, hi)) rfl ?_; intro g1 w1 B1 hg1 E1 hs1; (refine a_B rfl<|q0c<|tn<|q0b ?_); by_cases h1 : 0 ≤ a ∧ a < 4
  · by_cases h2 : 0 ≤ lo
    · by_cases h3 : lo ≤ hi
      · have e : decide (hi ≤ Qy.cmaxI a) = decide (Qy.okCI (a, lo, hi)) := by
          by_cases h4 : hi ≤ Qy.cmaxI a
          · rw [decide_eq_true h4, decide_eq_true (show Qy.okCI (a, lo, hi) from ⟨h1.1, h1.2, h2, h3, h4⟩)]
          · rw [decide_eq_false h4, decide_eq_false (fun h : Qy.okCI (a, lo, hi) => h4 h.2.2.2.2)]
        apply q1q 24 (by kernel_rfl); (apply DW_x (fun r w hA hH => (q0g rfl).trans rfl); apply DW_x (fun r w hA hH => (X_ld rfl (B1.ext hA) rfl).trans rfl)); ((with_reducible apply q4z); (exact fun _ => rfl); (exact fun _ => rfl); (exact fun r w hA hH => z0o a true (decide_eq_true h1) w)); (apply DW_x (fun r w hA hH => (q0e (v := .bool _) rfl).trans rfl); apply q1f rfl rfl (fun _ => rfl) (fun r w hA hH => (q0g rfl).trans rfl); apply q1f rfl rfl (fun _ => rfl) (fun r w hA hH => (X_ld rfl (B1.ext hA) rfl).trans rfl); apply q1f rfl rfl (fun _ => rfl) (fun r w hA hH => (q5z rfl rfl (by omega)).trans rfl); apply DW_x (fun r w hA hH => (q0m (v := .bool _) rfl rfl).trans rfl); apply DW_x (fun r w hA hH => (q0e (v := .bool _) rfl).trans rfl); apply q1f rfl rfl (fun _ => rfl) (fun r w hA hH => (q0g rfl).trans rfl); apply q1f rfl rfl (fun _ => rfl) (fun r w hA hH => (X_ld rfl (B1.ext hA) rfl).trans rfl); apply q1f rfl rfl (fun _ => rfl) (fun r w hA hH => (q0g rfl).trans rfl); apply q1f rfl rfl (fun _ => rfl) (fun r w hA hH => (X_ld rfl (B1.ext hA) rfl).trans rfl); apply q1f rfl rfl (fun _ => rfl) (fun r w hA hH => (X_leqT rfl rfl (by omega)).trans rfl); apply DW_x (fun r w hA hH => (q0m (v := .bool _) rfl rfl).trans rfl); apply DW_x (fun r w hA hH => (q0e (v := .bool _) rfl).trans rfl); apply q1f rfl rfl (fun _ => rfl) (fun r w hA hH => (q0g rfl).trans rfl); apply q1f rfl rfl (fun _ => rfl) (fun r w hA hH => (X_ld rfl (B1.ext hA) rfl).trans rfl); apply q1f rfl rfl (fun _ => rfl) (fun r w hA hH => (q0g rfl).trans rfl); apply q1f rfl rfl (fun _ => rfl) (fun r w hA hH => (X_ld rfl (B1.ext hA) rfl).trans rfl)); ((with_reducible apply DW_fn2); (exact rfl); (exact rfl); (exact fun _ => rfl); (exact fun _ => rfl); (exact fun r w hA hH => gcmax a w)); (apply q1f rfl rfl (fun _ => rfl) (fun r w hA hH => (X_leq rfl rfl).trans rfl); apply DW_x (fun r w hA hH => (q0m (v := .bool _) rfl rfl).trans rfl); apply DW_x (fun r w hA hH => (q0i (v := .bool _) rfl).trans rfl)); ((with_reducible exact q1y); (exact rfl); (repeat (first | exact .inr (.inr (fun _ _ => by with_reducible rfl)) | (refine And.intro ?_ ?_) | exact .inr (.inl rfl) | exact .inl (by decide +kernel) | exact trivial | exact .inr (.inr (fun _ _ => rfl)))); (try dsimp only [Nat.reduceAdd])); intro r w2 E2 _; (refine q0c<|tn<|q0s ?_); refine q0f rfl rfl (v := .bool _) rfl ⟨?_, E1.trans E2⟩; rw [← e]
      · rw [decide_eq_false (fun h : Qy.okCI (a, lo, hi) => h3 h.2.2.2.1)]; apply q1q 24 (by kernel_rfl); (apply DW_x (fun r w hA hH => (q0g rfl).trans rfl); apply DW_x (fun r w hA hH => (X_ld rfl (B1.ext hA) rfl).trans rfl)); ((with_reducible apply q4z); (exact fun _ => rfl); (exact fun _ => rfl); (exact fun r w hA hH => z0o a true (decide_eq_true h1) w)); (apply DW_x (fun r w hA hH => (q0e (v := .bool _) rfl).trans rfl); apply q1f rfl rfl (fun _ => rfl) (fun r w hA hH => (q0g rfl).trans rfl); apply q1f rfl rfl (fun _ => rfl) (fun r w hA hH => (X_ld rfl (B1.ext hA) rfl).trans rfl); apply q1f rfl rfl (fun _ => rfl) (fun r w hA hH => (q5z rfl rfl (by omega)).trans rfl); apply DW_x (fun r w hA hH => (q0m (v := .bool _) rfl rfl).trans rfl); apply DW_x (fun r w hA hH => (q0e (v := .bool _) rfl).trans rfl); apply q1f rfl rfl (fun _ => rfl) (fun r w hA hH => (q0g rfl).trans rfl); apply q1f rfl rfl (fun _ => rfl) (fun r w hA hH => (X_ld rfl (B1.ext hA) rfl).trans rfl); apply q1f rfl rfl (fun _ => rfl) (fun r w hA hH => (q0g rfl).trans rfl); apply q1f rfl rfl (fun _ => rfl) (fun r w hA hH => (X_ld rfl (B1.ext hA) rfl).trans rfl); apply q1f rfl rfl (fun _ => rfl) (fun r w hA hH => (q9x rfl rfl (by omega)).trans rfl); apply DW_x (fun r w hA hH => (q0m (v := .bool _) rfl rfl).trans rfl); apply DW_x (fun r w hA hH => (q0e (v := .bool _) rfl).trans rfl); apply q0u rfl rfl (fun _ => rfl) rfl; apply q0u rfl rfl (fun _ => rfl) rfl; apply q0u rfl rfl (fun _ => rfl) rfl; apply q0u rfl rfl (fun _ => rfl) rfl; apply q0u rfl rfl (fun _ => rfl) rfl; apply q0u rfl rfl (fun _ => rfl) rfl; apply DW_x (fun r w hA hH => (q0r (v := .bool _) rfl rfl).trans rfl); apply DW_x (fun r w hA hH => (q0i (v := .bool _) rfl).trans rfl)); ((with_reducible exact q1y); (exact rfl); (repeat (first | exact .inr (.inr (fun _ _ => by with_reducible rfl)) | (refine And.intro ?_ ?_) | exact .inr (.inl rfl) | exact .inl (by decide +kernel) | exact trivial | exact .inr (.inr (fun _ _ => rfl)))); (try dsimp only [Nat.reduceAdd])); intro r w2 E2 _; (refine q0c<|tn<|q0s ?_); exact q0f rfl rfl (v := .bool false) rfl ⟨rfl, E1.trans E2⟩
    · rw [decide_eq_false (fun h : Qy.okCI (a, lo, hi) => h2 h.2.2.1)]; apply q1q 24 (by kernel_rfl); (apply DW_x (fun r w hA hH => (q0g rfl).trans rfl); apply DW_x (fun r w hA hH => (X_ld rfl (B1.ext hA) rfl).trans rfl)); ((with_reducible apply q4z); (exact fun _ => rfl); (exact fun _ => rfl); (exact fun r w hA hH => z0o a true (decide_eq_true h1) w)); (apply DW_x (fun r w hA hH => (q0e (v := .bool _) rfl).trans rfl); apply q1f rfl rfl (fun _ => rfl) (fun r w hA hH => (q0g rfl).trans rfl); apply q1f rfl rfl (fun _ => rfl) (fun r w hA hH => (X_ld rfl (B1.ext hA) rfl).trans rfl); apply q1f rfl rfl (fun _ => rfl) (fun r w hA hH => (q6a rfl rfl (by omega)).trans rfl); apply DW_x (fun r w hA hH => (q0m (v := .bool _) rfl rfl).trans rfl); apply DW_x (fun r w hA hH => (q0e (v := .bool _) rfl).trans rfl); apply q0u rfl rfl (fun _ => rfl) rfl; apply q0u rfl rfl (fun _ => rfl) rfl; apply q0u rfl rfl (fun _ => rfl) rfl; apply q0u rfl rfl (fun _ => rfl) rfl; apply q0u rfl rfl (fun _ => rfl) rfl; apply DW_x (fun r w hA hH => (q0r (v := .bool _) rfl rfl).trans rfl); apply DW_x (fun r w hA hH => (q0e (v := .bool _) rfl).trans rfl); apply q0u rfl rfl (fun _ => rfl) rfl; apply q0u rfl rfl (fun _ => rfl) rfl; apply q0u rfl rfl (fun _ => rfl) rfl; apply q0u rfl rfl (fun _ => rfl) rfl; apply q0u rfl rfl (fun _ => rfl) rfl; apply q0u rfl rfl (fun _ => rfl) rfl; apply DW_x (fun r w hA hH => (q0r (v := .bool _) rfl rfl).trans rfl); apply DW_x (fun r w hA hH => (q0i (v := .bool _) rfl).trans rfl)); ((with_reducible exact q1y); (exact rfl); (repeat (first | exact .inr (.inr (fun _ _ => by with_reducible rfl)) | (refine And.intro ?_ ?_) | exact .inr (.inl rfl) | exact .inl (by decide +kernel) | exact trivial | exact .inr (.inr (fun _ _ => rfl)))); (try dsimp only [Nat.reduceAdd])); intro r w2 E2 _; (refine q0c<|tn<|q0s ?_); exact q0f rfl rfl (v := .bool false) rfl ⟨rfl, E1.trans E2⟩
  · rw [decide_eq_false (fun h : Qy.okCI (a, lo, hi) => h1 ⟨h.1, h.2.1⟩)]; apply q1q 24 (by kernel_rfl); (apply DW_x (fun r w hA hH => (q0g rfl).trans rfl); apply DW_x (fun r w hA hH => (X_ld rfl (B1.ext hA) rfl).trans rfl)); ((with_reducible apply q4z); (exact fun _ => rfl); (exact fun _ => rfl); (exact fun r w hA hH => z0o a false (decide_eq_false h1) w)); (apply DW_x (fun r w hA hH => (q0e (v := .bool _) rfl).trans rfl); apply q0u rfl rfl (fun _ => rfl) rfl; apply q0u rfl rfl (fun _ => rfl) rfl; apply q0u rfl rfl (fun _ => rfl) rfl; apply DW_x (fun r w hA hH => (q0r (v := .bool _) rfl rfl).trans rfl); apply DW_x (fun r w hA hH => (q0e (v := .bool _) rfl).trans rfl); apply q0u rfl rfl (fun _ => rfl) rfl; apply q0u rfl rfl (fun _ => rfl) rfl; apply q0u rfl rfl (fun _ => rfl) rfl; apply q0u rfl rfl (fun _ => rfl) rfl; apply q0u rfl rfl (fun _ => rfl) rfl; apply DW_x (fun r w hA hH => (q0r (v := .bool _) rfl rfl).trans rfl); apply DW_x (fun r w hA hH => (q0e (v := .bool _) rfl).trans rfl); apply q0u rfl rfl (fun _ => rfl) rfl; apply q0u rfl rfl (fun _ => rfl) rfl; apply q0u rfl rfl (fun _ => rfl) rfl; apply q0u rfl rfl (fun _ => rfl) rfl; apply q0u rfl rfl (fun _ => rfl) rfl; apply q0u rfl rfl (fun _ => rfl) rfl; apply DW_x (fun r w hA hH => (q0r (v := .bool _) rfl rfl).trans rfl); apply DW_x (fun r w hA hH => (q0i (v := .bool _) rfl).trans rfl)); ((with_reducible exact q1y); (exact rfl); (repeat (first | exact .inr (.inr (fun _ _ => by with_reducible rfl)) | (refine And.intro ?_ ?_) | exact .inr (.inl rfl) | exact .inl (by decide +kernel) | exact trivial | exact .inr (.inr (fun _ _ => rfl)))); (try dsimp only [Nat.reduceAdd])); intro r w2 E2 _; (refine q0c<|tn<|q0s ?_); exact q0f rfl rfl (v := .bool false) rfl ⟨rfl, E1.trans E2⟩
theorem gvalid1 (c : Qy.CndI) (w : World) : Calls Tryz.prog 176 #[.agg (cndI c).toArray] w fun e w' => e = .returned (.bool (!decide (Qy.okCI c))) ∧ Ext w w' := by
  refine q0k Tryz.func176 rfl Tryz.ntmps176 rfl ?_; (refine q0b<|q0a ?_); refine q3k rfl ?_; intro g1 w1 B1 hg1 E1 hs1; (refine a_B rfl<|q0c<|tn<|q0b<|q0a<|Ls (q2m (size := 3) rfl B1 rfl) ?_); refine L_fv rfl (gvcond c w1) ?_; intro w2 E2; (refine Ls (q1x rfl)<|a_B rfl<|q0c<|tn<|q0s ?_); exact q0f rfl rfl (v := .bool _) rfl ⟨rfl, E1.trans E2⟩
set_option maxHeartbeats 1000000 in
theorem gindexF (lo hi : Nat) (v : Value) (l : List Qy.CndI) (hl : l.length ≤ 1000000000) (fi : FuncId) [TFun Tryz.prog fi] (cap : Array Value) (p : Qy.CndI → Bool) (w : World) (hr : Row w lo hi 3 v l.length (q5h l))
    (hp : ∀ c ∈ l, ∀ wx, Ext w wx → Calls Tryz.prog fi (#[] ++ #[.agg (cndI c).toArray] ++ cap) wx fun e w' => e = .returned (.bool (p c)) ∧ Ext wx w') :
    Calls Tryz.prog 272 #[v, .func (.func fi) #[] cap] w fun e w' => ∃ n : Int, e = .returned (.int .i64 n) ∧ Ext w w' ∧ decide (0 ≤ n) = l.any p := by
  refine q0k Tryz.func272 rfl Tryz.ntmps272 rfl ?_; obtain ⟨_, A, c, rfl, hc, _, hnn⟩ := id hr; (refine q0b<|q0a<|a_I rfl<|q0c<|tn<|q0b<|q0b<|q0a<|m_S rfl<|Ls (q0h rfl)<|m_I rfl<|q0c<|tn<|q0j ?_); refine q1k (fun q f w' => ∃ k, q = l.length - k ∧ k ≤ l.length ∧ Ext w w' ∧ (∀ c ∈ l.take k, p c = false) ∧ f 0 = .slice A l.length c ∧ f 1 = .func (.func fi) #[] cap ∧ f 7 = .int .i64 (l.length : Nat) ∧ f 8 = .int .i64 (k : Nat)) l.length ?_ ?_
  · exact ⟨0, rfl, by omega, Ext.refl w, (by intro c h; simp at h), rfl, rfl, rfl, rfl⟩
  · rintro q f w1 ⟨k, rfl, hk, E1, hno, h0, h1, h7, h8⟩; rw [fold h0, fold h1, fold h7, fold h8]; (refine q0b<|q0a<|Ls (q2f rfl rfl)<|q0c<|tn<|q0b ?_); refine q1b rfl (fun h => ?_) (fun h => ?_)
    · have hk' : k < l.length := (by omega); obtain ⟨b, o, rfl, _, _, hcell⟩ := hnn (by omega); obtain ⟨d, hd⟩ : ∃ d, l[k]? = some d := ⟨l[k], List.getElem?_eq_getElem hk'⟩; have hR := Rng3 (E1.range hcell) hd; (refine q0n<|tn<|q0b<|q0j<|q0b<|q0a<|m_I rfl<|a_I rfl<|q0c<|tn<|q0b<|q0a<|Ls (q0e (v := .func _ _ _) rfl)<|m_S rfl<|m_I rfl<|Ls (q0p rfl rfl (by omega))<|Ls (q2k (size := 3) (cs := cndI d) rfl hR rfl) ?_); refine q5a (vl := [.agg (cndI d).toArray]) rfl (hp d (List.mem_of_getElem? hd) w1 E1) rfl ?_; rintro e w2 ⟨rfl, E2⟩; refine ⟨_, rfl, ?_⟩; have hmem : d ∈ l := List.mem_of_getElem? hd; cases hpd : p d
      · (refine q0c<|tn<|q0o rfl<|q0n<|bn<|tn<|q0a<|Ls (q1j rfl rfl (by omega))<|m_I rfl<|q0c<|tn ?_); refine ⟨l.length - (k + 1), by omega, k + 1, rfl, by omega, E1.trans E2, ?_, rfl, rfl, rfl, rfl⟩; intro c hc; rw [List.take_add_one, hd] at hc; rcases List.mem_append.1 hc with hc | hc
        · exact hno c hc
        · simp at hc; rw [hc]; exact hpd
      · (refine q0c<|tn<|q0t rfl<|q0b<|q0a<|m_I rfl<|a_I rfl<|q0c<|tn<|q0s<|br<|tr<|tr<|br<|tr ?_); refine q0f rfl rfl (v := .int _ _) rfl ⟨_, rfl, E1.trans E2, ?_⟩; rw [decide_eq_true (by omega), List.any_eq_true.2 ⟨d, hmem, hpd⟩]
    · obtain rfl : k = l.length := (by omega); (refine q1g<|te<|te<|bx<|tn<|q0b<|q0a<|a_I rfl<|q0c<|tn<|q0s ?_); refine q0f rfl rfl (v := .int _ _) rfl ⟨_, rfl, E1, ?_⟩; rw [List.take_length] at hno; rw [decide_eq_false (by omega)]; symm; rw [Bool.eq_false_iff]; intro h; obtain ⟨c, hc, hpc⟩ := List.any_eq_true.1 h; rw [hno c hc] at hpc; cases hpc
theorem gcontains (lo hi : Nat) (v : Value) (l : List Qy.CndI) (hl : l.length ≤ 1000000000) (fi : FuncId) [TFun Tryz.prog fi] (cap : Array Value) (p : Qy.CndI → Bool) (w : World) (hr : Row w lo hi 3 v l.length (q5h l))
    (hp : ∀ c ∈ l, ∀ wx, Ext w wx → Calls Tryz.prog fi (#[] ++ #[.agg (cndI c).toArray] ++ cap) wx fun e w' => e = .returned (.bool (p c)) ∧ Ext wx w') :
    Calls Tryz.prog 175 #[v, .func (.func fi) #[] cap] w fun e w' => e = .returned (.bool (l.any p)) ∧ Ext w w' := by
  refine q0k Tryz.func175 rfl Tryz.ntmps175 rfl ?_; obtain ⟨_, A, c, rfl, _⟩ := id hr; (refine q0b<|q0a<|a_B rfl<|q0c<|tn<|q0b<|q0a<|m_S rfl<|Ls (q0e (v := .func _ _ _) rfl) ?_); refine L_fn (gindexF lo hi _ l hl fi cap p w hr hp) rfl ?_; rintro e w1 ⟨n, rfl, E1, hn⟩; refine ⟨_, rfl, ?_⟩; (refine Ls (X_geq rfl rfl)<|a_B rfl<|q0c<|tn<|q0s ?_); refine q0f rfl rfl (v := .bool _) rfl ⟨?_, E1⟩; rw [hn]
def q3y (k : Nat) : List Value := [.string (strB (Qy.keyword k)), .bool (Qy.hasCol k), .int .i64 (Qy.maxK k : Nat), .int .i64 (Qy.nfil k : Nat)]
def formZ : List Value := [.string ByteArray.empty, .bool false, .int .i64 0, .int .i64 0]
def q4f : Int → Option Value := fun i => if 1 ≤ i ∧ i ≤ 7 then some (.agg (q3y i.toNat).toArray) else none
theorem z0r (k : Nat) : ∀ v ∈ q3y k, v.oneCell' = true := by
  intro v hv; simp only [q3y, List.mem_cons, List.not_mem_nil, or_false] at hv; rcases hv with rfl | rfl | rfl | rfl <;> rfl
theorem formsM_eq : (fun i : Int => if i = 7 then some (Value.agg (q3y 7).toArray) else if i = 6 then some (.agg (q3y 6).toArray) else if i = 5 then some (.agg (q3y 5).toArray) else if i = 4 then some (.agg (q3y 4).toArray) else if i = 3 then some (.agg (q3y 3).toArray) else if i = 2 then some (.agg (q3y 2).toArray) else if i = 1 then some (.agg (q3y 1).toArray) else none) = q4f := by
  funext i; unfold q4f; by_cases h : 1 ≤ i ∧ i ≤ 7
  · have : i = 1 ∨ i = 2 ∨ i = 3 ∨ i = 4 ∨ i = 5 ∨ i = 6 ∨ i = 7 := (by omega); rcases this with rfl | rfl | rfl | rfl | rfl | rfl | rfl <;> rfl
  · rw [if_neg h, if_neg (by omega), if_neg (by omega), if_neg (by omega), if_neg (by omega), if_neg (by omega), if_neg (by omega), if_neg (by omega)]
section
variable {n : NN} {f : Fr} {w : World} {d : Option Tmp} {t : TypeId} {pos : String} {af : Array Edge} {g : Option (Nat × Bool)} {x y z u : Operand}
theorem q5w (k : Nat) (hx : ev n f x = .string (strB (Qy.keyword k))) (hy : ev n f y = .bool (Qy.hasCol k)) (hz : ev n f z = .int .i64 (Qy.maxK k : Nat)) (hu : ev n f u = .int .i64 (Qy.nfil k : Nat)) :
    X Tryz.prog n ⟨d, .build 238 #[(0, x), (1, y), (2, z), (3, u)], t, pos, af, g⟩ f w = .ok (.value (.agg (q3y k).toArray)) w := by
  have := q1p (P := Tryz.prog) (ty := 238) (n := n) (f := f) (w := w) (d := d) (t := t) (pos := pos) (af := af) (g := g)
    (Parts.cons (i := 0) (z := [.string ByteArray.empty]) hx rfl rfl rfl (Parts.cons (i := 1) (z := [.bool false]) hy rfl rfl rfl (Parts.cons (i := 2) (z := [.int .i64 0]) hz rfl rfl rfl (Parts.cons (i := 3) (z := [.int .i64 0]) hu rfl rfl rfl (Parts.nil _)))))
  simpa [q3y] using this
end
set_option maxHeartbeats 1000000 in
theorem gforms (w : World) : Calls Tryz.prog 133 #[] w fun e w' => ∃ q, e = .returned q ∧ Ext w w' ∧ ∃ b, q = .map (some b) ∧ w.heap.size ≤ b ∧ MapI Tryz.prog 3 w' b 7 q4f := by
  refine q0k Tryz.func133 rfl Tryz.ntmps133 rfl ?_; (refine q0b<|q0a<|Ls (q0i (v := .map _) rfl)<|q0c<|tn<|q0b<|q0a ?_); refine L_makeMap (kt := 3) ?_; intro w1 M1 E1 hs1; obtain ⟨b, hb⟩ : ∃ b, b = w.heap.size := ⟨_, rfl⟩; rw [← hb] at M1 ⊢; refine Ls (q5w 1 rfl rfl rfl rfl) (q7x (q3d (v := .agg (q3y 1).toArray) rfl rfl rfl M1 (by decide) (by decide) ?_)); intro w2 M2 g2 _; refine Ls (q5w 2 rfl rfl rfl rfl) (q7x (q3d (v := .agg (q3y 2).toArray) rfl rfl rfl M2 (by decide) (by decide) ?_)); intro w3 M3 g3 _; refine Ls (q5w 3 rfl rfl rfl rfl) (q7x (q3d (v := .agg (q3y 3).toArray) rfl rfl rfl M3 (by decide) (by decide) ?_)); intro w4 M4 g4 _; refine Ls (q5w 4 rfl rfl rfl rfl) (q7x (q3d (v := .agg (q3y 4).toArray) rfl rfl rfl M4 (by decide) (by decide) ?_)); intro w5 M5 g5 _; refine Ls (q5w 5 rfl rfl rfl rfl) (q7x (q3d (v := .agg (q3y 5).toArray) rfl rfl rfl M5 (by decide) (by decide) ?_)); intro w6 M6 g6 _; refine Ls (q5w 6 rfl rfl rfl rfl) (q7x (q3d (v := .agg (q3y 6).toArray) rfl rfl rfl M6 (by decide) (by decide) ?_)); intro w7 M7 g7 _; refine Ls (q5w 7 rfl rfl rfl rfl) (q7x (q3d (v := .agg (q3y 7).toArray) rfl rfl rfl M7 (by decide) (by decide) ?_)); intro w8 M8 g8 _; rw [formsM_eq] at M8; (refine Ls (q0e (v := .map _) rfl)<|Ls (q0i (v := .map _) rfl)<|q0c<|tn<|q0s ?_); refine q0f rfl rfl (v := .map _) rfl ?_; have hw : ∀ g, some b = some g → w.heap.size ≤ g := fun g h => by cases h; omega
  exact ⟨_, rfl, ((((((E1.then g2 hw).then g3 hw).then g4 hw).then g5 hw).then g6 hw).then g7 hw).then g8 hw, b, rfl, by omega, M8⟩
def q6e (w : World) (lo hi : Nat) (v : Value) (fs : List (List Qy.CndI)) : Prop :=
  ∃ us : List Value, us.length = fs.length ∧ Row w lo hi 1 v fs.length us ∧ ∀ (i : Nat) (u : Value) (f : List Qy.CndI), us[i]? = some u → fs[i]? = some f → Row w lo hi 3 u f.length (q5h f)
theorem q6e.ext {w w' : World} {lo hi : Nat} {v : Value} {fs : List (List Qy.CndI)} (h : q6e w lo hi v fs) (E : Ext w w') : q6e w' lo hi v fs := by
  obtain ⟨us, h1, h2, h3⟩ := h; exact ⟨us, h1, h2.ext E, fun i u f hu hf => (h3 i u f hu hf).ext E⟩
theorem q6e.grown {w w' : World} {lo hi : Nat} {v : Value} {fs : List (List Qy.CndI)} {row : Option Nat} (h : q6e w lo hi v fs) (hg : w.grownBy w' row) (hr : ∀ g, row = some g → g < lo ∨ hi ≤ g) : q6e w' lo hi v fs := by
  obtain ⟨us, h1, h2, h3⟩ := h; exact ⟨us, h1, h2.grown hg hr, fun i u f hu hf => (h3 i u f hu hf).grown hg hr⟩
theorem q6e.wide {w : World} {lo hi lo' hi' : Nat} {v : Value} {fs : List (List Qy.CndI)} (h : q6e w lo hi v fs) (h1 : lo' ≤ lo) (h2 : hi ≤ hi') : q6e w lo' hi' v fs := by
  obtain ⟨us, e1, e2, e3⟩ := h; exact ⟨us, e1, e2.wide h1 h2, fun i u f hu hf => (e3 i u f hu hf).wide h1 h2⟩
theorem q6e.cell {w : World} {lo hi : Nat} {v : Value} {fs : List (List Qy.CndI)} (h : q6e w lo hi v fs) : v.oneCell' = true := by
  obtain ⟨us, _, ⟨_, A, c, rfl, _⟩, _⟩ := h; rfl
def qC (k c n : Int) (v : Value) : List Value := [.int .i64 k, .int .i64 c, .int .i64 n, v]
theorem q4l {k c n : Int} {v : Value} (h : v.oneCell' = true) : ∀ u ∈ qC k c n v, u.oneCell' = true := by
  intro u hu; simp only [qC, List.mem_cons, List.not_mem_nil, or_false] at hu; rcases hu with rfl | rfl | rfl | rfl <;> first | rfl | exact h
section
variable {P : Program} {n : NN} {f : Fr} {w : World} {d : Option Tmp} {t ty ty' : TypeId} {pos : String} {af : Array Edge} {g : Option (Nat × Bool)} {x y : Operand} {k : IntKind} {a b m : Int}
theorem z0v (hx : ev n f x = .int k a) (hy : ev n f y = .int k b) (h : (if b < a then b else a) = m) : X P n ⟨d, .call ⟨.builtin .min, #[x, y], #[ty, ty']⟩, t, pos, af, g⟩ f w = .ok (.value (.int k m)) w := by
  rw [← h]; exact X_min hx hy
end
theorem z0q {k : Nat} (h1 : 1 ≤ k) (h7 : k ≤ 7) : q4f (k : Int) = some (.agg (q3y k).toArray) := by
  unfold q4f; rw [if_pos (by omega)]; rfl
theorem formsM_no {k : Int} (h : ¬ (1 ≤ k ∧ k ≤ 7)) : q4f k = none := by
  unfold q4f; rw [if_neg h]
theorem formZ_ok : (Tryz.prog.info? 238).bind (·.zero) = some (.agg formZ.toArray) := by kernel_rfl
theorem mapi_rn {kt b m : Nat} {M : Int → Option Value} {k0 i : Nat} {w0 a a' : World} {T : TypeId} {z l : List Value} (h : MapI Tryz.prog kt a b m M) (hr : RN k0 w0 T z l i a a') : MapI Tryz.prog kt a' b m M := by
  rcases hr with e | ⟨_, q, _, hz, hg, _⟩
  · exact h.ext e
  · refine h.kept hg fun e => ?_; injection e with e; subst e; obtain ⟨D, ⟨es, clock, hb, _⟩, _⟩ := h; rcases hz with hz | hz
    · unfold Blk at hz; rw [hb] at hz; cases hz
    · unfold Blk at hz; rw [hb] at hz; cases hz
def q6c (w0 : World) (v : Value) (w : World) : Prop := ∃ b, v = .map (some b) ∧ w0.heap.size ≤ b ∧ MapI Tryz.prog 3 w b 7 q4f
theorem form_look {w0 w : World} {r : Value} {n : NN} {f : Fr} {d : Option Tmp} {t : TypeId} {pos : String} {af : Array Edge} {g : Option (Nat × Bool)} {x y : Operand} {k : Int} {C : List Value} {q : Bool} (h : q6c w0 r w) (hx : ev n f x = r) (hy : ev n f y = .int .i64 k) (hk : (Lit.int .i64 k).wf = true)
    (hC : (q4f k).getD (.agg formZ.toArray) = .agg C.toArray) (hq : (q4f k).isSome = q) : X Tryz.prog n ⟨d, .lookup 239 x y true, t, pos, af, g⟩ f w = .ok (.value (.tuple [.agg C.toArray, .bool q].toArray)) w := by
  obtain ⟨b, rfl, _, hM⟩ := h; exact X_look2 (e := 238) formZ_ok hx hy hM hk hC hq
theorem form_look1 {w0 w : World} {r : Value} {n : NN} {f : Fr} {d : Option Tmp} {t : TypeId} {pos : String} {af : Array Edge} {g : Option (Nat × Bool)} {x y : Operand} {k : Int} {C : List Value} (h : q6c w0 r w) (hx : ev n f x = r) (hy : ev n f y = .int .i64 k) (hk : (Lit.int .i64 k).wf = true)
    (hC : (q4f k).getD (.agg formZ.toArray) = .agg C.toArray) : X Tryz.prog n ⟨d, .lookup 239 x y false, t, pos, af, g⟩ f w = .ok (.value (.agg C.toArray)) w := by
  obtain ⟨b, rfl, _, hM⟩ := h; exact X_look1 (e := 238) formZ_ok hx hy hM hk hC
theorem not_ok_forms {C : List Value} {k : Int} (hC : (q4f k).getD (.agg formZ.toArray) = .agg C.toArray) : C.length = 4 ∧ ∀ v ∈ C, v.oneCell' = true := by
  unfold q4f at hC; split at hC
  · injection hC with hC; have : q3y k.toNat = C := (by simpa using hC); rw [← this]; exact ⟨rfl, z0r _⟩
  · injection hC with hC; have : formZ = C := (by simpa using hC); rw [← this]; exact ⟨rfl, by decide⟩
theorem any_ok {l : List Qy.CndI} (h3 : l.length ≤ 3) : l.any (fun c => !decide (Qy.okCI c)) = !decide (Qy.okFI l) := by
  by_cases hall : ∀ c ∈ l, Qy.okCI c
  · rw [decide_eq_true (show Qy.okFI l from ⟨h3, hall⟩), Bool.not_true, List.any_eq_false]; intro c hc; rw [decide_eq_true (hall c hc)]; simp
  · rw [decide_eq_false (fun h : Qy.okFI l => hall h.2)]; apply Classical.byContradiction; intro hn; apply hall; intro c hc; apply Classical.byContradiction; intro hc'; apply hn; rw [Bool.not_false, List.any_eq_true]; exact ⟨c, hc, by rw [decide_eq_false hc']; rfl⟩
theorem OkI_k {k : Nat} (h1 : 1 ≤ k) (h7 : k ≤ 7) (col kk : Int) (fs : List (List Qy.CndI)) : Qy.OkI ⟨k, col, kk, fs⟩ ↔ (0 ≤ col ∧ col < 4 ∧ (Qy.hasCol k = false → col = 0)) ∧ (0 ≤ kk ∧ kk ≤ (Qy.maxK k : Nat) ∧ (0 < (Qy.maxK k : Nat) → 0 < kk)) ∧ fs.length = Qy.nfil k ∧ ∀ l ∈ fs, Qy.okFI l := by
  unfold Qy.OkI; dsimp only; rw [Qy.maxKI_nat, Qy.hasColI_nat]; have hn : (if (k : Int) = 7 then (2 : Int) else 1) = (Qy.nfil k : Nat) := by
    unfold Qy.nfil; by_cases h : k = 7
    · rw [h]; rfl
    · rw [if_neg (by omega)]; have e : (k == 7) = false := (by simp [h]); rw [e]; rfl
  rw [hn, Bool.not_eq_true]; constructor
  · rintro ⟨⟨_, _, a, b, c⟩, ⟨d, e, f⟩, g, h⟩; exact ⟨⟨a, b, c⟩, ⟨d, e, fun h => f (by omega)⟩, by omega, h⟩
  · rintro ⟨⟨a, b, c⟩, ⟨d, e, f⟩, g, h⟩; exact ⟨⟨by omega, by omega, a, b, c⟩, ⟨d, e, fun h => f (by omega)⟩, by omega, h⟩
set_option maxRecDepth 100000 in
set_option maxHeartbeats 8000000 in
theorem gvalid (q : Qy.QI) (v : Value) (lo hi : Nat) (w : World) (hF : q6e w lo hi v q.fs) (hk : (Lit.int .i64 q.kind).wf = true) :
    Calls Tryz.prog 115 #[.agg (qC q.kind q.col q.k v).toArray] w fun e w' => e = .returned (.bool (decide (Qy.OkI q))) ∧ Ext w w' := by
  refine q0k Tryz.func115 rfl Tryz.ntmps115 rfl ?_; obtain ⟨kind, col, kk, fs⟩ := q; dsimp only at hF hk ⊢; have hvc := hF.cell; (refine q0b<|q0a ?_); refine q3k (l := qC kind col kk v) rfl ?_; intro g1 w1 B1 hg1 E1 hs1; (refine a_B rfl<|q0c<|tn<|q0b ?_); obtain ⟨C, qq, hC, hq⟩ : ∃ (C : List Value) (qq : Bool), (q4f kind).getD (.agg formZ.toArray) = .agg C.toArray ∧ (q4f kind).isSome = qq := by
    unfold q4f; split
    · exact ⟨_, _, rfl, rfl⟩
    · exact ⟨_, _, rfl, rfl⟩
  obtain ⟨hCl, hCc⟩ := not_ok_forms hC; apply W_dagR (R := RN 8 w1 238 formZ C) (Ext w1) 9 (by kernel_rfl) RN.refl (Ext.drew w1) RN.step; ((with_reducible apply q8l (F := q6c w1)); (exact fun _ => rfl); (exact fun _ => rfl); (exact fun r w hA hH => (gforms w).mono fun e w' ⟨u, h1, h2, b, h3, h4, h5⟩ => ⟨u, h1, h2, b, h3, Nat.le_trans hA.size h4, h5⟩); (exact fun i u w w' hi ht hR h => (by obtain ⟨b, h1, h2, h3⟩ := h; exact ⟨b, h1, h2, mapi_rn h3 hR⟩))); (apply DW_x (fun r w hA hH => (q0g rfl).trans rfl); apply DW_x (fun r w hA hH => (X_ld rfl (B1.ext hA) rfl).trans rfl)); ((with_reducible apply DW_x); (exact fun r w hA hH => (form_look (hH 0 rfl) rfl rfl hk hC hq).trans rfl)); (apply DW_x (fun r w hA hH => (q0e (v := .tuple _) rfl).trans rfl); apply DW_x (fun r w hA hH => (q0y rfl rfl).trans rfl); apply DW_x (fun r w hA hH => (q0y rfl rfl).trans rfl)); apply DW_allocZ; apply DW_storeN (kx := 7) (fun _ => rfl) (fun _ => rfl) rfl hCl hCc (by decide) (fun r w hA hH => hH 7 rfl); ((with_reducible exact q1y); (exact rfl); (repeat (first | exact .inr (.inr (fun _ _ => by with_reducible rfl)) | (refine And.intro ?_ ?_) | exact .inr (.inl rfl) | exact .inl (by decide +kernel) | exact trivial | exact .inr (.inr (fun _ _ => rfl)))); (try dsimp only [Nat.reduceAdd])); intro r w2 E2 H2; obtain ⟨g3, hr3, hg3, B3⟩ : ∃ q, r 7 = .pointer (some ⟨q, 0, none⟩) ∧ w1.heap.size ≤ q ∧ Blk w2 q 238 C := H2 8; rw [hr3]; have C1 := B1.ext E2; have F2 := (hF.ext E1).ext E2; have Ea := E1.trans E2; clear hr3 H2; by_cases h17 : 1 ≤ kind ∧ kind ≤ 7
  · obtain ⟨k, rfl⟩ : ∃ k : Nat, kind = k := ⟨kind.toNat, by omega⟩; have hok := OkI_k (k := k) (by omega) (by omega) col kk fs; rw [z0q (by omega) (by omega)] at hC hq; obtain rfl : q3y k = C := (by simpa using hC); obtain rfl : true = qq := hq; obtain ⟨hc, hhc⟩ : ∃ hc, hc = Qy.hasCol k := ⟨_, rfl⟩; obtain ⟨mk, hmk⟩ : ∃ mk, mk = Qy.maxK k := ⟨_, rfl⟩; obtain ⟨nf, hnf⟩ : ∃ nf, nf = Qy.nfil k := ⟨_, rfl⟩; have hnf2 : nf ≤ 2 := (by rw [hnf]; unfold Qy.nfil; cases (k == 7) <;> decide); have hmk0 : mk ≤ 65536 := (by rw [hmk]; exact Qy.maxK_le k); obtain ⟨mn, hmn⟩ : ∃ mn : Int, (if (1 : Int) < (mk : Nat) then 1 else ((mk : Nat) : Int)) = mn := ⟨_, rfl⟩; have hmn1 : (0 < mk → mn = 1) ∧ (mk = 0 → mn = 0) := (by rw [← hmn]; constructor <;> intro h <;> split <;> omega); unfold q3y at B3; rw [← hhc, ← hmk, ← hnf] at B3 hok; clear hC hCl hCc hhc hnf hmk; rw [show decide (Qy.OkI ⟨k, col, kk, fs⟩) = decide (_) from decide_eq_decide.2 hok]; clear hok; obtain ⟨us, hul, hvr, hus⟩ := id F2; by_cases hA : fs.length = nf
    · by_cases hB : kk < mn
      · rw [decide_eq_false (by omega)]; (refine a_B rfl<|q0c<|tn<|q0b<|q0b<|q0a<|m_B rfl<|Ls (q1x rfl)<|m_B rfl<|Lg2 rfl rfl rfl (q0g rfl)<|Lg2 rfl rfl rfl (X_ld rfl C1 rfl)<|Lg2 rfl rfl rfl (q2y (v := v) rfl hvr)<|Lg2 rfl rfl rfl (q0g rfl)<|Lg2 rfl rfl rfl (X_ld rfl B3 rfl)<|Lg2 rfl rfl rfl (q2t rfl rfl (by omega))<|Ls (q0r (v := .bool _) rfl rfl)<|m_B rfl<|Lg2 rfl rfl rfl (q0g rfl)<|Lg2 rfl rfl rfl (X_ld rfl C1 rfl)<|Lg2 rfl rfl rfl (q0g rfl)<|Lg2 rfl rfl rfl (X_ld rfl B3 rfl)<|Lg2 rfl rfl rfl (z0v rfl rfl hmn)<|Lg2 rfl rfl rfl (q3j rfl rfl (by omega))<|Ls (q0r (v := .bool _) rfl rfl)<|m_B rfl<|Lo2 rfl rfl rfl rfl<|Lo2 rfl rfl rfl rfl<|Lo2 rfl rfl rfl rfl<|Lo2 rfl rfl rfl rfl<|Lo2 rfl rfl rfl rfl<|Ls (q0m (v := .bool _) rfl rfl)<|q0c<|tn<|q0t rfl<|q0b<|q0a<|a_B rfl<|q0c<|tn<|q0s<|tr ?_); exact q0f rfl rfl (v := .bool false) rfl ⟨rfl, Ea⟩
      · by_cases hC : (mk : Int) < kk
        · rw [decide_eq_false (by omega)]; (refine a_B rfl<|q0c<|tn<|q0b<|q0b<|q0a<|m_B rfl<|Ls (q1x rfl)<|m_B rfl<|Lg2 rfl rfl rfl (q0g rfl)<|Lg2 rfl rfl rfl (X_ld rfl C1 rfl)<|Lg2 rfl rfl rfl (q2y (v := v) rfl hvr)<|Lg2 rfl rfl rfl (q0g rfl)<|Lg2 rfl rfl rfl (X_ld rfl B3 rfl)<|Lg2 rfl rfl rfl (q2t rfl rfl (by omega))<|Ls (q0r (v := .bool _) rfl rfl)<|m_B rfl<|Lg2 rfl rfl rfl (q0g rfl)<|Lg2 rfl rfl rfl (X_ld rfl C1 rfl)<|Lg2 rfl rfl rfl (q0g rfl)<|Lg2 rfl rfl rfl (X_ld rfl B3 rfl)<|Lg2 rfl rfl rfl (z0v rfl rfl hmn)<|Lg2 rfl rfl rfl (q3f rfl rfl (by omega))<|Ls (q0r (v := .bool _) rfl rfl)<|m_B rfl<|Lg2 rfl rfl rfl (q0g rfl)<|Lg2 rfl rfl rfl (X_ld rfl C1 rfl)<|Lg2 rfl rfl rfl (q0g rfl)<|Lg2 rfl rfl rfl (X_ld rfl B3 rfl)<|Lg2 rfl rfl rfl (z0w rfl rfl (by omega))<|Ls (q0r (v := .bool _) rfl rfl)<|q0c<|tn<|q0t rfl<|q0b<|q0a<|a_B rfl<|q0c<|tn<|q0s<|tr ?_); exact q0f rfl rfl (v := .bool false) rfl ⟨rfl, Ea⟩
        · by_cases hD : 0 ≤ col ∧ col < 4 ∧ (hc = false → col = 0)
          · rw [show decide (_ ∧ _ ∧ fs.length = nf ∧ ∀ l ∈ fs, Qy.okFI l) = decide (∀ l ∈ fs, Qy.okFI l) from decide_eq_decide.2 ⟨fun h => h.2.2.2, fun h => ⟨hD, ⟨by omega, by omega, fun h => by omega⟩, hA, h⟩⟩]; cases hc
            case' false =>
              obtain ⟨w3, e3, E3⟩ : ∃ w3, w3 = w2 ∧ Ext w2 w3 := ⟨_, rfl, Ext.refl _⟩
              have hcol : col = 0 := hD.2.2 rfl
              (refine a_B rfl<|q0c<|tn<|q0b<|q0b<|q0a<|m_B rfl<|Ls (q1x rfl)<|m_B rfl<|Lg2 rfl rfl rfl (q0g rfl)<|Lg2 rfl rfl rfl (X_ld rfl C1 rfl)<|Lg2 rfl rfl rfl (q2y (v := v) rfl hvr)<|Lg2 rfl rfl rfl (q0g rfl)<|Lg2 rfl rfl rfl (X_ld rfl B3 rfl)<|Lg2 rfl rfl rfl (q2t rfl rfl (by omega))<|Ls (q0r (v := .bool _) rfl rfl)<|m_B rfl<|Lg2 rfl rfl rfl (q0g rfl)<|Lg2 rfl rfl rfl (X_ld rfl C1 rfl)<|Lg2 rfl rfl rfl (q0g rfl)<|Lg2 rfl rfl rfl (X_ld rfl B3 rfl)<|Lg2 rfl rfl rfl (z0v rfl rfl hmn)<|Lg2 rfl rfl rfl (q3f rfl rfl (by omega))<|Ls (q0r (v := .bool _) rfl rfl)<|m_B rfl<|Lg2 rfl rfl rfl (q0g rfl)<|Lg2 rfl rfl rfl (X_ld rfl C1 rfl)<|Lg2 rfl rfl rfl (q0g rfl)<|Lg2 rfl rfl rfl (X_ld rfl B3 rfl)<|Lg2 rfl rfl rfl (q7b rfl rfl (by omega))<|Ls (q0r (v := .bool _) rfl rfl)<|q0c<|tn<|q0o rfl<|q0n<|tn<|q0b<|q0b<|q0a<|Ls (q0g rfl)<|Ls (X_ld rfl B3 rfl)<|m_B rfl<|Lo2 rfl rfl rfl rfl<|Lo2 rfl rfl rfl rfl<|Lo2 rfl rfl rfl rfl<|Lo2 rfl rfl rfl rfl<|Ls (q0r (v := .bool _) rfl rfl)<|m_B rfl<|Lg2 rfl rfl rfl (q0g rfl)<|Lg2 rfl rfl rfl (X_ld rfl B3 rfl)<|Lg2 rfl rfl rfl (q1x rfl)<|Lg2 rfl rfl rfl (q0e (v := .bool _) rfl)<|Lg2 rfl rfl rfl (q0g rfl)<|Lg2 rfl rfl rfl (X_ld rfl C1 rfl)<|Lg2 rfl rfl rfl (q2t rfl rfl (by omega))<|Lg2 rfl rfl rfl (q0m (v := .bool _) rfl rfl)<|Ls (q0r (v := .bool _) rfl rfl)<|q0c<|tn<|q0o rfl<|q0n<|tn<|q0b<|q0b<|q0a<|Ls (q0g rfl)<|Ls (X_ld rfl C1 rfl)<|Ls (q2y (v := v) rfl hvr)<|m_I rfl<|q0c<|tn<|q0j ?_)
              rw [← e3]
            case' true =>
              (refine a_B rfl<|q0c<|tn<|q0b<|q0b<|q0a<|m_B rfl<|Ls (q1x rfl)<|m_B rfl<|Lg2 rfl rfl rfl (q0g rfl)<|Lg2 rfl rfl rfl (X_ld rfl C1 rfl)<|Lg2 rfl rfl rfl (q2y (v := v) rfl hvr)<|Lg2 rfl rfl rfl (q0g rfl)<|Lg2 rfl rfl rfl (X_ld rfl B3 rfl)<|Lg2 rfl rfl rfl (q2t rfl rfl (by omega))<|Ls (q0r (v := .bool _) rfl rfl)<|m_B rfl<|Lg2 rfl rfl rfl (q0g rfl)<|Lg2 rfl rfl rfl (X_ld rfl C1 rfl)<|Lg2 rfl rfl rfl (q0g rfl)<|Lg2 rfl rfl rfl (X_ld rfl B3 rfl)<|Lg2 rfl rfl rfl (z0v rfl rfl hmn)<|Lg2 rfl rfl rfl (q3f rfl rfl (by omega))<|Ls (q0r (v := .bool _) rfl rfl)<|m_B rfl<|Lg2 rfl rfl rfl (q0g rfl)<|Lg2 rfl rfl rfl (X_ld rfl C1 rfl)<|Lg2 rfl rfl rfl (q0g rfl)<|Lg2 rfl rfl rfl (X_ld rfl B3 rfl)<|Lg2 rfl rfl rfl (q7b rfl rfl (by omega))<|Ls (q0r (v := .bool _) rfl rfl)<|q0c<|tn<|q0o rfl<|q0n<|tn<|q0b<|q0b<|q0a<|Ls (q0g rfl)<|Ls (X_ld rfl B3 rfl)<|m_B rfl<|Lg2 rfl rfl rfl (q0g rfl)<|Lg2 rfl rfl rfl (X_ld rfl C1 rfl) ?_)
              refine q1u rfl rfl rfl ?_
              refine L_fv rfl (z0o col true (decide_eq_true ⟨hD.1, hD.2.1⟩) w2) ?_
              intro w3 E3
              (refine Lg2 rfl rfl rfl (q1x rfl)<|Ls (q0m (v := .bool _) rfl rfl)<|m_B rfl<|Lg2 rfl rfl rfl (q0g rfl)<|Lg2 rfl rfl rfl (X_ld rfl (B3.ext E3) rfl)<|Lg2 rfl rfl rfl (q1x rfl)<|Lg2 rfl rfl rfl (q0e (v := .bool _) rfl)<|Lo2 rfl rfl rfl rfl<|Lo2 rfl rfl rfl rfl<|Lo2 rfl rfl rfl rfl<|Lg2 rfl rfl rfl (q0r (v := .bool _) rfl rfl)<|Ls (q0r (v := .bool _) rfl rfl)<|q0c<|tn<|q0o rfl<|q0n<|tn<|q0b<|q0b<|q0a<|Ls (q0g rfl)<|Ls (X_ld rfl (C1.ext E3) rfl)<|Ls (q2y (v := v) rfl (hvr.ext E3))<|m_I rfl<|q0c<|tn<|q0j ?_)
            all_goals
              refine q1k (fun q f w' => ∃ i, q = fs.length - i ∧ i ≤ fs.length ∧ Ext w3 w' ∧ (∀ l ∈ fs.take i, Qy.okFI l) ∧ f 58 = v ∧ f 59 = .int .i64 (fs.length : Nat) ∧ f 60 = .int .i64 (i : Nat)) fs.length ?_ ?_
              · exact ⟨0, rfl, by omega, Ext.refl _, (by intro l h; simp at h), rfl, rfl, rfl⟩
              · rintro q f w4 ⟨i, rfl, hil, E4, hpre, f58, f59, f60⟩
                rw [fold f58, fold f59, fold f60]
                have E24 := E3.trans E4
                by_cases hi' : i < fs.length
                · obtain ⟨l, hl⟩ : ∃ l, fs[i]? = some l := ⟨fs[i], List.getElem?_eq_getElem hi'⟩
                  obtain ⟨u, hu⟩ : ∃ u, us[i]? = some u := ⟨us[i]'(by omega), List.getElem?_eq_getElem (by omega)⟩
                  have hlr := (hus i u l hu hl).ext E24
                  obtain ⟨b0, o0, c0, rfl, _, _, _, hc0⟩ := hvr.at (k := i) hi'
                  have huc : u.oneCell' = true := by obtain ⟨_, A, c, rfl, _⟩ := hlr; rfl
                  have hsu : fs.take (i + 1) = fs.take i ++ [l] := by rw [List.take_add_one, hl]; rfl
                  by_cases h3 : l.length ≤ 3
                  · (refine q0b<|q0a<|Ls (q3j rfl rfl (by omega))<|q0c<|tn<|q0b<|q0t rfl<|q0n<|tn<|q0b<|q0j<|q0b<|q0a<|Ls (q0p rfl rfl (by omega))<|Ls (q2g (j := i) (v := u) rfl (Ext.range E24 hc0) (by omega) hu)<|Ls (q0i (v := u) rfl)<|q0c<|tn<|q0b<|q0a<|Ls (q0e (v := u) rfl)<|Ls (q2y (v := u) rfl hlr)<|Ls (q7b rfl rfl (by omega))<|m_B rfl<|Lg2 rfl rfl rfl (q0e (v := u) rfl) ?_)
                    refine q1u rfl rfl rfl ?_
                    refine L_fv rfl (gcontains lo hi u l (by omega) 176 #[] (fun c => !decide (Qy.okCI c)) w4 hlr (fun c _ wx _ => gvalid1 c wx)) ?_
                    intro w5 E5
                    rw [any_ok h3]
                    by_cases hf : Qy.okFI l
                    · rw [decide_eq_true hf]
                      (refine Ls (q0r (v := .bool _) rfl rfl)<|q0c<|tn<|q0o rfl<|q0n<|bn<|tn<|q0a<|Ls (q1j rfl rfl (by omega))<|m_I rfl<|q0c<|tn ?_)
                      refine ⟨fs.length - (i + 1), by omega, i + 1, rfl, by omega, E4.trans E5, ?_, rfl, rfl, rfl⟩
                      rw [hsu]
                      intro m hm
                      rcases List.mem_append.1 hm with hm | hm
                      · exact hpre m hm
                      · simp at hm; rw [hm]; exact hf
                    · rw [decide_eq_false hf]
                      (refine Ls (q0r (v := .bool _) rfl rfl)<|q0c<|tn<|q0t rfl<|q0b<|q0a<|a_B rfl<|q0c<|tn<|q0s<|br<|tr<|tr<|br<|tr ?_)
                      refine q0f rfl rfl (v := .bool false) rfl ⟨?_, Ea.trans (E24.trans E5)⟩
                      rw [decide_eq_false (fun h => hf (h l (List.mem_of_getElem? hl)))]
                  · (refine q0b<|q0a<|Ls (q3j rfl rfl (by omega))<|q0c<|tn<|q0b<|q0t rfl<|q0n<|tn<|q0b<|q0j<|q0b<|q0a<|Ls (q0p rfl rfl (by omega))<|Ls (q2g (j := i) (v := u) rfl (Ext.range E24 hc0) (by omega) hu)<|Ls (q0i (v := u) rfl)<|q0c<|tn<|q0b<|q0a<|Ls (q0e (v := u) rfl)<|Ls (q2y (v := u) rfl hlr)<|Ls (z0w rfl rfl (by omega))<|m_B rfl<|Lo2 rfl rfl rfl rfl<|Lo2 rfl rfl rfl rfl<|Ls (q0m (v := .bool _) rfl rfl)<|q0c<|tn<|q0t rfl<|q0b<|q0a<|a_B rfl<|q0c<|tn<|q0s<|br<|tr<|tr<|br<|tr ?_)
                    refine q0f rfl rfl (v := .bool false) rfl ⟨?_, Ea.trans E24⟩
                    rw [decide_eq_false (fun h => h3 (h l (List.mem_of_getElem? hl)).1)]
                · obtain rfl : i = fs.length := by omega
                  (refine q0b<|q0a<|Ls (q3f rfl rfl (by omega))<|q0c<|tn<|q0b<|q0o rfl<|q1g<|te<|te<|bx<|tn<|q0b<|q0a<|a_B rfl<|q0c<|tn<|q0s ?_)
                  refine q0f rfl rfl (v := .bool true) rfl ⟨?_, Ea.trans E24⟩
                  rw [List.take_length] at hpre
                  rw [decide_eq_true hpre]
          · rw [decide_eq_false (fun h => hD h.1)]; cases hc
            · by_cases hcol : col = 0
              · exact (hD ⟨by omega, by omega, fun _ => hcol⟩).elim
              · (refine a_B rfl<|q0c<|tn<|q0b<|q0b<|q0a<|m_B rfl<|Ls (q1x rfl)<|m_B rfl<|Lg2 rfl rfl rfl (q0g rfl)<|Lg2 rfl rfl rfl (X_ld rfl C1 rfl)<|Lg2 rfl rfl rfl (q2y (v := v) rfl hvr)<|Lg2 rfl rfl rfl (q0g rfl)<|Lg2 rfl rfl rfl (X_ld rfl B3 rfl)<|Lg2 rfl rfl rfl (q2t rfl rfl (by omega))<|Ls (q0r (v := .bool _) rfl rfl)<|m_B rfl<|Lg2 rfl rfl rfl (q0g rfl)<|Lg2 rfl rfl rfl (X_ld rfl C1 rfl)<|Lg2 rfl rfl rfl (q0g rfl)<|Lg2 rfl rfl rfl (X_ld rfl B3 rfl)<|Lg2 rfl rfl rfl (z0v rfl rfl hmn)<|Lg2 rfl rfl rfl (q3f rfl rfl (by omega))<|Ls (q0r (v := .bool _) rfl rfl)<|m_B rfl<|Lg2 rfl rfl rfl (q0g rfl)<|Lg2 rfl rfl rfl (X_ld rfl C1 rfl)<|Lg2 rfl rfl rfl (q0g rfl)<|Lg2 rfl rfl rfl (X_ld rfl B3 rfl)<|Lg2 rfl rfl rfl (q7b rfl rfl (by omega))<|Ls (q0r (v := .bool _) rfl rfl)<|q0c<|tn<|q0o rfl<|q0n<|tn<|q0b<|q0b<|q0a<|Ls (q0g rfl)<|Ls (X_ld rfl B3 rfl)<|m_B rfl<|Lo2 rfl rfl rfl rfl<|Lo2 rfl rfl rfl rfl<|Lo2 rfl rfl rfl rfl<|Lo2 rfl rfl rfl rfl<|Ls (q0r (v := .bool _) rfl rfl)<|m_B rfl<|Lg2 rfl rfl rfl (q0g rfl)<|Lg2 rfl rfl rfl (X_ld rfl B3 rfl)<|Lg2 rfl rfl rfl (q1x rfl)<|Lg2 rfl rfl rfl (q0e (v := .bool _) rfl)<|Lg2 rfl rfl rfl (q0g rfl)<|Lg2 rfl rfl rfl (X_ld rfl C1 rfl)<|Lg2 rfl rfl rfl (q3i rfl rfl (by omega))<|Lg2 rfl rfl rfl (q0m (v := .bool _) rfl rfl)<|Ls (q0r (v := .bool _) rfl rfl)<|q0c<|tn<|q0t rfl<|q0b<|q0a<|a_B rfl<|q0c<|tn<|q0s<|tr ?_); exact q0f rfl rfl (v := .bool false) rfl ⟨rfl, Ea⟩
            · (refine a_B rfl<|q0c<|tn<|q0b<|q0b<|q0a<|m_B rfl<|Ls (q1x rfl)<|m_B rfl<|Lg2 rfl rfl rfl (q0g rfl)<|Lg2 rfl rfl rfl (X_ld rfl C1 rfl)<|Lg2 rfl rfl rfl (q2y (v := v) rfl hvr)<|Lg2 rfl rfl rfl (q0g rfl)<|Lg2 rfl rfl rfl (X_ld rfl B3 rfl)<|Lg2 rfl rfl rfl (q2t rfl rfl (by omega))<|Ls (q0r (v := .bool _) rfl rfl)<|m_B rfl<|Lg2 rfl rfl rfl (q0g rfl)<|Lg2 rfl rfl rfl (X_ld rfl C1 rfl)<|Lg2 rfl rfl rfl (q0g rfl)<|Lg2 rfl rfl rfl (X_ld rfl B3 rfl)<|Lg2 rfl rfl rfl (z0v rfl rfl hmn)<|Lg2 rfl rfl rfl (q3f rfl rfl (by omega))<|Ls (q0r (v := .bool _) rfl rfl)<|m_B rfl<|Lg2 rfl rfl rfl (q0g rfl)<|Lg2 rfl rfl rfl (X_ld rfl C1 rfl)<|Lg2 rfl rfl rfl (q0g rfl)<|Lg2 rfl rfl rfl (X_ld rfl B3 rfl)<|Lg2 rfl rfl rfl (q7b rfl rfl (by omega))<|Ls (q0r (v := .bool _) rfl rfl)<|q0c<|tn<|q0o rfl<|q0n<|tn<|q0b<|q0b<|q0a<|Ls (q0g rfl)<|Ls (X_ld rfl B3 rfl)<|m_B rfl<|Lg2 rfl rfl rfl (q0g rfl)<|Lg2 rfl rfl rfl (X_ld rfl C1 rfl) ?_); refine q1u rfl rfl rfl ?_; refine L_fv rfl (z0o col false (decide_eq_false (fun h => hD ⟨h.1, h.2, fun h => by cases h⟩)) w2) ?_; intro w3 E3; (refine Lg2 rfl rfl rfl (q1x rfl)<|Ls (q0m (v := .bool _) rfl rfl)<|m_B rfl<|Lo2 rfl rfl rfl rfl<|Lo2 rfl rfl rfl rfl<|Lo2 rfl rfl rfl rfl<|Lo2 rfl rfl rfl rfl<|Lo3 rfl rfl rfl<|Lo3 rfl rfl rfl<|Lo3 rfl rfl rfl<|Lo2 rfl rfl rfl rfl<|Ls (q0m (v := .bool _) rfl rfl)<|q0c<|tn<|q0t rfl<|q0b<|q0a<|a_B rfl<|q0c<|tn<|q0s<|tr ?_); exact q0f rfl rfl (v := .bool false) rfl ⟨rfl, Ea.trans E3⟩
    · rw [decide_eq_false (by omega)]; (refine a_B rfl<|q0c<|tn<|q0b<|q0b<|q0a<|m_B rfl<|Ls (q1x rfl)<|m_B rfl<|Lg2 rfl rfl rfl (q0g rfl)<|Lg2 rfl rfl rfl (X_ld rfl C1 rfl)<|Lg2 rfl rfl rfl (q2y (v := v) rfl hvr)<|Lg2 rfl rfl rfl (q0g rfl)<|Lg2 rfl rfl rfl (X_ld rfl B3 rfl)<|Lg2 rfl rfl rfl (q3i rfl rfl (by omega))<|Ls (q0r (v := .bool _) rfl rfl)<|m_B rfl<|Lo2 rfl rfl rfl rfl<|Lo2 rfl rfl rfl rfl<|Lo2 rfl rfl rfl rfl<|Lo2 rfl rfl rfl rfl<|Lo2 rfl rfl rfl rfl<|Lo2 rfl rfl rfl rfl<|Ls (q0m (v := .bool _) rfl rfl)<|m_B rfl<|Lo2 rfl rfl rfl rfl<|Lo2 rfl rfl rfl rfl<|Lo2 rfl rfl rfl rfl<|Lo2 rfl rfl rfl rfl<|Lo2 rfl rfl rfl rfl<|Ls (q0m (v := .bool _) rfl rfl)<|q0c<|tn<|q0t rfl<|q0b<|q0a<|a_B rfl<|q0c<|tn<|q0s<|tr ?_); exact q0f rfl rfl (v := .bool false) rfl ⟨rfl, Ea⟩
  · have hok : ¬ Qy.OkI ⟨kind, col, kk, fs⟩ := fun h => h17 ⟨h.1.1, h.1.2.1⟩; rw [formsM_no h17] at hq; obtain rfl : false = qq := hq; rw [decide_eq_false hok]; (refine a_B rfl<|q0c<|tn<|q0b<|q0b<|q0a<|m_B rfl<|Ls (q1x rfl)<|m_B rfl<|Lo2 rfl rfl rfl rfl<|Lo2 rfl rfl rfl rfl<|Lo2 rfl rfl rfl rfl<|Lo2 rfl rfl rfl rfl<|Lo2 rfl rfl rfl rfl<|Lo2 rfl rfl rfl rfl<|Ls (q0m (v := .bool _) rfl rfl)<|m_B rfl<|Lo2 rfl rfl rfl rfl<|Lo2 rfl rfl rfl rfl<|Lo2 rfl rfl rfl rfl<|Lo2 rfl rfl rfl rfl<|Lo2 rfl rfl rfl rfl<|Lo2 rfl rfl rfl rfl<|Ls (q0m (v := .bool _) rfl rfl)<|m_B rfl<|Lo2 rfl rfl rfl rfl<|Lo2 rfl rfl rfl rfl<|Lo2 rfl rfl rfl rfl<|Lo2 rfl rfl rfl rfl<|Lo2 rfl rfl rfl rfl<|Ls (q0m (v := .bool _) rfl rfl)<|q0c<|tn<|q0t rfl<|q0b<|q0a<|a_B rfl<|q0c<|tn<|q0s<|tr ?_); exact q0f rfl rfl (v := .bool false) rfl ⟨rfl, Ea⟩
end Go.Proofs.YtlggfbglpcegoaaGreatDoor
namespace Go.Proofs
open Go.Shelf
def Tryz.lays137_ren : Go.Shelf.Ren := ⟨fun | 137 => 170 | 217 => 270 | 266 => 339 | n => n, fun | 9 => 9 | 5 => 5 | 3 => 3 | n => n, fun | n => n⟩
theorem Tryz.lays137 : Go.Proofs.Lays.n137 Tryz.prog Tryz.lays137_ren := {
  mixed := by kernel_rfl
  f137 := Tryz.func170.trans (congrArg some (by kernel_rfl))
  f217 := Tryz.func270.trans (congrArg some (by kernel_rfl))
  f266 := Tryz.func339.trans (congrArg some (by kernel_rfl))
  t3 := Tryz.underlying3
  a3 := Tryz.isAgg3
  z3 := Tryz.sizeOf3
  v3 := Tryz.zeroValue3
  t5 := Tryz.underlying5
  a5 := Tryz.isAgg5
  z5 := Tryz.sizeOf5
  v5 := Tryz.zeroValue5
  t9 := Tryz.underlying9
  a9 := Tryz.isAgg9
  z9 := Tryz.sizeOf9
  v9 := Tryz.zeroValue9 }
open Go.RowKit in
theorem Tryz.strings_IndexByte (s : ByteArray) (c : Int) (w : World) :
    Calls Tryz.prog 170 #[.string s, .int .u8 c] w fun e w' => e = .returned (.int .i64 (Lib.indexByte s.data.toList c.toNat.toUInt8)) ∧ w' = w := Any.strings_IndexByte Tryz.lays137 s c w
def Tryz.laysC172_ren : Go.Shelf.Ren := ⟨fun | 172 => 268 | 244 => 337 | 245 => 338 | 247 => 398 | 279 => 399 | 280 => 400 | 281 => 401 | 282 => 402 | 287 => 433 | 316 => 434 | 171 => 135 | 205 => 435 | 321 => 447 | 322 => 448 | 243 => 218 | 246 => 295 | 283 => 365 | 284 => 366 | 285 => 367 | 286 => 368 | 129 => 301 | 317 => 410 | 318 => 411 | 319 => 412 | 320 => 413 | 337 => 436 | 338 => 437 | n => n, fun | 9 => 9 | 3 => 3 | 75 => 360 | 76 => 361 | 4 => 4 | 5 => 5 | 167 => 518 | 37 => 50 | 0 => 0 | 85 => 519 | 2 => 2 | 168 => 521 | 53 => 32 | 175 => 556 | 46 => 278 | 210 => 560 | 127 => 439 | 145 => 574 | 143 => 572 | 21 => 21 | 171 => 493 | 173 => 495 | 212 => 532 | 51 => 118 | 20 => 20 | 213 => 533 | 232 => 22 | 233 => 575 | 80 => 363 | n => n, fun | 15 => 7 | 16 => 8 | 17 => 6 | 18 => 9 | 19 => 10 | n => n⟩
theorem Tryz.laysC172 : Go.Proofs.LaysC.n172 Tryz.prog Tryz.laysC172_ren := {
  mixed := by kernel_rfl
  f129 := Tryz.func301.trans (congrArg some (by kernel_rfl))
  f171 := Tryz.func135.trans (congrArg some (by kernel_rfl))
  f172 := Tryz.func268.trans (congrArg some (by kernel_rfl))
  f205 := Tryz.func435.trans (congrArg some (by kernel_rfl))
  f243 := Tryz.func218.trans (congrArg some (by kernel_rfl))
  f244 := Tryz.func337.trans (congrArg some (by kernel_rfl))
  f245 := Tryz.func338.trans (congrArg some (by kernel_rfl))
  f246 := Tryz.func295.trans (congrArg some (by kernel_rfl))
  f247 := Tryz.func398.trans (congrArg some (by kernel_rfl))
  f279 := Tryz.func399.trans (congrArg some (by kernel_rfl))
  f280 := Tryz.func400.trans (congrArg some (by kernel_rfl))
  f281 := Tryz.func401.trans (congrArg some (by kernel_rfl))
  f282 := Tryz.func402.trans (congrArg some (by kernel_rfl))
  f283 := Tryz.func365.trans (congrArg some (by kernel_rfl))
  f284 := Tryz.func366.trans (congrArg some (by kernel_rfl))
  f285 := Tryz.func367.trans (congrArg some (by kernel_rfl))
  f286 := Tryz.func368.trans (congrArg some (by kernel_rfl))
  f287 := Tryz.func433.trans (congrArg some (by kernel_rfl))
  f316 := Tryz.func434.trans (congrArg some (by kernel_rfl))
  f317 := Tryz.func410.trans (congrArg some (by kernel_rfl))
  f318 := Tryz.func411.trans (congrArg some (by kernel_rfl))
  f319 := Tryz.func412.trans (congrArg some (by kernel_rfl))
  f320 := Tryz.func413.trans (congrArg some (by kernel_rfl))
  f321 := Tryz.func447.trans (congrArg some (by kernel_rfl))
  f322 := Tryz.func448.trans (congrArg some (by kernel_rfl))
  f337 := Tryz.func436.trans (congrArg some (by kernel_rfl))
  f338 := Tryz.func437.trans (congrArg some (by kernel_rfl))
  t0 := Tryz.underlying0
  a0 := Tryz.isAgg0
  z0 := Tryz.sizeOf0
  v0 := Tryz.zeroValue0
  t2 := Tryz.underlying2
  a2 := Tryz.isAgg2
  z2 := Tryz.sizeOf2
  v2 := Tryz.zeroValue2
  t3 := Tryz.underlying3
  a3 := Tryz.isAgg3
  z3 := Tryz.sizeOf3
  v3 := Tryz.zeroValue3
  t4 := Tryz.underlying4
  a4 := Tryz.isAgg4
  z4 := Tryz.sizeOf4
  v4 := Tryz.zeroValue4
  t5 := Tryz.underlying5
  a5 := Tryz.isAgg5
  z5 := Tryz.sizeOf5
  v5 := Tryz.zeroValue5
  t9 := Tryz.underlying9
  a9 := Tryz.isAgg9
  z9 := Tryz.sizeOf9
  v9 := Tryz.zeroValue9
  t20 := Tryz.underlying20
  a20 := Tryz.isAgg20
  z20 := Tryz.sizeOf20
  v20 := Tryz.zeroValue20
  t21 := Tryz.underlying21
  a21 := Tryz.isAgg21
  z21 := Tryz.sizeOf21
  v21 := Tryz.zeroValue21
  t37 := Tryz.underlying50
  a37 := Tryz.isAgg50
  z37 := Tryz.sizeOf50
  v37 := Tryz.zeroValue50
  t46 := Tryz.underlying278
  a46 := Tryz.isAgg278
  z46 := Tryz.sizeOf278
  v46 := Tryz.zeroValue278
  t51 := Tryz.underlying118
  a51 := Tryz.isAgg118
  z51 := Tryz.sizeOf118
  v51 := Tryz.zeroValue118
  t53 := Tryz.underlying32
  a53 := Tryz.isAgg32
  z53 := Tryz.sizeOf32
  v53 := Tryz.zeroValue32
  t75 := Tryz.underlying360
  a75 := Tryz.isAgg360
  z75 := Tryz.sizeOf360
  v75 := Tryz.zeroValue360
  t76 := Tryz.underlying361
  a76 := Tryz.isAgg361
  z76 := Tryz.sizeOf361
  v76 := Tryz.zeroValue361
  t85 := Tryz.underlying519
  a85 := Tryz.isAgg519
  z85 := Tryz.sizeOf519
  v85 := Tryz.zeroValue519
  t127 := Tryz.underlying439
  a127 := Tryz.isAgg439
  z127 := Tryz.sizeOf439
  v127 := Tryz.zeroValue439
  t143 := Tryz.underlying572
  a143 := Tryz.isAgg572
  z143 := Tryz.sizeOf572
  v143 := Tryz.zeroValue572
  t145 := Tryz.underlying574
  a145 := Tryz.isAgg574
  z145 := Tryz.sizeOf574
  v145 := Tryz.zeroValue574
  t167 := Tryz.underlying518
  a167 := Tryz.isAgg518
  z167 := Tryz.sizeOf518
  v167 := Tryz.zeroValue518
  t168 := Tryz.underlying521
  a168 := Tryz.isAgg521
  z168 := Tryz.sizeOf521
  v168 := Tryz.zeroValue521
  t171 := Tryz.underlying493
  a171 := Tryz.isAgg493
  z171 := Tryz.sizeOf493
  v171 := Tryz.zeroValue493
  t173 := Tryz.underlying495
  a173 := Tryz.isAgg495
  z173 := Tryz.sizeOf495
  v173 := Tryz.zeroValue495
  t175 := Tryz.underlying556
  a175 := Tryz.isAgg556
  z175 := Tryz.sizeOf556
  v175 := Tryz.zeroValue556
  t210 := Tryz.underlying560
  a210 := Tryz.isAgg560
  z210 := Tryz.sizeOf560
  v210 := Tryz.zeroValue560
  t212 := Tryz.underlying532
  a212 := Tryz.isAgg532
  z212 := Tryz.sizeOf532
  v212 := Tryz.zeroValue532
  t213 := Tryz.underlying533
  a213 := Tryz.isAgg533
  z213 := Tryz.sizeOf533
  t232 := Tryz.underlying22
  a232 := Tryz.isAgg22
  z232 := Tryz.sizeOf22
  v232 := Tryz.zeroValue22
  t233 := Tryz.underlying575
  a233 := Tryz.isAgg575
  z233 := Tryz.sizeOf575
  v233 := Tryz.zeroValue575
  g15 := by kernel_rfl
  g16 := by kernel_rfl
  g17 := by kernel_rfl
  g18 := by kernel_rfl
  g19 := by kernel_rfl
  t80 := Tryz.underlying363
  a80 := Tryz.isAgg363
  z80 := Tryz.sizeOf363
  v80 := Tryz.zeroValue363
  i0 := by kernel_rfl
  i2 := by kernel_rfl
  i3 := by kernel_rfl
  i4 := by kernel_rfl
  i5 := by kernel_rfl
  i9 := by kernel_rfl
  i20 := by kernel_rfl
  i21 := by kernel_rfl
  i37 := by kernel_rfl
  i46 := by kernel_rfl
  i51 := by kernel_rfl
  i53 := by kernel_rfl
  i75 := by kernel_rfl
  i76 := by kernel_rfl
  i80 := by kernel_rfl
  i85 := by kernel_rfl
  i127 := by kernel_rfl
  i143 := by kernel_rfl
  i145 := by kernel_rfl
  i167 := by kernel_rfl
  i168 := by kernel_rfl
  i171 := by kernel_rfl
  i173 := by kernel_rfl
  i175 := by kernel_rfl
  i210 := by kernel_rfl
  i212 := by kernel_rfl
  i232 := by kernel_rfl
  i233 := by kernel_rfl
  m15 := by kernel_rfl
  m16 := by kernel_rfl
  m17 := by kernel_rfl
  m18 := by kernel_rfl
  m19 := by kernel_rfl
  c0 := by kernel_rfl
  c2 := by kernel_rfl
  c3 := by kernel_rfl
  c4 := by kernel_rfl
  c5 := by kernel_rfl
  c9 := by kernel_rfl
  c20 := by kernel_rfl
  c21 := by kernel_rfl
  c37 := by kernel_rfl
  c46 := by kernel_rfl
  c51 := by kernel_rfl
  c53 := by kernel_rfl
  c75 := by kernel_rfl
  c76 := by kernel_rfl
  c80 := by kernel_rfl
  c85 := by kernel_rfl
  c127 := by kernel_rfl
  c143 := by kernel_rfl
  c145 := by kernel_rfl
  c167 := by kernel_rfl
  c168 := by kernel_rfl
  c171 := by kernel_rfl
  c173 := by kernel_rfl
  c175 := by kernel_rfl
  c210 := by kernel_rfl
  c212 := by kernel_rfl
  c213 := by kernel_rfl
  c232 := by kernel_rfl
  c233 := by kernel_rfl }
open Go.RowKit in
theorem Tryz.strconv_Atoi_ok (s : ByteArray) (hmax : s.size ≤ 9223372036854775806) (v : Int) (h : Lib.atoiAll s.data.toList = .ok v) (w : World) :
    Calls Tryz.prog 268 #[.string s] w fun e w' => e = .returned (.tuple #[.int .i64 v, .nilIface]) ∧ (w' = w ∨ ∃ t, w' = Lib.bytesWorld w 5 t) := Any.strconv_Atoi_ok Tryz.laysC172 s hmax v h w
open Go.RowKit in
theorem Tryz.strconv_Atoi_range (s : ByteArray) (hlim : s.size ≤ 281474976710656) (h : Lib.atoiAll s.data.toList = .range) (ev : Value) (w : World) (hv : w.cell? ⟨8, 0, none⟩ = some ev) (hev : ev = .nilIface ∨ ∃ te pe, ev = .iface te pe) :
    Calls Tryz.prog 268 #[.string s] w fun e w' => ∃ N, e = .returned (.tuple #[.int .i64 (Lib.atoiSat s.data.toList), .iface 521 (.pointer (some ⟨N, 0, none⟩))]) ∧ w.heap.size ≤ N ∧ w'.heap[N]? = some (.cells #[.string ⟨#[65, 116, 111, 105]⟩, .string s, ev] 560 (0, 0)) ∧ Below w.heap.size w w' := Any.strconv_Atoi_range Tryz.laysC172 s hlim h ev w hv hev
def Tryz.lays99_ren : Go.Shelf.Ren := ⟨fun | 99 => 172 | 206 => 271 | n => n, fun | 9 => 9 | 4 => 4 | 3 => 3 | n => n, fun | n => n⟩
theorem Tryz.lays99 : Go.Proofs.Lays.n99 Tryz.prog Tryz.lays99_ren := {
  mixed := by kernel_rfl
  f99 := Tryz.func172.trans (congrArg some (by kernel_rfl))
  f206 := Tryz.func271.trans (congrArg some (by kernel_rfl))
  t3 := Tryz.underlying3
  a3 := Tryz.isAgg3
  z3 := Tryz.sizeOf3
  v3 := Tryz.zeroValue3
  t4 := Tryz.underlying4
  a4 := Tryz.isAgg4
  z4 := Tryz.sizeOf4
  v4 := Tryz.zeroValue4
  t9 := Tryz.underlying9
  a9 := Tryz.isAgg9
  z9 := Tryz.sizeOf9
  v9 := Tryz.zeroValue9 }
open Go.RowKit Go.Lib in
theorem Tryz.strings_HasPrefix (s p : ByteArray) (w : World) :
    Calls Tryz.prog 172 #[.string s, .string p] w fun e w' => e = .returned (.bool (Lib.hasPrefix s.data.toList p.data.toList)) ∧ w' = w := Any.strings_HasPrefix Tryz.lays99 s p w
end Go.Proofs
namespace Go.Proofs.K
open Go.RowKit Go.ChangeShapes Go.WideShapes
variable {H : Type} {enc : TypeId × Value → H} {P : Program}
theorem q7h (hl : laidOutB P = true) {W W' : World} {sp : Nat → Bool} : ∀ {ts : List TypeId} {vs : List Value} {ds : List (DataW H)} {ps : List MemPlace}, (ts.all fun t => P.readableRec t && decide (t < P.types.size)) = true →
    DataW.TrodAll enc P W 0 (fun _ => true) true ts vs ds ps → (∀ p ∈ ps, W.sameAt W' p) → (∀ p ∈ ps, sp p.block = true) → DataW.TrodAll enc P W' 0 sp true ts vs ds ps
  | [], vs, ds, ps, _, h, _, _ => by
    obtain ⟨rfl, rfl, rfl⟩ := trodAll_nil h; exact rfl
  | t :: ts, vs, ds, ps, ht, h, hs, hp => by
    obtain ⟨v, vs', d, ds', p, q, rfl, rfl, rfl, h1, h2⟩ := trodAll_cons h; simp only [List.all_cons, Bool.and_eq_true, decide_eq_true_eq] at ht; exact ⟨p, q, Go.WideElems.Trod_stays hl ht.1.1 ht.1.2 h1 (fun x hx => hs x (List.mem_append.2 (.inl hx))) (fun x hx => hp x (List.mem_append.2 (.inl hx))),
      q7h hl ht.2 h2 (fun x hx => hs x (List.mem_append.2 (.inr hx))) (fun x hx => hp x (List.mem_append.2 (.inr hx))), rfl⟩
theorem post_law {f : Func} {s : ChangeSpec} {apart fresh handsOn again : Bool} {W W' : World} {args : Array Value} {ds gs : List (DataW H)} {before pa : List MemPlace} {tb : TypeId}
    (hl : laidOutB P = true) (ht : (f.params.toList.all fun t => P.readableRec t && decide (t < P.types.size)) = true)
    (hW : DataW.Whole enc P f.params.toList s.vars apart W args.toList ds gs before) (hA : DataW.TrodAll enc P W 0 (fun _ => true) true f.params.toList args.toList ds pa) (hv : s.vars = []) (hb : before = pa)
    (hr : f.resultTypes = #[tb]) (htb : P.underlying tb = some .bool) (hres : (s.fn H (ds ++ gs)).results = [.lit (.bool true)]) (hargs : (s.fn H (ds ++ gs)).args = ds) (hvars : (s.fn H (ds ++ gs)).vars = []) (E : Ext W W') :
    s.post enc P f apart fresh handsOn again W args (.bool true) W' := by
  have hlt := hW.lt; have B := E.below; have hold : ∀ p ∈ before, (fun b => decide (b < W.heap.size)) p.block = true := fun p hp => by simpa using hlt p hp
  have rs : ∀ (b : Nat) (sp : Nat → Bool) (hd : Bool), DataW.TrodAll enc P W' b sp hd f.resultTypes.toList ((Value.bool true).resultList f.resultTypes.size) (s.fn H (ds ++ gs)).results [] := by
    intro b sp hd; rw [hr, hres]; exact trodAll_mk1 (shut_bool htb _)
  have as_ : ∀ sp : Nat → Bool, (∀ p ∈ before, sp p.block = true) → DataW.TrodAll enc P W' 0 sp true f.params.toList args.toList (s.fn H (ds ++ gs)).args pa := by
    intro sp hp; rw [hargs]; exact q7h hl ht hA (fun p hp => B.same (hlt p (by rw [hb]; exact hp))) (fun p h => hp p (by rw [hb]; exact h))
  have vs : ∀ sp : Nat → Bool, DataW.TrodVars enc P W' sp s.vars (s.fn H (ds ++ gs)).vars [] := by
    intro sp; rw [hv, hvars]; exact rfl
  refine ⟨ds, gs, before, [], pa, [], hW, rs _ _ _, as_ _ hold, vs _, World.keptBut_mono (fun p hp => ⟨hp, ?_⟩) (B.frame (· ∈ before)), fun _ => ?_⟩
  · rw [hb] at hp; exact Or.inr (Or.inl hp)
  · obtain ⟨_, _, _, _, _, hz, hn⟩ := id hW; refine ⟨ok_one hr rfl (okWide_bool_mk htb _), _, _, ([] ++ pa) ++ [], ⟨[] ++ pa, [], trodAll_append (as_ _ (fun _ _ => rfl)) (rs _ _ _), vs _, rfl, ?_, ?_⟩, ?_⟩
    · intro b off hp; have hp' : MemPlace.cell b off ∈ before := (by rw [hb]; simpa using hp); rw [B.frozen (hlt _ hp')]; exact hz b off hp'
    · intro ha; have := hn ha; rw [hb] at this; simpa using this
    · intro p hp _; rw [hb]; simpa using hp
section
variable {w : World} {base : Nat} {sp : Nat → Bool} {held : Bool}
theorem addr_mid {a : Addr} {v : Value} (h : w.cell? (a.add 0) = some v) : a = ⟨a.block, a.off, none⟩ := by
  have h' : w.cell? a = some v := by simpa [Addr.add] using h
  obtain ⟨b, o, q⟩ := a; cases q with
  | none => rfl
  | some q => simp [World.cell?] at h'; split at h' <;> cases h'
theorem row_of_cells {a : Addr} {len cap size : Nat} {xs : List Value} (hl : xs.length = len * size) (hs : 0 < size) (hc : len ≤ cap) (hm : cap ≤ maxLen) (h : ∀ j u, xs[j]? = some u → w.cell? (a.add j) = some u) :
    Row w 0 w.heap.size size (.slice (some a) len cap) len xs := by
  refine ⟨hl, _, _, rfl, hc, hm, fun h0 => ?_⟩; have hx : 0 < xs.length := by rw [hl]; exact Nat.mul_pos h0 hs
  have e0 := h 0 _ (List.getElem?_eq_getElem hx); have ha := addr_mid e0; refine ⟨a.block, a.off, by rw [← ha], Nat.zero_le _, ?_, fun j u hu => ?_⟩
  · rw [ha] at e0; exact World.block_lt_of_cell? w ⟨a.block, a.off, none⟩ (by simpa [Addr.add] using e0)
  · have := h j u hu; rw [ha, Addr.add_mid] at this; exact this
theorem tab_rng {W : World} {name : String} {zs : List Int} {l : List Nat} {k : IntKind} {g : Nat} (h : Go.Lib.TabIs P W name k zs) (hg : P.globalNamed name = some g) (hz : zs = l.map fun n : Nat => (n : Int)) : Rng W g (ints k l) := by
  subst hz; intro j v hv; have hj : j < l.length := by have := (List.getElem?_eq_some_iff.1 hv).1; rwa [q0v] at this
  have := h.cell hg j (by simpa using hj); rw [Nat.zero_add, this]; rw [q6p hj] at hv; rw [← hv]; simp [List.getD, hj]
end
end Go.Proofs.K
namespace Go.Proofs.YtlggfbglpcegoaaGreatDoor
open Go.RowKit Go.Proofs.K Go.Sort
structure Tabs (w : World) : Prop where
  p : Go.Lib.TabIs Tryz.prog w "internal/strconv.uint64pow10" .u64 Go.Lib.pow10Tab
  e : ∃ te pe, w.cell? ⟨8, 0, none⟩ = some (.iface te pe)
theorem Tabs.ext {w w' : World} (h : Tabs w) (E : Ext w w') : Tabs w' := by
  obtain ⟨te, pe, he⟩ := h.e; refine ⟨?_, te, pe, E.cell he⟩; have hg : Tryz.prog.globalNamed "internal/strconv.uint64pow10" = some 6 := by kernel_rfl
  exact Go.Joins.var_stays hg h.p E.below (Nat.le_refl _)
theorem ext_bytes (w : World) (e : TypeId) (s : ByteArray) : Ext w (Go.Lib.bytesWorld w e s) :=
  ⟨rfl, rfl, rfl, by rw [Go.Lib.bytesWorld_size]; omega, fun i hi _ => Go.Lib.bytesWorld_at_old w e s i hi⟩
def wsS : ByteArray := ⟨#[32, 9, 13, 10]⟩
theorem gws (c : Nat) (hc : c < 256) (w : World) : Calls Tryz.prog 170 #[.string wsS, .int .u8 (c : Nat)] w fun e w' => ∃ n : Int, e = .returned (.int .i64 n) ∧ Ext w w' ∧ decide (0 ≤ n) = Qy.isWs c := by
  refine (Tryz.strings_IndexByte wsS c w).mono fun e w' ⟨he, hw⟩ => ⟨_, he, hw ▸ Ext.refl _, ?_⟩; have h : ∀ c : Fin 256, decide (0 ≤ Go.Lib.indexByte wsS.data.toList ((c.1 : Int)).toNat.toUInt8) = Qy.isWs c.1 := by decide +kernel
  exact h ⟨c, hc⟩
def dotsS : ByteArray := ⟨#[46, 46]⟩
theorem gdots (s : ByteArray) (w : World) : Calls Tryz.prog 172 #[.string s, .string dotsS] w fun e w' => e = .returned (.bool ((sb s).head? == some 46 && (sb s).tail.head? == some 46)) ∧ Ext w w' := by
  refine (Tryz.strings_HasPrefix s dotsS w).mono fun e w' ⟨he, hw⟩ => ⟨?_, hw ▸ Ext.refl _⟩; rw [he]; congr 2; unfold Go.Lib.hasPrefix sb; have e46 : ∀ c : UInt8, ((46 : UInt8) == c) = (c.toNat == 46) := by
    intro c; rw [Bool.eq_iff_iff, beq_iff_eq, beq_iff_eq]; constructor
    · intro h; rw [← h]; rfl
    · intro h; exact (UInt8.toNat_inj.1 (by rw [h]; rfl)).symm
  match s.data.toList with
  | [] => rfl
  | [a] =>
    show ((46 : UInt8) == a && false) = _; simp
  | a :: b :: l =>
    show ((46 : UInt8) == a && ((46 : UInt8) == b && true)) = _; rw [e46, e46]; simp
theorem strB_toList (l : List Nat) : (strB l).data.toList = l.map UInt8.ofNat := by simp [strB]
theorem fold_ge (l : List Nat) : ∀ a : Nat, a ≤ l.foldl (fun n c => n * 10 + (c - 48)) a := by
  induction l with
  | nil => intro a; exact Nat.le_refl _
  | cons c l ih => intro a; exact Nat.le_trans (show a ≤ a * 10 + (c - 48) by omega) (ih _)
theorem parse10 : ∀ (l : List Nat) (a : Nat), a < 18446744073709551616 → (∀ c ∈ l, Qy.isDi c = true) → Go.Lib.parseUint10 a (l.map UInt8.ofNat) = if l.foldl (fun n c => n * 10 + (c - 48)) a < 18446744073709551616 then .ok (l.foldl (fun n c => n * 10 + (c - 48)) a) else .range
  | [], a, ha, _ => by simp [Go.Lib.parseUint10, ha]
  | c :: l, a, ha, h => by
    have hc := (Qy.isDi_iff c).1 (h c (by simp)); have hcn : (UInt8.ofNat c).toNat = c := (by simp; omega); have hge := fold_ge l (a * 10 + (c - 48)); show Go.Lib.parseUint10 a (UInt8.ofNat c :: l.map UInt8.ofNat) = _; unfold Go.Lib.parseUint10; rw [hcn, if_pos hc, List.foldl_cons]; by_cases h1 : 1844674407370955162 ≤ a
    · rw [if_pos h1, if_neg (by omega)]
    · rw [if_neg h1]; by_cases h2 : 18446744073709551616 ≤ a * 10 + (c - 48)
      · rw [if_pos h2, if_neg (by omega)]
      · rw [if_neg h2]; exact parse10 l _ (by omega) fun d hd => h d (List.mem_cons_of_mem _ hd)
theorem atoi_val {l : List Nat} (hne : l ≠ []) (h : ∀ c ∈ l, Qy.isDi c = true) : Go.Lib.atoiAll (l.map UInt8.ofNat) = if Qy.val l < 9223372036854775808 then .ok (Qy.val l : Int) else .range := by
  cases l with
  | nil => exact (hne rfl).elim
  | cons c l =>
    have hc := (Qy.isDi_iff c).1 (h c (by simp)); have hcn : (UInt8.ofNat c).toNat = c := (by simp; omega); have hp := parse10 (c :: l) 0 (by omega) h; show Go.Lib.atoiAll (UInt8.ofNat c :: l.map UInt8.ofNat) = _; unfold Go.Lib.atoiAll; dsimp only; rw [hcn, if_neg (by omega)]; unfold Go.Lib.parseMag; rw [if_neg (by simp)]; rw [show UInt8.ofNat c :: l.map UInt8.ofNat = (c :: l).map UInt8.ofNat from rfl, hp]; unfold Qy.val; by_cases h1 : (c :: l).foldl (fun n c => n * 10 + (c - 48)) 0 < 18446744073709551616
    · rw [if_pos h1]; dsimp only; by_cases h2 : (c :: l).foldl (fun n c => n * 10 + (c - 48)) 0 < 9223372036854775808
      · rw [if_pos h2, if_neg (by omega), if_neg (by omega), if_neg (by omega)]
      · rw [if_neg h2, if_pos ⟨by omega, by omega⟩]
    · rw [if_neg h1, if_neg (by omega)]
theorem gatoi (u : List Nat) (hne : u ≠ []) (hd : ∀ c ∈ u, Qy.isDi c = true) (hl : u.length ≤ 100000) (w : World) (hw : Tabs w) :
    Calls Tryz.prog 268 #[.string (strB u)] w fun e w' => ∃ (n : Int) (ev : Value), e = .returned (.tuple #[.int .i64 n, ev]) ∧ Ext w w' ∧ (ev = .nilIface ∧ n = (Qy.val u : Nat) ∨ (∃ t p, ev = .iface t p) ∧ 9223372036854775808 ≤ Qy.val u) := by
  have ha := atoi_val hne hd; rw [← strB_toList] at ha; by_cases h : Qy.val u < 9223372036854775808
  · rw [if_pos h] at ha; refine (Tryz.strconv_Atoi_ok (strB u) (by rw [q4t]; omega) _ ha w).mono fun e w' ⟨he, hw'⟩ => ⟨_, _, he, ?_, .inl ⟨rfl, rfl⟩⟩; rcases hw' with rfl | ⟨t, rfl⟩
    · exact Ext.refl _
    · exact ext_bytes _ _ _
  · rw [if_neg h] at ha; obtain ⟨te, pe, he0⟩ := hw.e; refine (Tryz.strconv_Atoi_range (strB u) (by rw [q4t]; omega) ha _ w he0 (.inr ⟨te, pe, rfl⟩)).mono fun e w' ⟨N, he, _, _, hb⟩ => ⟨_, _, he, Ext.of_below hb, .inr ⟨⟨_, _, rfl⟩, by omega⟩⟩
end Go.Proofs.YtlggfbglpcegoaaGreatDoor
namespace Go.Proofs.YtlggfbglpcegoaaGreatDoor
open Go.RowKit Go.Proofs.K
section
variable {P : Program} {n : NN} {f : Fr} {w : World} {d : Option Tmp} {t ty ty' : TypeId} {pos : String} {af : Array Edge} {g : Option (Nat × Bool)} {x y : Operand}
theorem q2u [hs : TStr P ty] {s : ByteArray} {k : IntKind} {i : Nat} (hx : ev n f x = .string s) (hy : ev n f y = .int k (i : Int)) (h : i < s.size) :
    X P n ⟨d, .index ty x y, t, pos, af, g⟩ f w = .ok (.value (.int .u8 (((sb s).getD i 0 : Nat) : Int))) w := by
  rw [X_indexStr hx hy h, sb_get s h]
theorem sb_extract (s : ByteArray) (i j : Nat) : sb (s.extract i j) = ((sb s).drop i).take (j - i) := by
  unfold sb; rw [ByteArray.data_extract, Array.toList_extract, List.extract_eq_take_drop, List.map_take, List.map_drop]
theorem X_slcS [hs : TStr P ty] {s : ByteArray} {lo : Option Operand} {hi : Option Operand} (i j : Nat) (hx : ev n f x = .string s) (hlo : match lo with | none => i = 0 | some o => ∃ k, ev n f o = .int k (i : Int))
    (hhi : match hi with | none => j = s.size | some o => ∃ k, ev n f o = .int k (j : Int)) (hij : i ≤ j) (hj : j ≤ s.size) {l : List Nat} (hl : ((sb s).drop i).take (j - i) = l) :
    X P n ⟨d, .slice ty x lo hi none, t, pos, af, g⟩ f w = .ok (.value (.string (strB l))) w := by
  rw [z0u hx hlo hhi hij hj]; congr 3; rw [← hl, ← sb_extract, strB_sb]
theorem X_slcA [hs : TStr P ty] {s : ByteArray} {a : Operand} {k : IntKind} (i : Nat) (hx : ev n f x = .string s) (ha : ev n f a = .int k (i : Int)) (hij : i ≤ s.size) {l : List Nat} (hl : (sb s).drop i = l) :
    X P n ⟨d, .slice ty x (some a) none none, t, pos, af, g⟩ f w = .ok (.value (.string (strB l))) w :=
  X_slcS (lo := some a) (hi := none) i s.size hx ⟨k, ha⟩ rfl hij (Nat.le_refl _) (by rw [List.take_of_length_le (by rw [List.length_drop, q3h]; omega), hl])
theorem X_slcAB [hs : TStr P ty] {s : ByteArray} {a b : Operand} {k k' : IntKind} (i j : Nat) (hx : ev n f x = .string s) (ha : ev n f a = .int k (i : Int)) (hb : ev n f b = .int k' (j : Int)) (hij : i ≤ j) (hj : j ≤ s.size) {l : List Nat} (hl : ((sb s).drop i).take (j - i) = l) :
    X P n ⟨d, .slice ty x (some a) (some b) none, t, pos, af, g⟩ f w = .ok (.value (.string (strB l))) w := X_slcS (lo := some a) (hi := some b) i j hx ⟨k, ha⟩ ⟨k', hb⟩ hij hj hl
theorem q6m {a b : ByteArray} {q : Bool} (hx : ev n f x = .string a) (hy : ev n f y = .string b) (h : decide (a = b) = q) : X P n ⟨d, .binOp .eql ty x y ty', t, pos, af, g⟩ f w = .ok (.value (.bool q)) w := by
  subst h; have e : (binOp .eql ty (.string a) (.string b)).run P w = .ok (.bool (decide (a = b))) w := by
    have h : (a.toList == b.toList) = decide (a = b) := by
      rw [Bool.eq_iff_iff, beq_iff_eq, decide_eq_true_iff]; simp [ByteArray.toList_eq, ByteArray.ext_iff]
    simp [binOp, Op.stringOp, h]
  simp [X, execOp, hx, hy, eqGuard_at_string, e, Result.andThen]
end
def pC (s : ByteArray) (pos off err : Nat) : List Value := [.string s, .int .i64 (pos : Nat), .int .i64 (off : Nat), .int .i64 (err : Nat)]
def tkC (k : Nat) (u : List Nat) : List Value := [.int .i64 (k : Nat), .string (strB u)]
theorem q5d {k : Nat} {u : List Nat} : ∀ v ∈ tkC k u, v.oneCell' = true := by
  intro v hv; simp only [tkC, List.mem_cons, List.not_mem_nil, or_false] at hv; rcases hv with rfl | rfl <;> rfl
theorem tw_in (p : Nat → Bool) : ∀ (l : List Nat) (j : Nat), j < (l.takeWhile p).length → p (l.getD j 0) = true
  | [], j, h => by simp at h
  | c :: l, j, h => by
    cases hc : p c
    · simp [hc] at h
    · cases j with
      | zero => simpa using hc
      | succ j => simp [hc] at h; simpa using tw_in p l j h
theorem tw_out (p : Nat → Bool) : ∀ (l : List Nat), (l.takeWhile p).length < l.length → p (l.getD (l.takeWhile p).length 0) = false
  | [], h => by simp at h
  | c :: l, h => by
    cases hc : p c
    · simp [hc]
    · have : (l.takeWhile p).length < l.length := (by simpa [List.takeWhile_cons, hc] using h); simpa [List.takeWhile_cons, hc] using tw_out p l this
theorem take_tw (p : Nat → Bool) : ∀ (l : List Nat), l.take (l.takeWhile p).length = l.takeWhile p
  | [] => rfl
  | c :: l => by
    cases hc : p c
    · simp [hc]
    · simp [hc, take_tw p l]
theorem q7l (l : List Nat) (i j : Nat) : (l.drop i).getD j 0 = l.getD (i + j) 0 := by simp [List.getD, List.getElem?_drop]
def btw (lo hi c : Nat) : Bool := Nat.ble lo c && Nat.ble c hi
theorem btw_iff {lo hi c : Nat} : btw lo hi c = true ↔ lo ≤ c ∧ c ≤ hi := by simp [btw]
set_option maxRecDepth 100000 in
set_option maxHeartbeats 4000000 in
theorem gspan (g : Nat) (s : ByteArray) (pos off err lo hi : Nat) (hp : pos ≤ s.size) (hs : s.size ≤ 1000000) (w : World) (hB : Blk w g 205 (pC s pos off err)) :
    Calls Tryz.prog 171 #[.pointer (some ⟨g, 0, none⟩), .int .u8 (lo : Nat), .int .u8 (hi : Nat)] w fun e w' => e = .returned (.int .i64 ((pos + (((sb s).drop pos).takeWhile (btw lo hi)).length : Nat) : Int)) ∧ Ext w w' := by
  refine q0k Tryz.func171 rfl Tryz.ntmps171 rfl ?_; obtain ⟨K, hK⟩ : ∃ K, K = (((sb s).drop pos).takeWhile (btw lo hi)).length := ⟨_, rfl⟩; have hin : ∀ j, j < K → lo ≤ (sb s).getD (pos + j) 0 ∧ (sb s).getD (pos + j) 0 ≤ hi := fun j hj => by
    rw [hK] at hj; have := tw_in _ _ _ hj; rw [q7l] at this; exact btw_iff.1 this
  have hdl : ((sb s).drop pos).length = s.size - pos := by rw [List.length_drop, q3h]
  have hKl : K ≤ s.size - pos := by rw [hK, ← hdl]; exact Qy.tw_len _ _
  have hout : pos + K < s.size → ¬ (lo ≤ (sb s).getD (pos + K) 0 ∧ (sb s).getD (pos + K) 0 ≤ hi) := fun h => by
    have := tw_out (btw lo hi) ((sb s).drop pos) (by rw [hdl, ← hK]; omega); rw [← hK, q7l] at this; intro h2; rw [btw_iff.2 h2] at this; cases this
  rw [← hK]; clear hK; (refine q0b<|q0a<|a_I rfl<|q0c<|tn<|q0b<|q0a<|m_P rfl<|Ls (q1t rfl)<|Ls (q0g rfl)<|Ls (X_ld rfl hB rfl)<|a_I rfl<|q0c<|tn<|q0b<|q0j ?_); refine q1k (fun q f w' => ∃ j, q = K - j ∧ j ≤ K ∧ Ext w w' ∧ f 0 = .pointer (some ⟨g, 0, none⟩) ∧ f 1 = .int .u8 (lo : Nat) ∧ f 2 = .int .u8 (hi : Nat) ∧ f 7 = .int .i64 ((pos + j : Nat) : Int)) K ?_ ?_
  · exact ⟨0, rfl, by omega, Ext.refl w, rfl, rfl, rfl, rfl⟩
  · rintro q f w1 ⟨j, rfl, hj, E1, f0, f1, f2, f7⟩; rw [fold f0, fold f1, fold f2, fold f7]; have B := hB.ext E1; by_cases hjK : j < K
    · have hb := hin j hjK; (refine q0b<|q0b<|q0a<|m_I rfl<|m_P rfl<|Ls (q1t rfl)<|Ls (q0g rfl)<|Ls (X_ld rfl B rfl)<|Ls (q3n rfl)<|Ls (q3j rfl rfl (by omega))<|m_B rfl<|Lg2 rfl rfl rfl (q0e (v := .pointer _) rfl)<|Lg2 rfl rfl rfl (q1t rfl)<|Lg2 rfl rfl rfl (q0g rfl)<|Lg2 rfl rfl rfl (X_ld rfl B rfl)<|Lg2 rfl rfl rfl (q0e (v := .int _ _) rfl)<|Lg2 rfl rfl rfl (q2u (i := pos + j) rfl rfl (by omega))<|Lg2 rfl rfl rfl (q0e (v := .int _ _) rfl)<|Lg2 rfl rfl rfl (q5z rfl rfl (by omega))<|Ls (q0m (v := .bool _) rfl rfl)<|m_B rfl<|Lg2 rfl rfl rfl (q0e (v := .pointer _) rfl)<|Lg2 rfl rfl rfl (q1t rfl)<|Lg2 rfl rfl rfl (q0g rfl)<|Lg2 rfl rfl rfl (X_ld rfl B rfl)<|Lg2 rfl rfl rfl (q0e (v := .int _ _) rfl)<|Lg2 rfl rfl rfl (q2u (i := pos + j) rfl rfl (by omega))<|Lg2 rfl rfl rfl (q0e (v := .int _ _) rfl)<|Lg2 rfl rfl rfl (X_leqT rfl rfl (by omega))<|Ls (q0m (v := .bool _) rfl rfl)<|q0c<|tn<|q0t rfl<|q0n<|tn<|q0j<|q0a<|m_I rfl<|Ls (q1j rfl rfl (by omega))<|a_I rfl<|q0c<|bn<|tn ?_); exact ⟨K - (j + 1), by omega, j + 1, rfl, by omega, E1, rfl, rfl, rfl, by rw [show ((pos + (j + 1) : Nat) : Int) = ((pos + j : Nat) : Int) + 1 by omega]; rfl⟩
    · obtain rfl : j = K := (by omega); by_cases hend : pos + j < s.size
      · have hb := hout hend; by_cases hb1 : lo ≤ (sb s).getD (pos + j) 0
        · (refine q0b<|q0b<|q0a<|m_I rfl<|m_P rfl<|Ls (q1t rfl)<|Ls (q0g rfl)<|Ls (X_ld rfl B rfl)<|Ls (q3n rfl)<|Ls (q3j rfl rfl (by omega))<|m_B rfl<|Lg2 rfl rfl rfl (q0e (v := .pointer _) rfl)<|Lg2 rfl rfl rfl (q1t rfl)<|Lg2 rfl rfl rfl (q0g rfl)<|Lg2 rfl rfl rfl (X_ld rfl B rfl)<|Lg2 rfl rfl rfl (q0e (v := .int _ _) rfl)<|Lg2 rfl rfl rfl (q2u (i := pos + j) rfl rfl (by omega))<|Lg2 rfl rfl rfl (q0e (v := .int _ _) rfl)<|Lg2 rfl rfl rfl (q5z rfl rfl (by omega))<|Ls (q0m (v := .bool _) rfl rfl)<|m_B rfl<|Lg2 rfl rfl rfl (q0e (v := .pointer _) rfl)<|Lg2 rfl rfl rfl (q1t rfl)<|Lg2 rfl rfl rfl (q0g rfl)<|Lg2 rfl rfl rfl (X_ld rfl B rfl)<|Lg2 rfl rfl rfl (q0e (v := .int _ _) rfl)<|Lg2 rfl rfl rfl (q2u (i := pos + j) rfl rfl (by omega))<|Lg2 rfl rfl rfl (q0e (v := .int _ _) rfl)<|Lg2 rfl rfl rfl (q9x rfl rfl (by omega))<|Ls (q0m (v := .bool _) rfl rfl)<|q0c<|tn<|q0o rfl<|q1g<|te<|te<|bx<|tn<|q0b<|q0a<|m_I rfl<|a_I rfl<|q0c<|tn<|q0s ?_); exact q0f rfl rfl (v := .int _ _) rfl ⟨rfl, E1⟩
        · (refine q0b<|q0b<|q0a<|m_I rfl<|m_P rfl<|Ls (q1t rfl)<|Ls (q0g rfl)<|Ls (X_ld rfl B rfl)<|Ls (q3n rfl)<|Ls (q3j rfl rfl (by omega))<|m_B rfl<|Lg2 rfl rfl rfl (q0e (v := .pointer _) rfl)<|Lg2 rfl rfl rfl (q1t rfl)<|Lg2 rfl rfl rfl (q0g rfl)<|Lg2 rfl rfl rfl (X_ld rfl B rfl)<|Lg2 rfl rfl rfl (q0e (v := .int _ _) rfl)<|Lg2 rfl rfl rfl (q2u (i := pos + j) rfl rfl (by omega))<|Lg2 rfl rfl rfl (q0e (v := .int _ _) rfl)<|Lg2 rfl rfl rfl (q6a rfl rfl (by omega))<|Ls (q0m (v := .bool _) rfl rfl)<|m_B rfl<|Lo2 rfl rfl rfl rfl<|Lo2 rfl rfl rfl rfl<|Lo2 rfl rfl rfl rfl<|Lo2 rfl rfl rfl rfl<|Lo2 rfl rfl rfl rfl<|Lo2 rfl rfl rfl rfl<|Lo2 rfl rfl rfl rfl<|Lo2 rfl rfl rfl rfl<|Ls (q0r (v := .bool _) rfl rfl)<|q0c<|tn<|q0o rfl<|q1g<|te<|te<|bx<|tn<|q0b<|q0a<|m_I rfl<|a_I rfl<|q0c<|tn<|q0s ?_); exact q0f rfl rfl (v := .int _ _) rfl ⟨rfl, E1⟩
      · (refine q0b<|q0b<|q0a<|m_I rfl<|m_P rfl<|Ls (q1t rfl)<|Ls (q0g rfl)<|Ls (X_ld rfl B rfl)<|Ls (q3n rfl)<|Ls (q3f rfl rfl (by omega))<|m_B rfl<|Lo2 rfl rfl rfl rfl<|Lo2 rfl rfl rfl rfl<|Lo2 rfl rfl rfl rfl<|Lo2 rfl rfl rfl rfl<|Lo2 rfl rfl rfl rfl<|Lo2 rfl rfl rfl rfl<|Lo2 rfl rfl rfl rfl<|Lo2 rfl rfl rfl rfl<|Ls (q0r (v := .bool _) rfl rfl)<|m_B rfl<|Lo2 rfl rfl rfl rfl<|Lo2 rfl rfl rfl rfl<|Lo2 rfl rfl rfl rfl<|Lo2 rfl rfl rfl rfl<|Lo2 rfl rfl rfl rfl<|Lo2 rfl rfl rfl rfl<|Lo2 rfl rfl rfl rfl<|Lo2 rfl rfl rfl rfl<|Ls (q0r (v := .bool _) rfl rfl)<|q0c<|tn<|q0o rfl<|q1g<|te<|te<|bx<|tn<|q0b<|q0a<|m_I rfl<|a_I rfl<|q0c<|tn<|q0s ?_); exact q0f rfl rfl (v := .int _ _) rfl ⟨rfl, E1⟩
section
variable {n : NN} {f : Fr} {w : World} {d : Option Tmp} {t : TypeId} {pos : String} {af : Array Edge} {g : Option (Nat × Bool)} {x y : Operand}
theorem q4m {k : Nat} {b : ByteArray} {u : List Nat} (hx : ev n f x = .int .i64 (k : Nat)) (hy : ev n f y = .string b) (hb : strB u = b) :
    X Tryz.prog n ⟨d, .build 208 #[(0, x), (1, y)], t, pos, af, g⟩ f w = .ok (.value (.agg (tkC k u).toArray)) w := by
  subst hb; have := q1p (P := Tryz.prog) (ty := 208) (n := n) (f := f) (w := w) (d := d) (t := t) (pos := pos) (af := af) (g := g) (Parts.cons (i := 0) (z := [.int .i64 0]) hx rfl rfl rfl (Parts.cons (i := 1) (z := [.string ByteArray.empty]) hy rfl rfl rfl (Parts.nil _))); simpa [tkC] using this
theorem z2b {k : Nat} (hx : ev n f x = .int .i64 (k : Nat)) :
    X Tryz.prog n ⟨d, .build 208 #[(0, x)], t, pos, af, g⟩ f w = .ok (.value (.agg (tkC k []).toArray)) w := by
  have := q1p (P := Tryz.prog) (ty := 208) (n := n) (f := f) (w := w) (d := d) (t := t) (pos := pos) (af := af) (g := g) (Parts.cons (i := 0) (z := [.int .i64 0]) hx rfl rfl rfl (Parts.nil _)); simpa [tkC, show strB [] = ByteArray.empty from rfl] using this
end
theorem sb_lt' (s : ByteArray) (i : Nat) : (sb s).getD i 0 < 256 := by
  rw [List.getD_eq_getElem?_getD]; cases h : (sb s)[i]? with
  | none => exact (by decide : (0 : Nat) < 256)
  | some x => exact q9g s x (List.mem_of_getElem? h)
theorem btw_lo : btw 97 122 = Qy.isLo := rfl
theorem btw_di : btw 48 57 = Qy.isDi := rfl
set_option maxRecDepth 100000 in
set_option maxHeartbeats 8000000 in
theorem gpeek (g : Nat) (s : ByteArray) (pos off err : Nat) (hp : pos ≤ s.size) (hs : s.size ≤ 1000000) (w : World) (hB : Blk w g 205 (pC s pos off err)) :
    Calls Tryz.prog 113 #[.pointer (some ⟨g, 0, none⟩)] w fun e w' => e = .returned (.agg (tkC (Qy.scan ((sb s).drop pos) pos).kind (Qy.scan ((sb s).drop pos) pos).text).toArray) ∧ w.grownBy w' (some g) ∧
      Blk w' g 205 (pC s (pos + Qy.ws ((sb s).drop pos)) off err) := by
  refine q0k Tryz.func113 rfl Tryz.ntmps113 rfl ?_; obtain ⟨T, hT⟩ : ∃ T, T = (sb s).drop pos := ⟨_, rfl⟩; obtain ⟨W, hW⟩ : ∃ W, W = Qy.ws T := ⟨_, rfl⟩; have hTl : T.length = s.size - pos := by rw [hT, List.length_drop, q3h]
  have hWl : W ≤ s.size - pos := by rw [hW, ← hTl]; exact Qy.ws_le T
  have hin : ∀ j, j < W → Qy.isWs ((sb s).getD (pos + j) 0) = true := fun j hj => by
    rw [hW] at hj; have := tw_in Qy.isWs T j hj; rw [hT, q7l] at this; exact this
  obtain ⟨R, hR⟩ : ∃ R, R = T.drop W := ⟨_, rfl⟩; have hRd : R = (sb s).drop (pos + W) := by rw [hR, hT, List.drop_drop]
  have hRl : R.length = s.size - (pos + W) := by rw [hRd, List.length_drop, q3h]
  have hsc : Qy.scan T pos = Qy.scanR R (pos + W) := by unfold Qy.scan; rw [Qy.drop_ws, ← hW, ← hR]
  have hhead : ∀ c r, R = c :: r → Qy.isWs c = false := fun c r h => by
    refine Qy.dw_head T c r ?_; rw [Qy.drop_ws, ← hW, ← hR, h]
  have hR8 : ∀ x ∈ R, x < 256 := fun x hx => by rw [hRd] at hx; exact q9g s x (List.mem_of_mem_drop hx)
  have hsR : sb (strB R) = R := z1j hR8; rw [← hT, ← hW, hsc]; have hg0 := hB.lt; (refine q0b<|q0a ?_); refine q0x ?_; intro g2 w1 B2 hg2 E1 hs1; (refine q0c<|tn<|q0b<|q0j ?_); refine q1k (fun q f w' => ∃ j, q = W - j ∧ j ≤ W ∧ w.grownBy w' (some g) ∧ Blk w' g 205 (pC s (pos + j) off err) ∧ Blk w' g2 208 (tkC 0 []) ∧ f 0 = .pointer (some ⟨g, 0, none⟩) ∧ f 2 = .pointer (some ⟨g2, 0, none⟩)) W ?_ ?_
  · exact ⟨0, rfl, by omega, E1.row _, hB.ext E1, B2, rfl, rfl⟩
  · clear hW; rintro q f w2 ⟨j, rfl, hj, G2, B, C, f0, f2⟩; rw [fold f0, fold f2]; by_cases hend : pos + j < s.size
    · have hc8 := sb_lt' s (pos + j); obtain ⟨c, hc⟩ : ∃ c, c = (sb s).getD (pos + j) 0 := ⟨_, rfl⟩; rw [← hc] at hc8; (refine q0b<|q0b ?_); apply q1q 20 (by kernel_rfl); (apply DW_x (fun r w hA hH => (q0e (v := .pointer _) rfl).trans rfl); apply DW_x (fun r w hA hH => (q1t rfl).trans rfl); apply DW_x (fun r w hA hH => (q0g rfl).trans rfl); apply DW_x (fun r w hA hH => (X_ld rfl (B.ext hA) rfl).trans rfl); apply DW_x (fun r w hA hH => (q0e (v := .pointer _) rfl).trans rfl); apply DW_x (fun r w hA hH => (q1t rfl).trans rfl); apply DW_x (fun r w hA hH => (q0g rfl).trans rfl); apply DW_x (fun r w hA hH => (X_ld rfl (B.ext hA) rfl).trans rfl); apply DW_x (fun r w hA hH => (q3n rfl).trans rfl); apply DW_x (fun r w hA hH => (q3j rfl rfl (by omega)).trans rfl); apply DW_x (fun r w hA hH => (q0e (v := .bool _) rfl).trans rfl); apply q1f rfl rfl (fun _ => rfl) (fun r w hA hH => (q0e (v := .pointer _) rfl).trans rfl); apply q1f rfl rfl (fun _ => rfl) (fun r w hA hH => (q1t rfl).trans rfl); apply q1f rfl rfl (fun _ => rfl) (fun r w hA hH => (q0g rfl).trans rfl); apply q1f rfl rfl (fun _ => rfl) (fun r w hA hH => (X_ld rfl (B.ext hA) rfl).trans rfl); apply q1f rfl rfl (fun _ => rfl) (fun r w hA hH => (q0e (v := .pointer _) rfl).trans rfl); apply q1f rfl rfl (fun _ => rfl) (fun r w hA hH => (q1t rfl).trans rfl); apply q1f rfl rfl (fun _ => rfl) (fun r w hA hH => (q0g rfl).trans rfl); apply q1f rfl rfl (fun _ => rfl) (fun r w hA hH => (X_ld rfl (B.ext hA) rfl).trans rfl); apply q1f rfl rfl (fun _ => rfl) (fun r w hA hH => ((q2u (i := pos + j) rfl rfl (by omega)).trans (by rw [← hc])).trans rfl)); ((with_reducible exact q1y); (exact rfl); (repeat (first | exact .inr (.inr (fun _ _ => by with_reducible rfl)) | (refine And.intro ?_ ?_) | exact .inr (.inl rfl) | exact .inl (by decide +kernel) | exact trivial | exact .inr (.inr (fun _ _ => rfl)))); (try dsimp only [Nat.reduceAdd])); intro r w3 E3 _; refine q1u rfl rfl rfl ?_; refine L_fn (gws c hc8 w3) rfl ?_; rintro e w4 ⟨n, rfl, E4, hn⟩; refine ⟨_, rfl, ?_⟩; have E34 := E3.trans E4; have B4 := B.ext E34; have C4 := C.ext E34; have G4 := q0d G2 E34 (fun _ h => by cases h); by_cases hjW : j < W
      · have h0 : 0 ≤ n := of_decide_eq_true (hn.trans (by rw [hc]; exact hin j hjW)); (refine Lg2 rfl rfl rfl (q5z rfl rfl (by omega))<|Ls (q0m (v := .bool _) rfl rfl)<|q0c<|tn<|q0t rfl<|q0n<|tn<|q0j<|q0a<|m_P rfl<|Ls (q1t rfl)<|Ls (q0g rfl)<|Ls (X_ld rfl B4 rfl)<|Ls (q1j rfl rfl (by omega))<|Ls (q1t rfl)<|Ls (q0g rfl) ?_); refine q1d rfl (v := .int _ _) rfl rfl B4 (by simp [pC]) ?_; intro w5 B5 hg5 _; (refine q0c<|bn<|tn ?_); refine ⟨W - (j + 1), by omega, j + 1, rfl, by omega, q0d G4 hg5 (fun g h => .inl h), ?_, C4.grown hg5 (by simp; omega), rfl, rfl⟩; rw [show pC s (pos + (j + 1)) off err = (pC s (pos + j) off err).set 1 (.int .i64 (((pos + j : Nat) : Int) + 1)) from by simp [pC]; omega]; exact B5
      · obtain rfl : j = W := (by omega); have hRc : ∃ r', R = c :: r' := by
          cases hRR : R with
          | nil => rw [hRR] at hRl; simp at hRl; omega
          | cons d r' =>
            refine ⟨r', ?_⟩; have : R.getD 0 0 = c := (by rw [hRd, q7l, Nat.add_zero, hc]); rw [hRR] at this; simp at this; rw [this]
        obtain ⟨r', hRc⟩ := hRc; have h0 : ¬ 0 ≤ n := of_decide_eq_false (hn.trans (hhead c r' hRc)); have hne : decide (strB R = ⟨#[]⟩) = false := decide_eq_false (fun h => by have := congrArg ByteArray.size h; rw [q4t, hRc, show (⟨#[]⟩ : ByteArray).size = 0 from rfl] at this; simp at this); have hr0 : 0 < (strB R).size := (by rw [q4t, hRc]; simp); have hrc : (sb (strB R)).getD 0 0 = c := (by rw [hsR, hRc]; rfl); (refine Lg2 rfl rfl rfl (q6a rfl rfl (by omega))<|Ls (q0m (v := .bool _) rfl rfl)<|q0c<|tn<|q0o rfl<|q1g<|te<|te<|bx<|tn<|q0b ?_); apply q1q 9 (by kernel_rfl); (apply DW_x (fun r w hA hH => (q0e (v := .pointer _) rfl).trans rfl); apply DW_x (fun r w hA hH => (q1t rfl).trans rfl); apply DW_x (fun r w hA hH => (q0g rfl).trans rfl); apply DW_x (fun r w hA hH => (X_ld rfl (B4.ext hA) rfl).trans rfl); apply DW_x (fun r w hA hH => (q0e (v := .pointer _) rfl).trans rfl); apply DW_x (fun r w hA hH => (q1t rfl).trans rfl); apply DW_x (fun r w hA hH => (q0g rfl).trans rfl); apply DW_x (fun r w hA hH => (X_ld rfl (B4.ext hA) rfl).trans rfl)); ((with_reducible apply DW_x); (exact fun r w hA hH => (X_slcA (pos + j) rfl rfl (by omega) hRd.symm).trans rfl)); ((with_reducible exact q1y); (exact rfl); (repeat (first | exact .inr (.inr (fun _ _ => by with_reducible rfl)) | (refine And.intro ?_ ?_) | exact .inr (.inl rfl) | exact .inl (by decide +kernel) | exact trivial | exact .inr (.inr (fun _ _ => rfl)))); (try dsimp only [Nat.reduceAdd])); intro r5 w5 E5 _; have B5 := B4.ext E5; have C5 := C4.ext E5; have G5 := q0d G4 E5 (fun _ h => by cases h); clear B4 C4 B C; rcases Qy.scanR_cases R (pos + j) with ⟨h, e⟩ | ⟨d, r, h, h1, e⟩ | ⟨d, r, h, h1, h2, e⟩ | ⟨r, h, e⟩ | ⟨r, h, e⟩ | ⟨d, r, h, h1, h2, h3, h4, e⟩
        · rw [h] at hRc; cases hRc
        · obtain ⟨rfl, rfl⟩ : d = c ∧ r = r' := (by rw [h] at hRc; injection hRc with a b; exact ⟨a, b⟩); have hlo := (Qy.isLo_iff d).1 h1; have hsp := fun (w : World) (hB : Blk w g 205 (pC s (pos + j) off err)) => gspan g s (pos + j) off err 97 122 (by omega) hs w hB; rw [← hRd, btw_lo] at hsp; have htw : R.takeWhile Qy.isLo = d :: r.takeWhile Qy.isLo := (by rw [h]; simp [h1]); have htk : R.take (R.takeWhile Qy.isLo).length = R.takeWhile Qy.isLo := take_tw _ _; have htl := Qy.tw_len Qy.isLo R; rw [e]; (refine a_R rfl<|q0c<|tn<|q0b<|q0j<|q0b<|q0a<|m_R rfl<|Ls (q6m rfl rfl hne)<|a_B rfl<|q0c<|tn<|q0o rfl<|q0b<|q0a<|m_R rfl<|Ls ((q2u (s := strB R) (i := 0) rfl rfl hr0).trans (by rw [hrc]))<|Ls (q5z rfl rfl (by omega))<|m_B rfl<|Lg2 rfl rfl rfl (q0e (v := .string _) rfl)<|Lg2 rfl rfl rfl ((q2u (s := strB R) (i := 0) rfl rfl hr0).trans (by rw [hrc]))<|Lg2 rfl rfl rfl (X_leqT rfl rfl (by omega))<|Ls (q0m (v := .bool _) rfl rfl)<|a_B rfl<|q0c<|tn<|q0t rfl<|q0b ?_); apply q1q 12 (by kernel_rfl); (apply DW_x (fun r w hA hH => (q0e (v := .pointer _) rfl).trans rfl); apply DW_x (fun r w hA hH => (q1t rfl).trans rfl); apply DW_x (fun r w hA hH => (q0g rfl).trans rfl); apply DW_x (fun r w hA hH => (X_ld rfl (B5.ext hA) rfl).trans rfl); apply DW_x (fun r w hA hH => (q0e (v := .pointer _) rfl).trans rfl); apply DW_x (fun r w hA hH => (q1t rfl).trans rfl); apply DW_x (fun r w hA hH => (q0g rfl).trans rfl); apply DW_x (fun r w hA hH => (X_ld rfl (B5.ext hA) rfl).trans rfl); apply DW_x (fun r w hA hH => (q0e (v := .pointer _) rfl).trans rfl)); ((with_reducible apply q4z); (exact fun _ => rfl); (exact fun _ => rfl); (exact fun r w hA hH => hsp w (B5.ext hA))); ((with_reducible apply DW_x); (exact fun r w hA hH => (X_slcAB (l := R.takeWhile Qy.isLo) (pos + j) (pos + j + (R.takeWhile Qy.isLo).length) rfl rfl rfl (by omega) (by omega) (by rw [← hRd, Nat.add_sub_cancel_left, htk])).trans rfl)); ((with_reducible apply DW_x); (exact fun r w hA hH => (q4m rfl rfl rfl).trans rfl)); ((with_reducible exact q1y); (exact rfl); (repeat (first | exact .inr (.inr (fun _ _ => by with_reducible rfl)) | (refine And.intro ?_ ?_) | exact .inr (.inl rfl) | exact .inl (by decide +kernel) | exact trivial | exact .inr (.inr (fun _ _ => rfl)))); (try dsimp only [Nat.reduceAdd])); intro r6 w6 E6 _; rw [htw]; refine q0l (size := 2) rfl rfl rfl q5d (C5.ext E6) rfl ?_; intro w7 C7 hg7 _; (refine q0c<|tn<|q0s<|br<|tr ?_); refine q1i rfl rfl (Res.cellA inferInstance rfl (C7.range (fun j u h => by rw [Nat.zero_add]; exact h)) rfl .nil) ?_; exact ⟨rfl, q0d (q0d G5 E6 (fun _ h => by cases h)) hg7 (fun g h => by cases h; exact .inr (by omega)), (B5.ext E6).grown hg7 (by simp; omega)⟩
        · obtain ⟨rfl, rfl⟩ : d = c ∧ r = r' := (by rw [h] at hRc; injection hRc with a b; exact ⟨a, b⟩); have hlo := (Qy.isDi_iff d).1 h2; have hsp := fun (w : World) (hB : Blk w g 205 (pC s (pos + j) off err)) => gspan g s (pos + j) off err 48 57 (by omega) hs w hB; rw [← hRd, btw_di] at hsp; have htw : R.takeWhile Qy.isDi = d :: r.takeWhile Qy.isDi := (by rw [h]; simp [h2]); have htk : R.take (R.takeWhile Qy.isDi).length = R.takeWhile Qy.isDi := take_tw _ _; have htl := Qy.tw_len Qy.isDi R; rw [e]; (refine a_R rfl<|q0c<|tn<|q0b<|q0j<|q0b<|q0a<|m_R rfl<|Ls (q6m rfl rfl hne)<|a_B rfl<|q0c<|tn<|q0o rfl<|q0b<|q0a<|m_R rfl<|Ls ((q2u (s := strB R) (i := 0) rfl rfl hr0).trans (by rw [hrc]))<|Ls (q6a rfl rfl (by omega))<|m_B rfl<|Lo2 rfl rfl rfl rfl<|Lo2 rfl rfl rfl rfl<|Lo2 rfl rfl rfl rfl<|Ls (q0r (v := .bool _) rfl rfl)<|a_B rfl<|q0c<|tn<|q0o rfl<|q0b<|q0a<|m_R rfl<|Ls ((q2u (s := strB R) (i := 0) rfl rfl hr0).trans (by rw [hrc]))<|Ls (q5z rfl rfl (by omega))<|m_B rfl<|Lg2 rfl rfl rfl (q0e (v := .string _) rfl)<|Lg2 rfl rfl rfl ((q2u (s := strB R) (i := 0) rfl rfl hr0).trans (by rw [hrc]))<|Lg2 rfl rfl rfl (X_leqT rfl rfl (by omega))<|Ls (q0m (v := .bool _) rfl rfl)<|a_B rfl<|q0c<|tn<|q0t rfl<|q0b ?_); apply q1q 12 (by kernel_rfl); (apply DW_x (fun r w hA hH => (q0e (v := .pointer _) rfl).trans rfl); apply DW_x (fun r w hA hH => (q1t rfl).trans rfl); apply DW_x (fun r w hA hH => (q0g rfl).trans rfl); apply DW_x (fun r w hA hH => (X_ld rfl (B5.ext hA) rfl).trans rfl); apply DW_x (fun r w hA hH => (q0e (v := .pointer _) rfl).trans rfl); apply DW_x (fun r w hA hH => (q1t rfl).trans rfl); apply DW_x (fun r w hA hH => (q0g rfl).trans rfl); apply DW_x (fun r w hA hH => (X_ld rfl (B5.ext hA) rfl).trans rfl); apply DW_x (fun r w hA hH => (q0e (v := .pointer _) rfl).trans rfl)); ((with_reducible apply q4z); (exact fun _ => rfl); (exact fun _ => rfl); (exact fun r w hA hH => hsp w (B5.ext hA))); ((with_reducible apply DW_x); (exact fun r w hA hH => (X_slcAB (l := R.takeWhile Qy.isDi) (pos + j) (pos + j + (R.takeWhile Qy.isDi).length) rfl rfl rfl (by omega) (by omega) (by rw [← hRd, Nat.add_sub_cancel_left, htk])).trans rfl)); ((with_reducible apply DW_x); (exact fun r w hA hH => (q4m rfl rfl rfl).trans rfl)); ((with_reducible exact q1y); (exact rfl); (repeat (first | exact .inr (.inr (fun _ _ => by with_reducible rfl)) | (refine And.intro ?_ ?_) | exact .inr (.inl rfl) | exact .inl (by decide +kernel) | exact trivial | exact .inr (.inr (fun _ _ => rfl)))); (try dsimp only [Nat.reduceAdd])); intro r6 w6 E6 _; rw [htw]; refine q0l (size := 2) rfl rfl rfl q5d (C5.ext E6) rfl ?_; intro w7 C7 hg7 _; (refine q0c<|tn<|q0s<|br<|tr ?_); refine q1i rfl rfl (Res.cellA inferInstance rfl (C7.range (fun j u h => by rw [Nat.zero_add]; exact h)) rfl .nil) ?_; exact ⟨rfl, q0d (q0d G5 E6 (fun _ h => by cases h)) hg7 (fun g h => by cases h; exact .inr (by omega)), (B5.ext E6).grown hg7 (by simp; omega)⟩
        · obtain ⟨rfl, rfl⟩ : 61 = c ∧ r = r' := (by rw [h] at hRc; injection hRc with a b; exact ⟨a, b⟩); rw [e]; (refine a_R rfl<|q0c<|tn<|q0b<|q0j<|q0b<|q0a<|m_R rfl<|Ls (q6m rfl rfl hne)<|a_B rfl<|q0c<|tn<|q0o rfl<|q0b<|q0a<|m_R rfl<|Ls ((q2u (s := strB R) (i := 0) rfl rfl hr0).trans (by rw [hrc]))<|Ls (q6a rfl rfl (by omega))<|m_B rfl<|Lo2 rfl rfl rfl rfl<|Lo2 rfl rfl rfl rfl<|Lo2 rfl rfl rfl rfl<|Ls (q0r (v := .bool _) rfl rfl)<|a_B rfl<|q0c<|tn<|q0o rfl<|q0b<|q0a<|m_R rfl<|Ls ((q2u (s := strB R) (i := 0) rfl rfl hr0).trans (by rw [hrc]))<|Ls (q5z rfl rfl (by omega))<|m_B rfl<|Lg2 rfl rfl rfl (q0e (v := .string _) rfl)<|Lg2 rfl rfl rfl ((q2u (s := strB R) (i := 0) rfl rfl hr0).trans (by rw [hrc]))<|Lg2 rfl rfl rfl (q9x rfl rfl (by omega))<|Ls (q0m (v := .bool _) rfl rfl)<|a_B rfl<|q0c<|tn<|q0o rfl<|q0b<|q0a<|m_R rfl<|Ls ((q2u (s := strB R) (i := 0) rfl rfl hr0).trans (by rw [hrc]))<|Ls (q3v rfl rfl (by omega))<|a_B rfl<|q0c<|tn<|q0t rfl<|q0b<|q0a ?_); refine Ls (q4m (u := [61]) rfl rfl rfl) ?_; refine q0l (l := tkC 3 [61]) (size := 2) rfl rfl rfl q5d C5 rfl ?_; intro w7 C7 hg7 _; (refine q0c<|tn<|q0s<|br<|tr ?_); refine q1i rfl rfl (Res.cellA (cs := tkC 3 [61]) inferInstance rfl (C7.range (fun j u h => by rw [Nat.zero_add]; exact h)) rfl .nil) ?_; exact ⟨rfl, q0d G5 hg7 (fun g h => by cases h; exact .inr (by omega)), B5.grown hg7 (by simp; omega)⟩
        · obtain rfl : 46 = c := (by rw [h] at hRc; injection hRc); have hd : ((sb (strB R)).head? == some 46 && (sb (strB R)).tail.head? == some 46) = true := (by rw [hsR, h]; rfl); have hdots := gdots (strB R) w5; rw [hd] at hdots; rw [e]; (refine a_R rfl<|q0c<|tn<|q0b<|q0j<|q0b<|q0a<|m_R rfl<|Ls (q6m rfl rfl hne)<|a_B rfl<|q0c<|tn<|q0o rfl<|q0b<|q0a<|m_R rfl<|Ls ((q2u (s := strB R) (i := 0) rfl rfl hr0).trans (by rw [hrc]))<|Ls (q6a rfl rfl (by omega))<|m_B rfl<|Lo2 rfl rfl rfl rfl<|Lo2 rfl rfl rfl rfl<|Lo2 rfl rfl rfl rfl<|Ls (q0r (v := .bool _) rfl rfl)<|a_B rfl<|q0c<|tn<|q0o rfl<|q0b<|q0a<|m_R rfl<|Ls ((q2u (s := strB R) (i := 0) rfl rfl hr0).trans (by rw [hrc]))<|Ls (q6a rfl rfl (by omega))<|m_B rfl<|Lo2 rfl rfl rfl rfl<|Lo2 rfl rfl rfl rfl<|Lo2 rfl rfl rfl rfl<|Ls (q0r (v := .bool _) rfl rfl)<|a_B rfl<|q0c<|tn<|q0o rfl<|q0b<|q0a<|m_R rfl<|Ls ((q2u (s := strB R) (i := 0) rfl rfl hr0).trans (by rw [hrc]))<|Ls (q5p rfl rfl (by omega))<|a_B rfl<|q0c<|tn<|q0o rfl<|q0b<|q0a<|m_R rfl ?_); refine L_fv rfl (hdots) ?_; intro w6 E6; have B5 := B5.ext E6; have C5 := C5.ext E6; have G5 := q0d G5 E6 (fun _ h => by cases h); (refine a_B rfl<|q0c<|tn<|q0t rfl<|q0b<|q0a ?_); refine Ls (q4m (u := [46, 46]) rfl rfl rfl) ?_; refine q0l (l := tkC 3 [46, 46]) (size := 2) rfl rfl rfl q5d C5 rfl ?_; intro w7 C7 hg7 _; (refine q0c<|tn<|q0s<|br<|tr ?_); refine q1i rfl rfl (Res.cellA (cs := tkC 3 [46, 46]) inferInstance rfl (C7.range (fun j u h => by rw [Nat.zero_add]; exact h)) rfl .nil) ?_; exact ⟨rfl, q0d G5 hg7 (fun g h => by cases h; exact .inr (by omega)), B5.grown hg7 (by simp; omega)⟩
        · obtain ⟨rfl, rfl⟩ : d = c ∧ r = r' := (by rw [h] at hRc; injection hRc with a b; exact ⟨a, b⟩); have hd : ((sb (strB R)).head? == some 46 && (sb (strB R)).tail.head? == some 46) = false := by
            rw [hsR, h, Bool.eq_false_iff]; intro hh; simp at hh; exact h4 hh
          have hn1 : ¬ (97 ≤ d ∧ d ≤ 122) := fun hh => (by rw [(Qy.isLo_iff d).2 hh] at h1; cases h1); have hn2 : ¬ (48 ≤ d ∧ d ≤ 57) := fun hh => (by rw [(Qy.isDi_iff d).2 hh] at h2; cases h2); have hdots := gdots (strB R) w5; rw [hd] at hdots; rw [e]; by_cases ha : 97 ≤ d; case' pos => (refine a_R rfl<|q0c<|tn<|q0b<|q0j<|q0b<|q0a<|m_R rfl<|Ls (q6m rfl rfl hne)<|a_B rfl<|q0c<|tn<|q0o rfl<|q0b<|q0a<|m_R rfl<|Ls ((q2u (s := strB R) (i := 0) rfl rfl hr0).trans (by rw [hrc]))<|Ls (q5z rfl rfl (by omega))<|m_B rfl<|Lg2 rfl rfl rfl (q0e (v := .string _) rfl)<|Lg2 rfl rfl rfl ((q2u (s := strB R) (i := 0) rfl rfl hr0).trans (by rw [hrc]))<|Lg2 rfl rfl rfl (q9x rfl rfl (by omega))<|Ls (q0m (v := .bool _) rfl rfl)<|a_B rfl<|q0c<|tn<|q0o rfl<|q0b<|q0a<|m_R rfl<|Ls ((q2u (s := strB R) (i := 0) rfl rfl hr0).trans (by rw [hrc]))<|Ls (q5z rfl rfl (by omega))<|m_B rfl<|Lg2 rfl rfl rfl (q0e (v := .string _) rfl)<|Lg2 rfl rfl rfl ((q2u (s := strB R) (i := 0) rfl rfl hr0).trans (by rw [hrc]))<|Lg2 rfl rfl rfl (q9x rfl rfl (by omega))<|Ls (q0m (v := .bool _) rfl rfl)<|a_B rfl<|q0c<|tn<|q0o rfl<|q0b<|q0a<|m_R rfl<|Ls ((q2u (s := strB R) (i := 0) rfl rfl hr0).trans (by rw [hrc]))<|Ls (q5p rfl rfl (by omega))<|a_B rfl<|q0c<|tn<|q0o rfl<|q0b<|q0a<|m_R rfl ?_)
          case' neg =>
            by_cases hb : 48 ≤ d
            case' pos => (refine a_R rfl<|q0c<|tn<|q0b<|q0j<|q0b<|q0a<|m_R rfl<|Ls (q6m rfl rfl hne)<|a_B rfl<|q0c<|tn<|q0o rfl<|q0b<|q0a<|m_R rfl<|Ls ((q2u (s := strB R) (i := 0) rfl rfl hr0).trans (by rw [hrc]))<|Ls (q6a rfl rfl (by omega))<|m_B rfl<|Lo2 rfl rfl rfl rfl<|Lo2 rfl rfl rfl rfl<|Lo2 rfl rfl rfl rfl<|Ls (q0r (v := .bool _) rfl rfl)<|a_B rfl<|q0c<|tn<|q0o rfl<|q0b<|q0a<|m_R rfl<|Ls ((q2u (s := strB R) (i := 0) rfl rfl hr0).trans (by rw [hrc]))<|Ls (q5z rfl rfl (by omega))<|m_B rfl<|Lg2 rfl rfl rfl (q0e (v := .string _) rfl)<|Lg2 rfl rfl rfl ((q2u (s := strB R) (i := 0) rfl rfl hr0).trans (by rw [hrc]))<|Lg2 rfl rfl rfl (q9x rfl rfl (by omega))<|Ls (q0m (v := .bool _) rfl rfl)<|a_B rfl<|q0c<|tn<|q0o rfl<|q0b<|q0a<|m_R rfl<|Ls ((q2u (s := strB R) (i := 0) rfl rfl hr0).trans (by rw [hrc]))<|Ls (q5p rfl rfl (by omega))<|a_B rfl<|q0c<|tn<|q0o rfl<|q0b<|q0a<|m_R rfl ?_)
            case' neg => (refine a_R rfl<|q0c<|tn<|q0b<|q0j<|q0b<|q0a<|m_R rfl<|Ls (q6m rfl rfl hne)<|a_B rfl<|q0c<|tn<|q0o rfl<|q0b<|q0a<|m_R rfl<|Ls ((q2u (s := strB R) (i := 0) rfl rfl hr0).trans (by rw [hrc]))<|Ls (q6a rfl rfl (by omega))<|m_B rfl<|Lo2 rfl rfl rfl rfl<|Lo2 rfl rfl rfl rfl<|Lo2 rfl rfl rfl rfl<|Ls (q0r (v := .bool _) rfl rfl)<|a_B rfl<|q0c<|tn<|q0o rfl<|q0b<|q0a<|m_R rfl<|Ls ((q2u (s := strB R) (i := 0) rfl rfl hr0).trans (by rw [hrc]))<|Ls (q6a rfl rfl (by omega))<|m_B rfl<|Lo2 rfl rfl rfl rfl<|Lo2 rfl rfl rfl rfl<|Lo2 rfl rfl rfl rfl<|Ls (q0r (v := .bool _) rfl rfl)<|a_B rfl<|q0c<|tn<|q0o rfl<|q0b<|q0a<|m_R rfl<|Ls ((q2u (s := strB R) (i := 0) rfl rfl hr0).trans (by rw [hrc]))<|Ls (q5p rfl rfl (by omega))<|a_B rfl<|q0c<|tn<|q0o rfl<|q0b<|q0a<|m_R rfl ?_)
          all_goals
            refine L_fv rfl (hdots) ?_
            intro w6 E6
            have B5 := B5.ext E6
            have C5 := C5.ext E6
            have G5 := q0d G5 E6 (fun _ h => by cases h)
            (refine a_B rfl<|q0c<|tn<|q0o rfl<|q0n<|bn<|tn<|q0b<|q0a ?_)
            refine Ls (z2b rfl) ?_
            refine q0l (l := tkC 4 []) (size := 2) rfl rfl rfl q5d C5 rfl ?_
            intro w7 C7 hg7 _
            (refine q0c<|tn<|q0s ?_)
            refine q1i rfl rfl (Res.cellA (cs := tkC 4 []) inferInstance rfl (C7.range (fun j u h => by rw [Nat.zero_add]; exact h)) rfl .nil) ?_
            exact ⟨rfl, q0d G5 hg7 (fun g h => by cases h; exact .inr (by omega)), B5.grown hg7 (by simp; omega)⟩
    · obtain rfl : j = W := (by omega); obtain rfl : R = [] := List.eq_nil_of_length_eq_zero (by omega); (refine q0b<|q0b ?_); apply q1q 23 (by kernel_rfl); (apply DW_x (fun r w hA hH => (q0e (v := .pointer _) rfl).trans rfl); apply DW_x (fun r w hA hH => (q1t rfl).trans rfl); apply DW_x (fun r w hA hH => (q0g rfl).trans rfl); apply DW_x (fun r w hA hH => (X_ld rfl (B.ext hA) rfl).trans rfl); apply DW_x (fun r w hA hH => (q0e (v := .pointer _) rfl).trans rfl); apply DW_x (fun r w hA hH => (q1t rfl).trans rfl); apply DW_x (fun r w hA hH => (q0g rfl).trans rfl); apply DW_x (fun r w hA hH => (X_ld rfl (B.ext hA) rfl).trans rfl); apply DW_x (fun r w hA hH => (q3n rfl).trans rfl); apply DW_x (fun r w hA hH => (q3f rfl rfl (by omega)).trans rfl); apply DW_x (fun r w hA hH => (q0e (v := .bool _) rfl).trans rfl); apply q0u rfl rfl (fun _ => rfl) rfl; apply q0u rfl rfl (fun _ => rfl) rfl; apply q0u rfl rfl (fun _ => rfl) rfl; apply q0u rfl rfl (fun _ => rfl) rfl; apply q0u rfl rfl (fun _ => rfl) rfl; apply q0u rfl rfl (fun _ => rfl) rfl; apply q0u rfl rfl (fun _ => rfl) rfl; apply q0u rfl rfl (fun _ => rfl) rfl; apply q0u rfl rfl (fun _ => rfl) rfl; apply q0u rfl rfl (fun _ => rfl) rfl; apply q0u rfl rfl (fun _ => rfl) rfl; apply DW_x (fun r w hA hH => (q0r (v := .bool _) rfl rfl).trans rfl)); ((with_reducible exact q1y); (exact rfl); (repeat (first | exact .inr (.inr (fun _ _ => by with_reducible rfl)) | (refine And.intro ?_ ?_) | exact .inr (.inl rfl) | exact .inl (by decide +kernel) | exact trivial | exact .inr (.inr (fun _ _ => rfl)))); (try dsimp only [Nat.reduceAdd])); intro r w3 E3 _; have B4 := B.ext E3; have C4 := C.ext E3; have G4 := q0d G2 E3 (fun _ h => by cases h); (refine q0c<|tn<|q0o rfl<|q1g<|te<|te<|bx<|tn<|q0b ?_); apply q1q 9 (by kernel_rfl); (apply DW_x (fun r w hA hH => (q0e (v := .pointer _) rfl).trans rfl); apply DW_x (fun r w hA hH => (q1t rfl).trans rfl); apply DW_x (fun r w hA hH => (q0g rfl).trans rfl); apply DW_x (fun r w hA hH => (X_ld rfl (B4.ext hA) rfl).trans rfl); apply DW_x (fun r w hA hH => (q0e (v := .pointer _) rfl).trans rfl); apply DW_x (fun r w hA hH => (q1t rfl).trans rfl); apply DW_x (fun r w hA hH => (q0g rfl).trans rfl); apply DW_x (fun r w hA hH => (X_ld rfl (B4.ext hA) rfl).trans rfl)); ((with_reducible apply DW_x); (exact fun r w hA hH => (X_slcA (pos + j) rfl rfl (by omega) hRd.symm).trans rfl)); ((with_reducible exact q1y); (exact rfl); (repeat (first | exact .inr (.inr (fun _ _ => by with_reducible rfl)) | (refine And.intro ?_ ?_) | exact .inr (.inl rfl) | exact .inl (by decide +kernel) | exact trivial | exact .inr (.inr (fun _ _ => rfl)))); (try dsimp only [Nat.reduceAdd])); intro r5 w5 E5 _; have B5 := B4.ext E5; have C5 := C4.ext E5; have G5 := q0d G4 E5 (fun _ h => by cases h); (refine a_R rfl<|q0c<|tn<|q0b<|q0j<|q0b<|q0a<|m_R rfl<|Ls (q6m rfl rfl (decide_eq_true (show strB [] = ⟨#[]⟩ from rfl)))<|a_B rfl<|q0c<|tn<|q0t rfl<|q0b<|q0a ?_); refine Ls (z2b rfl) ?_; refine q0l (l := tkC 0 []) (size := 2) rfl rfl rfl q5d C5 rfl ?_; intro w7 C7 hg7 _; (refine q0c<|tn<|q0s<|br<|tr ?_); refine q1i rfl rfl (Res.cellA (cs := tkC 0 []) inferInstance rfl (C7.range (fun j u h => by rw [Nat.zero_add]; exact h)) rfl .nil) ?_; exact ⟨rfl, q0d G5 hg7 (fun g h => by cases h; exact .inr (by omega)), B5.grown hg7 (by simp; omega)⟩
instance eqToken : TEq Tryz.prog 208 := ⟨by kernel_rfl, by kernel_rfl, .inl ⟨_, Tryz.underlying208⟩⟩
theorem keyLits_str {P : Program} {e : TypeId} [h : TStr P e] (D : Nat) {s : ByteArray} (hs : s.size ≤ maxLen) : P.keyLits (D + 1) e [.string s] = some [.string s.data.toList] := by
  simp [Program.keyLits, h.h, hs]
theorem kl_tok {k : Nat} {u : List Nat} (hk : k < 256) (hu : u.length ≤ 10000000) : (Tryz.prog).keyLits 3 208 (tkC k u) = some ([.int .i64 (k : Nat)] ++ [.string (strB u).data.toList]) := by
  refine q7f (D := 2) Tryz.underlying208 (by decide) (by decide) (by kernel_rfl) ?_ ?_
  · rw [show (Tryz.prog).cellsOf 3 = 1 by kernel_rfl]; exact Go.Proofs.K.keyLits_int 1 (z0f (by omega))
  · rw [show (Tryz.prog).cellsOf 9 = 1 by kernel_rfl]; exact keyLits_str 1 (by rw [q4t]; unfold maxLen; omega)
theorem strB_inj {a b : List Nat} (ha : ∀ x ∈ a, x < 256) (hb : ∀ x ∈ b, x < 256) : (strB a).data.toList = (strB b).data.toList ↔ a = b := by
  constructor
  · intro h; have : strB a = strB b := by
      have h2 := Array.toList_inj.1 h; cases hx : strB a; cases hy : strB b
      rw [hx, hy] at h2; simpa using h2
    have := congrArg sb this; rwa [z1j ha, z1j hb] at this
  · rintro rfl; rfl
theorem X_neqTok {n : NN} {f : Fr} {w : World} {d : Option Tmp} {t : TypeId} {pos : String} {af : Array Edge} {g : Option (Nat × Bool)} {x y : Operand} {k k' : Nat} {u u' : List Nat} {q : Bool} (hk : k < 256) (hk' : k' < 256) (hu : u.length ≤ 10000000) (hu' : u'.length ≤ 10000000) (h8 : ∀ x ∈ u, x < 256) (h8' : ∀ x ∈ u', x < 256)
    (hx : ev n f x = .agg (tkC k u).toArray) (hy : ev n f y = .agg (tkC k' u').toArray) (hq : q = true ↔ ¬ (k = k' ∧ u = u')) :
    X Tryz.prog n ⟨d, .binOp .neq 208 x y 208, t, pos, af, g⟩ f w = .ok (.value (.bool q)) w := by
  refine X_neqK hx hy (by kernel_rfl) (by kernel_rfl) (kl_tok hk hu) (kl_tok hk' hu') (hq.trans (not_congr ?_)); rw [← strB_inj h8 h8']; constructor
  · rintro ⟨rfl, h⟩; rw [h]
  · intro h; simp only [List.cons_append, List.nil_append, List.cons.injEq, Lit.int.injEq, Lit.string.injEq, and_true, true_and] at h; exact ⟨by omega, h.2⟩
abbrev PS := Except Qy.Er (List Qy.Tok)
def PSt (w : World) (g : Nat) (s : ByteArray) (st : PS) : Prop :=
  ∃ pos off err : Nat, pos ≤ s.size ∧ Blk w g 205 (pC s pos off err) ∧ match st with
    | .ok l => off = 0 ∧ err = 0 ∧ Qy.toks ((sb s).drop pos) pos = l
    | .error e => off = e.1 ∧ err = e.2 ∧ e.2 ≠ 0
theorem PSt.ext {w w' : World} {g : Nat} {s : ByteArray} {st : PS} (h : PSt w g s st) (E : Ext w w') : PSt w' g s st := by
  obtain ⟨pos, off, err, h1, h2, h3⟩ := h; exact ⟨pos, off, err, h1, h2.ext E, h3⟩
theorem PSt.lt {w : World} {g : Nat} {s : ByteArray} {st : PS} (h : PSt w g s st) : g < w.heap.size := by
  obtain ⟨_, _, _, _, h2, _⟩ := h; exact h2.lt
theorem PSt.grown {w w' : World} {g : Nat} {s : ByteArray} {st : PS} {row : Option Nat} (h : PSt w g s st) (hg : w.grownBy w' row) (hr : row ≠ some g) : PSt w' g s st := by
  obtain ⟨pos, off, err, h1, h2, h3⟩ := h; exact ⟨pos, off, err, h1, h2.grown hg hr, h3⟩
def after {α : Type} (st : PS) (r : List Qy.Tok → Qy.R α) : PS := match st with
  | .error e => .error e
  | .ok l => match r l with
    | .ok (_, m) => .ok m
    | .error e => .error e
def q3g {α : Type} (st : PS) (r : List Qy.Tok → Qy.R α) (v : α) : Prop := ∀ l, st = .ok l → ∀ a m, r l = .ok (a, m) → a = v
def unx (st : PS) : PS := match st with
  | .error e => .error e
  | .ok l => .error (Qy.unexp l)
theorem gfail (g : Nat) (s : ByteArray) (pos off err o e : Nat) (w : World) (hB : Blk w g 205 (pC s pos off err)) :
    Calls Tryz.prog 173 #[.pointer (some ⟨g, 0, none⟩), .int .i64 (o : Nat), .int .i64 (e : Nat)] w fun r w' => r = .returned (.tuple #[]) ∧ w.grownBy w' (some g) ∧
      Blk w' g 205 (if err = 0 then pC s pos o e else pC s pos off err) := by
  refine q0k Tryz.func173 rfl Tryz.ntmps173 rfl ?_; by_cases h0 : err = 0
  · rw [if_pos h0]; (refine q0b<|q0a<|m_P rfl<|Ls (q1t rfl)<|Ls (q0g rfl)<|Ls (X_ld rfl hB rfl)<|Ls (q3v rfl rfl (by omega))<|q0c<|tn<|q0t rfl<|q0a<|m_P rfl<|m_P rfl<|m_I rfl<|m_I rfl<|Ls (q1t rfl)<|Ls (q0g rfl) ?_); refine q1d rfl (v := .int _ _) rfl rfl hB (by simp [pC]) ?_; intro w1 B1 hg1 _; (refine Ls (q1t rfl)<|Ls (q0g rfl) ?_); refine q1d rfl (v := .int _ _) rfl rfl B1 (by simp [pC]) ?_; intro w2 B2 hg2 _; (refine q0c ?_); refine q1n rfl rfl ⟨rfl, q0d hg1 hg2 (fun g h => .inl h), ?_⟩; simpa [pC] using B2
  · rw [if_neg h0]; (refine q0b<|q0a<|m_P rfl<|Ls (q1t rfl)<|Ls (q0g rfl)<|Ls (X_ld rfl hB rfl)<|Ls (q5p rfl rfl (by omega))<|q0c<|tn<|q0o rfl<|q0n ?_); exact q1n rfl rfl ⟨rfl, (Ext.refl w).row _, hB⟩
theorem z1b {s : ByteArray} {pos : Nat} {l : List Qy.Tok} (h : Qy.toks ((sb s).drop pos) pos = l) : Qy.toks ((sb s).drop (pos + Qy.ws ((sb s).drop pos))) (pos + Qy.ws ((sb s).drop pos)) = l ∧ ∃ r, l = Qy.scan ((sb s).drop pos) pos :: r := by
  constructor
  · rw [← h, ← List.drop_drop, Qy.toks_skip]
  · rw [← h]; exact Qy.toks_cons _ _
theorem pos_ws {s : ByteArray} {pos : Nat} (h : pos ≤ s.size) : pos + Qy.ws ((sb s).drop pos) ≤ s.size := by
  have := Qy.ws_le ((sb s).drop pos); rw [List.length_drop, q3h] at this; omega
theorem q4v (g : Nat) (s : ByteArray) (st : PS) (hs : s.size ≤ 1000000) (w : World) (h : PSt w g s st) :
    Calls Tryz.prog 114 #[.pointer (some ⟨g, 0, none⟩)] w fun r w' => r = .returned (.tuple #[]) ∧ w.grownBy w' (some g) ∧ PSt w' g s (unx st) := by
  refine q0k Tryz.func114 rfl Tryz.ntmps114 rfl ?_; obtain ⟨pos, off, err, hp, hB, hst⟩ := h; have hg0 := hB.lt; have hp' := pos_ws hp; obtain ⟨T, hT⟩ : ∃ T, T = Qy.scan ((sb s).drop pos) pos := ⟨_, rfl⟩; have hoff : T.off = pos + Qy.ws ((sb s).drop pos) := by rw [hT]; exact Qy.scan_off _ _
  have hpk := gpeek g s pos off err hp hs w hB; rw [← hT] at hpk; (refine q0b<|q0a<|m_P rfl ?_); refine L_fn hpk rfl ?_; rintro e w1 ⟨rfl, G1, B1⟩; refine ⟨_, rfl, ?_⟩; obtain ⟨p', hp'e⟩ : ∃ p', p' = pos + Qy.ws ((sb s).drop pos) := ⟨_, rfl⟩; rw [← hp'e] at B1 hp' hoff; refine q0x ?_; intro g2 w2 B2 hg2 E2 hs2; have hz := G1.size; refine q0l (size := 2) rfl rfl rfl q5d B2 rfl ?_; intro w3 B3 hg3 hs3; have C3 := (B1.ext E2).grown hg3 (by simp; omega); have G3 : w.grownBy w3 (some g) := q0d (q0d G1 E2 (fun _ h => by cases h)) hg3 (fun g h => by cases h; exact .inr (by omega)); have fin : ∀ (er : Nat) (w4 : World), (er = 131 ∧ T.kind = 0 ∨ er = 130 ∧ T.kind ≠ 0) → w3.grownBy w4 (some g) → Blk w4 g 205 (if err = 0 then pC s p' p' er else pC s p' off err) → w.grownBy w4 (some g) ∧ PSt w4 g s (unx st) := by
    intro er w4 her G4 B4; refine ⟨q0d G3 G4 (fun g h => .inl h), ?_⟩; cases st with
    | ok l =>
      obtain ⟨rfl, rfl, ht⟩ := hst; obtain ⟨_, r, hl⟩ := z1b ht; rw [if_pos rfl] at B4; refine ⟨p', p', er, hp', B4, ?_⟩; rw [← hT] at hl; show p' = (Qy.unexp l).1 ∧ er = (Qy.unexp l).2 ∧ (Qy.unexp l).2 ≠ 0; rw [hl]; rcases her with ⟨h1, h2⟩ | ⟨h1, h2⟩
      · simp [Qy.unexp, hoff, h1, h2]
      · have : (T.kind == 0) = false := (by simp [h2]); simp [Qy.unexp, hoff, h1, this]
    | error e =>
      obtain ⟨h1, h2, h3⟩ := hst; rw [if_neg (by omega)] at B4; exact ⟨p', off, err, hp', B4, h1, h2, h3⟩
  by_cases hk : T.kind = 0
  · (refine q0c<|tn<|q0b<|q0a<|Ls (q0g rfl)<|Ls (X_ld rfl B3 rfl)<|Ls (q3v rfl rfl (by omega))<|q0c<|tn<|q0t rfl<|q0a<|m_P rfl<|m_P rfl<|Ls (q1t rfl)<|Ls (q0g rfl)<|Ls (X_ld rfl C3 rfl) ?_); refine L_fn (gfail g s p' off err p' 131 w3 C3) rfl ?_; rintro e w4 ⟨rfl, G4, B4⟩; refine ⟨_, rfl, ?_⟩; (refine q0c ?_); have := fin 131 w4 (.inl ⟨rfl, hk⟩) G4 B4; exact q1n rfl rfl ⟨rfl, this⟩
  · (refine q0c<|tn<|q0b<|q0a<|Ls (q0g rfl)<|Ls (X_ld rfl B3 rfl)<|Ls (q5p rfl rfl (by omega))<|q0c<|tn<|q0o rfl<|q0a<|m_P rfl<|m_P rfl<|Ls (q1t rfl)<|Ls (q0g rfl)<|Ls (X_ld rfl C3 rfl) ?_); refine L_fn (gfail g s p' off err p' 130 w3 C3) rfl ?_; rintro e w4 ⟨rfl, G4, B4⟩; refine ⟨_, rfl, ?_⟩; (refine q0c ?_); have := fin 130 w4 (.inr ⟨rfl, hk⟩) G4 B4; exact q1n rfl rfl ⟨rfl, this⟩
structure TokX (k : Nat) (x : List Nat) : Prop where
  kk : k < 256
  ne : x ≠ []
  b : ∀ c ∈ x, c < 256
  l : x.length ≤ 1000
  t : ∀ l i, (Qy.scan l i).text = x → (Qy.scan l i).kind = k
theorem q5k {x : List Nat} (hne : x ≠ []) (hx : ∀ c ∈ x, Qy.isLo c = true) (hl : x.length ≤ 1000) : TokX 1 x := by
  refine ⟨by decide, hne, fun c hc => by have := (Qy.isLo_iff c).1 (hx c hc); omega, hl, fun l i h => ?_⟩; rcases Qy.scan_kinds l i with ⟨_, ht, _⟩ | ⟨hk, _⟩ | ⟨_, ht, _⟩ | ⟨_, ht⟩ | ⟨_, ht, _⟩
  · exact (hne (h.symm.trans ht)).elim
  · exact hk
  · cases x with
    | nil => exact (hne rfl).elim
    | cons c x =>
      have h1 := (Qy.isLo_iff c).1 (hx c (by simp)); have h2 := (Qy.isDi_iff c).1 (ht c (by rw [h]; simp)); omega
  · rw [h] at ht; rcases ht with rfl | rfl
    · have := hx 61 (by simp); cases this
    · have := hx 46 (by simp); cases this
  · exact (hne (h.symm.trans ht)).elim
theorem tokX_sym {x : List Nat} (hx : x = [61] ∨ x = [46, 46]) : TokX 3 x := by
  refine ⟨by decide, by rcases hx with rfl | rfl <;> decide, by rcases hx with rfl | rfl <;> decide, by rcases hx with rfl | rfl <;> decide, fun l i h => ?_⟩; rcases Qy.scan_kinds l i with ⟨_, ht, _⟩ | ⟨_, ht, _⟩ | ⟨_, ht, _⟩ | ⟨hk, _⟩ | ⟨_, ht, _⟩
  · rw [h] at ht; rcases hx with rfl | rfl <;> cases ht
  · rw [h] at ht; rcases hx with rfl | rfl
    · have := ht 61 (by simp); cases this
    · have := ht 46 (by simp); cases this
  · rw [h] at ht; rcases hx with rfl | rfl
    · have := ht 61 (by simp); cases this
    · have := ht 46 (by simp); cases this
  · exact hk
  · rw [h] at ht; rcases hx with rfl | rfl <;> cases ht
theorem tok_b {l : List Nat} (h8 : ∀ c ∈ l, c < 256) (i : Nat) : ∀ c ∈ (Qy.scan l i).text, c < 256 := by
  obtain ⟨r, h⟩ := Qy.scan_prefix l i; intro c hc; exact h8 c (List.dropWhile_suffix Qy.isWs |>.subset (by rw [h]; exact List.mem_append_left _ hc))
theorem toks_next {s : ByteArray} {pos : Nat} {l r : List Qy.Tok} (hp : pos ≤ s.size) (h : Qy.toks ((sb s).drop pos) pos = l) (hl : l = Qy.scan ((sb s).drop pos) pos :: r) (hk : (Qy.scan ((sb s).drop pos) pos).text ≠ [] ∨ (Qy.scan ((sb s).drop pos) pos).kind = 2) :
    pos + Qy.ws ((sb s).drop pos) + (Qy.scan ((sb s).drop pos) pos).text.length ≤ s.size ∧
    Qy.toks ((sb s).drop (pos + Qy.ws ((sb s).drop pos) + (Qy.scan ((sb s).drop pos) pos).text.length)) (pos + Qy.ws ((sb s).drop pos) + (Qy.scan ((sb s).drop pos) pos).text.length) = r := by
  have hf := Qy.scan_fits ((sb s).drop pos) pos; rw [List.length_drop, q3h] at hf; refine ⟨by omega, ?_⟩; have hb : ((Qy.scan ((sb s).drop pos) pos).kind == 0 || (Qy.scan ((sb s).drop pos) pos).kind == 4) = false := by
    rcases Qy.scan_kinds ((sb s).drop pos) pos with ⟨k, t, _⟩ | ⟨k, _⟩ | ⟨k, _⟩ | ⟨k, _⟩ | ⟨k, t, _⟩ <;> rw [k]
    · rcases hk with hk | hk
      · exact (hk t).elim
      · omega
    · rfl
    · rfl
    · rfl
    · rcases hk with hk | hk
      · exact (hk t).elim
      · omega
  rw [Qy.toks_eq, hb] at h; simp only [cond_false] at h; rw [← h, List.drop_drop] at hl; injection hl with _ hl; rw [← hl, Nat.add_assoc]
set_option maxRecDepth 100000 in
set_option maxHeartbeats 4000000 in
theorem q8h (g : Nat) (s : ByteArray) (st : PS) (k : Nat) (x : List Nat) (hX : TokX k x) (hs : s.size ≤ 1000000) (w : World) (h : PSt w g s st) :
    Calls Tryz.prog 165 #[.pointer (some ⟨g, 0, none⟩), .agg (tkC k x).toArray] w fun e w' => ∃ b : Bool, e = .returned (.bool b) ∧ w.grownBy w' (some g) ∧
      (b = true ∧ (∃ l r, st = .ok l ∧ Qy.acc x l = some r ∧ PSt w' g s (.ok r)) ∨ b = false ∧ PSt w' g s st ∧ ∀ l, st = .ok l → Qy.acc x l = none) := by
  refine q0k Tryz.func165 rfl Tryz.ntmps165 rfl ?_; have hg0 := h.lt; (refine q0b<|q0a ?_); refine q3k (l := tkC k x) rfl ?_; intro g3 w1 B3 hg3 E1 hs1; have h := h.ext E1; (refine a_B rfl<|q0c<|tn<|q0b<|q0b ?_); cases st with
  | error e =>
    obtain ⟨pos, off, err, hp, hB, h1, h2, h3⟩ := h; have herr : ¬ (err : Int) = 0 := (by omega); skip; apply q1q 11 (by kernel_rfl); (apply DW_x (fun r w hA hH => (q0e (v := .pointer _) rfl).trans rfl); apply DW_x (fun r w hA hH => (q1t rfl).trans rfl); apply DW_x (fun r w hA hH => (q0g rfl).trans rfl); apply DW_x (fun r w hA hH => (X_ld rfl (hB.ext hA) rfl).trans rfl); apply DW_x (fun r w hA hH => (q3i rfl rfl (by omega)).trans rfl); apply DW_x (fun r w hA hH => (q0e (v := .bool _) rfl).trans rfl); apply q0u rfl rfl (fun _ => rfl) rfl; apply q0u rfl rfl (fun _ => rfl) rfl; apply q0u rfl rfl (fun _ => rfl) rfl; apply q0u rfl rfl (fun _ => rfl) rfl; apply DW_x (fun r w hA hH => (q0m (v := .bool _) rfl rfl).trans rfl)); ((with_reducible exact q1y); (exact rfl); (repeat (first | exact .inr (.inr (fun _ _ => by with_reducible rfl)) | (refine And.intro ?_ ?_) | exact .inr (.inl rfl) | exact .inl (by decide +kernel) | exact trivial | exact .inr (.inr (fun _ _ => rfl)))); (try dsimp only [Nat.reduceAdd])); intro r w2 E2 _; (refine q0c<|tn<|q0t rfl<|q0b<|q0a<|a_B rfl<|q0c<|tn<|q0s<|tr ?_); exact q0f rfl rfl (v := .bool false) rfl ⟨false, rfl, (E1.trans E2).row _, .inr ⟨rfl, ⟨pos, off, err, hp, hB.ext E2, h1, h2, h3⟩, fun l hl => by cases hl⟩⟩
  | ok l =>
    obtain ⟨pos, off, err, hp, hB, rfl, rfl, ht⟩ := h; obtain ⟨hta, r0, hl⟩ := z1b ht; have hnx := fun hk => toks_next hp ht hl hk; have hpk := fun (w : World) hB => gpeek g s pos 0 0 hp hs w hB; have hp' := pos_ws hp; have hXt := hX.t ((sb s).drop pos) pos; have htb := tok_b (l := (sb s).drop pos) (fun c hc => q9g s c (List.mem_of_mem_drop hc)) pos; have htl : (Qy.scan ((sb s).drop pos) pos).text.length ≤ s.size := by
      have := Qy.scan_fits ((sb s).drop pos) pos; rw [List.length_drop, q3h] at this; omega
    have hkk : (Qy.scan ((sb s).drop pos) pos).kind < 256 := by
      rcases Qy.scan_kinds ((sb s).drop pos) pos with ⟨k, _⟩ | ⟨k, _⟩ | ⟨k, _⟩ | ⟨k, _⟩ | ⟨k, _⟩ <;> omega
    obtain ⟨t, hT⟩ : ∃ t, t = Qy.scan ((sb s).drop pos) pos := ⟨_, rfl⟩; obtain ⟨p', hpe⟩ : ∃ p', p' = pos + Qy.ws ((sb s).drop pos) := ⟨_, rfl⟩; rw [← hT, ← hpe] at hnx; rw [← hpe] at hp' hta; rw [← hT] at hXt htb htl hkk hl; simp only [← hT, ← hpe] at hpk; clear hT hpe; have h13 : g3 ≠ g := (by omega); obtain ⟨q, hq⟩ : ∃ q, q = decide (¬ (t.kind = k ∧ t.text = x)) := ⟨_, rfl⟩; have hq' : q = true ↔ ¬ (t.kind = k ∧ t.text = x) := (by rw [hq, decide_eq_true_iff]); apply W_dagG 7 g (fun w' => Blk w' g 205 (pC s pos 0 0)) 11 (by kernel_rfl) (hB.ext (Ext.drew _)) (fun _ _ E h => h.ext E); (apply DW_x (fun r w hA hH => (q0e (v := .pointer _) rfl).trans rfl); apply DW_x (fun r w hA hH => (q1t rfl).trans rfl); apply DW_x (fun r w hA hH => (q0g rfl).trans rfl); apply DW_x (fun r w hA hH => (X_ld rfl (hA.pre (.inr rfl)) rfl).trans rfl); apply DW_x (fun r w hA hH => (q2t rfl rfl (by omega)).trans rfl); apply DW_x (fun r w hA hH => (q0e (v := .bool _) rfl).trans rfl); apply q1f rfl rfl (fun _ => rfl) (fun r w hA hH => (q0e (v := .pointer _) rfl).trans rfl)); ((with_reducible apply DW_fr2 (F := fun v w' => v = .agg (tkC t.kind t.text).toArray ∧ Blk w' g 205 (pC s p' 0 0))); (exact rfl); (exact rfl); (exact fun _ => rfl); (exact fun _ => rfl); (exact fun r w hA hH => (hpk w (hA.pre (.inl rfl))).mono fun e w' ⟨he, hg, hb⟩ => ⟨_, he, .inr ⟨rfl, hg⟩, rfl, hb⟩); (exact fun i u w w' hi ht hR h => ⟨h.1, h.2.ext (hR.other hi)⟩)); (apply q1f rfl rfl (fun _ => rfl) (fun r w hA hH => (q2m (size := 2) rfl (B3.grown hA.g (by simp; omega)) rfl).trans rfl)); ((with_reducible apply q1f); (exact rfl); (exact rfl); (exact fun _ => rfl); (exact fun r w hA hH => (X_neqTok hkk hX.kk (by omega) (by have := hX.l; omega) htb hX.b (by exact (hH 7 rfl).1) rfl hq').trans rfl)); (apply DW_x (fun r w hA hH => (q0r (v := .bool _) rfl rfl).trans rfl)); ((with_reducible exact q1y); (exact rfl); (repeat (first | exact .inr (.inr (fun _ _ => by with_reducible rfl)) | (refine And.intro ?_ ?_) | exact .inr (.inl rfl) | exact .inl (by decide +kernel) | exact trivial | exact .inr (.inr (fun _ _ => rfl)))); (try dsimp only [Nat.reduceAdd])); intro r w2 G2 H2; obtain ⟨_, B2⟩ : _ ∧ Blk w2 g 205 (pC s p' 0 0) := H2 7; have C3 := B3.grown G2 (by simp; omega); have Ga := q0d (E1.row (some g)) G2 (fun g h => .inl h); by_cases hhit : t.kind = k ∧ t.text = x
    · obtain rfl : q = false := (by rw [hq, decide_eq_false (by simpa using hhit)]); obtain ⟨hn1, hn2⟩ := hnx (.inl (by rw [hhit.2]; exact hX.ne)); rw [hhit.2] at hn1 hn2; (refine q0c<|tn<|q0o rfl<|q0n<|tn<|q0b ?_); apply q1q 10 (by kernel_rfl); (apply DW_x (fun r w hA hH => (q0e (v := .pointer _) rfl).trans rfl); apply DW_x (fun r w hA hH => (q1t rfl).trans rfl); apply DW_x (fun r w hA hH => (q0g rfl).trans rfl); apply DW_x (fun r w hA hH => (X_ld rfl (B2.ext hA) rfl).trans rfl); apply DW_x (fun r w hA hH => (q0g rfl).trans rfl); apply DW_x (fun r w hA hH => (X_ld rfl (C3.ext hA) rfl).trans rfl); apply DW_x (fun r w hA hH => ((q3n (s := strB x) rfl).trans (by rw [q4t])).trans rfl); apply DW_x (fun r w hA hH => (q1j rfl rfl (by omega)).trans rfl); apply DW_x (fun r w hA hH => (q1t rfl).trans rfl); apply DW_x (fun r w hA hH => (q0g rfl).trans rfl)); ((with_reducible exact q1y); (exact rfl); (repeat (first | exact .inr (.inr (fun _ _ => by with_reducible rfl)) | (refine And.intro ?_ ?_) | exact .inr (.inl rfl) | exact .inl (by decide +kernel) | exact trivial | exact .inr (.inr (fun _ _ => rfl)))); (try dsimp only [Nat.reduceAdd])); intro r3 w3 E3 _; refine q1d rfl (v := .int _ _) rfl rfl (B2.ext E3) (by simp [pC]) ?_; intro w4 B4 hg4 _; (refine q0c<|tn<|q0b<|q0a<|a_B rfl<|q0c<|tn<|q0s ?_); refine q0f rfl rfl (v := .bool true) rfl ⟨true, rfl, q0d (q0d Ga E3 (fun _ h => by cases h)) hg4 (fun g h => .inl h), .inl ⟨rfl, l, r0, rfl, ?_, p' + x.length, 0, 0, hn1, ?_, rfl, rfl, hn2⟩⟩
      · rw [hl]; simp [Qy.acc, hhit.2]
      · rw [show pC s (p' + x.length) 0 0 = (pC s p' 0 0).set 1 (.int .i64 ((p' : Int) + (x.length : Nat))) from by simp [pC]]; exact B4
    · obtain rfl : q = true := (by rw [hq, decide_eq_true hhit]); (refine q0c<|tn<|q0t rfl<|q0b<|q0a<|a_B rfl<|q0c<|tn<|q0s<|tr ?_); refine q0f rfl rfl (v := .bool false) rfl ⟨false, rfl, Ga, .inr ⟨rfl, ⟨p', 0, 0, hp', B2, rfl, rfl, hta⟩, fun l' hl' => ?_⟩⟩; injection hl' with hl'; rw [← hl', hl]; have : ¬ t.text = x := fun e => hhit ⟨hXt e, e⟩; simp [Qy.acc, this]
theorem z1k {k : IntKind} {a b : Int} (h : a = b) : Ending.returned (.int k a) = .returned (.int k b) := by rw [h]
theorem var_of_heap {P : Program} {w w' : World} {name : String} {g : Nat} (hg : P.globalNamed name = some g) (hh : w'.heap[g]? = w.heap[g]?) : w'.var? P name = w.var? P name := by
  unfold World.var?; rw [hg]; simp only [Option.bind_some, hh]
theorem gPow : Tryz.prog.globalNamed "internal/strconv.uint64pow10" = some 6 := by kernel_rfl
theorem Tabs.grown {w w' : World} {g : Nat} (h : Tabs w) (hG : w.grownBy w' (some g)) (h1 : g ≠ 6) (h2 : g ≠ 8) : Tabs w' := by
  obtain ⟨te, pe, he⟩ := h.e; have l1 : 6 < w.heap.size := World.block_lt_of_cell? w ⟨6, 0, none⟩ (h.p.cell gPow 0 (by decide)); have l2 : 8 < w.heap.size := World.block_lt_of_cell? w ⟨8, 0, none⟩ he; refine ⟨(var_of_heap gPow (hG.block _ l1 (fun e => h1 (by injection e with e; exact e.symm)))).trans h.p, te, pe, ?_⟩; rw [← he]; unfold World.cell?; rw [hG.block _ l2 (fun e => h2 (by injection e with e; exact e.symm))]
theorem PSt.tabs {w w' : World} {g : Nat} {s : ByteArray} {st : PS} (hp : PSt w g s st) (h : Tabs w) (hG : w.grownBy w' (some g)) : Tabs w' := by
  obtain ⟨pos, off, err, _, hB, _⟩ := hp; have hc := hB.cell 0; refine h.grown hG (fun e => ?_) (fun e => ?_)
  · subst e; rw [h.p.cell gPow 0 (by decide)] at hc; cases hc
  · subst e; obtain ⟨te, pe, he⟩ := h.e; rw [he] at hc; cases hc
section
variable {P : Program} {n : NN} {f : Fr} {w : World} {d : Option Tmp} {t ty ty' : TypeId} {pos : String} {af : Array Edge} {g : Option (Nat × Bool)} {x y : Operand}
theorem X_neqNilF (hx : ev n f x = .nilIface) (hu : P.underlying ty = some (.interface (P.methodsAt ty))) : X P n ⟨d, .binOp .neq ty x (.const .nilIface) ty', t, pos, af, g⟩ f w = .ok (.value (.bool false)) w := by
  have e := run_equal_nil_nil w ty hu; have e2 : ev n f (.const .nilIface) = .nilIface := rfl; simp [X, execOp, hx, e2, eqGuard_nil_constR, binOp, e, Result.andThen]
theorem X_neqNilT {te : TypeId} {pe : Value} (hx : ev n f x = .iface te pe) (hu : P.underlying ty = some (.interface (P.methodsAt ty))) : X P n ⟨d, .binOp .neq ty x (.const .nilIface) ty', t, pos, af, g⟩ f w = .ok (.value (.bool true)) w := by
  have e := run_equal_held_nil w ty te pe hu; have e2 : ev n f (.const .nilIface) = .nilIface := rfl; have e3 : ∀ c : Operand, eqGuard .neq ty x c (.iface te pe) .nilIface = pure () := fun _ => rfl; simp [X, execOp, hx, e2, e3, binOp, e, Result.andThen]
end
theorem gexpect (g : Nat) (s : ByteArray) (st : PS) (k : Nat) (x : List Nat) (hX : TokX k x) (hs : s.size ≤ 1000000) (w : World) (h : PSt w g s st) :
    Calls Tryz.prog 169 #[.pointer (some ⟨g, 0, none⟩), .agg (tkC k x).toArray] w fun e w' => e = .returned (.tuple #[]) ∧ w.grownBy w' (some g) ∧ PSt w' g s (after st (Qy.expect x)) := by
  refine q0k Tryz.func169 rfl Tryz.ntmps169 rfl ?_; (refine q0b<|q0a ?_); refine q3k (l := tkC k x) rfl ?_; intro g3 w1 B3 hg3 E1 hs1; have h := h.ext E1; (refine q0c<|tn<|q0b<|q0a<|m_P rfl<|Ls (q2m (size := 2) rfl B3 rfl) ?_); refine L_fn (q8h g s st k x hX hs w1 h) rfl ?_; rintro e w2 ⟨b, rfl, G2, hb⟩; refine ⟨_, rfl, ?_⟩; have Ga := q0d (E1.row (some g)) G2 (fun g h => .inl h); rcases hb with ⟨rfl, l, r, rfl, ha, hP⟩ | ⟨rfl, hP, hno⟩
  · (refine Ls (q1x rfl)<|q0c<|tn<|q0o rfl<|q0n ?_); refine q1n rfl rfl ⟨rfl, Ga, ?_⟩; simpa [after, Qy.expect, ha] using hP
  · (refine Ls (q1x rfl)<|q0c<|tn<|q0t rfl<|q0a<|m_P rfl ?_); refine L_fn (q4v g s st hs w2 hP) rfl ?_; rintro e w3 ⟨rfl, G3, hP3⟩; refine ⟨_, rfl, ?_⟩; (refine q0c ?_); refine q1n rfl rfl ⟨rfl, q0d Ga G3 (fun g h => .inl h), ?_⟩; cases st with
    | error e => exact hP3
    | ok l => simpa [after, unx, Qy.expect, hno l rfl] using hP3
theorem tErr : Tryz.prog.underlying 360 = some (.interface (Tryz.prog.methodsAt 360)) := by kernel_rfl
set_option maxRecDepth 100000 in
set_option maxHeartbeats 8000000 in
theorem z1q (g : Nat) (s : ByteArray) (st : PS) (lo hi : Nat) (hlo : lo ≤ 1073741824) (hhi : hi ≤ 65536) (hs : s.size ≤ 100000) (w : World) (hw : Tabs w) (h : PSt w g s st) :
    Calls Tryz.prog 167 #[.pointer (some ⟨g, 0, none⟩), .int .i64 (lo : Nat), .int .i64 (hi : Nat)] w fun e w' => ∃ n : Nat, e = .returned (.int .i64 (n : Nat)) ∧ n ≤ 1073741824 ∧ w.grownBy w' (some g) ∧
      PSt w' g s (after st (Qy.num lo hi)) ∧ q3g st (Qy.num lo hi) n := by
  refine q0k Tryz.func167 rfl Tryz.ntmps167 rfl ?_; obtain ⟨pos, off, err, hp, hB, hst⟩ := id h; have hg0 := hB.lt; have hp' := pos_ws hp; have hkinds := Qy.scan_kinds ((sb s).drop pos) pos; have htb := tok_b (l := (sb s).drop pos) (fun c hc => q9g s c (List.mem_of_mem_drop hc)) pos; have htl : (Qy.scan ((sb s).drop pos) pos).text.length ≤ s.size := by
    have := Qy.scan_fits ((sb s).drop pos) pos; rw [List.length_drop, q3h] at this; omega
  have hpk := fun (w : World) hB => gpeek g s pos off err hp (by omega) w hB; have hoff := Qy.scan_off ((sb s).drop pos) pos; have hsk : ∀ l, st = .ok l → off = 0 ∧ err = 0 ∧ (∃ r, l = Qy.scan ((sb s).drop pos) pos :: r ∧ ((Qy.scan ((sb s).drop pos) pos).kind = 2 → pos + Qy.ws ((sb s).drop pos) + (Qy.scan ((sb s).drop pos) pos).text.length ≤ s.size ∧
      Qy.toks ((sb s).drop (pos + Qy.ws ((sb s).drop pos) + (Qy.scan ((sb s).drop pos) pos).text.length)) (pos + Qy.ws ((sb s).drop pos) + (Qy.scan ((sb s).drop pos) pos).text.length) = r)) ∧ Qy.toks ((sb s).drop (pos + Qy.ws ((sb s).drop pos))) (pos + Qy.ws ((sb s).drop pos)) = l := fun l hl => by
    subst hl; obtain ⟨h1, h2, h3⟩ := hst; obtain ⟨h4, r, h5⟩ := z1b h3; exact ⟨h1, h2, ⟨r, h5, fun hk => toks_next hp h3 h5 (.inr hk)⟩, h4⟩
  have hse : ∀ e, st = .error e → off = e.1 ∧ err = e.2 ∧ e.2 ≠ 0 := fun e he => by subst he; exact hst
  clear hst; obtain ⟨t, hT⟩ : ∃ t, t = Qy.scan ((sb s).drop pos) pos := ⟨_, rfl⟩; obtain ⟨p', hpe⟩ : ∃ p', p' = pos + Qy.ws ((sb s).drop pos) := ⟨_, rfl⟩; simp only [← hT, ← hpe] at hpk hsk hkinds htb htl hp' hoff; clear hT hpe; (refine q0b<|q0a<|a_I rfl<|q0c<|tn<|q0b<|q0a<|m_P rfl ?_); refine L_fn (hpk w hB) rfl ?_; rintro e w1 ⟨rfl, G1, B1⟩; refine ⟨_, rfl, ?_⟩; refine q0x ?_; intro g2 w2 B2 hg2 E2 hs2; have hz := G1.size; refine q0l (size := 2) rfl rfl rfl q5d B2 rfl ?_; intro w3 B3 hg3 hs3; have C3 := (B1.ext E2).grown hg3 (by simp; omega); have G3 : w.grownBy w3 (some g) := q0d (q0d G1 E2 (fun _ h => by cases h)) hg3 (fun g h => by cases h; exact .inr (by omega)); have hw3 := h.tabs hw G3; by_cases hk : t.kind = 2
  · obtain ⟨hd, hne⟩ : (∀ c ∈ t.text, Qy.isDi c = true) ∧ t.text ≠ [] := by
      rcases hkinds with ⟨k, _⟩ | ⟨k, _⟩ | ⟨_, h⟩ | ⟨k, _⟩ | ⟨k, _⟩ <;> first | exact h | omega
    obtain ⟨v, hv⟩ : ∃ v, v = Qy.val t.text := ⟨_, rfl⟩; have hat := gatoi t.text hne hd (by omega) w3 hw3; rw [← hv] at hat; obtain ⟨m, hm⟩ : ∃ m, m = min v 1073741824 := ⟨_, rfl⟩; have hgood : (lo ≤ m ∧ m ≤ hi ↔ lo ≤ v ∧ v ≤ hi) := (by omega); have hm2 : m ≤ 1073741824 := (by omega)
    -- what the rest makes of it
    have fin : ∀ (w5 : World), w.grownBy w5 (some g) → (Blk w5 g 205 (pC s (p' + t.text.length) 0 0) ∧ err = 0 ∧ (lo ≤ m ∧ m ≤ hi) ∨ Blk w5 g 205 (pC s p' p' 1) ∧ err = 0 ∧ ¬ (lo ≤ m ∧ m ≤ hi) ∨ Blk w5 g 205 (pC s p' off err) ∧ err ≠ 0) →
        ∃ n : Nat, Ending.returned (.int .i64 (m : Nat)) = .returned (.int .i64 (n : Nat)) ∧ n ≤ 1073741824 ∧ w.grownBy w5 (some g) ∧ PSt w5 g s (after st (Qy.num lo hi)) ∧ q3g st (Qy.num lo hi) n := by
      intro w5 G5 hB5; have hk2 : (t.kind == 2) = true := (by simp [hk]); refine ⟨m, rfl, hm2, G5, ?_, ?_⟩
      · cases st with
        | error e =>
          obtain ⟨h1, h2, h3⟩ := hse e rfl; rcases hB5 with ⟨_, h, _⟩ | ⟨_, h, _⟩ | ⟨hB5, _⟩
          · omega
          · omega
          · exact ⟨p', off, err, hp', hB5, h1, h2, h3⟩
        | ok l =>
          obtain ⟨h1, h2, ⟨r, hl, hr⟩, h4⟩ := hsk l rfl; obtain ⟨hr1, hr2⟩ := hr hk; subst hl; rcases hB5 with ⟨hB5, _, hgd⟩ | ⟨hB5, _, hgd⟩ | ⟨_, h⟩
          · have hgd' := hgood.1 hgd; have hn : Qy.num lo hi (t :: r) = .ok (v, r) := by
              simp only [Qy.num, hk2, cond_true, ← hv, Nat.ble_eq_true_of_le hgd'.1, Nat.ble_eq_true_of_le hgd'.2, Bool.and_true]
            simp only [after, hn]; exact ⟨_, 0, 0, hr1, hB5, rfl, rfl, hr2⟩
          · have hn : Qy.num lo hi (t :: r) = .error (t.off, 1) := by
              have hb : (Nat.ble lo v && Nat.ble v hi) = false := by
                rw [Bool.eq_false_iff]; intro hh; simp at hh; exact hgd (hgood.2 hh)
              simp only [Qy.num, hk2, cond_true, ← hv, hb, cond_false]
            simp only [after, hn]; exact ⟨p', p', 1, hp', hB5, hoff.symm, rfl, by simp⟩
          · exact (h h2).elim
      · intro l hl a q ha; obtain ⟨_, _, ⟨r, hl', _⟩, _⟩ := hsk l hl; subst hl'; simp only [Qy.num, hk2, cond_true, ← hv] at ha; cases hb : (Nat.ble lo v && Nat.ble v hi)
        · rw [hb] at ha; cases ha
        · rw [hb] at ha; simp at hb; injection ha with ha; injection ha with ha _; omega
    (refine q0c<|tn<|q0b<|q0b<|q0a<|Ls (q0g rfl)<|Ls (X_ld rfl B3 rfl)<|Ls (q2t rfl rfl (by omega))<|q0c<|tn<|q0o rfl<|q0n<|tn<|q0b<|q0a<|Ls (q0g rfl)<|Ls (X_ld rfl B3 rfl) ?_); refine L_fn hat rfl ?_; rintro e w4 ⟨n, ev, rfl, E4, hev⟩; refine ⟨_, rfl, ?_⟩; have C4 := C3.ext E4; have B4 := B3.ext E4; have G4 := q0d G3 E4 (fun _ h => by cases h); clear B3 C3 B1 hB B2; rcases hev with ⟨hev, rfl⟩ | ⟨⟨ty, pe, hev⟩, hbig⟩; case' inl => by_cases hsm : v ≤ 1073741824
    case' pos => have hmm : m = v := by omega
    case' neg => have hmm : m = 1073741824 := by omega
    case' inr => have hmm : m = 1073741824 := by omega
    all_goals
      clear hm hgood hkinds hat hpk hd hne htb hw hw3 hv
      by_cases hl : m < lo
    all_goals (try (exfalso; omega))
    all_goals by_cases hbad : lo ≤ m ∧ m ≤ hi
    all_goals (try (exfalso; omega))
    all_goals by_cases he0 : err = 0
    all_goals repeat (first | (with_reducible refine tn ?_) | (with_reducible refine q0b ?_) | (with_reducible refine q0a ?_) | (with_reducible refine q0n ?_) | (with_reducible refine q0s ?_) | (with_reducible refine q0c ?_) | ((with_reducible refine z0m ?_); (first | ((with_reducible refine i_ng ?_); (first | refine Ls (q0e (v := .int _ _) rfl) ?_ | refine Ls (q0e (v := .bool _) rfl) ?_ | refine Ls (q0e (v := .pointer _) rfl) ?_ | refine Ls (q0e (v := .tuple _) rfl) ?_ | refine Ls (q0e (v := ev) rfl) ?_)) | ((with_reducible refine i_gd ?_); refine Lg2 rfl rfl rfl (q0e (v := .int _ _) rfl) ?_))) | ((with_reducible refine q6q ?_); ((with_reducible refine i_ng ?_); (first | refine Ls (q0i (v := .int _ _) rfl) ?_ | refine Ls (q0i (v := ev) rfl) ?_))) | ((with_reducible refine i_lss ?_); ((with_reducible refine i_ng ?_); (first | refine Ls (q3j rfl rfl (by omega)) ?_ | refine Ls (q3f rfl rfl (by omega)) ?_))) | ((with_reducible refine i_gtr ?_); ((with_reducible refine i_gd ?_); (first | refine Lg2 rfl rfl rfl (z0w rfl rfl (by omega)) ?_ | refine Lg2 rfl rfl rfl (q7b rfl rfl (by omega)) ?_))) | ((with_reducible refine i_eql ?_); ((with_reducible refine i_ng ?_); (first | refine Ls (q3v rfl rfl (by omega)) ?_ | refine Ls (q5p rfl rfl (by omega)) ?_))) | ((with_reducible refine i_neq ?_); ((with_reducible refine i_ng ?_); (first | refine Ls (X_neqNilT hev tErr) ?_ | refine Ls (X_neqNilF hev tErr) ?_))) | ((with_reducible refine i_fld ?_); ((with_reducible refine i_ng ?_); refine Ls (q0g rfl) ?_)) | ((with_reducible refine i_nil ?_); ((with_reducible refine i_ng ?_); refine Ls (q1t rfl) ?_)) | ((with_reducible refine i_ext ?_); ((with_reducible refine i_ng ?_); refine Ls (q0y rfl rfl) ?_)) | ((with_reducible refine z0l ?_); ((with_reducible refine i_ng ?_); (first | refine Ls (q0m (v := .bool _) rfl rfl) ?_ | refine Ls (q0r (v := .bool _) rfl rfl) ?_))) | ((with_reducible refine z0n ?_); ((with_reducible refine i_ng ?_); refine Ls (X_ld rfl C4 rfl) ?_)) | ((with_reducible refine i_gd ?_); refine Lo2 rfl rfl rfl rfl ?_) | (with_reducible refine q0t rfl ?_) | (with_reducible refine q0o rfl ?_))
    all_goals first
      | (have hgd := hbad.1
         have hz0 : err = 0 := he0
         apply q1q 10 (by kernel_rfl)
         (apply DW_x (fun r w hA hH => (q0e (v := .pointer _) rfl).trans rfl); apply DW_x (fun r w hA hH => (q1t rfl).trans rfl); apply DW_x (fun r w hA hH => (q0g rfl).trans rfl); apply DW_x (fun r w hA hH => (X_ld rfl (C4.ext hA) rfl).trans rfl); apply DW_x (fun r w hA hH => (q0g rfl).trans rfl); apply DW_x (fun r w hA hH => (X_ld rfl (B4.ext hA) rfl).trans rfl); apply DW_x (fun r w hA hH => ((q3n (s := strB t.text) rfl).trans (by rw [q4t])).trans rfl); apply DW_x (fun r w hA hH => (q1j rfl rfl (by omega)).trans rfl); apply DW_x (fun r w hA hH => (q1t rfl).trans rfl); apply DW_x (fun r w hA hH => (q0g rfl).trans rfl))
         ((with_reducible exact q1y); (exact rfl); (repeat (first | exact .inr (.inr (fun _ _ => by with_reducible rfl)) | (refine And.intro ?_ ?_) | exact .inr (.inl rfl) | exact .inl (by decide +kernel) | exact trivial | exact .inr (.inr (fun _ _ => rfl)))); (try dsimp only [Nat.reduceAdd]))
         intro r5 w5 E5 _
         refine q1d rfl (v := .int _ _) rfl rfl (C4.ext E5) (by simp [pC]) ?_
         intro w6 B6 hg6 _
         (refine q0c<|tn<|q0b<|q0a<|m_I rfl<|a_I rfl<|q0c<|tn<|q0s ?_)
         obtain ⟨n, en, hn⟩ := fin w6 (q0d (q0d G4 E5 (fun _ h => by cases h)) hg6 (fun g h => .inl h)) (.inl ⟨by
           have hoo : off = 0 := by
             cases st with
             | ok l => exact (hsk l rfl).1
             | error e => obtain ⟨_, h2, h3⟩ := hse e rfl; omega
           rw [show pC s (p' + t.text.length) 0 0 = (pC s p' off err).set 1 (.int .i64 ((p' : Int) + (t.text.length : Nat))) from by simp [pC, hoo, he0]]
           exact B6, he0, hbad⟩)
         exact q0f rfl rfl (v := .int _ _) rfl ⟨n, (z1k (by omega)).trans en, hn⟩)
      | (have hgd := hbad.1
         obtain ⟨n, en, hn⟩ := fin w4 G4 (.inr (.inr ⟨C4, he0⟩))
         exact q0f rfl rfl (v := .int _ _) rfl ⟨n, (z1k (by omega)).trans en, hn⟩)
      | (refine L_fn (gfail g s p' off err p' 1 w4 C4) rfl ?_
         rintro e w5 ⟨rfl, G5, B5⟩
         refine ⟨_, rfl, ?_⟩
         have G5' := q0d G4 G5 (fun g h => .inl h)
         rw [if_pos he0] at B5
         (refine q0c<|tn<|q0b<|q0b<|q0a<|m_P rfl<|Ls (q1t rfl)<|Ls (q0g rfl)<|Ls (X_ld rfl B5 rfl)<|Ls (q5p rfl rfl (by omega))<|q0c<|tn<|q0o rfl<|q0n<|tn<|q0b<|q0a<|m_I rfl<|a_I rfl<|q0c<|tn<|q0s ?_)
         obtain ⟨n, en, hn⟩ := fin w5 G5' (.inr (.inl ⟨B5, he0, hbad⟩))
         exact q0f rfl rfl (v := .int _ _) rfl ⟨n, (z1k (by omega)).trans en, hn⟩)
      | (refine L_fn (gfail g s p' off err p' 1 w4 C4) rfl ?_
         rintro e w5 ⟨rfl, G5, B5⟩
         refine ⟨_, rfl, ?_⟩
         have G5' := q0d G4 G5 (fun g h => .inl h)
         rw [if_neg he0] at B5
         (refine q0c<|tn<|q0b<|q0b<|q0a<|m_P rfl<|Ls (q1t rfl)<|Ls (q0g rfl)<|Ls (X_ld rfl B5 rfl)<|Ls (q5p rfl rfl (by omega))<|q0c<|tn<|q0o rfl<|q0n<|tn<|q0b<|q0a<|m_I rfl<|a_I rfl<|q0c<|tn<|q0s ?_)
         obtain ⟨n, en, hn⟩ := fin w5 G5' (.inr (.inr ⟨B5, he0⟩))
         exact q0f rfl rfl (v := .int _ _) rfl ⟨n, (z1k (by omega)).trans en, hn⟩)
  · have hP3 : PSt w3 g s st := by
      cases st with
      | ok l => obtain ⟨h1, h2, _, h4⟩ := hsk l rfl; exact ⟨p', off, err, hp', C3, h1, h2, h4⟩
      | error e => obtain ⟨h1, h2, h3⟩ := hse e rfl; exact ⟨p', off, err, hp', C3, h1, h2, h3⟩
    (refine q0c<|tn<|q0b<|q0b<|q0a<|Ls (q0g rfl)<|Ls (X_ld rfl B3 rfl)<|Ls (q3i rfl rfl (by omega))<|q0c<|tn<|q0t rfl<|q0b<|q0a<|m_P rfl ?_); refine L_fn (q4v g s st (by omega) w3 hP3) rfl ?_; rintro e w4 ⟨rfl, G4, hP4⟩; refine ⟨_, rfl, ?_⟩; (refine q0c<|tn<|q0b<|q0a<|a_I rfl<|q0c<|tn<|q0s<|tr ?_); have hk2 : (t.kind == 2) = false := (by simp [hk]); refine q0f rfl rfl (v := .int _ _) rfl ⟨0, rfl, by omega, q0d G3 G4 (fun g h => .inl h), ?_, ?_⟩
    · cases st with
      | error e => exact hP4
      | ok l =>
        obtain ⟨_, _, ⟨r, hl, _⟩, _⟩ := hsk l rfl; subst hl; simpa [after, unx, Qy.num, hk2] using hP4
    · intro l hl a m ha; obtain ⟨_, _, ⟨r, hl', _⟩, _⟩ := hsk l hl; subst hl'; simp [Qy.num, hk2] at ha
theorem q2c {α β : Type} {st : PS} {r : List Qy.Tok → Qy.R α} {k : α → List Qy.Tok → Qy.R β} {v : α} (h : q3g st r v) : after st (fun l => Qy.bind (r l) k) = after (after st r) (k v) := by
  cases st with
  | error e => rfl
  | ok l =>
    simp only [after]; cases hr : r l with
    | error e => rfl
    | ok p =>
      obtain ⟨a, m⟩ := p; obtain rfl := h l rfl a m hr; rfl
theorem q2i {α β : Type} {st : PS} {r : List Qy.Tok → Qy.R α} {k : α → List Qy.Tok → Qy.R β} {v : α} {u : β} (h : q3g st r v) (h2 : q3g (after st r) (k v) u) : q3g st (fun l => Qy.bind (r l) k) u := by
  intro l hl a m ha; subst hl; dsimp only at ha; cases hr : r l with
  | error e => rw [hr] at ha; cases ha
  | ok p =>
    obtain ⟨b, q⟩ := p; obtain rfl := h l rfl b q hr; rw [hr] at ha; exact h2 q (by simp only [after, hr]) a m ha
theorem q4d {α : Type} (st : PS) (x : α) : after st (fun l => .ok (x, l)) = st := by cases st <;> rfl
theorem q4b {α : Type} (st : PS) (x : α) : q3g st (fun l => .ok (x, l)) x := by
  intro l _ a m h; injection h with h; injection h with h _; exact h.symm
theorem q4y {α : Type} {st : PS} {r r' : List Qy.Tok → Qy.R α} (h : ∀ l, st = .ok l → r l = r' l) : after st r = after st r' := by
  cases st with
  | error e => rfl
  | ok l => simp only [after, h l rfl]
theorem q4w {α : Type} {st : PS} {r r' : List Qy.Tok → Qy.R α} {v : α} (h : ∀ l, st = .ok l → r l = r' l) (hg : q3g st r' v) : q3g st r v := by
  intro l hl a m ha; rw [h l hl] at ha; exact hg l hl a m ha
theorem q7q {α : Type} {l m : List Qy.Tok} {r r' : List Qy.Tok → Qy.R α} (h : r l = r' m) : after (.ok l) r = after (.ok m) r' := by simp only [after, h]
theorem q7k {α : Type} {l m : List Qy.Tok} {r r' : List Qy.Tok → Qy.R α} {v : α} (h : r l = r' m) (hg : q3g (.ok m) r' v) : q3g (.ok l) r v := by
  intro l' hl a q ha; injection hl with hl; subst hl; rw [h] at ha; exact hg m rfl a q ha
theorem names4_get {k : Nat} (h : k < 4) : (strs names4)[k]? = some (.string (strB (Qy.name k))) := by
  have : k = 0 ∨ k = 1 ∨ k = 2 ∨ k = 3 := by omega
  rcases this with rfl | rfl | rfl | rfl <;> rfl
theorem tokX_name (k : Nat) : TokX 1 (Qy.name k) := q5k (Qy.name_ne k) (Qy.name_lo k) (by have := Qy.name_len k; omega)
set_option maxRecDepth 100000 in
set_option maxHeartbeats 4000000 in
theorem gcolumn (g : Nat) (s : ByteArray) (st : PS) (hs : s.size ≤ 100000) (w : World) (h : PSt w g s st) :
    Calls Tryz.prog 166 #[.pointer (some ⟨g, 0, none⟩)] w fun e w' => ∃ c : Nat, e = .returned (.int .i64 (c : Nat)) ∧ c < 4 ∧ w.grownBy w' (some g) ∧ PSt w' g s (after st Qy.col) ∧ q3g st Qy.col c := by
  refine q0k Tryz.func166 rfl Tryz.ntmps166 rfl ?_; have hg0 := h.lt; (refine q0b<|q0a<|a_I rfl<|q0c<|tn<|q0b<|q0b<|q0a ?_); refine L_fo rfl (gcolumns w) ?_; rintro q w1 ⟨E1, o1⟩; have hP1 := h.ext E1; have r1 : Row w1 w.heap.size w1.heap.size 1 q 4 (strs names4) := Row.of_own o1; obtain ⟨b0, o0, c0, rfl, _, hb0, hb1, hc0⟩ := r1.at (k := 0) (by omega); (refine Ls (q0h rfl)<|m_I rfl<|q0c<|tn<|q0j ?_); refine q1k (fun z f w' => ∃ k, z = 4 - k ∧ k ≤ 4 ∧ w1.grownBy w' (some g) ∧ PSt w' g s st ∧ (∀ l, st = .ok l → Qy.col l = Qy.colF (4 - k) k l) ∧ f 0 = .pointer (some ⟨g, 0, none⟩) ∧ f 5 = .slice (some ⟨b0, o0, none⟩) 4 c0 ∧ f 6 = .int .i64 4 ∧ f 7 = .int .i64 (k : Nat)) 4 ?_ ?_
  · exact ⟨0, rfl, by omega, (Ext.refl _).row _, hP1, fun _ _ => rfl, rfl, rfl, rfl, rfl⟩
  · rintro z f w2 ⟨k, rfl, hk, G2, hP2, hcol, f0, f5, f6, f7⟩; rw [fold f0, fold f5, fold f6, fold f7]; have r2 := r1.grown G2 (fun g' h => by cases h; exact .inl hg0); have G02 := q0d (E1.row (some g)) G2 (fun g h => .inl h); by_cases hk4 : k < 4
    · obtain ⟨b, o, c, hq, _, _, _, hc⟩ := r2.at (k := k) hk4; obtain ⟨rfl, rfl, rfl⟩ : b0 = b ∧ o0 = o ∧ c0 = c := (by injection hq with a b c; injection a with a; injection a with a1 a2 _; exact ⟨a1, a2, c⟩); (refine q0b<|q0a<|Ls (q3j rfl rfl (by omega))<|q0c<|tn<|q0b<|q0t rfl<|q0n<|tn<|q0b<|q0j<|q0b<|q0a<|m_I rfl<|Ls (q0p rfl rfl (by omega))<|Ls (q2g (j := k) (v := .string (strB (Qy.name k))) rfl hc (by omega) (names4_get hk4))<|a_I rfl<|a_R rfl<|q0c<|tn<|q0b<|q0a<|m_P rfl<|m_R rfl ?_); refine Ls (q4m (k := 1) (u := Qy.name k) rfl rfl rfl) ?_; refine L_fn (q8h g s st 1 (Qy.name k) (tokX_name k) (by omega) w2 hP2) rfl ?_; rintro e w3 ⟨b, rfl, G3, hb⟩; refine ⟨_, rfl, ?_⟩; rcases hb with ⟨rfl, l, r, rfl, ha, hP3⟩ | ⟨rfl, hP3, hno⟩
      · have hcl : Qy.col l = .ok (k, r) := by
          rw [hcol l rfl, show 4 - k = (3 - k) + 1 by omega]; simp only [Qy.colF, ha]
        (refine q0c<|tn<|q0t rfl<|q0b<|q0a<|m_I rfl<|a_I rfl<|q0c<|tn<|q0s<|br<|tr<|tr<|br<|tr ?_); refine q0f rfl rfl (v := .int _ _) rfl ⟨k, rfl, hk4, q0d G02 G3 (fun g h => .inl h), ?_, ?_⟩
        · simpa [after, hcl] using hP3
        · intro l' hl' a m ha'; injection hl' with hl'; subst hl'; rw [hcl] at ha'; injection ha' with ha'; injection ha' with ha' _; exact ha'.symm
      · (refine q0c<|tn<|q0o rfl<|q0n<|bn<|tn<|q0a<|Ls (q1j rfl rfl (by omega))<|m_I rfl<|q0c<|tn ?_); refine ⟨4 - (k + 1), by omega, k + 1, rfl, by omega, q0d G2 G3 (fun g h => .inl h), hP3, fun l hl => ?_, rfl, rfl, rfl, rfl⟩; rw [hcol l hl, show 4 - k = (4 - (k + 1)) + 1 by omega]; simp only [Qy.colF, hno l hl]
    · obtain rfl : k = 4 := (by omega); (refine q0b<|q0a<|Ls (q3f rfl rfl (by omega))<|q0c<|tn<|q0b<|q0o rfl<|q1g<|te<|te<|bx<|tn<|q0b<|q0a<|m_P rfl ?_); refine L_fn (q4v g s st (by omega) w2 hP2) rfl ?_; rintro e w3 ⟨rfl, G3, hP3⟩; refine ⟨_, rfl, ?_⟩; (refine q0c<|tn<|q0b<|q0a<|a_I rfl<|q0c<|tn<|q0s ?_); refine q0f rfl rfl (v := .int _ _) rfl ⟨0, rfl, by omega, q0d G02 G3 (fun g h => .inl h), ?_, ?_⟩
      · cases st with
        | error e => exact hP3
        | ok l => simpa [after, unx, hcol l rfl, Qy.colF] using hP3
      · intro l hl a m ha; rw [hcol l hl] at ha; simp [Qy.colF] at ha
theorem tokX_eq : TokX 3 Qy.tEq := tokX_sym (.inl rfl)
theorem tokX_dots : TokX 3 Qy.tDots := tokX_sym (.inr rfl)
theorem tokX_in : TokX 1 Qy.tIn := q5k (by decide) (by decide) (by decide)
theorem tokX_where : TokX 1 Qy.tWhere := q5k (by decide) (by decide) (by decide)
theorem tokX_and : TokX 1 Qy.tAnd := q5k (by decide) (by decide) (by decide)
theorem tokX_with : TokX 1 Qy.tWith := q5k (by decide) (by decide) (by decide)
theorem X_mkCond1 {n : NN} {f : Fr} {w : World} {d : Option Tmp} {t : TypeId} {pos : String} {af : Array Edge} {g : Option (Nat × Bool)} {x : Operand} {c : Int} (hx : ev n f x = .int .i64 c) :
    X Tryz.prog n ⟨d, .build 246 #[(0, x)], t, pos, af, g⟩ f w = .ok (.value (.agg (cndI (c, 0, 0)).toArray)) w := by
  have := q1p (P := Tryz.prog) (ty := 246) (n := n) (f := f) (w := w) (d := d) (t := t) (pos := pos) (af := af) (g := g) (Parts.cons (i := 0) (z := [.int .i64 0]) hx rfl rfl rfl (Parts.nil _)); simpa [cndI] using this
set_option maxRecDepth 100000 in
set_option maxHeartbeats 8000000 in
theorem gcond (g : Nat) (s : ByteArray) (st : PS) (hs : s.size ≤ 100000) (w : World) (hw : Tabs w) (h : PSt w g s st) :
    Calls Tryz.prog 269 #[.pointer (some ⟨g, 0, none⟩)] w fun e w' => ∃ c : Qy.Cnd, e = .returned (.agg (cndI (Qy.liC c)).toArray) ∧ w.grownBy w' (some g) ∧ PSt w' g s (after st Qy.cond) ∧ q3g st Qy.cond c := by
  refine q0k Tryz.func269 rfl Tryz.ntmps269 rfl ?_; have hg0 := h.lt; (refine q0b<|q0a ?_); refine q0x ?_; intro g2 w1 B2 hg2 E1 hs1; (refine q0c<|tn<|q0b<|q0a<|m_P rfl ?_); refine L_fn (gcolumn g s st hs w1 (h.ext E1)) rfl ?_; rintro e w2 ⟨c, rfl, hc4, G2, hP2, hv2⟩; refine ⟨_, rfl, ?_⟩; refine Ls (X_mkCond1 rfl) ?_; refine q0x ?_; intro g3 w3 B3 hg3 E3 hs3; have hz2 := G2.size; refine q0l (size := 3) rfl rfl rfl q7o B3 rfl ?_; intro w4 B4 hg4 hs4; have C2 := ((B2.grown G2 (by simp; omega)).ext E3).grown hg4 (by simp; omega); have hP4 := (hP2.ext E3).grown hg4 (by simp; omega); have G4 : w.grownBy w4 (some g) := q0d (q0d (q0d (E1.row (some g)) G2 (fun g h => .inl h)) E3 (fun _ h => by cases h)) hg4 (fun g h => by cases h; exact .inr (by omega)); (refine q0c<|tn<|q0b<|q0a<|Ls (q0g rfl)<|Ls (X_ld rfl B4 rfl) ?_); have hcm := gcmax (c : Int) w4; rw [Qy.cmaxI_nat] at hcm; refine L_fv rfl (hcm) ?_; intro w5 E5; have D2 := C2.ext E5; have D3 := B4.ext E5; have hP5 := hP4.ext E5; have G5 := q0d G4 E5 (fun _ h => by cases h); have hcb := Qy.cmax_le c; (refine a_I rfl<|q0c<|tn<|q0b<|q0b<|q0a<|m_P rfl ?_); refine Ls (q4m (k := 3) (u := Qy.tEq) rfl rfl rfl) ?_; refine L_fn (q8h g s (after st Qy.col) 3 Qy.tEq tokX_eq (by omega) w5 hP5) rfl ?_; rintro e w6 ⟨b, rfl, G6, hb⟩; refine ⟨_, rfl, ?_⟩; have F2 := D2.grown G6 (by simp; omega); have F3 := D3.grown G6 (by simp; omega); have G06 := q0d G5 G6 (fun g h => .inl h); have ab := q2c (k := Qy.cond1) hv2; have gb := fun {u} => q2i (k := Qy.cond1) (u := u) hv2; have e0 : (fun l => Qy.bind (Qy.col l) Qy.cond1) = Qy.cond := rfl; rw [e0] at ab; simp only [e0] at gb; rw [ab]; have hw6 := h.tabs hw G06; generalize after st Qy.col = s1 at *; clear ab e0 hv2 hP2 hP4 B2 B3 B4 C2 D2 D3; rcases hb with ⟨rfl, l, r, rfl, ha, hP6⟩ | ⟨rfl, hP6, hno⟩
  · have hr : Qy.cond1 c l = Qy.bind (Qy.num 0 (Qy.cmax c) r) fun n r => .ok ((c, n, n), r) := (by simp only [Qy.cond1, ha]); (refine q0c<|tn<|q0t rfl<|q0b<|q0a<|m_P rfl<|m_I rfl ?_); refine L_fn (z1q g s (.ok r) 0 (Qy.cmax c) (by omega) (by omega) hs w6 hw6 hP6) rfl ?_; rintro e w7 ⟨n, rfl, _, G7, hP7, hv7⟩; refine ⟨_, rfl, ?_⟩; (refine Ls (q0g rfl) ?_); refine q1d rfl (v := .int _ _) rfl rfl (F3.grown G7 (by simp; omega)) (by simp [cndI]) ?_; intro w8 B8 hg8 hs8; (refine q0c<|tn<|q0b<|q0a<|Ls (q0g rfl)<|Ls (X_ld rfl B8 rfl)<|Ls (q0g rfl) ?_); refine q1d rfl (v := .int _ _) rfl rfl B8 (by simp [cndI]) ?_; intro w9 B9 hg9 hs9; have hz7 := G7.size; have hz6 := G6.size; (refine q0c<|tn<|q0b<|q0a<|Ls (q2m (size := 3) rfl B9 rfl) ?_); refine q0l (size := 3) (l := cndI (Qy.liC (c, n, n))) rfl rfl rfl q7o (((F2.grown G7 (by simp; omega)).grown hg8 (by simp; omega)).grown hg9 (by simp; omega)) rfl ?_; intro w10 B10 hg10 hs10; have hz5 := E5.size; (refine q0c<|tn<|q0s<|tr ?_); refine q1i rfl rfl (Res.cellA (cs := cndI (Qy.liC (c, n, n))) inferInstance rfl (B10.range (fun j u h => by rw [Nat.zero_add]; exact h)) rfl .nil) ?_; refine ⟨(c, n, n), rfl, q0d (q0d (q0d (q0d G06 G7 (fun g h => .inl h)) hg8 (fun g h => by cases h; exact .inr (by omega))) hg9 (fun g h => by cases h; exact .inr (by omega))) hg10 (fun g h => by cases h; exact .inr (by omega)), ?_, ?_⟩
    · rw [q7q (m := r) (r' := fun r => Qy.bind (Qy.num 0 (Qy.cmax c) r) fun n r => .ok ((c, n, n), r)) hr, q2c hv7, q4d]; exact ((hP7.grown hg8 (by simp; omega)).grown hg9 (by simp; omega)).grown hg10 (by simp; omega)
    · exact gb (q7k (m := r) (r' := fun r => Qy.bind (Qy.num 0 (Qy.cmax c) r) fun n r => .ok ((c, n, n), r)) hr (q2i hv7 (q4b _ _)))
  · have hr : ∀ l, s1 = .ok l → Qy.cond1 c l = (fun l => Qy.bind (Qy.expect Qy.tIn l) fun _ r => Qy.bind (Qy.num 0 (Qy.cmax c) r) fun lo r => Qy.bind (Qy.expect Qy.tDots r) fun _ r => Qy.bind (Qy.num lo (Qy.cmax c) r) fun hi r => .ok ((c, lo, hi), r)) l := fun l hl => (by simp only [Qy.cond1, hno l hl]); have gu : ∀ (st : PS) (x : List Nat), q3g st (Qy.expect x) () := fun _ _ _ _ _ _ _ => rfl; (refine q0c<|tn<|q0o rfl<|q0n<|tn<|q0b<|q0a<|m_P rfl ?_); refine Ls (q4m (k := 1) (u := Qy.tIn) rfl rfl rfl) ?_; refine L_fn (gexpect g s s1 1 Qy.tIn tokX_in (by omega) w6 hP6) rfl ?_; rintro e w7 ⟨rfl, G7, hP7⟩; refine ⟨_, rfl, ?_⟩; have hw7 := hP6.tabs hw6 G7; (refine q0c<|tn<|q0b<|q0a<|m_P rfl<|m_I rfl ?_); refine L_fn (z1q g s _ 0 (Qy.cmax c) (by omega) (by omega) hs w7 hw7 hP7) rfl ?_; rintro e w8 ⟨n, rfl, hn, G8, hP8, hv8⟩; refine ⟨_, rfl, ?_⟩; have H3 := (F3.grown G7 (by simp; omega)).grown G8 (by simp; omega); have H2 := (F2.grown G7 (by simp; omega)).grown G8 (by simp; omega); have hz7 := G7.size; have hz8 := G8.size; have hz6 := G6.size; have hz5 := E5.size; (refine Ls (q0g rfl) ?_); refine q1d rfl (v := .int _ _) rfl rfl H3 (by simp [cndI]) ?_; intro w9 B9 hg9 hs9; have hP9 := hP8.grown hg9 (by simp; omega); have H2 := H2.grown hg9 (by simp; omega); have G09 := q0d (q0d (q0d G06 G7 (fun g h => .inl h)) G8 (fun g h => .inl h)) hg9 (fun g h => by cases h; exact .inr (by omega)); (refine q0c<|tn<|q0b<|q0a<|m_P rfl ?_); refine Ls (q4m (k := 3) (u := Qy.tDots) rfl rfl rfl) ?_; refine L_fn (gexpect g s _ 3 Qy.tDots tokX_dots (by omega) w9 hP9) rfl ?_; rintro e w10 ⟨rfl, G10, hP10⟩; refine ⟨_, rfl, ?_⟩; have G010 := q0d G09 G10 (fun g h => .inl h); have hw10 := h.tabs hw G010; have H3 := B9.grown G10 (by simp; omega); have H2 := H2.grown G10 (by simp; omega); (refine q0c<|tn<|q0b<|q0a<|m_P rfl<|Ls (q0g rfl)<|Ls (X_ld rfl H3 rfl)<|m_I rfl ?_); refine L_fn (z1q g s _ n (Qy.cmax c) hn (by omega) hs w10 hw10 hP10) rfl ?_; rintro e w11 ⟨n2, rfl, _, G11, hP11, hv11⟩; refine ⟨_, rfl, ?_⟩; have H3 := H3.grown G11 (by simp; omega); have H2 := H2.grown G11 (by simp; omega); (refine Ls (q0g rfl) ?_); refine q1d rfl (v := .int _ _) rfl rfl H3 (by simp [cndI]) ?_; intro w12 B12 hg12 hs12; have hP12 := hP11.grown hg12 (by simp; omega); have H2 := H2.grown hg12 (by simp; omega); have hz10 := G10.size; have hz11 := G11.size; (refine q0c<|tn<|q0b<|q0a<|Ls (q2m (size := 3) rfl B12 rfl) ?_); refine q0l (size := 3) (l := cndI (Qy.liC (c, n, n2))) rfl rfl rfl q7o H2 rfl ?_; intro w13 B13 hg13 hs13; (refine q0c<|tn<|q0s ?_); refine q1i rfl rfl (Res.cellA (cs := cndI (Qy.liC (c, n, n2))) inferInstance rfl (B13.range (fun j u h => by rw [Nat.zero_add]; exact h)) rfl .nil) ?_; refine ⟨(c, n, n2), rfl, q0d (q0d (q0d G010 G11 (fun g h => .inl h)) hg12 (fun g h => by cases h; exact .inr (by omega))) hg13 (fun g h => by cases h; exact .inr (by omega)), ?_, ?_⟩
    · rw [q4y hr, q2c (gu _ _), q2c hv8, q2c (gu _ _), q2c hv11, q4d]; exact hP12.grown hg13 (by simp; omega)
    · exact gb (q4w hr (q2i (gu _ _) (q2i hv8 (q2i (gu _ _) (q2i hv11 (q4b _ _))))))
def Ff (k : Nat) (pre : List Qy.Cnd) : List Qy.Tok → Qy.R (List Qy.Cnd) := fun m => Qy.bind (Qy.conds (3 - k) m) fun cs r => .ok (pre ++ cs, r)
theorem Ff_step {k : Nat} (hk : k < 3) (pre : List Qy.Cnd) (m : List Qy.Tok) : Ff k pre m = Qy.bind (Qy.cond m) fun c r => if k = 2 then .ok (pre ++ [c], r) else match Qy.acc Qy.tAnd r with
    | none => .ok (pre ++ [c], r)
    | some r => Ff (k + 1) (pre ++ [c]) r := by
  unfold Ff; have : k = 0 ∨ k = 1 ∨ k = 2 := by omega
  rcases this with rfl | rfl | rfl
  · show Qy.bind (Qy.conds 3 m) _ = _; unfold Qy.conds; cases Qy.cond m with
    | error e => rfl
    | ok p =>
      obtain ⟨c, r⟩ := p; simp only [Qy.bind]; cases Qy.acc Qy.tAnd r with
      | none => rfl
      | some r' =>
        show Qy.bind (Qy.bind (Qy.conds 2 r') _) _ = Qy.bind (Qy.conds 2 r') _; cases Qy.conds 2 r' with
        | error e => rfl
        | ok q => obtain ⟨cs, u⟩ := q; simp [Qy.bind]
  · show Qy.bind (Qy.conds 2 m) _ = _; unfold Qy.conds; cases Qy.cond m with
    | error e => rfl
    | ok p =>
      obtain ⟨c, r⟩ := p; simp only [Qy.bind]; cases Qy.acc Qy.tAnd r with
      | none => rfl
      | some r' =>
        show Qy.bind (Qy.bind (Qy.conds 1 r') _) _ = Qy.bind (Qy.conds 1 r') _; cases Qy.conds 1 r' with
        | error e => rfl
        | ok q => obtain ⟨cs, u⟩ := q; simp [Qy.bind]
  · show Qy.bind (Qy.conds 1 m) _ = _; unfold Qy.conds; cases Qy.cond m with
    | error e => rfl
    | ok p =>
      obtain ⟨c, r⟩ := p; simp only [Qy.bind]; cases Qy.acc Qy.tAnd r <;> rfl
theorem cndsI_snoc (l : List Qy.Cnd) (c : Qy.Cnd) : q5h ((l ++ [c]).map Qy.liC) = q5h (l.map Qy.liC) ++ cndI (Qy.liC c) := by
  rw [List.map_append, cndsI_app]; simp [q5h]
set_option maxRecDepth 100000 in
set_option maxHeartbeats 8000000 in
theorem gfilter (g : Nat) (s : ByteArray) (st : PS) (hs : s.size ≤ 100000) (w : World) (hw : Tabs w) (h : PSt w g s st) :
    Calls Tryz.prog 168 #[.pointer (some ⟨g, 0, none⟩)] w fun e w' => ∃ (v : Value) (l : List Qy.Cnd), e = .returned v ∧ w.grownBy w' (some g) ∧ PSt w' g s (after st Qy.filt) ∧ q3g st Qy.filt l ∧ l.length ≤ 3 ∧
      w'.ownsRow w.heap.size 246 3 v l.length (q5h (l.map Qy.liC)) := by
  refine q0k Tryz.func168 rfl Tryz.ntmps168 rfl ?_; have hg0 := h.lt; (refine q0b<|q0a<|a_S rfl<|q0c<|tn<|q0b<|q0a ?_); refine q8q (size := 3) ?_; intro q1 w1 E1 hs1 o1; have hP1 := h.ext E1; (refine Ls (q0i (v := q1) rfl)<|q0c<|tn<|q0b<|q0a<|m_P rfl ?_); refine Ls (q1l (fi := [.tmp 7]) (ca := []) rfl rfl) ?_; (refine Ls (q0i (v := .func _ _ _) rfl)<|q0c<|tn<|q0b<|q0b<|q0a<|Ls (q0e (v := .func _ _ _) rfl) ?_); refine Ls (q4m (k := 1) (u := Qy.tWhere) rfl rfl rfl) ?_; refine q5a (vl := [.agg (tkC 1 Qy.tWhere).toArray]) rfl (q8h g s st 1 Qy.tWhere tokX_where (by omega) w1 hP1) rfl ?_; rintro e w2 ⟨b, rfl, G2, hb⟩; refine ⟨_, rfl, ?_⟩; have G02 := q0d (E1.row (some g)) G2 (fun g h => .inl h); have o2 := q3l o1 G2 (fun g' h => by cases h; exact hg0); have h0 : ∃ σ, PSt w2 g s σ ∧ (b = true → after st Qy.filt = after σ (Ff 0 []) ∧ ∀ v, q3g σ (Ff 0 []) v → q3g st Qy.filt v) ∧ (b = false → after st Qy.filt = σ ∧ q3g st Qy.filt []) := by
    have hF : ∀ r, Ff 0 [] r = Qy.conds 3 r := fun r => by
      unfold Ff; show Qy.bind (Qy.conds 3 r) _ = _; cases Qy.conds 3 r with
      | error e => rfl
      | ok p => obtain ⟨a, b⟩ := p; rfl
    rcases hb with ⟨rfl, l, r, rfl, ha, hP⟩ | ⟨rfl, hP, hno⟩
    · have hr : Qy.filt l = Ff 0 [] r := (by rw [hF]; unfold Qy.filt; rw [ha]); exact ⟨_, hP, fun _ => ⟨q7q hr, fun v hv => q7k hr hv⟩, fun h => by cases h⟩
    · have hr : ∀ l, st = .ok l → Qy.filt l = (fun l => .ok ([], l)) l := fun l hl => (by unfold Qy.filt; rw [hno l hl]); exact ⟨_, hP, fun h => (by cases h), fun _ => ⟨by rw [q4y hr, q4d], q4w hr (q4b _ _)⟩⟩
  clear hb; obtain ⟨σ0, hP2, hT, hFa⟩ := h0; (refine a_B rfl<|q0c<|tn<|q0j ?_); refine q1k (fun z f w' => ∃ (k : Nat) (pre : List Qy.Cnd) (more : Bool) (σ : PS) (v : Value), z = (if more then 1 else 0) + (3 - k) ∧ k = pre.length ∧ k ≤ 3 ∧ (more = true → k < 3) ∧ w.grownBy w' (some g) ∧ PSt w' g s σ ∧ w'.ownsRow w.heap.size 246 3 v pre.length (q5h (pre.map Qy.liC)) ∧
    (more = true → after st Qy.filt = after σ (Ff k pre) ∧ ∀ v, q3g σ (Ff k pre) v → q3g st Qy.filt v) ∧ (more = false → after st Qy.filt = σ ∧ q3g st Qy.filt pre) ∧
    f 0 = .pointer (some ⟨g, 0, none⟩) ∧ f 3 = v ∧ f 4 = .func (.func 165) #[.pointer (some ⟨g, 0, none⟩)] #[] ∧ f 5 = .bool more) ((if b then 1 else 0) + 3) ?_ ?_
  · exact ⟨0, [], b, σ0, q1, by cases b <;> rfl, rfl, by omega, fun _ => by omega, G02, hP2, o2, hT, hFa, rfl, rfl, rfl, rfl⟩
  · clear hT hFa o1 o2 hP1 hP2 G02 G2 E1; rintro z f w3 ⟨k, pre, more, σ, v, rfl, hkl, hk3, hmk, G3, hP3, o3, hT, hFa, f0, f3, f4, f5⟩; rw [fold f0, fold f3, fold f4, fold f5]; cases more with
    | false =>
      obtain ⟨ha, hg⟩ := hFa rfl; (refine q0b<|q0b<|q0a<|m_B rfl<|q0c<|tn<|q0o rfl<|q1g<|te<|te<|bx<|tn<|q0b<|q0a<|Ls (q0e (v := v) rfl)<|Ls (q0i (v := v) rfl)<|q0c<|tn<|q0s ?_); refine q0f rfl rfl (v := v) rfl ⟨v, pre, rfl, G3, by rw [ha]; exact hP3, hg, by omega, o3⟩
    | true =>
      obtain ⟨ha, hg⟩ := hT rfl; have hk := hmk rfl; have hw3 := h.tabs hw G3; (refine q0b<|q0b<|q0a<|m_B rfl<|q0c<|tn<|q0t rfl<|q0n<|tn<|q0b<|q0j<|q0a<|Ls (q0e (v := v) rfl)<|m_P rfl ?_); refine L_fn (gcond g s σ hs w3 hw3 hP3) rfl ?_; rintro e w4 ⟨c, rfl, G4, hP4, hv4⟩; refine ⟨_, rfl, ?_⟩; have hz3 := G3.size; have hz4 := G4.size; have o4 := q3l o3 G4 (fun g' h => by cases h; exact hg0); have hP4g := hP4.lt; refine L_lits (zs' := [cndI (Qy.liC c)]) (cs := cndI (Qy.liC c)) (Parts.cons (c := cndI (Qy.liC c)) (z := [.int .i64 0, .int .i64 0, .int .i64 0]) rfl rfl rfl rfl (Parts.nil _)) rfl (by simp) rfl rfl ?_; intro q5 w5 r5 E5 hs5 _ _; refine q1s (v := v) (u := q5) rfl rfl (q2p o4 E5) r5 q7o (by omega) (by omega) (by omega) ?_; intro v6 w6 o6 hg6 _; have hvb : ∀ g', v.ownBlock = some g' → w.heap.size ≤ g' := fun g' h => (o3.lt g' h).1; have hP6 := (hP4.ext E5).grown hg6 (fun e => by have := hvb g e; omega); have G6 : w.grownBy w6 (some g) := q0d (q0d (q0d G3 G4 (fun g h => .inl h)) E5 (fun _ h => by cases h)) hg6 (fun g' h => .inr (hvb g' h)); have hlen : (pre ++ [c]).length = pre.length + 1 := (by simp); rw [← cndsI_snoc, ← hlen] at o6; have hst : ∀ l, σ = .ok l → Ff k pre l = (fun l => Qy.bind (Qy.cond l) fun c r => if k = 2 then .ok (pre ++ [c], r) else match Qy.acc Qy.tAnd r with
        | none => .ok (pre ++ [c], r)
        | some r => Ff (k + 1) (pre ++ [c]) r) l := fun l _ => Ff_step hk pre l
      rw [q4y hst, q2c hv4] at ha; have hg' : ∀ v, q3g (after σ Qy.cond) (fun r => if k = 2 then .ok (pre ++ [c], r) else match Qy.acc Qy.tAnd r with
        | none => .ok (pre ++ [c], r)
        | some r => Ff (k + 1) (pre ++ [c]) r) v → q3g st Qy.filt v := fun v hv => hg v (q4w hst (q2i hv4 hv))
      generalize after σ Qy.cond = σ4 at *; clear hg hst hv4 hP3 hP4 o3 o4 r5; obtain ⟨_, A6, c6, rfl, _⟩ := Row.of_own o6; by_cases hk2 : k = 2
      · have hr : ∀ l, σ4 = .ok l → (if k = 2 then Except.ok (pre ++ [c], l) else match Qy.acc Qy.tAnd l with
          | none => .ok (pre ++ [c], l)
          | some r => Ff (k + 1) (pre ++ [c]) r : Qy.R (List Qy.Cnd)) = (fun l => .ok (pre ++ [c], l)) l := fun l _ => if_pos hk2
        rw [q4y hr, q4d] at ha; (refine a_S rfl<|q0c<|bn<|tn<|q0a<|m_S rfl<|Ls (q0h rfl)<|Ls (q3f rfl rfl (by omega))<|m_B rfl<|Lo2 rfl rfl rfl rfl<|Lo2 rfl rfl rfl rfl<|Lo2 rfl rfl rfl rfl<|Ls (q0r (v := .bool _) rfl rfl)<|a_B rfl<|q0c<|tn ?_); exact ⟨_, by simp; omega, k + 1, pre ++ [c], false, σ4, _, rfl, by simp; omega, by omega, fun h => (by cases h), G6, hP6, o6, fun h => (by cases h), fun _ => ⟨ha, hg' _ (q4w hr (q4b _ _))⟩, rfl, rfl, rfl, rfl⟩
      · (refine a_S rfl<|q0c<|bn<|tn<|q0a<|m_S rfl<|Ls (q0h rfl)<|Ls (q3j rfl rfl (by omega))<|m_B rfl<|Lg2 rfl rfl rfl (q0e (v := .func _ _ _) rfl) ?_); refine q1u rfl rfl rfl ?_; refine Ls (q4m (k := 1) (u := Qy.tAnd) rfl rfl rfl) ?_; refine q1u rfl rfl rfl ?_; refine q5a (vl := [.agg (tkC 1 Qy.tAnd).toArray]) rfl (q8h g s σ4 1 Qy.tAnd tokX_and (by omega) w6 hP6) rfl ?_; rintro e w7 ⟨b, rfl, G7, hb⟩; refine ⟨_, rfl, ?_⟩; have G07 := q0d G6 G7 (fun g h => .inl h); have o7 := q3l o6 G7 (fun g' h => by cases h; exact hg0); rcases hb with ⟨rfl, l, r, rfl, hac, hP7⟩ | ⟨rfl, hP7, hno⟩
        · have hr : (if k = 2 then Except.ok (pre ++ [c], l) else match Qy.acc Qy.tAnd l with
            | none => .ok (pre ++ [c], l)
            | some r => Ff (k + 1) (pre ++ [c]) r : Qy.R (List Qy.Cnd)) = Ff (k + 1) (pre ++ [c]) r := by rw [if_neg hk2, hac]
          (refine Ls (q0m (v := .bool _) rfl rfl)<|a_B rfl<|q0c<|tn ?_); refine ⟨_, by simp; omega, k + 1, pre ++ [c], true, .ok r, _, rfl, by simp; omega, by omega, fun _ => by omega, G07, hP7, o7, fun _ => ⟨ha.trans (q7q hr), fun v hv => hg' v (q7k hr hv)⟩, fun h => (by cases h), rfl, rfl, rfl, rfl⟩
        · have hr : ∀ l, σ4 = .ok l → (if k = 2 then Except.ok (pre ++ [c], l) else match Qy.acc Qy.tAnd l with
            | none => .ok (pre ++ [c], l)
            | some r => Ff (k + 1) (pre ++ [c]) r : Qy.R (List Qy.Cnd)) = (fun l => .ok (pre ++ [c], l)) l := fun l hl => by rw [if_neg hk2, hno l hl]
          rw [q4y hr, q4d] at ha; (refine Ls (q0m (v := .bool _) rfl rfl)<|a_B rfl<|q0c<|tn ?_); exact ⟨_, by simp; omega, k + 1, pre ++ [c], false, σ4, _, rfl, by simp; omega, by omega, fun h => (by cases h), G07, hP7, o7, fun h => (by cases h), fun _ => ⟨ha, hg' _ (q4w hr (q4b _ _))⟩, rfl, rfl, rfl, rfl⟩
end Go.Proofs.YtlggfbglpcegoaaGreatDoor
