/- P5, P6, P7, Y1, Y2, Y3, Y4, SO, KZ, Y5, Y6, Y7, Y8, Y9, YA, YB, YC, YD, YE, WA, WB. -/
import Derived.Test.YtlcnkadkbcoadaaGreatDoorQ3
import Derived.Test.YtlcnkadkbcoadaaGreatDoorQ2
import Derived.Shelf.Strings.Builder1
import Derived.Shelf.Strings.Builder2
import Derived.Shelf.Strings.OnBuilder
import Derived.Shelf.Small.Bits
import Derived.Shelf.Small.Strs
import Derived.Shelf.Small.Wraps
import Derived.Shelf.Strconv.Atoi
import Derived.Shelf.Strconv.Itoa0
import Derived.Shelf.Strconv.Itoa1
import Derived.Shelf.LaysM
import Derived.Shelf.Strconv.Itoa2
import Derived.Shelf.Strconv.Itoa3
import Derived.Shelf.Strconv.AtoiErrFast
import Derived.Shelf.Strconv.ParseIntEmpty
import Derived.Shelf.Strconv.AtoiFail
import Derived.Shelf.Strconv.Clone
import Derived.Shelf.Strconv.SyntaxError
import Derived.Shelf.LaysC
import Derived.Shelf.Strconv.ToError
import Derived.Shelf.Strconv.Lower
import Derived.Shelf.Strconv.ParseUint10
import Derived.Shelf.Strconv.ParseUint10Empty
import Derived.Shelf.Strconv.ParseUint10Any
import Derived.Shelf.Strconv.ParseInt10
import Derived.Shelf.Strconv.AtoiLong
import Derived.Shelf.Strconv.AtoiInnerAll
import Derived.Shelf.Strconv.RangeError
import Derived.Shelf.Strconv.ToErrorRange
import Derived.Shelf.Strconv.AtoiAll
import Derived.Shelf.Strings.Search1
import Derived.Shelf.Sort.Plain
import Derived.Shelf.Strings.Prefix
import Derived.Shelf.Bits.Mul64
import Derived.Shelf.Slices.Turned
import Derived.Ground.Names2Prog
import Derived.Shelf.Slices.SearchI
import Derived.Shelf.Slices.Empties
import Derived.Ground.SlgnProg
import Derived.Shelf.SlicesE.Clone
import Derived.Test.YtlcnkadkbcoadaaGreatDoorProg
import Derived.ProofKit
import Derived.OpenShut
import Derived.Deep.DeepHandedRow
import Derived.Deep.SlicePairs
import Derived.Lib.LaidTab
import Derived.WideKeyArgs
import Derived.Lib.SmallJoins
set_option maxRecDepth 100000
set_option maxHeartbeats 16000000
namespace Qy
theorem parse_big {s:List Nat} (h:400 < s.length):parse s=(q0,0,2):=by
 unfold parse;rw [← Nat.blt_eq] at h;rw [h];rfl
theorem name_len (j:Nat):(name j).length≤5:=by unfold name;split <;> decide
theorem keyword_len (k:Nat):(keyword k).length≤8:=by unfold keyword;split <;> decide
theorem cmax_le (c:Nat):cmax c≤255:=by unfold cmax;cases (c == 0 || c == 2) <;> decide
theorem maxK_le (k:Nat):maxK k≤65536:=by unfold maxK;cases (k == 3) <;> cases (k == 6) <;> decide
theorem blt_no {s:List Nat} (h:s.length≤400):Nat.blt 400 s.length=false:=by
 cases hb:Nat.blt 400 s.length
 · rfl
 · rw [Nat.blt_eq] at hb;omega
variable {u v:List Nat}
end Qy
namespace Qy
abbrev CndI:=Int × Int × Int
structure QI where
 kind:Int
 col:Int
 k:Int
 fs:List (List CndI)
def cmaxI (c:Int):Int:=if c=0∨c=2 then 15 else 255
def okCI (c:CndI):Prop:=0≤c.1∧c.1 < 4∧0≤c.2.1∧c.2.1≤c.2.2∧c.2.2≤cmaxI c.1
instance (c:CndI):Decidable (okCI c):=by unfold okCI;exact inferInstance
def okFI (l:List CndI):Prop:=l.length≤3∧∀ c∈l,okCI c
instance (l:List CndI):Decidable (okFI l):=by unfold okFI;exact inferInstance
def z2o (k:Int):Prop:=2≤k∧k≤6
instance (k:Int):Decidable (z2o k):=by unfold z2o;exact inferInstance
def maxKI (k:Int):Int:=if k=3 then 6 else if k=6 then 65536 else 0
def OkI (q:QI):Prop:=(1≤q.kind∧q.kind≤7∧0≤q.col∧q.col < 4∧(¬ z2o q.kind→q.col=0))∧(0≤q.k∧q.k≤maxKI q.kind∧(0 < maxKI q.kind→0 < q.k))∧(q.fs.length:Int)=(if q.kind=7 then 2 else 1)∧∀ l∈q.fs,okFI l
instance (q:QI):Decidable (OkI q):=by unfold OkI;exact inferInstance
def liC (c:Cnd):CndI:=((c.1:Int),(c.2.1:Int),(c.2.2:Int))
theorem cmaxI_nat (c:Nat):cmaxI (c:Int)=(cmax c:Nat):=by
 unfold cmaxI cmax;by_cases h:c=0∨c=2
 · rw [if_pos (by omega)];have:(c == 0 || c == 2)=true:=(by simpa using h);rw [this];rfl
 · rw [if_neg (by omega)];have:(c == 0 || c == 2)=false:=(by rw [Bool.eq_false_iff];simpa using h);rw [this];rfl
theorem maxKI_nat (k:Nat):maxKI (k:Int)=(maxK k:Nat):=by
 unfold maxKI maxK;by_cases h:k=3
 · subst h;rfl
 · rw [if_neg (by omega)];have e:(k == 3)=false:=(by simp [h]);rw [e];by_cases h6:k=6
   · subst h6;rfl
   · rw [if_neg (by omega)];have e:(k == 6)=false:=(by simp [h6]);rw [e];rfl
theorem hasColI_nat (k:Nat):z2o (k:Int)↔hasCol k=true:=by unfold z2o hasCol;simp;omega
end Qy
namespace Go.Proofs.YtlcnkadkbcoadaaGreatDoor
open Go.RowKit Go.Proofs.K
def cndI (c:Qy.CndI):List Value:=[.int .i64 c.1,.int .i64 c.2.1,.int .i64 c.2.2]
def q4k (l:List Qy.CndI):List Value:=(l.map cndI).flatten
theorem cndsI_cons (c:Qy.CndI) (l:List Qy.CndI):q4k (c :: l)=cndI c++q4k l:=by simp [q4k]
theorem cndsI_app (a b:List Qy.CndI):q4k (a++b)=q4k a++q4k b:=by simp [q4k]
theorem cndsI_part {l:List Qy.CndI} {i:Nat} {c:Qy.CndI} (h:l[i]?=some c):((q4k l).drop (i * 3)).take 3=cndI c:=by
 induction l generalizing i with
 | nil=>simp at h
 | cons d l ih =>
   cases i with
   | zero=>simp at h;subst h;rfl
   | succ i =>
     have:=ih (i:=i) (by simpa using h);rw [cndsI_cons,show (i+1) * 3=3+i * 3 by omega,← List.drop_drop];exact this
theorem q4y {c:Qy.CndI}:∀ v∈cndI c,v.oneCell'=true:=by
 intro v hv;simp only [cndI,List.mem_cons,List.not_mem_nil,or_false] at hv;rcases hv with rfl | rfl | rfl <;> rfl
theorem Rng3 {w:World} {b o i:Nat} {l:List Qy.CndI} {c:Qy.CndI} (h:w.rangeAt b o (q4k l)) (hi:l[i]?=some c):w.rangeAt b (o+i * 3) (cndI c):=by
 intro j v hj;have hlt:j < 3:=by have:=(List.getElem?_eq_some_iff.1 hj).1;simpa [cndI] using this
 rw [Nat.add_assoc];refine h (i * 3+j) v ?_;rw [← hj,← cndsI_part hi,List.getElem?_take_of_lt hlt,List.getElem?_drop]
def strs (l:List (List Nat)):List Value:=l.map fun s=>.string (strB s)
def z0x:List (List Nat):=[Qy.tWho,Qy.tWhen,Qy.tKind,Qy.tValue]
theorem gcolumns (w:World):Calls Tryz.prog 107 #[] w fun e w'=>∃ q,e=.returned q∧Ext w w'∧w'.ownsRow w.heap.size 9 1 q 4 (strs z0x):=by
 refine q0j Tryz.func107 Y Tryz.ntmps107 Y ?_;(refine q0b<|q0a<|a_S Y<|q0c<|tn<|q0b<|q0a ?_);refine q8k (zs':=(strs z0x).map fun x=>[x]) (cs:=strs z0x) ?_ Y Y Y Y ?_
 · repeat (first | exact Parts.nil _ | refine Parts.cons Y Y Y Y ?_)
 intro q2 w2 r2 E2 hs2 o2 _;(refine Ls (q0m (v:=q2) Y)<|q0c<|tn<|q0s ?_);refine q0f Y Y (v:=q2) Y ?_;exact ⟨q2,rfl,E2,o2⟩
theorem gcmax (c:Int) (w:World):Calls Tryz.prog 274 #[.int .i64 c] w fun e w'=>e=.returned (.int .i64 (Qy.cmaxI c))∧Ext w w':=by
 refine q0j Tryz.func274 Y Tryz.ntmps274 Y ?_;unfold Qy.cmaxI;by_cases h0:c=0
 · rw [if_pos (.inl h0)];(refine q0b<|q0a<|a_I Y<|q0c<|tn<|q0b<|q0b<|q0a<|m_I Y<|Ls (q2j Y Y (by omega))<|m_B Y<|Lo2 Y Y Y Y<|Lo2 Y Y Y Y<|Ls (q0o (v:=.bool _) Y Y)<|q0c<|tn<|q0r Y<|q0b<|q0a<|a_I Y<|q0c<|tn<|q0s<|tr ?_);exact q0f Y Y (v:=.int _ _) Y ⟨rfl,Ext.refl w⟩
 · by_cases h2:c=2
   · rw [if_pos (.inr h2)];(refine q0b<|q0a<|a_I Y<|q0c<|tn<|q0b<|q0b<|q0a<|m_I Y<|Ls (q2g Y Y (by omega))<|m_B Y<|Lg2 Y Y Y (q0d (v:=.int _ _) Y)<|Lg2 Y Y Y (q2j Y Y (by omega))<|Ls (q0k (v:=.bool _) Y Y)<|q0c<|tn<|q0r Y<|q0b<|q0a<|a_I Y<|q0c<|tn<|q0s<|tr ?_);exact q0f Y Y (v:=.int _ _) Y ⟨rfl,Ext.refl w⟩
   · rw [if_neg (by omega)];(refine q0b<|q0a<|a_I Y<|q0c<|tn<|q0b<|q0b<|q0a<|m_I Y<|Ls (q2g Y Y (by omega))<|m_B Y<|Lg2 Y Y Y (q0d (v:=.int _ _) Y)<|Lg2 Y Y Y (q2g Y Y (by omega))<|Ls (q0k (v:=.bool _) Y Y)<|q0c<|tn<|q0h Y<|q0l<|tn<|q0b<|q0a<|a_I Y<|q0c<|tn<|q0s ?_);exact q0f Y Y (v:=.int _ _) Y ⟨rfl,Ext.refl w⟩
theorem gvcol (c:Int) (w:World):Calls Tryz.prog 167 #[.int .i64 c] w fun e w'=>e=.returned (.bool (decide (0≤c∧c < 4)))∧Ext w w':=by
 refine q0j Tryz.func167 Y Tryz.ntmps167 Y ?_;by_cases h0:0≤c
 · (refine q0b<|q0a<|a_B Y<|q0c<|tn<|q0b<|q0a<|m_I Y<|Ls (q3o Y Y (by omega))<|m_B Y<|Lg2 Y Y Y (q0d (v:=.int _ _) Y) ?_);refine q1n Y Y Y ?_;refine L_fo Y (gcolumns w) ?_;rintro q w1 ⟨E1,o1⟩;obtain ⟨_,aq,cq,rfl,_⟩:=Row.of_own o1;by_cases h4:c < 4
   · rw [decide_eq_true (show 0≤c∧c < 4 from ⟨h0,h4⟩)];(refine Lg2 Y Y Y (q0i Y)<|Lg2 Y Y Y (q2k Y Y (by omega))<|Ls (q0o (v:=.bool _) Y Y)<|a_B Y<|q0c<|tn<|q0s ?_);exact q0f Y Y (v:=.bool true) Y ⟨rfl,E1⟩
   · rw [decide_eq_false (show ¬ (0≤c∧c < 4) by omega)];(refine Lg2 Y Y Y (q0i Y)<|Lg2 Y Y Y (q1f Y Y (by omega))<|Ls (q0o (v:=.bool _) Y Y)<|a_B Y<|q0c<|tn<|q0s ?_);exact q0f Y Y (v:=.bool false) Y ⟨rfl,E1⟩
 · rw [decide_eq_false (show ¬ (0≤c∧c < 4) by omega)];(refine q0b<|q0a<|a_B Y<|q0c<|tn<|q0b<|q0a<|m_I Y<|Ls (q5a Y Y (by omega))<|m_B Y<|Lo2 Y Y Y Y<|Lo2 Y Y Y Y<|Lo2 Y Y Y Y<|Lo2 Y Y Y Y<|Ls (q0k (v:=.bool _) Y Y)<|a_B Y<|q0c<|tn<|q0s ?_);exact q0f Y Y (v:=.bool false) Y ⟨rfl,Ext.refl w⟩
theorem z3x (c:Int) (b:Bool) (hb:decide (0≤c∧c < 4)=b) (w:World):Calls Tryz.prog 167 #[.int .i64 c] w fun e w'=>e=.returned (.bool b)∧Ext w w':=by
 rw [← hb];exact gvcol c w
theorem gvcond (c:Qy.CndI) (w:World):Calls Tryz.prog 170 #[.agg (cndI c).toArray] w fun e w'=>e=.returned (.bool (decide (Qy.okCI c)))∧Ext w w':=by
 refine q0j Tryz.func170 Y Tryz.ntmps170 Y ?_;obtain ⟨a,lo,hi⟩:=c;(refine q0b<|q0a ?_);refine q2s (l:=cndI (a,lo,hi)) Y ?_;intro g1 w1 B1 hg1 E1 hs1;(refine a_B Y<|q0c<|tn<|q0b ?_);by_cases h1:0≤a∧a < 4
 · by_cases h2:0≤lo
   · by_cases h3:lo≤hi
     · have e:decide (hi≤Qy.cmaxI a)=decide (Qy.okCI (a,lo,hi)):=by
         by_cases h4:hi≤Qy.cmaxI a
         · rw [decide_eq_true h4,decide_eq_true (show Qy.okCI (a,lo,hi) from ⟨h1.1,h1.2,h2,h3,h4⟩)]
         · rw [decide_eq_false h4,decide_eq_false (fun h:Qy.okCI (a,lo,hi)=>h4 h.2.2.2.2)]
       apply q1r 24 (by kernel_rfl);(apply DW_x (fun r w hA hH=>(q0g Y).trans Y);apply DW_x (fun r w hA hH=>(X_ld Y (B1.ext hA) Y).trans Y));((with_reducible apply q6l);(exact fun _=>rfl);(exact fun _=>rfl);(exact fun r w hA hH=>z3x a true (decide_eq_true h1) w));(apply DW_x (fun r w hA hH=>(q0d (v:=.bool _) Y).trans Y);apply q1a Y Y (fun _=>rfl) (fun r w hA hH=>(q0g Y).trans Y);apply q1a Y Y (fun _=>rfl) (fun r w hA hH=>(X_ld Y (B1.ext hA) Y).trans Y);apply q1a Y Y (fun _=>rfl) (fun r w hA hH=>(q3o Y Y (by omega)).trans Y);apply DW_x (fun r w hA hH=>(q0o (v:=.bool _) Y Y).trans Y);apply DW_x (fun r w hA hH=>(q0d (v:=.bool _) Y).trans Y);apply q1a Y Y (fun _=>rfl) (fun r w hA hH=>(q0g Y).trans Y);apply q1a Y Y (fun _=>rfl) (fun r w hA hH=>(X_ld Y (B1.ext hA) Y).trans Y);apply q1a Y Y (fun _=>rfl) (fun r w hA hH=>(q0g Y).trans Y);apply q1a Y Y (fun _=>rfl) (fun r w hA hH=>(X_ld Y (B1.ext hA) Y).trans Y);apply q1a Y Y (fun _=>rfl) (fun r w hA hH=>(q4r Y Y (by omega)).trans Y);apply DW_x (fun r w hA hH=>(q0o (v:=.bool _) Y Y).trans Y);apply DW_x (fun r w hA hH=>(q0d (v:=.bool _) Y).trans Y);apply q1a Y Y (fun _=>rfl) (fun r w hA hH=>(q0g Y).trans Y);apply q1a Y Y (fun _=>rfl) (fun r w hA hH=>(X_ld Y (B1.ext hA) Y).trans Y);apply q1a Y Y (fun _=>rfl) (fun r w hA hH=>(q0g Y).trans Y);apply q1a Y Y (fun _=>rfl) (fun r w hA hH=>(X_ld Y (B1.ext hA) Y).trans Y));((with_reducible apply z4g);(exact rfl);(exact rfl);(exact fun _=>rfl);(exact fun _=>rfl);(exact fun r w hA hH=>gcmax a w));(apply q1a Y Y (fun _=>rfl) (fun r w hA hH=>(X_leq Y Y).trans Y);apply DW_x (fun r w hA hH=>(q0o (v:=.bool _) Y Y).trans Y);apply DW_x (fun r w hA hH=>(q0m (v:=.bool _) Y).trans Y));((with_reducible exact q2c);(exact rfl);(repeat (first | exact .inr (.inr (fun _ _=>by with_reducible rfl)) | (refine And.intro ?_ ?_) | exact .inr (.inl rfl) | exact .inl (by decide +kernel) | exact trivial | exact .inr (.inr (fun _ _=>rfl))));(try dsimp only [Nat.reduceAdd]));intro r w2 E2 _;(refine q0c<|tn<|q0s ?_);refine q0f Y Y (v:=.bool _) Y ⟨?_,E1.trans E2⟩;rw [← e]
     · rw [decide_eq_false (fun h:Qy.okCI (a,lo,hi)=>h3 h.2.2.2.1)];apply q1r 24 (by kernel_rfl);(apply DW_x (fun r w hA hH=>(q0g Y).trans Y);apply DW_x (fun r w hA hH=>(X_ld Y (B1.ext hA) Y).trans Y));((with_reducible apply q6l);(exact fun _=>rfl);(exact fun _=>rfl);(exact fun r w hA hH=>z3x a true (decide_eq_true h1) w));(apply DW_x (fun r w hA hH=>(q0d (v:=.bool _) Y).trans Y);apply q1a Y Y (fun _=>rfl) (fun r w hA hH=>(q0g Y).trans Y);apply q1a Y Y (fun _=>rfl) (fun r w hA hH=>(X_ld Y (B1.ext hA) Y).trans Y);apply q1a Y Y (fun _=>rfl) (fun r w hA hH=>(q3o Y Y (by omega)).trans Y);apply DW_x (fun r w hA hH=>(q0o (v:=.bool _) Y Y).trans Y);apply DW_x (fun r w hA hH=>(q0d (v:=.bool _) Y).trans Y);apply q1a Y Y (fun _=>rfl) (fun r w hA hH=>(q0g Y).trans Y);apply q1a Y Y (fun _=>rfl) (fun r w hA hH=>(X_ld Y (B1.ext hA) Y).trans Y);apply q1a Y Y (fun _=>rfl) (fun r w hA hH=>(q0g Y).trans Y);apply q1a Y Y (fun _=>rfl) (fun r w hA hH=>(X_ld Y (B1.ext hA) Y).trans Y);apply q1a Y Y (fun _=>rfl) (fun r w hA hH=>(q6h Y Y (by omega)).trans Y);apply DW_x (fun r w hA hH=>(q0o (v:=.bool _) Y Y).trans Y);apply DW_x (fun r w hA hH=>(q0d (v:=.bool _) Y).trans Y);apply q0y Y Y (fun _=>rfl) Y;apply q0y Y Y (fun _=>rfl) Y;apply q0y Y Y (fun _=>rfl) Y;apply q0y Y Y (fun _=>rfl) Y;apply q0y Y Y (fun _=>rfl) Y;apply q0y Y Y (fun _=>rfl) Y;apply DW_x (fun r w hA hH=>(q0k (v:=.bool _) Y Y).trans Y);apply DW_x (fun r w hA hH=>(q0m (v:=.bool _) Y).trans Y));((with_reducible exact q2c);(exact rfl);(repeat (first | exact .inr (.inr (fun _ _=>by with_reducible rfl)) | (refine And.intro ?_ ?_) | exact .inr (.inl rfl) | exact .inl (by decide +kernel) | exact trivial | exact .inr (.inr (fun _ _=>rfl))));(try dsimp only [Nat.reduceAdd]));intro r w2 E2 _;(refine q0c<|tn<|q0s ?_);exact q0f Y Y (v:=.bool false) Y ⟨rfl,E1.trans E2⟩
   · rw [decide_eq_false (fun h:Qy.okCI (a,lo,hi)=>h2 h.2.2.1)];apply q1r 24 (by kernel_rfl);(apply DW_x (fun r w hA hH=>(q0g Y).trans Y);apply DW_x (fun r w hA hH=>(X_ld Y (B1.ext hA) Y).trans Y));((with_reducible apply q6l);(exact fun _=>rfl);(exact fun _=>rfl);(exact fun r w hA hH=>z3x a true (decide_eq_true h1) w));(apply DW_x (fun r w hA hH=>(q0d (v:=.bool _) Y).trans Y);apply q1a Y Y (fun _=>rfl) (fun r w hA hH=>(q0g Y).trans Y);apply q1a Y Y (fun _=>rfl) (fun r w hA hH=>(X_ld Y (B1.ext hA) Y).trans Y);apply q1a Y Y (fun _=>rfl) (fun r w hA hH=>(q5a Y Y (by omega)).trans Y);apply DW_x (fun r w hA hH=>(q0o (v:=.bool _) Y Y).trans Y);apply DW_x (fun r w hA hH=>(q0d (v:=.bool _) Y).trans Y);apply q0y Y Y (fun _=>rfl) Y;apply q0y Y Y (fun _=>rfl) Y;apply q0y Y Y (fun _=>rfl) Y;apply q0y Y Y (fun _=>rfl) Y;apply q0y Y Y (fun _=>rfl) Y;apply DW_x (fun r w hA hH=>(q0k (v:=.bool _) Y Y).trans Y);apply DW_x (fun r w hA hH=>(q0d (v:=.bool _) Y).trans Y);apply q0y Y Y (fun _=>rfl) Y;apply q0y Y Y (fun _=>rfl) Y;apply q0y Y Y (fun _=>rfl) Y;apply q0y Y Y (fun _=>rfl) Y;apply q0y Y Y (fun _=>rfl) Y;apply q0y Y Y (fun _=>rfl) Y;apply DW_x (fun r w hA hH=>(q0k (v:=.bool _) Y Y).trans Y);apply DW_x (fun r w hA hH=>(q0m (v:=.bool _) Y).trans Y));((with_reducible exact q2c);(exact rfl);(repeat (first | exact .inr (.inr (fun _ _=>by with_reducible rfl)) | (refine And.intro ?_ ?_) | exact .inr (.inl rfl) | exact .inl (by decide +kernel) | exact trivial | exact .inr (.inr (fun _ _=>rfl))));(try dsimp only [Nat.reduceAdd]));intro r w2 E2 _;(refine q0c<|tn<|q0s ?_);exact q0f Y Y (v:=.bool false) Y ⟨rfl,E1.trans E2⟩
 · rw [decide_eq_false (fun h:Qy.okCI (a,lo,hi)=>h1 ⟨h.1,h.2.1⟩)];apply q1r 24 (by kernel_rfl);(apply DW_x (fun r w hA hH=>(q0g Y).trans Y);apply DW_x (fun r w hA hH=>(X_ld Y (B1.ext hA) Y).trans Y));((with_reducible apply q6l);(exact fun _=>rfl);(exact fun _=>rfl);(exact fun r w hA hH=>z3x a false (decide_eq_false h1) w));(apply DW_x (fun r w hA hH=>(q0d (v:=.bool _) Y).trans Y);apply q0y Y Y (fun _=>rfl) Y;apply q0y Y Y (fun _=>rfl) Y;apply q0y Y Y (fun _=>rfl) Y;apply DW_x (fun r w hA hH=>(q0k (v:=.bool _) Y Y).trans Y);apply DW_x (fun r w hA hH=>(q0d (v:=.bool _) Y).trans Y);apply q0y Y Y (fun _=>rfl) Y;apply q0y Y Y (fun _=>rfl) Y;apply q0y Y Y (fun _=>rfl) Y;apply q0y Y Y (fun _=>rfl) Y;apply q0y Y Y (fun _=>rfl) Y;apply DW_x (fun r w hA hH=>(q0k (v:=.bool _) Y Y).trans Y);apply DW_x (fun r w hA hH=>(q0d (v:=.bool _) Y).trans Y);apply q0y Y Y (fun _=>rfl) Y;apply q0y Y Y (fun _=>rfl) Y;apply q0y Y Y (fun _=>rfl) Y;apply q0y Y Y (fun _=>rfl) Y;apply q0y Y Y (fun _=>rfl) Y;apply q0y Y Y (fun _=>rfl) Y;apply DW_x (fun r w hA hH=>(q0k (v:=.bool _) Y Y).trans Y);apply DW_x (fun r w hA hH=>(q0m (v:=.bool _) Y).trans Y));((with_reducible exact q2c);(exact rfl);(repeat (first | exact .inr (.inr (fun _ _=>by with_reducible rfl)) | (refine And.intro ?_ ?_) | exact .inr (.inl rfl) | exact .inl (by decide +kernel) | exact trivial | exact .inr (.inr (fun _ _=>rfl))));(try dsimp only [Nat.reduceAdd]));intro r w2 E2 _;(refine q0c<|tn<|q0s ?_);exact q0f Y Y (v:=.bool false) Y ⟨rfl,E1.trans E2⟩
theorem gvalid1 (c:Qy.CndI) (w:World):Calls Tryz.prog 169 #[.agg (cndI c).toArray] w fun e w'=>e=.returned (.bool (!decide (Qy.okCI c)))∧Ext w w':=by
 refine q0j Tryz.func169 Y Tryz.ntmps169 Y ?_;(refine q0b<|q0a ?_);refine q2s Y ?_;intro g1 w1 B1 hg1 E1 hs1;(refine a_B Y<|q0c<|tn<|q0b<|q0a<|Ls (q2i (size:=3) Y B1 Y) ?_);refine L_fv Y (gvcond c w1) ?_;intro w2 E2;(refine Ls (q1o Y)<|a_B Y<|q0c<|tn<|q0s ?_);exact q0f Y Y (v:=.bool _) Y ⟨rfl,E1.trans E2⟩
theorem gindexF (lo hi:Nat) (v:Value) (l:List Qy.CndI) (hl:l.length≤1000000000) (fi:FuncId) [TFun Tryz.prog fi] (cap:Array Value) (p:Qy.CndI→Bool) (w:World) (hr:Row w lo hi 3 v l.length (q4k l))
   (hp:∀ c∈l,∀ wx,Ext w wx→Calls Tryz.prog fi (#[]++#[.agg (cndI c).toArray]++cap) wx fun e w'=>e=.returned (.bool (p c))∧Ext wx w') :
   Calls Tryz.prog 273 #[v,.func (.func fi) #[] cap] w fun e w'=>∃ n:Int,e=.returned (.int .i64 n)∧Ext w w'∧decide (0≤n)=l.any p:=by
 refine q0j Tryz.func273 Y Tryz.ntmps273 Y ?_;obtain ⟨_,A,c,rfl,hc,_,hnn⟩:=id hr;(refine q0b<|q0a<|a_I Y<|q0c<|tn<|q0b<|q0b<|q0a<|m_S Y<|Ls (q0i Y)<|m_I Y<|q0c<|tn<|q0p ?_);refine q1e (fun q f w'=>∃ k,q=l.length - k∧k≤l.length∧Ext w w'∧(∀ c∈l.take k,p c=false)∧f 0=.slice A l.length c∧f 1=.func (.func fi) #[] cap∧f 7=.int .i64 (l.length:Nat)∧f 8=.int .i64 (k:Nat)) l.length ?_ ?_
 · exact ⟨0,rfl,by omega,Ext.refl w,(by intro c h;simp at h),rfl,rfl,rfl,rfl⟩
 · rintro q f w1 ⟨k,rfl,hk,E1,hno,h0,h1,h7,h8⟩;rw [fold h0,fold h1,fold h7,fold h8];(refine q0b<|q0a<|Ls (q2h Y Y)<|q0c<|tn<|q0b ?_);refine q0x Y (fun h=>?_) (fun h=>?_)
   · have hk':k < l.length:=(by omega);obtain ⟨b,o,rfl,_,_,hcell⟩:=hnn (by omega);obtain ⟨d,hd⟩:∃ d,l[k]?=some d:=⟨l[k],List.getElem?_eq_getElem hk'⟩;have hR:=Rng3 (E1.range hcell) hd;(refine q0l<|tn<|q0b<|q0p<|q0b<|q0a<|m_I Y<|a_I Y<|q0c<|tn<|q0b<|q0a<|Ls (q0d (v:=.func _ _ _) Y)<|m_S Y<|m_I Y<|Ls (q0q Y Y (by omega))<|Ls (q2x (size:=3) (cs:=cndI d) Y hR Y) ?_);refine q4q (vl:=[.agg (cndI d).toArray]) Y (hp d (List.mem_of_getElem? hd) w1 E1) Y ?_;rintro e w2 ⟨rfl,E2⟩;refine ⟨_,rfl,?_⟩;have hmem:d∈l:=List.mem_of_getElem? hd;cases hpd:p d
     · (refine q0c<|tn<|q0h Y<|q0l<|bn<|tn<|q0a<|Ls (q1c Y Y (by omega))<|m_I Y<|q0c<|tn ?_);refine ⟨l.length - (k+1),by omega,k+1,rfl,by omega,E1.trans E2,?_,rfl,rfl,rfl,rfl⟩;intro c hc;rw [List.take_add_one,hd] at hc;rcases List.mem_append.1 hc with hc | hc
       · exact hno c hc
       · simp at hc;rw [hc];exact hpd
     · (refine q0c<|tn<|q0r Y<|q0b<|q0a<|m_I Y<|a_I Y<|q0c<|tn<|q0s<|br<|tr<|tr<|br<|tr ?_);refine q0f Y Y (v:=.int _ _) Y ⟨_,rfl,E1.trans E2,?_⟩;rw [decide_eq_true (by omega),List.any_eq_true.2 ⟨d,hmem,hpd⟩]
   · obtain rfl:k=l.length:=(by omega);(refine q1d<|te<|te<|bx<|tn<|q0b<|q0a<|a_I Y<|q0c<|tn<|q0s ?_);refine q0f Y Y (v:=.int _ _) Y ⟨_,rfl,E1,?_⟩;rw [List.take_length] at hno;rw [decide_eq_false (by omega)];symm;rw [Bool.eq_false_iff];intro h;obtain ⟨c,hc,hpc⟩:=List.any_eq_true.1 h;rw [hno c hc] at hpc;cases hpc
theorem gcontains (lo hi:Nat) (v:Value) (l:List Qy.CndI) (hl:l.length≤1000000000) (fi:FuncId) [TFun Tryz.prog fi] (cap:Array Value) (p:Qy.CndI→Bool) (w:World) (hr:Row w lo hi 3 v l.length (q4k l))
   (hp:∀ c∈l,∀ wx,Ext w wx→Calls Tryz.prog fi (#[]++#[.agg (cndI c).toArray]++cap) wx fun e w'=>e=.returned (.bool (p c))∧Ext wx w') :
   Calls Tryz.prog 168 #[v,.func (.func fi) #[] cap] w fun e w'=>e=.returned (.bool (l.any p))∧Ext w w':=by
 refine q0j Tryz.func168 Y Tryz.ntmps168 Y ?_;obtain ⟨_,A,c,rfl,_⟩:=id hr;(refine q0b<|q0a<|a_B Y<|q0c<|tn<|q0b<|q0a<|m_S Y<|Ls (q0d (v:=.func _ _ _) Y) ?_);refine L_fn (gindexF lo hi _ l hl fi cap p w hr hp) Y ?_;rintro e w1 ⟨n,rfl,E1,hn⟩;refine ⟨_,rfl,?_⟩;(refine Ls (X_geq Y Y)<|a_B Y<|q0c<|tn<|q0s ?_);refine q0f Y Y (v:=.bool _) Y ⟨?_,E1⟩;rw [hn]
def q5e (k:Nat):List Value:=[.string (strB (Qy.keyword k)),.bool (Qy.hasCol k),.int .i64 (Qy.maxK k:Nat),.int .i64 (Qy.nfil k:Nat)]
def formZ:List Value:=[.string ByteArray.empty,.bool false,.int .i64 0,.int .i64 0]
def q5m:Int→Option Value:=fun i=>if 1≤i∧i≤7 then some (.agg (q5e i.toNat).toArray) else none
theorem z4a (k:Nat):∀ v∈q5e k,v.oneCell'=true:=by
 intro v hv;simp only [q5e,List.mem_cons,List.not_mem_nil,or_false] at hv;rcases hv with rfl | rfl | rfl | rfl <;> rfl
theorem formsM_eq:(fun i:Int=>if i=7 then some (Value.agg (q5e 7).toArray) else if i=6 then some (.agg (q5e 6).toArray) else if i=5 then some (.agg (q5e 5).toArray) else if i=4 then some (.agg (q5e 4).toArray) else if i=3 then some (.agg (q5e 3).toArray) else if i=2 then some (.agg (q5e 2).toArray) else if i=1 then some (.agg (q5e 1).toArray) else none)=q5m:=by
 funext i;unfold q5m;by_cases h:1≤i∧i≤7
 · have:i=1∨i=2∨i=3∨i=4∨i=5∨i=6∨i=7:=(by omega);rcases this with rfl | rfl | rfl | rfl | rfl | rfl | rfl <;> rfl
 · rw [if_neg h,if_neg (by omega),if_neg (by omega),if_neg (by omega),if_neg (by omega),if_neg (by omega),if_neg (by omega),if_neg (by omega)]
section
variable {n:NN} {f:Fr} {w:World} {d:Option Tmp} {t:TypeId} {pos:String} {af:Array Edge} {g:Option (Nat × Bool)} {x y z u:Operand}
theorem q7r (k:Nat) (hx:ev n f x=.string (strB (Qy.keyword k))) (hy:ev n f y=.bool (Qy.hasCol k)) (hz:ev n f z=.int .i64 (Qy.maxK k:Nat)) (hu:ev n f u=.int .i64 (Qy.nfil k:Nat)) :
   X Tryz.prog n ⟨d,.build 216 #[(0,x),(1,y),(2,z),(3,u)],t,pos,af,g⟩ f w=.ok (.value (.agg (q5e k).toArray)) w:=by
 have:=q1t (P:=Tryz.prog) (ty:=216) (n:=n) (f:=f) (w:=w) (d:=d) (t:=t) (pos:=pos) (af:=af) (g:=g)
   (Parts.cons (i:=0) (z:=[.string ByteArray.empty]) hx Y Y Y (Parts.cons (i:=1) (z:=[.bool false]) hy Y Y Y (Parts.cons (i:=2) (z:=[.int .i64 0]) hz Y Y Y (Parts.cons (i:=3) (z:=[.int .i64 0]) hu Y Y Y (Parts.nil _)))))
 simpa [q5e] using this
end
theorem gforms (w:World):Calls Tryz.prog 106 #[] w fun e w'=>∃ q,e=.returned q∧Ext w w'∧∃ b,q=.map (some b)∧w.heap.size≤b∧MapI Tryz.prog 3 w' b 7 q5m:=by
 refine q0j Tryz.func106 Y Tryz.ntmps106 Y ?_;(refine q0b<|q0a<|Ls (q0m (v:=.map _) Y)<|q0c<|tn<|q0b<|q0a ?_);refine L_makeMap (kt:=3) ?_;intro w1 M1 E1 hs1;obtain ⟨b,hb⟩:∃ b,b=w.heap.size:=⟨_,rfl⟩;rw [← hb] at M1 ⊢;refine Ls (q7r 1 Y Y Y Y) (z0d (q4d (v:=.agg (q5e 1).toArray) Y Y Y M1 (by decide) (by decide) ?_));intro w2 M2 g2 _;refine Ls (q7r 2 Y Y Y Y) (z0d (q4d (v:=.agg (q5e 2).toArray) Y Y Y M2 (by decide) (by decide) ?_));intro w3 M3 g3 _;refine Ls (q7r 3 Y Y Y Y) (z0d (q4d (v:=.agg (q5e 3).toArray) Y Y Y M3 (by decide) (by decide) ?_));intro w4 M4 g4 _;refine Ls (q7r 4 Y Y Y Y) (z0d (q4d (v:=.agg (q5e 4).toArray) Y Y Y M4 (by decide) (by decide) ?_));intro w5 M5 g5 _;refine Ls (q7r 5 Y Y Y Y) (z0d (q4d (v:=.agg (q5e 5).toArray) Y Y Y M5 (by decide) (by decide) ?_));intro w6 M6 g6 _;refine Ls (q7r 6 Y Y Y Y) (z0d (q4d (v:=.agg (q5e 6).toArray) Y Y Y M6 (by decide) (by decide) ?_));intro w7 M7 g7 _;refine Ls (q7r 7 Y Y Y Y) (z0d (q4d (v:=.agg (q5e 7).toArray) Y Y Y M7 (by decide) (by decide) ?_));intro w8 M8 g8 _;rw [formsM_eq] at M8;(refine Ls (q0d (v:=.map _) Y)<|Ls (q0m (v:=.map _) Y)<|q0c<|tn<|q0s ?_);refine q0f Y Y (v:=.map _) Y ?_;have hw:∀ g,some b=some g→w.heap.size≤g:=fun g h=>by cases h;omega
 exact ⟨_,rfl,((((((E1.then g2 hw).then g3 hw).then g4 hw).then g5 hw).then g6 hw).then g7 hw).then g8 hw,b,rfl,by omega,M8⟩
def q5g (w:World) (lo hi:Nat) (v:Value) (fs:List (List Qy.CndI)):Prop :=
 ∃ us:List Value,us.length=fs.length∧Row w lo hi 1 v fs.length us∧∀ (i:Nat) (u:Value) (f:List Qy.CndI),us[i]?=some u→fs[i]?=some f→Row w lo hi 3 u f.length (q4k f)
theorem q5g.ext {w w':World} {lo hi:Nat} {v:Value} {fs:List (List Qy.CndI)} (h:q5g w lo hi v fs) (E:Ext w w'):q5g w' lo hi v fs:=by
 obtain ⟨us,h1,h2,h3⟩:=h;exact ⟨us,h1,h2.ext E,fun i u f hu hf=>(h3 i u f hu hf).ext E⟩
theorem q5g.grown {w w':World} {lo hi:Nat} {v:Value} {fs:List (List Qy.CndI)} {row:Option Nat} (h:q5g w lo hi v fs) (hg:w.grownBy w' row) (hr:∀ g,row=some g→g < lo∨hi≤g):q5g w' lo hi v fs:=by
 obtain ⟨us,h1,h2,h3⟩:=h;exact ⟨us,h1,h2.grown hg hr,fun i u f hu hf=>(h3 i u f hu hf).grown hg hr⟩
theorem q5g.wide {w:World} {lo hi lo' hi':Nat} {v:Value} {fs:List (List Qy.CndI)} (h:q5g w lo hi v fs) (h1:lo'≤lo) (h2:hi≤hi'):q5g w lo' hi' v fs:=by
 obtain ⟨us,e1,e2,e3⟩:=h;exact ⟨us,e1,e2.wide h1 h2,fun i u f hu hf=>(e3 i u f hu hf).wide h1 h2⟩
theorem q5g.cell {w:World} {lo hi:Nat} {v:Value} {fs:List (List Qy.CndI)} (h:q5g w lo hi v fs):v.oneCell'=true:=by
 obtain ⟨us,_,⟨_,A,c,rfl,_⟩,_⟩:=h;rfl
def qC (k c n:Int) (v:Value):List Value:=[.int .i64 k,.int .i64 c,.int .i64 n,v]
theorem q3i {k c n:Int} {v:Value} (h:v.oneCell'=true):∀ u∈qC k c n v,u.oneCell'=true:=by
 intro u hu;simp only [qC,List.mem_cons,List.not_mem_nil,or_false] at hu;rcases hu with rfl | rfl | rfl | rfl <;> first | rfl | exact h
section
variable {P:Program} {n:NN} {f:Fr} {w:World} {d:Option Tmp} {t ty ty':TypeId} {pos:String} {af:Array Edge} {g:Option (Nat × Bool)} {x y:Operand} {k:IntKind} {a b m:Int}
theorem z3b (hx:ev n f x=.int k a) (hy:ev n f y=.int k b) (h:(if b < a then b else a)=m):X P n ⟨d,.call ⟨.builtin .min,#[x,y],#[ty,ty']⟩,t,pos,af,g⟩ f w=.ok (.value (.int k m)) w:=by
 rw [← h];exact X_min hx hy
end
theorem z3z {k:Nat} (h1:1≤k) (h7:k≤7):q5m (k:Int)=some (.agg (q5e k).toArray):=by
 unfold q5m;rw [if_pos (by omega)];rfl
theorem formsM_no {k:Int} (h:¬ (1≤k∧k≤7)):q5m k=none:=by
 unfold q5m;rw [if_neg h]
theorem formZ_ok:(Tryz.prog.info? 216).bind (·.zero)=some (.agg formZ.toArray):=by kernel_rfl
theorem mapi_rn {kt b m:Nat} {M:Int→Option Value} {k0 i:Nat} {w0 a a':World} {T:TypeId} {z l:List Value} (h:MapI Tryz.prog kt a b m M) (hr:RN k0 w0 T z l i a a'):MapI Tryz.prog kt a' b m M:=by
 rcases hr with e | ⟨_,q,_,hz,hg,_⟩
 · exact h.ext e
 · refine h.kept hg fun e=>?_;injection e with e;subst e;obtain ⟨D,⟨es,clock,hb,_⟩,_⟩:=h;rcases hz with hz | hz
   · unfold Blk at hz;rw [hb] at hz;cases hz
   · unfold Blk at hz;rw [hb] at hz;cases hz
def q7u (w0:World) (v:Value) (w:World):Prop:=∃ b,v=.map (some b)∧w0.heap.size≤b∧MapI Tryz.prog 3 w b 7 q5m
theorem form_look {w0 w:World} {r:Value} {n:NN} {f:Fr} {d:Option Tmp} {t:TypeId} {pos:String} {af:Array Edge} {g:Option (Nat × Bool)} {x y:Operand} {k:Int} {C:List Value} {q:Bool} (h:q7u w0 r w) (hx:ev n f x=r) (hy:ev n f y=.int .i64 k) (hk:(Lit.int .i64 k).wf=true)
   (hC:(q5m k).getD (.agg formZ.toArray)=.agg C.toArray) (hq:(q5m k).isSome=q):X Tryz.prog n ⟨d,.lookup 217 x y true,t,pos,af,g⟩ f w=.ok (.value (.tuple [.agg C.toArray,.bool q].toArray)) w:=by
 obtain ⟨b,rfl,_,hM⟩:=h;exact X_look2 (e:=216) formZ_ok hx hy hM hk hC hq
theorem form_look1 {w0 w:World} {r:Value} {n:NN} {f:Fr} {d:Option Tmp} {t:TypeId} {pos:String} {af:Array Edge} {g:Option (Nat × Bool)} {x y:Operand} {k:Int} {C:List Value} (h:q7u w0 r w) (hx:ev n f x=r) (hy:ev n f y=.int .i64 k) (hk:(Lit.int .i64 k).wf=true)
   (hC:(q5m k).getD (.agg formZ.toArray)=.agg C.toArray):X Tryz.prog n ⟨d,.lookup 217 x y false,t,pos,af,g⟩ f w=.ok (.value (.agg C.toArray)) w:=by
 obtain ⟨b,rfl,_,hM⟩:=h;exact z3c (e:=216) formZ_ok hx hy hM hk hC
theorem not_ok_forms {C:List Value} {k:Int} (hC:(q5m k).getD (.agg formZ.toArray)=.agg C.toArray):C.length=4∧∀ v∈C,v.oneCell'=true:=by
 unfold q5m at hC;split at hC
 · injection hC with hC;have:q5e k.toNat=C:=(by simpa using hC);rw [← this];exact ⟨rfl,z4a _⟩
 · injection hC with hC;have:formZ=C:=(by simpa using hC);rw [← this];exact ⟨rfl,by decide⟩
theorem any_ok {l:List Qy.CndI} (h3:l.length≤3):l.any (fun c=>!decide (Qy.okCI c))=!decide (Qy.okFI l):=by
 by_cases hall:∀ c∈l,Qy.okCI c
 · rw [decide_eq_true (show Qy.okFI l from ⟨h3,hall⟩),Bool.not_true,List.any_eq_false];intro c hc;rw [decide_eq_true (hall c hc)];simp
 · rw [decide_eq_false (fun h:Qy.okFI l=>hall h.2)];apply Classical.byContradiction;intro hn;apply hall;intro c hc;apply Classical.byContradiction;intro hc';apply hn;rw [Bool.not_false,List.any_eq_true];exact ⟨c,hc,by rw [decide_eq_false hc'];rfl⟩
theorem OkI_k {k:Nat} (h1:1≤k) (h7:k≤7) (col kk:Int) (fs:List (List Qy.CndI)):Qy.OkI ⟨k,col,kk,fs⟩↔(0≤col∧col < 4∧(Qy.hasCol k=false→col=0))∧(0≤kk∧kk≤(Qy.maxK k:Nat)∧(0 < (Qy.maxK k:Nat)→0 < kk))∧fs.length=Qy.nfil k∧∀ l∈fs,Qy.okFI l:=by
 unfold Qy.OkI;dsimp only;rw [Qy.maxKI_nat,Qy.hasColI_nat];have hn:(if (k:Int)=7 then (2:Int) else 1)=(Qy.nfil k:Nat):=by
   unfold Qy.nfil;by_cases h:k=7
   · rw [h];rfl
   · rw [if_neg (by omega)];have e:(k == 7)=false:=(by simp [h]);rw [e];rfl
 rw [hn,Bool.not_eq_true];constructor
 · rintro ⟨⟨_,_,a,b,c⟩,⟨d,e,f⟩,g,h⟩;exact ⟨⟨a,b,c⟩,⟨d,e,fun h=>f (by omega)⟩,by omega,h⟩
 · rintro ⟨⟨a,b,c⟩,⟨d,e,f⟩,g,h⟩;exact ⟨⟨by omega,by omega,a,b,c⟩,⟨d,e,fun h=>f (by omega)⟩,by omega,h⟩
theorem gvalid (q:Qy.QI) (v:Value) (lo hi:Nat) (w:World) (hF:q5g w lo hi v q.fs) (hk:(Lit.int .i64 q.kind).wf=true) :
   Calls Tryz.prog 88 #[.agg (qC q.kind q.col q.k v).toArray] w fun e w'=>e=.returned (.bool (decide (Qy.OkI q)))∧Ext w w':=by
 refine q0j Tryz.func88 Y Tryz.ntmps88 Y ?_;obtain ⟨kind,col,kk,fs⟩:=q;dsimp only at hF hk ⊢;have hvc:=hF.cell;(refine q0b<|q0a ?_);refine q2s (l:=qC kind col kk v) Y ?_;intro g1 w1 B1 hg1 E1 hs1;(refine a_B Y<|q0c<|tn<|q0b ?_);obtain ⟨C,qq,hC,hq⟩:∃ (C:List Value) (qq:Bool),(q5m kind).getD (.agg formZ.toArray)=.agg C.toArray∧(q5m kind).isSome=qq:=by
   unfold q5m;split
   · exact ⟨_,_,rfl,rfl⟩
   · exact ⟨_,_,rfl,rfl⟩
 obtain ⟨hCl,hCc⟩:=not_ok_forms hC;apply z0b (R:=RN 8 w1 216 formZ C) (Ext w1) 9 (by kernel_rfl) RN.refl (Ext.drew w1) RN.step;((with_reducible apply DW_fo (F:=q7u w1));(exact fun _=>rfl);(exact fun _=>rfl);(exact fun r w hA hH=>(gforms w).mono fun e w' ⟨u,h1,h2,b,h3,h4,h5⟩=>⟨u,h1,h2,b,h3,Nat.le_trans hA.size h4,h5⟩);(exact fun i u w w' hi ht hR h=>(by obtain ⟨b,h1,h2,h3⟩:=h;exact ⟨b,h1,h2,mapi_rn h3 hR⟩)));(apply DW_x (fun r w hA hH=>(q0g Y).trans Y);apply DW_x (fun r w hA hH=>(X_ld Y (B1.ext hA) Y).trans Y));((with_reducible apply DW_x);(exact fun r w hA hH=>(form_look (hH 0 Y) Y Y hk hC hq).trans Y));(apply DW_x (fun r w hA hH=>(q0d (v:=.tuple _) Y).trans Y);apply DW_x (fun r w hA hH=>(q0n Y Y).trans Y);apply DW_x (fun r w hA hH=>(q0n Y Y).trans Y));apply DW_allocZ;apply DW_storeN (kx:=7) (fun _=>rfl) (fun _=>rfl) Y hCl hCc (by decide) (fun r w hA hH=>hH 7 Y);((with_reducible exact q2c);(exact rfl);(repeat (first | exact .inr (.inr (fun _ _=>by with_reducible rfl)) | (refine And.intro ?_ ?_) | exact .inr (.inl rfl) | exact .inl (by decide +kernel) | exact trivial | exact .inr (.inr (fun _ _=>rfl))));(try dsimp only [Nat.reduceAdd]));intro r w2 E2 H2;obtain ⟨g3,hr3,hg3,B3⟩:∃ q,r 7=.pointer (some ⟨q,0,none⟩)∧w1.heap.size≤q∧Blk w2 q 216 C:=H2 8;rw [hr3];have C1:=B1.ext E2;have F2:=(hF.ext E1).ext E2;have Ea:=E1.trans E2;clear hr3 H2;by_cases h17:1≤kind∧kind≤7
 · obtain ⟨k,rfl⟩:∃ k:Nat,kind=k:=⟨kind.toNat,by omega⟩;have hok:=OkI_k (k:=k) (by omega) (by omega) col kk fs;rw [z3z (by omega) (by omega)] at hC hq;obtain rfl:q5e k=C:=(by simpa using hC);obtain rfl:true=qq:=hq;obtain ⟨hc,hhc⟩:∃ hc,hc=Qy.hasCol k:=⟨_,rfl⟩;obtain ⟨mk,hmk⟩:∃ mk,mk=Qy.maxK k:=⟨_,rfl⟩;obtain ⟨nf,hnf⟩:∃ nf,nf=Qy.nfil k:=⟨_,rfl⟩;have hnf2:nf≤2:=(by rw [hnf];unfold Qy.nfil;cases (k == 7) <;> decide);have hmk0:mk≤65536:=(by rw [hmk];exact Qy.maxK_le k);obtain ⟨mn,hmn⟩:∃ mn:Int,(if (1:Int) < (mk:Nat) then 1 else ((mk:Nat):Int))=mn:=⟨_,rfl⟩;have hmn1:(0 < mk→mn=1)∧(mk=0→mn=0):=(by rw [← hmn];constructor <;> intro h <;> split <;> omega);unfold q5e at B3;rw [← hhc,← hmk,← hnf] at B3 hok;clear hC hCl hCc hhc hnf hmk;rw [show decide (Qy.OkI ⟨k,col,kk,fs⟩)=decide (_) from decide_eq_decide.2 hok];clear hok;obtain ⟨us,hul,hvr,hus⟩:=id F2;by_cases hA:fs.length=nf
   · by_cases hB:kk < mn
     · rw [decide_eq_false (by omega)];(refine a_B Y<|q0c<|tn<|q0b<|q0b<|q0a<|m_B Y<|Ls (q1o Y)<|m_B Y<|Lg2 Y Y Y (q0g Y)<|Lg2 Y Y Y (X_ld Y C1 Y)<|Lg2 Y Y Y (q1y (v:=v) Y hvr)<|Lg2 Y Y Y (q0g Y)<|Lg2 Y Y Y (X_ld Y B3 Y)<|Lg2 Y Y Y (q2e Y Y (by omega))<|Ls (q0k (v:=.bool _) Y Y)<|m_B Y<|Lg2 Y Y Y (q0g Y)<|Lg2 Y Y Y (X_ld Y C1 Y)<|Lg2 Y Y Y (q0g Y)<|Lg2 Y Y Y (X_ld Y B3 Y)<|Lg2 Y Y Y (z3b Y Y hmn)<|Lg2 Y Y Y (q2k Y Y (by omega))<|Ls (q0k (v:=.bool _) Y Y)<|m_B Y<|Lo2 Y Y Y Y<|Lo2 Y Y Y Y<|Lo2 Y Y Y Y<|Lo2 Y Y Y Y<|Lo2 Y Y Y Y<|Ls (q0o (v:=.bool _) Y Y)<|q0c<|tn<|q0r Y<|q0b<|q0a<|a_B Y<|q0c<|tn<|q0s<|tr ?_);exact q0f Y Y (v:=.bool false) Y ⟨rfl,Ea⟩
     · by_cases hC:(mk:Int) < kk
       · rw [decide_eq_false (by omega)];(refine a_B Y<|q0c<|tn<|q0b<|q0b<|q0a<|m_B Y<|Ls (q1o Y)<|m_B Y<|Lg2 Y Y Y (q0g Y)<|Lg2 Y Y Y (X_ld Y C1 Y)<|Lg2 Y Y Y (q1y (v:=v) Y hvr)<|Lg2 Y Y Y (q0g Y)<|Lg2 Y Y Y (X_ld Y B3 Y)<|Lg2 Y Y Y (q2e Y Y (by omega))<|Ls (q0k (v:=.bool _) Y Y)<|m_B Y<|Lg2 Y Y Y (q0g Y)<|Lg2 Y Y Y (X_ld Y C1 Y)<|Lg2 Y Y Y (q0g Y)<|Lg2 Y Y Y (X_ld Y B3 Y)<|Lg2 Y Y Y (z3b Y Y hmn)<|Lg2 Y Y Y (q1f Y Y (by omega))<|Ls (q0k (v:=.bool _) Y Y)<|m_B Y<|Lg2 Y Y Y (q0g Y)<|Lg2 Y Y Y (X_ld Y C1 Y)<|Lg2 Y Y Y (q0g Y)<|Lg2 Y Y Y (X_ld Y B3 Y)<|Lg2 Y Y Y (q3l Y Y (by omega))<|Ls (q0k (v:=.bool _) Y Y)<|q0c<|tn<|q0r Y<|q0b<|q0a<|a_B Y<|q0c<|tn<|q0s<|tr ?_);exact q0f Y Y (v:=.bool false) Y ⟨rfl,Ea⟩
       · by_cases hD:0≤col∧col < 4∧(hc=false→col=0)
         · rw [show decide (_∧_∧fs.length=nf∧∀ l∈fs,Qy.okFI l)=decide (∀ l∈fs,Qy.okFI l) from decide_eq_decide.2 ⟨fun h=>h.2.2.2,fun h=>⟨hD,⟨by omega,by omega,fun h=>by omega⟩,hA,h⟩⟩];cases hc
           case' false =>
             obtain ⟨w3,e3,E3⟩:∃ w3,w3=w2∧Ext w2 w3:=⟨_,rfl,Ext.refl _⟩
             have hcol:col=0:=hD.2.2 Y
             (refine a_B Y<|q0c<|tn<|q0b<|q0b<|q0a<|m_B Y<|Ls (q1o Y)<|m_B Y<|Lg2 Y Y Y (q0g Y)<|Lg2 Y Y Y (X_ld Y C1 Y)<|Lg2 Y Y Y (q1y (v:=v) Y hvr)<|Lg2 Y Y Y (q0g Y)<|Lg2 Y Y Y (X_ld Y B3 Y)<|Lg2 Y Y Y (q2e Y Y (by omega))<|Ls (q0k (v:=.bool _) Y Y)<|m_B Y<|Lg2 Y Y Y (q0g Y)<|Lg2 Y Y Y (X_ld Y C1 Y)<|Lg2 Y Y Y (q0g Y)<|Lg2 Y Y Y (X_ld Y B3 Y)<|Lg2 Y Y Y (z3b Y Y hmn)<|Lg2 Y Y Y (q1f Y Y (by omega))<|Ls (q0k (v:=.bool _) Y Y)<|m_B Y<|Lg2 Y Y Y (q0g Y)<|Lg2 Y Y Y (X_ld Y C1 Y)<|Lg2 Y Y Y (q0g Y)<|Lg2 Y Y Y (X_ld Y B3 Y)<|Lg2 Y Y Y (q1q Y Y (by omega))<|Ls (q0k (v:=.bool _) Y Y)<|q0c<|tn<|q0h Y<|q0l<|tn<|q0b<|q0b<|q0a<|Ls (q0g Y)<|Ls (X_ld Y B3 Y)<|m_B Y<|Lo2 Y Y Y Y<|Lo2 Y Y Y Y<|Lo2 Y Y Y Y<|Lo2 Y Y Y Y<|Ls (q0k (v:=.bool _) Y Y)<|m_B Y<|Lg2 Y Y Y (q0g Y)<|Lg2 Y Y Y (X_ld Y B3 Y)<|Lg2 Y Y Y (q1o Y)<|Lg2 Y Y Y (q0d (v:=.bool _) Y)<|Lg2 Y Y Y (q0g Y)<|Lg2 Y Y Y (X_ld Y C1 Y)<|Lg2 Y Y Y (q2e Y Y (by omega))<|Lg2 Y Y Y (q0o (v:=.bool _) Y Y)<|Ls (q0k (v:=.bool _) Y Y)<|q0c<|tn<|q0h Y<|q0l<|tn<|q0b<|q0b<|q0a<|Ls (q0g Y)<|Ls (X_ld Y C1 Y)<|Ls (q1y (v:=v) Y hvr)<|m_I Y<|q0c<|tn<|q0p ?_)
             rw [← e3]
           case' true =>
             (refine a_B Y<|q0c<|tn<|q0b<|q0b<|q0a<|m_B Y<|Ls (q1o Y)<|m_B Y<|Lg2 Y Y Y (q0g Y)<|Lg2 Y Y Y (X_ld Y C1 Y)<|Lg2 Y Y Y (q1y (v:=v) Y hvr)<|Lg2 Y Y Y (q0g Y)<|Lg2 Y Y Y (X_ld Y B3 Y)<|Lg2 Y Y Y (q2e Y Y (by omega))<|Ls (q0k (v:=.bool _) Y Y)<|m_B Y<|Lg2 Y Y Y (q0g Y)<|Lg2 Y Y Y (X_ld Y C1 Y)<|Lg2 Y Y Y (q0g Y)<|Lg2 Y Y Y (X_ld Y B3 Y)<|Lg2 Y Y Y (z3b Y Y hmn)<|Lg2 Y Y Y (q1f Y Y (by omega))<|Ls (q0k (v:=.bool _) Y Y)<|m_B Y<|Lg2 Y Y Y (q0g Y)<|Lg2 Y Y Y (X_ld Y C1 Y)<|Lg2 Y Y Y (q0g Y)<|Lg2 Y Y Y (X_ld Y B3 Y)<|Lg2 Y Y Y (q1q Y Y (by omega))<|Ls (q0k (v:=.bool _) Y Y)<|q0c<|tn<|q0h Y<|q0l<|tn<|q0b<|q0b<|q0a<|Ls (q0g Y)<|Ls (X_ld Y B3 Y)<|m_B Y<|Lg2 Y Y Y (q0g Y)<|Lg2 Y Y Y (X_ld Y C1 Y) ?_)
             refine q1n Y Y Y ?_
             refine L_fv Y (z3x col true (decide_eq_true ⟨hD.1,hD.2.1⟩) w2) ?_
             intro w3 E3
             (refine Lg2 Y Y Y (q1o Y)<|Ls (q0o (v:=.bool _) Y Y)<|m_B Y<|Lg2 Y Y Y (q0g Y)<|Lg2 Y Y Y (X_ld Y (B3.ext E3) Y)<|Lg2 Y Y Y (q1o Y)<|Lg2 Y Y Y (q0d (v:=.bool _) Y)<|Lo2 Y Y Y Y<|Lo2 Y Y Y Y<|Lo2 Y Y Y Y<|Lg2 Y Y Y (q0k (v:=.bool _) Y Y)<|Ls (q0k (v:=.bool _) Y Y)<|q0c<|tn<|q0h Y<|q0l<|tn<|q0b<|q0b<|q0a<|Ls (q0g Y)<|Ls (X_ld Y (C1.ext E3) Y)<|Ls (q1y (v:=v) Y (hvr.ext E3))<|m_I Y<|q0c<|tn<|q0p ?_)
           all_goals
             refine q1e (fun q f w'=>∃ i,q=fs.length - i∧i≤fs.length∧Ext w3 w'∧(∀ l∈fs.take i,Qy.okFI l)∧f 58=v∧f 59=.int .i64 (fs.length:Nat)∧f 60=.int .i64 (i:Nat)) fs.length ?_ ?_
             · exact ⟨0,rfl,by omega,Ext.refl _,(by intro l h;simp at h),rfl,rfl,rfl⟩
             · rintro q f w4 ⟨i,rfl,hil,E4,hpre,f58,f59,f60⟩
               rw [fold f58,fold f59,fold f60]
               have E24:=E3.trans E4
               by_cases hi':i < fs.length
               · obtain ⟨l,hl⟩:∃ l,fs[i]?=some l:=⟨fs[i],List.getElem?_eq_getElem hi'⟩
                 obtain ⟨u,hu⟩:∃ u,us[i]?=some u:=⟨us[i]'(by omega),List.getElem?_eq_getElem (by omega)⟩
                 have hlr:=(hus i u l hu hl).ext E24
                 obtain ⟨b0,o0,c0,rfl,_,_,_,hc0⟩:=hvr.at (k:=i) hi'
                 have huc:u.oneCell'=true:=by obtain ⟨_,A,c,rfl,_⟩:=hlr;rfl
                 have hsu:fs.take (i+1)=fs.take i++[l]:=by rw [List.take_add_one,hl];rfl
                 by_cases h3:l.length≤3
                 · (refine q0b<|q0a<|Ls (q2k Y Y (by omega))<|q0c<|tn<|q0b<|q0r Y<|q0l<|tn<|q0b<|q0p<|q0b<|q0a<|Ls (q0q Y Y (by omega))<|Ls (q1p (j:=i) (v:=u) Y (Ext.range E24 hc0) (by omega) hu)<|Ls (q0m (v:=u) Y)<|q0c<|tn<|q0b<|q0a<|Ls (q0d (v:=u) Y)<|Ls (q1y (v:=u) Y hlr)<|Ls (q1q Y Y (by omega))<|m_B Y<|Lg2 Y Y Y (q0d (v:=u) Y) ?_)
                   refine q1n Y Y Y ?_
                   refine L_fv Y (gcontains lo hi u l (by omega) 169 #[] (fun c=>!decide (Qy.okCI c)) w4 hlr (fun c _ wx _=>gvalid1 c wx)) ?_
                   intro w5 E5
                   rw [any_ok h3]
                   by_cases hf:Qy.okFI l
                   · rw [decide_eq_true hf]
                     (refine Ls (q0k (v:=.bool _) Y Y)<|q0c<|tn<|q0h Y<|q0l<|bn<|tn<|q0a<|Ls (q1c Y Y (by omega))<|m_I Y<|q0c<|tn ?_)
                     refine ⟨fs.length - (i+1),by omega,i+1,rfl,by omega,E4.trans E5,?_,rfl,rfl,rfl⟩
                     rw [hsu]
                     intro m hm
                     rcases List.mem_append.1 hm with hm | hm
                     · exact hpre m hm
                     · simp at hm;rw [hm];exact hf
                   · rw [decide_eq_false hf]
                     (refine Ls (q0k (v:=.bool _) Y Y)<|q0c<|tn<|q0r Y<|q0b<|q0a<|a_B Y<|q0c<|tn<|q0s<|br<|tr<|tr<|br<|tr ?_)
                     refine q0f Y Y (v:=.bool false) Y ⟨?_,Ea.trans (E24.trans E5)⟩
                     rw [decide_eq_false (fun h=>hf (h l (List.mem_of_getElem? hl)))]
                 · (refine q0b<|q0a<|Ls (q2k Y Y (by omega))<|q0c<|tn<|q0b<|q0r Y<|q0l<|tn<|q0b<|q0p<|q0b<|q0a<|Ls (q0q Y Y (by omega))<|Ls (q1p (j:=i) (v:=u) Y (Ext.range E24 hc0) (by omega) hu)<|Ls (q0m (v:=u) Y)<|q0c<|tn<|q0b<|q0a<|Ls (q0d (v:=u) Y)<|Ls (q1y (v:=u) Y hlr)<|Ls (q3l Y Y (by omega))<|m_B Y<|Lo2 Y Y Y Y<|Lo2 Y Y Y Y<|Ls (q0o (v:=.bool _) Y Y)<|q0c<|tn<|q0r Y<|q0b<|q0a<|a_B Y<|q0c<|tn<|q0s<|br<|tr<|tr<|br<|tr ?_)
                   refine q0f Y Y (v:=.bool false) Y ⟨?_,Ea.trans E24⟩
                   rw [decide_eq_false (fun h=>h3 (h l (List.mem_of_getElem? hl)).1)]
               · obtain rfl:i=fs.length:=by omega
                 (refine q0b<|q0a<|Ls (q1f Y Y (by omega))<|q0c<|tn<|q0b<|q0h Y<|q1d<|te<|te<|bx<|tn<|q0b<|q0a<|a_B Y<|q0c<|tn<|q0s ?_)
                 refine q0f Y Y (v:=.bool true) Y ⟨?_,Ea.trans E24⟩
                 rw [List.take_length] at hpre
                 rw [decide_eq_true hpre]
         · rw [decide_eq_false (fun h=>hD h.1)];cases hc
           · by_cases hcol:col=0
             · exact (hD ⟨by omega,by omega,fun _=>hcol⟩).elim
             · (refine a_B Y<|q0c<|tn<|q0b<|q0b<|q0a<|m_B Y<|Ls (q1o Y)<|m_B Y<|Lg2 Y Y Y (q0g Y)<|Lg2 Y Y Y (X_ld Y C1 Y)<|Lg2 Y Y Y (q1y (v:=v) Y hvr)<|Lg2 Y Y Y (q0g Y)<|Lg2 Y Y Y (X_ld Y B3 Y)<|Lg2 Y Y Y (q2e Y Y (by omega))<|Ls (q0k (v:=.bool _) Y Y)<|m_B Y<|Lg2 Y Y Y (q0g Y)<|Lg2 Y Y Y (X_ld Y C1 Y)<|Lg2 Y Y Y (q0g Y)<|Lg2 Y Y Y (X_ld Y B3 Y)<|Lg2 Y Y Y (z3b Y Y hmn)<|Lg2 Y Y Y (q1f Y Y (by omega))<|Ls (q0k (v:=.bool _) Y Y)<|m_B Y<|Lg2 Y Y Y (q0g Y)<|Lg2 Y Y Y (X_ld Y C1 Y)<|Lg2 Y Y Y (q0g Y)<|Lg2 Y Y Y (X_ld Y B3 Y)<|Lg2 Y Y Y (q1q Y Y (by omega))<|Ls (q0k (v:=.bool _) Y Y)<|q0c<|tn<|q0h Y<|q0l<|tn<|q0b<|q0b<|q0a<|Ls (q0g Y)<|Ls (X_ld Y B3 Y)<|m_B Y<|Lo2 Y Y Y Y<|Lo2 Y Y Y Y<|Lo2 Y Y Y Y<|Lo2 Y Y Y Y<|Ls (q0k (v:=.bool _) Y Y)<|m_B Y<|Lg2 Y Y Y (q0g Y)<|Lg2 Y Y Y (X_ld Y B3 Y)<|Lg2 Y Y Y (q1o Y)<|Lg2 Y Y Y (q0d (v:=.bool _) Y)<|Lg2 Y Y Y (q0g Y)<|Lg2 Y Y Y (X_ld Y C1 Y)<|Lg2 Y Y Y (q2t Y Y (by omega))<|Lg2 Y Y Y (q0o (v:=.bool _) Y Y)<|Ls (q0k (v:=.bool _) Y Y)<|q0c<|tn<|q0r Y<|q0b<|q0a<|a_B Y<|q0c<|tn<|q0s<|tr ?_);exact q0f Y Y (v:=.bool false) Y ⟨rfl,Ea⟩
           · (refine a_B Y<|q0c<|tn<|q0b<|q0b<|q0a<|m_B Y<|Ls (q1o Y)<|m_B Y<|Lg2 Y Y Y (q0g Y)<|Lg2 Y Y Y (X_ld Y C1 Y)<|Lg2 Y Y Y (q1y (v:=v) Y hvr)<|Lg2 Y Y Y (q0g Y)<|Lg2 Y Y Y (X_ld Y B3 Y)<|Lg2 Y Y Y (q2e Y Y (by omega))<|Ls (q0k (v:=.bool _) Y Y)<|m_B Y<|Lg2 Y Y Y (q0g Y)<|Lg2 Y Y Y (X_ld Y C1 Y)<|Lg2 Y Y Y (q0g Y)<|Lg2 Y Y Y (X_ld Y B3 Y)<|Lg2 Y Y Y (z3b Y Y hmn)<|Lg2 Y Y Y (q1f Y Y (by omega))<|Ls (q0k (v:=.bool _) Y Y)<|m_B Y<|Lg2 Y Y Y (q0g Y)<|Lg2 Y Y Y (X_ld Y C1 Y)<|Lg2 Y Y Y (q0g Y)<|Lg2 Y Y Y (X_ld Y B3 Y)<|Lg2 Y Y Y (q1q Y Y (by omega))<|Ls (q0k (v:=.bool _) Y Y)<|q0c<|tn<|q0h Y<|q0l<|tn<|q0b<|q0b<|q0a<|Ls (q0g Y)<|Ls (X_ld Y B3 Y)<|m_B Y<|Lg2 Y Y Y (q0g Y)<|Lg2 Y Y Y (X_ld Y C1 Y) ?_);refine q1n Y Y Y ?_;refine L_fv Y (z3x col false (decide_eq_false (fun h=>hD ⟨h.1,h.2,fun h=>by cases h⟩)) w2) ?_;intro w3 E3;(refine Lg2 Y Y Y (q1o Y)<|Ls (q0o (v:=.bool _) Y Y)<|m_B Y<|Lo2 Y Y Y Y<|Lo2 Y Y Y Y<|Lo2 Y Y Y Y<|Lo2 Y Y Y Y<|Lo3 Y Y Y<|Lo3 Y Y Y<|Lo3 Y Y Y<|Lo2 Y Y Y Y<|Ls (q0o (v:=.bool _) Y Y)<|q0c<|tn<|q0r Y<|q0b<|q0a<|a_B Y<|q0c<|tn<|q0s<|tr ?_);exact q0f Y Y (v:=.bool false) Y ⟨rfl,Ea.trans E3⟩
   · rw [decide_eq_false (by omega)];(refine a_B Y<|q0c<|tn<|q0b<|q0b<|q0a<|m_B Y<|Ls (q1o Y)<|m_B Y<|Lg2 Y Y Y (q0g Y)<|Lg2 Y Y Y (X_ld Y C1 Y)<|Lg2 Y Y Y (q1y (v:=v) Y hvr)<|Lg2 Y Y Y (q0g Y)<|Lg2 Y Y Y (X_ld Y B3 Y)<|Lg2 Y Y Y (q2t Y Y (by omega))<|Ls (q0k (v:=.bool _) Y Y)<|m_B Y<|Lo2 Y Y Y Y<|Lo2 Y Y Y Y<|Lo2 Y Y Y Y<|Lo2 Y Y Y Y<|Lo2 Y Y Y Y<|Lo2 Y Y Y Y<|Ls (q0o (v:=.bool _) Y Y)<|m_B Y<|Lo2 Y Y Y Y<|Lo2 Y Y Y Y<|Lo2 Y Y Y Y<|Lo2 Y Y Y Y<|Lo2 Y Y Y Y<|Ls (q0o (v:=.bool _) Y Y)<|q0c<|tn<|q0r Y<|q0b<|q0a<|a_B Y<|q0c<|tn<|q0s<|tr ?_);exact q0f Y Y (v:=.bool false) Y ⟨rfl,Ea⟩
 · have hok:¬ Qy.OkI ⟨kind,col,kk,fs⟩:=fun h=>h17 ⟨h.1.1,h.1.2.1⟩;rw [formsM_no h17] at hq;obtain rfl:false=qq:=hq;rw [decide_eq_false hok];(refine a_B Y<|q0c<|tn<|q0b<|q0b<|q0a<|m_B Y<|Ls (q1o Y)<|m_B Y<|Lo2 Y Y Y Y<|Lo2 Y Y Y Y<|Lo2 Y Y Y Y<|Lo2 Y Y Y Y<|Lo2 Y Y Y Y<|Lo2 Y Y Y Y<|Ls (q0o (v:=.bool _) Y Y)<|m_B Y<|Lo2 Y Y Y Y<|Lo2 Y Y Y Y<|Lo2 Y Y Y Y<|Lo2 Y Y Y Y<|Lo2 Y Y Y Y<|Lo2 Y Y Y Y<|Ls (q0o (v:=.bool _) Y Y)<|m_B Y<|Lo2 Y Y Y Y<|Lo2 Y Y Y Y<|Lo2 Y Y Y Y<|Lo2 Y Y Y Y<|Lo2 Y Y Y Y<|Ls (q0o (v:=.bool _) Y Y)<|q0c<|tn<|q0r Y<|q0b<|q0a<|a_B Y<|q0c<|tn<|q0s<|tr ?_);exact q0f Y Y (v:=.bool false) Y ⟨rfl,Ea⟩
end Go.Proofs.YtlcnkadkbcoadaaGreatDoor
namespace Go.Proofs
open Go.Shelf
def Tryz.lays125_ren:Go.Shelf.Ren:=⟨fun | 125=>216 | 128=>301 | 129=>302 | n=>n,fun | 46=>348 | 3=>3 | 51=>433 | 53=>52 | 4=>4 | 5=>5 | 9=>9 | n=>n,fun | n=>n⟩
theorem Tryz.lays125:Go.Proofs.Lays.n125 Tryz.prog Tryz.lays125_ren:={
 mixed:=by kernel_rfl
 f125:=Tryz.func216.trans (congrArg some (by kernel_rfl))
 f128:=Tryz.func301.trans (congrArg some (by kernel_rfl))
 f129:=Tryz.func302.trans (congrArg some (by kernel_rfl))
 t3:=Tryz.underlying3
 a3:=Tryz.isAgg3
 z3:=Tryz.sizeOf3
 v3:=Tryz.zeroValue3
 t4:=Tryz.underlying4
 a4:=Tryz.isAgg4
 z4:=Tryz.sizeOf4
 v4:=Tryz.zeroValue4
 t5:=Tryz.underlying5
 a5:=Tryz.isAgg5
 z5:=Tryz.sizeOf5
 v5:=Tryz.zeroValue5
 t9:=Tryz.underlying9
 a9:=Tryz.isAgg9
 z9:=Tryz.sizeOf9
 v9:=Tryz.zeroValue9
 t46:=Tryz.underlying348
 a46:=Tryz.isAgg348
 z46:=Tryz.sizeOf348
 v46:=Tryz.zeroValue348
 t51:=Tryz.underlying433
 a51:=Tryz.isAgg433
 z51:=Tryz.sizeOf433
 v51:=Tryz.zeroValue433
 t53:=Tryz.underlying52
 a53:=Tryz.isAgg52
 z53:=Tryz.sizeOf52
 v53:=Tryz.zeroValue52 }
theorem Tryz.bits_Len (x:Int) (w:World) (h0:0≤x) (h1:x≤18446744073709551615) :
   Calls Tryz.prog 216 #[.int .u64 x] w fun e w'=>e=.returned (.int .i64 (Lib.bitLen x.toNat))∧w'=w:=Any.bits_Len Tryz.lays125 x w h0 h1
def Tryz.lays137_ren:Go.Shelf.Ren:=⟨fun | 137=>163 | 217=>271 | 266=>349 | n=>n,fun | 9=>9 | 5=>5 | 3=>3 | n=>n,fun | n=>n⟩
theorem Tryz.lays137:Go.Proofs.Lays.n137 Tryz.prog Tryz.lays137_ren:={
 mixed:=by kernel_rfl
 f137:=Tryz.func163.trans (congrArg some (by kernel_rfl))
 f217:=Tryz.func271.trans (congrArg some (by kernel_rfl))
 f266:=Tryz.func349.trans (congrArg some (by kernel_rfl))
 t3:=Tryz.underlying3
 a3:=Tryz.isAgg3
 z3:=Tryz.sizeOf3
 v3:=Tryz.zeroValue3
 t5:=Tryz.underlying5
 a5:=Tryz.isAgg5
 z5:=Tryz.sizeOf5
 v5:=Tryz.zeroValue5
 t9:=Tryz.underlying9
 a9:=Tryz.isAgg9
 z9:=Tryz.sizeOf9
 v9:=Tryz.zeroValue9 }
open Go.RowKit in
theorem Tryz.strings_IndexByte (s:ByteArray) (c:Int) (w:World) :
   Calls Tryz.prog 163 #[.string s,.int .u8 c] w fun e w'=>e=.returned (.int .i64 (Lib.indexByte s.data.toList c.toNat.toUInt8))∧w'=w:=Any.strings_IndexByte Tryz.lays137 s c w
def Tryz.laysC172_ren:Go.Shelf.Ren:=⟨fun | 172=>269 | 244=>347 | 245=>348 | 247=>418 | 279=>419 | 280=>420 | 281=>421 | 282=>422 | 287=>451 | 316=>452 | 171=>108 | 205=>453 | 321=>468 | 322=>469 | 243=>211 | 246=>296 | 283=>375 | 284=>376 | 285=>377 | 286=>378 | 129=>302 | 317=>430 | 318=>431 | 319=>432 | 320=>433 | 337=>454 | 338=>455 | n=>n,fun | 9=>9 | 3=>3 | 75=>341 | 76=>342 | 4=>4 | 5=>5 | 167=>537 | 37=>69 | 0=>0 | 85=>538 | 2=>2 | 168=>540 | 53=>52 | 175=>574 | 46=>348 | 210=>578 | 127=>439 | 145=>595 | 143=>593 | 21=>21 | 171=>505 | 173=>507 | 212=>551 | 51=>433 | 20=>20 | 213=>552 | 232=>41 | 233=>596 | 80=>344 | n=>n,fun | 15=>7 | 16=>8 | 17=>6 | 18=>9 | 19=>10 | n=>n⟩
theorem Tryz.laysC172:Go.Proofs.LaysC.n172 Tryz.prog Tryz.laysC172_ren:={
 mixed:=by kernel_rfl
 f129:=Tryz.func302.trans (congrArg some (by kernel_rfl))
 f171:=Tryz.func108.trans (congrArg some (by kernel_rfl))
 f172:=Tryz.func269.trans (congrArg some (by kernel_rfl))
 f205:=Tryz.func453.trans (congrArg some (by kernel_rfl))
 f243:=Tryz.func211.trans (congrArg some (by kernel_rfl))
 f244:=Tryz.func347.trans (congrArg some (by kernel_rfl))
 f245:=Tryz.func348.trans (congrArg some (by kernel_rfl))
 f246:=Tryz.func296.trans (congrArg some (by kernel_rfl))
 f247:=Tryz.func418.trans (congrArg some (by kernel_rfl))
 f279:=Tryz.func419.trans (congrArg some (by kernel_rfl))
 f280:=Tryz.func420.trans (congrArg some (by kernel_rfl))
 f281:=Tryz.func421.trans (congrArg some (by kernel_rfl))
 f282:=Tryz.func422.trans (congrArg some (by kernel_rfl))
 f283:=Tryz.func375.trans (congrArg some (by kernel_rfl))
 f284:=Tryz.func376.trans (congrArg some (by kernel_rfl))
 f285:=Tryz.func377.trans (congrArg some (by kernel_rfl))
 f286:=Tryz.func378.trans (congrArg some (by kernel_rfl))
 f287:=Tryz.func451.trans (congrArg some (by kernel_rfl))
 f316:=Tryz.func452.trans (congrArg some (by kernel_rfl))
 f317:=Tryz.func430.trans (congrArg some (by kernel_rfl))
 f318:=Tryz.func431.trans (congrArg some (by kernel_rfl))
 f319:=Tryz.func432.trans (congrArg some (by kernel_rfl))
 f320:=Tryz.func433.trans (congrArg some (by kernel_rfl))
 f321:=Tryz.func468.trans (congrArg some (by kernel_rfl))
 f322:=Tryz.func469.trans (congrArg some (by kernel_rfl))
 f337:=Tryz.func454.trans (congrArg some (by kernel_rfl))
 f338:=Tryz.func455.trans (congrArg some (by kernel_rfl))
 t0:=Tryz.underlying0
 a0:=Tryz.isAgg0
 z0:=Tryz.sizeOf0
 v0:=Tryz.zeroValue0
 t2:=Tryz.underlying2
 a2:=Tryz.isAgg2
 z2:=Tryz.sizeOf2
 v2:=Tryz.zeroValue2
 t3:=Tryz.underlying3
 a3:=Tryz.isAgg3
 z3:=Tryz.sizeOf3
 v3:=Tryz.zeroValue3
 t4:=Tryz.underlying4
 a4:=Tryz.isAgg4
 z4:=Tryz.sizeOf4
 v4:=Tryz.zeroValue4
 t5:=Tryz.underlying5
 a5:=Tryz.isAgg5
 z5:=Tryz.sizeOf5
 v5:=Tryz.zeroValue5
 t9:=Tryz.underlying9
 a9:=Tryz.isAgg9
 z9:=Tryz.sizeOf9
 v9:=Tryz.zeroValue9
 t20:=Tryz.underlying20
 a20:=Tryz.isAgg20
 z20:=Tryz.sizeOf20
 v20:=Tryz.zeroValue20
 t21:=Tryz.underlying21
 a21:=Tryz.isAgg21
 z21:=Tryz.sizeOf21
 v21:=Tryz.zeroValue21
 t37:=Tryz.underlying69
 a37:=Tryz.isAgg69
 z37:=Tryz.sizeOf69
 v37:=Tryz.zeroValue69
 t46:=Tryz.underlying348
 a46:=Tryz.isAgg348
 z46:=Tryz.sizeOf348
 v46:=Tryz.zeroValue348
 t51:=Tryz.underlying433
 a51:=Tryz.isAgg433
 z51:=Tryz.sizeOf433
 v51:=Tryz.zeroValue433
 t53:=Tryz.underlying52
 a53:=Tryz.isAgg52
 z53:=Tryz.sizeOf52
 v53:=Tryz.zeroValue52
 t75:=Tryz.underlying341
 a75:=Tryz.isAgg341
 z75:=Tryz.sizeOf341
 v75:=Tryz.zeroValue341
 t76:=Tryz.underlying342
 a76:=Tryz.isAgg342
 z76:=Tryz.sizeOf342
 v76:=Tryz.zeroValue342
 t85:=Tryz.underlying538
 a85:=Tryz.isAgg538
 z85:=Tryz.sizeOf538
 v85:=Tryz.zeroValue538
 t127:=Tryz.underlying439
 a127:=Tryz.isAgg439
 z127:=Tryz.sizeOf439
 v127:=Tryz.zeroValue439
 t143:=Tryz.underlying593
 a143:=Tryz.isAgg593
 z143:=Tryz.sizeOf593
 v143:=Tryz.zeroValue593
 t145:=Tryz.underlying595
 a145:=Tryz.isAgg595
 z145:=Tryz.sizeOf595
 v145:=Tryz.zeroValue595
 t167:=Tryz.underlying537
 a167:=Tryz.isAgg537
 z167:=Tryz.sizeOf537
 v167:=Tryz.zeroValue537
 t168:=Tryz.underlying540
 a168:=Tryz.isAgg540
 z168:=Tryz.sizeOf540
 v168:=Tryz.zeroValue540
 t171:=Tryz.underlying505
 a171:=Tryz.isAgg505
 z171:=Tryz.sizeOf505
 v171:=Tryz.zeroValue505
 t173:=Tryz.underlying507
 a173:=Tryz.isAgg507
 z173:=Tryz.sizeOf507
 v173:=Tryz.zeroValue507
 t175:=Tryz.underlying574
 a175:=Tryz.isAgg574
 z175:=Tryz.sizeOf574
 v175:=Tryz.zeroValue574
 t210:=Tryz.underlying578
 a210:=Tryz.isAgg578
 z210:=Tryz.sizeOf578
 v210:=Tryz.zeroValue578
 t212:=Tryz.underlying551
 a212:=Tryz.isAgg551
 z212:=Tryz.sizeOf551
 v212:=Tryz.zeroValue551
 t213:=Tryz.underlying552
 a213:=Tryz.isAgg552
 z213:=Tryz.sizeOf552
 t232:=Tryz.underlying41
 a232:=Tryz.isAgg41
 z232:=Tryz.sizeOf41
 v232:=Tryz.zeroValue41
 t233:=Tryz.underlying596
 a233:=Tryz.isAgg596
 z233:=Tryz.sizeOf596
 v233:=Tryz.zeroValue596
 g15:=by kernel_rfl
 g16:=by kernel_rfl
 g17:=by kernel_rfl
 g18:=by kernel_rfl
 g19:=by kernel_rfl
 t80:=Tryz.underlying344
 a80:=Tryz.isAgg344
 z80:=Tryz.sizeOf344
 v80:=Tryz.zeroValue344
 i0:=by kernel_rfl
 i2:=by kernel_rfl
 i3:=by kernel_rfl
 i4:=by kernel_rfl
 i5:=by kernel_rfl
 i9:=by kernel_rfl
 i20:=by kernel_rfl
 i21:=by kernel_rfl
 i37:=by kernel_rfl
 i46:=by kernel_rfl
 i51:=by kernel_rfl
 i53:=by kernel_rfl
 i75:=by kernel_rfl
 i76:=by kernel_rfl
 i80:=by kernel_rfl
 i85:=by kernel_rfl
 i127:=by kernel_rfl
 i143:=by kernel_rfl
 i145:=by kernel_rfl
 i167:=by kernel_rfl
 i168:=by kernel_rfl
 i171:=by kernel_rfl
 i173:=by kernel_rfl
 i175:=by kernel_rfl
 i210:=by kernel_rfl
 i212:=by kernel_rfl
 i232:=by kernel_rfl
 i233:=by kernel_rfl
 m15:=by kernel_rfl
 m16:=by kernel_rfl
 m17:=by kernel_rfl
 m18:=by kernel_rfl
 m19:=by kernel_rfl
 c0:=by kernel_rfl
 c2:=by kernel_rfl
 c3:=by kernel_rfl
 c4:=by kernel_rfl
 c5:=by kernel_rfl
 c9:=by kernel_rfl
 c20:=by kernel_rfl
 c21:=by kernel_rfl
 c37:=by kernel_rfl
 c46:=by kernel_rfl
 c51:=by kernel_rfl
 c53:=by kernel_rfl
 c75:=by kernel_rfl
 c76:=by kernel_rfl
 c80:=by kernel_rfl
 c85:=by kernel_rfl
 c127:=by kernel_rfl
 c143:=by kernel_rfl
 c145:=by kernel_rfl
 c167:=by kernel_rfl
 c168:=by kernel_rfl
 c171:=by kernel_rfl
 c173:=by kernel_rfl
 c175:=by kernel_rfl
 c210:=by kernel_rfl
 c212:=by kernel_rfl
 c213:=by kernel_rfl
 c232:=by kernel_rfl
 c233:=by kernel_rfl }
open Go.RowKit in
theorem Tryz.strconv_Atoi_ok (s:ByteArray) (hmax:s.size≤9223372036854775806) (v:Int) (h:Lib.atoiAll s.data.toList=.ok v) (w:World) :
   Calls Tryz.prog 269 #[.string s] w fun e w'=>e=.returned (.tuple #[.int .i64 v,.nilIface])∧(w'=w∨∃ t,w'=Lib.bytesWorld w 5 t):=Any.strconv_Atoi_ok Tryz.laysC172 s hmax v h w
open Go.RowKit in
theorem Tryz.strconv_Atoi_range (s:ByteArray) (hlim:s.size≤281474976710656) (h:Lib.atoiAll s.data.toList=.range) (ev:Value) (w:World) (hv:w.cell? ⟨8,0,none⟩=some ev) (hev:ev=.nilIface∨∃ te pe,ev=.iface te pe) :
   Calls Tryz.prog 269 #[.string s] w fun e w'=>∃ N,e=.returned (.tuple #[.int .i64 (Lib.atoiSat s.data.toList),.iface 540 (.pointer (some ⟨N,0,none⟩))])∧w.heap.size≤N∧w'.heap[N]?=some (.cells #[.string ⟨#[65,116,111,105]⟩,.string s,ev] 578 (0,0))∧Below w.heap.size w w':=Any.strconv_Atoi_range Tryz.laysC172 s hlim h ev w hv hev
def Tryz.lays99_ren:Go.Shelf.Ren:=⟨fun | 99=>165 | 206=>272 | n=>n,fun | 9=>9 | 4=>4 | 3=>3 | n=>n,fun | n=>n⟩
theorem Tryz.lays99:Go.Proofs.Lays.n99 Tryz.prog Tryz.lays99_ren:={
 mixed:=by kernel_rfl
 f99:=Tryz.func165.trans (congrArg some (by kernel_rfl))
 f206:=Tryz.func272.trans (congrArg some (by kernel_rfl))
 t3:=Tryz.underlying3
 a3:=Tryz.isAgg3
 z3:=Tryz.sizeOf3
 v3:=Tryz.zeroValue3
 t4:=Tryz.underlying4
 a4:=Tryz.isAgg4
 z4:=Tryz.sizeOf4
 v4:=Tryz.zeroValue4
 t9:=Tryz.underlying9
 a9:=Tryz.isAgg9
 z9:=Tryz.sizeOf9
 v9:=Tryz.zeroValue9 }
open Go.RowKit Go.Lib in
theorem Tryz.strings_HasPrefix (s p:ByteArray) (w:World) :
   Calls Tryz.prog 165 #[.string s,.string p] w fun e w'=>e=.returned (.bool (Lib.hasPrefix s.data.toList p.data.toList))∧w'=w:=Any.strings_HasPrefix Tryz.lays99 s p w
def Tryz.lays264_ren:Go.Shelf.Ren:=⟨fun | 264=>355 | n=>n,fun | 53=>52 | 46=>348 | n=>n,fun | n=>n⟩
theorem Tryz.lays264:Go.Proofs.Lays.n264 Tryz.prog Tryz.lays264_ren:={
 mixed:=by kernel_rfl
 f264:=Tryz.func355.trans (congrArg some (by kernel_rfl))
 t46:=Tryz.underlying348
 a46:=Tryz.isAgg348
 z46:=Tryz.sizeOf348
 v46:=Tryz.zeroValue348
 t53:=Tryz.underlying52
 a53:=Tryz.isAgg52
 z53:=Tryz.sizeOf52
 v53:=Tryz.zeroValue52 }
open Go.RowKit Go.Lib in
theorem Tryz.bits_Mul64 (x y:Nat) (hx:x < 18446744073709551616) (hy:y < 18446744073709551616) (w:World) :
   Calls Tryz.prog 355 #[.int .u64 x,.int .u64 y] w fun e w'=>e=.returned (.tuple #[.int .u64 ((x * y / 18446744073709551616:Nat):Int),.int .u64 ((x * y % 18446744073709551616:Nat):Int)])∧w'=w:=Any.bits_Mul64 Tryz.lays264 x y hx hy w
def Tryz.lays107_ren:Go.Shelf.Ren:=⟨fun | 107=>396 | 108=>441 | n=>n,fun | 28=>154 | 3=>3 | 4=>4 | 0=>0 | n=>n,fun | n=>n⟩
theorem Tryz.lays107:Go.Proofs.Lays.n107 Tryz.prog Tryz.lays107_ren:={
 mixed:=by kernel_rfl
 f107:=Tryz.func396.trans (congrArg some (by kernel_rfl))
 f108:=Tryz.func441.trans (congrArg some (by kernel_rfl))
 t0:=Tryz.underlying0
 a0:=Tryz.isAgg0
 z0:=Tryz.sizeOf0
 v0:=Tryz.zeroValue0
 t3:=Tryz.underlying3
 a3:=Tryz.isAgg3
 z3:=Tryz.sizeOf3
 v3:=Tryz.zeroValue3
 t4:=Tryz.underlying4
 a4:=Tryz.isAgg4
 z4:=Tryz.sizeOf4
 v4:=Tryz.zeroValue4
 t28:=Tryz.underlying154
 a28:=Tryz.isAgg154
 z28:=Tryz.sizeOf154
 v28:=Tryz.zeroValue154 }
open Go.Lib in
theorem Tryz.slices_Contains_int (b off n c:Nat) (zs:List Int) (x:Int) (w:World) (hz:n≤zs.length) (hbig:n≤9223372036854775807) (hc:∀ j,j < zs.length→w.cell? ⟨b,off+j,none⟩=some (.int .i64 (zs.getD j 0))) :
   Calls Tryz.prog 396 #[.slice (some ⟨b,off,none⟩) n c,.int .i64 x] w fun e w'=>e=.returned (.bool ((zs.take n).contains x))∧w'=w:=Any.slices_Contains_int Tryz.lays107 b off n c zs x w hz hbig hc
end Go.Proofs
namespace Go.Proofs.K
open Go.RowKit Go.ChangeShapes Go.WideShapes
variable {H:Type} {enc:TypeId × Value→H} {P:Program}
theorem q9h (hl:laidOutB P=true) {W W':World} {sp:Nat→Bool}:∀ {ts:List TypeId} {vs:List Value} {ds:List (DataW H)} {ps:List MemPlace},(ts.all fun t=>P.readableRec t && decide (t < P.types.size))=true →
   DataW.TrodAll enc P W 0 (fun _=>true) true ts vs ds ps→(∀ p∈ps,W.sameAt W' p)→(∀ p∈ps,sp p.block=true)→DataW.TrodAll enc P W' 0 sp true ts vs ds ps
 | [],vs,ds,ps,_,h,_,_=>by
   obtain ⟨rfl,rfl,rfl⟩:=trodAll_nil h;exact rfl
 | t :: ts,vs,ds,ps,ht,h,hs,hp=>by
   obtain ⟨v,vs',d,ds',p,q,rfl,rfl,rfl,h1,h2⟩:=trodAll_cons h;simp only [List.all_cons,Bool.and_eq_true,decide_eq_true_eq] at ht;exact ⟨p,q,Go.WideElems.Trod_stays hl ht.1.1 ht.1.2 h1 (fun x hx=>hs x (List.mem_append.2 (.inl hx))) (fun x hx=>hp x (List.mem_append.2 (.inl hx))),
     q9h hl ht.2 h2 (fun x hx=>hs x (List.mem_append.2 (.inr hx))) (fun x hx=>hp x (List.mem_append.2 (.inr hx))),rfl⟩
theorem post_law {f:Func} {s:ChangeSpec} {apart fresh handsOn again:Bool} {W W':World} {args:Array Value} {ds gs:List (DataW H)} {before pa:List MemPlace} {tb:TypeId}
   (hl:laidOutB P=true) (ht:(f.params.toList.all fun t=>P.readableRec t && decide (t < P.types.size))=true)
   (hW:DataW.Whole enc P f.params.toList s.vars apart W args.toList ds gs before) (hA:DataW.TrodAll enc P W 0 (fun _=>true) true f.params.toList args.toList ds pa) (hv:s.vars=[]) (hb:before=pa)
   (hr:f.resultTypes=#[tb]) (htb:P.underlying tb=some .bool) (hres:(s.fn H (ds++gs)).results=[.lit (.bool true)]) (hargs:(s.fn H (ds++gs)).args=ds) (hvars:(s.fn H (ds++gs)).vars=[]) (E:Ext W W') :
   s.post enc P f apart fresh handsOn again W args (.bool true) W':=by
 have hlt:=hW.lt;have B:=E.below;have hold:∀ p∈before,(fun b=>decide (b < W.heap.size)) p.block=true:=fun p hp=>by simpa using hlt p hp
 have rs:∀ (b:Nat) (sp:Nat→Bool) (hd:Bool),DataW.TrodAll enc P W' b sp hd f.resultTypes.toList ((Value.bool true).resultList f.resultTypes.size) (s.fn H (ds++gs)).results []:=by
   intro b sp hd;rw [hr,hres];exact trodAll_mk1 (shut_bool htb _)
 have as_:∀ sp:Nat→Bool,(∀ p∈before,sp p.block=true)→DataW.TrodAll enc P W' 0 sp true f.params.toList args.toList (s.fn H (ds++gs)).args pa:=by
   intro sp hp;rw [hargs];exact q9h hl ht hA (fun p hp=>B.same (hlt p (by rw [hb];exact hp))) (fun p h=>hp p (by rw [hb];exact h))
 have vs:∀ sp:Nat→Bool,DataW.TrodVars enc P W' sp s.vars (s.fn H (ds++gs)).vars []:=by
   intro sp;rw [hv,hvars];exact rfl
 refine ⟨ds,gs,before,[],pa,[],hW,rs _ _ _,as_ _ hold,vs _,World.keptBut_mono (fun p hp=>⟨hp,?_⟩) (B.frame (·∈before)),fun _=>?_⟩
 · rw [hb] at hp;exact Or.inr (Or.inl hp)
 · obtain ⟨_,_,_,_,_,hz,hn⟩:=id hW;refine ⟨ok_one hr Y (okWide_bool_mk htb _),_,_,([]++pa)++[],⟨[]++pa,[],trodAll_append (as_ _ (fun _ _=>rfl)) (rs _ _ _),vs _,rfl,?_,?_⟩,?_⟩
   · intro b off hp;have hp':MemPlace.cell b off∈before:=(by rw [hb];simpa using hp);rw [B.frozen (hlt _ hp')];exact hz b off hp'
   · intro ha;have:=hn ha;rw [hb] at this;simpa using this
   · intro p hp _;rw [hb];simpa using hp
section
variable {w:World} {base:Nat} {sp:Nat→Bool} {held:Bool}
theorem addr_mid {a:Addr} {v:Value} (h:w.cell? (a.add 0)=some v):a=⟨a.block,a.off,none⟩:=by
 have h':w.cell? a=some v:=by simpa [Addr.add] using h
 obtain ⟨b,o,q⟩:=a;cases q with
 | none=>rfl
 | some q=>simp [World.cell?] at h';split at h' <;> cases h'
theorem row_of_cells {a:Addr} {len cap size:Nat} {xs:List Value} (hl:xs.length=len * size) (hs:0 < size) (hc:len≤cap) (hm:cap≤maxLen) (h:∀ j u,xs[j]?=some u→w.cell? (a.add j)=some u) :
   Row w 0 w.heap.size size (.slice (some a) len cap) len xs:=by
 refine ⟨hl,_,_,rfl,hc,hm,fun h0=>?_⟩;have hx:0 < xs.length:=by rw [hl];exact Nat.mul_pos h0 hs
 have e0:=h 0 _ (List.getElem?_eq_getElem hx);have ha:=addr_mid e0;refine ⟨a.block,a.off,by rw [← ha],Nat.zero_le _,?_,fun j u hu=>?_⟩
 · rw [ha] at e0;exact World.block_lt_of_cell? w ⟨a.block,a.off,none⟩ (by simpa [Addr.add] using e0)
 · have:=h j u hu;rw [ha,Addr.add_mid] at this;exact this
theorem tab_rng {W:World} {name:String} {zs:List Int} {l:List Nat} {k:IntKind} {g:Nat} (h:Go.Lib.TabIs P W name k zs) (hg:P.globalNamed name=some g) (hz:zs=l.map fun n:Nat=>(n:Int)):Rng W g (ints k l):=by
 subst hz;intro j v hv;have hj:j < l.length:=by have:=(List.getElem?_eq_some_iff.1 hv).1;rwa [q0v] at this
 have:=h.cell hg j (by simpa using hj);rw [Nat.zero_add,this];rw [q8o hj] at hv;rw [← hv];simp [List.getD,hj]
end
end Go.Proofs.K
namespace Go.Proofs.YtlcnkadkbcoadaaGreatDoor
open Go.RowKit Go.Proofs.K Go.Sort
structure Tabs (w:World):Prop where
 p:Go.Lib.TabIs Tryz.prog w "internal/strconv.uint64pow10" .u64 Go.Lib.pow10Tab
 e:∃ te pe,w.cell? ⟨8,0,none⟩=some (.iface te pe)
theorem Tabs.ext {w w':World} (h:Tabs w) (E:Ext w w'):Tabs w':=by
 obtain ⟨te,pe,he⟩:=h.e;refine ⟨?_,te,pe,E.cell he⟩;have hg:Tryz.prog.globalNamed "internal/strconv.uint64pow10"=some 6:=by kernel_rfl
 exact Go.Joins.var_stays hg h.p E.below (Nat.le_refl _)
theorem ext_bytes (w:World) (e:TypeId) (s:ByteArray):Ext w (Go.Lib.bytesWorld w e s) :=
 ⟨rfl,rfl,rfl,by rw [Go.Lib.bytesWorld_size];omega,fun i hi _=>Go.Lib.bytesWorld_at_old w e s i hi⟩
def wsS:ByteArray:=⟨#[32,9,13,10]⟩
theorem gws (c:Nat) (hc:c < 256) (w:World):Calls Tryz.prog 163 #[.string wsS,.int .u8 (c:Nat)] w fun e w'=>∃ n:Int,e=.returned (.int .i64 n)∧Ext w w'∧decide (0≤n)=Qy.isWs c:=by
 refine (Tryz.strings_IndexByte wsS c w).mono fun e w' ⟨he,hw⟩=>⟨_,he,hw ▸ Ext.refl _,?_⟩;have h:∀ c:Fin 256,decide (0≤Go.Lib.indexByte wsS.data.toList ((c.1:Int)).toNat.toUInt8)=Qy.isWs c.1:=by decide +kernel
 exact h ⟨c,hc⟩
def dotsS:ByteArray:=⟨#[46,46]⟩
theorem gdots (s:ByteArray) (w:World):Calls Tryz.prog 165 #[.string s,.string dotsS] w fun e w'=>e=.returned (.bool ((sb s).head? == some 46 && (sb s).tail.head? == some 46))∧Ext w w':=by
 refine (Tryz.strings_HasPrefix s dotsS w).mono fun e w' ⟨he,hw⟩=>⟨?_,hw ▸ Ext.refl _⟩;rw [he];congr 2;unfold Go.Lib.hasPrefix sb;have e46:∀ c:UInt8,((46:UInt8) == c)=(c.toNat == 46):=by
   intro c;rw [Bool.eq_iff_iff,beq_iff_eq,beq_iff_eq];constructor
   · intro h;rw [← h];rfl
   · intro h;exact (UInt8.toNat_inj.1 (by rw [h];rfl)).symm
 match s.data.toList with
 | []=>rfl
 | [a] =>
   show ((46:UInt8) == a && false)=_;simp
 | a :: b :: l =>
   show ((46:UInt8) == a && ((46:UInt8) == b && true))=_;rw [e46,e46];simp
theorem strB_toList (l:List Nat):(strB l).data.toList=l.map UInt8.ofNat:=by simp [strB]
theorem fold_ge (l:List Nat):∀ a:Nat,a≤l.foldl (fun n c=>n * 10+(c - 48)) a:=by
 induction l with
 | nil=>intro a;exact Nat.le_refl _
 | cons c l ih=>intro a;exact Nat.le_trans (show a≤a * 10+(c - 48) by omega) (ih _)
theorem parse10:∀ (l:List Nat) (a:Nat),a < 18446744073709551616→(∀ c∈l,Qy.isDi c=true)→Go.Lib.parseUint10 a (l.map UInt8.ofNat)=if l.foldl (fun n c=>n * 10+(c - 48)) a < 18446744073709551616 then .ok (l.foldl (fun n c=>n * 10+(c - 48)) a) else .range
 | [],a,ha,_=>by simp [Go.Lib.parseUint10,ha]
 | c :: l,a,ha,h=>by
   have hc:=(Qy.isDi_iff c).1 (h c (by simp));have hcn:(UInt8.ofNat c).toNat=c:=(by simp;omega);have hge:=fold_ge l (a * 10+(c - 48));show Go.Lib.parseUint10 a (UInt8.ofNat c :: l.map UInt8.ofNat)=_;unfold Go.Lib.parseUint10;rw [hcn,if_pos hc,List.foldl_cons];by_cases h1:1844674407370955162≤a
   · rw [if_pos h1,if_neg (by omega)]
   · rw [if_neg h1];by_cases h2:18446744073709551616≤a * 10+(c - 48)
     · rw [if_pos h2,if_neg (by omega)]
     · rw [if_neg h2];exact parse10 l _ (by omega) fun d hd=>h d (List.mem_cons_of_mem _ hd)
theorem atoi_val {l:List Nat} (hne:l ≠ []) (h:∀ c∈l,Qy.isDi c=true):Go.Lib.atoiAll (l.map UInt8.ofNat)=if Qy.val l < 9223372036854775808 then .ok (Qy.val l:Int) else .range:=by
 cases l with
 | nil=>exact (hne Y).elim
 | cons c l =>
   have hc:=(Qy.isDi_iff c).1 (h c (by simp));have hcn:(UInt8.ofNat c).toNat=c:=(by simp;omega);have hp:=parse10 (c :: l) 0 (by omega) h;show Go.Lib.atoiAll (UInt8.ofNat c :: l.map UInt8.ofNat)=_;unfold Go.Lib.atoiAll;dsimp only;rw [hcn,if_neg (by omega)];unfold Go.Lib.parseMag;rw [if_neg (by simp)];rw [show UInt8.ofNat c :: l.map UInt8.ofNat=(c :: l).map UInt8.ofNat from rfl,hp];unfold Qy.val;by_cases h1:(c :: l).foldl (fun n c=>n * 10+(c - 48)) 0 < 18446744073709551616
   · rw [if_pos h1];dsimp only;by_cases h2:(c :: l).foldl (fun n c=>n * 10+(c - 48)) 0 < 9223372036854775808
     · rw [if_pos h2,if_neg (by omega),if_neg (by omega),if_neg (by omega)]
     · rw [if_neg h2,if_pos ⟨by omega,by omega⟩]
   · rw [if_neg h1,if_neg (by omega)]
theorem gatoi (u:List Nat) (hne:u ≠ []) (hd:∀ c∈u,Qy.isDi c=true) (hl:u.length≤100000) (w:World) (hw:Tabs w) :
   Calls Tryz.prog 269 #[.string (strB u)] w fun e w'=>∃ (n:Int) (ev:Value),e=.returned (.tuple #[.int .i64 n,ev])∧Ext w w'∧(ev=.nilIface∧n=(Qy.val u:Nat)∨(∃ t p,ev=.iface t p)∧9223372036854775808≤Qy.val u):=by
 have ha:=atoi_val hne hd;rw [← strB_toList] at ha;by_cases h:Qy.val u < 9223372036854775808
 · rw [if_pos h] at ha;refine (Tryz.strconv_Atoi_ok (strB u) (by rw [q4f];omega) _ ha w).mono fun e w' ⟨he,hw'⟩=>⟨_,_,he,?_,.inl ⟨rfl,rfl⟩⟩;rcases hw' with rfl | ⟨t,rfl⟩
   · exact Ext.refl _
   · exact ext_bytes _ _ _
 · rw [if_neg h] at ha;obtain ⟨te,pe,he0⟩:=hw.e;refine (Tryz.strconv_Atoi_range (strB u) (by rw [q4f];omega) ha _ w he0 (.inr ⟨te,pe,rfl⟩)).mono fun e w' ⟨N,he,_,_,hb⟩=>⟨_,_,he,Ext.of_below hb,.inr ⟨⟨_,_,rfl⟩,by omega⟩⟩
end Go.Proofs.YtlcnkadkbcoadaaGreatDoor
namespace Go.Proofs.YtlcnkadkbcoadaaGreatDoor
open Go.RowKit Go.Proofs.K
section
variable {P:Program} {n:NN} {f:Fr} {w:World} {d:Option Tmp} {t ty ty':TypeId} {pos:String} {af:Array Edge} {g:Option (Nat × Bool)} {x y:Operand}
theorem q2a [hs:TStr P ty] {s:ByteArray} {k:IntKind} {i:Nat} (hx:ev n f x=.string s) (hy:ev n f y=.int k (i:Int)) (h:i < s.size) :
   X P n ⟨d,.index ty x y,t,pos,af,g⟩ f w=.ok (.value (.int .u8 (((sb s).getD i 0:Nat):Int))) w:=by
 rw [X_indexStr hx hy h,sb_get s h]
theorem sb_extract (s:ByteArray) (i j:Nat):sb (s.extract i j)=((sb s).drop i).take (j - i):=by
 unfold sb;rw [ByteArray.data_extract,Array.toList_extract,List.extract_eq_take_drop,List.map_take,List.map_drop]
theorem X_slcS [hs:TStr P ty] {s:ByteArray} {lo:Option Operand} {hi:Option Operand} (i j:Nat) (hx:ev n f x=.string s) (hlo:match lo with | none=>i=0 | some o=>∃ k,ev n f o=.int k (i:Int))
   (hhi:match hi with | none=>j=s.size | some o=>∃ k,ev n f o=.int k (j:Int)) (hij:i≤j) (hj:j≤s.size) {l:List Nat} (hl:((sb s).drop i).take (j - i)=l) :
   X P n ⟨d,.slice ty x lo hi none,t,pos,af,g⟩ f w=.ok (.value (.string (strB l))) w:=by
 rw [X_sliceStr hx hlo hhi hij hj];congr 3;rw [← hl,← sb_extract,strB_sb]
theorem X_slcA [hs:TStr P ty] {s:ByteArray} {a:Operand} {k:IntKind} (i:Nat) (hx:ev n f x=.string s) (ha:ev n f a=.int k (i:Int)) (hij:i≤s.size) {l:List Nat} (hl:(sb s).drop i=l) :
   X P n ⟨d,.slice ty x (some a) none none,t,pos,af,g⟩ f w=.ok (.value (.string (strB l))) w :=
 X_slcS (lo:=some a) (hi:=none) i s.size hx ⟨k,ha⟩ Y hij (Nat.le_refl _) (by rw [List.take_of_length_le (by rw [List.length_drop,q3u];omega),hl])
theorem z5k [hs:TStr P ty] {s:ByteArray} {a b:Operand} {k k':IntKind} (i j:Nat) (hx:ev n f x=.string s) (ha:ev n f a=.int k (i:Int)) (hb:ev n f b=.int k' (j:Int)) (hij:i≤j) (hj:j≤s.size) {l:List Nat} (hl:((sb s).drop i).take (j - i)=l) :
   X P n ⟨d,.slice ty x (some a) (some b) none,t,pos,af,g⟩ f w=.ok (.value (.string (strB l))) w:=X_slcS (lo:=some a) (hi:=some b) i j hx ⟨k,ha⟩ ⟨k',hb⟩ hij hj hl
theorem q8h {a b:ByteArray} {q:Bool} (hx:ev n f x=.string a) (hy:ev n f y=.string b) (h:decide (a=b)=q):X P n ⟨d,.binOp .eql ty x y ty',t,pos,af,g⟩ f w=.ok (.value (.bool q)) w:=by
 subst h;have e:(binOp .eql ty (.string a) (.string b)).run P w=.ok (.bool (decide (a=b))) w:=by
   have h:(a.toList == b.toList)=decide (a=b):=by
     rw [Bool.eq_iff_iff,beq_iff_eq,decide_eq_true_iff];simp [ByteArray.toList_eq,ByteArray.ext_iff]
   simp [binOp,Op.stringOp,h]
 simp [X,execOp,hx,hy,eqGuard_at_string,e,Result.andThen]
end
def pC (s:ByteArray) (pos off err:Nat):List Value:=[.string s,.int .i64 (pos:Nat),.int .i64 (off:Nat),.int .i64 (err:Nat)]
def tkC (k:Nat) (u:List Nat):List Value:=[.int .i64 (k:Nat),.string (strB u)]
theorem q6m {k:Nat} {u:List Nat}:∀ v∈tkC k u,v.oneCell'=true:=by
 intro v hv;simp only [tkC,List.mem_cons,List.not_mem_nil,or_false] at hv;rcases hv with rfl | rfl <;> rfl
theorem tw_in (p:Nat→Bool):∀ (l:List Nat) (j:Nat),j < (l.takeWhile p).length→p (l.getD j 0)=true
 | [],j,h=>by simp at h
 | c :: l,j,h=>by
   cases hc:p c
   · simp [hc] at h
   · cases j with
     | zero=>simpa using hc
     | succ j=>simp [hc] at h;simpa using tw_in p l j h
theorem tw_out (p:Nat→Bool):∀ (l:List Nat),(l.takeWhile p).length < l.length→p (l.getD (l.takeWhile p).length 0)=false
 | [],h=>by simp at h
 | c :: l,h=>by
   cases hc:p c
   · simp [hc]
   · have:(l.takeWhile p).length < l.length:=(by simpa [List.takeWhile_cons,hc] using h);simpa [List.takeWhile_cons,hc] using tw_out p l this
theorem z1y (p:Nat→Bool):∀ (l:List Nat),l.take (l.takeWhile p).length=l.takeWhile p
 | []=>rfl
 | c :: l=>by
   cases hc:p c
   · simp [hc]
   · simp [hc,z1y p l]
theorem q5l (l:List Nat) (i j:Nat):(l.drop i).getD j 0=l.getD (i+j) 0:=by simp [List.getD,List.getElem?_drop]
def btw (lo hi c:Nat):Bool:=Nat.ble lo c && Nat.ble c hi
theorem btw_iff {lo hi c:Nat}:btw lo hi c=true↔lo≤c∧c≤hi:=by simp [btw]
theorem gspan (g:Nat) (s:ByteArray) (pos off err lo hi:Nat) (hp:pos≤s.size) (hs:s.size≤1000000) (w:World) (hB:Blk w g 185 (pC s pos off err)) :
   Calls Tryz.prog 164 #[.pointer (some ⟨g,0,none⟩),.int .u8 (lo:Nat),.int .u8 (hi:Nat)] w fun e w'=>e=.returned (.int .i64 ((pos+(((sb s).drop pos).takeWhile (btw lo hi)).length:Nat):Int))∧Ext w w':=by
 refine q0j Tryz.func164 Y Tryz.ntmps164 Y ?_;obtain ⟨K,hK⟩:∃ K,K=(((sb s).drop pos).takeWhile (btw lo hi)).length:=⟨_,rfl⟩;have hin:∀ j,j < K→lo≤(sb s).getD (pos+j) 0∧(sb s).getD (pos+j) 0≤hi:=fun j hj=>by
   rw [hK] at hj;have:=tw_in _ _ _ hj;rw [q5l] at this;exact btw_iff.1 this
 have hdl:((sb s).drop pos).length=s.size - pos:=by rw [List.length_drop,q3u]
 have hKl:K≤s.size - pos:=by rw [hK,← hdl];exact Qy.tw_len _ _
 have hout:pos+K < s.size→¬ (lo≤(sb s).getD (pos+K) 0∧(sb s).getD (pos+K) 0≤hi):=fun h=>by
   have:=tw_out (btw lo hi) ((sb s).drop pos) (by rw [hdl,← hK];omega);rw [← hK,q5l] at this;intro h2;rw [btw_iff.2 h2] at this;cases this
 rw [← hK];clear hK;(refine q0b<|q0a<|a_I Y<|q0c<|tn<|q0b<|q0a<|m_P Y<|Ls (q1m Y)<|Ls (q0g Y)<|Ls (X_ld Y hB Y)<|a_I Y<|q0c<|tn<|q0b<|q0p ?_);refine q1e (fun q f w'=>∃ j,q=K - j∧j≤K∧Ext w w'∧f 0=.pointer (some ⟨g,0,none⟩)∧f 1=.int .u8 (lo:Nat)∧f 2=.int .u8 (hi:Nat)∧f 7=.int .i64 ((pos+j:Nat):Int)) K ?_ ?_
 · exact ⟨0,rfl,by omega,Ext.refl w,rfl,rfl,rfl,rfl⟩
 · rintro q f w1 ⟨j,rfl,hj,E1,f0,f1,f2,f7⟩;rw [fold f0,fold f1,fold f2,fold f7];have B:=hB.ext E1;by_cases hjK:j < K
   · have hb:=hin j hjK;(refine q0b<|q0b<|q0a<|m_I Y<|m_P Y<|Ls (q1m Y)<|Ls (q0g Y)<|Ls (X_ld Y B Y)<|Ls (q2d Y)<|Ls (q2k Y Y (by omega))<|m_B Y<|Lg2 Y Y Y (q0d (v:=.pointer _) Y)<|Lg2 Y Y Y (q1m Y)<|Lg2 Y Y Y (q0g Y)<|Lg2 Y Y Y (X_ld Y B Y)<|Lg2 Y Y Y (q0d (v:=.int _ _) Y)<|Lg2 Y Y Y (q2a (i:=pos+j) Y Y (by omega))<|Lg2 Y Y Y (q0d (v:=.int _ _) Y)<|Lg2 Y Y Y (q3o Y Y (by omega))<|Ls (q0o (v:=.bool _) Y Y)<|m_B Y<|Lg2 Y Y Y (q0d (v:=.pointer _) Y)<|Lg2 Y Y Y (q1m Y)<|Lg2 Y Y Y (q0g Y)<|Lg2 Y Y Y (X_ld Y B Y)<|Lg2 Y Y Y (q0d (v:=.int _ _) Y)<|Lg2 Y Y Y (q2a (i:=pos+j) Y Y (by omega))<|Lg2 Y Y Y (q0d (v:=.int _ _) Y)<|Lg2 Y Y Y (q4r Y Y (by omega))<|Ls (q0o (v:=.bool _) Y Y)<|q0c<|tn<|q0r Y<|q0l<|tn<|q0p<|q0a<|m_I Y<|Ls (q1c Y Y (by omega))<|a_I Y<|q0c<|bn<|tn ?_);exact ⟨K - (j+1),by omega,j+1,rfl,by omega,E1,rfl,rfl,rfl,by rw [show ((pos+(j+1):Nat):Int)=((pos+j:Nat):Int)+1 by omega];rfl⟩
   · obtain rfl:j=K:=(by omega);by_cases hend:pos+j < s.size
     · have hb:=hout hend;by_cases hb1:lo≤(sb s).getD (pos+j) 0
       · (refine q0b<|q0b<|q0a<|m_I Y<|m_P Y<|Ls (q1m Y)<|Ls (q0g Y)<|Ls (X_ld Y B Y)<|Ls (q2d Y)<|Ls (q2k Y Y (by omega))<|m_B Y<|Lg2 Y Y Y (q0d (v:=.pointer _) Y)<|Lg2 Y Y Y (q1m Y)<|Lg2 Y Y Y (q0g Y)<|Lg2 Y Y Y (X_ld Y B Y)<|Lg2 Y Y Y (q0d (v:=.int _ _) Y)<|Lg2 Y Y Y (q2a (i:=pos+j) Y Y (by omega))<|Lg2 Y Y Y (q0d (v:=.int _ _) Y)<|Lg2 Y Y Y (q3o Y Y (by omega))<|Ls (q0o (v:=.bool _) Y Y)<|m_B Y<|Lg2 Y Y Y (q0d (v:=.pointer _) Y)<|Lg2 Y Y Y (q1m Y)<|Lg2 Y Y Y (q0g Y)<|Lg2 Y Y Y (X_ld Y B Y)<|Lg2 Y Y Y (q0d (v:=.int _ _) Y)<|Lg2 Y Y Y (q2a (i:=pos+j) Y Y (by omega))<|Lg2 Y Y Y (q0d (v:=.int _ _) Y)<|Lg2 Y Y Y (q6h Y Y (by omega))<|Ls (q0o (v:=.bool _) Y Y)<|q0c<|tn<|q0h Y<|q1d<|te<|te<|bx<|tn<|q0b<|q0a<|m_I Y<|a_I Y<|q0c<|tn<|q0s ?_);exact q0f Y Y (v:=.int _ _) Y ⟨rfl,E1⟩
       · (refine q0b<|q0b<|q0a<|m_I Y<|m_P Y<|Ls (q1m Y)<|Ls (q0g Y)<|Ls (X_ld Y B Y)<|Ls (q2d Y)<|Ls (q2k Y Y (by omega))<|m_B Y<|Lg2 Y Y Y (q0d (v:=.pointer _) Y)<|Lg2 Y Y Y (q1m Y)<|Lg2 Y Y Y (q0g Y)<|Lg2 Y Y Y (X_ld Y B Y)<|Lg2 Y Y Y (q0d (v:=.int _ _) Y)<|Lg2 Y Y Y (q2a (i:=pos+j) Y Y (by omega))<|Lg2 Y Y Y (q0d (v:=.int _ _) Y)<|Lg2 Y Y Y (q5a Y Y (by omega))<|Ls (q0o (v:=.bool _) Y Y)<|m_B Y<|Lo2 Y Y Y Y<|Lo2 Y Y Y Y<|Lo2 Y Y Y Y<|Lo2 Y Y Y Y<|Lo2 Y Y Y Y<|Lo2 Y Y Y Y<|Lo2 Y Y Y Y<|Lo2 Y Y Y Y<|Ls (q0k (v:=.bool _) Y Y)<|q0c<|tn<|q0h Y<|q1d<|te<|te<|bx<|tn<|q0b<|q0a<|m_I Y<|a_I Y<|q0c<|tn<|q0s ?_);exact q0f Y Y (v:=.int _ _) Y ⟨rfl,E1⟩
     · (refine q0b<|q0b<|q0a<|m_I Y<|m_P Y<|Ls (q1m Y)<|Ls (q0g Y)<|Ls (X_ld Y B Y)<|Ls (q2d Y)<|Ls (q1f Y Y (by omega))<|m_B Y<|Lo2 Y Y Y Y<|Lo2 Y Y Y Y<|Lo2 Y Y Y Y<|Lo2 Y Y Y Y<|Lo2 Y Y Y Y<|Lo2 Y Y Y Y<|Lo2 Y Y Y Y<|Lo2 Y Y Y Y<|Ls (q0k (v:=.bool _) Y Y)<|m_B Y<|Lo2 Y Y Y Y<|Lo2 Y Y Y Y<|Lo2 Y Y Y Y<|Lo2 Y Y Y Y<|Lo2 Y Y Y Y<|Lo2 Y Y Y Y<|Lo2 Y Y Y Y<|Lo2 Y Y Y Y<|Ls (q0k (v:=.bool _) Y Y)<|q0c<|tn<|q0h Y<|q1d<|te<|te<|bx<|tn<|q0b<|q0a<|m_I Y<|a_I Y<|q0c<|tn<|q0s ?_);exact q0f Y Y (v:=.int _ _) Y ⟨rfl,E1⟩
section
variable {n:NN} {f:Fr} {w:World} {d:Option Tmp} {t:TypeId} {pos:String} {af:Array Edge} {g:Option (Nat × Bool)} {x y:Operand}
theorem q5p {k:Nat} {b:ByteArray} {u:List Nat} (hx:ev n f x=.int .i64 (k:Nat)) (hy:ev n f y=.string b) (hb:strB u=b) :
   X Tryz.prog n ⟨d,.build 188 #[(0,x),(1,y)],t,pos,af,g⟩ f w=.ok (.value (.agg (tkC k u).toArray)) w:=by
 subst hb;have:=q1t (P:=Tryz.prog) (ty:=188) (n:=n) (f:=f) (w:=w) (d:=d) (t:=t) (pos:=pos) (af:=af) (g:=g) (Parts.cons (i:=0) (z:=[.int .i64 0]) hx Y Y Y (Parts.cons (i:=1) (z:=[.string ByteArray.empty]) hy Y Y Y (Parts.nil _)));simpa [tkC] using this
theorem z5n {k:Nat} (hx:ev n f x=.int .i64 (k:Nat)) :
   X Tryz.prog n ⟨d,.build 188 #[(0,x)],t,pos,af,g⟩ f w=.ok (.value (.agg (tkC k []).toArray)) w:=by
 have:=q1t (P:=Tryz.prog) (ty:=188) (n:=n) (f:=f) (w:=w) (d:=d) (t:=t) (pos:=pos) (af:=af) (g:=g) (Parts.cons (i:=0) (z:=[.int .i64 0]) hx Y Y Y (Parts.nil _));simpa [tkC,show strB []=ByteArray.empty from rfl] using this
end
theorem sb_lt' (s:ByteArray) (i:Nat):(sb s).getD i 0 < 256:=by
 rw [List.getD_eq_getElem?_getD];cases h:(sb s)[i]? with
 | none=>exact (by decide:(0:Nat) < 256)
 | some x=>exact sb_lt s x (List.mem_of_getElem? h)
theorem btw_lo:btw 97 122=Qy.isLo:=rfl
theorem btw_di:btw 48 57=Qy.isDi:=rfl
theorem gpeek (g:Nat) (s:ByteArray) (pos off err:Nat) (hp:pos≤s.size) (hs:s.size≤1000000) (w:World) (hB:Blk w g 185 (pC s pos off err)) :
   Calls Tryz.prog 86 #[.pointer (some ⟨g,0,none⟩)] w fun e w'=>e=.returned (.agg (tkC (Qy.scan ((sb s).drop pos) pos).kind (Qy.scan ((sb s).drop pos) pos).text).toArray)∧w.grownBy w' (some g) ∧
     Blk w' g 185 (pC s (pos+Qy.ws ((sb s).drop pos)) off err):=by
 refine q0j Tryz.func86 Y Tryz.ntmps86 Y ?_;obtain ⟨T,hT⟩:∃ T,T=(sb s).drop pos:=⟨_,rfl⟩;obtain ⟨W,hW⟩:∃ W,W=Qy.ws T:=⟨_,rfl⟩;have hTl:T.length=s.size - pos:=by rw [hT,List.length_drop,q3u]
 have hWl:W≤s.size - pos:=by rw [hW,← hTl];exact Qy.ws_le T
 have hin:∀ j,j < W→Qy.isWs ((sb s).getD (pos+j) 0)=true:=fun j hj=>by
   rw [hW] at hj;have:=tw_in Qy.isWs T j hj;rw [hT,q5l] at this;exact this
 obtain ⟨R,hR⟩:∃ R,R=T.drop W:=⟨_,rfl⟩;have hRd:R=(sb s).drop (pos+W):=by rw [hR,hT,List.drop_drop]
 have hRl:R.length=s.size - (pos+W):=by rw [hRd,List.length_drop,q3u]
 have hsc:Qy.scan T pos=Qy.scanR R (pos+W):=by unfold Qy.scan;rw [Qy.drop_ws,← hW,← hR]
 have hhead:∀ c r,R=c :: r→Qy.isWs c=false:=fun c r h=>by
   refine Qy.dw_head T c r ?_;rw [Qy.drop_ws,← hW,← hR,h]
 have hR8:∀ x∈R,x < 256:=fun x hx=>by rw [hRd] at hx;exact sb_lt s x (List.mem_of_mem_drop hx)
 have hsR:sb (strB R)=R:=q9c hR8;rw [← hT,← hW,hsc];have hg0:=hB.lt;(refine q0b<|q0a ?_);refine q0w ?_;intro g2 w1 B2 hg2 E1 hs1;(refine q0c<|tn<|q0b<|q0p ?_);refine q1e (fun q f w'=>∃ j,q=W - j∧j≤W∧w.grownBy w' (some g)∧Blk w' g 185 (pC s (pos+j) off err)∧Blk w' g2 188 (tkC 0 [])∧f 0=.pointer (some ⟨g,0,none⟩)∧f 2=.pointer (some ⟨g2,0,none⟩)) W ?_ ?_
 · exact ⟨0,rfl,by omega,E1.row _,hB.ext E1,B2,rfl,rfl⟩
 · clear hW;rintro q f w2 ⟨j,rfl,hj,G2,B,C,f0,f2⟩;rw [fold f0,fold f2];by_cases hend:pos+j < s.size
   · have hc8:=sb_lt' s (pos+j);obtain ⟨c,hc⟩:∃ c,c=(sb s).getD (pos+j) 0:=⟨_,rfl⟩;rw [← hc] at hc8;(refine q0b<|q0b ?_);apply q1r 20 (by kernel_rfl);(apply DW_x (fun r w hA hH=>(q0d (v:=.pointer _) Y).trans Y);apply DW_x (fun r w hA hH=>(q1m Y).trans Y);apply DW_x (fun r w hA hH=>(q0g Y).trans Y);apply DW_x (fun r w hA hH=>(X_ld Y (B.ext hA) Y).trans Y);apply DW_x (fun r w hA hH=>(q0d (v:=.pointer _) Y).trans Y);apply DW_x (fun r w hA hH=>(q1m Y).trans Y);apply DW_x (fun r w hA hH=>(q0g Y).trans Y);apply DW_x (fun r w hA hH=>(X_ld Y (B.ext hA) Y).trans Y);apply DW_x (fun r w hA hH=>(q2d Y).trans Y);apply DW_x (fun r w hA hH=>(q2k Y Y (by omega)).trans Y);apply DW_x (fun r w hA hH=>(q0d (v:=.bool _) Y).trans Y);apply q1a Y Y (fun _=>rfl) (fun r w hA hH=>(q0d (v:=.pointer _) Y).trans Y);apply q1a Y Y (fun _=>rfl) (fun r w hA hH=>(q1m Y).trans Y);apply q1a Y Y (fun _=>rfl) (fun r w hA hH=>(q0g Y).trans Y);apply q1a Y Y (fun _=>rfl) (fun r w hA hH=>(X_ld Y (B.ext hA) Y).trans Y);apply q1a Y Y (fun _=>rfl) (fun r w hA hH=>(q0d (v:=.pointer _) Y).trans Y);apply q1a Y Y (fun _=>rfl) (fun r w hA hH=>(q1m Y).trans Y);apply q1a Y Y (fun _=>rfl) (fun r w hA hH=>(q0g Y).trans Y);apply q1a Y Y (fun _=>rfl) (fun r w hA hH=>(X_ld Y (B.ext hA) Y).trans Y);apply q1a Y Y (fun _=>rfl) (fun r w hA hH=>((q2a (i:=pos+j) Y Y (by omega)).trans (by rw [← hc])).trans Y));((with_reducible exact q2c);(exact rfl);(repeat (first | exact .inr (.inr (fun _ _=>by with_reducible rfl)) | (refine And.intro ?_ ?_) | exact .inr (.inl rfl) | exact .inl (by decide +kernel) | exact trivial | exact .inr (.inr (fun _ _=>rfl))));(try dsimp only [Nat.reduceAdd]));intro r w3 E3 _;refine q1n Y Y Y ?_;refine L_fn (gws c hc8 w3) Y ?_;rintro e w4 ⟨n,rfl,E4,hn⟩;refine ⟨_,rfl,?_⟩;have E34:=E3.trans E4;have B4:=B.ext E34;have C4:=C.ext E34;have G4:=q0e G2 E34 (fun _ h=>by cases h);by_cases hjW:j < W
     · have h0:0≤n:=of_decide_eq_true (hn.trans (by rw [hc];exact hin j hjW));(refine Lg2 Y Y Y (q3o Y Y (by omega))<|Ls (q0o (v:=.bool _) Y Y)<|q0c<|tn<|q0r Y<|q0l<|tn<|q0p<|q0a<|m_P Y<|Ls (q1m Y)<|Ls (q0g Y)<|Ls (X_ld Y B4 Y)<|Ls (q1c Y Y (by omega))<|Ls (q1m Y)<|Ls (q0g Y) ?_);refine q1b Y (v:=.int _ _) Y Y B4 (by simp [pC]) ?_;intro w5 B5 hg5 _;(refine q0c<|bn<|tn ?_);refine ⟨W - (j+1),by omega,j+1,rfl,by omega,q0e G4 hg5 (fun g h=>.inl h),?_,C4.grown hg5 (by simp;omega),rfl,rfl⟩;rw [show pC s (pos+(j+1)) off err=(pC s (pos+j) off err).set 1 (.int .i64 (((pos+j:Nat):Int)+1)) from by simp [pC];omega];exact B5
     · obtain rfl:j=W:=(by omega);have hRc:∃ r',R=c :: r':=by
         cases hRR:R with
         | nil=>rw [hRR] at hRl;simp at hRl;omega
         | cons d r' =>
           refine ⟨r',?_⟩;have:R.getD 0 0=c:=(by rw [hRd,q5l,Nat.add_zero,hc]);rw [hRR] at this;simp at this;rw [this]
       obtain ⟨r',hRc⟩:=hRc;have h0:¬ 0≤n:=of_decide_eq_false (hn.trans (hhead c r' hRc));have hne:decide (strB R=⟨#[]⟩)=false:=decide_eq_false (fun h=>by have:=congrArg ByteArray.size h;rw [q4f,hRc,show (⟨#[]⟩:ByteArray).size=0 from rfl] at this;simp at this);have hr0:0 < (strB R).size:=(by rw [q4f,hRc];simp);have hrc:(sb (strB R)).getD 0 0=c:=(by rw [hsR,hRc];rfl);(refine Lg2 Y Y Y (q5a Y Y (by omega))<|Ls (q0o (v:=.bool _) Y Y)<|q0c<|tn<|q0h Y<|q1d<|te<|te<|bx<|tn<|q0b ?_);apply q1r 9 (by kernel_rfl);(apply DW_x (fun r w hA hH=>(q0d (v:=.pointer _) Y).trans Y);apply DW_x (fun r w hA hH=>(q1m Y).trans Y);apply DW_x (fun r w hA hH=>(q0g Y).trans Y);apply DW_x (fun r w hA hH=>(X_ld Y (B4.ext hA) Y).trans Y);apply DW_x (fun r w hA hH=>(q0d (v:=.pointer _) Y).trans Y);apply DW_x (fun r w hA hH=>(q1m Y).trans Y);apply DW_x (fun r w hA hH=>(q0g Y).trans Y);apply DW_x (fun r w hA hH=>(X_ld Y (B4.ext hA) Y).trans Y));((with_reducible apply DW_x);(exact fun r w hA hH=>(X_slcA (pos+j) Y Y (by omega) hRd.symm).trans Y));((with_reducible exact q2c);(exact rfl);(repeat (first | exact .inr (.inr (fun _ _=>by with_reducible rfl)) | (refine And.intro ?_ ?_) | exact .inr (.inl rfl) | exact .inl (by decide +kernel) | exact trivial | exact .inr (.inr (fun _ _=>rfl))));(try dsimp only [Nat.reduceAdd]));intro r5 w5 E5 _;have B5:=B4.ext E5;have C5:=C4.ext E5;have G5:=q0e G4 E5 (fun _ h=>by cases h);clear B4 C4 B C;rcases Qy.scanR_cases R (pos+j) with ⟨h,e⟩ | ⟨d,r,h,h1,e⟩ | ⟨d,r,h,h1,h2,e⟩ | ⟨r,h,e⟩ | ⟨r,h,e⟩ | ⟨d,r,h,h1,h2,h3,h4,e⟩
       · rw [h] at hRc;cases hRc
       · obtain ⟨rfl,rfl⟩:d=c∧r=r':=(by rw [h] at hRc;injection hRc with a b;exact ⟨a,b⟩);have hlo:=(Qy.isLo_iff d).1 h1;have hsp:=fun (w:World) (hB:Blk w g 185 (pC s (pos+j) off err))=>gspan g s (pos+j) off err 97 122 (by omega) hs w hB;rw [← hRd,btw_lo] at hsp;have htw:R.takeWhile Qy.isLo=d :: r.takeWhile Qy.isLo:=(by rw [h];simp [h1]);have htk:R.take (R.takeWhile Qy.isLo).length=R.takeWhile Qy.isLo:=z1y _ _;have htl:=Qy.tw_len Qy.isLo R;rw [e];(refine a_R Y<|q0c<|tn<|q0b<|q0p<|q0b<|q0a<|m_R Y<|Ls (q8h Y Y hne)<|a_B Y<|q0c<|tn<|q0h Y<|q0b<|q0a<|m_R Y<|Ls ((q2a (s:=strB R) (i:=0) Y Y hr0).trans (by rw [hrc]))<|Ls (q3o Y Y (by omega))<|m_B Y<|Lg2 Y Y Y (q0d (v:=.string _) Y)<|Lg2 Y Y Y ((q2a (s:=strB R) (i:=0) Y Y hr0).trans (by rw [hrc]))<|Lg2 Y Y Y (q4r Y Y (by omega))<|Ls (q0o (v:=.bool _) Y Y)<|a_B Y<|q0c<|tn<|q0r Y<|q0b ?_);apply q1r 12 (by kernel_rfl);(apply DW_x (fun r w hA hH=>(q0d (v:=.pointer _) Y).trans Y);apply DW_x (fun r w hA hH=>(q1m Y).trans Y);apply DW_x (fun r w hA hH=>(q0g Y).trans Y);apply DW_x (fun r w hA hH=>(X_ld Y (B5.ext hA) Y).trans Y);apply DW_x (fun r w hA hH=>(q0d (v:=.pointer _) Y).trans Y);apply DW_x (fun r w hA hH=>(q1m Y).trans Y);apply DW_x (fun r w hA hH=>(q0g Y).trans Y);apply DW_x (fun r w hA hH=>(X_ld Y (B5.ext hA) Y).trans Y);apply DW_x (fun r w hA hH=>(q0d (v:=.pointer _) Y).trans Y));((with_reducible apply q6l);(exact fun _=>rfl);(exact fun _=>rfl);(exact fun r w hA hH=>hsp w (B5.ext hA)));((with_reducible apply DW_x);(exact fun r w hA hH=>(z5k (l:=R.takeWhile Qy.isLo) (pos+j) (pos+j+(R.takeWhile Qy.isLo).length) Y Y Y (by omega) (by omega) (by rw [← hRd,Nat.add_sub_cancel_left,htk])).trans Y));((with_reducible apply DW_x);(exact fun r w hA hH=>(q5p Y Y Y).trans Y));((with_reducible exact q2c);(exact rfl);(repeat (first | exact .inr (.inr (fun _ _=>by with_reducible rfl)) | (refine And.intro ?_ ?_) | exact .inr (.inl rfl) | exact .inl (by decide +kernel) | exact trivial | exact .inr (.inr (fun _ _=>rfl))));(try dsimp only [Nat.reduceAdd]));intro r6 w6 E6 _;rw [htw];refine q0t (size:=2) Y Y Y q6m (C5.ext E6) Y ?_;intro w7 C7 hg7 _;(refine q0c<|tn<|q0s<|br<|tr ?_);refine q0z Y Y (Res.cellA inferInstance Y (C7.range (fun j u h=>by rw [Nat.zero_add];exact h)) Y .nil) ?_;exact ⟨rfl,q0e (q0e G5 E6 (fun _ h=>by cases h)) hg7 (fun g h=>by cases h;exact .inr (by omega)),(B5.ext E6).grown hg7 (by simp;omega)⟩
       · obtain ⟨rfl,rfl⟩:d=c∧r=r':=(by rw [h] at hRc;injection hRc with a b;exact ⟨a,b⟩);have hlo:=(Qy.isDi_iff d).1 h2;have hsp:=fun (w:World) (hB:Blk w g 185 (pC s (pos+j) off err))=>gspan g s (pos+j) off err 48 57 (by omega) hs w hB;rw [← hRd,btw_di] at hsp;have htw:R.takeWhile Qy.isDi=d :: r.takeWhile Qy.isDi:=(by rw [h];simp [h2]);have htk:R.take (R.takeWhile Qy.isDi).length=R.takeWhile Qy.isDi:=z1y _ _;have htl:=Qy.tw_len Qy.isDi R;rw [e];(refine a_R Y<|q0c<|tn<|q0b<|q0p<|q0b<|q0a<|m_R Y<|Ls (q8h Y Y hne)<|a_B Y<|q0c<|tn<|q0h Y<|q0b<|q0a<|m_R Y<|Ls ((q2a (s:=strB R) (i:=0) Y Y hr0).trans (by rw [hrc]))<|Ls (q5a Y Y (by omega))<|m_B Y<|Lo2 Y Y Y Y<|Lo2 Y Y Y Y<|Lo2 Y Y Y Y<|Ls (q0k (v:=.bool _) Y Y)<|a_B Y<|q0c<|tn<|q0h Y<|q0b<|q0a<|m_R Y<|Ls ((q2a (s:=strB R) (i:=0) Y Y hr0).trans (by rw [hrc]))<|Ls (q3o Y Y (by omega))<|m_B Y<|Lg2 Y Y Y (q0d (v:=.string _) Y)<|Lg2 Y Y Y ((q2a (s:=strB R) (i:=0) Y Y hr0).trans (by rw [hrc]))<|Lg2 Y Y Y (q4r Y Y (by omega))<|Ls (q0o (v:=.bool _) Y Y)<|a_B Y<|q0c<|tn<|q0r Y<|q0b ?_);apply q1r 12 (by kernel_rfl);(apply DW_x (fun r w hA hH=>(q0d (v:=.pointer _) Y).trans Y);apply DW_x (fun r w hA hH=>(q1m Y).trans Y);apply DW_x (fun r w hA hH=>(q0g Y).trans Y);apply DW_x (fun r w hA hH=>(X_ld Y (B5.ext hA) Y).trans Y);apply DW_x (fun r w hA hH=>(q0d (v:=.pointer _) Y).trans Y);apply DW_x (fun r w hA hH=>(q1m Y).trans Y);apply DW_x (fun r w hA hH=>(q0g Y).trans Y);apply DW_x (fun r w hA hH=>(X_ld Y (B5.ext hA) Y).trans Y);apply DW_x (fun r w hA hH=>(q0d (v:=.pointer _) Y).trans Y));((with_reducible apply q6l);(exact fun _=>rfl);(exact fun _=>rfl);(exact fun r w hA hH=>hsp w (B5.ext hA)));((with_reducible apply DW_x);(exact fun r w hA hH=>(z5k (l:=R.takeWhile Qy.isDi) (pos+j) (pos+j+(R.takeWhile Qy.isDi).length) Y Y Y (by omega) (by omega) (by rw [← hRd,Nat.add_sub_cancel_left,htk])).trans Y));((with_reducible apply DW_x);(exact fun r w hA hH=>(q5p Y Y Y).trans Y));((with_reducible exact q2c);(exact rfl);(repeat (first | exact .inr (.inr (fun _ _=>by with_reducible rfl)) | (refine And.intro ?_ ?_) | exact .inr (.inl rfl) | exact .inl (by decide +kernel) | exact trivial | exact .inr (.inr (fun _ _=>rfl))));(try dsimp only [Nat.reduceAdd]));intro r6 w6 E6 _;rw [htw];refine q0t (size:=2) Y Y Y q6m (C5.ext E6) Y ?_;intro w7 C7 hg7 _;(refine q0c<|tn<|q0s<|br<|tr ?_);refine q0z Y Y (Res.cellA inferInstance Y (C7.range (fun j u h=>by rw [Nat.zero_add];exact h)) Y .nil) ?_;exact ⟨rfl,q0e (q0e G5 E6 (fun _ h=>by cases h)) hg7 (fun g h=>by cases h;exact .inr (by omega)),(B5.ext E6).grown hg7 (by simp;omega)⟩
       · obtain ⟨rfl,rfl⟩:61=c∧r=r':=(by rw [h] at hRc;injection hRc with a b;exact ⟨a,b⟩);rw [e];(refine a_R Y<|q0c<|tn<|q0b<|q0p<|q0b<|q0a<|m_R Y<|Ls (q8h Y Y hne)<|a_B Y<|q0c<|tn<|q0h Y<|q0b<|q0a<|m_R Y<|Ls ((q2a (s:=strB R) (i:=0) Y Y hr0).trans (by rw [hrc]))<|Ls (q5a Y Y (by omega))<|m_B Y<|Lo2 Y Y Y Y<|Lo2 Y Y Y Y<|Lo2 Y Y Y Y<|Ls (q0k (v:=.bool _) Y Y)<|a_B Y<|q0c<|tn<|q0h Y<|q0b<|q0a<|m_R Y<|Ls ((q2a (s:=strB R) (i:=0) Y Y hr0).trans (by rw [hrc]))<|Ls (q3o Y Y (by omega))<|m_B Y<|Lg2 Y Y Y (q0d (v:=.string _) Y)<|Lg2 Y Y Y ((q2a (s:=strB R) (i:=0) Y Y hr0).trans (by rw [hrc]))<|Lg2 Y Y Y (q6h Y Y (by omega))<|Ls (q0o (v:=.bool _) Y Y)<|a_B Y<|q0c<|tn<|q0h Y<|q0b<|q0a<|m_R Y<|Ls ((q2a (s:=strB R) (i:=0) Y Y hr0).trans (by rw [hrc]))<|Ls (q2j Y Y (by omega))<|a_B Y<|q0c<|tn<|q0r Y<|q0b<|q0a ?_);refine Ls (q5p (u:=[61]) Y Y Y) ?_;refine q0t (l:=tkC 3 [61]) (size:=2) Y Y Y q6m C5 Y ?_;intro w7 C7 hg7 _;(refine q0c<|tn<|q0s<|br<|tr ?_);refine q0z Y Y (Res.cellA (cs:=tkC 3 [61]) inferInstance Y (C7.range (fun j u h=>by rw [Nat.zero_add];exact h)) Y .nil) ?_;exact ⟨rfl,q0e G5 hg7 (fun g h=>by cases h;exact .inr (by omega)),B5.grown hg7 (by simp;omega)⟩
       · obtain rfl:46=c:=(by rw [h] at hRc;injection hRc);have hd:((sb (strB R)).head? == some 46 && (sb (strB R)).tail.head? == some 46)=true:=(by rw [hsR,h];rfl);have hdots:=gdots (strB R) w5;rw [hd] at hdots;rw [e];(refine a_R Y<|q0c<|tn<|q0b<|q0p<|q0b<|q0a<|m_R Y<|Ls (q8h Y Y hne)<|a_B Y<|q0c<|tn<|q0h Y<|q0b<|q0a<|m_R Y<|Ls ((q2a (s:=strB R) (i:=0) Y Y hr0).trans (by rw [hrc]))<|Ls (q5a Y Y (by omega))<|m_B Y<|Lo2 Y Y Y Y<|Lo2 Y Y Y Y<|Lo2 Y Y Y Y<|Ls (q0k (v:=.bool _) Y Y)<|a_B Y<|q0c<|tn<|q0h Y<|q0b<|q0a<|m_R Y<|Ls ((q2a (s:=strB R) (i:=0) Y Y hr0).trans (by rw [hrc]))<|Ls (q5a Y Y (by omega))<|m_B Y<|Lo2 Y Y Y Y<|Lo2 Y Y Y Y<|Lo2 Y Y Y Y<|Ls (q0k (v:=.bool _) Y Y)<|a_B Y<|q0c<|tn<|q0h Y<|q0b<|q0a<|m_R Y<|Ls ((q2a (s:=strB R) (i:=0) Y Y hr0).trans (by rw [hrc]))<|Ls (q2g Y Y (by omega))<|a_B Y<|q0c<|tn<|q0h Y<|q0b<|q0a<|m_R Y ?_);refine L_fv Y (hdots) ?_;intro w6 E6;have B5:=B5.ext E6;have C5:=C5.ext E6;have G5:=q0e G5 E6 (fun _ h=>by cases h);(refine a_B Y<|q0c<|tn<|q0r Y<|q0b<|q0a ?_);refine Ls (q5p (u:=[46,46]) Y Y Y) ?_;refine q0t (l:=tkC 3 [46,46]) (size:=2) Y Y Y q6m C5 Y ?_;intro w7 C7 hg7 _;(refine q0c<|tn<|q0s<|br<|tr ?_);refine q0z Y Y (Res.cellA (cs:=tkC 3 [46,46]) inferInstance Y (C7.range (fun j u h=>by rw [Nat.zero_add];exact h)) Y .nil) ?_;exact ⟨rfl,q0e G5 hg7 (fun g h=>by cases h;exact .inr (by omega)),B5.grown hg7 (by simp;omega)⟩
       · obtain ⟨rfl,rfl⟩:d=c∧r=r':=(by rw [h] at hRc;injection hRc with a b;exact ⟨a,b⟩);have hd:((sb (strB R)).head? == some 46 && (sb (strB R)).tail.head? == some 46)=false:=by
           rw [hsR,h,Bool.eq_false_iff];intro hh;simp at hh;exact h4 hh
         have hn1:¬ (97≤d∧d≤122):=fun hh=>(by rw [(Qy.isLo_iff d).2 hh] at h1;cases h1);have hn2:¬ (48≤d∧d≤57):=fun hh=>(by rw [(Qy.isDi_iff d).2 hh] at h2;cases h2);have hdots:=gdots (strB R) w5;rw [hd] at hdots;rw [e];by_cases ha:97≤d;case' pos=>(refine a_R Y<|q0c<|tn<|q0b<|q0p<|q0b<|q0a<|m_R Y<|Ls (q8h Y Y hne)<|a_B Y<|q0c<|tn<|q0h Y<|q0b<|q0a<|m_R Y<|Ls ((q2a (s:=strB R) (i:=0) Y Y hr0).trans (by rw [hrc]))<|Ls (q3o Y Y (by omega))<|m_B Y<|Lg2 Y Y Y (q0d (v:=.string _) Y)<|Lg2 Y Y Y ((q2a (s:=strB R) (i:=0) Y Y hr0).trans (by rw [hrc]))<|Lg2 Y Y Y (q6h Y Y (by omega))<|Ls (q0o (v:=.bool _) Y Y)<|a_B Y<|q0c<|tn<|q0h Y<|q0b<|q0a<|m_R Y<|Ls ((q2a (s:=strB R) (i:=0) Y Y hr0).trans (by rw [hrc]))<|Ls (q3o Y Y (by omega))<|m_B Y<|Lg2 Y Y Y (q0d (v:=.string _) Y)<|Lg2 Y Y Y ((q2a (s:=strB R) (i:=0) Y Y hr0).trans (by rw [hrc]))<|Lg2 Y Y Y (q6h Y Y (by omega))<|Ls (q0o (v:=.bool _) Y Y)<|a_B Y<|q0c<|tn<|q0h Y<|q0b<|q0a<|m_R Y<|Ls ((q2a (s:=strB R) (i:=0) Y Y hr0).trans (by rw [hrc]))<|Ls (q2g Y Y (by omega))<|a_B Y<|q0c<|tn<|q0h Y<|q0b<|q0a<|m_R Y ?_)
         case' neg =>
           by_cases hb:48≤d
           case' pos=>(refine a_R Y<|q0c<|tn<|q0b<|q0p<|q0b<|q0a<|m_R Y<|Ls (q8h Y Y hne)<|a_B Y<|q0c<|tn<|q0h Y<|q0b<|q0a<|m_R Y<|Ls ((q2a (s:=strB R) (i:=0) Y Y hr0).trans (by rw [hrc]))<|Ls (q5a Y Y (by omega))<|m_B Y<|Lo2 Y Y Y Y<|Lo2 Y Y Y Y<|Lo2 Y Y Y Y<|Ls (q0k (v:=.bool _) Y Y)<|a_B Y<|q0c<|tn<|q0h Y<|q0b<|q0a<|m_R Y<|Ls ((q2a (s:=strB R) (i:=0) Y Y hr0).trans (by rw [hrc]))<|Ls (q3o Y Y (by omega))<|m_B Y<|Lg2 Y Y Y (q0d (v:=.string _) Y)<|Lg2 Y Y Y ((q2a (s:=strB R) (i:=0) Y Y hr0).trans (by rw [hrc]))<|Lg2 Y Y Y (q6h Y Y (by omega))<|Ls (q0o (v:=.bool _) Y Y)<|a_B Y<|q0c<|tn<|q0h Y<|q0b<|q0a<|m_R Y<|Ls ((q2a (s:=strB R) (i:=0) Y Y hr0).trans (by rw [hrc]))<|Ls (q2g Y Y (by omega))<|a_B Y<|q0c<|tn<|q0h Y<|q0b<|q0a<|m_R Y ?_)
           case' neg=>(refine a_R Y<|q0c<|tn<|q0b<|q0p<|q0b<|q0a<|m_R Y<|Ls (q8h Y Y hne)<|a_B Y<|q0c<|tn<|q0h Y<|q0b<|q0a<|m_R Y<|Ls ((q2a (s:=strB R) (i:=0) Y Y hr0).trans (by rw [hrc]))<|Ls (q5a Y Y (by omega))<|m_B Y<|Lo2 Y Y Y Y<|Lo2 Y Y Y Y<|Lo2 Y Y Y Y<|Ls (q0k (v:=.bool _) Y Y)<|a_B Y<|q0c<|tn<|q0h Y<|q0b<|q0a<|m_R Y<|Ls ((q2a (s:=strB R) (i:=0) Y Y hr0).trans (by rw [hrc]))<|Ls (q5a Y Y (by omega))<|m_B Y<|Lo2 Y Y Y Y<|Lo2 Y Y Y Y<|Lo2 Y Y Y Y<|Ls (q0k (v:=.bool _) Y Y)<|a_B Y<|q0c<|tn<|q0h Y<|q0b<|q0a<|m_R Y<|Ls ((q2a (s:=strB R) (i:=0) Y Y hr0).trans (by rw [hrc]))<|Ls (q2g Y Y (by omega))<|a_B Y<|q0c<|tn<|q0h Y<|q0b<|q0a<|m_R Y ?_)
         all_goals
           refine L_fv Y (hdots) ?_
           intro w6 E6
           have B5:=B5.ext E6
           have C5:=C5.ext E6
           have G5:=q0e G5 E6 (fun _ h=>by cases h)
           (refine a_B Y<|q0c<|tn<|q0h Y<|q0l<|bn<|tn<|q0b<|q0a ?_)
           refine Ls (z5n Y) ?_
           refine q0t (l:=tkC 4 []) (size:=2) Y Y Y q6m C5 Y ?_
           intro w7 C7 hg7 _
           (refine q0c<|tn<|q0s ?_)
           refine q0z Y Y (Res.cellA (cs:=tkC 4 []) inferInstance Y (C7.range (fun j u h=>by rw [Nat.zero_add];exact h)) Y .nil) ?_
           exact ⟨rfl,q0e G5 hg7 (fun g h=>by cases h;exact .inr (by omega)),B5.grown hg7 (by simp;omega)⟩
   · obtain rfl:j=W:=(by omega);obtain rfl:R=[]:=List.eq_nil_of_length_eq_zero (by omega);(refine q0b<|q0b ?_);apply q1r 23 (by kernel_rfl);(apply DW_x (fun r w hA hH=>(q0d (v:=.pointer _) Y).trans Y);apply DW_x (fun r w hA hH=>(q1m Y).trans Y);apply DW_x (fun r w hA hH=>(q0g Y).trans Y);apply DW_x (fun r w hA hH=>(X_ld Y (B.ext hA) Y).trans Y);apply DW_x (fun r w hA hH=>(q0d (v:=.pointer _) Y).trans Y);apply DW_x (fun r w hA hH=>(q1m Y).trans Y);apply DW_x (fun r w hA hH=>(q0g Y).trans Y);apply DW_x (fun r w hA hH=>(X_ld Y (B.ext hA) Y).trans Y);apply DW_x (fun r w hA hH=>(q2d Y).trans Y);apply DW_x (fun r w hA hH=>(q1f Y Y (by omega)).trans Y);apply DW_x (fun r w hA hH=>(q0d (v:=.bool _) Y).trans Y);apply q0y Y Y (fun _=>rfl) Y;apply q0y Y Y (fun _=>rfl) Y;apply q0y Y Y (fun _=>rfl) Y;apply q0y Y Y (fun _=>rfl) Y;apply q0y Y Y (fun _=>rfl) Y;apply q0y Y Y (fun _=>rfl) Y;apply q0y Y Y (fun _=>rfl) Y;apply q0y Y Y (fun _=>rfl) Y;apply q0y Y Y (fun _=>rfl) Y;apply q0y Y Y (fun _=>rfl) Y;apply q0y Y Y (fun _=>rfl) Y;apply DW_x (fun r w hA hH=>(q0k (v:=.bool _) Y Y).trans Y));((with_reducible exact q2c);(exact rfl);(repeat (first | exact .inr (.inr (fun _ _=>by with_reducible rfl)) | (refine And.intro ?_ ?_) | exact .inr (.inl rfl) | exact .inl (by decide +kernel) | exact trivial | exact .inr (.inr (fun _ _=>rfl))));(try dsimp only [Nat.reduceAdd]));intro r w3 E3 _;have B4:=B.ext E3;have C4:=C.ext E3;have G4:=q0e G2 E3 (fun _ h=>by cases h);(refine q0c<|tn<|q0h Y<|q1d<|te<|te<|bx<|tn<|q0b ?_);apply q1r 9 (by kernel_rfl);(apply DW_x (fun r w hA hH=>(q0d (v:=.pointer _) Y).trans Y);apply DW_x (fun r w hA hH=>(q1m Y).trans Y);apply DW_x (fun r w hA hH=>(q0g Y).trans Y);apply DW_x (fun r w hA hH=>(X_ld Y (B4.ext hA) Y).trans Y);apply DW_x (fun r w hA hH=>(q0d (v:=.pointer _) Y).trans Y);apply DW_x (fun r w hA hH=>(q1m Y).trans Y);apply DW_x (fun r w hA hH=>(q0g Y).trans Y);apply DW_x (fun r w hA hH=>(X_ld Y (B4.ext hA) Y).trans Y));((with_reducible apply DW_x);(exact fun r w hA hH=>(X_slcA (pos+j) Y Y (by omega) hRd.symm).trans Y));((with_reducible exact q2c);(exact rfl);(repeat (first | exact .inr (.inr (fun _ _=>by with_reducible rfl)) | (refine And.intro ?_ ?_) | exact .inr (.inl rfl) | exact .inl (by decide +kernel) | exact trivial | exact .inr (.inr (fun _ _=>rfl))));(try dsimp only [Nat.reduceAdd]));intro r5 w5 E5 _;have B5:=B4.ext E5;have C5:=C4.ext E5;have G5:=q0e G4 E5 (fun _ h=>by cases h);(refine a_R Y<|q0c<|tn<|q0b<|q0p<|q0b<|q0a<|m_R Y<|Ls (q8h Y Y (decide_eq_true (show strB []=⟨#[]⟩ from rfl)))<|a_B Y<|q0c<|tn<|q0r Y<|q0b<|q0a ?_);refine Ls (z5n Y) ?_;refine q0t (l:=tkC 0 []) (size:=2) Y Y Y q6m C5 Y ?_;intro w7 C7 hg7 _;(refine q0c<|tn<|q0s<|br<|tr ?_);refine q0z Y Y (Res.cellA (cs:=tkC 0 []) inferInstance Y (C7.range (fun j u h=>by rw [Nat.zero_add];exact h)) Y .nil) ?_;exact ⟨rfl,q0e G5 hg7 (fun g h=>by cases h;exact .inr (by omega)),B5.grown hg7 (by simp;omega)⟩
instance eqToken:TEq Tryz.prog 188:=⟨by kernel_rfl,by kernel_rfl,.inl ⟨_,Tryz.underlying188⟩⟩
theorem keyLits_str {P:Program} {e:TypeId} [h:TStr P e] (D:Nat) {s:ByteArray} (hs:s.size≤maxLen):P.keyLits (D+1) e [.string s]=some [.string s.data.toList]:=by
 simp [Program.keyLits,h.h,hs]
theorem kl_tok {k:Nat} {u:List Nat} (hk:k < 256) (hu:u.length≤10000000):(Tryz.prog).keyLits 3 188 (tkC k u)=some ([.int .i64 (k:Nat)]++[.string (strB u).data.toList]):=by
 refine z2k (D:=2) Tryz.underlying188 (by decide) (by decide) (by kernel_rfl) ?_ ?_
 · rw [show (Tryz.prog).cellsOf 3=1 by kernel_rfl];exact Go.Proofs.K.keyLits_int 1 (z3m (by omega))
 · rw [show (Tryz.prog).cellsOf 9=1 by kernel_rfl];exact keyLits_str 1 (by rw [q4f];unfold maxLen;omega)
theorem strB_inj {a b:List Nat} (ha:∀ x∈a,x < 256) (hb:∀ x∈b,x < 256):(strB a).data.toList=(strB b).data.toList↔a=b:=by
 constructor
 · intro h;have:strB a=strB b:=by
     have h2:=Array.toList_inj.1 h;cases hx:strB a;cases hy:strB b
     rw [hx,hy] at h2;simpa using h2
   have:=congrArg sb this;rwa [q9c ha,q9c hb] at this
 · rintro rfl;rfl
theorem X_neqTok {n:NN} {f:Fr} {w:World} {d:Option Tmp} {t:TypeId} {pos:String} {af:Array Edge} {g:Option (Nat × Bool)} {x y:Operand} {k k':Nat} {u u':List Nat} {q:Bool} (hk:k < 256) (hk':k' < 256) (hu:u.length≤10000000) (hu':u'.length≤10000000) (h8:∀ x∈u,x < 256) (h8':∀ x∈u',x < 256)
   (hx:ev n f x=.agg (tkC k u).toArray) (hy:ev n f y=.agg (tkC k' u').toArray) (hq:q=true↔¬ (k=k'∧u=u')) :
   X Tryz.prog n ⟨d,.binOp .neq 188 x y 188,t,pos,af,g⟩ f w=.ok (.value (.bool q)) w:=by
 refine X_neqK hx hy (by kernel_rfl) (by kernel_rfl) (kl_tok hk hu) (kl_tok hk' hu') (hq.trans (not_congr ?_));rw [← strB_inj h8 h8'];constructor
 · rintro ⟨rfl,h⟩;rw [h]
 · intro h;simp only [List.cons_append,List.nil_append,List.cons.injEq,Lit.int.injEq,Lit.string.injEq,and_true,true_and] at h;exact ⟨by omega,h.2⟩
abbrev PS:=Except Qy.Er (List Qy.Tok)
def PSt (w:World) (g:Nat) (s:ByteArray) (st:PS):Prop :=
 ∃ pos off err:Nat,pos≤s.size∧Blk w g 185 (pC s pos off err)∧match st with
   | .ok l=>off=0∧err=0∧Qy.toks ((sb s).drop pos) pos=l
   | .error e=>off=e.1∧err=e.2∧e.2 ≠ 0
theorem PSt.ext {w w':World} {g:Nat} {s:ByteArray} {st:PS} (h:PSt w g s st) (E:Ext w w'):PSt w' g s st:=by
 obtain ⟨pos,off,err,h1,h2,h3⟩:=h;exact ⟨pos,off,err,h1,h2.ext E,h3⟩
theorem PSt.lt {w:World} {g:Nat} {s:ByteArray} {st:PS} (h:PSt w g s st):g < w.heap.size:=by
 obtain ⟨_,_,_,_,h2,_⟩:=h;exact h2.lt
theorem PSt.grown {w w':World} {g:Nat} {s:ByteArray} {st:PS} {row:Option Nat} (h:PSt w g s st) (hg:w.grownBy w' row) (hr:row ≠ some g):PSt w' g s st:=by
 obtain ⟨pos,off,err,h1,h2,h3⟩:=h;exact ⟨pos,off,err,h1,h2.grown hg hr,h3⟩
def after {α:Type} (st:PS) (r:List Qy.Tok→Qy.R α):PS:=match st with
 | .error e=>.error e
 | .ok l=>match r l with
   | .ok (_,m)=>.ok m
   | .error e=>.error e
def q2z {α:Type} (st:PS) (r:List Qy.Tok→Qy.R α) (v:α):Prop:=∀ l,st=.ok l→∀ a m,r l=.ok (a,m)→a=v
def unx (st:PS):PS:=match st with
 | .error e=>.error e
 | .ok l=>.error (Qy.unexp l)
theorem gfail (g:Nat) (s:ByteArray) (pos off err o e:Nat) (w:World) (hB:Blk w g 185 (pC s pos off err)) :
   Calls Tryz.prog 166 #[.pointer (some ⟨g,0,none⟩),.int .i64 (o:Nat),.int .i64 (e:Nat)] w fun r w'=>r=.returned (.tuple #[])∧w.grownBy w' (some g) ∧
     Blk w' g 185 (if err=0 then pC s pos o e else pC s pos off err):=by
 refine q0j Tryz.func166 Y Tryz.ntmps166 Y ?_;by_cases h0:err=0
 · rw [if_pos h0];(refine q0b<|q0a<|m_P Y<|Ls (q1m Y)<|Ls (q0g Y)<|Ls (X_ld Y hB Y)<|Ls (q2j Y Y (by omega))<|q0c<|tn<|q0r Y<|q0a<|m_P Y<|m_P Y<|m_I Y<|m_I Y<|Ls (q1m Y)<|Ls (q0g Y) ?_);refine q1b Y (v:=.int _ _) Y Y hB (by simp [pC]) ?_;intro w1 B1 hg1 _;(refine Ls (q1m Y)<|Ls (q0g Y) ?_);refine q1b Y (v:=.int _ _) Y Y B1 (by simp [pC]) ?_;intro w2 B2 hg2 _;(refine q0c ?_);refine q1h Y Y ⟨rfl,q0e hg1 hg2 (fun g h=>.inl h),?_⟩;simpa [pC] using B2
 · rw [if_neg h0];(refine q0b<|q0a<|m_P Y<|Ls (q1m Y)<|Ls (q0g Y)<|Ls (X_ld Y hB Y)<|Ls (q2g Y Y (by omega))<|q0c<|tn<|q0h Y<|q0l ?_);exact q1h Y Y ⟨rfl,(Ext.refl w).row _,hB⟩
theorem z4i {s:ByteArray} {pos:Nat} {l:List Qy.Tok} (h:Qy.toks ((sb s).drop pos) pos=l):Qy.toks ((sb s).drop (pos+Qy.ws ((sb s).drop pos))) (pos+Qy.ws ((sb s).drop pos))=l∧∃ r,l=Qy.scan ((sb s).drop pos) pos :: r:=by
 constructor
 · rw [← h,← List.drop_drop,Qy.toks_skip]
 · rw [← h];exact Qy.toks_cons _ _
theorem pos_ws {s:ByteArray} {pos:Nat} (h:pos≤s.size):pos+Qy.ws ((sb s).drop pos)≤s.size:=by
 have:=Qy.ws_le ((sb s).drop pos);rw [List.length_drop,q3u] at this;omega
theorem q6e (g:Nat) (s:ByteArray) (st:PS) (hs:s.size≤1000000) (w:World) (h:PSt w g s st) :
   Calls Tryz.prog 87 #[.pointer (some ⟨g,0,none⟩)] w fun r w'=>r=.returned (.tuple #[])∧w.grownBy w' (some g)∧PSt w' g s (unx st):=by
 refine q0j Tryz.func87 Y Tryz.ntmps87 Y ?_;obtain ⟨pos,off,err,hp,hB,hst⟩:=h;have hg0:=hB.lt;have hp':=pos_ws hp;obtain ⟨T,hT⟩:∃ T,T=Qy.scan ((sb s).drop pos) pos:=⟨_,rfl⟩;have hoff:T.off=pos+Qy.ws ((sb s).drop pos):=by rw [hT];exact Qy.scan_off _ _
 have hpk:=gpeek g s pos off err hp hs w hB;rw [← hT] at hpk;(refine q0b<|q0a<|m_P Y ?_);refine L_fn hpk Y ?_;rintro e w1 ⟨rfl,G1,B1⟩;refine ⟨_,rfl,?_⟩;obtain ⟨p',hp'e⟩:∃ p',p'=pos+Qy.ws ((sb s).drop pos):=⟨_,rfl⟩;rw [← hp'e] at B1 hp' hoff;refine q0w ?_;intro g2 w2 B2 hg2 E2 hs2;have hz:=G1.size;refine q0t (size:=2) Y Y Y q6m B2 Y ?_;intro w3 B3 hg3 hs3;have C3:=(B1.ext E2).grown hg3 (by simp;omega);have G3:w.grownBy w3 (some g):=q0e (q0e G1 E2 (fun _ h=>by cases h)) hg3 (fun g h=>by cases h;exact .inr (by omega));have fin:∀ (er:Nat) (w4:World),(er=131∧T.kind=0∨er=130∧T.kind ≠ 0)→w3.grownBy w4 (some g)→Blk w4 g 185 (if err=0 then pC s p' p' er else pC s p' off err)→w.grownBy w4 (some g)∧PSt w4 g s (unx st):=by
   intro er w4 her G4 B4;refine ⟨q0e G3 G4 (fun g h=>.inl h),?_⟩;cases st with
   | ok l =>
     obtain ⟨rfl,rfl,ht⟩:=hst;obtain ⟨_,r,hl⟩:=z4i ht;rw [if_pos Y] at B4;refine ⟨p',p',er,hp',B4,?_⟩;rw [← hT] at hl;show p'=(Qy.unexp l).1∧er=(Qy.unexp l).2∧(Qy.unexp l).2 ≠ 0;rw [hl];rcases her with ⟨h1,h2⟩ | ⟨h1,h2⟩
     · simp [Qy.unexp,hoff,h1,h2]
     · have:(T.kind == 0)=false:=(by simp [h2]);simp [Qy.unexp,hoff,h1,this]
   | error e =>
     obtain ⟨h1,h2,h3⟩:=hst;rw [if_neg (by omega)] at B4;exact ⟨p',off,err,hp',B4,h1,h2,h3⟩
 by_cases hk:T.kind=0
 · (refine q0c<|tn<|q0b<|q0a<|Ls (q0g Y)<|Ls (X_ld Y B3 Y)<|Ls (q2j Y Y (by omega))<|q0c<|tn<|q0r Y<|q0a<|m_P Y<|m_P Y<|Ls (q1m Y)<|Ls (q0g Y)<|Ls (X_ld Y C3 Y) ?_);refine L_fn (gfail g s p' off err p' 131 w3 C3) Y ?_;rintro e w4 ⟨rfl,G4,B4⟩;refine ⟨_,rfl,?_⟩;(refine q0c ?_);have:=fin 131 w4 (.inl ⟨rfl,hk⟩) G4 B4;exact q1h Y Y ⟨rfl,this⟩
 · (refine q0c<|tn<|q0b<|q0a<|Ls (q0g Y)<|Ls (X_ld Y B3 Y)<|Ls (q2g Y Y (by omega))<|q0c<|tn<|q0h Y<|q0a<|m_P Y<|m_P Y<|Ls (q1m Y)<|Ls (q0g Y)<|Ls (X_ld Y C3 Y) ?_);refine L_fn (gfail g s p' off err p' 130 w3 C3) Y ?_;rintro e w4 ⟨rfl,G4,B4⟩;refine ⟨_,rfl,?_⟩;(refine q0c ?_);have:=fin 130 w4 (.inr ⟨rfl,hk⟩) G4 B4;exact q1h Y Y ⟨rfl,this⟩
structure TokX (k:Nat) (x:List Nat):Prop where
 kk:k < 256
 ne:x ≠ []
 b:∀ c∈x,c < 256
 l:x.length≤1000
 t:∀ l i,(Qy.scan l i).text=x→(Qy.scan l i).kind=k
theorem q6s {x:List Nat} (hne:x ≠ []) (hx:∀ c∈x,Qy.isLo c=true) (hl:x.length≤1000):TokX 1 x:=by
 refine ⟨by decide,hne,fun c hc=>by have:=(Qy.isLo_iff c).1 (hx c hc);omega,hl,fun l i h=>?_⟩;rcases Qy.scan_kinds l i with ⟨_,ht,_⟩ | ⟨hk,_⟩ | ⟨_,ht,_⟩ | ⟨_,ht⟩ | ⟨_,ht,_⟩
 · exact (hne (h.symm.trans ht)).elim
 · exact hk
 · cases x with
   | nil=>exact (hne Y).elim
   | cons c x =>
     have h1:=(Qy.isLo_iff c).1 (hx c (by simp));have h2:=(Qy.isDi_iff c).1 (ht c (by rw [h];simp));omega
 · rw [h] at ht;rcases ht with rfl | rfl
   · have:=hx 61 (by simp);cases this
   · have:=hx 46 (by simp);cases this
 · exact (hne (h.symm.trans ht)).elim
theorem tokX_sym {x:List Nat} (hx:x=[61]∨x=[46,46]):TokX 3 x:=by
 refine ⟨by decide,by rcases hx with rfl | rfl <;> decide,by rcases hx with rfl | rfl <;> decide,by rcases hx with rfl | rfl <;> decide,fun l i h=>?_⟩;rcases Qy.scan_kinds l i with ⟨_,ht,_⟩ | ⟨_,ht,_⟩ | ⟨_,ht,_⟩ | ⟨hk,_⟩ | ⟨_,ht,_⟩
 · rw [h] at ht;rcases hx with rfl | rfl <;> cases ht
 · rw [h] at ht;rcases hx with rfl | rfl
   · have:=ht 61 (by simp);cases this
   · have:=ht 46 (by simp);cases this
 · rw [h] at ht;rcases hx with rfl | rfl
   · have:=ht 61 (by simp);cases this
   · have:=ht 46 (by simp);cases this
 · exact hk
 · rw [h] at ht;rcases hx with rfl | rfl <;> cases ht
theorem tok_b {l:List Nat} (h8:∀ c∈l,c < 256) (i:Nat):∀ c∈(Qy.scan l i).text,c < 256:=by
 obtain ⟨r,h⟩:=Qy.scan_prefix l i;intro c hc;exact h8 c (List.dropWhile_suffix Qy.isWs |>.subset (by rw [h];exact List.mem_append_left _ hc))
theorem toks_next {s:ByteArray} {pos:Nat} {l r:List Qy.Tok} (hp:pos≤s.size) (h:Qy.toks ((sb s).drop pos) pos=l) (hl:l=Qy.scan ((sb s).drop pos) pos :: r) (hk:(Qy.scan ((sb s).drop pos) pos).text ≠ []∨(Qy.scan ((sb s).drop pos) pos).kind=2) :
   pos+Qy.ws ((sb s).drop pos)+(Qy.scan ((sb s).drop pos) pos).text.length≤s.size ∧
   Qy.toks ((sb s).drop (pos+Qy.ws ((sb s).drop pos)+(Qy.scan ((sb s).drop pos) pos).text.length)) (pos+Qy.ws ((sb s).drop pos)+(Qy.scan ((sb s).drop pos) pos).text.length)=r:=by
 have hf:=Qy.scan_fits ((sb s).drop pos) pos;rw [List.length_drop,q3u] at hf;refine ⟨by omega,?_⟩;have hb:((Qy.scan ((sb s).drop pos) pos).kind == 0 || (Qy.scan ((sb s).drop pos) pos).kind == 4)=false:=by
   rcases Qy.scan_kinds ((sb s).drop pos) pos with ⟨k,t,_⟩ | ⟨k,_⟩ | ⟨k,_⟩ | ⟨k,_⟩ | ⟨k,t,_⟩ <;> rw [k]
   · rcases hk with hk | hk
     · exact (hk t).elim
     · omega
   · rfl
   · rfl
   · rfl
   · rcases hk with hk | hk
     · exact (hk t).elim
     · omega
 rw [Qy.toks_eq,hb] at h;simp only [cond_false] at h;rw [← h,List.drop_drop] at hl;injection hl with _ hl;rw [← hl,Nat.add_assoc]
theorem z0n (g:Nat) (s:ByteArray) (st:PS) (k:Nat) (x:List Nat) (hX:TokX k x) (hs:s.size≤1000000) (w:World) (h:PSt w g s st) :
   Calls Tryz.prog 158 #[.pointer (some ⟨g,0,none⟩),.agg (tkC k x).toArray] w fun e w'=>∃ b:Bool,e=.returned (.bool b)∧w.grownBy w' (some g) ∧
     (b=true∧(∃ l r,st=.ok l∧Qy.acc x l=some r∧PSt w' g s (.ok r))∨b=false∧PSt w' g s st∧∀ l,st=.ok l→Qy.acc x l=none):=by
 refine q0j Tryz.func158 Y Tryz.ntmps158 Y ?_;have hg0:=h.lt;(refine q0b<|q0a ?_);refine q2s (l:=tkC k x) Y ?_;intro g3 w1 B3 hg3 E1 hs1;have h:=h.ext E1;(refine a_B Y<|q0c<|tn<|q0b<|q0b ?_);cases st with
 | error e =>
   obtain ⟨pos,off,err,hp,hB,h1,h2,h3⟩:=h;have herr:¬ (err:Int)=0:=(by omega);skip;apply q1r 11 (by kernel_rfl);(apply DW_x (fun r w hA hH=>(q0d (v:=.pointer _) Y).trans Y);apply DW_x (fun r w hA hH=>(q1m Y).trans Y);apply DW_x (fun r w hA hH=>(q0g Y).trans Y);apply DW_x (fun r w hA hH=>(X_ld Y (hB.ext hA) Y).trans Y);apply DW_x (fun r w hA hH=>(q2t Y Y (by omega)).trans Y);apply DW_x (fun r w hA hH=>(q0d (v:=.bool _) Y).trans Y);apply q0y Y Y (fun _=>rfl) Y;apply q0y Y Y (fun _=>rfl) Y;apply q0y Y Y (fun _=>rfl) Y;apply q0y Y Y (fun _=>rfl) Y;apply DW_x (fun r w hA hH=>(q0o (v:=.bool _) Y Y).trans Y));((with_reducible exact q2c);(exact rfl);(repeat (first | exact .inr (.inr (fun _ _=>by with_reducible rfl)) | (refine And.intro ?_ ?_) | exact .inr (.inl rfl) | exact .inl (by decide +kernel) | exact trivial | exact .inr (.inr (fun _ _=>rfl))));(try dsimp only [Nat.reduceAdd]));intro r w2 E2 _;(refine q0c<|tn<|q0r Y<|q0b<|q0a<|a_B Y<|q0c<|tn<|q0s<|tr ?_);exact q0f Y Y (v:=.bool false) Y ⟨false,rfl,(E1.trans E2).row _,.inr ⟨rfl,⟨pos,off,err,hp,hB.ext E2,h1,h2,h3⟩,fun l hl=>by cases hl⟩⟩
 | ok l =>
   obtain ⟨pos,off,err,hp,hB,rfl,rfl,ht⟩:=h;obtain ⟨hta,r0,hl⟩:=z4i ht;have hnx:=fun hk=>toks_next hp ht hl hk;have hpk:=fun (w:World) hB=>gpeek g s pos 0 0 hp hs w hB;have hp':=pos_ws hp;have hXt:=hX.t ((sb s).drop pos) pos;have htb:=tok_b (l:=(sb s).drop pos) (fun c hc=>sb_lt s c (List.mem_of_mem_drop hc)) pos;have htl:(Qy.scan ((sb s).drop pos) pos).text.length≤s.size:=by
     have:=Qy.scan_fits ((sb s).drop pos) pos;rw [List.length_drop,q3u] at this;omega
   have hkk:(Qy.scan ((sb s).drop pos) pos).kind < 256:=by
     rcases Qy.scan_kinds ((sb s).drop pos) pos with ⟨k,_⟩ | ⟨k,_⟩ | ⟨k,_⟩ | ⟨k,_⟩ | ⟨k,_⟩ <;> omega
   obtain ⟨t,hT⟩:∃ t,t=Qy.scan ((sb s).drop pos) pos:=⟨_,rfl⟩;obtain ⟨p',hpe⟩:∃ p',p'=pos+Qy.ws ((sb s).drop pos):=⟨_,rfl⟩;rw [← hT,← hpe] at hnx;rw [← hpe] at hp' hta;rw [← hT] at hXt htb htl hkk hl;simp only [← hT,← hpe] at hpk;clear hT hpe;have h13:g3 ≠ g:=(by omega);obtain ⟨q,hq⟩:∃ q,q=decide (¬ (t.kind=k∧t.text=x)):=⟨_,rfl⟩;have hq':q=true↔¬ (t.kind=k∧t.text=x):=(by rw [hq,decide_eq_true_iff]);apply z3f 7 g (fun w'=>Blk w' g 185 (pC s pos 0 0)) 11 (by kernel_rfl) (hB.ext (Ext.drew _)) (fun _ _ E h=>h.ext E);(apply DW_x (fun r w hA hH=>(q0d (v:=.pointer _) Y).trans Y);apply DW_x (fun r w hA hH=>(q1m Y).trans Y);apply DW_x (fun r w hA hH=>(q0g Y).trans Y);apply DW_x (fun r w hA hH=>(X_ld Y (hA.pre (.inr Y)) Y).trans Y);apply DW_x (fun r w hA hH=>(q2e Y Y (by omega)).trans Y);apply DW_x (fun r w hA hH=>(q0d (v:=.bool _) Y).trans Y);apply q1a Y Y (fun _=>rfl) (fun r w hA hH=>(q0d (v:=.pointer _) Y).trans Y));((with_reducible apply DW_fr2 (F:=fun v w'=>v=.agg (tkC t.kind t.text).toArray∧Blk w' g 185 (pC s p' 0 0)));(exact rfl);(exact rfl);(exact fun _=>rfl);(exact fun _=>rfl);(exact fun r w hA hH=>(hpk w (hA.pre (.inl Y))).mono fun e w' ⟨he,hg,hb⟩=>⟨_,he,.inr ⟨rfl,hg⟩,rfl,hb⟩);(exact fun i u w w' hi ht hR h=>⟨h.1,h.2.ext (hR.other hi)⟩));(apply q1a Y Y (fun _=>rfl) (fun r w hA hH=>(q2i (size:=2) Y (B3.grown hA.g (by simp;omega)) Y).trans Y));((with_reducible apply q1a);(exact rfl);(exact rfl);(exact fun _=>rfl);(exact fun r w hA hH=>(X_neqTok hkk hX.kk (by omega) (by have:=hX.l;omega) htb hX.b (by exact (hH 7 Y).1) Y hq').trans Y));(apply DW_x (fun r w hA hH=>(q0k (v:=.bool _) Y Y).trans Y));((with_reducible exact q2c);(exact rfl);(repeat (first | exact .inr (.inr (fun _ _=>by with_reducible rfl)) | (refine And.intro ?_ ?_) | exact .inr (.inl rfl) | exact .inl (by decide +kernel) | exact trivial | exact .inr (.inr (fun _ _=>rfl))));(try dsimp only [Nat.reduceAdd]));intro r w2 G2 H2;obtain ⟨_,B2⟩:_∧Blk w2 g 185 (pC s p' 0 0):=H2 7;have C3:=B3.grown G2 (by simp;omega);have Ga:=q0e (E1.row (some g)) G2 (fun g h=>.inl h);by_cases hhit:t.kind=k∧t.text=x
   · obtain rfl:q=false:=(by rw [hq,decide_eq_false (by simpa using hhit)]);obtain ⟨hn1,hn2⟩:=hnx (.inl (by rw [hhit.2];exact hX.ne));rw [hhit.2] at hn1 hn2;(refine q0c<|tn<|q0h Y<|q0l<|tn<|q0b ?_);apply q1r 10 (by kernel_rfl);(apply DW_x (fun r w hA hH=>(q0d (v:=.pointer _) Y).trans Y);apply DW_x (fun r w hA hH=>(q1m Y).trans Y);apply DW_x (fun r w hA hH=>(q0g Y).trans Y);apply DW_x (fun r w hA hH=>(X_ld Y (B2.ext hA) Y).trans Y);apply DW_x (fun r w hA hH=>(q0g Y).trans Y);apply DW_x (fun r w hA hH=>(X_ld Y (C3.ext hA) Y).trans Y);apply DW_x (fun r w hA hH=>((q2d (s:=strB x) Y).trans (by rw [q4f])).trans Y);apply DW_x (fun r w hA hH=>(q1c Y Y (by omega)).trans Y);apply DW_x (fun r w hA hH=>(q1m Y).trans Y);apply DW_x (fun r w hA hH=>(q0g Y).trans Y));((with_reducible exact q2c);(exact rfl);(repeat (first | exact .inr (.inr (fun _ _=>by with_reducible rfl)) | (refine And.intro ?_ ?_) | exact .inr (.inl rfl) | exact .inl (by decide +kernel) | exact trivial | exact .inr (.inr (fun _ _=>rfl))));(try dsimp only [Nat.reduceAdd]));intro r3 w3 E3 _;refine q1b Y (v:=.int _ _) Y Y (B2.ext E3) (by simp [pC]) ?_;intro w4 B4 hg4 _;(refine q0c<|tn<|q0b<|q0a<|a_B Y<|q0c<|tn<|q0s ?_);refine q0f Y Y (v:=.bool true) Y ⟨true,rfl,q0e (q0e Ga E3 (fun _ h=>by cases h)) hg4 (fun g h=>.inl h),.inl ⟨rfl,l,r0,rfl,?_,p'+x.length,0,0,hn1,?_,rfl,rfl,hn2⟩⟩
     · rw [hl];simp [Qy.acc,hhit.2]
     · rw [show pC s (p'+x.length) 0 0=(pC s p' 0 0).set 1 (.int .i64 ((p':Int)+(x.length:Nat))) from by simp [pC]];exact B4
   · obtain rfl:q=true:=(by rw [hq,decide_eq_true hhit]);(refine q0c<|tn<|q0r Y<|q0b<|q0a<|a_B Y<|q0c<|tn<|q0s<|tr ?_);refine q0f Y Y (v:=.bool false) Y ⟨false,rfl,Ga,.inr ⟨rfl,⟨p',0,0,hp',B2,rfl,rfl,hta⟩,fun l' hl'=>?_⟩⟩;injection hl' with hl';rw [← hl',hl];have:¬ t.text=x:=fun e=>hhit ⟨hXt e,e⟩;simp [Qy.acc,this]
theorem z4s {k:IntKind} {a b:Int} (h:a=b):Ending.returned (.int k a)=.returned (.int k b):=by rw [h]
theorem var_of_heap {P:Program} {w w':World} {name:String} {g:Nat} (hg:P.globalNamed name=some g) (hh:w'.heap[g]?=w.heap[g]?):w'.var? P name=w.var? P name:=by
 unfold World.var?;rw [hg];simp only [Option.bind_some,hh]
theorem gPow:Tryz.prog.globalNamed "internal/strconv.uint64pow10"=some 6:=by kernel_rfl
theorem Tabs.grown {w w':World} {g:Nat} (h:Tabs w) (hG:w.grownBy w' (some g)) (h1:g ≠ 6) (h2:g ≠ 8):Tabs w':=by
 obtain ⟨te,pe,he⟩:=h.e;have l1:6 < w.heap.size:=World.block_lt_of_cell? w ⟨6,0,none⟩ (h.p.cell gPow 0 (by decide));have l2:8 < w.heap.size:=World.block_lt_of_cell? w ⟨8,0,none⟩ he;refine ⟨(var_of_heap gPow (hG.block _ l1 (fun e=>h1 (by injection e with e;exact e.symm)))).trans h.p,te,pe,?_⟩;rw [← he];unfold World.cell?;rw [hG.block _ l2 (fun e=>h2 (by injection e with e;exact e.symm))]
theorem PSt.tabs {w w':World} {g:Nat} {s:ByteArray} {st:PS} (hp:PSt w g s st) (h:Tabs w) (hG:w.grownBy w' (some g)):Tabs w':=by
 obtain ⟨pos,off,err,_,hB,_⟩:=hp;have hc:=hB.cell 0;refine h.grown hG (fun e=>?_) (fun e=>?_)
 · subst e;rw [h.p.cell gPow 0 (by decide)] at hc;cases hc
 · subst e;obtain ⟨te,pe,he⟩:=h.e;rw [he] at hc;cases hc
section
variable {P:Program} {n:NN} {f:Fr} {w:World} {d:Option Tmp} {t ty ty':TypeId} {pos:String} {af:Array Edge} {g:Option (Nat × Bool)} {x y:Operand}
theorem X_neqNilF (hx:ev n f x=.nilIface) (hu:P.underlying ty=some (.interface (P.methodsAt ty))):X P n ⟨d,.binOp .neq ty x (.const .nilIface) ty',t,pos,af,g⟩ f w=.ok (.value (.bool false)) w:=by
 have e:=run_equal_nil_nil w ty hu;have e2:ev n f (.const .nilIface)=.nilIface:=rfl;simp [X,execOp,hx,e2,eqGuard_nil_constR,binOp,e,Result.andThen]
theorem X_neqNilT {te:TypeId} {pe:Value} (hx:ev n f x=.iface te pe) (hu:P.underlying ty=some (.interface (P.methodsAt ty))):X P n ⟨d,.binOp .neq ty x (.const .nilIface) ty',t,pos,af,g⟩ f w=.ok (.value (.bool true)) w:=by
 have e:=run_equal_held_nil w ty te pe hu;have e2:ev n f (.const .nilIface)=.nilIface:=rfl;have e3:∀ c:Operand,eqGuard .neq ty x c (.iface te pe) .nilIface=pure ():=fun _=>rfl;simp [X,execOp,hx,e2,e3,binOp,e,Result.andThen]
end
theorem gexpect (g:Nat) (s:ByteArray) (st:PS) (k:Nat) (x:List Nat) (hX:TokX k x) (hs:s.size≤1000000) (w:World) (h:PSt w g s st) :
   Calls Tryz.prog 162 #[.pointer (some ⟨g,0,none⟩),.agg (tkC k x).toArray] w fun e w'=>e=.returned (.tuple #[])∧w.grownBy w' (some g)∧PSt w' g s (after st (Qy.expect x)):=by
 refine q0j Tryz.func162 Y Tryz.ntmps162 Y ?_;(refine q0b<|q0a ?_);refine q2s (l:=tkC k x) Y ?_;intro g3 w1 B3 hg3 E1 hs1;have h:=h.ext E1;(refine q0c<|tn<|q0b<|q0a<|m_P Y<|Ls (q2i (size:=2) Y B3 Y) ?_);refine L_fn (z0n g s st k x hX hs w1 h) Y ?_;rintro e w2 ⟨b,rfl,G2,hb⟩;refine ⟨_,rfl,?_⟩;have Ga:=q0e (E1.row (some g)) G2 (fun g h=>.inl h);rcases hb with ⟨rfl,l,r,rfl,ha,hP⟩ | ⟨rfl,hP,hno⟩
 · (refine Ls (q1o Y)<|q0c<|tn<|q0h Y<|q0l ?_);refine q1h Y Y ⟨rfl,Ga,?_⟩;simpa [after,Qy.expect,ha] using hP
 · (refine Ls (q1o Y)<|q0c<|tn<|q0r Y<|q0a<|m_P Y ?_);refine L_fn (q6e g s st hs w2 hP) Y ?_;rintro e w3 ⟨rfl,G3,hP3⟩;refine ⟨_,rfl,?_⟩;(refine q0c ?_);refine q1h Y Y ⟨rfl,q0e Ga G3 (fun g h=>.inl h),?_⟩;cases st with
   | error e=>exact hP3
   | ok l=>simpa [after,unx,Qy.expect,hno l Y] using hP3
theorem tErr:Tryz.prog.underlying 341=some (.interface (Tryz.prog.methodsAt 341)):=by kernel_rfl
theorem z4y (g:Nat) (s:ByteArray) (st:PS) (lo hi:Nat) (hlo:lo≤1073741824) (hhi:hi≤65536) (hs:s.size≤100000) (w:World) (hw:Tabs w) (h:PSt w g s st) :
   Calls Tryz.prog 160 #[.pointer (some ⟨g,0,none⟩),.int .i64 (lo:Nat),.int .i64 (hi:Nat)] w fun e w'=>∃ n:Nat,e=.returned (.int .i64 (n:Nat))∧n≤1073741824∧w.grownBy w' (some g) ∧
     PSt w' g s (after st (Qy.num lo hi))∧q2z st (Qy.num lo hi) n:=by
 refine q0j Tryz.func160 Y Tryz.ntmps160 Y ?_;obtain ⟨pos,off,err,hp,hB,hst⟩:=id h;have hg0:=hB.lt;have hp':=pos_ws hp;have hkinds:=Qy.scan_kinds ((sb s).drop pos) pos;have htb:=tok_b (l:=(sb s).drop pos) (fun c hc=>sb_lt s c (List.mem_of_mem_drop hc)) pos;have htl:(Qy.scan ((sb s).drop pos) pos).text.length≤s.size:=by
   have:=Qy.scan_fits ((sb s).drop pos) pos;rw [List.length_drop,q3u] at this;omega
 have hpk:=fun (w:World) hB=>gpeek g s pos off err hp (by omega) w hB;have hoff:=Qy.scan_off ((sb s).drop pos) pos;have hsk:∀ l,st=.ok l→off=0∧err=0∧(∃ r,l=Qy.scan ((sb s).drop pos) pos :: r∧((Qy.scan ((sb s).drop pos) pos).kind=2→pos+Qy.ws ((sb s).drop pos)+(Qy.scan ((sb s).drop pos) pos).text.length≤s.size ∧
     Qy.toks ((sb s).drop (pos+Qy.ws ((sb s).drop pos)+(Qy.scan ((sb s).drop pos) pos).text.length)) (pos+Qy.ws ((sb s).drop pos)+(Qy.scan ((sb s).drop pos) pos).text.length)=r))∧Qy.toks ((sb s).drop (pos+Qy.ws ((sb s).drop pos))) (pos+Qy.ws ((sb s).drop pos))=l:=fun l hl=>by
   subst hl;obtain ⟨h1,h2,h3⟩:=hst;obtain ⟨h4,r,h5⟩:=z4i h3;exact ⟨h1,h2,⟨r,h5,fun hk=>toks_next hp h3 h5 (.inr hk)⟩,h4⟩
 have hse:∀ e,st=.error e→off=e.1∧err=e.2∧e.2 ≠ 0:=fun e he=>by subst he;exact hst
 clear hst;obtain ⟨t,hT⟩:∃ t,t=Qy.scan ((sb s).drop pos) pos:=⟨_,rfl⟩;obtain ⟨p',hpe⟩:∃ p',p'=pos+Qy.ws ((sb s).drop pos):=⟨_,rfl⟩;simp only [← hT,← hpe] at hpk hsk hkinds htb htl hp' hoff;clear hT hpe;(refine q0b<|q0a<|a_I Y<|q0c<|tn<|q0b<|q0a<|m_P Y ?_);refine L_fn (hpk w hB) Y ?_;rintro e w1 ⟨rfl,G1,B1⟩;refine ⟨_,rfl,?_⟩;refine q0w ?_;intro g2 w2 B2 hg2 E2 hs2;have hz:=G1.size;refine q0t (size:=2) Y Y Y q6m B2 Y ?_;intro w3 B3 hg3 hs3;have C3:=(B1.ext E2).grown hg3 (by simp;omega);have G3:w.grownBy w3 (some g):=q0e (q0e G1 E2 (fun _ h=>by cases h)) hg3 (fun g h=>by cases h;exact .inr (by omega));have hw3:=h.tabs hw G3;by_cases hk:t.kind=2
 · obtain ⟨hd,hne⟩:(∀ c∈t.text,Qy.isDi c=true)∧t.text ≠ []:=by
     rcases hkinds with ⟨k,_⟩ | ⟨k,_⟩ | ⟨_,h⟩ | ⟨k,_⟩ | ⟨k,_⟩ <;> first | exact h | omega
   obtain ⟨v,hv⟩:∃ v,v=Qy.val t.text:=⟨_,rfl⟩;have hat:=gatoi t.text hne hd (by omega) w3 hw3;rw [← hv] at hat;obtain ⟨m,hm⟩:∃ m,m=min v 1073741824:=⟨_,rfl⟩;have hgood:(lo≤m∧m≤hi↔lo≤v∧v≤hi):=(by omega);have hm2:m≤1073741824:=(by omega)
   -- what the rest makes of it
   have fin:∀ (w5:World),w.grownBy w5 (some g)→(Blk w5 g 185 (pC s (p'+t.text.length) 0 0)∧err=0∧(lo≤m∧m≤hi)∨Blk w5 g 185 (pC s p' p' 1)∧err=0∧¬ (lo≤m∧m≤hi)∨Blk w5 g 185 (pC s p' off err)∧err ≠ 0) →
       ∃ n:Nat,Ending.returned (.int .i64 (m:Nat))=.returned (.int .i64 (n:Nat))∧n≤1073741824∧w.grownBy w5 (some g)∧PSt w5 g s (after st (Qy.num lo hi))∧q2z st (Qy.num lo hi) n:=by
     intro w5 G5 hB5;have hk2:(t.kind == 2)=true:=(by simp [hk]);refine ⟨m,rfl,hm2,G5,?_,?_⟩
     · cases st with
       | error e =>
         obtain ⟨h1,h2,h3⟩:=hse e rfl;rcases hB5 with ⟨_,h,_⟩ | ⟨_,h,_⟩ | ⟨hB5,_⟩
         · omega
         · omega
         · exact ⟨p',off,err,hp',hB5,h1,h2,h3⟩
       | ok l =>
         obtain ⟨h1,h2,⟨r,hl,hr⟩,h4⟩:=hsk l rfl;obtain ⟨hr1,hr2⟩:=hr hk;subst hl;rcases hB5 with ⟨hB5,_,hgd⟩ | ⟨hB5,_,hgd⟩ | ⟨_,h⟩
         · have hgd':=hgood.1 hgd;have hn:Qy.num lo hi (t :: r)=.ok (v,r):=by
             simp only [Qy.num,hk2,cond_true,← hv,Nat.ble_eq_true_of_le hgd'.1,Nat.ble_eq_true_of_le hgd'.2,Bool.and_true]
           simp only [after,hn];exact ⟨_,0,0,hr1,hB5,rfl,rfl,hr2⟩
         · have hn:Qy.num lo hi (t :: r)=.error (t.off,1):=by
             have hb:(Nat.ble lo v && Nat.ble v hi)=false:=by
               rw [Bool.eq_false_iff];intro hh;simp at hh;exact hgd (hgood.2 hh)
             simp only [Qy.num,hk2,cond_true,← hv,hb,cond_false]
           simp only [after,hn];exact ⟨p',p',1,hp',hB5,hoff.symm,rfl,by simp⟩
         · exact (h h2).elim
     · intro l hl a q ha;obtain ⟨_,_,⟨r,hl',_⟩,_⟩:=hsk l hl;subst hl';simp only [Qy.num,hk2,cond_true,← hv] at ha;cases hb:(Nat.ble lo v && Nat.ble v hi)
       · rw [hb] at ha;cases ha
       · rw [hb] at ha;simp at hb;injection ha with ha;injection ha with ha _;omega
   (refine q0c<|tn<|q0b<|q0b<|q0a<|Ls (q0g Y)<|Ls (X_ld Y B3 Y)<|Ls (q2e Y Y (by omega))<|q0c<|tn<|q0h Y<|q0l<|tn<|q0b<|q0a<|Ls (q0g Y)<|Ls (X_ld Y B3 Y) ?_);refine L_fn hat Y ?_;rintro e w4 ⟨n,ev,rfl,E4,hev⟩;refine ⟨_,rfl,?_⟩;have C4:=C3.ext E4;have B4:=B3.ext E4;have G4:=q0e G3 E4 (fun _ h=>by cases h);clear B3 C3 B1 hB B2;rcases hev with ⟨hev,rfl⟩ | ⟨⟨ty,pe,hev⟩,hbig⟩;case' inl=>by_cases hsm:v≤1073741824
   case' pos=>have hmm:m=v:=by omega
   case' neg=>have hmm:m=1073741824:=by omega
   case' inr=>have hmm:m=1073741824:=by omega
   all_goals
     clear hm hgood hkinds hat hpk hd hne htb hw hw3 hv
     by_cases hl:m < lo
   all_goals (try (exfalso;omega))
   all_goals by_cases hbad:lo≤m∧m≤hi
   all_goals (try (exfalso;omega))
   all_goals by_cases he0:err=0
   all_goals repeat (first | (with_reducible refine tn ?_) | (with_reducible refine q0b ?_) | (with_reducible refine q0a ?_) | (with_reducible refine q0l ?_) | (with_reducible refine q0s ?_) | (with_reducible refine q0c ?_) | ((with_reducible refine z1c ?_);(first | ((with_reducible refine i_ng ?_);(first | refine Ls (q0d (v:=.int _ _) Y) ?_ | refine Ls (q0d (v:=.bool _) Y) ?_ | refine Ls (q0d (v:=.pointer _) Y) ?_ | refine Ls (q0d (v:=.tuple _) Y) ?_ | refine Ls (q0d (v:=ev) Y) ?_)) | ((with_reducible refine i_gd ?_);refine Lg2 Y Y Y (q0d (v:=.int _ _) Y) ?_))) | ((with_reducible refine q7l ?_);((with_reducible refine i_ng ?_);(first | refine Ls (q0m (v:=.int _ _) Y) ?_ | refine Ls (q0m (v:=ev) Y) ?_))) | ((with_reducible refine i_lss ?_);((with_reducible refine i_ng ?_);(first | refine Ls (q2k Y Y (by omega)) ?_ | refine Ls (q1f Y Y (by omega)) ?_))) | ((with_reducible refine i_gtr ?_);((with_reducible refine i_gd ?_);(first | refine Lg2 Y Y Y (q3l Y Y (by omega)) ?_ | refine Lg2 Y Y Y (q1q Y Y (by omega)) ?_))) | ((with_reducible refine i_eql ?_);((with_reducible refine i_ng ?_);(first | refine Ls (q2j Y Y (by omega)) ?_ | refine Ls (q2g Y Y (by omega)) ?_))) | ((with_reducible refine i_neq ?_);((with_reducible refine i_ng ?_);(first | refine Ls (X_neqNilT hev tErr) ?_ | refine Ls (X_neqNilF hev tErr) ?_))) | ((with_reducible refine i_fld ?_);((with_reducible refine i_ng ?_);refine Ls (q0g Y) ?_)) | ((with_reducible refine i_nil ?_);((with_reducible refine i_ng ?_);refine Ls (q1m Y) ?_)) | ((with_reducible refine i_ext ?_);((with_reducible refine i_ng ?_);refine Ls (q0n Y Y) ?_)) | ((with_reducible refine z1b ?_);((with_reducible refine i_ng ?_);(first | refine Ls (q0o (v:=.bool _) Y Y) ?_ | refine Ls (q0k (v:=.bool _) Y Y) ?_))) | ((with_reducible refine z3w ?_);((with_reducible refine i_ng ?_);refine Ls (X_ld Y C4 Y) ?_)) | ((with_reducible refine i_gd ?_);refine Lo2 Y Y Y Y ?_) | (with_reducible refine q0r Y ?_) | (with_reducible refine q0h Y ?_))
   all_goals first
     | (have hgd:=hbad.1
        have hz0:err=0:=he0
        apply q1r 10 (by kernel_rfl)
        (apply DW_x (fun r w hA hH=>(q0d (v:=.pointer _) Y).trans Y);apply DW_x (fun r w hA hH=>(q1m Y).trans Y);apply DW_x (fun r w hA hH=>(q0g Y).trans Y);apply DW_x (fun r w hA hH=>(X_ld Y (C4.ext hA) Y).trans Y);apply DW_x (fun r w hA hH=>(q0g Y).trans Y);apply DW_x (fun r w hA hH=>(X_ld Y (B4.ext hA) Y).trans Y);apply DW_x (fun r w hA hH=>((q2d (s:=strB t.text) Y).trans (by rw [q4f])).trans Y);apply DW_x (fun r w hA hH=>(q1c Y Y (by omega)).trans Y);apply DW_x (fun r w hA hH=>(q1m Y).trans Y);apply DW_x (fun r w hA hH=>(q0g Y).trans Y))
        ((with_reducible exact q2c);(exact rfl);(repeat (first | exact .inr (.inr (fun _ _=>by with_reducible rfl)) | (refine And.intro ?_ ?_) | exact .inr (.inl rfl) | exact .inl (by decide +kernel) | exact trivial | exact .inr (.inr (fun _ _=>rfl))));(try dsimp only [Nat.reduceAdd]))
        intro r5 w5 E5 _
        refine q1b Y (v:=.int _ _) Y Y (C4.ext E5) (by simp [pC]) ?_
        intro w6 B6 hg6 _
        (refine q0c<|tn<|q0b<|q0a<|m_I Y<|a_I Y<|q0c<|tn<|q0s ?_)
        obtain ⟨n,en,hn⟩:=fin w6 (q0e (q0e G4 E5 (fun _ h=>by cases h)) hg6 (fun g h=>.inl h)) (.inl ⟨by
          have hoo:off=0:=by
            cases st with
            | ok l=>exact (hsk l Y).1
            | error e=>obtain ⟨_,h2,h3⟩:=hse e Y;omega
          rw [show pC s (p'+t.text.length) 0 0=(pC s p' off err).set 1 (.int .i64 ((p':Int)+(t.text.length:Nat))) from by simp [pC,hoo,he0]]
          exact B6,he0,hbad⟩)
        exact q0f Y Y (v:=.int _ _) Y ⟨n,(z4s (by omega)).trans en,hn⟩)
     | (have hgd:=hbad.1
        obtain ⟨n,en,hn⟩:=fin w4 G4 (.inr (.inr ⟨C4,he0⟩))
        exact q0f Y Y (v:=.int _ _) Y ⟨n,(z4s (by omega)).trans en,hn⟩)
     | (refine L_fn (gfail g s p' off err p' 1 w4 C4) Y ?_
        rintro e w5 ⟨rfl,G5,B5⟩
        refine ⟨_,rfl,?_⟩
        have G5':=q0e G4 G5 (fun g h=>.inl h)
        rw [if_pos he0] at B5
        (refine q0c<|tn<|q0b<|q0b<|q0a<|m_P Y<|Ls (q1m Y)<|Ls (q0g Y)<|Ls (X_ld Y B5 Y)<|Ls (q2g Y Y (by omega))<|q0c<|tn<|q0h Y<|q0l<|tn<|q0b<|q0a<|m_I Y<|a_I Y<|q0c<|tn<|q0s ?_)
        obtain ⟨n,en,hn⟩:=fin w5 G5' (.inr (.inl ⟨B5,he0,hbad⟩))
        exact q0f Y Y (v:=.int _ _) Y ⟨n,(z4s (by omega)).trans en,hn⟩)
     | (refine L_fn (gfail g s p' off err p' 1 w4 C4) Y ?_
        rintro e w5 ⟨rfl,G5,B5⟩
        refine ⟨_,rfl,?_⟩
        have G5':=q0e G4 G5 (fun g h=>.inl h)
        rw [if_neg he0] at B5
        (refine q0c<|tn<|q0b<|q0b<|q0a<|m_P Y<|Ls (q1m Y)<|Ls (q0g Y)<|Ls (X_ld Y B5 Y)<|Ls (q2g Y Y (by omega))<|q0c<|tn<|q0h Y<|q0l<|tn<|q0b<|q0a<|m_I Y<|a_I Y<|q0c<|tn<|q0s ?_)
        obtain ⟨n,en,hn⟩:=fin w5 G5' (.inr (.inr ⟨B5,he0⟩))
        exact q0f Y Y (v:=.int _ _) Y ⟨n,(z4s (by omega)).trans en,hn⟩)
 · have hP3:PSt w3 g s st:=by
     cases st with
     | ok l=>obtain ⟨h1,h2,_,h4⟩:=hsk l Y;exact ⟨p',off,err,hp',C3,h1,h2,h4⟩
     | error e=>obtain ⟨h1,h2,h3⟩:=hse e Y;exact ⟨p',off,err,hp',C3,h1,h2,h3⟩
   (refine q0c<|tn<|q0b<|q0b<|q0a<|Ls (q0g Y)<|Ls (X_ld Y B3 Y)<|Ls (q2t Y Y (by omega))<|q0c<|tn<|q0r Y<|q0b<|q0a<|m_P Y ?_);refine L_fn (q6e g s st (by omega) w3 hP3) Y ?_;rintro e w4 ⟨rfl,G4,hP4⟩;refine ⟨_,rfl,?_⟩;(refine q0c<|tn<|q0b<|q0a<|a_I Y<|q0c<|tn<|q0s<|tr ?_);have hk2:(t.kind == 2)=false:=(by simp [hk]);refine q0f Y Y (v:=.int _ _) Y ⟨0,rfl,by omega,q0e G3 G4 (fun g h=>.inl h),?_,?_⟩
   · cases st with
     | error e=>exact hP4
     | ok l =>
       obtain ⟨_,_,⟨r,hl,_⟩,_⟩:=hsk l rfl;subst hl;simpa [after,unx,Qy.num,hk2] using hP4
   · intro l hl a m ha;obtain ⟨_,_,⟨r,hl',_⟩,_⟩:=hsk l hl;subst hl';simp [Qy.num,hk2] at ha
theorem q1j {α β:Type} {st:PS} {r:List Qy.Tok→Qy.R α} {k:α→List Qy.Tok→Qy.R β} {v:α} (h:q2z st r v):after st (fun l=>Qy.bind (r l) k)=after (after st r) (k v):=by
 cases st with
 | error e=>rfl
 | ok l =>
   simp only [after];cases hr:r l with
   | error e=>rfl
   | ok p =>
     obtain ⟨a,m⟩:=p;obtain rfl:=h l rfl a m hr;rfl
theorem q1l {α β:Type} {st:PS} {r:List Qy.Tok→Qy.R α} {k:α→List Qy.Tok→Qy.R β} {v:α} {u:β} (h:q2z st r v) (h2:q2z (after st r) (k v) u):q2z st (fun l=>Qy.bind (r l) k) u:=by
 intro l hl a m ha;subst hl;dsimp only at ha;cases hr:r l with
 | error e=>rw [hr] at ha;cases ha
 | ok p =>
   obtain ⟨b,q⟩:=p;obtain rfl:=h l rfl b q hr;rw [hr] at ha;exact h2 q (by simp only [after,hr]) a m ha
theorem q3f {α:Type} (st:PS) (x:α):after st (fun l=>.ok (x,l))=st:=by cases st <;> rfl
theorem q3b {α:Type} (st:PS) (x:α):q2z st (fun l=>.ok (x,l)) x:=by
 intro l _ a m h;injection h with h;injection h with h _;exact h.symm
theorem q3z {α:Type} {st:PS} {r r':List Qy.Tok→Qy.R α} (h:∀ l,st=.ok l→r l=r' l):after st r=after st r':=by
 cases st with
 | error e=>rfl
 | ok l=>simp only [after,h l Y]
theorem q3y {α:Type} {st:PS} {r r':List Qy.Tok→Qy.R α} {v:α} (h:∀ l,st=.ok l→r l=r' l) (hg:q2z st r' v):q2z st r v:=by
 intro l hl a m ha;rw [h l hl] at ha;exact hg l hl a m ha
theorem q5o {α:Type} {l m:List Qy.Tok} {r r':List Qy.Tok→Qy.R α} (h:r l=r' m):after (.ok l) r=after (.ok m) r':=by simp only [after,h]
theorem q5k {α:Type} {l m:List Qy.Tok} {r r':List Qy.Tok→Qy.R α} {v:α} (h:r l=r' m) (hg:q2z (.ok m) r' v):q2z (.ok l) r v:=by
 intro l' hl a q ha;injection hl with hl;subst hl;rw [h] at ha;exact hg m Y a q ha
theorem z3t {k:Nat} (h:k < 4):(strs z0x)[k]?=some (.string (strB (Qy.name k))):=by
 have:k=0∨k=1∨k=2∨k=3:=by omega
 rcases this with rfl | rfl | rfl | rfl <;> rfl
theorem tokX_name (k:Nat):TokX 1 (Qy.name k):=q6s (Qy.name_ne k) (Qy.name_lo k) (by have:=Qy.name_len k;omega)
theorem gcolumn (g:Nat) (s:ByteArray) (st:PS) (hs:s.size≤100000) (w:World) (h:PSt w g s st) :
   Calls Tryz.prog 159 #[.pointer (some ⟨g,0,none⟩)] w fun e w'=>∃ c:Nat,e=.returned (.int .i64 (c:Nat))∧c < 4∧w.grownBy w' (some g)∧PSt w' g s (after st Qy.col)∧q2z st Qy.col c:=by
 refine q0j Tryz.func159 Y Tryz.ntmps159 Y ?_;have hg0:=h.lt;(refine q0b<|q0a<|a_I Y<|q0c<|tn<|q0b<|q0b<|q0a ?_);refine L_fo Y (gcolumns w) ?_;rintro q w1 ⟨E1,o1⟩;have hP1:=h.ext E1;have r1:Row w1 w.heap.size w1.heap.size 1 q 4 (strs z0x):=Row.of_own o1;obtain ⟨b0,o0,c0,rfl,_,hb0,hb1,hc0⟩:=r1.at (k:=0) (by omega);(refine Ls (q0i Y)<|m_I Y<|q0c<|tn<|q0p ?_);refine q1e (fun z f w'=>∃ k,z=4 - k∧k≤4∧w1.grownBy w' (some g)∧PSt w' g s st∧(∀ l,st=.ok l→Qy.col l=Qy.colF (4 - k) k l)∧f 0=.pointer (some ⟨g,0,none⟩)∧f 5=.slice (some ⟨b0,o0,none⟩) 4 c0∧f 6=.int .i64 4∧f 7=.int .i64 (k:Nat)) 4 ?_ ?_
 · exact ⟨0,rfl,by omega,(Ext.refl _).row _,hP1,fun _ _=>rfl,rfl,rfl,rfl,rfl⟩
 · rintro z f w2 ⟨k,rfl,hk,G2,hP2,hcol,f0,f5,f6,f7⟩;rw [fold f0,fold f5,fold f6,fold f7];have r2:=r1.grown G2 (fun g' h=>by cases h;exact .inl hg0);have G02:=q0e (E1.row (some g)) G2 (fun g h=>.inl h);by_cases hk4:k < 4
   · obtain ⟨b,o,c,hq,_,_,_,hc⟩:=r2.at (k:=k) hk4;obtain ⟨rfl,rfl,rfl⟩:b0=b∧o0=o∧c0=c:=(by injection hq with a b c;injection a with a;injection a with a1 a2 _;exact ⟨a1,a2,c⟩);(refine q0b<|q0a<|Ls (q2k Y Y (by omega))<|q0c<|tn<|q0b<|q0r Y<|q0l<|tn<|q0b<|q0p<|q0b<|q0a<|m_I Y<|Ls (q0q Y Y (by omega))<|Ls (q1p (j:=k) (v:=.string (strB (Qy.name k))) Y hc (by omega) (z3t hk4))<|a_I Y<|a_R Y<|q0c<|tn<|q0b<|q0a<|m_P Y<|m_R Y ?_);refine Ls (q5p (k:=1) (u:=Qy.name k) Y Y Y) ?_;refine L_fn (z0n g s st 1 (Qy.name k) (tokX_name k) (by omega) w2 hP2) Y ?_;rintro e w3 ⟨b,rfl,G3,hb⟩;refine ⟨_,rfl,?_⟩;rcases hb with ⟨rfl,l,r,rfl,ha,hP3⟩ | ⟨rfl,hP3,hno⟩
     · have hcl:Qy.col l=.ok (k,r):=by
         rw [hcol l Y,show 4 - k=(3 - k)+1 by omega];simp only [Qy.colF,ha]
       (refine q0c<|tn<|q0r Y<|q0b<|q0a<|m_I Y<|a_I Y<|q0c<|tn<|q0s<|br<|tr<|tr<|br<|tr ?_);refine q0f Y Y (v:=.int _ _) Y ⟨k,rfl,hk4,q0e G02 G3 (fun g h=>.inl h),?_,?_⟩
       · simpa [after,hcl] using hP3
       · intro l' hl' a m ha';injection hl' with hl';subst hl';rw [hcl] at ha';injection ha' with ha';injection ha' with ha' _;exact ha'.symm
     · (refine q0c<|tn<|q0h Y<|q0l<|bn<|tn<|q0a<|Ls (q1c Y Y (by omega))<|m_I Y<|q0c<|tn ?_);refine ⟨4 - (k+1),by omega,k+1,rfl,by omega,q0e G2 G3 (fun g h=>.inl h),hP3,fun l hl=>?_,rfl,rfl,rfl,rfl⟩;rw [hcol l hl,show 4 - k=(4 - (k+1))+1 by omega];simp only [Qy.colF,hno l hl]
   · obtain rfl:k=4:=(by omega);(refine q0b<|q0a<|Ls (q1f Y Y (by omega))<|q0c<|tn<|q0b<|q0h Y<|q1d<|te<|te<|bx<|tn<|q0b<|q0a<|m_P Y ?_);refine L_fn (q6e g s st (by omega) w2 hP2) Y ?_;rintro e w3 ⟨rfl,G3,hP3⟩;refine ⟨_,rfl,?_⟩;(refine q0c<|tn<|q0b<|q0a<|a_I Y<|q0c<|tn<|q0s ?_);refine q0f Y Y (v:=.int _ _) Y ⟨0,rfl,by omega,q0e G02 G3 (fun g h=>.inl h),?_,?_⟩
     · cases st with
       | error e=>exact hP3
       | ok l=>simpa [after,unx,hcol l Y,Qy.colF] using hP3
     · intro l hl a m ha;rw [hcol l hl] at ha;simp [Qy.colF] at ha
theorem tokX_eq:TokX 3 Qy.tEq:=tokX_sym (.inl Y)
theorem tokX_dots:TokX 3 Qy.tDots:=tokX_sym (.inr Y)
theorem tokX_in:TokX 1 Qy.tIn:=q6s (by decide) (by decide) (by decide)
theorem tokX_where:TokX 1 Qy.tWhere:=q6s (by decide) (by decide) (by decide)
theorem tokX_and:TokX 1 Qy.tAnd:=q6s (by decide) (by decide) (by decide)
theorem tokX_with:TokX 1 Qy.tWith:=q6s (by decide) (by decide) (by decide)
theorem X_mkCond1 {n:NN} {f:Fr} {w:World} {d:Option Tmp} {t:TypeId} {pos:String} {af:Array Edge} {g:Option (Nat × Bool)} {x:Operand} {c:Int} (hx:ev n f x=.int .i64 c) :
   X Tryz.prog n ⟨d,.build 174 #[(0,x)],t,pos,af,g⟩ f w=.ok (.value (.agg (cndI (c,0,0)).toArray)) w:=by
 have:=q1t (P:=Tryz.prog) (ty:=174) (n:=n) (f:=f) (w:=w) (d:=d) (t:=t) (pos:=pos) (af:=af) (g:=g) (Parts.cons (i:=0) (z:=[.int .i64 0]) hx Y Y Y (Parts.nil _));simpa [cndI] using this
theorem gcond (g:Nat) (s:ByteArray) (st:PS) (hs:s.size≤100000) (w:World) (hw:Tabs w) (h:PSt w g s st) :
   Calls Tryz.prog 270 #[.pointer (some ⟨g,0,none⟩)] w fun e w'=>∃ c:Qy.Cnd,e=.returned (.agg (cndI (Qy.liC c)).toArray)∧w.grownBy w' (some g)∧PSt w' g s (after st Qy.cond)∧q2z st Qy.cond c:=by
 refine q0j Tryz.func270 Y Tryz.ntmps270 Y ?_;have hg0:=h.lt;(refine q0b<|q0a ?_);refine q0w ?_;intro g2 w1 B2 hg2 E1 hs1;(refine q0c<|tn<|q0b<|q0a<|m_P Y ?_);refine L_fn (gcolumn g s st hs w1 (h.ext E1)) Y ?_;rintro e w2 ⟨c,rfl,hc4,G2,hP2,hv2⟩;refine ⟨_,rfl,?_⟩;refine Ls (X_mkCond1 Y) ?_;refine q0w ?_;intro g3 w3 B3 hg3 E3 hs3;have hz2:=G2.size;refine q0t (size:=3) Y Y Y q4y B3 Y ?_;intro w4 B4 hg4 hs4;have C2:=((B2.grown G2 (by simp;omega)).ext E3).grown hg4 (by simp;omega);have hP4:=(hP2.ext E3).grown hg4 (by simp;omega);have G4:w.grownBy w4 (some g):=q0e (q0e (q0e (E1.row (some g)) G2 (fun g h=>.inl h)) E3 (fun _ h=>by cases h)) hg4 (fun g h=>by cases h;exact .inr (by omega));(refine q0c<|tn<|q0b<|q0a<|Ls (q0g Y)<|Ls (X_ld Y B4 Y) ?_);have hcm:=gcmax (c:Int) w4;rw [Qy.cmaxI_nat] at hcm;refine L_fv Y (hcm) ?_;intro w5 E5;have D2:=C2.ext E5;have D3:=B4.ext E5;have hP5:=hP4.ext E5;have G5:=q0e G4 E5 (fun _ h=>by cases h);have hcb:=Qy.cmax_le c;(refine a_I Y<|q0c<|tn<|q0b<|q0b<|q0a<|m_P Y ?_);refine Ls (q5p (k:=3) (u:=Qy.tEq) Y Y Y) ?_;refine L_fn (z0n g s (after st Qy.col) 3 Qy.tEq tokX_eq (by omega) w5 hP5) Y ?_;rintro e w6 ⟨b,rfl,G6,hb⟩;refine ⟨_,rfl,?_⟩;have F2:=D2.grown G6 (by simp;omega);have F3:=D3.grown G6 (by simp;omega);have G06:=q0e G5 G6 (fun g h=>.inl h);have ab:=q1j (k:=Qy.cond1) hv2;have gb:=fun {u}=>q1l (k:=Qy.cond1) (u:=u) hv2;have e0:(fun l=>Qy.bind (Qy.col l) Qy.cond1)=Qy.cond:=rfl;rw [e0] at ab;simp only [e0] at gb;rw [ab];have hw6:=h.tabs hw G06;generalize after st Qy.col=s1 at *;clear ab e0 hv2 hP2 hP4 B2 B3 B4 C2 D2 D3;rcases hb with ⟨rfl,l,r,rfl,ha,hP6⟩ | ⟨rfl,hP6,hno⟩
 · have hr:Qy.cond1 c l=Qy.bind (Qy.num 0 (Qy.cmax c) r) fun n r=>.ok ((c,n,n),r):=(by simp only [Qy.cond1,ha]);(refine q0c<|tn<|q0r Y<|q0b<|q0a<|m_P Y<|m_I Y ?_);refine L_fn (z4y g s (.ok r) 0 (Qy.cmax c) (by omega) (by omega) hs w6 hw6 hP6) Y ?_;rintro e w7 ⟨n,rfl,_,G7,hP7,hv7⟩;refine ⟨_,rfl,?_⟩;(refine Ls (q0g Y) ?_);refine q1b Y (v:=.int _ _) Y Y (F3.grown G7 (by simp;omega)) (by simp [cndI]) ?_;intro w8 B8 hg8 hs8;(refine q0c<|tn<|q0b<|q0a<|Ls (q0g Y)<|Ls (X_ld Y B8 Y)<|Ls (q0g Y) ?_);refine q1b Y (v:=.int _ _) Y Y B8 (by simp [cndI]) ?_;intro w9 B9 hg9 hs9;have hz7:=G7.size;have hz6:=G6.size;(refine q0c<|tn<|q0b<|q0a<|Ls (q2i (size:=3) Y B9 Y) ?_);refine q0t (size:=3) (l:=cndI (Qy.liC (c,n,n))) Y Y Y q4y (((F2.grown G7 (by simp;omega)).grown hg8 (by simp;omega)).grown hg9 (by simp;omega)) Y ?_;intro w10 B10 hg10 hs10;have hz5:=E5.size;(refine q0c<|tn<|q0s<|tr ?_);refine q0z Y Y (Res.cellA (cs:=cndI (Qy.liC (c,n,n))) inferInstance Y (B10.range (fun j u h=>by rw [Nat.zero_add];exact h)) Y .nil) ?_;refine ⟨(c,n,n),rfl,q0e (q0e (q0e (q0e G06 G7 (fun g h=>.inl h)) hg8 (fun g h=>by cases h;exact .inr (by omega))) hg9 (fun g h=>by cases h;exact .inr (by omega))) hg10 (fun g h=>by cases h;exact .inr (by omega)),?_,?_⟩
   · rw [q5o (m:=r) (r':=fun r=>Qy.bind (Qy.num 0 (Qy.cmax c) r) fun n r=>.ok ((c,n,n),r)) hr,q1j hv7,q3f];exact ((hP7.grown hg8 (by simp;omega)).grown hg9 (by simp;omega)).grown hg10 (by simp;omega)
   · exact gb (q5k (m:=r) (r':=fun r=>Qy.bind (Qy.num 0 (Qy.cmax c) r) fun n r=>.ok ((c,n,n),r)) hr (q1l hv7 (q3b _ _)))
 · have hr:∀ l,s1=.ok l→Qy.cond1 c l=(fun l=>Qy.bind (Qy.expect Qy.tIn l) fun _ r=>Qy.bind (Qy.num 0 (Qy.cmax c) r) fun lo r=>Qy.bind (Qy.expect Qy.tDots r) fun _ r=>Qy.bind (Qy.num lo (Qy.cmax c) r) fun hi r=>.ok ((c,lo,hi),r)) l:=fun l hl=>(by simp only [Qy.cond1,hno l hl]);have gu:∀ (st:PS) (x:List Nat),q2z st (Qy.expect x) ():=fun _ _ _ _ _ _ _=>rfl;(refine q0c<|tn<|q0h Y<|q0l<|tn<|q0b<|q0a<|m_P Y ?_);refine Ls (q5p (k:=1) (u:=Qy.tIn) Y Y Y) ?_;refine L_fn (gexpect g s s1 1 Qy.tIn tokX_in (by omega) w6 hP6) Y ?_;rintro e w7 ⟨rfl,G7,hP7⟩;refine ⟨_,rfl,?_⟩;have hw7:=hP6.tabs hw6 G7;(refine q0c<|tn<|q0b<|q0a<|m_P Y<|m_I Y ?_);refine L_fn (z4y g s _ 0 (Qy.cmax c) (by omega) (by omega) hs w7 hw7 hP7) Y ?_;rintro e w8 ⟨n,rfl,hn,G8,hP8,hv8⟩;refine ⟨_,rfl,?_⟩;have H3:=(F3.grown G7 (by simp;omega)).grown G8 (by simp;omega);have H2:=(F2.grown G7 (by simp;omega)).grown G8 (by simp;omega);have hz7:=G7.size;have hz8:=G8.size;have hz6:=G6.size;have hz5:=E5.size;(refine Ls (q0g Y) ?_);refine q1b Y (v:=.int _ _) Y Y H3 (by simp [cndI]) ?_;intro w9 B9 hg9 hs9;have hP9:=hP8.grown hg9 (by simp;omega);have H2:=H2.grown hg9 (by simp;omega);have G09:=q0e (q0e (q0e G06 G7 (fun g h=>.inl h)) G8 (fun g h=>.inl h)) hg9 (fun g h=>by cases h;exact .inr (by omega));(refine q0c<|tn<|q0b<|q0a<|m_P Y ?_);refine Ls (q5p (k:=3) (u:=Qy.tDots) Y Y Y) ?_;refine L_fn (gexpect g s _ 3 Qy.tDots tokX_dots (by omega) w9 hP9) Y ?_;rintro e w10 ⟨rfl,G10,hP10⟩;refine ⟨_,rfl,?_⟩;have G010:=q0e G09 G10 (fun g h=>.inl h);have hw10:=h.tabs hw G010;have H3:=B9.grown G10 (by simp;omega);have H2:=H2.grown G10 (by simp;omega);(refine q0c<|tn<|q0b<|q0a<|m_P Y<|Ls (q0g Y)<|Ls (X_ld Y H3 Y)<|m_I Y ?_);refine L_fn (z4y g s _ n (Qy.cmax c) hn (by omega) hs w10 hw10 hP10) Y ?_;rintro e w11 ⟨n2,rfl,_,G11,hP11,hv11⟩;refine ⟨_,rfl,?_⟩;have H3:=H3.grown G11 (by simp;omega);have H2:=H2.grown G11 (by simp;omega);(refine Ls (q0g Y) ?_);refine q1b Y (v:=.int _ _) Y Y H3 (by simp [cndI]) ?_;intro w12 B12 hg12 hs12;have hP12:=hP11.grown hg12 (by simp;omega);have H2:=H2.grown hg12 (by simp;omega);have hz10:=G10.size;have hz11:=G11.size;(refine q0c<|tn<|q0b<|q0a<|Ls (q2i (size:=3) Y B12 Y) ?_);refine q0t (size:=3) (l:=cndI (Qy.liC (c,n,n2))) Y Y Y q4y H2 Y ?_;intro w13 B13 hg13 hs13;(refine q0c<|tn<|q0s ?_);refine q0z Y Y (Res.cellA (cs:=cndI (Qy.liC (c,n,n2))) inferInstance Y (B13.range (fun j u h=>by rw [Nat.zero_add];exact h)) Y .nil) ?_;refine ⟨(c,n,n2),rfl,q0e (q0e (q0e G010 G11 (fun g h=>.inl h)) hg12 (fun g h=>by cases h;exact .inr (by omega))) hg13 (fun g h=>by cases h;exact .inr (by omega)),?_,?_⟩
   · rw [q3z hr,q1j (gu _ _),q1j hv8,q1j (gu _ _),q1j hv11,q3f];exact hP12.grown hg13 (by simp;omega)
   · exact gb (q3y hr (q1l (gu _ _) (q1l hv8 (q1l (gu _ _) (q1l hv11 (q3b _ _))))))
def Ff (k:Nat) (pre:List Qy.Cnd):List Qy.Tok→Qy.R (List Qy.Cnd):=fun m=>Qy.bind (Qy.conds (3 - k) m) fun cs r=>.ok (pre++cs,r)
theorem Ff_step {k:Nat} (hk:k < 3) (pre:List Qy.Cnd) (m:List Qy.Tok):Ff k pre m=Qy.bind (Qy.cond m) fun c r=>if k=2 then .ok (pre++[c],r) else match Qy.acc Qy.tAnd r with
   | none=>.ok (pre++[c],r)
   | some r=>Ff (k+1) (pre++[c]) r:=by
 unfold Ff;have:k=0∨k=1∨k=2:=by omega
 rcases this with rfl | rfl | rfl
 · show Qy.bind (Qy.conds 3 m) _=_;unfold Qy.conds;cases Qy.cond m with
   | error e=>rfl
   | ok p =>
     obtain ⟨c,r⟩:=p;simp only [Qy.bind];cases Qy.acc Qy.tAnd r with
     | none=>rfl
     | some r' =>
       show Qy.bind (Qy.bind (Qy.conds 2 r') _) _=Qy.bind (Qy.conds 2 r') _;cases Qy.conds 2 r' with
       | error e=>rfl
       | ok q=>obtain ⟨cs,u⟩:=q;simp [Qy.bind]
 · show Qy.bind (Qy.conds 2 m) _=_;unfold Qy.conds;cases Qy.cond m with
   | error e=>rfl
   | ok p =>
     obtain ⟨c,r⟩:=p;simp only [Qy.bind];cases Qy.acc Qy.tAnd r with
     | none=>rfl
     | some r' =>
       show Qy.bind (Qy.bind (Qy.conds 1 r') _) _=Qy.bind (Qy.conds 1 r') _;cases Qy.conds 1 r' with
       | error e=>rfl
       | ok q=>obtain ⟨cs,u⟩:=q;simp [Qy.bind]
 · show Qy.bind (Qy.conds 1 m) _=_;unfold Qy.conds;cases Qy.cond m with
   | error e=>rfl
   | ok p =>
     obtain ⟨c,r⟩:=p;simp only [Qy.bind];cases Qy.acc Qy.tAnd r <;> rfl
theorem z4c (l:List Qy.Cnd) (c:Qy.Cnd):q4k ((l++[c]).map Qy.liC)=q4k (l.map Qy.liC)++cndI (Qy.liC c):=by
 rw [List.map_append,cndsI_app];simp [q4k]
theorem gfilter (g:Nat) (s:ByteArray) (st:PS) (hs:s.size≤100000) (w:World) (hw:Tabs w) (h:PSt w g s st) :
   Calls Tryz.prog 161 #[.pointer (some ⟨g,0,none⟩)] w fun e w'=>∃ (v:Value) (l:List Qy.Cnd),e=.returned v∧w.grownBy w' (some g)∧PSt w' g s (after st Qy.filt)∧q2z st Qy.filt l∧l.length≤3 ∧
     w'.ownsRow w.heap.size 174 3 v l.length (q4k (l.map Qy.liC)):=by
 refine q0j Tryz.func161 Y Tryz.ntmps161 Y ?_;have hg0:=h.lt;(refine q0b<|q0a<|a_S Y<|q0c<|tn<|q0b<|q0a ?_);refine z0c (size:=3) ?_;intro q1 w1 E1 hs1 o1;have hP1:=h.ext E1;(refine Ls (q0m (v:=q1) Y)<|q0c<|tn<|q0b<|q0a<|m_P Y ?_);refine Ls (q1i (fi:=[.tmp 7]) (ca:=[]) Y Y) ?_;(refine Ls (q0m (v:=.func _ _ _) Y)<|q0c<|tn<|q0b<|q0b<|q0a<|Ls (q0d (v:=.func _ _ _) Y) ?_);refine Ls (q5p (k:=1) (u:=Qy.tWhere) Y Y Y) ?_;refine q4q (vl:=[.agg (tkC 1 Qy.tWhere).toArray]) Y (z0n g s st 1 Qy.tWhere tokX_where (by omega) w1 hP1) Y ?_;rintro e w2 ⟨b,rfl,G2,hb⟩;refine ⟨_,rfl,?_⟩;have G02:=q0e (E1.row (some g)) G2 (fun g h=>.inl h);have o2:=q3e o1 G2 (fun g' h=>by cases h;exact hg0);have h0:∃ σ,PSt w2 g s σ∧(b=true→after st Qy.filt=after σ (Ff 0 [])∧∀ v,q2z σ (Ff 0 []) v→q2z st Qy.filt v)∧(b=false→after st Qy.filt=σ∧q2z st Qy.filt []):=by
   have hF:∀ r,Ff 0 [] r=Qy.conds 3 r:=fun r=>by
     unfold Ff;show Qy.bind (Qy.conds 3 r) _=_;cases Qy.conds 3 r with
     | error e=>rfl
     | ok p=>obtain ⟨a,b⟩:=p;rfl
   rcases hb with ⟨rfl,l,r,rfl,ha,hP⟩ | ⟨rfl,hP,hno⟩
   · have hr:Qy.filt l=Ff 0 [] r:=(by rw [hF];unfold Qy.filt;rw [ha]);exact ⟨_,hP,fun _=>⟨q5o hr,fun v hv=>q5k hr hv⟩,fun h=>by cases h⟩
   · have hr:∀ l,st=.ok l→Qy.filt l=(fun l=>.ok ([],l)) l:=fun l hl=>(by unfold Qy.filt;rw [hno l hl]);exact ⟨_,hP,fun h=>(by cases h),fun _=>⟨by rw [q3z hr,q3f],q3y hr (q3b _ _)⟩⟩
 clear hb;obtain ⟨σ0,hP2,hT,hFa⟩:=h0;(refine a_B Y<|q0c<|tn<|q0p ?_);refine q1e (fun z f w'=>∃ (k:Nat) (pre:List Qy.Cnd) (more:Bool) (σ:PS) (v:Value),z=(if more then 1 else 0)+(3 - k)∧k=pre.length∧k≤3∧(more=true→k < 3)∧w.grownBy w' (some g)∧PSt w' g s σ∧w'.ownsRow w.heap.size 174 3 v pre.length (q4k (pre.map Qy.liC)) ∧
   (more=true→after st Qy.filt=after σ (Ff k pre)∧∀ v,q2z σ (Ff k pre) v→q2z st Qy.filt v)∧(more=false→after st Qy.filt=σ∧q2z st Qy.filt pre) ∧
   f 0=.pointer (some ⟨g,0,none⟩)∧f 3=v∧f 4=.func (.func 158) #[.pointer (some ⟨g,0,none⟩)] #[]∧f 5=.bool more) ((if b then 1 else 0)+3) ?_ ?_
 · exact ⟨0,[],b,σ0,q1,by cases b <;> rfl,rfl,by omega,fun _=>by omega,G02,hP2,o2,hT,hFa,rfl,rfl,rfl,rfl⟩
 · clear hT hFa o1 o2 hP1 hP2 G02 G2 E1;rintro z f w3 ⟨k,pre,more,σ,v,rfl,hkl,hk3,hmk,G3,hP3,o3,hT,hFa,f0,f3,f4,f5⟩;rw [fold f0,fold f3,fold f4,fold f5];cases more with
   | false =>
     obtain ⟨ha,hg⟩:=hFa rfl;(refine q0b<|q0b<|q0a<|m_B Y<|q0c<|tn<|q0h Y<|q1d<|te<|te<|bx<|tn<|q0b<|q0a<|Ls (q0d (v:=v) Y)<|Ls (q0m (v:=v) Y)<|q0c<|tn<|q0s ?_);refine q0f Y Y (v:=v) Y ⟨v,pre,rfl,G3,by rw [ha];exact hP3,hg,by omega,o3⟩
   | true =>
     obtain ⟨ha,hg⟩:=hT rfl;have hk:=hmk Y;have hw3:=h.tabs hw G3;(refine q0b<|q0b<|q0a<|m_B Y<|q0c<|tn<|q0r Y<|q0l<|tn<|q0b<|q0p<|q0a<|Ls (q0d (v:=v) Y)<|m_P Y ?_);refine L_fn (gcond g s σ hs w3 hw3 hP3) Y ?_;rintro e w4 ⟨c,rfl,G4,hP4,hv4⟩;refine ⟨_,rfl,?_⟩;have hz3:=G3.size;have hz4:=G4.size;have o4:=q3e o3 G4 (fun g' h=>by cases h;exact hg0);have hP4g:=hP4.lt;refine q8k (zs':=[cndI (Qy.liC c)]) (cs:=cndI (Qy.liC c)) (Parts.cons (c:=cndI (Qy.liC c)) (z:=[.int .i64 0,.int .i64 0,.int .i64 0]) Y Y Y Y (Parts.nil _)) Y (by simp) Y Y ?_;intro q5 w5 r5 E5 hs5 _ _;refine q1u (v:=v) (u:=q5) Y Y (q1g o4 E5) r5 q4y (by omega) (by omega) (by omega) ?_;intro v6 w6 o6 hg6 _;have hvb:∀ g',v.ownBlock=some g'→w.heap.size≤g':=fun g' h=>(o3.lt g' h).1;have hP6:=(hP4.ext E5).grown hg6 (fun e=>by have:=hvb g e;omega);have G6:w.grownBy w6 (some g):=q0e (q0e (q0e G3 G4 (fun g h=>.inl h)) E5 (fun _ h=>by cases h)) hg6 (fun g' h=>.inr (hvb g' h));have hlen:(pre++[c]).length=pre.length+1:=(by simp);rw [← z4c,← hlen] at o6;have hst:∀ l,σ=.ok l→Ff k pre l=(fun l=>Qy.bind (Qy.cond l) fun c r=>if k=2 then .ok (pre++[c],r) else match Qy.acc Qy.tAnd r with
       | none=>.ok (pre++[c],r)
       | some r=>Ff (k+1) (pre++[c]) r) l:=fun l _=>Ff_step hk pre l
     rw [q3z hst,q1j hv4] at ha;have hg':∀ v,q2z (after σ Qy.cond) (fun r=>if k=2 then .ok (pre++[c],r) else match Qy.acc Qy.tAnd r with
       | none=>.ok (pre++[c],r)
       | some r=>Ff (k+1) (pre++[c]) r) v→q2z st Qy.filt v:=fun v hv=>hg v (q3y hst (q1l hv4 hv))
     generalize after σ Qy.cond=σ4 at *;clear hg hst hv4 hP3 hP4 o3 o4 r5;obtain ⟨_,A6,c6,rfl,_⟩:=Row.of_own o6;by_cases hk2:k=2
     · have hr:∀ l,σ4=.ok l→(if k=2 then Except.ok (pre++[c],l) else match Qy.acc Qy.tAnd l with
         | none=>.ok (pre++[c],l)
         | some r=>Ff (k+1) (pre++[c]) r:Qy.R (List Qy.Cnd))=(fun l=>.ok (pre++[c],l)) l:=fun l _=>if_pos hk2
       rw [q3z hr,q3f] at ha;(refine a_S Y<|q0c<|bn<|tn<|q0a<|m_S Y<|Ls (q0i Y)<|Ls (q1f Y Y (by omega))<|m_B Y<|Lo2 Y Y Y Y<|Lo2 Y Y Y Y<|Lo2 Y Y Y Y<|Ls (q0k (v:=.bool _) Y Y)<|a_B Y<|q0c<|tn ?_);exact ⟨_,by simp;omega,k+1,pre++[c],false,σ4,_,rfl,by simp;omega,by omega,fun h=>(by cases h),G6,hP6,o6,fun h=>(by cases h),fun _=>⟨ha,hg' _ (q3y hr (q3b _ _))⟩,rfl,rfl,rfl,rfl⟩
     · (refine a_S Y<|q0c<|bn<|tn<|q0a<|m_S Y<|Ls (q0i Y)<|Ls (q2k Y Y (by omega))<|m_B Y<|Lg2 Y Y Y (q0d (v:=.func _ _ _) Y) ?_);refine q1n Y Y Y ?_;refine Ls (q5p (k:=1) (u:=Qy.tAnd) Y Y Y) ?_;refine q1n Y Y Y ?_;refine q4q (vl:=[.agg (tkC 1 Qy.tAnd).toArray]) Y (z0n g s σ4 1 Qy.tAnd tokX_and (by omega) w6 hP6) Y ?_;rintro e w7 ⟨b,rfl,G7,hb⟩;refine ⟨_,rfl,?_⟩;have G07:=q0e G6 G7 (fun g h=>.inl h);have o7:=q3e o6 G7 (fun g' h=>by cases h;exact hg0);rcases hb with ⟨rfl,l,r,rfl,hac,hP7⟩ | ⟨rfl,hP7,hno⟩
       · have hr:(if k=2 then Except.ok (pre++[c],l) else match Qy.acc Qy.tAnd l with
           | none=>.ok (pre++[c],l)
           | some r=>Ff (k+1) (pre++[c]) r:Qy.R (List Qy.Cnd))=Ff (k+1) (pre++[c]) r:=by rw [if_neg hk2,hac]
         (refine Ls (q0o (v:=.bool _) Y Y)<|a_B Y<|q0c<|tn ?_);refine ⟨_,by simp;omega,k+1,pre++[c],true,.ok r,_,rfl,by simp;omega,by omega,fun _=>by omega,G07,hP7,o7,fun _=>⟨ha.trans (q5o hr),fun v hv=>hg' v (q5k hr hv)⟩,fun h=>(by cases h),rfl,rfl,rfl,rfl⟩
       · have hr:∀ l,σ4=.ok l→(if k=2 then Except.ok (pre++[c],l) else match Qy.acc Qy.tAnd l with
           | none=>.ok (pre++[c],l)
           | some r=>Ff (k+1) (pre++[c]) r:Qy.R (List Qy.Cnd))=(fun l=>.ok (pre++[c],l)) l:=fun l hl=>by rw [if_neg hk2,hno l hl]
         rw [q3z hr,q3f] at ha;(refine Ls (q0o (v:=.bool _) Y Y)<|a_B Y<|q0c<|tn ?_);exact ⟨_,by simp;omega,k+1,pre++[c],false,σ4,_,rfl,by simp;omega,by omega,fun h=>(by cases h),G07,hP7,o7,fun h=>(by cases h),fun _=>⟨ha,hg' _ (q3y hr (q3b _ _))⟩,rfl,rfl,rfl,rfl⟩
theorem keyword_len' (k:Nat):(Qy.keyword k).length≤1000:=by have:=Qy.keyword_len k;omega
theorem tokX_kw {k:Nat} (h1:1≤k) (h7:k≤7):TokX 1 (Qy.keyword k):=q6s (Qy.keyword_ne h1 h7) (Qy.keyword_lo k) (keyword_len' k)
theorem q7u.grown {w0 w w':World} {v:Value} {g:Nat} (h:q7u w0 v w) (hG:w.grownBy w' (some g)) (hg:g < w0.heap.size):q7u w0 v w':=by
 obtain ⟨b,h1,h2,h3⟩:=h;exact ⟨b,h1,h2,h3.kept hG (fun e=>by injection e with e;omega)⟩
theorem q7u.ext {w0 w w':World} {v:Value} (h:q7u w0 v w) (E:Ext w w'):q7u w0 v w':=by
 obtain ⟨b,h1,h2,h3⟩:=h;exact ⟨b,h1,h2,h3.ext E⟩
theorem q6d (w:World) (base:Nat) (e:TypeId) (size:Nat):w.ownsRow base e size (.slice none 0 0) 0 []:=⟨by simp,.inl ⟨rfl,rfl⟩⟩
theorem X_mkQ {n:NN} {f:Fr} {w:World} {d:Option Tmp} {t:TypeId} {pos:String} {af:Array Edge} {g:Option (Nat × Bool)} {x:Operand} {k:Int} (hx:ev n f x=.int .i64 k) :
   X Tryz.prog n ⟨d,.build 32 #[(0,x)],t,pos,af,g⟩ f w=.ok (.value (.agg (qC k 0 0 (.slice none 0 0)).toArray)) w:=by
 have:=q1t (P:=Tryz.prog) (ty:=32) (n:=n) (f:=f) (w:=w) (d:=d) (t:=t) (pos:=pos) (af:=af) (g:=g) (Parts.cons (i:=0) (z:=[.int .i64 0]) hx Y Y Y (Parts.nil _));simpa [qC] using this
theorem q9z {n:NN} {f:Fr} {w:World} {d:Option Tmp} {t:TypeId} {pos:String} {af:Array Edge} {g:Option (Nat × Bool)} :
   X Tryz.prog n ⟨d,.build 32 #[],t,pos,af,g⟩ f w=.ok (.value (.agg (qC 0 0 0 (.slice none 0 0)).toArray)) w:=by
 have:=q1t (P:=Tryz.prog) (ty:=32) (n:=n) (f:=f) (w:=w) (d:=d) (t:=t) (pos:=pos) (af:=af) (g:=g) (Parts.nil _);simpa [qC] using this
def S1 (k:Nat):List Qy.Tok→Qy.R Nat:=fun l=>bif Qy.hasCol k then Qy.col l else .ok (0,l)
def S2 (k:Nat):List Qy.Tok→Qy.R Nat:=fun l=>bif Nat.ble 1 (Qy.maxK k) then Qy.num 1 (Qy.maxK k) l else .ok (0,l)
theorem z5i (k:Nat):Qy.body k=fun l=>Qy.bind (S1 k l) fun c r=>Qy.bind (S2 k r) fun n r=>Qy.bind (Qy.fils k r) fun fs r=>.ok (⟨k,c,n,fs⟩,r):=rfl
theorem q8p (st:PS) (x:List Nat):q2z st (Qy.expect x) ():=fun _ _ _ _ _=>rfl
theorem fils1 {k:Nat} (hk:k ≠ 7):Qy.fils k=fun l=>Qy.bind (Qy.filt l) fun a r=>.ok ([a],r):=by
 funext l;unfold Qy.fils;have:(k == 7)=false:=by simp [hk]
 simp only [this,cond_false]
theorem fils7:Qy.fils 7=fun l=>Qy.bind (Qy.filt l) fun a r=>Qy.bind (Qy.expect Qy.tWith r) fun _ r=>Qy.bind (Qy.filt r) fun b r=>.ok ([a,b],r):=rfl
theorem q2v {w:World} {base size m:Nat} {e:TypeId} {v:Value} {xs:List Value} (h:w.ownsRow base e size v m xs):v.oneCell'=true:=by
 obtain ⟨_,_,_,rfl,_⟩:=Row.of_own h;rfl
def filC (l:List (List Qy.Cnd)):List (List Qy.CndI):=l.map fun l=>l.map Qy.liC
def qry (q:Qy.Q) (v:Value):List Value:=qC (q.kind:Nat) (q.col:Nat) (q.k:Nat) v
theorem gquery (g:Nat) (s:ByteArray) (st:PS) (hs:s.size≤100000) (w:World) (hw:Tabs w) (h:PSt w g s st) :
   Calls Tryz.prog 85 #[.pointer (some ⟨g,0,none⟩)] w fun e w'=>∃ (v:Value) (q:Qy.Q),e=.returned (.agg (qry q v).toArray)∧w.grownBy w' (some g)∧PSt w' g s (after st Qy.query)∧q2z st Qy.query q ∧
     q5g w' w.heap.size w'.heap.size v (filC q.fs):=by
 refine q0j Tryz.func85 Y Tryz.ntmps85 Y ?_;have hg0:=h.lt;(refine q0b<|q0a ?_);refine q0w ?_;intro g2 w1 B2 hg2 E1 hs1;(refine q0c<|tn<|q0b<|q0a ?_);refine L_fo Y (gforms w1) ?_;rintro u w2 ⟨E2,b,rfl,hb,M2⟩;have hF2:q7u w1 (.map (some b)) w2:=⟨b,rfl,hb,M2⟩;have hz2:=E2.size;(refine Ls (q0m (v:=.map _) Y)<|q0c<|tn<|q0b<|q0b<|q0a<|a_I Y<|q0c<|tn<|q0p ?_);refine q1e (fun z f w'=>∃ k,z=8 - k∧1≤k∧k≤8∧w.grownBy w' (some g)∧PSt w' g s st∧(∀ l,st=.ok l→Qy.query l=Qy.queryF (8 - k) k l)∧q7u w1 (.map (some b)) w'∧Blk w' g2 32 (qC 0 0 0 (.slice none 0 0)) ∧
   f 0=.pointer (some ⟨g,0,none⟩)∧f 2=.pointer (some ⟨g2,0,none⟩)∧f 3=.map (some b)∧f 4=.int .i64 (k:Nat)) 7 ?_ ?_
 · exact ⟨1,rfl,by omega,by omega,(E1.trans E2).row _,h.ext (E1.trans E2),fun _ _=>rfl,hF2,B2.ext E2,rfl,rfl,rfl,rfl⟩
 · clear hF2 M2 B2;rintro z f w3 ⟨k,rfl,h1,h8,G3,P3,hq,F3,C2,f0,f2,f3,f4⟩;rw [fold f0,fold f2,fold f3,fold f4];by_cases h7:k≤7
   · have hfm:(q5m (k:Int)).getD (.agg formZ.toArray)=.agg (q5e k).toArray:=(by rw [z3z h1 h7];rfl);have hcm:Qy.maxK k≤65536:=Qy.maxK_le k;(refine q0b<|q0b<|q0a<|m_I Y<|Ls (q4r Y Y (by omega))<|q0c<|tn<|q0r Y<|q0l<|tn<|q0b<|q0p<|q0b<|q0a<|Ls (q0d (v:=.map _) Y)<|m_I Y ?_);refine Ls (form_look1 F3 Y Y (z3m (by omega)) hfm) ?_;refine q0w ?_;intro g5 w4 B5 hg5 E4 hs4;refine q0t (size:=4) (l:=q5e k) Y Y Y (z4a k) B5 Y ?_;intro w5 C5 hg5' hs5;have hz3:=G3.size;have G5:w.grownBy w5 (some g):=q0e (q0e G3 E4 (fun _ h=>by cases h)) hg5' (fun g h=>by cases h;exact .inr (by omega));have P5:=(P3.ext E4).grown hg5' (by simp;omega);have D2:=(C2.ext E4).grown hg5' (by simp;have:=C2.lt;omega);have hlt2:=C2.lt;have F5:q7u w1 (.map (some b)) w5:=by
       obtain ⟨b',e1,e2,e3⟩:=F3.ext E4;have hl3:b' < w3.heap.size:=(by obtain ⟨b3,e4,_,e5⟩:=F3;cases e1;cases e4;exact e5.lt);exact ⟨b',e1,e2,e3.kept hg5' (fun e=>by injection e with e;omega)⟩
     (refine q0c<|tn<|q0b<|q0b<|q0a<|m_P Y<|Ls (q0g Y)<|Ls (X_ld Y C5 Y) ?_);refine Ls (q5p (k:=1) (u:=Qy.keyword k) Y Y Y) ?_;refine L_fn (z0n g s st 1 (Qy.keyword k) (tokX_kw h1 h7) (by omega) w5 P5) Y ?_;rintro e w6 ⟨b1,rfl,G6,hb1⟩;refine ⟨_,rfl,?_⟩;have G06:=q0e G5 G6 (fun g h=>.inl h);have E2':=D2.grown G6 (by simp;omega);have E5:=C5.grown G6 (by simp;omega);have hz6:=G6.size;rcases hb1 with ⟨rfl,l,r,rfl,ha,P6⟩ | ⟨rfl,P6,hno⟩
     · have hql:Qy.query l=Qy.body k r:=by
         rw [hq l Y,show 8 - k=(7 - k)+1 by omega];simp only [Qy.queryF,ha]
       (refine Ls (q1o Y)<|q0c<|tn<|q0h Y<|q0l<|tn<|q0b<|q0a<|m_I Y ?_);refine Ls (X_mkQ Y) ?_;refine q0w ?_;intro g6 w7 B6 hg6 E7 hs7;refine q0t (size:=4) (l:=qC (k:Nat) 0 0 (.slice none 0 0)) Y Y Y (q3i Y) B6 Y ?_;intro w8 C6 hg6' hs8;have G8:w.grownBy w8 (some g):=q0e (q0e G06 E7 (fun _ h=>by cases h)) hg6' (fun g h=>by cases h;exact .inr (by omega));have P8:=(P6.ext E7).grown hg6' (by simp;omega);have H2:=(E2'.ext E7).grown hg6' (by simp;omega);have H5:=(E5.ext E7).grown hg6' (by simp;omega);have hw8:=h.tabs hw G8;have hlt2:=H2.lt;(refine q0c<|tn<|q0b<|q0b<|q0a<|Ls (q0g Y)<|Ls (X_ld Y H5 Y)<|q0c<|tn ?_);refine q6p (Q:=fun e f w'=>e=.normal∧∃ (c:Nat) (σ:PS),w.grownBy w' (some g)∧PSt w' g s σ∧after (.ok r) (S1 k)=σ∧q2z (.ok r) (S1 k) c∧Blk w' g6 32 (qC (k:Nat) (c:Nat) 0 (.slice none 0 0))∧Blk w' g2 32 (qC 0 0 0 (.slice none 0 0))∧Blk w' g5 216 (q5e k)∧w8.heap.size≤w'.heap.size ∧
         f 0=.pointer (some ⟨g,0,none⟩)∧f 2=.pointer (some ⟨g2,0,none⟩)∧f 5=.pointer (some ⟨g5,0,none⟩)∧f 6=.pointer (some ⟨g6,0,none⟩)) ?_ ?_
       · cases hh:Qy.hasCol k
         · have e1:S1 k=fun l=>.ok (0,l):=(by funext l;unfold S1;rw [hh];rfl);(refine q0h Y<|q0l ?_);exact ⟨rfl,0,.ok r,G8,P8,by rw [e1];rfl,by rw [e1];exact q3b _ _,C6,H2,H5,Nat.le_refl _,rfl,rfl,rfl,rfl⟩
         · have e1:S1 k=Qy.col:=(by funext l;unfold S1;rw [hh];rfl);(refine q0r Y<|q0a<|m_P Y ?_);refine L_fn (gcolumn g s (.ok r) hs w8 P8) Y ?_;rintro e w9 ⟨c,rfl,_,G9,P9,v9⟩;refine ⟨_,rfl,?_⟩;have hz9:=G9.size;(refine Ls (q0g Y) ?_);refine q1b Y (v:=.int _ _) Y Y (C6.grown G9 (by simp;omega)) (by simp [qC]) ?_;intro w10 B10 hg10 hs10;(refine q0c ?_);exact ⟨rfl,c,_,q0e (q0e G8 G9 (fun g h=>.inl h)) hg10 (fun g h=>by cases h;exact .inr (by omega)),P9.grown hg10 (by simp;omega),by rw [e1],by rw [e1];exact v9,B10,(H2.grown G9 (by simp;omega)).grown hg10 (by simp;omega),(H5.grown G9 (by simp;omega)).grown hg10 (by simp;omega),by omega,rfl,rfl,rfl,rfl⟩
       clear C6 H2 H5 P8 G8 hw8;rintro e f w9 ⟨rfl,c,σ1,G9,P9,a1,v1,C9,H2,H5,hz9,f0,f2,f5,f6⟩;rw [fold f0,fold f2,fold f5,fold f6];have hw9:=h.tabs hw G9;(refine tn<|q0b<|q0b<|q0a<|Ls (q0g Y)<|Ls (X_ld Y H5 Y)<|Ls (z3e Y Y)<|q0c<|tn ?_);refine q6p (Q:=fun e f w'=>e=.normal∧∃ (n:Nat) (σ:PS),w.grownBy w' (some g)∧PSt w' g s σ∧after σ1 (S2 k)=σ∧q2z σ1 (S2 k) n∧Blk w' g6 32 (qC (k:Nat) (c:Nat) (n:Nat) (.slice none 0 0))∧Blk w' g2 32 (qC 0 0 0 (.slice none 0 0))∧Blk w' g5 216 (q5e k)∧w8.heap.size≤w'.heap.size ∧
         f 0=.pointer (some ⟨g,0,none⟩)∧f 2=.pointer (some ⟨g2,0,none⟩)∧f 5=.pointer (some ⟨g5,0,none⟩)∧f 6=.pointer (some ⟨g6,0,none⟩)) ?_ ?_
       · by_cases hh:0 < Qy.maxK k
         · have e1:S2 k=Qy.num 1 (Qy.maxK k):=(by funext l;unfold S2;rw [Nat.ble_eq_true_of_le hh];rfl);refine q0x Y (fun _=>?_) (fun hn=>(hn (by omega)).elim);(refine q0a<|m_P Y<|Ls (q0g Y)<|Ls (X_ld Y H5 Y) ?_);refine L_fn (z4y g s σ1 1 (Qy.maxK k) (by omega) hcm hs w9 hw9 P9) Y ?_;rintro e w10 ⟨n,rfl,_,G10,P10,v10⟩;refine ⟨_,rfl,?_⟩;have hz10:=G10.size;(refine Ls (q0g Y) ?_);refine q1b Y (v:=.int _ _) Y Y (C9.grown G10 (by simp;omega)) (by simp [qC]) ?_;intro w11 B11 hg11 hs11;(refine q0c ?_);exact ⟨rfl,n,_,q0e (q0e G9 G10 (fun g h=>.inl h)) hg11 (fun g h=>by cases h;exact .inr (by omega)),P10.grown hg11 (by simp;omega),by rw [e1],by rw [e1];exact v10,B11,(H2.grown G10 (by simp;omega)).grown hg11 (by simp;omega),(H5.grown G10 (by simp;omega)).grown hg11 (by simp;omega),by omega,rfl,rfl,rfl,rfl⟩
         · have hb0:Nat.ble 1 (Qy.maxK k)=false:=by
             cases hb:Nat.ble 1 (Qy.maxK k)
             · rfl
             · exact (hh (Nat.le_of_ble_eq_true hb)).elim
           have e1:S2 k=fun l=>.ok (0,l):=(by funext l;unfold S2;rw [hb0];rfl);refine q0x Y (fun hn=>(hh (by omega)).elim) (fun _=>?_);(refine q0l ?_);exact ⟨rfl,0,σ1,G9,P9,by rw [e1];exact q3f _ _,by rw [e1];exact q3b _ _,C9,H2,H5,hz9,rfl,rfl,rfl,rfl⟩
       clear C9 H2 H5 P9 G9 hw9 f0 f2 f5 f6 hz9;rintro e f w10 ⟨rfl,n,σ2,G10,P10,a2,v2,C10,H2,H5,hz10,f0,f2,f5,f6⟩;rw [fold f0,fold f2,fold f5,fold f6];have hw10:=h.tabs hw G10;(refine tn<|q0b ?_);apply z3f 3 g (fun w'=>PSt w' g s (σ2)) 5 (by kernel_rfl) (P10.ext (Ext.drew _)) (fun _ _ E h=>h.ext E);(apply DW_x (fun r w hA hH=>(q0g Y).trans Y);apply DW_x (fun r w hA hH=>(X_ld Y (C10.grown hA.g (by simp;omega)) Y).trans Y);apply DW_x (fun r w hA hH=>(q0d (v:=.pointer _) Y).trans Y));((with_reducible apply DW_fr (F:=fun v w'=>∃ l:List Qy.Cnd,w'.ownsRow w10.heap.size 174 3 v l.length (q4k (l.map Qy.liC))∧PSt w' g s (after (σ2) Qy.filt)∧q2z (σ2) Qy.filt l∧l.length≤3));(exact fun _=>rfl);(exact fun r w hA hH=>(gfilter g s _ hs w (P10.tabs hw10 hA.g) (hA.pre (.inl Y))).mono fun e w' ⟨v,l,he,hG,hP,hv,hl,ho⟩=>⟨v,he,.inr ⟨rfl,hG⟩,l,q2f ho hA.g.size,hP,hv,hl⟩);(exact fun i u w w' hi ht hR h=>(by obtain ⟨l,h1,h2,h3⟩:=h;exact ⟨l,q1g h1 (hR.other hi),h2.ext (hR.other hi),h3⟩)))
       apply DW_d (F:=fun r u w=>RowF w10 1 u 1 [r 3] w) (fun r w hA hH=>by
         obtain ⟨l,h1,_⟩:=hH 3 rfl
         exact ⟨_,_,z3d Y (q2v h1),q1k _ _,RowF.lit w _ [r 3] hA.g.size 1 Y (by decide)⟩) (fun i r u w w' hi ht hR h=>hR.elim (fun E=>RowF.ext E h) (fun ⟨e,_⟩=>by subst e;exact Bool.noConfusion (ht:true=false))) (fun _ _=>rfl)
       ((with_reducible exact q2c);(exact rfl);(repeat (first | exact .inr (.inr (fun _ _=>by with_reducible rfl)) | (refine And.intro ?_ ?_) | exact .inr (.inl rfl) | exact .inl (by decide +kernel) | exact trivial | exact .inr (.inr (fun _ _=>rfl))));(try dsimp only [Nat.reduceAdd]));intro r3 w11 G11 H3;obtain ⟨l1,o1,P11,vl1,hl1⟩:=H3 3;obtain ⟨lo4,hi4,hlo4,r4⟩:RowF w10 1 (r3 4) 1 [r3 3] w11:=H3 4;have hc1:=q2v o1;have R1:Row w11 w10.heap.size w11.heap.size 3 (r3 3) l1.length (q4k (l1.map Qy.liC)):=Row.of_own o1;generalize r3 3=u1 at *;generalize r3 4=q4 at *;clear H3 o1;have hz11:=G11.size;have G011:=q0e G10 G11 (fun g h=>.inl h);refine q1u (v:=.slice none 0 0) (u:=q4) Y Y (q6d w11 w11.heap.size _ 1) r4 (by simpa using hc1) (by omega) (by omega) (Nat.le_refl _) ?_;intro v12 w12 o12 hg12 _;have E12:Ext w11 w12:=hg12;have hz12:=E12.size;have C12:=(C10.grown G11 (by simp;omega)).ext E12;have hl6:=C12.lt;have hlt6:g6 < w10.heap.size:=C10.lt;have hvc:=q2v o12;(refine Ls (q0g Y) ?_);refine q1b Y (v:=v12) Y hvc C12 (by simp [qC]) ?_;intro w13 B13 hg13 hs13;have G13:w.grownBy w13 (some g):=q0e (q0e G011 E12 (fun _ h=>by cases h)) hg13 (fun g h=>by cases h;exact .inr (by omega));have P13:=(P11.ext E12).grown hg13 (by simp;omega);have H2:=((H2.grown G11 (by simp;omega)).ext E12).grown hg13 (by simp;omega);have H5:=((H5.grown G11 (by simp;omega)).ext E12).grown hg13 (by simp;omega);have R13:=(R1.ext E12).grown hg13 (fun g' h=>by cases h;exact .inl hlt6);have o13:=q3e o12 hg13 (fun g' h=>by cases h;omega);have hql':after (.ok l) Qy.query=after (.ok r) (Qy.body k):=q5o hql;have hqv:∀ q,q2z (.ok r) (Qy.body k) q→q2z (.ok l) Qy.query q:=fun q hq=>q5k hql hq;rw [hql',z5i,q1j v1,a1,q1j v2,a2]
       have hqv':∀ fs,q2z σ2 (Qy.fils k) fs→q2z (.ok l) Qy.query ⟨k,c,n,fs⟩:=fun fs hf=>hqv _ (by
         rw [z5i]
         exact q1l v1 (by rw [a1];exact q1l v2 (by rw [a2];exact q1l hf (q3b _ _))))
       (refine q0c<|tn<|q0b<|q0b<|q0a<|Ls (q0g Y)<|Ls (X_ld Y H5 Y)<|Ls (z1i Y Y)<|q0c<|tn ?_);refine q0x Y (fun hk7=>?_) (fun hk7=>?_)
       · obtain rfl:k=7:=by
           apply Classical.byContradiction;intro hne;have:Qy.nfil k=1:=by
             unfold Qy.nfil;have e:(k == 7)=false:=(by simp [hne]);rw [e];rfl
           omega
         have hw13:=h.tabs hw G13;(refine q0b<|q0a<|m_P Y ?_);refine Ls (q5p (k:=1) (u:=Qy.tWith) Y Y Y) ?_;refine L_fn (gexpect g s _ 1 Qy.tWith tokX_with (by omega) w13 P13) Y ?_;rintro e w14 ⟨rfl,G14,P14⟩;refine ⟨_,rfl,?_⟩;have G014:=q0e G13 G14 (fun g h=>.inl h);have hw14:=h.tabs hw G014;have hz14:=G14.size;have C14:=B13.grown G14 (by simp;omega);have H2:=H2.grown G14 (by simp;omega);have R14:=R13.grown G14 (fun g' h=>by cases h;exact .inl (by omega));have o14:=q3e o13 G14 (fun g' h=>by cases h;omega);(refine q0c<|tn ?_);apply z3f 3 g (fun w'=>PSt w' g s (after (after σ2 Qy.filt) (Qy.expect Qy.tWith))) 5 (by kernel_rfl) (P14.ext (Ext.drew _)) (fun _ _ E h=>h.ext E);(apply DW_x (fun r w hA hH=>(q0g Y).trans Y);apply DW_x (fun r w hA hH=>(X_ld (v:=v12) Y (C14.grown hA.g (by simp;omega)) Y).trans Y);apply DW_x (fun r w hA hH=>(q0d (v:=.pointer _) Y).trans Y));((with_reducible apply DW_fr (F:=fun v w'=>∃ l:List Qy.Cnd,w'.ownsRow w14.heap.size 174 3 v l.length (q4k (l.map Qy.liC))∧PSt w' g s (after (after (after σ2 Qy.filt) (Qy.expect Qy.tWith)) Qy.filt)∧q2z (after (after σ2 Qy.filt) (Qy.expect Qy.tWith)) Qy.filt l∧l.length≤3));(exact fun _=>rfl);(exact fun r w hA hH=>(gfilter g s _ hs w (P14.tabs hw14 hA.g) (hA.pre (.inl Y))).mono fun e w' ⟨v,l,he,hG,hP,hv,hl,ho⟩=>⟨v,he,.inr ⟨rfl,hG⟩,l,q2f ho hA.g.size,hP,hv,hl⟩);(exact fun i u w w' hi ht hR h=>(by obtain ⟨l,h1,h2,h3⟩:=h;exact ⟨l,q1g h1 (hR.other hi),h2.ext (hR.other hi),h3⟩)))
         apply DW_d (F:=fun r u w=>RowF w14 1 u 1 [r 3] w) (fun r w hA hH=>by
           obtain ⟨l,h1,_⟩:=hH 3 rfl
           exact ⟨_,_,z3d Y (q2v h1),q1k _ _,RowF.lit w _ [r 3] hA.g.size 1 Y (by decide)⟩) (fun i r u w w' hi ht hR h=>hR.elim (fun E=>RowF.ext E h) (fun ⟨e,_⟩=>by subst e;exact Bool.noConfusion (ht:true=false))) (fun _ _=>rfl)
         ((with_reducible exact q2c);(exact rfl);(repeat (first | exact .inr (.inr (fun _ _=>by with_reducible rfl)) | (refine And.intro ?_ ?_) | exact .inr (.inl rfl) | exact .inl (by decide +kernel) | exact trivial | exact .inr (.inr (fun _ _=>rfl))));(try dsimp only [Nat.reduceAdd]));intro r5 w15 G15 H5';obtain ⟨l2,o2,P15,vl2,hl2⟩:=H5' 3;obtain ⟨lo6,hi6,hlo6,r6⟩:RowF w14 1 (r5 4) 1 [r5 3] w15:=H5' 4;have hc2:=q2v o2;have S15:Row w15 w14.heap.size w15.heap.size 3 (r5 3) l2.length (q4k (l2.map Qy.liC)):=Row.of_own o2;generalize r5 3=u2 at *;generalize r5 4=q6 at *;clear H5' o2;have hz15:=G15.size;have G015:=q0e G014 G15 (fun g h=>.inl h);have R15:=R14.grown G15 (fun g' h=>by cases h;exact .inl (by omega));have o15:=q3e o14 G15 (fun g' h=>by cases h;omega);have hvl:∀ g',v12.ownBlock=some g'→w11.heap.size≤g'∧g' < w13.heap.size:=fun g' hg=>⟨(o13.lt g' hg).1,own_row_lt o13 g' hg⟩;refine q1u (v:=v12) (u:=q6) Y Y o15 r6 (by simpa using hc2) (by omega) (by omega) (by omega) ?_;intro v16 w16 o16 hg16 _;have hz16:=hg16.size;have R16:=R15.grown hg16 (fun g' h=>.inr (by have:=hvl g' h;omega));have S16:=S15.grown hg16 (fun g' h=>.inl (by have:=hvl g' h;omega));have hne6:∀ g',v12.ownBlock=some g'→g' ≠ g6:=fun g' h=>(by have:=hvl g' h;omega);have hne2:∀ g',v12.ownBlock=some g'→g' ≠ g2:=fun g' h=>(by have:=hvl g' h;omega);have hneg:∀ g',v12.ownBlock=some g'→g' ≠ g:=fun g' h=>(by have:=hvl g' h;omega);have C16:=(C14.grown G15 (by simp;omega)).grown hg16 (fun e=>hne6 g6 e Y);have H2:=(H2.grown G15 (by simp;omega)).grown hg16 (fun e=>hne2 g2 e Y);have P16:=P15.grown hg16 (fun e=>hneg g e Y);have G016:=q0e G015 hg16 (fun g' h=>.inr (by have:=hvl g' h;omega));have hvc16:=q2v o16;(refine Ls (q0g Y) ?_);refine q1b Y (v:=v16) Y hvc16 C16 (by simp [qC]) ?_;intro w17 B17 hg17 hs17;have H2:=H2.grown hg17 (by simp;omega);have P17:=P16.grown hg17 (by simp;omega);(refine q0c<|tn<|q0b<|q0a<|Ls (q2i (size:=4) Y B17 Y) ?_);refine q0t (size:=4) (l:=qC ((7:Nat):Int) (c:Nat) (n:Nat) v16) Y Y Y (q3i hvc16) H2 Y ?_;intro w18 B18 hg18 hs18;(refine q0c<|tn<|q0s<|br<|tr<|tr<|br<|tr ?_);have hg1:q2z σ2 (Qy.fils 7) [l1,l2]:=by
           rw [fils7];exact q1l vl1 (q1l (q8p _ _) (q1l vl2 (q3b _ _)))
         refine q0z Y Y (Res.cellA (cs:=qry ⟨7,c,n,[l1,l2]⟩ v16) inferInstance Y (B18.range (fun j u h=>by rw [Nat.zero_add];exact h)) Y .nil) ?_;refine ⟨v16,⟨7,c,n,[l1,l2]⟩,rfl,q0e (q0e G016 hg17 (fun g h=>by cases h;exact .inr (by omega))) hg18 (fun g h=>by cases h;exact .inr (by omega)),?_,hqv' _ hg1,[u1,u2],rfl,?_,fun i u f hu hf=>?_⟩
         · rw [q1j hg1,q3f,fils7,q1j vl1,q1j (q8p _ _),q1j vl2,q3f];exact P17.grown hg18 (by simp;omega)
         · exact (Row.of_own (q3e (q3e o16 hg17 (fun g' h=>by cases h;omega)) hg18 (fun g' h=>by cases h;omega))).wide (by omega) (by omega)
         · match i,hu,hf with
           | 0,hu,hf =>
             simp at hu;subst hu;simp [filC] at hf;subst hf;rw [List.length_map];exact ((R16.grown hg17 (fun g' h=>by cases h;exact .inl (by omega))).grown hg18 (fun g' h=>by cases h;exact .inl (by omega))).wide (by omega) (by omega)
           | 1,hu,hf =>
             simp at hu;subst hu;simp [filC] at hf;subst hf;rw [List.length_map];exact ((S16.grown hg17 (fun g' h=>by cases h;exact .inl (by omega))).grown hg18 (fun g' h=>by cases h;exact .inl (by omega))).wide (by omega) (by omega)
           | i+2,hu,hf=>simp at hu
       · have hk7':k ≠ 7:=by
           rintro rfl;exact hk7 Y
         (refine q0l<|tn<|q0b<|q0a<|Ls (q2i (size:=4) Y B13 Y) ?_);refine q0t (size:=4) (l:=qC (k:Nat) (c:Nat) (n:Nat) v12) Y Y Y (q3i hvc) H2 Y ?_;intro w14 B14 hg14 hs14;(refine q0c<|tn<|q0s<|br<|tr<|tr<|br<|tr ?_);have hg1:q2z σ2 (Qy.fils k) [l1]:=(by rw [fils1 hk7'];exact q1l vl1 (q3b _ _));refine q0z Y Y (Res.cellA (cs:=qry ⟨k,c,n,[l1]⟩ v12) inferInstance Y (B14.range (fun j u h=>by rw [Nat.zero_add];exact h)) Y .nil) ?_;refine ⟨v12,⟨k,c,n,[l1]⟩,rfl,q0e G13 hg14 (fun g h=>by cases h;exact .inr (by omega)),?_,hqv' _ hg1,[u1],rfl,?_,fun i u f hu hf=>?_⟩
         · rw [q1j hg1,q3f,fils1 hk7',q1j vl1,q3f];exact P13.grown hg14 (by simp;omega)
         · exact (Row.of_own (q3e o13 hg14 (fun g' h=>by cases h;omega))).wide (by omega) (by omega)
         · cases i with
           | succ i=>simp at hu
           | zero =>
             simp at hu;subst hu;simp [filC] at hf;subst hf;rw [List.length_map];exact (R13.grown hg14 (fun g' h=>by cases h;exact .inl (by omega))).wide (by omega) (by omega)
     · (refine Ls (q1o Y)<|q0c<|tn<|q0r Y<|q1d<|te<|bx<|tn<|q0a<|m_I Y<|Ls (q1c Y Y (by omega))<|a_I Y<|q0c<|tn ?_);refine ⟨8 - (k+1),by omega,k+1,rfl,by omega,by omega,G06,P6,fun l hl=>?_,F5.grown G6 (by omega),E2',rfl,rfl,rfl,rfl⟩;rw [hq l hl,show 8 - k=(8 - (k+1))+1 by omega];simp only [Qy.queryF,hno l hl]
   · obtain rfl:k=8:=(by omega);(refine q0b<|q0b<|q0a<|m_I Y<|Ls (q6h Y Y (by omega))<|q0c<|tn<|q0h Y<|q1d<|te<|te<|bx<|tn<|q0b<|q0a<|m_P Y ?_);refine L_fn (q6e g s st (by omega) w3 P3) Y ?_;rintro e w4 ⟨rfl,G4,P4⟩;refine ⟨_,rfl,?_⟩;have D2:=C2.grown G4 (by simp;omega);have hz3:=G3.size;have hz4:=G4.size;have hlt2:=C2.lt;(refine q0c<|tn<|q0b<|q0a ?_);refine Ls q9z ?_;refine q0t (size:=4) (l:=qC 0 0 0 (.slice none 0 0)) Y Y Y (q3i Y) D2 Y ?_;intro w5 B5 hg5 hs5;(refine q0c<|tn<|q0s ?_);refine q0z Y Y (Res.cellA (cs:=qry Qy.q0 (.slice none 0 0)) inferInstance Y (B5.range (fun j u h=>by rw [Nat.zero_add];exact h)) Y .nil) ?_;refine ⟨_,Qy.q0,rfl,q0e (q0e G3 G4 (fun g h=>.inl h)) hg5 (fun g h=>by cases h;exact .inr (by omega)),?_,?_,[],rfl,Row.nil _ _ _ _,fun i u f hu hf=>by simp at hu⟩
     · have:=P4.grown hg5 (by simp;omega);cases st with
       | error e=>exact this
       | ok l=>simpa [after,unx,hq l Y,Qy.queryF] using this
     · intro l hl a m ha;rw [hq l hl] at ha;simp [Qy.queryF] at ha
theorem X_mkP {n:NN} {f:Fr} {w:World} {d:Option Tmp} {t:TypeId} {pos:String} {af:Array Edge} {g:Option (Nat × Bool)} {x:Operand} {s:ByteArray} (hx:ev n f x=.string s) :
   X Tryz.prog n ⟨d,.build 185 #[(0,x)],t,pos,af,g⟩ f w=.ok (.value (.agg (pC s 0 0 0).toArray)) w:=by
 have:=q1t (P:=Tryz.prog) (ty:=185) (n:=n) (f:=f) (w:=w) (d:=d) (t:=t) (pos:=pos) (af:=af) (g:=g) (Parts.cons (i:=0) (z:=[.string ByteArray.empty]) hx Y Y Y (Parts.nil _));simpa [pC] using this
def parV (p:Qy.Q × Nat × Nat) (v:Value):Value:=.tuple #[.agg (qry p.1 v).toArray,.int .i64 (p.2.1:Nat),.int .i64 (p.2.2:Nat)]
theorem z3y (s:ByteArray) (hs:s.size≤100000) (w:World) (hw:Tabs w) :
   Calls Tryz.prog 36 #[.string s] w fun e w'=>∃ v:Value,e=.returned (parV (Qy.parse (sb s)) v)∧Ext w w'∧q5g w' w.heap.size w'.heap.size v (filC (Qy.parse (sb s)).1.fs):=by
 refine q0j Tryz.func36 Y Tryz.ntmps36 Y ?_;(refine q0b<|q0a ?_);refine q0w ?_;intro g2 w1 B2 hg2 E1 hs1;by_cases hbig:400 < s.size
 · have hp:Qy.parse (sb s)=(Qy.q0,0,2):=Qy.parse_big (by rw [q3u];exact hbig);rw [hp];(refine a_I Y<|a_I Y<|q0c<|tn<|q0b<|q0b<|q0a<|m_R Y<|Ls (q2d Y)<|Ls (q3l Y Y (by omega))<|q0c<|tn<|q0r Y<|q0b<|q0a ?_);refine Ls q9z ?_;refine q0t (size:=4) (l:=qC 0 0 0 (.slice none 0 0)) Y Y Y (q3i Y) B2 Y ?_;intro w2 C2 hg2' hs2;(refine a_I Y<|a_I Y<|q0c<|tn<|q0s<|tr ?_);refine q0z Y Y (Res.cellA (cs:=qry Qy.q0 (.slice none 0 0)) inferInstance Y (C2.range (fun j u h=>by rw [Nat.zero_add];exact h)) Y (Res.tmp Y (Res.tmp Y .nil))) ?_;exact ⟨_,rfl,E1.then hg2' (fun g h=>by cases h;omega),[],rfl,Row.nil _ _ _ _,fun i u f hu hf=>by simp at hu⟩
 · have hb:Nat.blt 400 (sb s).length=false:=Qy.blt_no (by rw [q3u];omega);(refine a_I Y<|a_I Y<|q0c<|tn<|q0b<|q0b<|q0a<|m_R Y<|Ls (q2d Y)<|Ls (q1q Y Y (by omega))<|q0c<|tn<|q0h Y<|q0l<|tn<|q0b<|q0a<|m_R Y ?_);refine Ls (X_mkP Y) ?_;refine q2s (l:=pC s 0 0 0) Y ?_;intro g5 w2 B5 hg5 E2 hs2;have P2:PSt w2 g5 s (.ok (Qy.toks (sb s) 0)):=⟨0,0,0,by omega,B5,rfl,rfl,rfl⟩;have hw2:=(hw.ext E1).ext E2;(refine a_P Y<|q0c<|tn<|q0b<|q0a<|m_P Y ?_);refine L_fn (gquery g5 s _ hs w2 hw2 P2) Y ?_;rintro e w3 ⟨v,q,rfl,G3,P3,hv3,F3⟩;refine ⟨_,rfl,?_⟩;have hz3:=G3.size;have hvc:=F3.cell;refine q0w ?_;intro g6 w4 B6 hg6 E4 hs4;refine q0t (size:=4) (l:=qry q v) Y Y Y (q3i hvc) B6 Y ?_;intro w5 C6 hg6' hs5;have C2:=(((B2.ext E2).grown G3 (by simp;omega)).ext E4).grown hg6' (by simp;omega);have P5:=(P3.ext E4).grown hg6' (by simp;omega);have F5:=(F3.ext E4).grown hg6' (fun g' h=>by cases h;omega);have G5:w2.grownBy w5 (some g5):=q0e (q0e G3 E4 (fun _ h=>by cases h)) hg6' (fun g h=>by cases h;exact .inr (by omega));clear P3 F3 B6 B2 B5 P2
   -- what the run comes to
   have hrun:∀ m,after (.ok (Qy.toks (sb s) 0)) Qy.query=.ok m→Qy.parse (sb s)=match Qy.fin q m with
       | .ok (q,_)=>(q,0,0)
       | .error (o,e)=>(Qy.q0,o,e):=fun m hm=>by
     unfold Qy.parse;rw [hb];simp only [cond_false];simp only [after] at hm;cases hq:Qy.query (Qy.toks (sb s) 0) with
     | error e=>rw [hq] at hm;cases hm
     | ok p =>
       obtain ⟨a,l⟩:=p;obtain rfl:=hv3 _ rfl a l hq;rw [hq] at hm;injection hm with hm;subst hm;rfl
   have herr:∀ e,after (.ok (Qy.toks (sb s) 0)) Qy.query=.error e→Qy.parse (sb s)=(Qy.q0,e.1,e.2):=fun e he=>by
     unfold Qy.parse;rw [hb];simp only [cond_false];simp only [after] at he;cases hq:Qy.query (Qy.toks (sb s) 0) with
     | error e'=>rw [hq] at he;injection he with he;subst he;rfl
     | ok p=>rw [hq] at he;cases he
   generalize after (.ok (Qy.toks (sb s) 0)) Qy.query=σ at *;clear hv3;cases σ with
   | error e =>
     have hp:=herr e Y;obtain ⟨pos,off,err,hpl,D5,h1,h2,h3⟩:=P5;have he0:¬ err=0:=(by omega);(refine q0c<|tn<|q0b<|q0b<|q0a<|m_P Y<|Ls (q1m Y)<|Ls (q0g Y)<|Ls (X_ld Y D5 Y)<|Ls (q2g Y Y (by omega))<|m_B Y<|Lo2 Y Y Y Y<|Lo2 Y Y Y Y<|Lo2 Y Y Y Y<|Lo2 Y Y Y Y<|Ls (q0k (v:=.bool _) Y Y)<|q0c<|tn<|q0h Y<|q0l<|tn<|q0b<|q0b<|q0a<|m_P Y<|Ls (q1m Y)<|Ls (q0g Y)<|Ls (X_ld Y D5 Y)<|Ls (q2t Y Y (by omega))<|q0c<|tn<|q0r Y<|q0b ?_);apply z0b (R:=RB g2 32 (qC 0 0 0 (.slice none 0 0)) (qC 0 0 0 (.slice none 0 0))) (AB g2 32 (qC 0 0 0 (.slice none 0 0)) (qC 0 0 0 (.slice none 0 0)) w5) 12 (by kernel_rfl) (RB.refl _ _ _ _) (AB.new C2) AB.step;((with_reducible apply DW_x);(exact fun r w hA hH=>(q9z).trans Y));(apply DW_x (fun r w hA hH=>(q0d (v:=.pointer _) Y).trans Y);apply DW_x (fun r w hA hH=>(q1m Y).trans Y);apply DW_x (fun r w hA hH=>(q0g Y).trans Y);apply DW_x (fun r w hA hH=>(X_ld Y (D5.grown hA.1 (by simp;omega)) Y).trans Y);apply DW_x (fun r w hA hH=>(q0d (v:=.pointer _) Y).trans Y);apply DW_x (fun r w hA hH=>(q1m Y).trans Y);apply DW_x (fun r w hA hH=>(q0g Y).trans Y);apply DW_x (fun r w hA hH=>(X_ld Y (D5.grown hA.1 (by simp;omega)) Y).trans Y));apply z0e (fun _=>rfl) (fun _=>rfl) Y Y (q3i Y);(apply DW_x (fun r w hA hH=>(q0m (v:=.int _ _) Y).trans Y);apply DW_x (fun r w hA hH=>(q0m (v:=.int _ _) Y).trans Y));((with_reducible exact q2c);(exact rfl);(repeat (first | exact .inr (.inr (fun _ _=>by with_reducible rfl)) | (refine And.intro ?_ ?_) | exact .inr (.inl rfl) | exact .inl (by decide +kernel) | exact trivial | exact .inr (.inr (fun _ _=>rfl))));(try dsimp only [Nat.reduceAdd]));intro r w6 A6 H6;have B6:Blk w6 g2 32 (qC 0 0 0 (.slice none 0 0)):=H6 9;(refine q0c<|tn<|q0s<|tr ?_);rw [hp];refine q0z Y Y (Res.cellA (cs:=qry Qy.q0 (.slice none 0 0)) inferInstance Y (B6.range (fun j u h=>by rw [Nat.zero_add];exact h)) Y (Res.tmp Y (Res.tmp Y .nil))) ?_;rw [← h1,← h2];exact ⟨_,rfl,((E1.trans E2).then G5 (fun g h=>by cases h;omega)).then A6.1 (fun g h=>by cases h;omega),[],rfl,Row.nil _ _ _ _,fun i u f hu hf=>by simp at hu⟩
   | ok m =>
     have hp:=hrun m Y;obtain ⟨pos,off,err,hpl,D5,rfl,rfl,ht⟩:=P5;obtain ⟨hta,r0,hl⟩:=z4i ht;have hkinds:=Qy.scan_kinds ((sb s).drop pos) pos;have htb:=tok_b (l:=(sb s).drop pos) (fun c hc=>sb_lt s c (List.mem_of_mem_drop hc)) pos;have htl:(Qy.scan ((sb s).drop pos) pos).text.length≤s.size:=by
       have:=Qy.scan_fits ((sb s).drop pos) pos;rw [List.length_drop,q3u] at this;omega
     have hpk:=gpeek g5 s pos 0 0 hpl (by omega) w5 D5;have hp':=pos_ws hpl;obtain ⟨t,hT⟩:∃ t,t=Qy.scan ((sb s).drop pos) pos:=⟨_,rfl⟩;obtain ⟨p',hpe⟩:∃ p',p'=pos+Qy.ws ((sb s).drop pos):=⟨_,rfl⟩;simp only [← hT,← hpe] at hpk hkinds htb htl hl hp' hta;clear hT hpe;have hkk:t.kind < 256:=(by rcases hkinds with ⟨k,_⟩ | ⟨k,_⟩ | ⟨k,_⟩ | ⟨k,_⟩ | ⟨k,_⟩ <;> omega);have hk0:t.kind=0→t.text=[]:=fun h=>(by rcases hkinds with ⟨_,t,_⟩ | ⟨k,_⟩ | ⟨k,_⟩ | ⟨k,_⟩ | ⟨k,_⟩ <;> first | exact t | omega);obtain ⟨z,hz'⟩:∃ z:Bool,z=true↔¬ (t.kind=0∧t.text=[]):=⟨decide (¬ (t.kind=0∧t.text=[])),decide_eq_true_iff⟩;have hgl:g5 < w5.heap.size:=D5.lt;(refine q0c<|tn<|q0b<|q0b<|q0a<|m_P Y<|Ls (q1m Y)<|Ls (q0g Y)<|Ls (X_ld Y D5 Y)<|Ls (q2j Y Y (by omega))<|m_B Y<|Lg2 Y Y Y (q0d (v:=.pointer _) Y) ?_);refine q1n Y Y Y ?_;refine L_fn hpk Y ?_;rintro e w6 ⟨rfl,G6,D6⟩;refine ⟨_,rfl,?_⟩;have hz6:=G6.size;refine q1n Y Y Y ?_;refine Ls (z5n (k:=0) Y) ?_;refine q1n Y Y Y ?_;refine Ls (X_neqTok hkk (by decide) (by omega) (by decide) htb (by decide) Y Y hz') ?_;have P6:PSt w6 g5 s (.ok m):=⟨p',0,0,hp',D6,rfl,rfl,hta⟩;have C2':=C2.grown G6 (by simp;omega);have C6':=C6.grown G6 (by simp;omega);have F6:=F5.grown G6 (fun g' h=>by cases h;exact .inl (by omega));have G06:=q0e G5 G6 (fun g h=>.inl h);subst hl;by_cases hk:t.kind=0
     · obtain rfl:z=false:=by
         cases z
         · rfl
         · exact absurd ⟨hk,hk0 hk⟩ (hz'.1 Y)
       have hfin:Qy.parse (sb s)=(q,0,0):=(by rw [hp];simp [Qy.fin,hk]);rw [hfin];(refine Ls (q0o (v:=.bool _) Y Y)<|q0c<|tn<|q0h Y<|q0l<|tn<|q0b<|q0b<|q0a<|m_P Y<|Ls (q1m Y)<|Ls (q0g Y)<|Ls (X_ld Y D6 Y)<|Ls (q2e Y Y (by omega))<|q0c<|tn<|q0h Y<|q0l<|tn<|q0b<|q0a<|Ls (q2i (size:=4) Y C6' Y) ?_);refine q0t (size:=4) (l:=qry q v) Y Y Y (q3i hvc) C2' Y ?_;intro w7 B7 hg7 hs7;(refine a_I Y<|a_I Y<|q0c<|tn<|q0s ?_);refine q0z Y Y (Res.cellA (cs:=qry q v) inferInstance Y (B7.range (fun j u h=>by rw [Nat.zero_add];exact h)) Y (Res.tmp Y (Res.tmp Y .nil))) ?_;exact ⟨v,rfl,((E1.trans E2).then G06 (fun g h=>by cases h;omega)).then hg7 (fun g h=>by cases h;omega),(F6.grown hg7 (fun g' h=>by cases h;exact .inl (by omega))).wide (by omega) (by omega)⟩
     · obtain rfl:z=true:=hz'.2 fun h=>hk h.1;have hfin:Qy.parse (sb s)=(Qy.q0,(Qy.unexp (t :: r0)).1,(Qy.unexp (t :: r0)).2):=by
         rw [hp];have:(t.kind == 0)=false:=(by simp [hk]);simp [Qy.fin,this]
       rw [hfin];(refine Ls (q0o (v:=.bool _) Y Y)<|q0c<|tn<|q0r Y<|q0a<|m_P Y ?_);refine L_fn (q6e g5 s _ (by omega) w6 P6) Y ?_;rintro e w7 ⟨rfl,G7,P7⟩;refine ⟨_,rfl,?_⟩;obtain ⟨pos7,off7,err7,_,D7,h1,h2,h3⟩:=P7;have he0:¬ err7=0:=(by rw [h2];exact h3);have C7:=C2'.grown G7 (by simp;omega);have hz7:=G7.size;(refine q0c<|tn<|q0b<|q0b<|q0a<|m_P Y<|Ls (q1m Y)<|Ls (q0g Y)<|Ls (X_ld Y D7 Y)<|Ls (q2t Y Y (by omega))<|q0c<|tn<|q0r Y<|q0b ?_);apply z0b (R:=RB g2 32 (qC 0 0 0 (.slice none 0 0)) (qC 0 0 0 (.slice none 0 0))) (AB g2 32 (qC 0 0 0 (.slice none 0 0)) (qC 0 0 0 (.slice none 0 0)) w7) 12 (by kernel_rfl) (RB.refl _ _ _ _) (AB.new C7) AB.step;((with_reducible apply DW_x);(exact fun r w hA hH=>(q9z).trans Y));(apply DW_x (fun r w hA hH=>(q0d (v:=.pointer _) Y).trans Y);apply DW_x (fun r w hA hH=>(q1m Y).trans Y);apply DW_x (fun r w hA hH=>(q0g Y).trans Y);apply DW_x (fun r w hA hH=>(X_ld Y (D7.grown hA.1 (by simp;omega)) Y).trans Y);apply DW_x (fun r w hA hH=>(q0d (v:=.pointer _) Y).trans Y);apply DW_x (fun r w hA hH=>(q1m Y).trans Y);apply DW_x (fun r w hA hH=>(q0g Y).trans Y);apply DW_x (fun r w hA hH=>(X_ld Y (D7.grown hA.1 (by simp;omega)) Y).trans Y));apply z0e (fun _=>rfl) (fun _=>rfl) Y Y (q3i Y);(apply DW_x (fun r w hA hH=>(q0m (v:=.int _ _) Y).trans Y);apply DW_x (fun r w hA hH=>(q0m (v:=.int _ _) Y).trans Y));((with_reducible exact q2c);(exact rfl);(repeat (first | exact .inr (.inr (fun _ _=>by with_reducible rfl)) | (refine And.intro ?_ ?_) | exact .inr (.inl rfl) | exact .inl (by decide +kernel) | exact trivial | exact .inr (.inr (fun _ _=>rfl))));(try dsimp only [Nat.reduceAdd]));intro r w8 A8 H8;have B8:Blk w8 g2 32 (qC 0 0 0 (.slice none 0 0)):=H8 9;(refine q0c<|tn<|q0s<|tr ?_);refine q0z Y Y (Res.cellA (cs:=qry Qy.q0 (.slice none 0 0)) inferInstance Y (B8.range (fun j u h=>by rw [Nat.zero_add];exact h)) Y (Res.tmp Y (Res.tmp Y .nil))) ?_;rw [← h1,← h2];exact ⟨_,rfl,(((E1.trans E2).then G06 (fun g h=>by cases h;omega)).then G7 (fun g h=>by cases h;omega)).then A8.1 (fun g h=>by cases h;omega),[],rfl,Row.nil _ _ _ _,fun i u f hu hf=>by simp at hu⟩
def wid (a:Nat):Nat:=if a=0 then 4 else if a=1 then 8 else if a=2 then 4 else 8
structure Wd (w:World):Prop where
 h:∃ b es clk,w.cell? ⟨0,0,none⟩=some (.map (some b))∧w.heap[b]?=some (.map es clk)∧∀ a:Nat,a < 4→∀ w':World,w'.heap[b]?=some (.map es clk)→(Instr.lookup 294 (.map (some b)) (.int .i64 (a:Nat)) false).run Tryz.prog w'=.ok (.int .i64 (wid a:Nat)) w'
theorem Wd.ext {w w':World} (h:Wd w) (E:Ext w w'):Wd w':=by
 obtain ⟨b,es,clk,h1,h2,h3⟩:=h;exact ⟨b,es,clk,E.cell h1,E.heap h2,h3⟩
theorem X_lk {P:Program} {n:NN} {f:Fr} {w:World} {d:Option Tmp} {t ty:TypeId} {pos:String} {af:Array Edge} {g:Option (Nat × Bool)} {x y:Operand} {m k v:Value} (h:(Instr.lookup ty m k false).run P w=.ok v w) (hx:ev n f x=m) (hy:ev n f y=k) :
   X P n ⟨d,.lookup ty x y false,t,pos,af,g⟩ f w=.ok (.value v) w:=by
 simp [X,execOp,hx,hy,h,Result.andThen]
theorem gbits (a:Nat) (ha:a < 4) (w:World) (hw:Wd w):Calls Tryz.prog 90 #[.int .i64 (a:Nat)] w fun e w'=>e=.returned (.int .i64 (wid a:Nat))∧Ext w w':=by
 refine q0j Tryz.func90 Y Tryz.ntmps90 Y ?_;obtain ⟨b,es,clk,h1,h2,h3⟩:=hw;have hl:=h3 a ha w h2;(refine q0b<|q0a<|a_I Y<|q0c<|tn<|q0b<|q0a<|Ls (z0u Y h1)<|m_I Y ?_);refine Ls (X_lk hl Y Y) ?_;(refine a_I Y<|q0c<|tn<|q0s ?_);exact q0f Y Y (v:=.int .i64 _) Y ⟨rfl,Ext.refl w⟩
theorem shlw {a:Nat} (ha:a < 4):IntKind.i64.wrap (1 * 2 ^ min ((wid a:Nat):Int).toNat IntKind.i64.bits)=((2 ^ wid a:Nat):Int):=by
 match a,ha with
 | 0,_=>decide
 | 1,_=>decide
 | 2,_=>decide
 | 3,_=>decide
theorem widle {a:Nat} (ha:a < 4):16≤2 ^ wid a∧2 ^ wid a≤256:=by
 match a,ha with
 | 0,_=>decide
 | 1,_=>decide
 | 2,_=>decide
 | 3,_=>decide
def spV (a:Nat):List Value:=[.int .i64 0,.int .i64 (((2 ^ wid a:Nat):Int) - 1)]
theorem gunder (a:Nat) (ha:a < 4) (A:Option Addr) (c:Nat) (w:World) (hw:Wd w):Calls Tryz.prog 278 #[.slice A 0 c,.int .i64 (a:Nat)] w fun e w'=>e=.returned (.agg (spV a).toArray)∧Ext w w':=by
 refine q0j Tryz.func278 Y Tryz.ntmps278 Y ?_;have hb:=widle ha;have he:=shlw ha;(refine q0b<|q0a ?_);refine q0w ?_;intro g4 w4 B4 hg4 E4 hs4;(refine q0c<|tn<|q0b<|q0a<|m_I Y ?_);refine L_fn (gbits a ha w4 (hw.ext E4)) Y ?_;rintro e w5 ⟨rfl,E5⟩;refine ⟨_,rfl,?_⟩;refine Ls (v:=.int .i64 ((2 ^ wid a:Nat):Int)) ((q7v Y Y (by omega)).trans (by rw [he])) ?_;(refine Ls (q4h Y Y (by omega)) ?_);refine Ls (q1t (r:=[(0,.const (.int .i64 0)),(1,.tmp 11)]) (zs':=[[.int .i64 0],[.int .i64 (((2 ^ wid a:Nat):Int) - 1)]]) (Parts.cons (c:=[.int .i64 0]) (z:=[.int .i64 0]) Y Y Y Y (Parts.cons (c:=[.int .i64 (((2 ^ wid a:Nat):Int) - 1)]) (z:=[.int .i64 0]) Y Y Y Y (Parts.nil _)))) ?_;refine q0w ?_;intro g6 w6 B6 hg6 E6 hs6;refine q0t (l:=spV a) Y Y Y ?_ B6 Y ?_
 · intro v hv;simp [spV] at hv;rcases hv with rfl | rfl <;> rfl
 intro w7 B7 hg7 hs7;have B47:=((B4.ext E5).ext E6).grown hg7 (by intro h;cases h;have:=E5.size;omega);(refine q0c<|tn<|q0b<|q0b<|q0a<|m_S Y<|Ls (q0i Y)<|m_I Y<|q0c<|tn<|q0p ?_);refine q1e (fun q f w'=>f 4=.pointer (some ⟨g4,0,none⟩)∧f 5=.pointer (some ⟨g6,0,none⟩)∧f 14=.int .i64 0∧f 15=.int .i64 0∧w'=w7) 0 ⟨rfl,rfl,rfl,rfl,rfl⟩ ?_;rintro q f w8 ⟨f4,f5,f14,f15,rfl⟩;rw [fold f4,fold f5,fold f14,fold f15];(refine q0b<|q0a<|Ls (q1f Y Y (by omega))<|q0c<|tn<|q0b<|q0h Y<|q1d<|te<|te<|bx<|tn<|q0b<|q0a<|Ls (q2i Y B7 Y) ?_);refine q0t (l:=spV a) Y Y Y ?_ B47 Y ?_
 · intro v hv;simp [spV] at hv;rcases hv with rfl | rfl <;> rfl
 intro w9 B9 hg9 hs9;(refine q0c<|tn<|q0s ?_);refine q0z Y Y (Res.cellA inferInstance Y (B9.range (o:=0) (fun j u h=>by rw [Nat.zero_add];exact h)) Y .nil) ?_;have h4s:=E4.size;have h5s:=E5.size;have h6s:=E6.size;exact ⟨rfl,((E4.trans (E5.trans E6)).then hg7 fun q h=>by cases h;omega).then hg9 fun q h=>by cases h;omega⟩
theorem gsat1 (a:Nat) (ha:a < 4) (A:Option Addr) (c g:Nat) (w:World) (hw:Wd w) (hB:Blk w g 94 [.slice A 0 c]):Calls Tryz.prog 351 #[.int .i64 (a:Nat),.pointer (some ⟨g,0,none⟩)] w fun e w'=>e=.returned (.bool false)∧Ext w w':=by
 refine q0j Tryz.func351 Y Tryz.ntmps351 Y ?_;have hb:=widle ha;(refine q0b<|q0a<|a_B Y<|q0c<|tn<|q0b<|q0a<|Ls (X_ld Y hB Y)<|m_I Y ?_);refine L_fn (gunder a ha A c w hw) Y ?_;rintro e w5 ⟨rfl,E5⟩;refine ⟨_,rfl,?_⟩;refine q0w ?_;intro g6 w6 B6 hg6 E6 hs6;refine q0t (l:=spV a) Y Y Y ?_ B6 Y ?_
 · intro v hv;simp [spV] at hv;rcases hv with rfl | rfl <;> rfl
 intro w7 B7 hg7 hs7;(refine q0c<|tn<|q0b<|q0a<|Ls (q0g Y)<|Ls (X_ld Y B7 Y)<|Ls (q0g Y)<|Ls (X_ld Y B7 Y)<|Ls (q1q Y Y (by omega))<|a_B Y<|q0c<|tn<|q0s ?_);have h5s:=E5.size;have h6s:=E6.size;exact q0f Y Y (v:=.bool _) Y ⟨rfl,(E5.trans E6).then hg7 fun q h=>by cases h;omega⟩
theorem gidxf (A:Option Addr) (c g gs:Nat) (w:World) (hw:Wd w) (hB:Blk w g 94 [.slice A 0 c]) (hs:Blk w gs 3 (ints .i64 [0,1,2,3])):Calls Tryz.prog 423 #[.slice (some ⟨gs,0,none⟩) 4 4,.func (.func 351) #[] #[.pointer (some ⟨g,0,none⟩)]] w fun e w'=>e=.returned (.int .i64 (-1))∧Ext w w':=by
 refine q0j Tryz.func423 Y Tryz.ntmps423 Y ?_;(refine q0b<|q0a<|a_I Y<|q0c<|tn<|q0b<|q0b<|q0a<|m_S Y<|Ls (q0i Y)<|m_I Y<|q0c<|tn<|q0p ?_);refine q1e (fun q f w'=>∃ i:Nat,q=4 - i∧i≤4∧f 0=.slice (some ⟨gs,0,none⟩) 4 4∧f 1=.func (.func 351) #[] #[.pointer (some ⟨g,0,none⟩)]∧f 7=.int .i64 4∧f 8=.int .i64 (i:Nat)∧Ext w w') 4 ?_ ?_
 · exact ⟨0,rfl,by omega,rfl,rfl,rfl,rfl,Ext.refl w⟩
 · rintro q f w1 ⟨i,rfl,hi,f0,f1,f7,f8,E⟩;rw [fold f0,fold f1,fold f7,fold f8];(refine q0b<|q0a<|Ls (q2h Y Y)<|q0c<|tn<|q0b ?_);refine q0x Y (fun h=>?_) (fun h=>?_)
   · have hi':i < 4:=(by omega);have hix:(ints .i64 [0,1,2,3])[i]?=some (.int .i64 (i:Nat)):=by
       match i,hi' with
       | 0,_=>rfl
       | 1,_=>rfl
       | 2,_=>rfl
       | 3,_=>rfl
     (refine q0l<|tn<|q0b<|q0p<|q0b<|q0a<|m_I Y<|a_I Y<|q0c<|tn<|q0b<|q0a<|Ls (q0d (v:=.func _ _ _) Y)<|m_S Y<|m_I Y<|Ls (q0q Y Y (by omega))<|Ls (q1p Y ((hs.ext E).range (o:=0) fun j u h=>by rw [Nat.zero_add];exact h) (j:=i) (by omega) hix) ?_);refine q4q (vl:=[.int .i64 (i:Nat)]) Y (gsat1 i hi' A c g w1 (hw.ext E) (hB.ext E)) Y ?_;rintro e w2 ⟨rfl,E2⟩;refine ⟨_,rfl,?_⟩;(refine q0c<|tn<|q0h Y<|q0l<|bn<|tn<|q0a<|Ls (q1c Y Y (by omega))<|m_I Y<|q0c<|tn ?_);exact ⟨4 - (i+1),by omega,i+1,rfl,by omega,rfl,rfl,rfl,rfl,E.trans E2⟩
   · (refine q1d<|te<|te<|bx<|tn<|q0b<|q0a<|a_I Y<|q0c<|tn<|q0s ?_);exact q0f Y Y (v:=.int .i64 _) Y ⟨rfl,E⟩
theorem gconf (A:Option Addr) (c g gs:Nat) (w:World) (hw:Wd w) (hB:Blk w g 94 [.slice A 0 c]) (hs:Blk w gs 3 (ints .i64 [0,1,2,3])):Calls Tryz.prog 350 #[.slice (some ⟨gs,0,none⟩) 4 4,.func (.func 351) #[] #[.pointer (some ⟨g,0,none⟩)]] w fun e w'=>e=.returned (.bool false)∧Ext w w':=by
 refine q0j Tryz.func350 Y Tryz.ntmps350 Y ?_;(refine q0b<|q0a<|a_B Y<|q0c<|tn<|q0b<|q0a<|m_S Y<|Ls (q0d (v:=.func _ _ _) Y) ?_);refine L_fn (gidxf A c g gs w hw hB hs) Y ?_;rintro e w2 ⟨rfl,E2⟩;refine ⟨_,rfl,?_⟩;(refine Ls (q5a Y Y (by omega))<|a_B Y<|q0c<|tn<|q0s ?_);exact q0f Y Y (v:=.bool _) Y ⟨rfl,E2⟩
theorem gsatis (A:Option Addr) (c:Nat) (w:World) (hw:Wd w):Calls Tryz.prog 276 #[.slice A 0 c] w fun e w'=>e=.returned (.bool true)∧Ext w w':=by
 refine q0j Tryz.func276 Y Tryz.ntmps276 Y ?_;(refine q0b<|q0a ?_);refine q8m (v:=.slice A 0 c) Y Y ?_;intro g1 w1 B1 hg1 E1 hs1;(refine a_B Y<|q0c<|tn<|q0b<|q0a ?_);refine Ls (z0a (z:=[.int .i64 0]) (zs':=[[.int .i64 0],[.int .i64 1],[.int .i64 2],[.int .i64 3]]) (cs:=ints .i64 [0,1,2,3]) (len:=4) ?_ Y Y) ?_
 · repeat (first | exact Parts.nil _ | refine Parts.cons Y Y Y Y ?_)
 have E7:Ext w1 (w1.alloc (.cells (ints .i64 [0,1,2,3]).toArray 3)):=q1k _ _;have B7:Blk (w1.alloc (.cells (ints .i64 [0,1,2,3]).toArray 3)) w1.heap.size 3 (ints .i64 [0,1,2,3]):=Blk.new _ _ _;generalize w1.alloc (.cells (ints .i64 [0,1,2,3]).toArray 3)=w7 at *;generalize w1.heap.size=g7 at *;refine Ls (q1i (vf:=[]) (vc:=[.pointer (some ⟨g1,0,none⟩)]) Y Y) ?_;refine L_fn (gconf A c g1 g7 w7 (hw.ext (E1.trans E7)) (B1.ext E7) B7) Y ?_;rintro e w2 ⟨rfl,E2⟩;refine ⟨_,rfl,?_⟩;(refine Ls (q1o Y)<|a_B Y<|q0c<|tn<|q0s ?_);exact q0f Y Y (v:=.bool _) Y ⟨rfl,E1.trans (E7.trans E2)⟩
end Go.Proofs.YtlcnkadkbcoadaaGreatDoor
