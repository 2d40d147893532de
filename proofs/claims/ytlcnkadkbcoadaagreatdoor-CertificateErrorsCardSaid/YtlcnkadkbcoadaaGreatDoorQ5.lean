/- WC, WD, WE, WN, WF, WG, VT, WH, WI, WM, WL, WO, UZ, SH, R7, R8, R9, RA, S1, S2, S3, S4, S5, S6, S7, TP, KT, RB, RC, S8, QN, UA, UB, UC. -/
import Derived.Test.YtlcnkadkbcoadaaGreatDoorQ4
import Derived.Test.YtlcnkadkbcoadaaGreatDoorCards
import Derived.Test.YtlcnkadkbcoadaaGreatDoorTie
import Derived.LaidMore
import Derived.LaidHandle
import Derived.Maps.Keyed
import Derived.Test.YtlcnkadkbcoadaaGreatDoorQ2
import Derived.Test.YtlcnkadkbcoadaaGreatDoorQ3
import Derived.JoinedCond
import Derived.Leaving
import Derived.SevenTiedAt
import Derived.JoinedOf
import Derived.Test.YtlcnkadkbcoadaaGreatDoorQ1
import Derived.Laws.CopyRow
import Derived.Laws.AppendOwn
set_option maxRecDepth 100000
set_option maxHeartbeats 16000000
namespace Go.Proofs.YtlcnkadkbcoadaaGreatDoor
open Go.RowKit Go.Proofs.K
theorem gmul01 (w:World):Calls Tryz.prog 355 #[.int .u64 0,.int .u64 1] w fun e w'=>e=.returned (.tuple #[.int .u64 0,.int .u64 0])∧w'=w:=by
 refine q0j Tryz.func355 Y Tryz.ntmps355 Y ?_;(refine q0b<|q0a<|a_I Y<|a_I Y<|q0c<|tn<|q0b<|q0a<|m_I Y<|Ls (q4s Y Y)<|a_I Y<|q0c<|tn<|q0b<|q0a<|m_I Y<|Ls (q5f Y Y (by omega))<|a_I Y<|q0c<|tn<|q0b<|q0a<|m_I Y<|Ls (q4s Y Y)<|a_I Y<|q0c<|tn<|q0b<|q0a<|m_I Y<|Ls (q5f Y Y (by omega))<|a_I Y<|q0c<|tn<|q0b<|q0a<|m_I Y<|m_I Y<|Ls (z3j Y Y)<|a_I Y<|q0c<|tn<|q0b<|q0a<|m_I Y<|m_I Y<|Ls (z3j Y Y)<|m_I Y<|Ls (q5f Y Y (by omega))<|Ls (q8i Y Y)<|a_I Y<|q0c<|tn<|q0b<|q0a<|m_I Y<|Ls (q4s Y Y)<|a_I Y<|q0c<|tn<|q0b<|q0a<|m_I Y<|Ls (q5f Y Y (by omega))<|a_I Y<|q0c<|tn<|q0b<|q0a<|m_I Y<|m_I Y<|m_I Y<|Ls (z3j Y Y)<|Ls (q8i Y Y)<|a_I Y<|q0c<|tn<|q0b<|q0a<|m_I Y<|m_I Y<|Ls (z3j Y Y)<|m_I Y<|Ls (q8i Y Y)<|m_I Y<|Ls (q5f Y Y (by omega))<|Ls (q8i Y Y)<|a_I Y<|q0c<|tn<|q0b<|q0a<|m_I Y<|m_I Y<|Ls (z3j Y Y)<|a_I Y<|q0c<|tn<|q0s ?_);exact q2q Y Y (v:=.int .u64 0) (x:=.int .u64 0) (by kernel_rfl) (by kernel_rfl) ⟨rfl,rfl⟩
theorem gmult1 (ga gb:Nat) (w:World) (hA:Blk w ga 52 [.int .u64 0]) (hB:Blk w gb 4 [.bool true]) (hne:ga ≠ gb):Calls Tryz.prog 424 #[.int .i64 1,.pointer (some ⟨ga,0,none⟩),.pointer (some ⟨gb,0,none⟩)] w fun e w'=>e=.returned (.tuple #[.int .i64 0,.bool true])∧∃ w1 w2,w.grownBy w1 (some gb)∧w1.grownBy w2 (some ga)∧Ext w2 w':=by
 refine q0j Tryz.func424 Y Tryz.ntmps424 Y ?_;(refine q0b<|q0a<|a_I Y<|a_B Y<|q0c<|tn<|q0b<|q0a<|Ls (X_ld Y hA Y)<|m_I Y<|Ls ((q3d Y).trans (by rw [show IntKind.u64.wrap 1=1 from by decide])) ?_);refine L_fn (gmul01 w) Y ?_;rintro e w ⟨rfl,rfl⟩;refine ⟨_,rfl,?_⟩;(refine m_T Y<|Ls (q0n Y Y)<|Ls (q0n Y Y)<|a_I Y<|a_I Y<|q0c<|tn<|q0b<|q0a<|Ls (X_ld Y hB Y)<|m_B Y<|Lg2 Y Y Y (q0d (v:=.int _ _) Y)<|Lg2 Y Y Y (q2j Y Y (by omega))<|Ls (q0o (v:=.bool _) Y Y)<|m_B Y<|Lg2 Y Y Y (q0d (v:=.int _ _) Y)<|Lg2 Y Y Y (q2k Y Y (by omega))<|Ls (q0o (v:=.bool _) Y Y) ?_);refine q1b (v:=.bool true) Y Y Y hB (by decide) ?_;intro w1 hB1 hg1 hs1;have hA1:=hA.grown hg1 (by intro h;cases h;exact hne Y);(refine q0c<|tn<|q0b<|q0a<|m_I Y ?_);refine q1b (v:=.int .u64 0) Y Y Y hA1 (by decide) ?_;intro w2 hA2 hg2 hs2;have hB2:=hB1.grown hg2 (by intro h;cases h;exact hne Y);(refine q0c<|tn<|q0b ?_);apply q1r 5 (by kernel_rfl);(apply DW_x (fun r w hA hH=>(X_ld Y (hA2.ext hA) Y).trans Y);apply DW_x (fun r w hA hH=>((q3d Y).trans (by rw [show IntKind.i64.wrap 0=0 from by decide])).trans Y);apply DW_x (fun r w hA hH=>(X_ld Y (hB2.ext hA) Y).trans Y);apply DW_x (fun r w hA hH=>(q0m (v:=.int _ _) Y).trans Y);apply DW_x (fun r w hA hH=>(q0m (v:=.bool _) Y).trans Y));((with_reducible exact q2c);(exact rfl);(repeat (first | exact .inr (.inr (fun _ _=>by with_reducible rfl)) | (refine And.intro ?_ ?_) | exact .inr (.inl rfl) | exact .inl (by decide +kernel) | exact trivial | exact .inr (.inr (fun _ _=>rfl))));(try dsimp only [Nat.reduceAdd]));intro r w3 E3 _;(refine q0c<|tn<|q0s ?_);exact q2q Y Y (v:=.int .i64 0) (x:=.bool true) Y Y ⟨rfl,w1,w2,hg1,hg2,E3⟩
theorem gmk0 (w:World):Calls Tryz.prog 352 #[.int .i64 0] w fun e w'=>∃ ga gb,e=.returned (.func (.func 424) #[] #[.pointer (some ⟨ga,0,none⟩),.pointer (some ⟨gb,0,none⟩)])∧w.heap.size≤ga∧w.heap.size≤gb∧ga ≠ gb∧Blk w' ga 52 [.int .u64 0]∧Blk w' gb 4 [.bool true]∧Ext w w':=by
 refine q0j Tryz.func352 Y Tryz.ntmps352 Y ?_;(refine q0b<|q0a<|Ls (q0m (v:=Value.nilFunc) Y)<|q0c<|tn<|q0b<|q0a<|m_I Y<|Ls ((q3d Y).trans (by rw [show IntKind.u64.wrap 0=0 from by decide])) ?_);refine q0w ?_;intro ga w1 A1 hga E1 hs1;refine q0w ?_;intro gb w2 B2 hgb E2 hs2;have A2:=A1.ext E2;refine q1b (v:=.int .u64 0) Y Y Y A2 (by decide) ?_;intro w3 A3 hg3 hs3;have B3:=B2.grown hg3 (by intro h;cases h;omega);refine q1b (v:=.bool true) Y Y Y B3 (by decide) ?_;intro w4 B4 hg4 hs4;have A4:=A3.grown hg4 (by intro h;cases h;omega);(refine q0c<|tn<|q0b<|q0a ?_);refine Ls (q1i (vf:=[]) (vc:=[.pointer (some ⟨ga,0,none⟩),.pointer (some ⟨gb,0,none⟩)]) Y Y) ?_;(refine Ls (q0m (v:=.func _ _ _) Y)<|q0c<|tn<|q0s ?_);exact q0f Y Y (v:=.func _ _ _) Y ⟨ga,gb,rfl,by omega,by omega,by omega,A4,B4,((E1.trans E2).then hg3 fun q h=>by cases h;omega).then hg4 fun q h=>by cases h;omega⟩
theorem gpow0 (m:Int) (w:World):Calls Tryz.prog 277 #[.int .i64 0,.int .i64 m,.int .i64 0] w fun e w'=>e=.returned (.tuple #[.int .i64 0,.bool true])∧Ext w w':=by
 refine q0j Tryz.func277 Y Tryz.ntmps277 Y ?_;(refine q0b<|q0a<|a_I Y<|a_B Y<|q0c<|tn<|q0b<|q0a<|m_I Y ?_);refine L_fn (gmk0 w) Y ?_;rintro e w1 ⟨ga,gb,rfl,hga,hgb,hne,A1,B1,E1⟩;refine ⟨_,rfl,?_⟩;(refine Ls (q0m (v:=.func _ _ _) Y)<|q0c<|tn<|q0b<|q0a<|Ls (q0d (v:=.func _ _ _) Y) ?_);refine q4q (vl:=[.int .i64 1]) Y (gmult1 ga gb w1 A1 B1 hne) Y ?_;rintro e w2 ⟨rfl,wa,wb,hg1,hg2,E2⟩;refine ⟨_,rfl,?_⟩;have E02:=((E1.then hg1 fun q h=>by cases h;omega).then hg2 fun q h=>by cases h;omega).trans E2;(refine m_T Y<|Ls (q0n Y Y)<|Ls (q0n Y Y)<|a_I Y<|a_B Y<|q0c<|tn<|q0b<|q0b<|q0a<|m_I Y<|m_I Y<|q0c<|tn<|q0p ?_);refine q1e (fun q f w'=>f 9=.int .i64 0∧f 10=.bool true∧f 18=.int .i64 0∧f 19=.int .i64 0∧w'=w2) 0 ⟨rfl,rfl,rfl,rfl,rfl⟩ ?_;rintro q f w3 ⟨f9,f10,f18,f19,rfl⟩;rw [fold f9,fold f10,fold f18,fold f19];(refine q0b<|q0a<|Ls (q1f Y Y (by omega))<|q0c<|tn<|q0b<|q0h Y<|q1d<|te<|te<|bx<|tn<|q0b<|q0a<|m_I Y<|m_B Y<|a_I Y<|a_B Y<|q0c<|tn<|q0s ?_);exact q2q Y Y (v:=.int .i64 0) (x:=.bool true) Y Y ⟨rfl,E02⟩
theorem gmoment (fv:Value) (h1:fv.oneCell'=true) (w:World):Calls Tryz.prog 171 #[fv] w fun e w'=>∃ g,e=.returned (.func (.func 275) #[] #[.pointer (some ⟨g,0,none⟩)])∧w.heap.size≤g∧Blk w' g 214 [fv]∧Ext w w':=by
 refine q0j Tryz.func171 Y Tryz.ntmps171 Y ?_;(refine q0b<|q0a ?_);refine q8m (v:=fv) Y h1 ?_;intro g1 w1 B1 hg1 E1 hs1;(refine Ls (q0m (v:=Value.nilFunc) Y)<|q0c<|tn<|q0b<|q0a ?_);refine Ls (q1i (vf:=[]) (vc:=[.pointer (some ⟨g1,0,none⟩)]) Y Y) ?_;(refine Ls (q0m (v:=.func _ _ _) Y)<|q0c<|tn<|q0s ?_);exact q0f Y Y (v:=.func _ _ _) Y ⟨g1,rfl,by omega,B1,E1⟩
theorem gkin1 (cs:List Value) (_:cs.length=4) (w:World):Calls Tryz.prog 172 #[.agg cs.toArray] w fun e w'=>e=.returned (.int .i64 0)∧Ext w w':=by
 refine q0j Tryz.func172 Y Tryz.ntmps172 Y ?_;(refine q0b<|q0a ?_);refine q2s (l:=cs) Y ?_;intro g1 w1 B1 hg1 E1 hs1;(refine a_I Y<|q0c<|tn<|q0b<|q0a<|a_I Y<|q0c<|tn<|q0s ?_);exact q0f Y Y (v:=.int .i64 0) Y ⟨rfl,E1⟩
theorem infKind:(Tryz.prog.info? 192).map (fun i=>(i.zero,i.size,i.bytes))=some (some (.agg ([[.int .i64 0],[.bool false],[.nilFunc]].flatten).toArray),3,24):=by kernel_rfl
instance zeroKind:TZero Tryz.prog 192 [[.int .i64 0],[.bool false],[.nilFunc]].flatten:=q2l infKind (by rfl)
instance segsKind:TSegs Tryz.prog 192 [[.int .i64 0],[.bool false],[.nilFunc]]:=q3r Tryz.underlying192 (by kernel_rfl) (by kernel_rfl)
theorem q7q {n:NN} {f:Fr} {w:World} {d:Option Tmp} {t:TypeId} {pos:String} {af:Array Edge} {g:Option (Nat × Bool)} {x y z:Operand} {a:Int} {b:Bool} {v:Value} (hx:ev n f x=.int .i64 a) (hy:ev n f y=.bool b) (hz:ev n f z=v) (hv:v.oneCell'=true) :
   X Tryz.prog n ⟨d,.build 192 #[(0,x),(1,y),(2,z)],t,pos,af,g⟩ f w=.ok (.value (.agg #[.int .i64 a,.bool b,v])) w:=by
 have:=q1t (P:=Tryz.prog) (ty:=192) (n:=n) (f:=f) (w:=w) (d:=d) (t:=t) (pos:=pos) (af:=af) (g:=g)
   (Parts.cons (i:=0) (z:=[.int .i64 0]) hx Y Y Y (Parts.cons (i:=1) (z:=[.bool false]) hy Y Y Y (Parts.cons (i:=2) (c:=[v]) (z:=[.nilFunc]) hz (q4g hv) Y Y (Parts.nil _))))
 simpa using this
theorem gkinds (w:World):Calls Tryz.prog 89 #[] w fun e w'=>∃ q,e=.returned q∧Ext w w'∧∃ b M g,q=.map (some b)∧w.heap.size≤b∧MapI Tryz.prog 3 w' b 7 M∧M 1=some (.agg #[.int .i64 1,.bool false,.func (.func 275) #[] #[.pointer (some ⟨g,0,none⟩)]])∧w.heap.size≤g∧Blk w' g 214 [.func (.func 172) #[] #[]]∧M 4=some (.agg #[.int .i64 16,.bool true,.func (.func 175) #[] #[]]):=by
 refine q0j Tryz.func89 Y Tryz.ntmps89 Y ?_;(refine q0b<|q0a<|Ls (q0m (v:=.map _) Y)<|q0c<|tn<|q0b<|q0a ?_);refine L_makeMap (kt:=3) ?_;intro w1 M1 E1 hs1;obtain ⟨b,hb⟩:∃ b,b=w.heap.size:=⟨_,rfl⟩;rw [← hb] at M1 ⊢;refine L_fn (gmoment (.func (.func 172) #[] #[]) Y w1) Y ?_;rintro e w2 ⟨g2,rfl,hg2,B2,E2⟩;refine ⟨_,rfl,?_⟩;refine Ls (q7q Y Y Y Y) (z0d (q4d Y Y Y (M1.ext E2) (by decide) (by decide) ?_));intro w3 M3 g3 hs3;have B3:=B2.grown g3 (by intro h;cases h;omega);have hw:∀ g,some b=some g→w.heap.size≤g:=fun g h=>by cases h;omega
 have F3:=(E1.trans E2).then g3 hw;refine L_fn (gmoment (.func (.func 173) #[] #[]) Y w3) Y ?_;rintro e w4 ⟨h4,rfl,hh4,_,E4⟩;refine ⟨_,rfl,?_⟩;refine Ls (q7q Y Y Y Y) (z0d (q4d Y Y Y (M3.ext E4) (by decide) (by decide) ?_));intro w5 M5 g5 hs5;have F5:=(F3.trans E4).then g5 hw;have B5:=(B3.ext E4).grown g5 (by intro h;cases h;omega);refine L_fn (gmoment (.func (.func 174) #[] #[]) Y w5) Y ?_;rintro e w6 ⟨h6,rfl,hh6,_,E6⟩;refine ⟨_,rfl,?_⟩;refine Ls (q7q Y Y Y Y) (z0d (q4d Y Y Y (M5.ext E6) (by decide) (by decide) ?_));intro w7 M7 g7 hs7;have F7:=(F5.trans E6).then g7 hw;have B7:=(B5.ext E6).grown g7 (by intro h;cases h;omega);refine Ls (q7q Y Y Y Y) (z0d (q4d Y Y Y M7 (by decide) (by decide) ?_));intro w8 M8 g8 hs8;have F8:=F7.then g8 hw;have B8:=B7.grown g8 (by intro h;cases h;omega);refine Ls (q7q Y Y Y Y) (z0d (q4d Y Y Y M8 (by decide) (by decide) ?_));intro w9 M9 g9 hs9;have F9:=F8.then g9 hw;have B9:=B8.grown g9 (by intro h;cases h;omega);refine Ls (q7q Y Y Y Y) (z0d (q4d Y Y Y M9 (by decide) (by decide) ?_));intro w10 M10 g10 hs10;have F10:=F9.then g10 hw;have B10:=B9.grown g10 (by intro h;cases h;omega);refine Ls (q7q Y Y Y Y) (z0d (q4d Y Y Y M10 (by decide) (by decide) ?_));intro w11 M11 g11 hs11;have F11:=F10.then g11 hw;have B11:=B10.grown g11 (by intro h;cases h;omega);(refine Ls (q0d (v:=.map _) Y)<|Ls (q0m (v:=.map _) Y)<|q0c<|tn<|q0s ?_);exact q0f Y Y (v:=.map _) Y ⟨_,rfl,F11,b,_,g2,rfl,by omega,M11,rfl,by have:=E1.size;omega,B11,rfl⟩
theorem filsOne {w:World} {lo hi:Nat} {v:Value} (h:q5g w lo hi v [[]]):∃ b o c A c',v=.slice (some ⟨b,o,none⟩) 1 c∧w.rangeAt b o [.slice A 0 c']:=by
 obtain ⟨us,h1,h2,h3⟩:=h;obtain ⟨u,rfl⟩:∃ u,us=[u]:=by
   match us,h1 with
   | [u],_=>exact ⟨u,rfl⟩
 obtain ⟨b,o,c,rfl,_,_,_,hr⟩:=h2.at (k:=0) (by decide);obtain ⟨_,A,c',rfl,_⟩:=h3 0 u [] rfl rfl;exact ⟨b,o,c,A,c',rfl,hr⟩
theorem gmom1 (lo hi g:Nat) (v:Value) (w:World) (hw:Wd w) (hF:q5g w lo hi v [[]]) (hB:Blk w g 214 [.func (.func 172) #[] #[]]) :
   Calls Tryz.prog 275 #[.agg (qC 1 0 0 v).toArray,.int .i64 0,.pointer (some ⟨g,0,none⟩)] w fun e w'=>∃ u,e=.returned (.tuple #[u,.bool true])∧u.oneCell'=true∧Ext w w':=by
 refine q0j Tryz.func275 Y Tryz.ntmps275 Y ?_;obtain ⟨b,o,c,A,c',rfl,hR⟩:=filsOne hF;(refine q0b<|q0a ?_);refine q2s (l:=qC 1 0 0 (.slice (some ⟨b,o,none⟩) 1 c)) Y ?_;intro g3 w3 B3 hg3 E3 hs3;(refine a_S Y<|a_B Y<|q0c<|tn<|q0b<|q0b<|q0a<|Ls (q0g Y)<|Ls (X_ld Y B3 Y)<|Ls (q0q (i:=0) Y Y (by omega))<|Ls (q1p Y (E3.range hR) (j:=0) (by omega) Y) ?_);refine L_fn (gsatis A c' w3 (hw.ext E3)) Y ?_;rintro e w4 ⟨rfl,E4⟩;refine ⟨_,rfl,?_⟩;have B4:=B3.ext E4;have E34:=E3.trans E4;(refine Ls (q1o Y)<|q0c<|tn<|q0h Y<|q0l<|tn<|q0b ?_);apply q1r 18 (by kernel_rfl);(apply DW_x (fun r w hA hH=>(q0d (v:=.int _ _) Y).trans Y);apply DW_x (fun r w hA hH=>(q0g Y).trans Y);apply DW_x (fun r w hA hH=>(X_ld Y (B4.ext hA) Y).trans Y);apply DW_x (fun r w hA hH=>(q0q (i:=0) Y Y (by omega)).trans Y);apply DW_x (fun r w hA hH=>(q1p Y ((E34.trans hA).range hR) (j:=0) (by omega) Y).trans Y);apply DW_x (fun r w hA hH=>(q0g Y).trans Y);apply DW_x (fun r w hA hH=>(X_ld Y (B4.ext hA) Y).trans Y));((with_reducible apply q6l);(exact fun _=>rfl);(exact fun _=>rfl);(exact fun r w hA hH=>gunder 0 (by decide) A c' w (hw.ext (E34.trans hA))));((with_reducible apply DW_x);(exact fun r w hA hH=>(X_field1 (v:=.int .i64 (((2 ^ wid 0:Nat):Int) - 1)) Y Y).trans Y));(apply DW_x (fun r w hA hH=>(X_ld Y ((hB.ext E34).ext hA) Y).trans Y);apply DW_x (fun r w hA hH=>(q2i Y (B4.ext hA) Y).trans Y));with_reducible apply DW_frc (id:=172) (F:=fun u _=>u=.int .i64 0)
 exact fun _=>rfl;exact fun _=>rfl;exact fun r w hA hH=>(gkin1 _ Y w).mono fun e w' h=>⟨_,h.1,h.2,rfl⟩;exact fun i v w w' _ _ _ h=>h;((with_reducible apply q6l);(exact fun _=>rfl);(exact fun _=>rfl);(exact fun r w hA hH=>(by have e:r 11=.int .i64 0:=hH 11 Y;show Calls _ _ #[_,_,r 11] _ _;rw [e];exact gpow0 _ w)));(apply DW_x (fun r w hA hH=>(q0d (v:=.tuple _) Y).trans Y);apply DW_x (fun r w hA hH=>(q0n Y Y).trans Y);apply DW_x (fun r w hA hH=>(q0n Y Y).trans Y);apply DW_x (fun r w hA hH=>(q0m (v:=.int _ _) Y).trans Y);apply DW_x (fun r w hA hH=>(q0m (v:=.bool _) Y).trans Y));((with_reducible exact q2c);(exact rfl);(repeat (first | exact .inr (.inr (fun _ _=>by with_reducible rfl)) | (refine And.intro ?_ ?_) | exact .inr (.inl rfl) | exact .inl (by decide +kernel) | exact trivial | exact .inr (.inr (fun _ _=>rfl))));(try dsimp only [Nat.reduceAdd]));intro r w5 E5 _;(refine q0c<|tn<|q0b<|q0a<|m_I Y ?_);refine q4n (v:=.int .i64 0) Y Y ?_;intro u w6 r6 E6 hs6 _;have hu:=q3s r6;(refine m_B Y<|Ls (q0m (v:=u) Y)<|a_B Y<|q0c<|tn<|q0s ?_);exact q2q Y Y (v:=u) (x:=.bool true) Y Y ⟨u,rfl,hu,E34.trans (E5.trans E6)⟩
def q7b (a:Int) (_:World) (u:Value) (w:World):Prop:=if a=1 then ∃ g,u=.agg #[.int .i64 1,.bool false,.func (.func 275) #[] #[.pointer (some ⟨g,0,none⟩)]]∧Blk w g 214 [.func (.func 172) #[] #[]] else u=.agg #[.int .i64 16,.bool true,.func (.func 175) #[] #[]]
def q8n (_:World) (q:Value) (w:World):Prop:=∃ b M g,q=.map (some b)∧MapI Tryz.prog 3 w b 7 M∧M 1=some (.agg #[.int .i64 1,.bool false,.func (.func 275) #[] #[.pointer (some ⟨g,0,none⟩)]])∧Blk w g 214 [.func (.func 172) #[] #[]]∧M 4=some (.agg #[.int .i64 16,.bool true,.func (.func 175) #[] #[]])
theorem q8n.ext {w0 w w':World} {q:Value} (h:q8n w0 q w) (E:Ext w w'):q8n w0 q w':=by
 obtain ⟨b,M,g,h1,h2,h3,h4,h5⟩:=h;exact ⟨b,M,g,h1,h2.ext E,h3,h4.ext E,h5⟩
theorem z4w:(Tryz.prog.info? 192).bind (·.zero)=some (.agg ([[.int .i64 0],[.bool false],[.nilFunc]].flatten).toArray):=by kernel_rfl
theorem gcheckA (lo hi:Nat) (v:Value) (w:World) (hw:Wd w) (hF:q5g w lo hi v [[]]) :
   Calls Tryz.prog 37 #[.agg (qC 1 0 0 v).toArray,.int .i64 0] w fun e w'=>∃ u,e=.returned (.tuple #[.agg #[u],.int .i64 0])∧u.oneCell'=true∧Ext w w':=by
 refine q0j Tryz.func37 Y Tryz.ntmps37 Y ?_;have hv:=hF.cell;(refine q0b<|q0a ?_);refine q2s (l:=qC 1 0 0 v) Y ?_;intro g2 w2 B2 hg2 E2 hs2;refine q0w ?_;intro g4 w4 B4 hg4 E4 hs4;have B2:=B2.ext E4;have E24:=E2.trans E4;(refine a_I Y<|q0c<|tn<|q0b<|q0b<|q0a<|Ls (q2i Y B2 Y) ?_);refine L_fn (gvalid ⟨1,0,0,[[]]⟩ v lo hi w4 (hF.ext E24) (by decide)) Y ?_;rintro e w5 ⟨rfl,E5⟩;refine ⟨_,rfl,?_⟩;rw [show decide (Qy.OkI ⟨1,0,0,[[]]⟩)=true from by decide];have B2:=B2.ext E5;have B4:=B4.ext E5;have E25:=E24.trans E5;(refine Ls (q1o Y)<|m_B Y<|Lg2 Y Y Y (q0d (v:=.int _ _) Y)<|Lg2 Y Y Y (q1f Y Y (by omega))<|Ls (q0k (v:=.bool _) Y Y)<|m_B Y<|Lg2 Y Y Y (q0d (v:=.int _ _) Y)<|Lg2 Y Y Y (q1q Y Y (by omega))<|Ls (q0k (v:=.bool _) Y Y)<|q0c<|tn<|q0h Y<|q0l<|tn<|q0b ?_);apply q1r 5 (by kernel_rfl);((with_reducible apply DW_fo (F:=q8n w5));(exact fun _=>rfl);(exact fun _=>rfl);(exact fun r w hA hH=>(gkinds w).mono fun e w' ⟨q,h1,h2,b,M,g,h3,_,h5,h6,_,h7,h8⟩=>⟨q,h1,h2,b,M,g,h3,h5,h6,h7,h8⟩);(exact fun i u w w' hi ht hR h=>h.ext hR));(apply DW_x (fun r w hA hH=>(q0g Y).trans Y);apply DW_x (fun r w hA hH=>(X_ld Y (B2.ext hA) Y).trans Y));with_reducible apply DW_d (F:=fun _ u w'=>q7b 1 w5 u w')
 exact fun r w hA hH=>(by
   obtain ⟨b,M,g,h1,h2,h3,h4,h5⟩:q8n w5 (r 0) w:=hH 0 rfl
   exact ⟨_,_,z3c (e:=192) z4w h1 Y h2 (by decide) (by rw [h3]),Ext.refl w,by unfold q7b;rw [if_pos Y];exact ⟨g,rfl,h4⟩⟩)
 exact fun i r u w w' _ _ hR h=>(by
   unfold q7b at h ⊢
   rw [if_pos Y] at h ⊢
   obtain ⟨g,h1,h2⟩:=h
   exact ⟨g,h1,h2.ext hR⟩)
 exact fun _ _=>rfl;apply z1t (w0:=w5) (fun w hA=>hA.size);((with_reducible exact q2c);(exact rfl);(repeat (first | exact .inr (.inr (fun _ _=>by with_reducible rfl)) | (refine And.intro ?_ ?_) | exact .inr (.inl rfl) | exact .inl (by decide +kernel) | exact trivial | exact .inr (.inr (fun _ _=>rfl))));(try dsimp only [Nat.reduceAdd]));intro r w6 E6 H6;have h3:q7b 1 w5 (r 3) w6:=H6 3;obtain ⟨g6,e6,hg6,B6⟩:NewF w5 192 _ (r 4) w6:=H6 4;generalize r 3=u3 at *;generalize r 4=u4 at *;subst e6;unfold q7b at h3;rw [if_pos Y] at h3;obtain ⟨gm,rfl,Bm⟩:=h3;have B2:=B2.ext E6;have B4:=B4.ext E6;have E26:=E25.trans E6;have h2s:=E2.size;have h4s:=E4.size;have h5s:=E5.size;have g4l:=q2b B4;refine q0t (l:=[.int .i64 1,.bool false,.func (.func 275) #[] #[.pointer (some ⟨gm,0,none⟩)]]) Y Y Y ?_ B6 Y ?_
 · intro v hv;simp at hv;rcases hv with rfl | rfl | rfl <;> rfl
 intro w7 B7 hg7 hs7;have Bm7:=Bm.grown hg7 (by intro h;cases h;exact Bm.ne_ B6 (by decide) Y);have B2:=B2.grown hg7 (by intro h;cases h;omega);have B4:=B4.grown hg7 (by intro h;cases h;omega);have E27:=E26.then hg7 fun q h=>by cases h;omega
 (refine q0c<|tn<|q0b<|q0b<|q0a<|Ls (q0g Y)<|Ls (X_ld Y B7 Y)<|m_B Y<|Lo2 Y Y Y Y<|Lo2 Y Y Y Y<|Lo2 Y Y Y Y<|Lo2 Y Y Y Y<|Ls (q0k (v:=.bool _) Y Y)<|q0c<|tn<|q0h Y<|q0l<|tn<|q0b<|q0a<|Ls (q0g Y)<|Ls (X_ld Y B7 Y) ?_);(refine Ls (q2i Y B2 Y)<|m_I Y ?_);refine q4q (vl:=[.agg (qC 1 0 0 v).toArray,.int .i64 0]) Y (gmom1 lo hi gm v w7 (hw.ext E27) (hF.ext E27) Bm7) Y ?_;rintro e w8 ⟨u,rfl,hu,E8⟩;refine ⟨_,rfl,?_⟩;have B4:=B4.ext E8;have E28:=E27.trans E8;(refine m_T Y<|Ls (q0n Y Y)<|Ls (q0n Y Y)<|Ls (q0m (v:=u) Y)<|a_B Y<|q0c<|tn<|q0b<|q0b<|q0a<|m_B Y<|Ls (q1o Y)<|q0c<|tn<|q0h Y<|q0l<|tn<|q0b<|q0a<|Ls (q0d (v:=u) Y) ?_);skip;refine Ls (q1t (r:=[(0,.tmp 45)]) (zs':=[[u]]) (Parts.cons (v:=u) (c:=[u]) (z:=[.slice none 0 0]) Y (q4g hu) Y Y (Parts.nil _))) ?_;refine q0t (l:=[u]) Y Y Y (fun v hv=>by rw [List.mem_singleton.1 hv];exact hu) B4 Y ?_;intro w9 B9 hg9 hs9;(refine a_I Y<|q0c<|tn<|q0s ?_);refine q0z Y Y (Res.cellA inferInstance Y (B9.range (o:=0) (fun j u h=>by rw [Nat.zero_add];exact h)) Y (Res.tmp Y .nil)) ?_;exact ⟨u,rfl,hu,E28.then hg9 fun q h=>by cases h;omega⟩
theorem gcheckB (lo hi:Nat) (v:Value) (w:World) (hw:Wd w) (hF:q5g w lo hi v [[]]) :
   Calls Tryz.prog 37 #[.agg (qC 4 3 0 v).toArray,.int .i64 0] w fun e w'=>e=.returned (.tuple #[.agg #[.slice none 0 0],.int .i64 140])∧Ext w w':=by
 refine q0j Tryz.func37 Y Tryz.ntmps37 Y ?_;have hv:=hF.cell;(refine q0b<|q0a ?_);refine q2s (l:=qC 4 3 0 v) Y ?_;intro g2 w2 B2 hg2 E2 hs2;refine q0w ?_;intro g4 w4 B4 hg4 E4 hs4;have B2:=B2.ext E4;have E24:=E2.trans E4;(refine a_I Y<|q0c<|tn<|q0b<|q0b<|q0a<|Ls (q2i Y B2 Y) ?_);refine L_fn (gvalid ⟨4,3,0,[[]]⟩ v lo hi w4 (hF.ext E24) (by decide)) Y ?_;rintro e w5 ⟨rfl,E5⟩;refine ⟨_,rfl,?_⟩;rw [show decide (Qy.OkI ⟨4,3,0,[[]]⟩)=true from by decide];have B2:=B2.ext E5;have B4:=B4.ext E5;have E25:=E24.trans E5;(refine Ls (q1o Y)<|m_B Y<|Lg2 Y Y Y (q0d (v:=.int _ _) Y)<|Lg2 Y Y Y (q1f Y Y (by omega))<|Ls (q0k (v:=.bool _) Y Y)<|m_B Y<|Lg2 Y Y Y (q0d (v:=.int _ _) Y)<|Lg2 Y Y Y (q1q Y Y (by omega))<|Ls (q0k (v:=.bool _) Y Y)<|q0c<|tn<|q0h Y<|q0l<|tn<|q0b ?_);apply q1r 5 (by kernel_rfl);((with_reducible apply DW_fo (F:=q8n w5));(exact fun _=>rfl);(exact fun _=>rfl);(exact fun r w hA hH=>(gkinds w).mono fun e w' ⟨q,h1,h2,b,M,g,h3,_,h5,h6,_,h7,h8⟩=>⟨q,h1,h2,b,M,g,h3,h5,h6,h7,h8⟩);(exact fun i u w w' hi ht hR h=>h.ext hR));(apply DW_x (fun r w hA hH=>(q0g Y).trans Y);apply DW_x (fun r w hA hH=>(X_ld Y (B2.ext hA) Y).trans Y));with_reducible apply DW_d (F:=fun _ u w'=>q7b 4 w5 u w')
 exact fun r w hA hH=>(by
   obtain ⟨b,M,g,h1,h2,h3,h4,h5⟩:q8n w5 (r 0) w:=hH 0 rfl
   exact ⟨_,_,z3c (e:=192) z4w h1 Y h2 (by decide) (by rw [h5]),Ext.refl w,by unfold q7b;rw [if_neg (by decide)];rfl⟩)
 exact fun i r u w w' _ _ hR h=>(by
   unfold q7b at h ⊢
   rw [if_neg (by decide)] at h ⊢
   exact h)
 exact fun _ _=>rfl;apply z1t (w0:=w5) (fun w hA=>hA.size);((with_reducible exact q2c);(exact rfl);(repeat (first | exact .inr (.inr (fun _ _=>by with_reducible rfl)) | (refine And.intro ?_ ?_) | exact .inr (.inl rfl) | exact .inl (by decide +kernel) | exact trivial | exact .inr (.inr (fun _ _=>rfl))));(try dsimp only [Nat.reduceAdd]));intro r w6 E6 H6;have h3:q7b 4 w5 (r 3) w6:=H6 3;obtain ⟨g6,e6,hg6,B6⟩:NewF w5 192 _ (r 4) w6:=H6 4;generalize r 3=u3 at *;generalize r 4=u4 at *;subst e6;unfold q7b at h3;rw [if_neg (by decide)] at h3;subst h3;have B2:=B2.ext E6;have B4:=B4.ext E6;have E26:=E25.trans E6;have h2s:=E2.size;have h4s:=E4.size;have h5s:=E5.size;have g4l:=q2b B4;refine q0t (l:=[.int .i64 16,.bool true,.func (.func 175) #[] #[]]) Y Y Y ?_ B6 Y ?_
 · intro v hv;simp at hv;rcases hv with rfl | rfl | rfl <;> rfl
 intro w7 B7 hg7 hs7;have B2:=B2.grown hg7 (by intro h;cases h;omega);have B4:=B4.grown hg7 (by intro h;cases h;omega);have E27:=E26.then hg7 fun q h=>by cases h;omega
 (refine q0c<|tn<|q0b<|q0b<|q0a<|Ls (q0g Y)<|Ls (X_ld Y B7 Y)<|m_B Y<|Lg2 Y Y Y (q0g Y)<|Lg2 Y Y Y (X_ld Y B2 Y) ?_);refine q1n Y Y Y ?_;refine L_fn (gbits 3 (by decide) w7 (hw.ext E27)) Y ?_;rintro e w8 ⟨rfl,E8⟩;refine ⟨_,rfl,?_⟩;have B4:=B4.ext E8;have E28:=E27.trans E8;have hwid:((wid 3:Nat):Int)=8:=rfl;rw [hwid];(refine Lg2 Y Y Y (q3l Y Y (by omega))<|Ls (q0o (v:=.bool _) Y Y)<|q0c<|tn<|q0r Y<|q0b<|q0a ?_);refine Ls (q1t (r:=[]) (Parts.nil _)) ?_;refine q0t (l:=[.slice none 0 0]) Y Y Y (fun v hv=>by rw [List.mem_singleton.1 hv];rfl) B4 Y ?_;intro w9 B9 hg9 hs9;(refine a_I Y<|q0c<|tn<|q0s<|tr ?_);refine q0z Y Y (Res.cellA inferInstance Y (B9.range (o:=0) (fun j u h=>by rw [Nat.zero_add];exact h)) Y (Res.tmp Y .nil)) ?_;exact ⟨rfl,E28.then hg9 fun q h=>by cases h;omega⟩
abbrev strZ:List Value:=[.slice none 0 0,.slice none 0 0]
abbrev zdat:List Value:=[[.slice none 0 0],[.slice none 0 0],([.int .i64 0]++[.int .i64 0]++[.int .i64 0]++[.int .i64 0]),(List.replicate 32 [.int .u8 0]).flatten].flatten
theorem q4e:∀ v∈zdat,v.oneCell'=true:=by
 have h:(zdat.all fun v=>v.oneCell')=true:=by decide
 exact List.all_eq_true.1 h
theorem gload1 (cs:List Value) (lg:Int) (h:lg < 0∨11 < lg) (w:World):Calls Tryz.prog 35 #[.agg cs.toArray,.int .i64 lg] w fun e w'=>e=.returned (.tuple #[.agg zdat.toArray,.int .i64 1])∧Ext w w':=by
 refine q0j Tryz.func35 Y Tryz.ntmps35 Y ?_;(refine q0b<|q0a ?_);refine q2s (l:=cs) Y ?_;intro g2 w2 B2 hg2 E2 hs2;refine q0w ?_;intro g4 w4 B4 hg4 E4 hs4;rcases h with h | h
 · (refine a_I Y<|q0c<|tn<|q0b<|q0b<|q0a<|m_I Y<|Ls (q2k Y Y (by omega))<|m_B Y<|Lo2 Y Y Y Y<|Lo2 Y Y Y Y<|Ls (q0o (v:=.bool _) Y Y)<|q0c<|tn<|q0r Y<|q0b<|q0a ?_);refine Ls (q1t (r:=[]) (Parts.nil _)) ?_;refine q0t (l:=zdat) Y Y Y q4e B4 Y ?_;intro w5 B5 hg5 hs5;(refine a_I Y<|q0c<|tn<|q0s<|tr ?_);refine q0z Y Y (Res.cellA inferInstance Y (B5.range (o:=0) (fun j u h=>by rw [Nat.zero_add];exact h)) Y (Res.tmp Y .nil)) ?_;exact ⟨rfl,(E2.trans E4).then hg5 fun q h=>by cases h;omega⟩
 · (refine a_I Y<|q0c<|tn<|q0b<|q0b<|q0a<|m_I Y<|Ls (q1f Y Y (by omega))<|m_B Y<|Lg2 Y Y Y (q0d (v:=.int _ _) Y)<|Lg2 Y Y Y (q3l Y Y (by omega))<|Ls (q0k (v:=.bool _) Y Y)<|q0c<|tn<|q0r Y<|q0b<|q0a ?_);refine Ls (q1t (r:=[]) (Parts.nil _)) ?_;refine q0t (l:=zdat) Y Y Y q4e B4 Y ?_;intro w5 B5 hg5 hs5;(refine a_I Y<|q0c<|tn<|q0s<|tr ?_);refine q0z Y Y (Res.cellA inferInstance Y (B5.range (o:=0) (fun j u h=>by rw [Nat.zero_add];exact h)) Y (Res.tmp Y .nil)) ?_;exact ⟨rfl,(E2.trans E4).then hg5 fun q h=>by cases h;omega⟩
theorem gcommit1 (w:World):Calls Tryz.prog 8 #[.agg strZ.toArray,.int .i64 12] w fun e w'=>∃ y:List Value,y.length=32∧(∀ v∈y,v.oneCell'=true)∧e=.returned (.tuple #[.agg y.toArray,.int .i64 1])∧Ext w w':=by
 refine q0j Tryz.func8 Y Tryz.ntmps8 Y ?_;(refine q0b<|q0a ?_);refine q2s (l:=strZ) Y ?_;intro g2 w2 B2 hg2 E2 hs2;refine q0w ?_;intro g4 w4 B4 hg4 E4 hs4;have B2:=B2.ext E4;have E24:=E2.trans E4;(refine a_I Y<|q0c<|tn<|q0b<|q0a<|Ls (q2i Y B2 Y)<|m_I Y ?_);refine L_fn (gload1 strZ 12 (.inr (by decide)) w4) Y ?_;rintro e w5 ⟨rfl,E5⟩;refine ⟨_,rfl,?_⟩;(refine m_T Y<|Ls (q0n Y Y)<|Ls (q0n Y Y) ?_);refine q0w ?_;intro g6 w6 B6 hg6 E6 hs6;refine q0t (l:=zdat) Y Y Y q4e B6 Y ?_;intro w7 B7 hg7 hs7;have h2s:=E2.size;have h4s:=E4.size;have h5s:=E5.size;have B4:=((B4.ext E5).ext E6).grown hg7 (by intro h;cases h;omega);(refine a_I Y<|q0c<|tn<|q0b<|q0a<|Ls (q0g Y)<|Ls (q5b (l:=(zdat.drop 6).take 32) Y B7 Y Y)<|m_I Y ?_);refine q0t (l:=(zdat.drop 6).take 32) Y Y Y (fun v hv=>q4e v (List.mem_of_mem_drop (List.mem_of_mem_take hv))) B4 Y ?_;intro w8 B8 hg8 hs8;(refine a_I Y<|q0c<|tn<|q0s ?_);refine q0z Y Y (Res.cellA inferInstance Y (B8.range (o:=0) (fun j u h=>by rw [Nat.zero_add];exact h)) Y (Res.tmp Y .nil)) ?_;exact ⟨_,rfl,fun v hv=>q4e v (List.mem_of_mem_drop (List.mem_of_mem_take hv)),rfl,(((E24.trans E5).trans E6).then hg7 fun q h=>by cases h;omega).then hg8 fun q h=>by cases h;omega⟩
structure Wx (w:World):Prop where
 t:Tabs w
 d:Wd w
theorem Wx.ext {w w':World} (h:Wx w) (E:Ext w w'):Wx w':=⟨h.t.ext E,h.d.ext E⟩
def PrE (x:Nat) (w:World) (e:Ending) (w':World):Prop:=e=.returned (.tuple #[.agg zerC.toArray,.int .i64 (x:Nat)])∧Ext w w'
theorem gproveP (s:ByteArray) (hs:s.size≤100000) (lg:Int) (o x:Nat) (hx:x ≠ 0) (hp:Qy.parse (sb s)=(Qy.q0,o,x)) (w:World) (hw:Wx w):Calls Tryz.prog 9 #[.string s,.agg strZ.toArray,.int .i64 lg] w (PrE x w):=by
 refine q0j Tryz.func9 Y Tryz.ntmps9 Y ?_;(refine q0b<|q0a ?_);refine q2s (l:=strZ) Y ?_;intro g4 w4 B4 hg4 E4 hs4;refine q0w ?_;intro g6 w6 B6 hg6 E6 hs6;have B4:=B4.ext E6;have E06:=E4.trans E6;(refine a_I Y<|q0c<|tn<|q0b<|q0a<|m_R Y ?_);refine L_fn (z3y s hs w6 (hw.ext E06).t) Y ?_;rintro e w7 ⟨v,rfl,E7,F7⟩;refine ⟨_,rfl,?_⟩;rw [hp] at F7 ⊢;have hv:=F7.cell;have h4s:=E4.size;have h6s:=E6.size;have h7s:=E7.size;dsimp only [parV];(refine m_T Y<|Ls (q0n Y Y)<|Ls (q0n Y Y)<|Ls (q0n Y Y) ?_);refine q0w ?_;intro g8 w8 B8 hg8 E8 hs8;refine q0t (size:=4) (l:=qry Qy.q0 v) Y Y Y (q3i hv) B8 Y ?_;intro w9 B9 hg9 hs9;have E09:=((E06.trans E7).trans E8).then hg9 fun q h=>by cases h;omega
 have B6:=((B6.ext E7).ext E8).grown hg9 (by intro h;cases h;omega);have B4:=((B4.ext E7).ext E8).grown hg9 (by intro h;cases h;omega);(refine a_I Y<|a_I Y<|q0c<|tn<|q0b<|q0b<|q0a<|m_I Y<|Ls (q2t Y Y (by omega))<|q0c<|tn<|q0r Y<|q0b<|q0a ?_);refine Ls (q1t (r:=[]) (Parts.nil _)) ?_;(refine m_I Y ?_);refine q0t (l:=zerC) Y Y Y (q3t.one (N:=fun _=>True) (w:=w) q2y) B6 Y ?_;intro w20 B20 hg20 hs20;(refine a_I Y<|q0c<|tn<|q0s<|tr ?_);refine q0z Y Y (Res.cellA inferInstance Y (B20.range (o:=0) (fun j u h=>by rw [Nat.zero_add];exact h)) Y (Res.tmp Y .nil)) ?_;exact ⟨rfl,E09.then hg20 fun q h=>by cases h;omega⟩
theorem gproveA (s:ByteArray) (hs:s.size≤100000) (lg:Int) (hl:lg < 0∨11 < lg) (hp:Qy.parse (sb s)=(⟨1,0,0,[[]]⟩,0,0)) (w:World) (hw:Wx w):Calls Tryz.prog 9 #[.string s,.agg strZ.toArray,.int .i64 lg] w (PrE 1 w):=by
 refine q0j Tryz.func9 Y Tryz.ntmps9 Y ?_;(refine q0b<|q0a ?_);refine q2s (l:=strZ) Y ?_;intro g4 w4 B4 hg4 E4 hs4;refine q0w ?_;intro g6 w6 B6 hg6 E6 hs6;have B4:=B4.ext E6;have E06:=E4.trans E6;(refine a_I Y<|q0c<|tn<|q0b<|q0a<|m_R Y ?_);refine L_fn (z3y s hs w6 (hw.ext E06).t) Y ?_;rintro e w7 ⟨v,rfl,E7,F7⟩;refine ⟨_,rfl,?_⟩;rw [hp] at F7 ⊢;have hv:=F7.cell;have h4s:=E4.size;have h6s:=E6.size;have h7s:=E7.size;dsimp only [parV];(refine m_T Y<|Ls (q0n Y Y)<|Ls (q0n Y Y)<|Ls (q0n Y Y) ?_);refine q0w ?_;intro g8 w8 B8 hg8 E8 hs8;refine q0t (size:=4) (l:=qry ⟨1,0,0,[[]]⟩ v) Y Y Y (q3i hv) B8 Y ?_;intro w9 B9 hg9 hs9;have E09:=((E06.trans E7).trans E8).then hg9 fun q h=>by cases h;omega
 have B6:=((B6.ext E7).ext E8).grown hg9 (by intro h;cases h;omega);have B4:=((B4.ext E7).ext E8).grown hg9 (by intro h;cases h;omega);have F9:=(F7.ext E8).grown hg9 fun g h=>by cases h;omega
 (refine a_I Y<|a_I Y<|q0c<|tn<|q0b<|q0b<|q0a<|m_I Y<|Ls (q2e Y Y (by omega))<|q0c<|tn<|q0h Y<|q0l<|tn<|q0b<|q0b<|q0a<|Ls (q2i Y B9 Y)<|Ls (q0g Y)<|Ls (X_ld Y B4 Y)<|Ls (q0i Y) ?_);refine L_fn (gcheckA w6.heap.size w7.heap.size v w9 (hw.ext E09).d F9) Y ?_;rintro e w10 ⟨u,rfl,hu,E10⟩;refine ⟨_,rfl,?_⟩;(refine m_T Y<|Ls (q0n Y Y)<|Ls (q0n Y Y) ?_);refine q0w ?_;intro g11 w11 B11 hg11 E11 hs11;refine q0t (l:=[u]) Y Y Y (fun v hv=>by rw [List.mem_singleton.1 hv];exact hu) B11 Y ?_;intro w12 B12 hg12 hs12;have h9s:=hg9.size;have h10s:=E10.size;have B6:=((B6.ext E10).ext E11).grown hg12 (by intro h;cases h;omega);have B4:=((B4.ext E10).ext E11).grown hg12 (by intro h;cases h;omega);have E012:=((E09.trans E10).trans E11).then hg12 fun q h=>by cases h;omega
 (refine a_I Y<|q0c<|tn<|q0b<|q0a<|m_I Y<|Ls (q2e Y Y (by omega))<|q0c<|tn<|q0h Y<|q0l<|tn<|q0b<|q0a<|Ls (q2i Y B4 Y)<|m_I Y ?_);refine L_fn (gload1 strZ lg hl w12) Y ?_;rintro e w13 ⟨rfl,E13⟩;refine ⟨_,rfl,?_⟩;(refine m_T Y<|Ls (q0n Y Y)<|Ls (q0n Y Y) ?_);refine q0w ?_;intro g14 w14 B14 hg14 E14 hs14;refine q0t (l:=zdat) Y Y Y q4e B14 Y ?_;intro w15 B15 hg15 hs15;have h12s:=hg12.size;have h13s:=E13.size;have B6:=((B6.ext E13).ext E14).grown hg15 (by intro h;cases h;omega);have E015:=((E012.trans E13).trans E14).then hg15 fun q h=>by cases h;omega
 (refine a_I Y<|q0c<|tn<|q0b<|q0b<|q0a<|m_I Y<|Ls (q2t Y Y (by omega))<|q0c<|tn<|q0r Y<|q0b<|q0a ?_);refine Ls (q1t (r:=[]) (Parts.nil _)) ?_;(refine m_I Y ?_);refine q0t (l:=zerC) Y Y Y (q3t.one (N:=fun _=>True) (w:=w) q2y) B6 Y ?_;intro w20 B20 hg20 hs20;(refine a_I Y<|q0c<|tn<|q0s<|tr ?_);refine q0z Y Y (Res.cellA inferInstance Y (B20.range (o:=0) (fun j u h=>by rw [Nat.zero_add];exact h)) Y (Res.tmp Y .nil)) ?_;exact ⟨rfl,E015.then hg20 fun q h=>by cases h;omega⟩
theorem gproveB (s:ByteArray) (hs:s.size≤100000) (lg:Int) (hp:Qy.parse (sb s)=(⟨4,3,0,[[]]⟩,0,0)) (w:World) (hw:Wx w):Calls Tryz.prog 9 #[.string s,.agg strZ.toArray,.int .i64 lg] w (PrE 140 w):=by
 refine q0j Tryz.func9 Y Tryz.ntmps9 Y ?_;(refine q0b<|q0a ?_);refine q2s (l:=strZ) Y ?_;intro g4 w4 B4 hg4 E4 hs4;refine q0w ?_;intro g6 w6 B6 hg6 E6 hs6;have B4:=B4.ext E6;have E06:=E4.trans E6;(refine a_I Y<|q0c<|tn<|q0b<|q0a<|m_R Y ?_);refine L_fn (z3y s hs w6 (hw.ext E06).t) Y ?_;rintro e w7 ⟨v,rfl,E7,F7⟩;refine ⟨_,rfl,?_⟩;rw [hp] at F7 ⊢;have hv:=F7.cell;have h4s:=E4.size;have h6s:=E6.size;have h7s:=E7.size;dsimp only [parV];(refine m_T Y<|Ls (q0n Y Y)<|Ls (q0n Y Y)<|Ls (q0n Y Y) ?_);refine q0w ?_;intro g8 w8 B8 hg8 E8 hs8;refine q0t (size:=4) (l:=qry ⟨4,3,0,[[]]⟩ v) Y Y Y (q3i hv) B8 Y ?_;intro w9 B9 hg9 hs9;have E09:=((E06.trans E7).trans E8).then hg9 fun q h=>by cases h;omega
 have B6:=((B6.ext E7).ext E8).grown hg9 (by intro h;cases h;omega);have B4:=((B4.ext E7).ext E8).grown hg9 (by intro h;cases h;omega);have F9:=(F7.ext E8).grown hg9 fun g h=>by cases h;omega
 (refine a_I Y<|a_I Y<|q0c<|tn<|q0b<|q0b<|q0a<|m_I Y<|Ls (q2e Y Y (by omega))<|q0c<|tn<|q0h Y<|q0l<|tn<|q0b<|q0b<|q0a<|Ls (q2i Y B9 Y)<|Ls (q0g Y)<|Ls (X_ld Y B4 Y)<|Ls (q0i Y) ?_);refine L_fn (gcheckB w6.heap.size w7.heap.size v w9 (hw.ext E09).d F9) Y ?_;rintro e w10 ⟨rfl,E10⟩;refine ⟨_,rfl,?_⟩;(refine m_T Y<|Ls (q0n Y Y)<|Ls (q0n Y Y) ?_);refine q0w ?_;intro g11 w11 B11 hg11 E11 hs11;refine q0t (l:=[.slice none 0 0]) Y Y Y (fun v hv=>by rw [List.mem_singleton.1 hv];rfl) B11 Y ?_;intro w12 B12 hg12 hs12;have h9s:=hg9.size;have h10s:=E10.size;have B6:=((B6.ext E10).ext E11).grown hg12 (by intro h;cases h;omega);have E012:=((E09.trans E10).trans E11).then hg12 fun q h=>by cases h;omega
 (refine a_I Y<|q0c<|tn<|q0b<|q0a<|m_I Y<|Ls (q2t Y Y (by omega))<|q0c<|tn<|q0r Y<|q0b<|q0a ?_);refine Ls (q1t (r:=[]) (Parts.nil _)) ?_;(refine m_I Y ?_);refine q0t (l:=zerC) Y Y Y (q3t.one (N:=fun _=>True) (w:=w) q2y) B6 Y ?_;intro w20 B20 hg20 hs20;(refine a_I Y<|q0c<|tn<|q0s<|tr ?_);refine q0z Y Y (Res.cellA inferInstance Y (B20.range (o:=0) (fun j u h=>by rw [Nat.zero_add];exact h)) Y (Res.tmp Y .nil)) ?_;exact ⟨rfl,E012.then hg20 fun q h=>by cases h;omega⟩
end Go.Proofs.YtlcnkadkbcoadaaGreatDoor
namespace Go.Proofs.YtlcnkadkbcoadaaGreatDoor
open Go.RowKit Go.Proofs.K Go.ChangeShapes Go.WideShapes Go.ChangeAt
theorem own:ownKnob Tryz.prog.godebug=none:=by kernel_rfl
theorem laidOut:laidOutB Tryz.prog=true:=by kernel_rfl
theorem gPw:Tryz.prog.globalNamed "internal/strconv.uint64pow10"=some 6:=by kernel_rfl
theorem gPt:(Tryz.prog.globals[6]?).map (·.type)=some 551:=by kernel_rfl
theorem cP:Tryz.prog.cellsOf 551=20:=by kernel_rfl
theorem c64:Tryz.prog.cellsOf 52=1:=by kernel_rfl
theorem gEr:Tryz.prog.globalNamed "strconv.ErrRange"=some 8:=by kernel_rfl
theorem gEt:(Tryz.prog.globals[8]?).map (·.type)=some 341:=by kernel_rfl
theorem gWd:Tryz.prog.globalNamed "attestor/typecheck.widths"=some 0:=by kernel_rfl
theorem gWt:(Tryz.prog.globals[0]?).map (·.type)=some 294:=by kernel_rfl
def laids:List (String × DataW Unit):=[("math/bits.deBruijn32tab",Rows.laid_math_bits_deBruijn32tab), ("math/bits.deBruijn64tab",Rows.laid_math_bits_deBruijn64tab), ("internal/strconv.uint64pow10",Rows.laid_internal_strconv_uint64pow10), ("strconv.ErrRange",Rows.laid_strconv_ErrRange), ("strconv.ErrSyntax",Rows.laid_strconv_ErrSyntax), ("attestor/mle.one",Rows.laid_attestor_mle_one), ("attestor/sha256.constants",Rows.laid_attestor_sha256_constants), ("attestor/sha256.initial",Rows.laid_attestor_sha256_initial), ("attestor/commit.mixed",Rows.laid_attestor_commit_mixed), ("attestor/typecheck.widths",Rows.laid_attestor_typecheck_widths)]
theorem pow_laid:(Rows.laid_internal_strconv_uint64pow10:DataW Unit)=Go.Lib.tabData .u64 Go.Lib.pow10Tab:=by kernel_rfl
theorem iface_cell {H:Type} {enc:TypeId × Value→H} {P:Program} {W:World} {b:Nat} {sp:Nat→Bool} {fuel:Nat} {t:TypeId} {cs:List Value} {name:String} {d:DataW H} {p:List MemPlace} (hu:∃ ms,P.underlying t=some (.interface ms))
   (h:DataW.trod enc P W b sp false fuel t cs=some (.iface name d,p)):∃ te pe,cs=[.iface te pe]:=by
 obtain ⟨ms,hu⟩:=hu;cases fuel with
 | zero=>simp [DataW.trod] at h
 | succ n =>
   unfold DataW.trod at h;rw [hu] at h;split at h <;> first | exact ⟨_,_,rfl⟩ | simp_all
theorem wid_at {H:Type} (a:Nat) (ha:a < 4) (z:DataW H):(Rows.laid_attestor_typecheck_widths:DataW H).atKey (.int .i64 (a:Nat)) z=.lit (.int .i64 (wid a:Nat)):=by
 match a,ha with
 | 0,_=>rfl
 | 1,_=>rfl
 | 2,_=>rfl
 | 3,_=>rfl
theorem key_wf (a:Nat) (ha:a < 4):(Lit.int .i64 (a:Nat)).wf=true:=by
 match a,ha with
 | 0,_=>rfl
 | 1,_=>rfl
 | 2,_=>rfl
 | 3,_=>rfl
theorem tabs {W:World} (h:laidMetH Tryz.prog laids W):Wx W:=by
 have h0:laidMet Tryz.prog (laids.filter fun x=>x.2.handleName?.isNone) W:=(show laidMet Tryz.prog _ W∧handlesMet Tryz.prog _ W from h).1;obtain ⟨ps,⟨_,_,_,_,_,_,_,_,_,_,⟨_,_,_,_,_,_,_,_,_,_,⟨g3,t3,cs3,f3,p3,q3,hg3,ht3,hv3,hd3,⟨g4,t4,cs4,f4,p4,q4,hg4,ht4,hv4,hd4,⟨_,_,_,_,_,_,_,_,_,_,⟨_,_,_,_,_,_,_,_,_,_,⟨_,_,_,_,_,_,_,_,_,_,⟨_,_,_,_,_,_,_,_,_,_,⟨g9,t9,cs9,f9,p9,q9,hg9,ht9,hv9,hd9,_,_⟩,_⟩,_⟩,_⟩,_⟩,_⟩,_⟩,_⟩,_⟩,_⟩:=h0;refine ⟨⟨?_,?_⟩,⟨?_⟩⟩
 · obtain rfl:=Option.some.inj (gPw.symm.trans hg3);obtain rfl:=Option.some.inj (gPt.symm.trans ht3);rw [pow_laid] at hd3;unfold Go.Lib.TabIs;rw [hv3,← Go.Lib.cells_of_tab Tryz.underlying551 Tryz.underlying52 c64 cP hd3]
 · obtain rfl:=Option.some.inj (gEr.symm.trans hg4);obtain rfl:=Option.some.inj (gEt.symm.trans ht4);obtain ⟨te,pe,e⟩:=iface_cell ⟨_,Tryz.underlying341⟩ hd4;have h0:=World.var?_cell gEr hv4 0;refine ⟨te,pe,h0.trans ?_⟩;rw [← Array.getElem?_toList,e];rfl
 · obtain rfl:=Option.some.inj (gWd.symm.trans hg9);obtain rfl:=Option.some.inj (gWt.symm.trans ht9);rcases Go.WideElems.open_map Tryz.underlying294 hd9 with ⟨_,hx⟩ | ⟨b,es,clk,n,_,hcs,hb,_,F,hx⟩
   · have:=congrArg Prod.fst hx;cases this
   · have h0:=World.var?_cell gWd hv9 0;rw [← Array.getElem?_toList,hcs] at h0;refine ⟨b,es,clk,h0,hb,fun a ha w' hb'=>?_⟩;have hz:(zeroValue 3).run Tryz.prog w'=.ok (.int .i64 0) w':=(by kernel_rfl);have hat:=wid_at (H:=Unit) a ha;rw [show (Rows.laid_attestor_typecheck_widths:DataW Unit)=_ from congrArg Prod.fst hx] at hat;rcases Go.Maps.fit_look false (Go.Maps.int_keyed Tryz.underlying3) Tryz.underlying294 hz hb' F (Go.Maps.keyOf_int_mk Tryz.underlying3 (key_wf a ha)) with ⟨_,_,h2⟩ | ⟨e0,y,_,_,hr,hy,hk,_⟩
     · have:=(h2 .nil).symm.trans (hat .nil);cases this
     · have hy1:=(hk .nil).symm.trans (hat .nil);have hr:(Instr.lookup 294 (.map (some b)) (.int .i64 (a:Nat)) false).run Tryz.prog w'=.ok e0.val w':=hr;rw [hr];unfold Go.WideElems.elemAt at hy;split at hy
       · rename_i hfm;obtain ⟨m,hc,he,_⟩:=DataW.trod_int Tryz.underlying3 hy;have he:y.1=.lit (.int .i64 m):=congrArg Prod.fst he;rw [he] at hy1;have hm:m=(wid a:Nat):=(by injection hy1 with hy1;injection hy1);have hv:e0.val=.int .i64 m:=by
           cases hev:e0.val with
           | agg l=>rw [hev] at hc hfm;simp [Value.formed,Tryz.underlying3] at hfm
           | _=>rw [hev] at hc;first | (simp [Value.cells] at hc;done) | simpa [Value.cells] using hc
         rw [hv,hm]
       · cases hy
noncomputable def z2j (os:Os):World:=World.doorLaid Tryz.prog 400 os
end Go.Proofs.YtlcnkadkbcoadaaGreatDoor
namespace Go.Proofs.YtlcnkadkbcoadaaGreatDoor
open Go.RowKit Go.Proofs.K
theorem s7same {N M:Nat→Prop} {u v:Value} {xs ys:List Nat} {w:World} (hu:slR 1 (numR .u8) N w [u] xs) (hv:slR 1 (numR .u8) M w [v] ys) :
   Calls Tryz.prog 14 #[u,v] w (q6j (xs=ys) w):=by
 obtain ⟨A1,c1,e,hm1,hm2⟩:=q2m hu;have hm:xs.length≤9223372036854775807:=by unfold maxLen at hm2;omega
 obtain rfl:u=.slice A1 xs.length c1:=by simpa using e
 obtain ⟨A2,c2,e,_,_⟩:=q2m hv;obtain rfl:v=.slice A2 ys.length c2:=by simpa using e
 refine q0j Tryz.func14 Y Tryz.ntmps14 Y ?_;by_cases hl:xs.length=ys.length
 · (refine q0b<|q0a<|a_B Y<|q0c<|tn<|q0b<|q0b<|q0a<|m_S Y<|Ls (q0i Y)<|m_S Y<|Ls (q0i Y)<|Ls (q2e Y Y (by omega))<|q0c<|tn<|q0h Y<|q0l<|tn<|q0b<|q0b<|q0a<|a_I Y<|q0c<|tn<|q0p ?_);refine q1e (fun q f w'=>∃ i,q=xs.length - i∧i≤xs.length∧f 0=.slice A1 xs.length c1∧f 1=.slice A2 ys.length c2∧f 5=.int .i64 (i:Nat)∧Ext w w'∧xs.take i=ys.take i) xs.length ?_ ?_
   · exact ⟨0,rfl,by omega,rfl,rfl,rfl,Ext.refl _,rfl⟩
   · rintro q f wr ⟨i,rfl,hi,f0,f1,f5,E,ht⟩;rw [fold f0,fold f1,fold f5];(refine q0b<|q0b<|q0a<|m_I Y<|m_S Y<|Ls (q0i Y)<|Ls (q2h Y Y)<|q0c<|tn ?_);refine q0x Y (fun h=>?_) (fun h=>?_)
     · have hi1:i < xs.length:=(by omega);obtain ⟨a,ha⟩:∃ a,xs[i]?=some a:=⟨_,List.getElem?_eq_getElem hi1⟩;obtain ⟨b,hb⟩:∃ b,ys[i]?=some b:=⟨_,List.getElem?_eq_getElem (by omega)⟩;obtain ⟨b1,o1,k1,y1,e1,_,_,hy1,hR1,hx1⟩:=q3q ((q1x (by decide) (q3n _)).ext hu E) ha;obtain ⟨b2,o2,k2,y2,e2,_,_,hy2,hR2,hx2⟩:=q3q ((q1x (by decide) (q3n _)).ext hv E) hb;cases e1
       cases e2
       obtain rfl:y1=[_]:=hx1;obtain rfl:y2=[_]:=hx2;(refine q0l<|tn<|q0b<|q0p<|q0b ?_);apply q1r 8 (by kernel_rfl);(apply DW_x (fun r w hA hH=>(q0d (v:=.slice _ _ _) Y).trans Y);apply DW_x (fun r w hA hH=>(q0d (v:=.int _ _) Y).trans Y);apply DW_x (fun r w hA hH=>(q0q Y Y (by omega)).trans Y));((with_reducible apply DW_x);(exact fun r w hA hH=>(q1p Y (hA.range hR1) (j:=0) Y Y).trans Y));(apply DW_x (fun r w hA hH=>(q0d (v:=.slice _ _ _) Y).trans Y);apply DW_x (fun r w hA hH=>(q0d (v:=.int _ _) Y).trans Y);apply DW_x (fun r w hA hH=>(q0q Y Y (by omega)).trans Y));((with_reducible apply DW_x);(exact fun r w hA hH=>(q1p Y (hA.range hR2) (j:=0) Y Y).trans Y));((with_reducible exact q2c);(exact rfl);(repeat (first | exact .inr (.inr (fun _ _=>by with_reducible rfl)) | (refine And.intro ?_ ?_) | exact .inr (.inl rfl) | exact .inl (by decide +kernel) | exact trivial | exact .inr (.inr (fun _ _=>rfl))));(try dsimp only [Nat.reduceAdd]));intro r w4 E4 _;by_cases hab:a=b
       · subst hab;(refine Ls (q2e Y Y (by omega))<|q0c<|tn<|q0h Y<|q0l<|bn<|tn<|q0a<|m_I Y<|Ls (q1c Y Y (by omega))<|a_I Y<|q0c<|tn ?_);exact ⟨xs.length - (i+1),by omega,i+1,rfl,by omega,rfl,rfl,rfl,E.trans E4,q4t ht ha hb⟩
       · (refine Ls (q2t Y Y (by omega))<|q0c<|tn<|q0r Y<|q0b<|q0a<|a_B Y<|q0c<|tn<|q0s<|br<|tr<|tr<|br<|tr ?_);exact q0f Y Y (v:=.bool false) Y ⟨false,rfl,⟨(fun h=>by cases h),fun h=>absurd (by rw [h,hb] at ha;exact (Option.some.inj ha).symm) hab⟩,E.trans E4⟩
     · obtain rfl:i=xs.length:=(by omega);(refine q1d<|te<|te<|bx<|tn<|q0b<|q0a<|a_B Y<|q0c<|tn<|q0s ?_);rw [List.take_of_length_le (Nat.le_refl _),List.take_of_length_le (by omega)] at ht;exact q0f Y Y (v:=.bool true) Y ⟨true,rfl,⟨fun _=>ht,fun _=>rfl⟩,E⟩
 · (refine q0b<|q0a<|a_B Y<|q0c<|tn<|q0b<|q0b<|q0a<|m_S Y<|Ls (q0i Y)<|m_S Y<|Ls (q0i Y)<|Ls (q2t Y Y (by omega))<|q0c<|tn<|q0r Y<|q0b<|q0a<|a_B Y<|q0c<|tn<|q0s<|tr ?_);exact q0f Y Y (v:=.bool false) Y ⟨false,rfl,⟨(fun h=>by cases h),fun h=>absurd (congrArg List.length h) hl⟩,Ext.refl _⟩
theorem joinB (lo hi lo' hi':Nat) (v u:Value) (a b:List Nat) (w:World) (ha:Row w lo hi 1 v a.length (ints .u8 a)) (hb:Row w lo' hi' 1 u b.length (ints .u8 b)) (hl:a.length+b.length≤1000000000) :
   Calls Tryz.prog 13 #[v,u] w fun e w'=>∃ q,e=.returned q∧Ext w w'∧w'.ownsRow w.heap.size 5 1 q (a.length+b.length) (ints .u8 (a++b)):=by
 refine q0j Tryz.func13 Y Tryz.ntmps13 Y ?_;(refine q0b<|q0a<|a_S Y<|q0c<|tn<|q0b<|q0a ?_);refine z0c (size:=1) ?_;intro q1 w1 E1 hs1 o1;(refine Ls (q0d (v:=v) Y) ?_);refine q1u (v:=q1) (u:=v) Y Y o1 (ha.ext E1) q1v (by omega) (by omega) (by omega) ?_;intro q2 w2 o2 g2 b2;have E2:Ext w w2:=E1.then g2 (fun g h=>(o1.lt g h).1);(refine Ls (q0m (v:=q2) Y)<|q0c<|tn<|q0b<|q0a<|Ls (q0d (v:=q2) Y)<|Ls (q0d (v:=u) Y) ?_);refine q1u (v:=q2) (u:=u) Y Y o2 (hb.ext E2) q1v (by omega) (by omega) E2.size ?_;intro q3 w3 o3 g3 b3;have E3:Ext w w3:=E2.then g3 (fun g h=>(o2.lt g h).1);(refine Ls (q0m (v:=q3) Y)<|q0c<|tn<|q0b<|q0a<|Ls (q0d (v:=q3) Y)<|Ls (q0m (v:=q3) Y)<|q0c<|tn<|q0s ?_);refine q0f Y Y (v:=q3) Y ?_;refine ⟨q3,rfl,E3,?_⟩;rw [q4p];simpa using o3
theorem q5x:CertE Ce.zero where
 root:=⟨rfl,fun b hb=>by rw [(List.mem_replicate.1 hb).2];decide⟩
 log:=by decide
 sh:=⟨by decide,by decide,by decide,by decide⟩
 q:=fun _ h=>by cases h
 rows:=fun _ h=>by cases h
 ps:=fun _ h=>by cases h
 pz:=fun _ h=>by cases h
 batch:=fun _ h=>by cases h
 v:=⟨by decide,by decide⟩
 orow:=fun _ h=>by cases h
 ornd:=fun _ h=>by cases h
 nodes:=fun _ h=>by cases h
theorem gfl (s:ByteArray) (lg:Int) (x:Nat) (hp:∀ w,Wx w→Calls Tryz.prog 9 #[.string s,.agg strZ.toArray,.int .i64 lg] w (PrE x w)) (w:World) (hw:Wx w) :
   Calls Tryz.prog 15 #[.string s,.int .i64 lg,.int .i64 (x:Nat)] w fun e w'=>e=.returned (.bool true)∧Ext w w':=by
 refine q0j Tryz.func15 Y Tryz.ntmps15 Y ?_;(refine q0b<|q0a<|a_B Y<|q0c<|tn<|q0b<|q0a<|m_R Y ?_);refine Ls (q1t (r:=[]) (Parts.nil _)) ?_;(refine m_I Y ?_);refine L_fn (hp w hw) Y ?_;rintro e w1 ⟨rfl,E1⟩;refine ⟨_,rfl,?_⟩;(refine m_T Y<|Ls (q0n Y Y)<|Ls (q0n Y Y) ?_);refine q0w ?_;intro g2 w2 B2 hg2 E2 hs2;refine q0t (l:=zerC) Y Y Y (q3t.one (N:=fun _=>True) (w:=w) q2y) B2 Y ?_;intro w3 B3 hg3 hs3;(refine a_I Y<|q0c<|tn<|q0b<|q0a<|Ls (q2i Y B3 Y) ?_);refine Ls (q1t (r:=[]) (Parts.nil _)) ?_;refine L_fn (q6j.t (s22same (N:=fun _=>True) (M:=fun _=>True) (x:=zerC) (y:=zerC) q2y q2y q5x q5x) Y) Y ?_;rintro e w4 ⟨rfl,E4⟩;refine ⟨_,rfl,?_⟩;have h1s:=E1.size;have h2s:=E2.size;(refine m_B Y<|Lg2 Y Y Y (q0d (v:=.int _ _) Y)<|Lg2 Y Y Y (q0d (v:=.int _ _) Y)<|Lg2 Y Y Y (q2j Y Y (by omega))<|Ls (q0o (v:=.bool _) Y Y)<|a_B Y<|q0c<|tn<|q0s ?_);exact q0f Y Y (v:=.bool true) Y ⟨rfl,((E1.trans E2).then hg3 fun q h=>by cases h;omega).trans E4⟩
end Go.Proofs.YtlcnkadkbcoadaaGreatDoor
namespace Ce
def okE (e:EE):Prop:=e.1 < pr∧e.2 < pr
def okR (r:List EE):Prop:=r.length < 4294967296∧∀ e∈r,okE e
def okRs (l:List (List EE)):Prop:=l.length < 4294967296∧∀ r∈l,okR r
structure okP (p:LP):Prop where
 r:okRs p.rounds
 l:okE p.left
 t:okE p.right
 n:okR p.line
structure Val (c:Cert):Prop where
 q:c.q.length < 4294967296∧∀ b∈c.q,b < 256
 log:c.log < 4294967296
 root:c.root.length=32∧∀ b∈c.root,b < 256
 sR:c.sR < 4294967296
 sC:c.sC < 4294967296
 sB:c.sB < 4294967296
 sT:c.sT < 4294967296
 sums:c.sums.length < 4294967296∧∀ x∈c.sums,x < 18446744073709551616
 rows:okRs c.rows
 ps:c.ps.length < 4294967296∧∀ p∈c.ps,okP p
 pz:c.pz.length < 4294967296∧∀ p∈c.pz,okP p
 batch:okRs c.batch
 v:okE c.v
 orow:okR c.orow
 ornd:okR c.ornd
 cols:c.cols.length < 4294967296∧∀ r∈c.cols,r.length < 4294967296∧∀ e∈r,e < pr
 nodes:c.nodes.length < 4294967296∧∀ e∈c.nodes,e.length=32∧∀ b∈e,b < 256
theorem okE_c {e:EE} (h:okE e):extC.ok e:=by
 have h1:=h.1;have h2:=h.2;unfold pr at h1 h2;refine ⟨⟨q8b (by show e.1 < 256 ^ 8;omega),q8b (by show e.2 < 256 ^ 8;omega)⟩,?_⟩;show (decide (e.1 < pr) && decide (e.2 < pr))=true;rw [decide_eq_true h.1,decide_eq_true h.2];rfl
theorem okR_c {r:List EE} (h:okR r):roundC.ok r:=⟨h.1,fun e he=>okE_c (h.2 e he)⟩
theorem okRs_c {l:List (List EE)} (h:okRs l):(lst roundC).ok l:=⟨h.1,fun e he=>okR_c (h.2 e he)⟩
theorem okP_c {p:LP} (h:okP p):lpC.ok p:=⟨⟨okRs_c h.r,okE_c h.l,okE_c h.t,okR_c h.n⟩,rfl⟩
theorem num4 {x:Nat} (h:x < 4294967296):(numC 4).ok x:=q8b h
theorem Val.ok {c:Cert} (h:Val c):certC.ok c :=
 ⟨⟨⟨h.q.1,fun b hb=>q8b (by show b < 256 ^ 1;have:=h.q.2 b hb;omega)⟩,num4 h.log,⟨h.root.1,h.root.2⟩,num4 h.sR,num4 h.sC,num4 h.sB,num4 h.sT,⟨h.sums.1,fun x hx=>q8b (h.sums.2 x hx)⟩,okRs_c h.rows,⟨h.ps.1,fun p hp=>okP_c (h.ps.2 p hp)⟩,⟨h.pz.1,fun p hp=>okP_c (h.pz.2 p hp)⟩,okRs_c h.batch,okE_c h.v,okR_c h.orow,okR_c h.ornd,
   ⟨h.cols.1,fun r hr=>⟨(h.cols.2 r hr).1,fun e he=>⟨q8b (by have:=(h.cols.2 r hr).2 e he;unfold pr at this;show e < 256 ^ 8;omega),decide_eq_true ((h.cols.2 r hr).2 e he)⟩⟩⟩,⟨h.nodes.1,fun e he=>⟨(h.nodes.2 e he).1,(h.nodes.2 e he).2⟩⟩⟩,rfl⟩
end Ce
namespace Go.Proofs.YtlcnkadkbcoadaaGreatDoor
open Go.RowKit Go.Proofs.K
theorem okE64 {e:Nat × Nat} (h:Ce.okE e):E64 e:=by
 obtain ⟨h1,h2⟩:=h;unfold Ce.pr at h1 h2;exact ⟨by omega,by omega⟩
theorem okRd {r:List (Nat × Nat)} (h:Ce.okR r):Rd64 r:=⟨h.1,fun e he=>okE64 (h.2 e he)⟩
theorem okLp {p:Ce.LP} (h:Ce.okP p):Lp64 p:=⟨h.r.1,fun r hr=>okRd (h.r.2 r hr),okE64 h.l,okE64 h.t,okRd h.n⟩
theorem val64 {c:Ce.Cert} (h:Ce.Val c) (hl:(Ce.certC.w c).length≤99990000):Cert64 c where
 root:=h.root.1
 log:=h.log
 sR:=h.sR
 sC:=h.sC
 sB:=h.sB
 sT:=h.sT
 q:=h.q.1
 sums:=h.sums.1
 rows:=⟨h.rows.1,fun r hr=>okRd (h.rows.2 r hr)⟩
 ps:=⟨h.ps.1,fun p hp=>okLp (h.ps.2 p hp)⟩
 pz:=⟨h.pz.1,fun p hp=>okLp (h.pz.2 p hp)⟩
 batch:=⟨h.batch.1,fun r hr=>okRd (h.batch.2 r hr)⟩
 v:=okE64 h.v
 orow:=okRd h.orow
 ornd:=okRd h.ornd
 cols:=⟨h.cols.1,fun r hr=>⟨(h.cols.2 r hr).1,fun e he=>by have:=(h.cols.2 r hr).2 e he;unfold Ce.pr at this;omega⟩⟩
 nodes:=h.nodes.1
 all:=hl
theorem DecA.err {l:List Nat} {w w':World} {e:Ending} {k:Nat} (h:DecA l w e w') (hd:Ce.decode l=.err k):∃ y,e=.returned (.tuple #[.agg y.toArray,.int .i64 (k:Nat)])∧Ext w w'∧cerR (fun k=>w.heap.size≤k∧k < w'.heap.size) w' y Ce.zero:=by
 obtain ⟨E,y,c,x,he,hy,hx,hz⟩:=h;rw [hd] at hx;split at hx
 · cases hx
 · rename_i h0;cases hx
   rw [hz h0] at hy;exact ⟨y,he,E,hy⟩
theorem DecA.ok {l:List Nat} {w w':World} {e:Ending} {c:Ce.Cert} (h:DecA l w e w') (hd:Ce.decode l=.ok c):∃ y,e=.returned (.tuple #[.agg y.toArray,.int .i64 0])∧Ext w w'∧cerR (fun k=>w.heap.size≤k∧k < w'.heap.size) w' y c:=by
 obtain ⟨E,y,c',x,he,hy,hx,hz⟩:=h;rw [hd] at hx;split at hx
 · rename_i h0;cases hx
   subst h0;exact ⟨y,he,E,hy⟩
 · cases hx
end Go.Proofs.YtlcnkadkbcoadaaGreatDoor
namespace Go.Proofs.YtlcnkadkbcoadaaGreatDoor
open Go.RowKit Go.Proofs.K
theorem gencode (N:Nat→Prop) (c:Ce.Cert) (qb:ByteArray) (s1 p1 p2 p3 b1 o1 o2 o3 o4:Value) (w:World) (hc:Cert64 c) (hw:CerAt N w c qb s1 p1 p2 p3 b1 o1 o2 o3 o4) :
   Calls Tryz.prog 12 #[.agg (cerC c qb s1 p1 p2 p3 b1 o1 o2 o3 o4).toArray] w fun e w'=>∃ q,e=.returned q∧Ext w w'∧w'.ownsRow w.heap.size 5 1 q (Ce.certC.w c).length (ints .u8 (Ce.certC.w c)):=by
 refine q0j Tryz.func12 Y Tryz.ntmps12 Y ?_;have hw:=hw.tight;obtain ⟨C,hC⟩:∃ C,C=cerC c qb s1 p1 p2 p3 b1 o1 o2 o3 o4:=⟨_,rfl⟩;have C0:C[0]?=some (.string qb):=by rw [hC];rfl
 have C1:C[1]?=some (.int .i64 (c.log:Nat)):=by rw [hC];rfl
 have C2:(C.drop 2).take 32=ints .u8 c.root:=by
   rw [hC];show ((ints .u8 c.root++_).take 32)=_;rw [List.take_append_of_le_length (by rw [q0v,hc.root];omega),List.take_of_length_le (by rw [q0v,hc.root];omega)]
 have C34:C[34]?=some (.int .i64 (c.sR:Nat)):=by rw [hC];exact q2w hc.root (j:=0) Y
 have C35:C[35]?=some (.int .i64 (c.sC:Nat)):=by rw [hC];exact q2w hc.root (j:=1) Y
 have C36:C[36]?=some (.int .i64 (c.sB:Nat)):=by rw [hC];exact q2w hc.root (j:=2) Y
 have C37:C[37]?=some (.int .i64 (c.sT:Nat)):=by rw [hC];exact q2w hc.root (j:=3) Y
 have C38:C[38]?=some s1:=by rw [hC];exact q2w hc.root (j:=4) Y
 have C39:C[39]?=some p1:=by rw [hC];exact q2w hc.root (j:=5) Y
 have C40:C[40]?=some p2:=by rw [hC];exact q2w hc.root (j:=6) Y
 have C41:C[41]?=some p3:=by rw [hC];exact q2w hc.root (j:=7) Y
 have C42:C[42]?=some b1:=by rw [hC];exact q2w hc.root (j:=8) Y
 have C45:C[45]?=some o1:=by rw [hC];exact q2w hc.root (j:=11) Y
 have C46:C[46]?=some o2:=by rw [hC];exact q2w hc.root (j:=12) Y
 have C47:C[47]?=some o3:=by rw [hC];exact q2w hc.root (j:=13) Y
 have C48:C[48]?=some o4:=by rw [hC];exact q2w hc.root (j:=14) Y
 have C43:(C.drop 43).take 2=exC c.v.1 c.v.2:=by
   apply List.ext_getElem?;intro j;rw [List.getElem?_take];match j with
   | 0=>rw [if_pos (by omega),List.getElem?_drop,hC];exact q2w hc.root (j:=9) Y
   | 1=>rw [if_pos (by omega),List.getElem?_drop,hC];exact q2w hc.root (j:=10) Y
   | j+2=>rw [if_neg (by omega)];rfl
 rw [← hC];clear hC;(refine q0b<|q0a ?_);refine q2s Y ?_;intro g1 w1 B1 hg1 E1 hs1;(refine a_S Y<|q0c<|tn<|q0b<|q0a ?_);refine Ls (q1t (r:=[]) (zs':=[[.slice none 0 0]]) (Parts.nil _)) ?_;refine q2s (l:=[.slice none 0 0]) Y ?_;intro g2 w2 B2 hg2 E2 hs2;have B1':=B1.ext E2;(refine a_P Y<|q0c<|tn<|q0b<|q0a<|m_P Y<|Ls (q0g Y)<|Ls (X_ld Y B1' C0) ?_);have hqs:qb.size=c.q.length:=by rw [hw.q,q3u]
 have hq:=hc.q;refine L_toBytes Y (by unfold maxLen;omega) ?_;intro q3 w3 E3 r3;have hq3:=q3s r3;(refine m_P Y ?_);refine Ls (q1i (vf:=[ptr g2]) (vc:=[]) Y Y) ?_;skip;have hs3:=E3.size;have e3:EncAt w3.heap.size g2 w3 []:=⟨.slice none 0 0,B2.ext E3,⟨rfl,.inl ⟨rfl,rfl⟩⟩⟩;have hN:Far (fun k=>N k∧k < w.heap.size) w3.heap.size g2:=fun q hq=>⟨by omega,by have:=E1.size;have:=E2.size;omega⟩;have r3':slR 1 (numR .u8) (fun k=>w2.heap.size≤k∧k < w3.heap.size) w3 [q3] c.q:=z4j (by rw [hw.q,q3u];exact RowN.of r3);have hall:=hc.all;rw [cert_w] at hall;simp only [List.length_append,z4u,ext_len,round_len,Ce.byN_len,hc.root] at hall;have hqlt:∀ e∈c.q,e < 256:=by rw [hw.q];exact sb_lt qb
 have B1'':=B1'.ext E3;have hp2:g2 < w3.heap.size:=e3.lt;have hw3:=hw.ext (E1.trans (E2.trans E3));clear hw;refine L_fn (gslB (q3n _) 58 #[ptr g2] #[] w3.heap.size g2 (fun k=>w2.heap.size≤k∧k < w3.heap.size) Ce.byteC.w c.q q3 [] w3 (fun q hq=>⟨by omega,by omega⟩) (elemB hqlt) r3' hq (by simp only [List.length_nil];omega) (Nat.le_refl _) e3) Y ?_;rintro e w4 ⟨rfl,e4,k4⟩;refine ⟨_,rfl,?_⟩;obtain ⟨a4,ha4⟩:∃ a,a=[]++(Ce.byN 4 c.q.length++c.q.flatMap Ce.byteC.w):=⟨_,rfl⟩;have hl4:a4.length=4+(c.q.flatMap Ce.byteC.w).length:=by rw [ha4];simp only [List.length_append,List.length_nil,Ce.byN_len,Nat.zero_add]
 rw [← ha4] at e4;have B4:=k4.k.blk B1'' (by omega) (.inr (by decide));have hw4:=hw3.keep k4.k hN;have hs4:=k4.k.size;(refine q0c<|tn<|q0b<|q0a<|m_P Y<|Ls (q0g Y)<|Ls (X_ld Y B4 C1) ?_);refine L_fn (gint w3.heap.size g2 c.log _ w4 hc.log (by omega) k4.k.size e4) Y ?_;rintro e w5 ⟨rfl,e5,k5⟩;refine ⟨_,rfl,?_⟩;obtain ⟨a5,ha5⟩:∃ a,a=a4++Ce.byN 4 c.log:=⟨_,rfl⟩;have hl5:a5.length=a4.length+4:=by rw [ha5,List.length_append,Ce.byN_len]
 rw [← ha5] at e5;have B5:=k5.k.blk B4 (by omega) (.inr (by decide));have hw5:=hw4.keep k5.k hN;have hs5:=k5.k.size;(refine q0c<|tn<|q0b<|q0a<|m_P Y<|Ls (q0g Y)<|Ls (q5b (l:=ints .u8 c.root) Y B5 C2 (by rw [q0v];exact hc.root)) ?_);refine L_fn (gdigest w3.heap.size g2 c.root _ w5 hc.root (by omega) (Nat.le_trans hs4 hs5) e5) Y ?_;rintro e w6 ⟨rfl,e6,k6⟩;refine ⟨_,rfl,?_⟩;obtain ⟨a6,ha6⟩:∃ a,a=a5++c.root:=⟨_,rfl⟩;have hl6:a6.length=a5.length+32:=by rw [ha6,List.length_append,hc.root]
 rw [← ha6] at e6;have B6:=k6.k.blk B5 (by omega) (.inr (by decide));have hw6:=hw5.keep k6.k hN;have hs6:=k6.k.size;(refine q0c<|tn<|q0b<|q0b<|q0a<|Ls (q0g Y)<|Ls (q0g Y)<|Ls (X_ld Y B6 C34)<|Ls (q0g Y)<|Ls (q0g Y)<|Ls (X_ld Y B6 C35)<|Ls (q0g Y)<|Ls (q0g Y)<|Ls (X_ld Y B6 C36)<|Ls (q0g Y)<|Ls (q0g Y)<|Ls (X_ld Y B6 C37) ?_);obtain ⟨sh,hsh⟩:∃ sh,sh=[c.sR,c.sC,c.sB,c.sT]:=⟨_,rfl⟩;have hshl:sh.length=4:=by rw [hsh];rfl
 have hsh4:∀ x∈sh,x < 4294967296:=by
   rw [hsh];intro x hx;simp only [List.mem_cons,List.not_mem_nil,or_false] at hx;rcases hx with rfl | rfl | rfl | rfl
   · exact hc.sR
   · exact hc.sC
   · exact hc.sB
   · exact hc.sT
 refine Ls (z0a (z:=[.int .i64 0]) (zs':=[[.int .i64 (c.sR:Nat)],[.int .i64 (c.sC:Nat)],[.int .i64 (c.sB:Nat)],[.int .i64 (c.sT:Nat)]]) (cs:=ints .i64 sh) (len:=4) ?_ Y (by rw [hsh];rfl)) ?_
 · repeat (first | exact Parts.nil _ | refine Parts.cons Y Y Y Y ?_)
 have E7:Ext w6 (w6.alloc (.cells (ints .i64 sh).toArray 3)):=q1k _ _;have B7:Blk (w6.alloc (.cells (ints .i64 sh).toArray 3)) w6.heap.size 3 (ints .i64 sh):=Blk.new _ _ _;generalize w6.alloc (.cells (ints .i64 sh).toArray 3)=w7 at *;generalize w6.heap.size=g7 at *;(refine Ls (q0i Y)<|m_I Y<|q0c<|tn<|q0p ?_);have hs7:=E7.size;have k37:=k4.trans (k5.trans (k6.trans (EncK.of_ext (B:=w3.heap.size) (p:=g2) E7)));have B17:=B6.ext E7;have e7:=e6.ext E7;have hw7:=hw6.ext E7;have hg7:g7 < w7.heap.size:=q2b B7;have hs37:=k37.k.size;clear B1 B1' B1'' B4 B5 B6 hw3 hw4 hw5 hw6 e3 e4 e5 e6 r3 r3';refine q1e (fun q f w'=>∃ i,q=4 - i∧i≤4∧f 1=ptr g1∧f 3=ptr g2∧f 35=.slice (some ⟨g7,0,none⟩) 4 4∧f 36=.int .i64 4∧f 37=.int .i64 (i:Nat)∧EncAt w3.heap.size g2 w' (a6++(sh.take i).flatMap (Ce.byN 4))∧EncK w3.heap.size g2 w7 w') 4 ?_ ?_
 · exact ⟨0,rfl,by omega,rfl,rfl,rfl,rfl,rfl,by simpa using e7,EncK.refl _ _ _⟩
 · rintro q f w8 ⟨i,rfl,hi,f1,f3,f35,f36,f37,e8,k8⟩;rw [fold f1,fold f3,fold f35,fold f36,fold f37];have hs8:=k8.k.size;(refine q0b<|q0a<|Ls (q2h Y Y)<|q0c<|tn<|q0b ?_);refine q0x Y (fun h=>?_) (fun h=>?_)
   · have hi':i < 4:=(by omega);obtain ⟨x,hx⟩:∃ x,sh[i]?=some x:=⟨_,List.getElem?_eq_getElem (by omega)⟩;have B8:=k8.k.blk B7 (by omega) (.inr (by decide));have hx4:=hsh4 x (List.mem_of_getElem? hx);(refine q0l<|tn<|q0b<|q0p<|q0b<|q0a<|Ls (q0q Y Y (by omega))<|Ls (q1p Y (B8.range (o:=0) fun j u h=>by rw [Nat.zero_add];exact h) (j:=i) (by omega) (z2l hx))<|a_I Y<|q0c<|tn<|q0a<|m_P Y<|m_I Y ?_);refine L_fn (gint w3.heap.size g2 x _ w8 hx4 (by rw [List.length_append,by4_len,List.length_take];omega) (by omega) e8) Y ?_;rintro e w9 ⟨rfl,e9,k9⟩;refine ⟨_,rfl,?_⟩;(refine q0c<|bn<|tn<|q0a<|Ls (q1c Y Y (by omega))<|m_I Y<|q0c<|tn ?_);refine ⟨4 - (i+1),by omega,i+1,rfl,by omega,rfl,rfl,rfl,rfl,rfl,?_,k8.trans k9⟩;rw [q4x (Ce.byN 4) sh i x hx,← List.append_assoc];exact e9
   · obtain rfl:i=4:=(by omega);have B8:=k8.k.blk B17 (by omega) (.inr (by decide));have hw8:=hw7.keep k8.k hN;obtain ⟨a8,ha8⟩:∃ a,a=a6++(sh.take 4).flatMap (Ce.byN 4):=⟨_,rfl⟩;have hl8:a8.length=a6.length+16:=(by rw [ha8,List.length_append,by4_len,List.length_take];omega);rw [← ha8] at e8;clear B17 hw7 B7;have hs1:=hw8.s1;have cs1:=(q1x (by decide) q3x).one hs1 s1 (List.mem_singleton.2 Y);(refine q1d<|te<|te<|bx<|tn<|q0b<|q0a<|m_P Y<|Ls (q0g Y)<|Ls (X_ld Y B8 C38)<|m_P Y ?_);refine Ls (q1i (vf:=[ptr g2]) (vc:=[]) Y Y) ?_;skip;refine L_fn (gslI q3x 62 #[ptr g2] #[] w3.heap.size g2 (fun k=>N k∧k < w.heap.size) (Ce.numC 8).w c.sums s1 _ w8 hN elemI hs1 hc.sums (by omega) (by omega) e8) Y ?_;rintro e w9 ⟨rfl,e9,k9⟩;refine ⟨_,rfl,?_⟩;obtain ⟨a9,ha9⟩:∃ a,a=a8++(Ce.byN 4 c.sums.length++c.sums.flatMap (Ce.numC 8).w):=⟨_,rfl⟩;have hl9:a9.length=a8.length+(4+(c.sums.flatMap (Ce.numC 8).w).length):=(by rw [ha9];simp only [List.length_append,Ce.byN_len]);rw [← ha9] at e9;have B9:=k9.k.blk B8 (by omega) (.inr (by decide));have hw9:=hw8.keep k9.k hN;have hs9:=k9.k.size;have kk9:=k8.trans k9;clear B8 hw8 e8 k9;have hp1:=hw9.p1;have cp1:=q1z.one hp1 p1 (List.mem_singleton.2 Y);(refine q0c<|tn<|q0b<|q0a<|m_P Y<|Ls (q0g Y)<|Ls (q0g Y)<|Ls (X_ld Y B9 C39)<|m_P Y ?_);refine Ls (q1i (vf:=[ptr g2]) (vc:=[]) Y Y) ?_;skip;refine L_fn (gslR q1s 64 #[ptr g2] #[] w3.heap.size g2 (fun k=>N k∧k < w.heap.size) Ce.roundC.w c.rows p1 _ w9 hN (elemR hN hc.rows.2) hp1 hc.rows.1 (by omega) (by omega) e9) Y ?_;rintro e w10 ⟨rfl,e10,k10⟩;refine ⟨_,rfl,?_⟩;obtain ⟨a10,ha10⟩:∃ a,a=a9++(Ce.byN 4 c.rows.length++c.rows.flatMap Ce.roundC.w):=⟨_,rfl⟩;have hl10:a10.length=a9.length+(4+(c.rows.flatMap Ce.roundC.w).length):=(by rw [ha10];simp only [List.length_append,Ce.byN_len]);rw [← ha10] at e10;have B10:=k10.k.blk B9 (by omega) (.inr (by decide));have hw10:=hw9.keep k10.k hN;have hs10:=k10.k.size;have kk10:=kk9.trans k10;clear B9 hw9 e9 k10;have hp2:=hw10.p2;have cp2:=q2u.one hp2 p2 (List.mem_singleton.2 Y);(refine q0c<|tn<|q0b<|q0a<|m_P Y<|Ls (q0g Y)<|Ls (q0g Y)<|Ls (X_ld Y B10 C40)<|m_P Y ?_);refine Ls (q1i (vf:=[ptr g2]) (vc:=[]) Y Y) ?_;skip;refine L_fn (gslL z2i 66 #[ptr g2] #[] w3.heap.size g2 (fun k=>N k∧k < w.heap.size) Ce.lpC.w c.ps p2 _ w10 hN (elemL hN hc.ps.2) hp2 hc.ps.1 (by omega) (by omega) e10) Y ?_;rintro e w11 ⟨rfl,e11,k11⟩;refine ⟨_,rfl,?_⟩;obtain ⟨a11,ha11⟩:∃ a,a=a10++(Ce.byN 4 c.ps.length++c.ps.flatMap Ce.lpC.w):=⟨_,rfl⟩;have hl11:a11.length=a10.length+(4+(c.ps.flatMap Ce.lpC.w).length):=(by rw [ha11];simp only [List.length_append,Ce.byN_len]);rw [← ha11] at e11;have B11:=k11.k.blk B10 (by omega) (.inr (by decide));have hw11:=hw10.keep k11.k hN;have hs11:=k11.k.size;have kk11:=kk10.trans k11;clear B10 hw10 e10 k11;have hp3:=hw11.p3;have cp3:=q2u.one hp3 p3 (List.mem_singleton.2 Y);(refine q0c<|tn<|q0b<|q0a<|m_P Y<|Ls (q0g Y)<|Ls (q0g Y)<|Ls (X_ld Y B11 C41)<|m_P Y ?_);refine Ls (q1i (vf:=[ptr g2]) (vc:=[]) Y Y) ?_;skip;refine L_fn (gslL z2i 66 #[ptr g2] #[] w3.heap.size g2 (fun k=>N k∧k < w.heap.size) Ce.lpC.w c.pz p3 _ w11 hN (elemL hN hc.pz.2) hp3 hc.pz.1 (by omega) (by omega) e11) Y ?_;rintro e w12 ⟨rfl,e12,k12⟩;refine ⟨_,rfl,?_⟩;obtain ⟨a12,ha12⟩:∃ a,a=a11++(Ce.byN 4 c.pz.length++c.pz.flatMap Ce.lpC.w):=⟨_,rfl⟩;have hl12:a12.length=a11.length+(4+(c.pz.flatMap Ce.lpC.w).length):=(by rw [ha12];simp only [List.length_append,Ce.byN_len]);rw [← ha12] at e12;have B12:=k12.k.blk B11 (by omega) (.inr (by decide));have hw12:=hw11.keep k12.k hN;have hs12:=k12.k.size;have kk12:=kk11.trans k12;clear B11 hw11 e11 k12;have hb1:=hw12.b1;have cb1:=q1z.one hb1 b1 (List.mem_singleton.2 Y);(refine q0c<|tn<|q0b<|q0a<|m_P Y<|Ls (q0g Y)<|Ls (X_ld Y B12 C42)<|m_P Y ?_);refine Ls (q1i (vf:=[ptr g2]) (vc:=[]) Y Y) ?_;skip;refine L_fn (gslR q1s 64 #[ptr g2] #[] w3.heap.size g2 (fun k=>N k∧k < w.heap.size) Ce.roundC.w c.batch b1 _ w12 hN (elemR hN hc.batch.2) hb1 hc.batch.1 (by omega) (by omega) e12) Y ?_;rintro e w13 ⟨rfl,e13,k13⟩;refine ⟨_,rfl,?_⟩;obtain ⟨a13,ha13⟩:∃ a,a=a12++(Ce.byN 4 c.batch.length++c.batch.flatMap Ce.roundC.w):=⟨_,rfl⟩;have hl13:a13.length=a12.length+(4+(c.batch.flatMap Ce.roundC.w).length):=(by rw [ha13];simp only [List.length_append,Ce.byN_len]);rw [← ha13] at e13;have B13:=k13.k.blk B12 (by omega) (.inr (by decide));have hw13:=hw12.keep k13.k hN;have hs13:=k13.k.size;have kk13:=kk12.trans k13;clear B12 hw12 e12 k13;(refine q0c<|tn<|q0b<|q0a<|m_P Y<|Ls (q0g Y)<|Ls (q5b (l:=exC c.v.1 c.v.2) Y B13 C43 Y) ?_);refine L_fn (gext w3.heap.size g2 c.v.1 c.v.2 _ w13 hc.v.1 hc.v.2 (by omega) (by omega) e13) Y ?_;rintro e w14 ⟨rfl,e14,k14⟩;refine ⟨_,rfl,?_⟩;obtain ⟨a14,ha14⟩:∃ a,a=a13++(Ce.byN 8 c.v.1++Ce.byN 8 c.v.2):=⟨_,rfl⟩;have hl14:a14.length=a13.length+(16):=(by rw [ha14];simp only [List.length_append,Ce.byN_len]);rw [← ha14] at e14;have B14:=k14.k.blk B13 (by omega) (.inr (by decide));have hw14:=hw13.keep k14.k hN;have hs14:=k14.k.size;have kk14:=kk13.trans k14;clear B13 hw13 e13 k14;have ho1:=hw14.o1;have co1:=q1s.one ho1 o1 (List.mem_singleton.2 Y);(refine q0c<|tn<|q0b<|q0a<|m_P Y<|Ls (q0g Y)<|Ls (q0g Y)<|Ls (X_ld Y B14 C45)<|m_P Y ?_);refine Ls (q1i (vf:=[ptr g2]) (vc:=[]) Y Y) ?_;skip;refine L_fn (gslE q6w 67 #[ptr g2] #[] w3.heap.size g2 (fun k=>N k∧k < w.heap.size) Ce.extC.w c.orow o1 _ w14 hN (elemE hc.orow.2) ho1 hc.orow.1 (by omega) (by omega) e14) Y ?_;rintro e w15 ⟨rfl,e15,k15⟩;refine ⟨_,rfl,?_⟩;obtain ⟨a15,ha15⟩:∃ a,a=a14++(Ce.byN 4 c.orow.length++c.orow.flatMap Ce.extC.w):=⟨_,rfl⟩;have hl15:a15.length=a14.length+(4+(c.orow.flatMap Ce.extC.w).length):=(by rw [ha15];simp only [List.length_append,Ce.byN_len]);rw [← ha15] at e15;have B15:=k15.k.blk B14 (by omega) (.inr (by decide));have hw15:=hw14.keep k15.k hN;have hs15:=k15.k.size;have kk15:=kk14.trans k15;clear B14 hw14 e14 k15;have ho2:=hw15.o2;have co2:=q1s.one ho2 o2 (List.mem_singleton.2 Y);(refine q0c<|tn<|q0b<|q0a<|m_P Y<|Ls (q0g Y)<|Ls (q0g Y)<|Ls (X_ld Y B15 C46)<|m_P Y ?_);refine Ls (q1i (vf:=[ptr g2]) (vc:=[]) Y Y) ?_;skip;refine L_fn (gslE q6w 67 #[ptr g2] #[] w3.heap.size g2 (fun k=>N k∧k < w.heap.size) Ce.extC.w c.ornd o2 _ w15 hN (elemE hc.ornd.2) ho2 hc.ornd.1 (by omega) (by omega) e15) Y ?_;rintro e w16 ⟨rfl,e16,k16⟩;refine ⟨_,rfl,?_⟩;obtain ⟨a16,ha16⟩:∃ a,a=a15++(Ce.byN 4 c.ornd.length++c.ornd.flatMap Ce.extC.w):=⟨_,rfl⟩;have hl16:a16.length=a15.length+(4+(c.ornd.flatMap Ce.extC.w).length):=(by rw [ha16];simp only [List.length_append,Ce.byN_len]);rw [← ha16] at e16;have B16:=k16.k.blk B15 (by omega) (.inr (by decide));have hw16:=hw15.keep k16.k hN;have hs16:=k16.k.size;have kk16:=kk15.trans k16;clear B15 hw15 e15 k16;have ho3:=hw16.o3;have co3:=q6g.one ho3 o3 (List.mem_singleton.2 Y);(refine q0c<|tn<|q0b<|q0a<|m_P Y<|Ls (q0g Y)<|Ls (q0g Y)<|Ls (X_ld Y B16 C47)<|m_P Y ?_);refine Ls (q1i (vf:=[ptr g2]) (vc:=[]) Y Y) ?_;skip;refine L_fn (gslC (q1x (by decide) (q3n _)) 70 #[ptr g2] #[] w3.heap.size g2 (fun k=>N k∧k < w.heap.size) (Ce.lst Ce.wordC).w c.cols o3 _ w16 hN (elemC hN hc.cols.2) ho3 hc.cols.1 (by omega) (by omega) e16) Y ?_;rintro e w17 ⟨rfl,e17,k17⟩;refine ⟨_,rfl,?_⟩;obtain ⟨a17,ha17⟩:∃ a,a=a16++(Ce.byN 4 c.cols.length++c.cols.flatMap (Ce.lst Ce.wordC).w):=⟨_,rfl⟩;have hl17:a17.length=a16.length+(4+(c.cols.flatMap (Ce.lst Ce.wordC).w).length):=(by rw [ha17];simp only [List.length_append,Ce.byN_len]);rw [← ha17] at e17;have B17:=k17.k.blk B16 (by omega) (.inr (by decide));have hw17:=hw16.keep k17.k hN;have hs17:=k17.k.size;have kk17:=kk16.trans k17;clear B16 hw16 e16 k17;have ho4:=hw17.o4;have co4:=q6f.one ho4 o4 (List.mem_singleton.2 Y);(refine q0c<|tn<|q0b<|q0a<|m_P Y<|Ls (q0g Y)<|Ls (q0g Y)<|Ls (q0g Y)<|Ls (X_ld Y B17 C48)<|m_P Y ?_);refine Ls (q1i (vf:=[ptr g2]) (vc:=[]) Y Y) ?_;skip;refine L_fn (gslD (byR_ok 32) 60 #[ptr g2] #[] w3.heap.size g2 (fun k=>N k∧k < w.heap.size) (Ce.raw 32).w c.nodes o4 _ w17 hN elemD ho4 hc.nodes (by omega) (by omega) e17) Y ?_;rintro e w18 ⟨rfl,e18,k18⟩;refine ⟨_,rfl,?_⟩;obtain ⟨a18,ha18⟩:∃ a,a=a17++(Ce.byN 4 c.nodes.length++c.nodes.flatMap (Ce.raw 32).w):=⟨_,rfl⟩;have hl18:a18.length=a17.length+(4+(c.nodes.flatMap (Ce.raw 32).w).length):=(by rw [ha18];simp only [List.length_append,Ce.byN_len]);rw [← ha18] at e18;have B18:=k18.k.blk B17 (by omega) (.inr (by decide));have hw18:=hw17.keep k18.k hN;have hs18:=k18.k.size;have kk18:=kk17.trans k18;clear B17 hw17 e17 k18;obtain ⟨u,bu,ou⟩:=e18;have hu1:=q3s (Row.of_own ou);(refine q0c<|tn<|q0b<|q0a<|m_P Y<|Ls (q1m Y)<|Ls (q0g Y)<|Ls (X_ld Y bu Y)<|Ls (q0m (v:=u) Y)<|q0c<|tn<|q0s ?_);refine q0f Y Y (v:=u) Y ?_;have e0:a18=Ce.certC.w c:=by
       rw [cert_w,ha18,ha17,ha16,ha15,ha14,ha13,ha12,ha11,ha10,ha9,ha8,ha6,ha5,ha4,hsh];simp only [List.append_assoc,List.nil_append,List.take_succ_cons,List.take_zero,List.flatMap_cons,List.flatMap_nil,List.append_nil];rfl
     rw [e0] at ou;exact ⟨u,rfl,(EncK.of_ext (B:=w3.heap.size) (p:=g2) E3 |>.trans (k37.trans kk18)).e w (E1.trans E2) (by omega) (by omega),q2f ou (by omega)⟩
end Go.Proofs.YtlcnkadkbcoadaaGreatDoor
namespace Ce
def c4:Cert:=⟨[97,98],1,List.replicate 32 0,0,0,0,0,[18446744073709551615],[],[],[],[],(0,0),[],[],[],[]⟩
theorem val_zero:Val zero:=⟨⟨by decide,fun _ h=>by cases h⟩,by decide,⟨rfl,fun b hb=>by rw [(List.mem_replicate.1 hb).2];decide⟩,by decide,by decide,by decide,by decide,⟨by decide,fun _ h=>by cases h⟩,⟨by decide,fun _ h=>by cases h⟩,⟨by decide,fun _ h=>by cases h⟩,⟨by decide,fun _ h=>by cases h⟩,⟨by decide,fun _ h=>by cases h⟩,⟨by decide,by decide⟩,⟨by decide,fun _ h=>by cases h⟩,⟨by decide,fun _ h=>by cases h⟩,⟨by decide,fun _ h=>by cases h⟩,⟨by decide,fun _ h=>by cases h⟩⟩
theorem val_c4:Val c4:=⟨⟨by decide,by decide⟩,by decide,⟨rfl,fun b hb=>by rw [(List.mem_replicate.1 hb).2];decide⟩,by decide,by decide,by decide,by decide,⟨by decide,by decide⟩,⟨by decide,fun _ h=>by cases h⟩,⟨by decide,fun _ h=>by cases h⟩,⟨by decide,fun _ h=>by cases h⟩,⟨by decide,fun _ h=>by cases h⟩,⟨by decide,by decide⟩,⟨by decide,fun _ h=>by cases h⟩,⟨by decide,fun _ h=>by cases h⟩,⟨by decide,fun _ h=>by cases h⟩,⟨by decide,fun _ h=>by cases h⟩⟩
theorem w4_len:(certC.w c4).length=118:=by decide +kernel
theorem w4_10:(certC.w c4).take 10=[2,0,0,0,97,98,1,0,0,0]:=by decide +kernel
theorem w4_58:(certC.w c4)[58]?=some 1:=by decide +kernel
theorem w4_62:(certC.w c4)[62]?=some 255:=by decide +kernel
theorem w4_69:(certC.w c4)[69]?=some 255:=by decide +kernel
theorem w4_70:(certC.w c4)[70]?=some 0:=by decide +kernel
theorem w0_len:(certC.w zero).length=108:=by decide +kernel
theorem w_lt {c:Cert} (h:Val c):∀ b∈certC.w c,b < 256:=z2q.byte c h.ok
end Ce
namespace Go.Proofs.YtlcnkadkbcoadaaGreatDoor
open Go.RowKit Go.Proofs.K
theorem encC {N:Nat→Prop} {w:World} {y:List Value} {c:Ce.Cert} (h:cerR N w y c) (hv:Ce.Val c) (hl:(Ce.certC.w c).length≤99990000) :
   Calls Tryz.prog 12 #[.agg y.toArray] w fun e w'=>∃ q,e=.returned q∧Ext w w'∧w'.ownsRow w.heap.size 5 1 q (Ce.certC.w c).length (ints .u8 (Ce.certC.w c)):=by
 obtain ⟨qb,s1,p1,p2,p3,b1,o1,o2,o3,o4,rfl,hr,h⟩:=h;exact gencode N c qb s1 p1 p2 p3 b1 o1 o2 o3 o4 w (val64 hv hl) h
theorem row_blk {w:World} {g:Nat} {T:TypeId} {l:List Nat} (h:Blk w g T (ints .u8 l)) (hl:l.length≤maxLen):RowN (fun k=>k=g) w 1 (.slice (some ⟨g,0,none⟩) l.length l.length) l.length (ints .u8 l) :=
 ⟨g,g+1,fun k h1 h2=>by omega,by rw [q0v];omega,_,_,rfl,Nat.le_refl _,hl,fun _=>⟨g,0,rfl,Nat.le_refl _,Nat.lt_succ_self _,h.range (o:=0) fun j u hu=>by rw [Nat.zero_add];exact hu⟩⟩
theorem z2f:Qy.parse (sb ⟨#[99,111,117,110,116]⟩)=(⟨1,0,0,[[]]⟩,0,0):=by kernel_rfl
theorem parse_counts:Qy.parse (sb ⟨#[99,111,117,110,116,115]⟩)=(Qy.q0,0,130):=by kernel_rfl
theorem parse_empty:Qy.parse (sb ⟨#[]⟩)=(Qy.q0,0,131):=by kernel_rfl
theorem parse_groups:Qy.parse (sb ⟨#[103,114,111,117,112,115,32,118,97,108,117,101]⟩)=(⟨4,3,0,[[]]⟩,0,0):=by kernel_rfl
theorem lsane (w:World) (hw:Wx w):Calls Tryz.prog 4 #[] w fun e w'=>e=.returned (.bool true)∧Ext w w':=by
 refine q0j Tryz.func4 Y Tryz.ntmps4 Y ?_;(refine q0b<|q0a<|a_B Y<|q0c<|tn<|q0b<|q0a ?_);refine L_fn (z4z (fun _=>False) (.slice none 0 0) [] w ⟨0,0,fun _ _ h=>absurd h (by omega),Row.nil _ _ _ _⟩ (fun _ h=>by cases h)) Y ?_;rintro e w1 h1;obtain ⟨y1,rfl,E1,hy1⟩:=h1.err (k:=6) rfl;refine ⟨_,rfl,?_⟩;(refine m_T Y<|Ls (q0n Y Y)<|Ls (q0n Y Y) ?_);refine q0w ?_;intro g1 u1 B1 hg1 F1 hs1;refine q0t (l:=y1) Y Y (q7n hy1) (q3t.one hy1) B1 Y ?_;intro w2 B1 hh1 hs2;have h1s:=E1.size;have E2:=(E1.trans F1).then hh1 fun q h=>by cases h;omega
 have h2s:=E2.size;clear B1 hy1;(refine a_I Y<|q0c<|tn<|q0b<|q0a ?_);obtain ⟨n,hn⟩:∃ n:Nat,n=65537:=⟨_,rfl⟩;refine z4f (z:=[.int .u8 0]) n n Y Y (by rw [hn];rfl) (by rw [hn];rfl) (Nat.le_refl _) (by omega) (by omega) ?_;intro g2 w3 B2 hg2 F2 hs3;rw [show (List.replicate n [Value.int .u8 0]).flatten=ints .u8 (List.replicate n 0) from q6n .u8 n 0] at B2;have R2:=row_blk B2 (by rw [List.length_replicate];unfold maxLen;omega);rw [List.length_replicate] at R2;have E3:=E2.trans F2;have h3s:=E3.size;refine L_fn (z4z (fun k=>k=g2) (.slice (some ⟨g2,0,none⟩) n n) (List.replicate n 0) w3 (by rw [List.length_replicate];exact R2) (fun x hx=>by rw [(List.mem_replicate.1 hx).2];decide)) Y ?_;rintro e w4 h4;obtain ⟨y2,rfl,E4,hy2⟩:=h4.err (k:=2) (by unfold Ce.decode;rw [List.length_replicate,if_pos (by omega)]);refine ⟨_,rfl,?_⟩;(refine m_T Y<|Ls (q0n Y Y)<|Ls (q0n Y Y) ?_);refine q0w ?_;intro g3 u3 B3 hg3 F3 hs4;refine q0t (l:=y2) Y Y (q7n hy2) (q3t.one hy2) B3 Y ?_;intro w5 B3 hh3 hs5;have h4s:=E4.size;have E5:=((E3.trans E4).trans F3).then hh3 fun q h=>by cases h;omega
 have h5s:=E5.size;clear B3 hy2 B2 R2;(refine a_I Y<|q0c<|tn<|q0b<|q0a ?_);refine Ls (q1t (r:=[]) (Parts.nil _)) ?_;refine L_fn (gcommit1 w5) Y ?_;rintro e w6 ⟨y5,hy5,hc5,rfl,E6⟩;refine ⟨_,rfl,?_⟩;(refine m_T Y<|Ls (q0n Y Y)<|Ls (q0n Y Y) ?_);refine q0w ?_;intro g5 u5 B5 hg5 F5 hs6;refine q0t (l:=y5) Y Y hy5 hc5 B5 Y ?_;intro w7 B5 hh5 hs7;have h6s:=E6.size;have E7:=((E5.trans E6).trans F5).then hh5 fun q h=>by cases h;omega
 have h7s:=E7.size;clear B5;(refine a_I Y<|q0c<|tn<|q0b<|q0a ?_);refine q4n (v:=.int .i64 (-1)) Y Y ?_;intro q8 w8 r8 E8 hs8 _;have hq8:=q3s r8
 have S8:slR 1 sumR (fun _=>True) w8 [q8] [18446744073709551615]:=⟨q8,rfl,[[.int .i64 (-1)]],rfl,fun y hy=>by rw [List.mem_singleton.1 hy];rfl,RowN.ofAny r8,fun i y a hy ha=>by
   match i with
   | 0=>cases hy;cases ha;exact ⟨-1,rfl,by decide,by decide,by decide⟩
   | i+1=>cases hy⟩
 have K8:cerR (fun _=>True) w8 (cerC Ce.c4 ⟨#[97,98]⟩ q8 (.slice none 0 0) (.slice none 0 0) (.slice none 0 0) (.slice none 0 0) (.slice none 0 0) (.slice none 0 0) (.slice none 0 0) (.slice none 0 0)) Ce.c4:=⟨_,_,_,_,_,_,_,_,_,_,rfl,rfl,rfl,S8,q1w,q1w,q1w,q1w,q1w,q1w,q1w,q1w⟩;skip;refine Ls (q1t (r:=[(0,.const (.string ⟨#[97,98]⟩)),(1,.const (.int .i64 1)),(4,.tmp 27)]) (Parts.cons (v:=.string ⟨#[97,98]⟩) (c:=[.string ⟨#[97,98]⟩]) (z:=[.string ByteArray.empty]) Y Y Y Y (Parts.cons (v:=.int .i64 1) (c:=[.int .i64 1]) (z:=[.int .i64 0]) Y Y Y Y (Parts.cons (v:=q8) (c:=[q8]) (z:=[.slice none 0 0]) Y (q4g hq8) Y Y (Parts.nil _))))) ?_;refine L_fn (encC K8 Ce.val_c4 (by rw [Ce.w4_len];decide)) Y ?_;rintro e w9 ⟨q9,rfl,E9,O9⟩;refine ⟨_,rfl,?_⟩;have hq9:=q3s (Row.of_own O9);have E09:=(E7.trans E8).trans E9;(refine Ls (q0m (v:=q9) Y)<|q0c<|tn<|q0b<|q0a ?_);refine Ls (q1t (r:=[]) (Parts.nil _)) ?_;refine L_fn (encC (N:=fun _=>True) (y:=zerC) q2y Ce.val_zero (by rw [Ce.w0_len];decide)) Y ?_;rintro e w10 ⟨q10,rfl,E10,O10⟩;refine ⟨_,rfl,?_⟩;have hq10:=q3s (Row.of_own O10);have E010:=E09.trans E10;(refine Ls (q0m (v:=q10) Y)<|q0c<|tn<|q0b<|q0a<|Ls (q0d (v:=q10) Y) ?_);refine L_fn (z4z _ q10 (Ce.certC.w Ce.zero) w10 (RowN.of_own O10) (Ce.w_lt Ce.val_zero)) Y ?_;rintro e w11 h11;obtain ⟨y6,rfl,E11,hy6⟩:=h11.ok (Ce.decode_encode Ce.val_zero.ok (by rw [Ce.w0_len];decide));refine ⟨_,rfl,?_⟩;(refine m_T Y<|Ls (q0n Y Y)<|Ls (q0n Y Y) ?_);refine q0w ?_;intro g12 u12 B12 hg12 F12 hs12;refine q0t (l:=y6) Y Y (q7n hy6) (q3t.one hy6) B12 Y ?_;intro w13 B13 hh13 hs13;have h10s:=E10.size;have h11s:=E11.size;have E1113:=(E11.trans F12).then hh13 fun q h=>by cases h;omega
 have E013:=E010.trans E1113;have O10':=q1g O10 E1113;(refine a_I Y<|q0c<|tn<|q0b<|q0a<|Ls (q0d (v:=q10) Y) ?_);refine q4n (v:=.int .u8 0) Y Y ?_;intro q14 w14 r14 E14 hs14 _;have hq14:=q3s r14;have O10'':=q1g O10' E14;refine L_fn (joinB w9.heap.size w14.heap.size _ _ q10 q14 (Ce.certC.w Ce.zero) [0] w14 (Row.of_own O10'') r14 (by rw [Ce.w0_len];decide)) Y ?_;rintro e w15 ⟨q15,rfl,E15,O15⟩;refine ⟨_,rfl,?_⟩;have hq15:=q3s (Row.of_own O15);skip;have O15':w15.ownsRow w14.heap.size 5 1 q15 (Ce.certC.w Ce.zero++[0]).length (ints .u8 (Ce.certC.w Ce.zero++[0])):=by rw [List.length_append];exact O15
 refine L_fn (z4z _ q15 (Ce.certC.w Ce.zero++[0]) w15 (RowN.of_own O15') (fun x hx=>(List.mem_append.1 hx).elim (Ce.w_lt Ce.val_zero x) fun h=>by rw [List.mem_singleton.1 h];decide)) Y ?_;rintro e w16 h16;obtain ⟨y7,rfl,E16,hy7⟩:=h16.err (Ce.decode_suffix Ce.val_zero.ok (by rw [List.length_append,Ce.w0_len];decide) (by decide));refine ⟨_,rfl,?_⟩;(refine m_T Y<|Ls (q0n Y Y)<|Ls (q0n Y Y) ?_);refine q0w ?_;intro g17 u17 B17 hg17 F17 hs17;refine q0t (l:=y7) Y Y (q7n hy7) (q3t.one hy7) B17 Y ?_;intro w18 B18 hh18 hs18;have h14s:=E14.size;have h15s:=E15.size;have h16s:=E16.size;have E1318:=(((E14.trans E15).trans E16).trans F17).then hh18 fun q h=>by cases h;omega
 have E918:=E10.trans (E1113.trans E1318);have E018:=E09.trans E918;have B13':=B13.ext E1318;have O9':=q1g O9 E918;have O10f:=q1g O10' E1318;clear B18 hy7 O10'' O15 O15' r14 r8 S8 K8;have h58:=Ce.w4_58;have h62:=Ce.w4_62;have h69:=Ce.w4_69;have h70:=Ce.w4_70;have h10:=Ce.w4_10;have hL4:=Ce.w4_len;have hL0:=Ce.w0_len;generalize Ce.certC.w Ce.c4=L4 at *;generalize Ce.certC.w Ce.zero=L0 at *;obtain ⟨b9,o9,c9,rfl,hc9,_,_,hR9⟩:=(Row.of_own O9').at (k:=0) (by omega);obtain ⟨b10,o10,c10,rfl,hc10,_,_,hR10⟩:=(Row.of_own O10f).at (k:=0) (by omega);have S9:slR 1 (numR .u8) _ w18 [.slice (some ⟨b9,o9,none⟩) L4.length c9] L4:=z4j (RowN.of_own O9');(refine a_I Y<|q0c<|tn<|q0b<|q0b<|q0a<|m_S Y<|Ls (q0i Y)<|Ls (q2e Y Y (by omega))<|q0c<|tn<|q0h Y<|q0l<|tn<|q0b<|q0a ?_);dsimp only [List.append];(refine m_I Y<|Ls (q2j Y Y (by omega))<|m_B Y<|Lg2 Y Y Y (q0d (v:=.int _ _) Y)<|Lg2 Y Y Y (q2j Y Y (by omega))<|Ls (q0o (v:=.bool _) Y Y)<|m_B Y<|Lg2 Y Y Y (q0d (v:=.int _ _) Y)<|Lg2 Y Y Y (q2j Y Y (by omega))<|Ls (q0o (v:=.bool _) Y Y)<|m_B Y<|Lg2 Y Y Y (q0d (v:=.slice _ _ _) Y) ?_);refine q1n Y Y Y ?_;refine Ls (z2y (size:=1) (i:=0) (j:=10) Y Y ⟨_,rfl⟩ (by omega) (by omega)) ?_;refine q1n Y Y Y ?_;refine Ls (z0a (z:=[.int .u8 0]) (zs':=[[.int .u8 2],[.int .u8 0],[.int .u8 0],[.int .u8 0],[.int .u8 97],[.int .u8 98],[.int .u8 1],[.int .u8 0],[.int .u8 0],[.int .u8 0]]) (cs:=ints .u8 [2,0,0,0,97,98,1,0,0,0]) (len:=10) ?_ Y Y) ?_
 · repeat (first | exact Parts.nil _ | refine Parts.cons Y Y Y Y ?_)
 have E19:Ext w18 (w18.alloc (.cells (ints .u8 [2,0,0,0,97,98,1,0,0,0]).toArray 5)):=q1k _ _;have B19:Blk (w18.alloc (.cells (ints .u8 [2,0,0,0,97,98,1,0,0,0]).toArray 5)) w18.heap.size 5 (ints .u8 [2,0,0,0,97,98,1,0,0,0]):=Blk.new _ _ _;generalize w18.alloc (.cells (ints .u8 [2,0,0,0,97,98,1,0,0,0]).toArray 5)=w19 at *;generalize w18.heap.size=g19 at *;have R19:=z4j (row_blk B19 (by unfold maxLen;decide));refine q1n Y Y Y ?_;refine L_fn (q6j.t (s7same ((q1x (by decide) (q3n .u8)).ext (slR_sub S9 10 (by omega)) E19) R19) h10) Y ?_;rintro e w20 ⟨rfl,E20⟩;refine ⟨_,rfl,?_⟩;have E1820:=E19.trans E20;have hR9':=E1820.range hR9;have B13'':=B13'.ext E1820;(refine Ls (q0o (v:=.bool _) Y Y)<|m_B Y<|Lg2 Y Y Y (q0d (v:=.slice _ _ _) Y)<|Lg2 Y Y Y (q8t Y Y (by omega))<|Lg2 Y Y Y (q1p Y hR9' (j:=58) (by omega) (z2l h58))<|Lg2 Y Y Y (q2j Y Y (by omega))<|Ls (q0o (v:=.bool _) Y Y)<|m_B Y<|Lg2 Y Y Y (q0d (v:=.slice _ _ _) Y)<|Lg2 Y Y Y (q8t Y Y (by omega))<|Lg2 Y Y Y (q1p Y hR9' (j:=62) (by omega) (z2l h62))<|Lg2 Y Y Y (q2j Y Y (by omega))<|Ls (q0o (v:=.bool _) Y Y)<|m_B Y<|Lg2 Y Y Y (q0d (v:=.slice _ _ _) Y)<|Lg2 Y Y Y (q8t Y Y (by omega))<|Lg2 Y Y Y (q1p Y hR9' (j:=69) (by omega) (z2l h69))<|Lg2 Y Y Y (q2j Y Y (by omega))<|Ls (q0o (v:=.bool _) Y Y)<|m_B Y<|Lg2 Y Y Y (q0d (v:=.slice _ _ _) Y)<|Lg2 Y Y Y (q8t Y Y (by omega))<|Lg2 Y Y Y (q1p Y hR9' (j:=70) (by omega) (z2l h70))<|Lg2 Y Y Y (q2j Y Y (by omega))<|Ls (q0o (v:=.bool _) Y Y)<|m_B Y<|Lg2 Y Y Y (q0d (v:=.slice _ _ _) Y)<|Lg2 Y Y Y (q0i Y)<|Lg2 Y Y Y (q2j Y Y (by omega))<|Ls (q0o (v:=.bool _) Y Y)<|m_B Y<|Lg2 Y Y Y (q2i Y B13'' (q7n hy6)) ?_);refine q1n Y Y Y ?_;refine Ls (q1t (r:=[]) (Parts.nil _)) ?_;refine q1n Y Y Y ?_;have hy6':=q3t.ext (q3t.grown (q3t.ext hy6 F12) hh13 fun q h k=>by cases h;omega) (E1318.trans E1820);refine L_fn (q6j.t (s22same (M:=fun _=>True) (y:=zerC) hy6' q2y q5x q5x) Y) Y ?_;rintro e w21 ⟨rfl,E21⟩;refine ⟨_,rfl,?_⟩;have E021:=(E018.trans E1820).trans E21;(refine Ls (q0o (v:=.bool _) Y Y)<|m_B Y<|Lg2 Y Y Y (q0d (v:=.int _ _) Y)<|Lg2 Y Y Y (q2j Y Y (by omega))<|Ls (q0o (v:=.bool _) Y Y)<|m_B Y<|Lg2 Y Y Y (q0d (v:=.int _ _) Y)<|Lg2 Y Y Y (q2j Y Y (by omega))<|Ls (q0o (v:=.bool _) Y Y)<|m_B Y ?_);refine q1n Y Y Y ?_;refine L_fn (gfl ⟨#[99,111,117,110,116]⟩ 12 1 (fun w hw=>gproveA _ (by decide) 12 (.inr (by decide)) z2f w hw) w21 (hw.ext E021)) Y ?_;rintro e w22 ⟨rfl,E22⟩;refine ⟨_,rfl,?_⟩;have E022:=E021.trans E22;(refine Ls (q0o (v:=.bool _) Y Y)<|m_B Y ?_);refine q1n Y Y Y ?_;refine L_fn (gfl ⟨#[99,111,117,110,116]⟩ (-1) 1 (fun w hw=>gproveA _ (by decide) (-1) (.inl (by decide)) z2f w hw) w22 (hw.ext E022)) Y ?_;rintro e w23 ⟨rfl,E23⟩;refine ⟨_,rfl,?_⟩;have E023:=E022.trans E23;(refine Ls (q0o (v:=.bool _) Y Y)<|m_B Y ?_);refine q1n Y Y Y ?_;refine L_fn (gfl ⟨#[99,111,117,110,116,115]⟩ 12 130 (fun w hw=>gproveP _ (by decide) 12 0 130 (by decide) parse_counts w hw) w23 (hw.ext E023)) Y ?_;rintro e w24 ⟨rfl,E24⟩;refine ⟨_,rfl,?_⟩;have E024:=E023.trans E24;(refine Ls (q0o (v:=.bool _) Y Y)<|m_B Y ?_);refine q1n Y Y Y ?_;refine L_fn (gfl ⟨#[]⟩ 0 131 (fun w hw=>gproveP _ (by decide) 0 0 131 (by decide) parse_empty w hw) w24 (hw.ext E024)) Y ?_;rintro e w25 ⟨rfl,E25⟩;refine ⟨_,rfl,?_⟩;have E025:=E024.trans E25;(refine Ls (q0o (v:=.bool _) Y Y)<|m_B Y ?_);refine q1n Y Y Y ?_;refine L_fn (gfl ⟨#[103,114,111,117,112,115,32,118,97,108,117,101]⟩ 0 140 (fun w hw=>gproveB _ (by decide) 0 parse_groups w hw) w25 (hw.ext E025)) Y ?_;rintro e w26 ⟨rfl,E26⟩;refine ⟨_,rfl,?_⟩;(refine Ls (q0o (v:=.bool _) Y Y)<|a_B Y<|q0c<|tn<|q0s ?_);exact q0f Y Y (v:=.bool true) Y ⟨rfl,E025.trans E26⟩
end Go.Proofs.YtlcnkadkbcoadaaGreatDoor
namespace Ce
end Ce
namespace Go.Proofs.K
open Go.RowKit
end Go.Proofs.K
namespace Go.Proofs.YtlcnkadkbcoadaaGreatDoor
open Go.RowKit Go.Proofs.K Go.ChangeShapes Go.WideShapes Go.ChangeAt
section
variable {H:Type} {enc:TypeId × Value→H} {W:World} {base:Nat} {held:Bool}
def OpR (enc:TypeId × Value→H) (W:World) (base:Nat) (held:Bool) {α:Type} (size:Nat) (t:TypeId) (R:Rep α) (Q:α→Prop):Prop :=
 ∀ (fuel:Nat) (cs:List Value) (x:DataW H × List MemPlace),cs.length=size→DataW.trod enc Tryz.prog W base (fun _=>true) held fuel t cs=some x→∃ a,R (fun k=>k < W.heap.size) W cs a∧Q a
theorem wfc_u8 {n:Int} (h:(Lit.int .u8 n).wf=true):∃ a:Nat,n=a∧a < 256:=by
 simp only [Lit.wf,Bool.and_eq_true,decide_eq_true_eq] at h;have h1:IntKind.u8.min=0:=by decide
 have h2:IntKind.u8.max=255:=by decide
 exact ⟨n.toNat,by omega,by omega⟩
theorem wfc_i64 {n:Int} (h:(Lit.int .i64 n).wf=true):-9223372036854775808≤n∧n≤9223372036854775807:=by
 simp only [Lit.wf,Bool.and_eq_true,decide_eq_true_eq] at h;have h1:IntKind.i64.min=-9223372036854775808:=by decide
 have h2:IntKind.i64.max=9223372036854775807:=by decide
 exact ⟨by omega,by omega⟩
theorem op_sl {α:Type} [Inhabited α] {size:Nat} {t e:TypeId} {R:Rep α} {Q:α→Prop} (ht:Tryz.prog.underlying t=some (.slice e)) (hc:Tryz.prog.cellsOf e=size) (hs:0 < size) (he:OpR enc W base held size e R Q):OpR enc W base held 1 t (slR size R) (fun l=>∀ a∈l,Q a):=by
 intro fuel cs x _ h;rcases Go.Deep.open_slice ht h with ⟨rfl,_⟩ | ⟨a,len,cap,m,n,D,Pl,rfl,_,hlc,hcm,hm,_,hx⟩
 · exact ⟨[],q1w,fun _ h=>by cases h⟩
 · have hm':m=cap:=(by simpa using hm);rw [hc] at hx
   obtain ⟨F,hF⟩:=Go.Deep.choose_lt (α:=List Value × α) (n:=len) (p:=fun i y=>y.1.length=size∧(∀ r,r < size→W.cell? (a.add (i * size+r))=y.1[r]?)∧R (fun k=>k < W.heap.size) W y.1 y.2∧Q y.2) (fun i hi=>by
     obtain ⟨cs,h1,h2⟩:=hx i (by omega)
     obtain ⟨_,hl,hcs⟩:=World.cells?_some h1
     obtain ⟨b,hb,hq⟩:=he n cs _ hl h2
     exact ⟨(cs,b),hl,fun r hr=>by rw [← Addr.add_add,hcs r hr],hb,hq⟩)
   have hll:((List.range len).map fun i=>(F i).2).length=len:=(by simp);have hly:((List.range len).map fun i=>(F i).1).length=len:=(by simp);have hys:∀ y∈(List.range len).map (fun i=>(F i).1),y.length=size:=fun y hy=>by
     obtain ⟨i,hi,rfl⟩:=List.mem_map.1 hy;exact (hF i (List.mem_range.1 hi)).1
   have hfl:((List.range len).map fun i=>(F i).1).flatten.length=len * size:=by
     have:∀ ys:List (List Value),(∀ y∈ys,y.length=size)→ys.flatten.length=ys.length * size:=fun ys=>by
       induction ys with
       | nil=>intro _;simp
       | cons y ys ih=>intro hy;rw [List.flatten_cons,List.length_append,hy y (List.mem_cons_self ..),ih (fun z hz=>hy z (List.mem_cons_of_mem _ hz)),List.length_cons,Nat.succ_mul];omega
     rw [this _ hys,hly]
   refine ⟨(List.range len).map fun i=>(F i).2,⟨_,rfl,(List.range len).map fun i=>(F i).1,by rw [hly,hll],hys,?_,fun i y b hy hb=>?_⟩,fun b hb=>?_⟩
   · rw [hll];refine ⟨0,W.heap.size,fun k _ hk=>hk,row_of_cells hfl hs hlc hcm fun j u hu=>?_⟩;have hj:j < len * size:=(by rw [← hfl];exact (List.getElem?_eq_some_iff.1 hu).1);have hi:j / size < len:=Nat.div_lt_of_lt_mul (by rw [Nat.mul_comm];exact hj);have hr:j % size < size:=Nat.mod_lt _ hs;have hjj:j / size * size+j % size=j:=(by rw [Nat.mul_comm];exact Nat.div_add_mod _ _);have hy:((List.range len).map fun i=>(F i).1)[j / size]?=some (F (j / size)).1:=(by rw [List.getElem?_map,List.getElem?_range hi];rfl);have:=flat_at hys hy hr;rw [hjj,hu] at this;rw [← hjj,(hF _ hi).2.1 _ hr,this]
   · have hi:i < len:=(by have:=(List.getElem?_eq_some_iff.1 hy).1;rwa [hly] at this);rw [List.getElem?_map,List.getElem?_range hi] at hy hb;cases hy
     cases hb
     exact (hF i hi).2.2.1
   · obtain ⟨i,hi,rfl⟩:=List.mem_map.1 hb;exact (hF i (List.mem_range.1 hi)).2.2.2
theorem flds {t:TypeId} {fs:Array Field} {fuel:Nat} {cs:List Value} {x:DataW H × List MemPlace} (ht:Tryz.prog.underlying t=some (.struct fs)) (h:DataW.trod enc Tryz.prog W base (fun _=>true) held fuel t cs=some x) :
   ∃ n,∀ (i off sz:Nat) (T:TypeId),(fs[i]?).map (fun f=>(f.type,f.offset))=some (T,off)→Tryz.prog.cellsOf T=sz→∃ y,DataW.trod enc Tryz.prog W base (fun _=>true) held n T ((cs.drop off).take sz)=some y:=by
 obtain ⟨xs,n,_,_,hlen,hxl,hf⟩:=DataW.trod_struct ht h;refine ⟨n,fun i off sz T hi hsz=>?_⟩;obtain ⟨f,hfi,he⟩:=Option.map_eq_some_iff.1 hi;cases he
 have hlt:i < xs.length:=by rw [hxl];exact (Array.getElem?_eq_some_iff.1 hfi).1
 have:=hf i f hfi;rw [hsz,List.getElem?_eq_getElem hlt] at this;exact ⟨_,this⟩
theorem cl8:Tryz.prog.cellsOf 5=1:=by kernel_rfl
end
end Go.Proofs.YtlcnkadkbcoadaaGreatDoor
namespace Go.Proofs.K
open Go.ChangeShapes
theorem z0k {a:Assume} {C:Checked} {os:Os} {f:FuncId} {r:Reach} {Pre:World→Array Value→Prop} {Post:World→Array Value→Value→World→Prop} (h:ReturnsInHanded a C os f r Pre Post) (he:C.prog.mayEnter=true) :
   ReturnsInOpen a none C os f r Input.okWide Pre Post (leavingAtReturn C.prog) nothingAlways:=by
 obtain ⟨g0,g1,g2,g3,all⟩:=h he;refine ⟨g0,g1,g2,g3,fun w tape i hf=>?_⟩;obtain ⟨n,v,w',hn,hc,hr,hp,⟨j,last,hj,hs,hq,hh,hE⟩,ha⟩:=all w tape i hf;exact ⟨n,v,w',hn,hc,hr,hp,⟨j,last,hj,hs,hh,onlyLeaving_of_quiet hq,hE⟩,ha⟩
theorem z4x {p:Pinned} {s:OpenSpec} {c:OpenClaim} (f:FuncId) (fn:Func)
   (hn:c.program=p.name) (hs:c.sum=p.sum) (hsp:c.spec=s.name)
   (hstart:c.start=.entering) (hout:c.outside=[]) (hin:c.inits=[]) (hun:c.under=none) (hi4:c.initsInPlace=[]∧c.initsUnfollowed=false∧c.initsRecurse=false∧c.initsNamed=[]∧c.initsPassed=[]) (hnb:c.noBlocks=false) (hlv:c.leaving=true) (hfo:c.followed=none) (hnar:c.narrowed=s.cond.isSome) (hstill:c.still=false)
   (hfn:p.checked.prog.funcNamed c.func=some f) (hf:p.checked.prog.funcs[f]?=some fn)
   (closed:joinedFacts p.checked.prog f fn s.bare c=true)
   (hinst:fn.isInstance p.checked.prog c.origin c.targs) (hwrap:fn.isWrapper p.checked.prog c.wrapper c.mainSum)
   (h:∀ os:Os,os.Started→∀ (H:Type) (enc:TypeId × Value→H),(∀ a b,enc a=enc b→a=b)→∀ F:Stop.Interp,
     ReturnsInHanded c.assume p.checked os f .any (c.pre enc p.checked.prog fn s) ((s.at F).post enc p.checked.prog fn c.apart c.fresh c.handsOn c.again)):c.holds p s:=by
 simp only [joinedFacts,Bool.and_eq_true,beq_iff_eq,Array.all_eq_true_iff_forall_mem,List.all_eq_true,decide_eq_true_eq] at closed;obtain ⟨⟨⟨⟨⟨⟨⟨⟨⟨⟨⟨⟨⟨⟨⟨⟨⟨⟨⟨⟨⟨⟨⟨⟨⟨⟨⟨⟨⟨⟨⟨k1,k2⟩,k3⟩,k4⟩,k5⟩,k6⟩,k7⟩,k8⟩,k9⟩,k10⟩,k11⟩,k12⟩,k13⟩,k14⟩,k15⟩,k16⟩,k17⟩,k17b⟩,k18⟩,k19⟩,k20⟩,k21⟩,k22⟩,k23⟩,k23b⟩,k24⟩,k24b⟩,k24c⟩,k25⟩,k26⟩,k27⟩,k28⟩:=closed;have hq:∀ os:Os,Stop.quiet p.checked.prog os:=fun os k hk=>by rw [k9] at hk;cases hk
 refine ⟨k1,hn,hs,hsp,k2,k3,by unfold OpenClaim.startFits;rw [hstart];exact k24,by unfold OpenClaim.startTold;rw [hstart];exact ⟨hin,hun,hi4⟩,f,fn,hfn,hf,⟨k4,k19⟩,(fun hb=>by rw [hnb] at hb;cases hb),by unfold OpenClaim.namedList;rw [hfo];exact k5,hinst,hwrap,
   k6.trans k7.symm,⟨k8.trans k9.symm,by unfold Program.envWorded;rw [k9];rfl,k23b⟩,k10,k11,k12,k13,k14,⟨k15,k27,k28⟩,⟨k16,k20⟩,⟨k17,k21,k25,k26⟩,⟨k22,k24b,k24c,k17b⟩,(by rw [hout,hnar];cases hsh:c.shortTexts with | none=>simp | some _=>rw [hsh] at k23;cases k23),fun n hn'=>varReadable_some (k18 n hn'),
   ⟨_,by unfold OpenClaim.world;rw [hout,hstart];exact WideRow.started_initial,hq _⟩,[],by unfold OpenClaim.lists;rw [hfo],fun os st _ H enc inj=>?_⟩
 have st':os.Started:=by unfold OpenClaim.world at st;rw [hout,hstart] at st;exact st
 rw [OpenClaim.post_not_still hstill];unfold OpenClaim.form;rw [hstart,k6];intro F;have e1:c.okInput=Input.okWide:=by unfold OpenClaim.okInput;rw [hnb]
 have e2:c.atReturn p.checked.prog=leavingAtReturn p.checked.prog:=by unfold OpenClaim.atReturn;rw [hlv]
 have e3:c.always p.checked.prog []=nothingAlways:=by unfold OpenClaim.always;rw [hfo]
 have e4:s.post enc p.checked.prog fn F c.outside c.apart c.fresh c.handsOn c.again=(s.at F).post enc p.checked.prog fn c.apart c.fresh c.handsOn c.again:=by rw [hout];rfl
 rw [e1,e2,e3];show ReturnsInOpen _ _ _ _ _ _ _ _ (s.post enc p.checked.prog fn F c.outside c.apart c.fresh c.handsOn c.again) _ _;rw [e4];exact z0k (h os st' H enc inj F) k24
theorem tied_goes {p:Pinned} {s:OpenSpec} {c:OpenClaim} (kinds:List LaidKind) (tests:Bool) (har:Bool × String) (lk:Bool)
   (hc:c.holds p s) (hw:c.wfByText s=true) (htie:c.laidByTextAt .later p kinds tests)
   (hst:c.start=.entering) (hnb:c.noBlocks=false∧c.again=false) (hm:p.checked.prog.mainIs=some (har.1,har.2.toList)) (hn:(!har.1 && har.2.isEmpty && !lk)=false)
   (hl:∀ f fn,p.checked.prog.funcNamed c.func=some f→p.checked.prog.funcs[f]?=some fn→lk=p.checked.prog.looks []∧∀ (j:Nat) t,fn.params[j]?=some t→p.checked.prog.wantsStandIn t=false)
   (hg:true=c.goesBy p.checked.prog) :
   Claim7.holds p (.plain s) { stood:={ row:=c,standIns:=[],harness:=har,looks:=lk },kinds:=[],alts:=[],goes:=true,laidByText:=true,laidKinds:=kinds,laidTests:=tests,laidLooks:=.later }:=by
 have h6:∀ r:OpenClaim,Claim7.isSixth { stood:={ row:=r,standIns:=[],harness:=har,looks:=lk },kinds:=[] }=false:=fun r=>by simpa [Claim7.isSixth] using hn
 exact ⟨Claim7.tied_new_at .later kinds tests (Claim7.new_of_sixth hc har lk hst hnb hm (h6 c) hl) hw,(fun D hD=>by cases hD),htie,(fun h=>by cases h),hg⟩
end Go.Proofs.K
namespace Go.Proofs.YtlcnkadkbcoadaaGreatDoor
open Go.RowKit Go.Proofs.K Go.ChangeShapes Go.WideShapes Go.ChangeAt
section
variable {H:Type} {enc:TypeId × Value→H} {W:World} {v:Value} {d:DataW H} {p:List MemPlace} {b0:Nat}
theorem open_u8 (hv:Value.okWide Tryz.prog W .any b0 5 v) (h:DataW.Trod enc Tryz.prog W 0 (fun _=>true) true 5 v d p):∃ n:Nat,v=.int .u8 n∧n < 256:=by
 obtain ⟨n,rfl,_,_,hw⟩:=open_int Tryz.underlying5 hv h;obtain ⟨a,rfl,ha⟩:=wfc_u8 hw;exact ⟨a,rfl,ha⟩
end
end Go.Proofs.YtlcnkadkbcoadaaGreatDoor
namespace Go.Proofs.YtlcnkadkbcoadaaGreatDoor.err22
open Go
set_option maxRecDepth 100000
theorem cl:Tryz.prog.closure 3=[3,4,11,55,56,130,252,129,131,253,132,134,133,136,139,151,140,135,138,137,142,255,254,141,143,8,35,81,147,256,257,338,339,340,341,259,258,260,148,261,149,262,82,150,152,153,263,154,264,83,84,155,242,244,216,301,302,325,396,441,326,397,328,399,327,398,265,342,413,414,343,415,416,417,449,464,433,454,455,465,470,450,466,467,471,472,473,287,355,227,313,389,104,210,460,157,246,331,268,156,267,346,317,393,228,314,390,316,315,391,392,266,344,345,12,58,57,59,144,60,62,61,64,67,145,68,63,66,65,70,146,69,71,13,14,10,49,50,51,127,126,52,53,54,128,15,9,36,85,106,158,86,163,271,349,164,165,272,159,107,87,166,160,269,347,418,451,468,469,348,419,452,420,421,108,211,296,375,376,430,431,377,378,432,453,422,161,270,274,162,37,88,167,168,273,169,170,89,171,275,276,351,278,90,350,423,277,352,424,172,173,174,175,279,353,176,38,91,92,177,178,280,186,286,184,179,281,180,282,94,182,95,183,185,283,285,284,354,93,181,112,226,96,187,97,39,98,188,194,189,190,196,197,99,191,192,100,193,195,198,199,101,200,201,202,203,204,288,40,102,205,289,103,207,209,208,294,295,374,206,290,356,357,358,359,360,361,362,425,363,426,364,365,427,366,428,367,368,291,292,293,369,370,371,429,372,373,41,105,42,109,212,297,379,298,380,213,214,44,45,113,114,230,229,115,43,111,224,123,241,225,116,231,232,110,215,299,300,217,47,121,122,219,218,234,319,394,238,304,381,221,305,303,220,222,118,237,239,323,322,120,240,324,395,223,306,235,382,435,456,434,383,436,457,307,384,437,458,438,459,308,309,385,439,310,311,386,312,387,388,440,461,462,46,117,233,318,236,320,321,119,48,124,243,329,401,400,442,330,245,247,248,332,402,333,249,334,335,403,404,443,125,250,336,251,337,405,406,444,407,445,446,408,447,448,463,409,410,411,412,5,16,18,73,17,72,6,19,74,21,20,22,75,23,24,25,26,27,76,80,28,7,29,77,30,31,32,34,78,33,79]:=by kernel_rfl
theorem f1:(Rows.certificateErrorsRow.inPlace == Tryz.prog.inPlace 3)=true:=by unfold Program.inPlace;rw [cl];kernel_rfl
theorem f2:(Rows.certificateErrorsRow.unfollowed == Tryz.prog.unfollowed 3)=true:=by unfold Program.unfollowed;rw [cl];kernel_rfl
theorem f3:(Rows.certificateErrorsRow.recurses == Tryz.prog.recurses 3)=true:=by unfold Program.recurses;rw [← eq_of_beq f2];rfl
theorem f4:(Rows.certificateErrorsRow.named == Tryz.prog.varsNamed 3)=true:=by unfold Program.varsNamed;rw [cl];kernel_rfl
theorem named:Tryz.prog.funcNamed Rows.certificateErrorsRow.func=some 3:=by kernel_rfl
theorem goes:true=Rows.certificateErrorsRow.goesBy Tryz.prog:=by
 unfold OpenClaim.goesBy Program.goesAt Program.goesFrom;rw [named,Option.any_some];unfold Program.goes;rw [cl];kernel_rfl
theorem and2 {a b:Bool} (h:a=true) (g:b=true):(a && b)=true:=by rw [h,g];rfl
theorem k0:(Rows.certificateErrorsRow.wf (OpenSpec.ofChange (OpenSpec.ofChange Rows.certificateErrorsSpec).bare))=true:=by kernel_rfl
theorem k1:(laidOutB Tryz.prog)=true:=by kernel_rfl
theorem k2:(mapsRowed Tryz.prog)=true:=by kernel_rfl
theorem k3:(Tryz.f3.params.all (Tryz.prog.readableRec ·))=true:=by kernel_rfl
theorem k4:(namedTie Tryz.prog Rows.certificateErrorsRow.named (OpenSpec.ofChange Rows.certificateErrorsSpec).bare.vars)=true:=by kernel_rfl
theorem k5:((Rows.certificateErrorsRow.stops == []))=true:=by kernel_rfl
theorem k6:((Tryz.prog.stops == []))=true:=by kernel_rfl
theorem k7:((Rows.certificateErrorsRow.knobs == []))=true:=by kernel_rfl
theorem k8:((Tryz.prog.stopKnobs == []))=true:=by kernel_rfl
theorem k13:((Rows.certificateErrorsRow.maps == (Tryz.f3.params.toList++(OpenSpec.ofChange Rows.certificateErrorsSpec).bare.plain.varTypes Tryz.prog).any (Tryz.prog.mapsRec ·)))=true:=by kernel_rfl
theorem k14:((Rows.certificateErrorsRow.ifaces == (Tryz.f3.params.toList++(OpenSpec.ofChange Rows.certificateErrorsSpec).bare.plain.varTypes Tryz.prog).any (Tryz.prog.ifacesRec ·)))=true:=by kernel_rfl
theorem k15:((Rows.certificateErrorsRow.mapsOut == Tryz.prog.mapsAmong Tryz.f3.resultTypes.toList))=true:=by kernel_rfl
theorem k16:((Rows.certificateErrorsRow.loops == (Tryz.f3.params.toList++(OpenSpec.ofChange Rows.certificateErrorsSpec).bare.plain.varTypes Tryz.prog).any (Tryz.prog.loopsFrom ·)))=true:=by kernel_rfl
theorem k17:((Rows.certificateErrorsRow.wideKeys == (Tryz.f3.params.toList++(OpenSpec.ofChange Rows.certificateErrorsSpec).bare.plain.varTypes Tryz.prog++Tryz.f3.resultTypes.toList).any (Tryz.prog.wideKeysFrom ·)))=true:=by kernel_rfl
theorem k18:((OpenSpec.ofChange Rows.certificateErrorsSpec).bare.vars.all (Tryz.prog.varReadable ·))=true:=by kernel_rfl
theorem k19:(Tryz.f3.resultTypes.all (fun t=>Tryz.prog.readableRec t && decide (t < Tryz.prog.types.size)))=true:=by kernel_rfl
theorem k20:((Rows.certificateErrorsRow.ifacesOut == Tryz.f3.resultTypes.toList.any (Tryz.prog.ifacesRec ·)))=true:=by kernel_rfl
theorem k21:((Rows.certificateErrorsRow.loopsOut == Tryz.f3.resultTypes.toList.any (Tryz.prog.loopsFrom ·)))=true:=by kernel_rfl
theorem k22:((Rows.certificateErrorsRow.plainKeys == Tryz.prog.plainKeys))=true:=by kernel_rfl
theorem k23:(Rows.certificateErrorsRow.shortTexts.isNone)=true:=by kernel_rfl
theorem k24:(Tryz.prog.stopsHeard)=true:=by kernel_rfl
theorem k25:(Tryz.prog.mayEnter)=true:=by kernel_rfl
theorem k26:((Rows.certificateErrorsRow.lifted == Tryz.prog.liftsFinal))=true:=by kernel_rfl
theorem k27:((Tryz.prog.make == some Rows.certificateErrorsRow.make))=true:=by kernel_rfl
theorem k28:((Rows.certificateErrorsRow.kinds == (if Rows.certificateErrorsRow.domain.isEmpty then [] else Tryz.f3.params.toList.map fun t=>match Tryz.prog.underlying t with | some (.int k)=>some k | _=>none)))=true:=by kernel_rfl
theorem k29:((Rows.certificateErrorsRow.pinned == Rows.certificateErrorsRow.pinnedBy))=true:=by kernel_rfl
theorem k30:((Rows.certificateErrorsRow.veiled == (Tryz.f3.params.toList++(OpenSpec.ofChange Rows.certificateErrorsSpec).bare.plain.varTypes Tryz.prog++Tryz.f3.resultTypes.toList).any (Tryz.prog.veiledRec ·)))=true:=by kernel_rfl
theorem k31:(Rows.certificateErrorsRow.veiledFits Tryz.prog Tryz.f3.params.toList (Tryz.f3.params.toList++(OpenSpec.ofChange Rows.certificateErrorsSpec).bare.plain.varTypes Tryz.prog++Tryz.f3.resultTypes.toList))=true:=by kernel_rfl
theorem closed:joinedFacts Tryz.prog 3 Tryz.f3 (OpenSpec.ofChange Rows.certificateErrorsSpec).bare Rows.certificateErrorsRow=true:=by
 unfold joinedFacts;exact and2 (and2 (and2 (and2 (and2 (and2 (and2 (and2 (and2 (and2 (and2 (and2 (and2 (and2 (and2 (and2 (and2 (and2 (and2 (and2 (and2 (and2 (and2 (and2 (and2 (and2 (and2 (and2 (and2 (and2 (and2 k0 k1) k2) k3) k4) k5) k6) k7) k8) f1) f2) f3) f4) k13) k14) k15) k16) k17) k18) k19) k20) k21) k22) k23) k24) k25) k26) k27) k28) k29) k30) k31
end Go.Proofs.YtlcnkadkbcoadaaGreatDoor.err22
namespace Go.Proofs.Sha
def rotr (x k:Nat):Nat:=(x / 2 ^ k) ||| (x * 2 ^ (32 - k) % 4294967296)
def ch (e f g:Nat):Nat:=(e &&& f) ^^^ ((4294967295 - e) &&& g)
def maj (a b c:Nat):Nat:=(a &&& b) ||| (a &&& c) ||| (b &&& c)
def be32 (b:List Nat) (i:Nat):Nat:=b.getD (4 * i) 0 * 16777216+b.getD (4 * i+1) 0 * 65536+b.getD (4 * i+2) 0 * 256+b.getD (4 * i+3) 0
def sg0 (x:Nat):Nat:=rotr x 7 ^^^ rotr x 18 ^^^ x / 8
def sg1 (x:Nat):Nat:=rotr x 17 ^^^ rotr x 19 ^^^ x / 1024
def wnext (b l:List Nat) (i:Nat):Nat:=if i < 16 then be32 b i else (l.getD (i - 16) 0+sg0 (l.getD (i - 15) 0)+l.getD (i - 7) 0+sg1 (l.getD (i - 2) 0)) % 4294967296
def sched (b:List Nat):Nat→List Nat
 | 0=>[]
 | i+1=>sched b i++[wnext b (sched b i) i]
structure S8 where
 a:Nat
 b:Nat
 c:Nat
 d:Nat
 e:Nat
 f:Nat
 g:Nat
 h:Nat
def S8.list (s:S8):List Nat:=[s.a,s.b,s.c,s.d,s.e,s.f,s.g,s.h]
def t1 (s:S8) (k w:Nat):Nat:=(s.h+(rotr s.e 6 ^^^ rotr s.e 11 ^^^ rotr s.e 25)+ch s.e s.f s.g+k+w) % 4294967296
def t2 (s:S8):Nat:=((rotr s.a 2 ^^^ rotr s.a 13 ^^^ rotr s.a 22)+maj s.a s.b s.c) % 4294967296
def round (s:S8) (k w:Nat):S8:=⟨(t1 s k w+t2 s) % 4294967296,s.a,s.b,s.c,(s.d+t1 s k w) % 4294967296,s.e,s.f,s.g⟩
def ks:List Nat:=[1116352408,1899447441,3049323471,3921009573,961987163,1508970993,2453635748,2870763221,3624381080,310598401,607225278,1426881987,1925078388,2162078206,2614888103,3248222580,3835390401,4022224774,264347078,604807628,770255983,1249150122,1555081692,1996064986,2554220882,2821834349,2952996808,3210313671,3336571891,3584528711,113926993,338241895,666307205,773529912,1294757372,1396182291,1695183700,1986661051,2177026350,2456956037,2730485921,2820302411,3259730800,3345764771,3516065817,3600352804,4094571909,275423344,430227734,506948616,659060556,883997877,958139571,1322822218,1537002063,1747873779,1955562222,2024104815,2227730452,2361852424,2428436474,2756734187,3204031479,3329325298]
def iv:S8:=⟨1779033703,3144134277,1013904242,2773480762,1359893119,2600822924,528734635,1541459225⟩
def rounds (s:S8) (ws:List Nat):Nat→S8
 | 0=>s
 | i+1=>round (rounds s ws i) (ks.getD i 0) (ws.getD i 0)
def addS (s t:S8):S8:=⟨(s.a+t.a) % 4294967296,(s.b+t.b) % 4294967296,(s.c+t.c) % 4294967296,(s.d+t.d) % 4294967296,(s.e+t.e) % 4294967296,(s.f+t.f) % 4294967296,(s.g+t.g) % 4294967296,(s.h+t.h) % 4294967296⟩
def compress (s:S8) (b:List Nat):S8:=addS s (rounds s (sched b 64) 64)
def blocks (p:List Nat):Nat→S8
 | 0=>iv
 | i+1=>compress (blocks p i) ((p.drop (64 * i)).take 64)
def zeros (n:Nat):Nat:=(119 - n % 64) % 64
def lenBytes (n:Nat):List Nat:=(List.range 8).map fun i=>(n * 8 / 2 ^ (56 - 8 * i)) % 256
def pad (l:List Nat):List Nat:=l++[128]++List.replicate (zeros l.length) 0++lenBytes l.length
def digest (s:S8):List Nat:=(List.range 32).map fun i=>s.list.getD (i / 4) 0 / 2 ^ (24 - 8 * (i % 4)) % 256
def sum (l:List Nat):List Nat:=digest (blocks (pad l) ((pad l).length / 64))
def S8.ok (s:S8):Prop:=s.a < 4294967296∧s.b < 4294967296∧s.c < 4294967296∧s.d < 4294967296∧s.e < 4294967296∧s.f < 4294967296∧s.g < 4294967296∧s.h < 4294967296
theorem rotr_lt {x k:Nat} (hx:x < 4294967296):rotr x k < 4294967296:=by
 have h1:x / 2 ^ k < 2 ^ 32:=Nat.lt_of_le_of_lt (Nat.div_le_self _ _) hx;have h2:x * 2 ^ (32 - k) % 4294967296 < 2 ^ 32:=Nat.mod_lt _ (by omega);exact Nat.or_lt_two_pow h1 h2
theorem xor_lt {a b:Nat} (ha:a < 4294967296) (hb:b < 4294967296):a ^^^ b < 4294967296:=Nat.xor_lt_two_pow (n:=32) ha hb
theorem and_lt {a b:Nat} (hb:b < 4294967296):a &&& b < 4294967296:=Nat.and_lt_two_pow (n:=32) _ hb
theorem sched_len (b:List Nat) (i:Nat):(sched b i).length=i:=by
 induction i with
 | zero=>rfl
 | succ i ih=>simp [sched,ih]
def bytesOk (l:List Nat):Prop:=∀ x∈l,x < 256
theorem getD_lt {l:List Nat} {B i:Nat} (h:∀ x∈l,x < B) (hB:0 < B):l.getD i 0 < B:=by
 rw [List.getD_eq_getElem?_getD];cases hi:l[i]? with
 | none=>exact hB
 | some x=>exact h x (List.mem_of_getElem? hi)
theorem be32_lt {b:List Nat} (h:bytesOk b) (i:Nat):be32 b i < 4294967296:=by
 have h0:=getD_lt (i:=4 * i) h (by omega);have h1:=getD_lt (i:=4 * i+1) h (by omega);have h2:=getD_lt (i:=4 * i+2) h (by omega);have h3:=getD_lt (i:=4 * i+3) h (by omega);unfold be32;omega
theorem wnext_lt {b l:List Nat} (h:bytesOk b) (i:Nat):wnext b l i < 4294967296:=by
 unfold wnext;split
 · exact be32_lt h i
 · exact Nat.mod_lt _ (by omega)
theorem sched_ok {b:List Nat} (h:bytesOk b) (i:Nat):∀ x∈sched b i,x < 4294967296:=by
 induction i with
 | zero=>intro x hx;simp [sched] at hx
 | succ i ih =>
   intro x hx;simp only [sched,List.mem_append,List.mem_singleton] at hx;rcases hx with hx | rfl
   · exact ih x hx
   · exact wnext_lt h i
theorem round_ok {s:S8} (h:s.ok) (k w:Nat):(round s k w).ok:=by
 obtain ⟨h1,h2,h3,h4,h5,h6,h7,h8⟩:=h;exact ⟨Nat.mod_lt _ (by omega),h1,h2,h3,Nat.mod_lt _ (by omega),h5,h6,h7⟩
theorem rounds_ok {s:S8} (h:s.ok) (ws:List Nat) (i:Nat):(rounds s ws i).ok:=by
 induction i with
 | zero=>exact h
 | succ i ih=>exact round_ok ih _ _
theorem addS_ok (s t:S8):(addS s t).ok:=by
 refine ⟨?_,?_,?_,?_,?_,?_,?_,?_⟩ <;> exact Nat.mod_lt _ (by omega)
theorem iv_ok:iv.ok:=by unfold S8.ok iv;decide
theorem blocks_ok (p:List Nat) (i:Nat):(blocks p i).ok:=by
 cases i with
 | zero=>exact iv_ok
 | succ i=>exact addS_ok _ _
theorem list_len (s:S8):s.list.length=8:=rfl
theorem pad_mod (n:Nat):(n+1+zeros n) % 64=56:=by unfold zeros;omega
theorem pad_len (l:List Nat):(pad l).length=l.length+1+zeros l.length+8:=by simp [pad,lenBytes];omega
theorem digest_len (s:S8):(digest s).length=32:=by simp [digest]
theorem sum_len (l:List Nat):(sum l).length=32:=digest_len _
theorem digest_ok (s:S8):bytesOk (digest s):=by
 intro x hx;obtain ⟨i,_,rfl⟩:=List.mem_map.1 hx;exact Nat.mod_lt _ (by omega)
theorem sum_ok (l:List Nat):bytesOk (sum l):=digest_ok _
end Go.Proofs.Sha
namespace Go.Proofs.YtlcnkadkbcoadaaGreatDoor
open Go.RowKit Go.Proofs.K
theorem sg_walk (x a b c:Nat) (hx:x < 4294967296) (hc:c≤32):bits BinOp.xor IntKind.u32 (bits BinOp.xor IntKind.u32 ((Sha.rotr x a:Nat):Int) ((Sha.rotr x b:Nat):Int)) ((x:Int).fdiv (2 ^ min (Int.toNat (c:Nat)) IntKind.u32.bits))=((Sha.rotr x a ^^^ Sha.rotr x b ^^^ x / 2 ^ c:Nat):Int):=by
 rw [q3w _ _ (Sha.rotr_lt hx) (Sha.rotr_lt hx),show IntKind.u32.bits=32 from rfl,show min (Int.toNat ((c:Nat):Int)) 32=c by omega,z5a,
   q3w _ _ (Sha.xor_lt (Sha.rotr_lt hx) (Sha.rotr_lt hx)) (Nat.lt_of_le_of_lt (Nat.div_le_self _ _) hx)]
theorem wr3 (a b c d:Nat):IntKind.u32.wrap (IntKind.u32.wrap (IntKind.u32.wrap ((a:Int)+(b:Nat))+(c:Nat))+(d:Nat))=(((a+b+c+d) % 4294967296:Nat):Int):=by
 simp only [IntKind.wrap_u32];omega
theorem wr2 (a b:Nat):IntKind.u32.wrap ((a:Int)+(b:Nat))=(((a+b) % 4294967296:Nat):Int):=by
 simp only [IntKind.wrap_u32];omega
theorem inv_walk (e:Nat) (he:e < 4294967296):IntKind.u32.wrap (4294967295 - (e:Int))=((4294967295 - e:Nat):Int):=by
 simp only [IntKind.wrap_u32];omega
theorem wr4 (a b c d e:Nat):IntKind.u32.wrap (IntKind.u32.wrap (IntKind.u32.wrap (IntKind.u32.wrap ((a:Int)+(b:Nat))+(c:Nat))+(d:Nat))+(e:Nat))=(((a+b+c+d+e) % 4294967296:Nat):Int):=by
 simp only [IntKind.wrap_u32];omega
theorem rot3_walk (x a b c:Nat) (hx:x < 4294967296):bits BinOp.xor IntKind.u32 (bits BinOp.xor IntKind.u32 ((Sha.rotr x a:Nat):Int) ((Sha.rotr x b:Nat):Int)) ((Sha.rotr x c:Nat):Int)=((Sha.rotr x a ^^^ Sha.rotr x b ^^^ Sha.rotr x c:Nat):Int):=by
 rw [q3w _ _ (Sha.rotr_lt hx) (Sha.rotr_lt hx),q3w _ _ (Sha.xor_lt (Sha.rotr_lt hx) (Sha.rotr_lt hx)) (Sha.rotr_lt hx)]
theorem t1_walk (R : Sha.S8) (k w : Nat) (h : R.ok) : IntKind.u32.wrap (IntKind.u32.wrap (IntKind.u32.wrap (IntKind.u32.wrap ((R.h : Int) + bits BinOp.xor IntKind.u32 (bits BinOp.xor IntKind.u32 ((Sha.rotr R.e 6 : Nat) : Int) ((Sha.rotr R.e 11 : Nat) : Int)) ((Sha.rotr R.e 25 : Nat) : Int)) +
     bits BinOp.xor IntKind.u32 (bits BinOp.and IntKind.u32 (R.e:Int) (R.f:Int)) (bits BinOp.and IntKind.u32 (IntKind.u32.wrap (4294967295 - (R.e:Int))) (R.g:Int)))+(k:Int))+(w:Int))=((Sha.t1 R k w:Nat):Int):=by
 obtain ⟨ra,rb,rc,rd,re,rf,rg,rh⟩:=h;rw [rot3_walk _ _ _ _ re,inv_walk _ re,q5n _ _ re rf,q5n _ _ (by omega) rg,q3w _ _ (Sha.and_lt rf) (Sha.and_lt rg),wr4];rfl
theorem z1k (n:Nat):Sha.zeros n < 64:=by unfold Sha.zeros;omega
theorem len_walk (n i:Nat) (hn:n≤1000000000) (hi:i < 8) :
   IntKind.u8.wrap ((IntKind.u64.wrap (IntKind.u64.wrap (n:Int) * 8)).fdiv (2 ^ min (56 - 8 * (i:Int)).toNat IntKind.u64.bits))=((n * 8 / 2 ^ (56 - 8 * i) % 256:Nat):Int):=by
 have e:IntKind.u64.wrap (IntKind.u64.wrap (n:Int) * 8)=((n * 8:Nat):Int):=by simp only [IntKind.wrap_u64];omega
 rw [e,show IntKind.u64.bits=64 from rfl,q7h _ _ (by omega),u8_nat,show (56 - 8 * (i:Int)).toNat=56 - 8 * i by omega]
theorem z4v (n k:Nat) (hk:k < 8):(Sha.lenBytes n).take (k+1)=(Sha.lenBytes n).take k++[n * 8 / 2 ^ (56 - 8 * k) % 256]:=by
 have hl:k < (Sha.lenBytes n).length:=by simp [Sha.lenBytes];omega
 rw [List.take_succ_eq_append_getElem hl];simp [Sha.lenBytes]
theorem rotl_and (m:Nat) (hm:0 < m∧m < 32):bits BinOp.and IntKind.u64 (IntKind.u64.wrap (-(m:Int))) 31=((32 - m:Nat):Int):=by
 have h:∀ m:Fin 32,0 < m.1→bits BinOp.and IntKind.u64 (IntKind.u64.wrap (-(m.1:Int))) 31=((32 - m.1:Nat):Int):=by decide +kernel
 exact h ⟨m,hm.2⟩ hm.1
theorem rotl (x m:Nat) (hx:x < 4294967296) (hm:0 < m∧m < 32) (w:World) :
   Calls Tryz.prog 392 #[.int .u32 (x:Nat),.int .i64 (-(m:Nat))] w fun e w'=>e=.returned (.int .u32 ((Sha.rotr x m:Nat):Int))∧Ext w w':=by
 refine q0j Tryz.func392 Y Tryz.ntmps392 Y ?_;(refine q0b<|q0a<|a_I Y<|q0c<|tn<|q0b<|q0a<|m_I Y<|Ls (q3d Y)<|Ls (q4s Y Y)<|a_I Y<|q0c<|tn<|q0b<|q0a<|m_I Y<|m_I Y ?_);rw [rotl_and m hm];(refine Ls (q7v Y Y (by omega))<|m_I Y<|m_I Y<|Ls (X_sub Y Y) ?_);have e1:IntKind.u64.wrap ((32:Int) - ((32 - m:Nat):Int))=((m:Nat):Int):=by rw [IntKind.wrap_u64];omega
 rw [e1];(refine Ls (q5f Y Y (by omega))<|Ls (X_or Y Y)<|a_I Y<|q0c<|tn<|q0s ?_);refine q0f Y Y (v:=.int _ _) Y ?_;refine ⟨?_,Ext.refl w⟩;have e:IntKind.u32.bits=32:=rfl;have e2:(x:Int) * 2 ^ (32 - m)=((x * 2 ^ (32 - m):Nat):Int):=by simp
 rw [e,Nat.min_eq_left (by omega),Nat.min_eq_left (by omega),z5a,show (((32 - m:Nat):Int)).toNat=32 - m by omega,e2,u32_nat,z2r _ _ (Nat.mod_lt _ (by omega)) (Nat.lt_of_le_of_lt (Nat.div_le_self _ _) hx),Nat.or_comm];rfl
def beP (b:List Nat) (i:Nat):Nat→Nat
 | 0=>0
 | j+1=>beP b i j * 256+b.getD (4 * i+j) 0
theorem beP_four (b:List Nat) (i:Nat):beP b i 4=Sha.be32 b i:=by
 simp only [beP,Sha.be32,Nat.add_zero];omega
theorem beP_lt {b:List Nat} (hb:Sha.bytesOk b) (i j:Nat):beP b i j < 256 ^ j:=by
 induction j with
 | zero=>simp [beP]
 | succ j ih =>
   have:b.getD (4 * i+j) 0 < 256:=Sha.getD_lt hb (by omega);simp only [beP,Nat.pow_succ];omega
theorem shl8_walk (x b:Nat) (hx:x < 16777216) (hb:b < 256):bits BinOp.or IntKind.u32 (IntKind.u32.wrap ((x:Int) * 2 ^ min (Int.toNat 8) IntKind.u32.bits)) (IntKind.u32.wrap (b:Int))=((x * 256+b:Nat):Int):=by
 have e:(x:Int) * 2 ^ min (Int.toNat 8) IntKind.u32.bits=((x * 256:Nat):Int):=by
   rw [show min (Int.toNat 8) IntKind.u32.bits=8 from rfl];omega
 rw [e,u32_nat,u32_nat,Nat.mod_eq_of_lt (by omega),Nat.mod_eq_of_lt (by omega),z2r _ _ (by omega) (by omega)];rw [show x * 256=2 ^ 8 * x by omega,Nat.two_pow_add_eq_or_of_lt (show b < 2 ^ 8 by omega)]
theorem gschedule (lo hi:Nat) (v:Value) (bl:List Nat) (hlen:bl.length=64) (hb:Sha.bytesOk bl) (w:World) (hr:Row w lo hi 1 v 64 (ints .u8 bl)) :
   Calls Tryz.prog 391 #[v] w fun e w'=>e=.returned (.agg (ints .u32 (Sha.sched bl 64)).toArray)∧Ext w w':=by
 obtain ⟨b0,o0,c0,rfl,hc0,_,_,hcell⟩:=hr.at (k:=0) (by omega);refine q0j Tryz.func391 Y Tryz.ntmps391 Y ?_;(refine q0b<|q0a ?_);refine q0w ?_;intro g2 w1 B2 hg2 E1 hs1;(refine q0c<|tn<|q0b<|q0a ?_);refine q0w ?_;intro g3 w2 B3 hg3 E2 hs2;rw [show (0:Int)=((0:Nat):Int) from rfl,q6n] at B3;(refine q0c<|tn<|q0b<|q0b<|q0a<|m_I Y<|q0c<|tn<|q0p ?_);refine q1e (fun q f w'=>∃ k,q=16 - k∧k≤16∧f 0=.slice (some ⟨b0,o0,none⟩) 64 c0∧f 2=.pointer (some ⟨g2,0,none⟩)∧f 3=.pointer (some ⟨g3,0,none⟩)∧f 12=.int .i64 (k:Nat)∧Ext w w' ∧
   Blk w' g3 518 (ints .u32 (Sha.sched bl k++List.replicate (64 - k) 0))∧Blk w' g2 518 (List.replicate 64 [Value.int IntKind.u32 0]).flatten) 16 ?_ ?_
 · exact ⟨0,rfl,by omega,rfl,rfl,rfl,rfl,E1.trans E2,B3,B2.ext E2⟩
 · rintro q f wr ⟨k,rfl,hk,h0,h2,h3,h12,E,B,BB⟩;rw [fold h0,fold h2,fold h3,fold h12];have hsl:(Sha.sched bl k).length=k:=Sha.sched_len bl k;(refine q0b<|q0a<|Ls (q2h Y Y)<|q0c<|tn<|q0b ?_);refine q0x Y (fun h=>?_) (fun h=>?_)
   · (refine q0l<|tn<|q0b<|q0p<|q0b<|q0a<|m_I Y<|a_I Y<|q0c<|tn<|q0b<|q0a<|m_S Y<|m_I Y<|Ls (q5r Y Y (by omega))<|m_I Y<|Ls (q5r Y Y (by omega))<|Ls (q1c Y Y (by omega)) ?_);have hcut:=hr.cut (i:=4 * k) (j:=4 * k+4) (q:=4) (by omega) (by omega) (by omega);refine Ls (z2w (4 * k) (4 * k+4) Y Y Y (by omega) (by omega) (by omega) (by omega)) ?_;obtain ⟨b1,o1,c1,hv,hc1,_,_,hR⟩:=hcut.at (k:=0) (by omega);rw [hv];(refine Ls (q0i Y)<|m_I Y<|q0c<|tn<|q0p ?_);have B0:Blk wr g3 518 (ints .u32 (Sha.sched bl k++beP bl k 0 :: List.replicate (63 - k) 0)):=by
       rw [show 64 - k=(63 - k)+1 by omega,List.replicate_succ] at B;exact B
     refine q1e (fun q f w'=>∃ j,q=4 - j∧j≤4∧f 0=.slice (some ⟨b0,o0,none⟩) 64 c0∧f 2=.pointer (some ⟨g2,0,none⟩)∧f 3=.pointer (some ⟨g3,0,none⟩)∧f 12=.int .i64 (k:Nat)∧f 4=.int .i64 (k:Nat) ∧
       f 21=.slice (some ⟨b1,o1,none⟩) 4 c1∧f 22=.int .i64 4∧f 23=.int .i64 (j:Nat)∧Ext w w' ∧
       Blk w' g3 518 (ints .u32 (Sha.sched bl k++beP bl k j :: List.replicate (63 - k) 0))∧Blk w' g2 518 (List.replicate 64 [Value.int IntKind.u32 0]).flatten) 4 ?_ ?_
     · exact ⟨0,rfl,by omega,rfl,rfl,rfl,rfl,rfl,rfl,rfl,rfl,E,B0,BB⟩
     · clear B0 B BB E h0 h2 h3 h12;rintro q f wx ⟨j,rfl,hj,h0,h2,h3,h12,h4,h21,h22,h23,E,B,BB⟩;rw [fold h0,fold h2,fold h3,fold h12,fold h4,fold h21,fold h22,fold h23];have hTl:(Sha.sched bl k++beP bl k j :: List.replicate (63 - k) 0).length=64:=(by simp [hsl];omega);(refine q0b<|q0a<|Ls (q2h Y Y)<|q0c<|tn<|q0b ?_);refine q0x Y (fun h=>?_) (fun h=>?_)
       · have hbl:((bl.drop (4 * k)).take 4).length=4:=(by simp;omega);(refine q0l<|tn<|q0b<|q0p<|q0b<|q0a<|Ls (q0q Y Y (by omega))<|Ls (X_ldRI Y (E.range hR) (by omega))<|a_I Y<|q0c<|tn<|q0a<|m_I Y<|m_I Y<|Ls (q4l Y Y (by omega))<|Ls (q6q Y B (by rw [hTl];omega))<|Ls (q7v Y Y (by omega))<|m_I Y<|Ls (q3d Y)<|Ls (X_or Y Y)<|Ls (q4l Y Y (by omega)) ?_);refine q1b Y (v:=.int _ _) Y Y B (by rw [q0v,hTl];omega) ?_;intro w5 B5 hg5 _;(refine q0c<|bn<|tn<|q0a<|Ls (q1c Y Y (by omega))<|m_I Y<|q0c<|tn ?_);have e1:(Sha.sched bl k++beP bl k j :: List.replicate (63 - k) 0).getD (0+k * 1) 0=beP bl k j:=(by simp [List.getD,hsl]);have e2:((bl.drop (4 * k)).take 4).getD j 0=bl.getD (4 * k+j) 0:=(by simp [List.getD,show j < 4 by omega]);have hlt:=beP_lt hb k j;have:256 ^ j≤256 ^ 3:=Nat.pow_le_pow_right (by omega) (by omega);have e3:(Sha.sched bl k++beP bl k j :: List.replicate (63 - k) 0).set (0+k * 1) (beP bl k (j+1))=Sha.sched bl k++beP bl k (j+1) :: List.replicate (63 - k) 0:=(by simp [hsl]);rw [e1,e2,shl8_walk _ _ (by omega) (Sha.getD_lt hb (by omega)),q4w] at B5;refine ⟨4 - (j+1),by omega,j+1,rfl,by omega,rfl,rfl,rfl,rfl,rfl,rfl,rfl,rfl,E.then hg5 (fun g h=>by cases h;have:=E1.size;omega),?_,BB.grown hg5 (by simp;omega)⟩;rw [← e3];exact B5
       · obtain rfl:j=4:=(by omega);(refine q1d<|te<|te<|bx<|bn<|tn<|q0a<|Ls (q1c Y Y (by omega))<|m_I Y<|q0c<|tn ?_);refine ⟨16 - (k+1),by omega,k+1,rfl,by omega,rfl,rfl,rfl,rfl,E,?_,BB⟩;rw [beP_four] at B;have e:Sha.sched bl (k+1)=Sha.sched bl k++[Sha.be32 bl k]:=by
           show Sha.sched bl k++[Sha.wnext bl (Sha.sched bl k) k]=_;rw [Sha.wnext,if_pos (by omega)]
         rw [e,show 64 - (k+1)=63 - k by omega];simpa using B
   · obtain rfl:k=16:=(by omega);(refine q1d<|te<|te<|bx<|tn<|q0b<|q0b<|q0a<|a_I Y<|q0c<|tn<|q0p ?_);refine q1e (fun q f w'=>∃ k,q=64 - k∧16≤k∧k≤64∧f 2=.pointer (some ⟨g2,0,none⟩)∧f 3=.pointer (some ⟨g3,0,none⟩)∧f 7=.int .i64 (k:Nat)∧Ext w w' ∧
       Blk w' g3 518 (ints .u32 (Sha.sched bl k++List.replicate (64 - k) 0))∧Blk w' g2 518 (List.replicate 64 [Value.int IntKind.u32 0]).flatten) 48 ?_ ?_
     · exact ⟨16,rfl,by omega,by omega,rfl,rfl,rfl,E,B,BB⟩
     · clear B BB E h0 h2 h3 h12 hsl;rintro q f wr ⟨k,rfl,hk0,hk,h2,h3,h7,E,B,BB⟩;rw [fold h2,fold h3,fold h7];have hsl:(Sha.sched bl k).length=k:=Sha.sched_len bl k
       have hT:∀ i,(Sha.sched bl k++List.replicate (64 - k) 0).getD i 0 < 4294967296:=fun i=>Sha.getD_lt (fun x hx=>by
         rcases List.mem_append.1 hx with hx | hx
         · exact Sha.sched_ok hb k x hx
         · rw [List.eq_of_mem_replicate hx];omega) (by omega)
       have hTl:(Sha.sched bl k++List.replicate (64 - k) 0).length=64:=(by simp [hsl];omega);(refine q0b<|q0b<|q0a<|m_I Y<|Ls (q2h Y Y)<|q0c<|tn ?_);refine q0x Y (fun h=>?_) (fun h=>?_)
       · (refine q0l<|tn<|q0b<|q0p<|q0b ?_);apply q1r 10 (by kernel_rfl);(apply DW_x (fun r w hA hH=>(q0d (v:=.int _ _) Y).trans Y);apply DW_x (fun r w hA hH=>(q4h Y Y (by omega)).trans Y);apply DW_x (fun r w hA hH=>(q3c Y Y (by omega)).trans Y);apply DW_x (fun r w hA hH=>(q6q Y (B.ext hA) (by rw [hTl];omega)).trans Y);apply DW_x (fun r w hA hH=>(q0d (v:=.int _ _) Y).trans Y);apply DW_x (fun r w hA hH=>(q4h Y Y (by omega)).trans Y);apply DW_x (fun r w hA hH=>(q3c Y Y (by omega)).trans Y);apply DW_x (fun r w hA hH=>(q6q Y (B.ext hA) (by rw [hTl];omega)).trans Y);apply DW_x (fun r w hA hH=>(q0m (v:=.int _ _) Y).trans Y);apply DW_x (fun r w hA hH=>(q0m (v:=.int _ _) Y).trans Y));((with_reducible exact q2c);(exact rfl);(repeat (first | exact .inr (.inr (fun _ _=>by with_reducible rfl)) | (refine And.intro ?_ ?_) | exact .inr (.inl rfl) | exact .inl (by decide +kernel) | exact trivial | exact .inr (.inr (fun _ _=>rfl))));(try dsimp only [Nat.reduceAdd]));intro r w4 E4 _;(refine q0c<|tn<|q0b<|q0a<|m_I Y ?_);refine L_fv Y (rotl _ 7 (hT _) (by omega) w4) ?_;intro w5 E5;(refine m_I Y ?_);refine L_fv Y (rotl _ 18 (hT _) (by omega) w5) ?_;intro w6 E6;(refine Ls (z2v Y Y)<|m_I Y<|Ls (q5f Y Y (by omega))<|Ls (z2v Y Y)<|a_I Y<|q0c<|tn<|q0b<|q0a<|m_I Y ?_);refine L_fv Y (rotl _ 17 (hT _) (by omega) w6) ?_;intro w7 E7;(refine m_I Y ?_);refine L_fv Y (rotl _ 19 (hT _) (by omega) w7) ?_;intro w8 E8;have Ea:=E4.trans (E5.trans (E6.trans (E7.trans E8)));(refine Ls (z2v Y Y)<|m_I Y<|Ls (q5f Y Y (by omega))<|Ls (z2v Y Y)<|a_I Y<|q0c<|tn ?_);apply q1r 15 (by kernel_rfl);(apply DW_x (fun r w hA hH=>(q0d (v:=.int _ _) Y).trans Y);apply DW_x (fun r w hA hH=>(q0d (v:=.int _ _) Y).trans Y);apply DW_x (fun r w hA hH=>(q4h Y Y (by omega)).trans Y);apply DW_x (fun r w hA hH=>(q3c Y Y (by omega)).trans Y);apply DW_x (fun r w hA hH=>(q6q Y ((B.ext Ea).ext hA) (by rw [hTl];omega)).trans Y);apply DW_x (fun r w hA hH=>(q0d (v:=.int _ _) Y).trans Y);apply DW_x (fun r w hA hH=>(q8i Y Y).trans Y);apply DW_x (fun r w hA hH=>(q0d (v:=.int _ _) Y).trans Y);apply DW_x (fun r w hA hH=>(q4h Y Y (by omega)).trans Y);apply DW_x (fun r w hA hH=>(q3c Y Y (by omega)).trans Y);apply DW_x (fun r w hA hH=>(q6q Y ((B.ext Ea).ext hA) (by rw [hTl];omega)).trans Y);apply DW_x (fun r w hA hH=>(q8i Y Y).trans Y);apply DW_x (fun r w hA hH=>(q0d (v:=.int _ _) Y).trans Y);apply DW_x (fun r w hA hH=>(q8i Y Y).trans Y);apply DW_x (fun r w hA hH=>(q4l Y Y (by omega)).trans Y));((with_reducible exact q2c);(exact rfl);(repeat (first | exact .inr (.inr (fun _ _=>by with_reducible rfl)) | (refine And.intro ?_ ?_) | exact .inr (.inl rfl) | exact .inl (by decide +kernel) | exact trivial | exact .inr (.inr (fun _ _=>rfl))));(try dsimp only [Nat.reduceAdd]));intro r w9 E9 _;refine q1b Y (v:=.int _ _) Y Y ((B.ext Ea).ext E9) (by rw [q0v,hTl];omega) ?_;intro w10 B10 hg10 _;(refine q0c<|bn<|tn<|q0a<|m_I Y<|Ls (q1c Y Y (by omega))<|a_I Y<|q0c<|tn ?_);have s0:=sg_walk _ 7 18 3 (hT (k - 15)) (by omega);have s1:=sg_walk _ 17 19 10 (hT (k - 2)) (by omega)
         rw [show (0+((k:Int) - 16).toNat * 1)=k - 16 from by omega,show (0+((k:Int) - 15).toNat * 1)=k - 15 from by omega,show (0+((k:Int) - 7).toNat * 1)=k - 7 from by omega,show (0+((k:Int) - 2).toNat * 1)=k - 2 from by omega,
           show Int.toNat 3=Int.toNat ((3:Nat):Int) from rfl,show Int.toNat 10=Int.toNat ((10:Nat):Int) from rfl,s0,s1,wr3,tab_get _ _ _ (by omega),tab_get _ _ _ (by omega),tab_get _ _ _ (by omega),tab_get _ _ _ (by omega),q4w,show (0+k * 1)=k by omega,
           show 64 - k=(64 - (k+1))+1 from by omega,tab_set _ _ _ _ hsl.symm] at B10
         have e:Sha.sched bl (k+1)=Sha.sched bl k++[((Sha.sched bl k).getD (k - 16) 0+Sha.sg0 ((Sha.sched bl k).getD (k - 15) 0)+(Sha.sched bl k).getD (k - 7) 0+Sha.sg1 ((Sha.sched bl k).getD (k - 2) 0)) % 4294967296]:=by
           show Sha.sched bl k++[Sha.wnext bl (Sha.sched bl k) k]=_;rw [Sha.wnext,if_neg (by omega)]
         refine ⟨64 - (k+1),by omega,k+1,rfl,by omega,by omega,rfl,rfl,rfl,(E.trans (Ea.trans E9)).then hg10 (fun g h=>by cases h;have:=E1.size;omega),?_,(BB.ext (Ea.trans E9)).grown hg10 (by simp;omega)⟩;rw [e];exact B10
       · obtain rfl:k=64:=(by omega);(refine q1d<|te<|te<|bx<|tn<|q0b<|q0a ?_);have B':Blk wr g3 518 (ints .u32 (Sha.sched bl 64)):=(by simpa using B);refine Ls (q2i Y B' (by simp [q0v,Sha.sched_len])) ?_;refine q0t (l:=ints .u32 (Sha.sched bl 64)) Y Y (by simp [q0v,Sha.sched_len]) q1v BB Y ?_;intro w8 B8 hg8 _;(refine q0c<|tn<|q0s ?_);refine q0z Y Y (Res.cellA inferInstance Y (B8.range (fun j u h=>by simpa using h)) (by simp [q0v,Sha.sched_len]) .nil) ?_;exact ⟨rfl,E.then hg8 (fun g h=>by cases h;omega)⟩
theorem maj_or (a b c:Nat):(a &&& b) ^^^ (a &&& c) ^^^ (b &&& c)=(a &&& b) ||| (a &&& c) ||| (b &&& c):=by
 apply Nat.eq_of_testBit_eq;intro i;simp only [Nat.testBit_xor,Nat.testBit_and,Nat.testBit_or];cases a.testBit i <;> cases b.testBit i <;> cases c.testBit i <;> rfl
theorem addS_get (S R:Sha.S8) (j:Nat) (hj:j < 8):(Sha.addS S R).list.getD j 0=(S.list.getD j 0+R.list.getD j 0) % 4294967296:=by
 match j,hj with
 | 0,_ | 1,_ | 2,_ | 3,_ | 4,_ | 5,_ | 6,_ | 7,_=>rfl
theorem mix_get (a b:List Nat) (j:Nat) (h:a.length=b.length) (hj:j < b.length):(a.take j++b.drop j).getD j 0=b.getD j 0:=by
 simp [List.getD,List.getElem?_append,hj,show min j a.length=j by omega]
theorem mix_set (a b:List Nat) (j:Nat) (h:a.length=b.length) (hj:j < b.length):(a.take j++b.drop j).set j (a.getD j 0)=a.take (j+1)++b.drop (j+1):=by
 have hl:(a.take j).length=j:=by simp;omega
 rw [List.set_append_right _ _ (by omega),hl,Nat.sub_self,List.drop_eq_getElem_cons hj,List.set_cons_zero,List.take_succ_eq_append_getElem (by omega),List.append_assoc];simp [List.getD,show j < a.length by omega]
theorem wr3b (a b c:Nat):IntKind.u32.wrap (IntKind.u32.wrap ((a:Int)+(b:Nat))+(c:Nat))=(((a+(b+c) % 4294967296) % 4294967296:Nat):Int):=by
 simp only [IntKind.wrap_u32];omega
theorem ones_xor (e:Nat) (he:e < 4294967296):4294967295 ^^^ e=4294967295 - e:=by
 have h:(BitVec.allOnes 32 ^^^ BitVec.ofNat 32 e).toNat=(~~~ BitVec.ofNat 32 e).toNat:=by rw [BitVec.allOnes_xor]
 rw [BitVec.toNat_xor,BitVec.toNat_not,BitVec.toNat_ofNat,Nat.mod_eq_of_lt he,BitVec.toNat_allOnes] at h;exact h
theorem inv_xor (e:Nat) (he:e < 4294967296):bits BinOp.xor IntKind.u32 (if IntKind.u32.signed=true then -1 else IntKind.u32.max) (e:Int)=IntKind.u32.wrap (4294967295 - (e:Int)):=by
 rw [show (if IntKind.u32.signed=true then (-1:Int) else IntKind.u32.max)=((4294967295:Nat):Int) from rfl,q3w _ _ (by omega) he,ones_xor e he,inv_walk e he]
theorem maj_walk (a b c:Nat) (ha:a < 4294967296) (hb:b < 4294967296) (hc:c < 4294967296):bits BinOp.xor IntKind.u32 (bits BinOp.xor IntKind.u32 (bits BinOp.and IntKind.u32 (a:Int) (b:Int)) (bits BinOp.and IntKind.u32 (a:Int) (c:Int))) (bits BinOp.and IntKind.u32 (b:Int) (c:Int))=((Sha.maj a b c:Nat):Int):=by
 rw [q5n _ _ ha hb,q5n _ _ ha hc,q5n _ _ hb hc,q3w _ _ (Sha.and_lt hb) (Sha.and_lt hc),q3w _ _ (Sha.xor_lt (Sha.and_lt hb) (Sha.and_lt hc)) (Sha.and_lt hc),maj_or];rfl
theorem gcompress (g lo hi:Nat) (v:Value) (S:Sha.S8) (hS:S.ok) (bl:List Nat) (hlen:bl.length=64) (hb:Sha.bytesOk bl) (w:World) (hr:Row w lo hi 1 v 64 (ints .u8 bl)) (hg:Blk w g 456 (ints .u32 S.list))
   (hk:Rng w 4 (ints .u32 Sha.ks)) :
   Calls Tryz.prog 315 #[.pointer (some ⟨g,0,none⟩),v] w fun e w'=>e=.returned (.tuple #[])∧Blk w' g 456 (ints .u32 (Sha.compress S bl).list)∧w.grownBy w' (some g):=by
 refine q0j Tryz.func315 Y Tryz.ntmps315 Y ?_;(refine q0b<|q0a<|Ls (q0d (v:=v) Y) ?_);refine L_fv Y (gschedule lo hi v bl hlen hb w hr) ?_;intro w1 E1;refine q0w ?_;intro g4 w2 B4 hg4 E2 hs2;refine q0t (l:=ints .u32 (Sha.sched bl 64)) Y Y (by simp [q0v,Sha.sched_len]) q1v B4 Y ?_;intro w3 B4' hg3 hs3;have E3:Ext w w3:=(E1.trans E2).then hg3 (fun g h=>by cases h;have:=E1.size;omega);have G3:=hg.ext E3;(refine q0c<|tn<|q0b<|q0a<|m_P Y<|Ls (q1m Y)<|Ls (q2i Y G3 Y) ?_);refine q0w ?_;intro g5 w4 B5 hg5 E4 hs4;refine q0t (l:=ints .u32 S.list) Y Y Y q1v B5 Y ?_;intro w5 B5' hgg5 hs5;have E5:Ext w w5:=(E3.trans E4).then hgg5 (fun g h=>by cases h;have:=E3.size;omega);have C4:=(B4'.ext E4).grown hgg5 (by simp;omega);have hglt:g < w.heap.size:=hg.lt;(refine q0c<|tn<|q0b<|q0b<|q0a<|m_I Y<|q0c<|tn<|q0p ?_);refine q1e (fun q f w'=>∃ k,q=64 - k∧k≤64∧f 0=.pointer (some ⟨g,0,none⟩)∧f 4=.pointer (some ⟨g4,0,none⟩)∧f 5=.pointer (some ⟨g5,0,none⟩)∧f 21=.int .i64 (k:Nat)∧Ext w w' ∧
   Blk w' g4 518 (ints .u32 (Sha.sched bl 64))∧Blk w' g5 456 (ints .u32 (Sha.rounds S (Sha.sched bl 64) k).list)) 64 ?_ ?_
 · exact ⟨0,rfl,by omega,rfl,rfl,rfl,rfl,E5,C4,B5'⟩
 · clear B5 B5' C4;rintro q f wr ⟨k,rfl,hkk,h0,h4,h5,h21,E,D4,D5⟩;rw [fold h0,fold h4,fold h5,fold h21];have hok:=Sha.rounds_ok hS (Sha.sched bl 64) k;have hnext:Sha.rounds S (Sha.sched bl 64) (k+1)=Sha.round (Sha.rounds S (Sha.sched bl 64) k) (Sha.ks.getD k 0) ((Sha.sched bl 64).getD k 0):=rfl;have hlast:k=64→Sha.compress S bl=Sha.addS S (Sha.rounds S (Sha.sched bl 64) k):=(by rintro rfl;rfl);generalize Sha.rounds S (Sha.sched bl 64) k=R at D5 hok hnext hlast;have hsl:(Sha.sched bl 64).length=64:=Sha.sched_len bl 64;have hws:(Sha.sched bl 64).getD k 0 < 4294967296:=Sha.getD_lt (Sha.sched_ok hb 64) (by omega);generalize Sha.sched bl 64=ws at D4 hnext hsl hws;obtain ⟨ra,rb,rc,rd,re,rf,rg,rh⟩:=hok;(refine q0b<|q0a<|Ls (q2h Y Y)<|q0c<|tn<|q0b ?_);refine q0x Y (fun h=>?_) (fun h=>?_)
   · (refine q0l<|tn<|q0b<|q0p<|q0b<|q0a<|m_I Y<|a_I Y<|q0c<|tn<|q0b ?_);apply q1r 6 (by kernel_rfl);(apply DW_x (fun r w hA hH=>(q3c Y Y (by omega)).trans Y);apply DW_x (fun r w hA hH=>(q6q Y (D5.ext hA) (by show _ < 8;omega)).trans Y);apply DW_x (fun r w hA hH=>(q3c Y Y (by omega)).trans Y);apply DW_x (fun r w hA hH=>(q6q Y (D5.ext hA) (by show _ < 8;omega)).trans Y);apply DW_x (fun r w hA hH=>(q0m (v:=.int _ _) Y).trans Y);apply DW_x (fun r w hA hH=>(q0m (v:=.int _ _) Y).trans Y));((with_reducible exact q2c);(exact rfl);(repeat (first | exact .inr (.inr (fun _ _=>by with_reducible rfl)) | (refine And.intro ?_ ?_) | exact .inr (.inl rfl) | exact .inl (by decide +kernel) | exact trivial | exact .inr (.inr (fun _ _=>rfl))));(try dsimp only [Nat.reduceAdd]));intro r w6 E6 _;(refine q0c<|tn<|q0b<|q0a<|m_I Y ?_);have q0:R.list.getD (0+Int.toNat 0 * 1) 0=R.a:=rfl;have q1:R.list.getD (0+Int.toNat 1 * 1) 0=R.b:=rfl;have q2:R.list.getD (0+Int.toNat 2 * 1) 0=R.c:=rfl;have q4:R.list.getD (0+Int.toNat 4 * 1) 0=R.e:=rfl;have q5:R.list.getD (0+Int.toNat 5 * 1) 0=R.f:=rfl;have q6:R.list.getD (0+Int.toNat 6 * 1) 0=R.g:=rfl;have q7:R.list.getD (0+Int.toNat 7 * 1) 0=R.h:=rfl;rw [q0,q4];refine L_fv Y (rotl R.e 6 re (by omega) w6) ?_;intro w7 E7;(refine m_I Y ?_);refine L_fv Y (rotl R.e 11 re (by omega) w7) ?_;intro w8 E8;(refine Ls (z2v Y Y)<|m_I Y ?_);refine L_fv Y (rotl R.e 25 re (by omega) w8) ?_;intro w9 E9;have Ea:=E6.trans (E7.trans (E8.trans E9));(refine Ls (z2v Y Y)<|a_I Y<|q0c<|tn<|q0b<|q0a<|m_I Y<|Ls (q3c Y Y (by omega))<|Ls (q6q Y (D5.ext Ea) (by show _ < 8;omega))<|Ls (q4s Y Y)<|m_I Y<|Ls (X_inv Y)<|Ls (q3c Y Y (by omega))<|Ls (q6q Y (D5.ext Ea) (by show _ < 8;omega))<|Ls (q4s Y Y)<|Ls (z2v Y Y)<|a_I Y<|q0c<|tn<|q0b ?_);rw [q5,q6];(apply shrink9 0 4 5 21 6 7 8 9 10;(first | exact (rfl:_=Value.int _ _) | exact (rfl:_=Value.slice _ _ _) | exact (rfl:_=Value.bool _) | exact (rfl:_=Value.pointer _) | exact (rfl:_=Value.agg _) | exact (rfl:_=Value.string _) | exact (rfl:_=Value.tuple _) | exact (rfl:_=Value.func _ _ _) | exact (rfl:_=Value.map _));(first | exact (rfl:_=Value.int _ _) | exact (rfl:_=Value.slice _ _ _) | exact (rfl:_=Value.bool _) | exact (rfl:_=Value.pointer _) | exact (rfl:_=Value.agg _) | exact (rfl:_=Value.string _) | exact (rfl:_=Value.tuple _) | exact (rfl:_=Value.func _ _ _) | exact (rfl:_=Value.map _));(first | exact (rfl:_=Value.int _ _) | exact (rfl:_=Value.slice _ _ _) | exact (rfl:_=Value.bool _) | exact (rfl:_=Value.pointer _) | exact (rfl:_=Value.agg _) | exact (rfl:_=Value.string _) | exact (rfl:_=Value.tuple _) | exact (rfl:_=Value.func _ _ _) | exact (rfl:_=Value.map _));(first | exact (rfl:_=Value.int _ _) | exact (rfl:_=Value.slice _ _ _) | exact (rfl:_=Value.bool _) | exact (rfl:_=Value.pointer _) | exact (rfl:_=Value.agg _) | exact (rfl:_=Value.string _) | exact (rfl:_=Value.tuple _) | exact (rfl:_=Value.func _ _ _) | exact (rfl:_=Value.map _));(first | exact (rfl:_=Value.int _ _) | exact (rfl:_=Value.slice _ _ _) | exact (rfl:_=Value.bool _) | exact (rfl:_=Value.pointer _) | exact (rfl:_=Value.agg _) | exact (rfl:_=Value.string _) | exact (rfl:_=Value.tuple _) | exact (rfl:_=Value.func _ _ _) | exact (rfl:_=Value.map _));(first | exact (rfl:_=Value.int _ _) | exact (rfl:_=Value.slice _ _ _) | exact (rfl:_=Value.bool _) | exact (rfl:_=Value.pointer _) | exact (rfl:_=Value.agg _) | exact (rfl:_=Value.string _) | exact (rfl:_=Value.tuple _) | exact (rfl:_=Value.func _ _ _) | exact (rfl:_=Value.map _));(first | exact (rfl:_=Value.int _ _) | exact (rfl:_=Value.slice _ _ _) | exact (rfl:_=Value.bool _) | exact (rfl:_=Value.pointer _) | exact (rfl:_=Value.agg _) | exact (rfl:_=Value.string _) | exact (rfl:_=Value.tuple _) | exact (rfl:_=Value.func _ _ _) | exact (rfl:_=Value.map _));(first | exact (rfl:_=Value.int _ _) | exact (rfl:_=Value.slice _ _ _) | exact (rfl:_=Value.bool _) | exact (rfl:_=Value.pointer _) | exact (rfl:_=Value.agg _) | exact (rfl:_=Value.string _) | exact (rfl:_=Value.tuple _) | exact (rfl:_=Value.func _ _ _) | exact (rfl:_=Value.map _));(first | exact (rfl:_=Value.int _ _) | exact (rfl:_=Value.slice _ _ _) | exact (rfl:_=Value.bool _) | exact (rfl:_=Value.pointer _) | exact (rfl:_=Value.agg _) | exact (rfl:_=Value.string _) | exact (rfl:_=Value.tuple _) | exact (rfl:_=Value.func _ _ _) | exact (rfl:_=Value.map _));intro f);apply q1r 15 (by kernel_rfl);(apply DW_x (fun r w hA hH=>(q3c Y Y (by omega)).trans Y);apply DW_x (fun r w hA hH=>(q6q Y ((D5.ext Ea).ext hA) (by show _ < 8;omega)).trans Y);apply DW_x (fun r w hA hH=>(q0d (v:=.int _ _) Y).trans Y);apply DW_x (fun r w hA hH=>(q8i Y Y).trans Y);apply DW_x (fun r w hA hH=>(q0d (v:=.int _ _) Y).trans Y);apply DW_x (fun r w hA hH=>(q8i Y Y).trans Y);apply DW_x (fun r w hA hH=>(q0d (v:=.int _ _) Y).trans Y);apply DW_x (fun r w hA hH=>(q4l Y Y (by omega)).trans Y);apply DW_x (fun r w hA hH=>(X_ldIg Y (((hk.ext E).ext Ea).ext hA) (by show _ < 64;omega)).trans Y);apply DW_x (fun r w hA hH=>(q8i Y Y).trans Y);apply DW_x (fun r w hA hH=>(q0d (v:=.int _ _) Y).trans Y);apply DW_x (fun r w hA hH=>(q4l Y Y (by omega)).trans Y);apply DW_x (fun r w hA hH=>(q6q Y ((D4.ext Ea).ext hA) (by omega)).trans Y);apply DW_x (fun r w hA hH=>(q8i Y Y).trans Y);apply DW_x (fun r w hA hH=>(q0m (v:=.int _ _) Y).trans Y));((with_reducible exact q2c);(exact rfl);(repeat (first | exact .inr (.inr (fun _ _=>by with_reducible rfl)) | (refine And.intro ?_ ?_) | exact .inr (.inl rfl) | exact .inl (by decide +kernel) | exact trivial | exact .inr (.inr (fun _ _=>rfl))));(try dsimp only [Nat.reduceAdd]));intro r w10 E10 _;have e1:=t1_walk R (Sha.ks.getD k 0) (ws.getD k 0) ⟨ra,rb,rc,rd,re,rf,rg,rh⟩;rw [show 0+k * 1=k from by omega,q7,inv_xor _ re,e1];refine q0c ?_;with_reducible refine tn ?_
     (apply shrink6 0 4 5 21 7 11;(first | exact (rfl:_=Value.int _ _) | exact (rfl:_=Value.slice _ _ _) | exact (rfl:_=Value.bool _) | exact (rfl:_=Value.pointer _) | exact (rfl:_=Value.agg _) | exact (rfl:_=Value.string _) | exact (rfl:_=Value.tuple _) | exact (rfl:_=Value.func _ _ _) | exact (rfl:_=Value.map _));(first | exact (rfl:_=Value.int _ _) | exact (rfl:_=Value.slice _ _ _) | exact (rfl:_=Value.bool _) | exact (rfl:_=Value.pointer _) | exact (rfl:_=Value.agg _) | exact (rfl:_=Value.string _) | exact (rfl:_=Value.tuple _) | exact (rfl:_=Value.func _ _ _) | exact (rfl:_=Value.map _));(first | exact (rfl:_=Value.int _ _) | exact (rfl:_=Value.slice _ _ _) | exact (rfl:_=Value.bool _) | exact (rfl:_=Value.pointer _) | exact (rfl:_=Value.agg _) | exact (rfl:_=Value.string _) | exact (rfl:_=Value.tuple _) | exact (rfl:_=Value.func _ _ _) | exact (rfl:_=Value.map _));(first | exact (rfl:_=Value.int _ _) | exact (rfl:_=Value.slice _ _ _) | exact (rfl:_=Value.bool _) | exact (rfl:_=Value.pointer _) | exact (rfl:_=Value.agg _) | exact (rfl:_=Value.string _) | exact (rfl:_=Value.tuple _) | exact (rfl:_=Value.func _ _ _) | exact (rfl:_=Value.map _));(first | exact (rfl:_=Value.int _ _) | exact (rfl:_=Value.slice _ _ _) | exact (rfl:_=Value.bool _) | exact (rfl:_=Value.pointer _) | exact (rfl:_=Value.agg _) | exact (rfl:_=Value.string _) | exact (rfl:_=Value.tuple _) | exact (rfl:_=Value.func _ _ _) | exact (rfl:_=Value.map _));(first | exact (rfl:_=Value.int _ _) | exact (rfl:_=Value.slice _ _ _) | exact (rfl:_=Value.bool _) | exact (rfl:_=Value.pointer _) | exact (rfl:_=Value.agg _) | exact (rfl:_=Value.string _) | exact (rfl:_=Value.tuple _) | exact (rfl:_=Value.func _ _ _) | exact (rfl:_=Value.map _));intro f);(refine q0b<|q0a<|m_I Y ?_);refine L_fv Y (rotl R.a 2 ra (by omega) w10) ?_;intro w11 E11;(refine m_I Y ?_);refine L_fv Y (rotl R.a 13 ra (by omega) w11) ?_;intro w12 E12;(refine Ls (z2v Y Y)<|m_I Y ?_);refine L_fv Y (rotl R.a 22 ra (by omega) w12) ?_;intro w13 E13;have Eb:=Ea.trans (E10.trans (E11.trans (E12.trans E13)));(refine Ls (z2v Y Y)<|a_I Y<|q0c<|tn<|q0b<|q0a<|m_I Y<|Ls (q3c Y Y (by omega))<|Ls (q6q Y (D5.ext Eb) (by show _ < 8;omega))<|Ls (q4s Y Y)<|m_I Y<|Ls (q3c Y Y (by omega))<|Ls (q6q Y (D5.ext Eb) (by show _ < 8;omega))<|Ls (q4s Y Y)<|Ls (z2v Y Y)<|Ls (q3c Y Y (by omega))<|Ls (q6q Y (D5.ext Eb) (by show _ < 8;omega))<|Ls (q3c Y Y (by omega))<|Ls (q6q Y (D5.ext Eb) (by show _ < 8;omega))<|Ls (q4s Y Y)<|Ls (z2v Y Y)<|a_I Y<|q0c<|tn<|q0b ?_);rw [q1,q2,maj_walk _ _ _ ra rb rc,rot3_walk _ _ _ _ ra];(apply shrink7 0 4 5 21 11 12 13;(first | exact (rfl:_=Value.int _ _) | exact (rfl:_=Value.slice _ _ _) | exact (rfl:_=Value.bool _) | exact (rfl:_=Value.pointer _) | exact (rfl:_=Value.agg _) | exact (rfl:_=Value.string _) | exact (rfl:_=Value.tuple _) | exact (rfl:_=Value.func _ _ _) | exact (rfl:_=Value.map _));(first | exact (rfl:_=Value.int _ _) | exact (rfl:_=Value.slice _ _ _) | exact (rfl:_=Value.bool _) | exact (rfl:_=Value.pointer _) | exact (rfl:_=Value.agg _) | exact (rfl:_=Value.string _) | exact (rfl:_=Value.tuple _) | exact (rfl:_=Value.func _ _ _) | exact (rfl:_=Value.map _));(first | exact (rfl:_=Value.int _ _) | exact (rfl:_=Value.slice _ _ _) | exact (rfl:_=Value.bool _) | exact (rfl:_=Value.pointer _) | exact (rfl:_=Value.agg _) | exact (rfl:_=Value.string _) | exact (rfl:_=Value.tuple _) | exact (rfl:_=Value.func _ _ _) | exact (rfl:_=Value.map _));(first | exact (rfl:_=Value.int _ _) | exact (rfl:_=Value.slice _ _ _) | exact (rfl:_=Value.bool _) | exact (rfl:_=Value.pointer _) | exact (rfl:_=Value.agg _) | exact (rfl:_=Value.string _) | exact (rfl:_=Value.tuple _) | exact (rfl:_=Value.func _ _ _) | exact (rfl:_=Value.map _));(first | exact (rfl:_=Value.int _ _) | exact (rfl:_=Value.slice _ _ _) | exact (rfl:_=Value.bool _) | exact (rfl:_=Value.pointer _) | exact (rfl:_=Value.agg _) | exact (rfl:_=Value.string _) | exact (rfl:_=Value.tuple _) | exact (rfl:_=Value.func _ _ _) | exact (rfl:_=Value.map _));(first | exact (rfl:_=Value.int _ _) | exact (rfl:_=Value.slice _ _ _) | exact (rfl:_=Value.bool _) | exact (rfl:_=Value.pointer _) | exact (rfl:_=Value.agg _) | exact (rfl:_=Value.string _) | exact (rfl:_=Value.tuple _) | exact (rfl:_=Value.func _ _ _) | exact (rfl:_=Value.map _));(first | exact (rfl:_=Value.int _ _) | exact (rfl:_=Value.slice _ _ _) | exact (rfl:_=Value.bool _) | exact (rfl:_=Value.pointer _) | exact (rfl:_=Value.agg _) | exact (rfl:_=Value.string _) | exact (rfl:_=Value.tuple _) | exact (rfl:_=Value.func _ _ _) | exact (rfl:_=Value.map _));intro f);apply q1r 2 (by kernel_rfl);((with_reducible apply DW_x);(exact fun r w hA hH=>(X_arrFrom 1 Y Y Y (by omega)).trans Y));((with_reducible apply DW_x);(exact fun r w hA hH=>(X_arrTo 7 Y Y Y (by omega) (by omega)).trans Y));((with_reducible exact q2c);(exact rfl);(repeat (first | exact .inr (.inr (fun _ _=>by with_reducible rfl)) | (refine And.intro ?_ ?_) | exact .inr (.inl rfl) | exact .inl (by decide +kernel) | exact trivial | exact .inr (.inr (fun _ _=>rfl))));(try dsimp only [Nat.reduceAdd]));intro r w14 E14 _;have D6:=(D5.ext Eb).ext E14;refine L_copy (m:=7) (cs:=ints .u32 [R.a,R.b,R.c,R.d,R.e,R.f,R.g]) Y Y D6 Y Y (D6.range (fun j u hu=>?_)) (by show _≤8;omega) q1v ?_
     · have hj:j < 7:=(List.getElem?_eq_some_iff.1 hu).1;rw [show 0+j=j by omega];rw [← hu];match j,hj with
       | 0,_ | 1,_ | 2,_ | 3,_ | 4,_ | 5,_ | 6,_=>rfl
     intro w15 B15 hg15 hs15;have B15':Blk w15 g5 456 (ints .u32 [R.a,R.a,R.b,R.c,R.d,R.e,R.f,R.g]):=B15;(refine q0c<|tn<|q0b<|q0a<|Ls (q3c Y Y (by omega))<|Ls (q6q Y B15' (by show _ < 8;omega))<|m_I Y<|Ls (q8i Y Y)<|Ls (q3c Y Y (by omega)) ?_);refine q1b Y (v:=.int _ _) Y Y B15' (by show _ < 8;omega) ?_;intro w16 B16 hg16 hs16;rw [show ([R.a,R.a,R.b,R.c,R.d,R.e,R.f,R.g]:List Nat).getD (0+Int.toNat 4 * 1) 0=R.d from rfl,wr2] at B16;have B16':Blk w16 g5 456 (ints .u32 [R.a,R.a,R.b,R.c,(R.d+Sha.t1 R (Sha.ks.getD k 0) (ws.getD k 0)) % 4294967296,R.e,R.f,R.g]):=B16;(refine q0c<|tn<|q0a<|m_I Y<|m_I Y<|Ls (q8i Y Y)<|m_I Y<|Ls (q8i Y Y)<|Ls (q3c Y Y (by omega)) ?_);refine q1b Y (v:=.int _ _) Y Y B16' (by show _ < 8;omega) ?_;intro w17 B17 hg17 hs17;rw [wr3b] at B17;have B17':Blk w17 g5 456 (ints .u32 (Sha.round R (Sha.ks.getD k 0) (ws.getD k 0)).list):=B17;(refine q0c<|bn<|tn<|q0a<|Ls (q1c Y Y (by omega))<|m_I Y<|q0c<|tn ?_);have Ec:Ext wr w14:=Eb.trans E14;have hE:=E5.size;have Ed:Ext w w17:=((((E.trans Ec).then hg15 (fun g h=>by cases h;have:=E3.size;omega)).then hg16 (fun g h=>by cases h;have:=E3.size;omega)).then hg17 (fun g h=>by cases h;have:=E3.size;omega));refine ⟨64 - (k+1),by omega,k+1,rfl,by omega,rfl,rfl,rfl,rfl,Ed,((((D4.ext Ec).grown hg15 (by simp;omega)).grown hg16 (by simp;omega)).grown hg17 (by simp;omega)),?_⟩;rw [hnext];exact B17'
   · obtain rfl:k=64:=(by omega);have G0:=hg.ext E;(refine q1d<|te<|te<|bx<|tn<|q0b<|q0a<|Ls (q2i Y D5 Y)<|m_I Y<|q0c<|tn<|q0p ?_);rw [hlast Y];clear hlast hnext hws;refine q1e (fun q f w'=>∃ j,q=8 - j∧j≤8∧f 0=.pointer (some ⟨g,0,none⟩)∧f 98=.agg (ints .u32 R.list).toArray∧f 99=.int .i64 (j:Nat)∧w.grownBy w' (some g) ∧
       Blk w' g 456 (ints .u32 ((Sha.addS S R).list.take j++S.list.drop j))) 8 ?_ ?_
     · exact ⟨0,rfl,by omega,rfl,rfl,rfl,E.row _,G0⟩
     · clear G0 D5 D4 E h0 h4 h5 h21;rintro q f wy ⟨j,rfl,hj,h0,h98,h99,hgy,G⟩;rw [fold h0,fold h98,fold h99];have hll:((Sha.addS S R).list.take j++S.list.drop j).length=8:=(by simp [Sha.list_len];omega);(refine q0b<|q0a<|Ls (q2h Y Y)<|q0c<|tn<|q0b ?_);refine q0x Y (fun h=>?_) (fun h=>?_)
       · (refine q0l<|tn<|q0b<|q0p<|q0b<|q0a<|m_I Y ?_);refine Ls (X_indexVI (i:=j) (len:=8) Y Y (by omega) Y) ?_;(refine a_I Y<|a_I Y<|q0c<|tn ?_);apply q1r 9 (by kernel_rfl);(apply DW_x (fun r w hA hH=>(q0d (v:=.pointer _) Y).trans Y);apply DW_x (fun r w hA hH=>(q0d (v:=.int _ _) Y).trans Y);apply DW_x (fun r w hA hH=>(q1m Y).trans Y);apply DW_x (fun r w hA hH=>(q4l Y Y (by omega)).trans Y);apply DW_x (fun r w hA hH=>(q6q Y (G.ext hA) (by rw [hll];omega)).trans Y);apply DW_x (fun r w hA hH=>(q0d (v:=.int _ _) Y).trans Y);apply DW_x (fun r w hA hH=>(q8i Y Y).trans Y);apply DW_x (fun r w hA hH=>(q1m Y).trans Y);apply DW_x (fun r w hA hH=>(q4l Y Y (by omega)).trans Y));((with_reducible exact q2c);(exact rfl);(repeat (first | exact .inr (.inr (fun _ _=>by with_reducible rfl)) | (refine And.intro ?_ ?_) | exact .inr (.inl rfl) | exact .inl (by decide +kernel) | exact trivial | exact .inr (.inr (fun _ _=>rfl))));(try dsimp only [Nat.reduceAdd]));intro r w6 E6 _;refine q1b Y (v:=.int _ _) Y Y (G.ext E6) (by rw [q0v,hll];omega) ?_;intro w7 B7 hg7 hs7;(refine q0c<|bn<|tn<|q0a<|Ls (q1c Y Y (by omega))<|m_I Y<|q0c<|tn ?_);rw [show 0+j * 1=j by omega,mix_get _ _ _ (by rw [Sha.list_len,Sha.list_len]) (by rw [Sha.list_len];omega),wr2,← addS_get S R j (by omega),q4w,mix_set _ _ _ (by rw [Sha.list_len,Sha.list_len]) (by rw [Sha.list_len];omega)] at B7;exact ⟨8 - (j+1),by omega,j+1,rfl,by omega,rfl,rfl,rfl,q0e (q0e hgy E6 (fun _ h=>by cases h)) hg7 (fun g' h=>by cases h;exact .inl Y),B7⟩
       · obtain rfl:j=8:=(by omega);(refine q1d<|te<|te<|bx ?_);refine q1h Y Y ?_;have e:(Sha.addS S R).list.take 8++S.list.drop 8=(Sha.addS S R).list:=rfl;rw [e] at G;exact ⟨rfl,G,hgy⟩
theorem cloneB (lo hi:Nat) (v:Value) (a:List Nat) (hl:a.length≤1000000000) (w:World) (hr:Row w lo hi 1 v a.length (ints .u8 a)) :
   Calls Tryz.prog 316 #[v] w fun e w'=>∃ q,e=.returned q∧Ext w w'∧w'.ownsRow w.heap.size 5 1 q a.length (ints .u8 a):=by
 refine q0j Tryz.func316 Y Tryz.ntmps316 Y ?_;have hr':=hr;obtain ⟨hl0,A,c,rfl,hc,hcm,hn⟩:=hr';(refine q0b<|q0a<|a_S Y<|q0c<|tn<|q0b<|q0b<|q0a<|m_S Y ?_);refine Ls (X_eqlNil Y Y) ?_;(refine q0c<|tn ?_);refine q8j Y (fun h=>?_) (fun h=>?_)
 · have hA:A=none:=(by simpa using h);subst hA;have h0:a=[]:=by
     rcases Nat.eq_zero_or_pos a.length with h0 | h0
     · exact List.eq_nil_of_length_eq_zero h0
     · obtain ⟨b,o,hb,_⟩:=hn h0;cases hb
   subst h0;(refine q0b<|q0a<|a_S Y<|q0c<|tn<|q0s<|tr ?_);refine q0f Y Y (v:=.slice _ _ _) Y ?_;exact ⟨_,rfl,Ext.refl w,⟨rfl,.inl ⟨rfl,rfl⟩⟩⟩
 · (refine q0l<|tn<|q0b<|q0a ?_);refine z0c ?_;intro q1 w1 E1 hs1 o1;(refine m_S Y ?_);refine q1u (v:=q1) (u:=.slice _ _ _) Y Y o1 (hr.ext E1) q1v (by omega) (by omega) (by omega) ?_;intro q2 w2 o2 hg2 _;(refine Ls (q0m (v:=q2) Y)<|q0c<|tn<|q0s ?_);refine q0f Y Y (v:=q2) Y ?_;refine ⟨q2,rfl,E1.then hg2 (fun g h=>(o1.lt g h).1),?_⟩;rw [Nat.zero_add,List.nil_append] at o2;exact o2
def blk (a:List Nat) (i:Nat):List Nat:=((Sha.pad a).drop (64 * i)).take 64
def PreB (a:List Nat) (i:Nat) (u:Value) (w:World):Prop:=i < (Sha.pad a).length / 64∧∃ lo hi,Row w lo hi 1 u 64 (ints .u8 (blk a i))
def q7x (a:List Nat):List Nat:=(Sha.pad a).drop (a.length / 64 * 64)
theorem blk_head (a:List Nat) (i:Nat) (h:64 * i+64≤a.length):blk a i=(a.drop (64 * i)).take 64:=by
 unfold blk Sha.pad;rw [List.append_assoc,List.append_assoc,List.drop_append_of_le_length (by omega),List.take_append_of_le_length (by simp;omega)]
theorem tail_len (a:List Nat):(q7x a).length=(Sha.pad a).length - a.length / 64 * 64:=by simp [q7x]
theorem blk_tail (a:List Nat) (j:Nat):((q7x a).drop (64 * j)).take 64=blk a (a.length / 64+j):=by
 unfold q7x blk;rw [List.drop_drop,show a.length / 64 * 64+64 * j=64 * (a.length / 64+j) by omega]
theorem tail_eq (a:List Nat):q7x a=a.drop (a.length / 64 * 64)++[128]++List.replicate (Sha.zeros a.length) 0++Sha.lenBytes a.length:=by
 unfold q7x Sha.pad;rw [List.append_assoc,List.append_assoc,List.drop_append_of_le_length (by omega),← List.append_assoc,← List.append_assoc]
theorem tail_eq' (a:List Nat):q7x a=a.drop (64 * (a.length / 64))++[128]++List.replicate (Sha.zeros a.length) 0++Sha.lenBytes a.length:=by
 rw [tail_eq,Nat.mul_comm]
theorem gblocks (g g1 lo hi:Nat) (v:Value) (a:List Nat) (hl:a.length≤1000000000) (w:World) (hr:Row w lo hi 1 v a.length (ints .u8 a)) (hg:¬ (lo≤g∧g < hi)) (hB:Blk w g1 69 [v]) (hg1:g1 ≠ g) (hgw:g < w.heap.size) :
   Iter Tryz.prog 390 #[.pointer (some ⟨g1,0,none⟩)] w (PreB a) (KeepBut g) Ext Ext (fun i _=>i=(Sha.pad a).length / 64):=by
 intro l J Jx w1 E1 hJ hJx hY h0;have hp:(Sha.pad a).length % 64=0:=by rw [Sha.pad_len];have:=Sha.pad_mod a.length;omega
 have hzl:=z1k a.length;have hp0:(Sha.pad a).length≤1000000100:=by rw [Sha.pad_len];have:=z1k a.length;omega
 refine q0j Tryz.func390 Y Tryz.ntmps390 Y ?_;have hr1:=hr.ext E1;have hB1:=hB.ext E1;obtain ⟨_,A0,c0,rfl,hc0,_,_⟩:=id hr;(refine q0b<|q0a<|Ls (X_ld Y hB1 Y)<|Ls (q0i Y)<|Ls (X_quoi Y Y (by omega))<|Ls (q5r Y Y (by omega))<|a_I Y<|q0c<|tn<|q0b<|q0b<|q0a<|a_I Y<|q0c<|tn<|q0p ?_);have e3:((a.length:Nat):Int) / 64 * 64=((64 * (a.length / 64):Nat):Int):=by omega
 rw [e3];have hN:a.length / 64 < (Sha.pad a).length / 64:=by rw [Sha.pad_len];have:=Sha.pad_mod a.length;omega
 refine q1e (fun q f w'=>∃ k,q=a.length / 64 - k∧k≤a.length / 64∧f 0=q5c l∧f 1=.pointer (some ⟨g1,0,none⟩)∧f 3=.int .i64 ((64 * (a.length / 64):Nat):Int)∧f 4=.int .i64 ((64 * k:Nat):Int) ∧
   J k w'∧Blk w' g1 69 [.slice A0 a.length c0]∧Row w' lo hi 1 (.slice A0 a.length c0) a.length (ints .u8 a)∧w.heap.size≤w'.heap.size) (a.length / 64) ?_ ?_
 · exact ⟨0,rfl,by omega,rfl,rfl,rfl,rfl,h0,hB1,hr1,E1.size⟩
 · clear hB1 hr1 h0 hr hB;rintro q f wr ⟨k,rfl,hk,h0,h1,h3,h4,hj,hB,hr,hsz⟩;rw [fold h0,fold h1,fold h3,fold h4];(refine q0b<|q0b<|q0a<|m_I Y<|m_I Y<|Ls (q2h Y Y)<|q0c<|tn ?_);refine q0x Y (fun h=>?_) (fun h=>?_)
   · have hcut:=hr.cut (i:=64 * k) (j:=64 * k+64) (q:=64) (by omega) (by omega) (by omega);rw [← blk_head a k (by omega)] at hcut;(refine q0l<|tn<|q0b<|q0p<|q0b<|q0a<|Ls (q0d (v:=.func _ _ _) Y)<|Ls (X_ld Y hB Y)<|m_I Y<|m_I Y<|Ls (q1c Y Y (by omega)) ?_);refine Ls (z2w (64 * k) (64 * k+64) Y Y Y Y Y (by omega) (by omega)) ?_;refine z3h Y Y Y (hY k _ wr hj ⟨by omega,lo,hi,hcut⟩) ?_;rintro e w2 (⟨rfl,hj2,hk2⟩ | ⟨rfl,hjx⟩)
     · refine ⟨.bool true,rfl,?_⟩;(refine Ls (q1o Y)<|q0c<|tn<|q0h Y<|q0l<|bn<|tn<|q0a<|m_I Y<|Ls (q1c Y Y (by omega))<|a_I Y<|q0c<|tn ?_);exact ⟨a.length / 64 - (k+1),by omega,k+1,rfl,by omega,rfl,rfl,rfl,congrArg (Value.int .i64) (show ((64 * k:Nat):Int)+64=((64 * (k+1):Nat):Int) by omega),hj2,hk2.blk hB hg1,hk2.row hr hg,Nat.le_trans hsz hk2.size⟩
     · refine ⟨.bool false,rfl,?_⟩;(refine Ls (q1o Y)<|q0c<|tn<|q0r Y<|q0s<|br<|tr<|tr<|br<|tr ?_);refine q6x Y Y ?_;exact ⟨⟨_,rfl⟩,.inr hjx⟩
   · obtain rfl:k=a.length / 64:=(by omega);have hcut:=hr.cut (i:=64 * (a.length / 64)) (j:=a.length) (q:=a.length - 64 * (a.length / 64)) (by omega) (by omega) Y;rw [List.take_of_length_le (by simp)] at hcut;(refine q1d<|te<|te<|bx<|tn<|q0b<|q0a<|Ls (X_ld Y hB Y)<|m_I Y ?_);refine Ls (z1r (64 * (a.length / 64)) Y Y Y (by omega) (by omega)) ?_;have hdl:(a.drop (64 * (a.length / 64))).length=a.length - 64 * (a.length / 64):=(by simp);refine L_fo Y (cloneB lo hi _ (a.drop (64 * (a.length / 64))) (by omega) wr (hcut.re hdl.symm Y)) ?_;rintro q1 w2 ⟨E2,o2⟩;refine q4n (v:=.int _ _) Y Y ?_;intro u w3 hru E3 _ _;refine q1u (v:=q1) (u:=u) Y Y (q1g o2 E3) hru (by simp [Value.oneCell']) (by omega) (by omega) (by have:=E2.size;have:=E3.size;omega) ?_;intro q2 w4 o4 hg4 _;have E4:Ext wr w4:=(E2.trans E3).then hg4 (fun g h=>(o2.lt g h).1);have hj4:=hJ _ _ _ hj E4;(refine Ls (q0m (v:=q2) Y)<|q0c<|tn<|q0b<|q0p ?_);rw [hdl] at o4;refine q1e (fun q f w'=>∃ z v',q=Sha.zeros a.length - z∧z≤Sha.zeros a.length∧f 0=q5c l∧f 1=.pointer (some ⟨g1,0,none⟩)∧f 5=v'∧Ext wr w' ∧
       w'.ownsRow wr.heap.size 5 1 v' (a.length - 64 * (a.length / 64)+1+z) (ints .u8 (a.drop (64 * (a.length / 64))++[128]++List.replicate z 0))) (Sha.zeros a.length) ?_ ?_
     · refine ⟨0,q2,rfl,by omega,rfl,rfl,rfl,E4,?_⟩;rw [List.replicate_zero,List.append_nil,q4p];exact o4
     · clear h0 h1 h3 h4 hcut o2 o4 hru;rintro q f w5 ⟨z,v',rfl,hz,h0,h1,h5,E5,o5⟩;rw [fold h0,fold h1,fold h5];(refine q0b<|q0b<|q0a<|Ls (q0d (v:=v') Y)<|Ls (q1y (v:=v') Y (Row.of_own o5))<|Ls (X_remi Y Y (by omega))<|Ls (X_neq Y Y)<|q0c<|tn ?_);refine q0x Y (fun hc=>?_) (fun hc=>?_)
       · have hz':z < Sha.zeros a.length:=by
           have:=Sha.pad_mod a.length;have:=z1k a.length;refine Nat.lt_of_le_of_ne hz fun e=>hc ?_;subst e;omega
         (refine q0l<|tn<|q0p<|q0a<|Ls (q0d (v:=v') Y) ?_);refine q4n (v:=.int _ _) Y Y ?_;intro u w6 hru E6 _ _;refine q1u (v:=v') (u:=u) Y Y (q1g o5 E6) hru (by simp [Value.oneCell']) (by omega) (by omega) (by have:=E5.size;have:=E6.size;omega) ?_;intro q3 w7 o7 hg7 _;(refine Ls (q0m (v:=q3) Y)<|q0c<|bn<|tn ?_);refine ⟨Sha.zeros a.length - (z+1),by omega,z+1,q3,rfl,by omega,rfl,rfl,rfl,(E5.trans E6).then hg7 (fun g h=>(o5.lt g h).1),?_⟩;rw [List.replicate_succ',← List.append_assoc,q4p _ (a.drop (64 * (a.length / 64))++[128]++List.replicate z 0)];exact o7
       · have hz':z=Sha.zeros a.length:=by
           have:=Sha.pad_mod a.length;have:=z1k a.length;have:((a.length - 64 * (a.length / 64)+1+z:Nat):Int) % 64=56:=by
             rcases Classical.em (((a.length - 64 * (a.length / 64)+1+z:Nat):Int) % 64=56) with h | h
             · exact h
             · exact absurd h hc
           omega
         subst hz';have hB5:=hB.ext E5;(refine q1d<|te<|te<|bx<|tn<|q0b<|q0a<|Ls (X_ld Y hB5 Y)<|Ls (q0i Y)<|Ls (q3d Y)<|Ls (z3j Y Y)<|a_I Y<|q0c<|tn<|q0b<|q0b<|q0a<|a_I Y<|q0c<|tn<|q0p ?_);refine q1e (fun q f w'=>∃ i v',q=8 - i∧i≤8∧f 0=q5c l∧f 5=v'∧f 6=.int .u64 (IntKind.u64.wrap (IntKind.u64.wrap (a.length:Nat) * 8))∧f 7=.int .i64 (56 - 8 * (i:Int))∧Ext wr w' ∧
           w'.ownsRow wr.heap.size 5 1 v' (a.length - 64 * (a.length / 64)+1+Sha.zeros a.length+i) (ints .u8 (a.drop (64 * (a.length / 64))++[128]++List.replicate (Sha.zeros a.length) 0++(Sha.lenBytes a.length).take i))) 8 ?_ ?_
         · refine ⟨0,v',rfl,by omega,rfl,rfl,rfl,rfl,E5,?_⟩;rw [List.take_zero,List.append_nil];exact o5
         · clear h0 h1 h5 o5 hc hB5;rintro q f w6 ⟨i,v',rfl,hi,h0,h5,h6,h7,E6,o6⟩;rw [fold h0,fold h5,fold h6,fold h7];(refine q0b<|q0b<|q0a<|m_I Y<|Ls (X_geq Y Y)<|q0c<|tn ?_);refine q0x Y (fun hc=>?_) (fun hc=>?_)
           · have hi8:i < 8:=(by omega);(refine q0l<|tn<|q0b<|q0p<|q0a<|Ls (q0d (v:=v') Y)<|m_I Y<|m_I Y<|Ls (q5f Y Y (by omega))<|Ls (q3d Y) ?_);refine q4n (v:=.int _ _) Y Y ?_;intro u w7 hru E7 _ _;rw [len_walk _ _ (by omega) hi8] at hru;refine q1u (v:=v') (u:=u) Y Y (q1g o6 E7) hru (by simp [Value.oneCell']) (by omega) (by omega) (by have:=E6.size;have:=E7.size;omega) ?_;intro q3 w8 o8 hg8 _;(refine Ls (q0m (v:=q3) Y)<|q0c<|bn<|tn<|q0a<|m_I Y<|Ls (q4h Y Y (by omega))<|a_I Y<|q0c<|tn ?_);refine ⟨8 - (i+1),by omega,i+1,q3,rfl,by omega,rfl,rfl,rfl,congrArg (Value.int .i64) (show 56 - 8 * (i:Int) - 8=56 - 8 * ((i+1:Nat):Int) by omega),(E6.trans E7).then hg8 (fun g h=>(o6.lt g h).1),?_⟩;rw [z4v _ _ hi8,← List.append_assoc,q4p _ (a.drop (64 * (a.length / 64))++[128]++List.replicate (Sha.zeros a.length) 0++(Sha.lenBytes a.length).take i)];exact o8
           · obtain rfl:i=8:=(by omega);rw [List.take_of_length_le (by simp [Sha.lenBytes]),← tail_eq' a] at o6;have htl:(q7x a).length=a.length - 64 * (a.length / 64)+1+Sha.zeros a.length+8:=(by rw [tail_len,Sha.pad_len];omega);have htN:(q7x a).length=64 * ((Sha.pad a).length / 64 - a.length / 64):=(by rw [tail_len];omega);rw [← htl] at o6;have hj6:=hJ _ _ _ hj E6;(refine q1d<|te<|te<|bx<|tn<|q0b<|q0a<|a_I Y<|q0c<|tn<|q0p ?_);refine q1e (fun q f w'=>∃ j,q=((Sha.pad a).length / 64 - a.length / 64) - j∧j≤(Sha.pad a).length / 64 - a.length / 64∧f 0=q5c l∧f 5=v'∧f 8=.int .i64 ((64 * j:Nat):Int)∧J (a.length / 64+j) w' ∧
               w'.ownsRow wr.heap.size 5 1 v' (q7x a).length (ints .u8 (q7x a))) ((Sha.pad a).length / 64 - a.length / 64) ?_ ?_
             · exact ⟨0,rfl,by omega,rfl,rfl,rfl,hj6,o6⟩
             · clear h0 h5 h6 h7 o6 hc hj6 E6;rintro q f w7 ⟨j,rfl,hjn,h0,h5,h8,hj7,o7⟩;rw [fold h0,fold h5,fold h8];have hrow:=Row.of_own o7;(refine q0b<|q0b<|q0a<|m_I Y<|Ls (q0d (v:=v') Y)<|Ls (q1y (v:=v') Y hrow)<|Ls (q2h Y Y)<|q0c<|tn ?_);refine q0x Y (fun hc=>?_) (fun hc=>?_)
               · obtain ⟨_,A1,c1,rfl,hc1,_,_⟩:=id hrow;have hcut:=hrow.cut (i:=64 * j) (j:=64 * j+64) (q:=64) (by omega) (by omega) (by omega);rw [blk_tail] at hcut;(refine q0l<|tn<|q0b<|q0p<|q0b<|q0a<|Ls (q0d (v:=.func _ _ _) Y)<|m_S Y<|m_I Y<|m_I Y<|Ls (q1c Y Y (by omega)) ?_);refine Ls (z2w (64 * j) (64 * j+64) Y Y Y Y Y (by omega) (by omega)) ?_;have hlt:a.length / 64+j < (Sha.pad a).length / 64:=(by omega);refine z3h Y Y Y (hY _ _ w7 hj7 ⟨hlt,_,_,hcut⟩) ?_;rintro e w8 (⟨rfl,hj8,hk8⟩ | ⟨rfl,hjx⟩)
                 · refine ⟨.bool true,rfl,?_⟩;(refine Ls (q1o Y)<|q0c<|tn<|q0h Y<|q0l<|bn<|tn<|q0a<|m_I Y<|Ls (q1c Y Y (by omega))<|a_I Y<|q0c<|tn ?_);exact ⟨((Sha.pad a).length / 64 - a.length / 64) - (j+1),by omega,j+1,rfl,by omega,rfl,rfl,congrArg (Value.int .i64) (show ((64 * j:Nat):Int)+64=((64 * (j+1):Nat):Int) by omega),hj8,hk8.own o7 (by omega)⟩
                 · refine ⟨.bool false,rfl,?_⟩;(refine Ls (q1o Y)<|q0c<|tn<|q0r Y<|q0s<|br<|tr<|tr<|br ?_);refine q6x Y Y ?_;exact ⟨⟨_,rfl⟩,.inr hjx⟩
               · obtain rfl:j=(Sha.pad a).length / 64 - a.length / 64:=(by omega);(refine q1d<|te<|te<|bx ?_);refine q1h Y Y ?_;exact ⟨⟨_,rfl⟩,.inl ⟨_,by omega,hj7⟩⟩
end Go.Proofs.YtlcnkadkbcoadaaGreatDoor
namespace Go.Proofs.YtlcnkadkbcoadaaGreatDoor
open Go.RowKit Go.Proofs.K Go.Shelf
theorem dig2_walk (x j:Nat) (hj:j < 4):IntKind.u8.wrap ((x:Int).fdiv (2 ^ min (24 - 8 * (j:Int)).toNat IntKind.u32.bits))=((x / 2 ^ (24 - 8 * j) % 256:Nat):Int):=by
 have e:min (24 - 8 * (j:Int)).toNat IntKind.u32.bits=24 - 8 * j:=by
   have:IntKind.u32.bits=32:=rfl;omega
 rw [e,z5a,u8_nat]
theorem gblocksMk (v:Value) (w:World) (h1:v.oneCell'=true):Calls Tryz.prog 314 #[v] w fun e w'=>∃ q,e=.returned q∧∃ g1,q=.func (.func 390) #[] #[.pointer (some ⟨g1,0,none⟩)]∧Ext w w'∧Blk w' g1 69 [v]∧w.heap.size≤g1:=by
 refine q0j Tryz.func314 Y Tryz.ntmps314 Y ?_;(refine q0b<|q0a ?_);refine q8m Y h1 ?_;intro g1 w1 B1 hg1 E1 hs1;(refine Ls (q0m (v:=Value.nilFunc) Y)<|q0c<|tn<|q0b<|q0a ?_);refine Ls (q1i (fi:=[]) (ca:=[.tmp 1]) Y Y) ?_;(refine Ls (q0m (v:=.func _ _ _) Y)<|q0c<|tn<|q0s ?_);refine q0f Y Y (v:=.func _ _ _) Y ?_;exact ⟨_,rfl,g1,rfl,E1,B1,by omega⟩
theorem gshas (lo hi:Nat) (v:Value) (a:List Nat) (ha8:Sha.bytesOk a) (hl:a.length≤1000000000) (w:World) (hr:Row w lo hi 1 v a.length (ints .u8 a))
   (hk:Rng w 4 (ints .u32 Sha.ks)) (hi0:Rng w 2 (ints .u32 Sha.iv.list)) :
   Calls Tryz.prog 228 #[v] w fun e w'=>e=.returned (.agg (ints .u8 (Sha.sum a)).toArray)∧Ext w w':=by
 have hp:(Sha.pad a).length % 64=0:=by rw [Sha.pad_len];have:=Sha.pad_mod a.length;omega
 have hp8:Sha.bytesOk (Sha.pad a):=by
   intro x hx;simp only [Sha.pad,List.mem_append,List.mem_singleton] at hx;rcases hx with ((hx | rfl) | hx) | hx
   · exact ha8 x hx
   · omega
   · rw [List.eq_of_mem_replicate hx];omega
   · obtain ⟨i,_,rfl⟩:=List.mem_map.1 hx;exact Nat.mod_lt _ (by omega)
 refine z0s Tryz.func228 Y Tryz.ntmps228 Y ?_;refine z3k ?_;(refine q0a ?_);refine q0w ?_;intro g2 w1 B2 hg2 E1 hs1;(refine q0c<|tn ?_);refine z3k ?_;(refine q0a<|Ls (X_ldWg Y (hi0.ext E1) Y) ?_);refine q0w ?_;intro g3 w2 B3 hg3 E2 hs2;refine q0t (l:=ints .u32 Sha.iv.list) Y Y Y q1v B3 Y ?_;intro w3 B3' hg3' hs3;(refine q0c<|tn ?_);refine T_seq2 ?_;(refine q0a<|Ls (q0d (v:=v) Y) ?_);refine L_fo Y (gblocksMk v w3 (by obtain ⟨_,_,_,rfl,_⟩:=hr;rfl)) ?_;rintro q w4 ⟨g1,rfl,E4,hB1,hg1⟩;(refine q0c<|tn ?_);have hz1:=E1.size;have hz2:=E2.size;have hz4:=E4.size;have Ea:Ext w w4:=((E1.trans E2).then hg3' (fun g h=>by cases h;omega)).trans E4;have G3:=B3'.ext E4;have G2:=((B2.ext E2).grown hg3' (by simp;omega)).ext E4;have hr4:=(hr.tight).ext Ea;have hlt4:g3 < w4.heap.size:=G3.lt;have hlt1:g1 < w4.heap.size:=hB1.lt;have hkg:4 < w.heap.size:=hk.lt (by decide);refine T_range (Kp:=KeepBut g3) (It:=Ext) (Ix:=Ext) Y (enters_of Tryz.func390 (by kernel_rfl) Y) (gblocks g3 g1 lo w.heap.size v a hl w4 hr4 (by omega) hB1 (by omega) hlt4) (fun _ _ _ h k=>h.trans k) (fun _ _ _ o' _ h hc=>KeepBut.put o' h hc)
   (fun _ _ E=>⟨E.size,fun k o _ hk _=>(E.block k (Array.getElem?_eq_some_iff.1 hk).1 (by simp)).trans hk⟩)
   (fun _ _ E=>⟨E.size,fun k o _ hk _=>(E.block k (Array.getElem?_eq_some_iff.1 hk).1 (by simp)).trans hk⟩)
   (fun i b=>Blk b g3 456 (ints .u32 (Sha.blocks (Sha.pad a) i).list)∧w4.grownBy b (some g3)) (fun _=>False)
   (fun i x y h E=>⟨h.1.ext E,q0e h.2 E (fun _ h=>by cases h)⟩) (fun i x y h hb=>⟨(hb.keep (g:=g3+1)).blk h.1 (by omega),?_⟩) (fun _ _ h _=>h) (fun _ _ h _=>h)
   (fun i u x y h hb=>⟨h.1,?_⟩) (fun _ _ _ h _=>h) ⟨G3,⟨rfl,rfl,rfl,Nat.le_refl _,fun _ _ _=>rfl⟩⟩ (fun F u=>upd (upd F 12 u) 4 u) (fun l u x=>?_) (fun l i u x hx hu=>?_) (fun D b hD hdn hbD=>?_)
 · obtain ⟨row,hg,hrw⟩:=hb;exact q0e h.2 hg (fun r e=>.inr (hrw r e).1)
 · obtain ⟨_,l1,l2,hrow⟩:=h;exact ⟨l1,l2,(hb.keep (g:=l2)).row hrow (by omega)⟩
 · (refine q0a<|Ls (q0m (v:=u) Y)<|q0c ?_);exact ⟨rfl,rfl,rfl⟩
 · obtain ⟨hxB,hxg⟩:=hx;obtain ⟨hiN,l1,l2,hrow⟩:=hu;have hbl:(blk a i).length=64:=(by unfold blk;simp;omega);(refine q0p<|q0a<|Ls (q0d (v:=u) Y) ?_);refine L_fn (gcompress g3 l1 l2 u (Sha.blocks (Sha.pad a) i) (Sha.blocks_ok _ _) (blk a i) hbl (fun x hx=>hp8 x (List.mem_of_mem_drop (List.mem_of_mem_take hx))) x hrow hxB ((hk.ext Ea).grown hxg (by simp;omega))) Y ?_;rintro e y ⟨rfl,hyB,hyg⟩;refine ⟨_,rfl,?_⟩;(refine q0c<|bn ?_);exact ⟨KeepsFrom.of_grownBy hyg (fun j h=>by cases h;omega),KeepBut.of hyg (fun r e=>by cases e;exact .inl Y),hyB,q0e hxg hyg (fun r e=>by cases e;exact .inl Y)⟩
 · obtain ⟨i,rfl,hbB,hbg⟩:∃ i,i=(Sha.pad a).length / 64∧Blk b g3 456 (ints .u32 (Sha.blocks (Sha.pad a) i).list)∧w4.grownBy b (some g3):=hdn.elim id False.elim;have hDb:D < b.heap.size:=(Array.getElem?_eq_some_iff.1 hbD).1;refine T_of_W ?_;(refine q0b<|q0a ?_);obtain ⟨S,hS⟩:∃ S,S=Sha.blocks (Sha.pad a) ((Sha.pad a).length / 64):=⟨_,rfl⟩;have hfin:Sha.sum a=Sha.digest S:=(by rw [hS];rfl);rw [← hS] at hbB;rw [hfin];clear hS hfin;refine q0w ?_;intro g5 b1 B5 hg5 F1 hs5;rw [show (0:Int)=((0:Nat):Int) from rfl,q6n] at B5;have E5:w4.grownBy b1 (some g3):=q0e hbg F1 (fun _ h=>by cases h);have C2:=(G2.grown hbg (by simp;omega)).ext F1;have hbz:=hbg.size;(refine q0c<|tn<|q0b<|q0b<|q0a<|Ls (q2i Y (hbB.ext F1) Y)<|m_I Y<|q0c<|tn<|q0p ?_);have hdl:=Sha.digest_len S;refine q1e (fun q f w'=>∃ i,q=8 - i∧i≤8∧f 2=.pointer (some ⟨g2,0,none⟩)∧f 5=.pointer (some ⟨g5,0,none⟩)∧f 15=.agg (ints .u32 S.list).toArray∧f 16=.int .i64 (i:Nat)∧Ext b w' ∧
     Blk w' g2 42 (List.replicate 32 [Value.int IntKind.u8 0]).flatten∧Blk w' g5 42 (ints .u8 ((Sha.digest S).take (4 * i)++List.replicate (32 - 4 * i) 0))) 8 ?_ ?_
   · exact ⟨0,rfl,by omega,rfl,rfl,rfl,rfl,F1,C2,B5⟩
   · clear C2 B5;rintro q f wr ⟨i,rfl,hi,h2,h5,h15,h16,E,D2,D5⟩;rw [fold h2,fold h5,fold h15,fold h16];(refine q0b<|q0a<|Ls (q2h Y Y)<|q0c<|tn<|q0b ?_);refine q0x Y (fun h=>?_) (fun h=>?_)
     · (refine q0l<|tn<|q0b<|q0p<|q0b<|q0a<|m_I Y ?_);refine Ls (X_indexVI (i:=i) (len:=8) Y Y (by omega) Y) ?_;(refine a_I Y<|a_I Y<|q0c<|tn<|q0b<|q0a<|m_I Y<|q0c<|tn<|q0p ?_);refine q1e (fun q f w'=>∃ j,q=4 - j∧j≤4∧f 2=.pointer (some ⟨g2,0,none⟩)∧f 5=.pointer (some ⟨g5,0,none⟩)∧f 15=.agg (ints .u32 S.list).toArray∧f 16=.int .i64 (i:Nat)∧f 6=.int .i64 (i:Nat)∧f 7=.int .u32 ((S.list.getD i 0:Nat):Int)∧f 20=.int .i64 (j:Nat)∧Ext b w' ∧
         Blk w' g2 42 (List.replicate 32 [Value.int IntKind.u8 0]).flatten∧Blk w' g5 42 (ints .u8 ((Sha.digest S).take (4 * i+j)++List.replicate (32 - (4 * i+j)) 0))) 4 ?_ ?_
       · exact ⟨0,rfl,by omega,rfl,rfl,rfl,rfl,rfl,rfl,rfl,E,D2,D5⟩
       · clear D2 D5 E h2 h5 h15 h16;rintro q f wx ⟨j,rfl,hj,h2,h5,h15,h16,h6,h7,h20,E,D2,D5⟩;rw [fold h2,fold h5,fold h15,fold h16,fold h6,fold h7,fold h20];have htl:((Sha.digest S).take (4 * i+j)).length=4 * i+j:=(by rw [List.length_take,hdl];omega);(refine q0b<|q0a<|Ls (q2h Y Y)<|q0c<|tn<|q0b ?_);refine q0x Y (fun h=>?_) (fun h=>?_)
         · (refine q0l<|tn<|q0b<|q0p<|q0b<|q0a<|m_I Y<|a_I Y<|q0c<|tn<|q0a<|m_I Y<|Ls (q5r Y Y (by omega))<|m_I Y<|Ls (q1c Y Y (by omega))<|m_I Y<|m_I Y<|Ls (q5r Y Y (by omega))<|Ls (q4h Y Y (by omega))<|Ls (q5f Y Y (by omega))<|Ls (q3d Y)<|Ls (q3c Y Y (by omega)) ?_);refine q1b Y (v:=.int _ _) Y Y D5 (by rw [q0v,List.length_append,htl,List.length_replicate];omega) ?_;intro w5 B5 hg5' _;(refine q0c<|bn<|tn<|q0a<|Ls (q1c Y Y (by omega))<|m_I Y<|q0c<|tn ?_);have hkl:4 * i+j < (Sha.digest S).length:=(by omega);rw [show (0+(4 * (i:Int)+(j:Int)).toNat * 1)=4 * i+j by omega,dig2_walk _ j (by omega),q4w,show 32 - (4 * i+j)=(32 - (4 * i+(j+1)))+1 by omega,tab_set _ _ _ _ htl.symm] at B5;refine ⟨4 - (j+1),by omega,j+1,rfl,by omega,rfl,rfl,rfl,rfl,rfl,rfl,rfl,E.then hg5' (fun g h=>by cases h;omega),D2.grown hg5' (by simp;omega),?_⟩;have e:(Sha.digest S).take (4 * i+(j+1))=(Sha.digest S).take (4 * i+j)++[S.list.getD i 0 / 2 ^ (24 - 8 * j) % 256]:=by
             rw [show 4 * i+(j+1)=(4 * i+j)+1 by omega,List.take_succ_eq_append_getElem hkl];simp only [Sha.digest,List.getElem_map,List.getElem_range];rw [show (4 * i+j) / 4=i by omega,show (4 * i+j) % 4=j by omega]
           rw [e];exact B5
         · obtain rfl:j=4:=(by omega);(refine q1d<|te<|te<|bx<|bn<|tn<|q0a<|Ls (q1c Y Y (by omega))<|m_I Y<|q0c<|tn ?_);exact ⟨8 - (i+1),by omega,i+1,rfl,by omega,rfl,rfl,rfl,rfl,E,D2,by rw [show 4 * (i+1)=4 * i+4 by omega];exact D5⟩
     · obtain rfl:i=8:=(by omega);have hfull:(Sha.digest S).take (4 * 8)++List.replicate (32 - 4 * 8) 0=Sha.digest S:=(by simp [List.take_of_length_le (show (Sha.digest S).length≤32 by omega)]);rw [hfull] at D5;(refine q1d<|te<|te<|bx<|tn<|q0b<|q0a<|Ls (q2i Y D5 (by rw [q0v,hdl])) ?_);refine q0t (size:=32) Y Y (by rw [q0v,hdl]) q1v D2 Y ?_;intro w8 B8 hg8 _;(refine q0c<|tn<|q0s ?_);have hD8:w8.heap[D]?=some (.deferred (some [])):=(hg8.block D (by have:=E.size;omega) (by simp;omega)).trans ((E.block D hDb (by simp)).trans hbD);have B9:=(KeepBut.put (g:=g2+1) (.deferred none) hD8 Y).blk B8 (by omega);refine endQ_resD Y Y hD8 (Res.cellA inferInstance Y (B9.range (fun j u h=>by simpa using h)) (by rw [q0v,hdl]) .nil) ?_;have hE8:Ext w w8:=((Ea.then hbg (fun g h=>by cases h;omega)).trans E).then hg8 (fun g h=>by cases h;omega);exact ⟨rfl,hE8.then (grownBy_putObj' w8 D _) (fun g h=>by cases h;omega)⟩
end Go.Proofs.YtlcnkadkbcoadaaGreatDoor
namespace Go.Proofs.YtlcnkadkbcoadaaGreatDoor
open Go.RowKit Go.Proofs.K
theorem own_zero {w:World} {base g m c:Nat} {e:TypeId} {xs:List Value} (h:w.ownsRow base e 1 (.slice (some ⟨g,0,none⟩) m c) m xs):w.ownsRow base e 1 (.slice (some ⟨g,0,none⟩) 0 c) 0 []:=by
 obtain ⟨_,h | ⟨g',cap,cur,he,h1,h2,h3,h4,h5,h6⟩⟩:=h
 · cases h.1
 · injection he with e1 _ e2;injection e1 with e1;injection e1 with e1;subst e1;subst e2;exact ⟨rfl,.inr ⟨_,_,cur,rfl,h1,h2,Nat.zero_le _,h4,h5,by simp⟩⟩
theorem growB (m:Nat) (hm:m≤1000000000) (w:World) :
   Calls Tryz.prog 393 #[.slice none 0 0,.int .i64 (m:Nat)] w fun e w'=>∃ q,e=.returned q∧Ext w w'∧w'.ownsRow w.heap.size 5 1 q 0 []:=by
 refine q0j Tryz.func393 Y Tryz.ntmps393 Y ?_;(refine q0b<|q0a<|a_S Y<|q0c<|tn<|q0b<|q0b<|q0a<|m_I Y<|Ls (q2h Y Y)<|q0c<|tn ?_);refine q0x Y (fun h=>?_) (fun h=>?_)
 · omega
 · (refine q0l<|tn<|q0b<|q0b<|q0a<|m_I Y<|m_S Y ?_);refine Ls (X_cap Y) ?_;(refine m_S Y<|Ls (q0i Y)<|Ls (q4h Y Y (by omega))<|Ls (q4h Y Y (by omega))<|a_I Y<|q0c<|tn<|q0b<|q0a<|m_I Y<|Ls (z3e Y Y)<|q0c<|tn ?_);refine q0x Y (fun h=>?_) (fun h=>?_)
   · (refine q0a<|m_S Y<|m_S Y ?_);refine Ls (X_cap Y) ?_;refine Ls (q9x 0 Y Y Y (by omega)) ?_;(refine m_I Y ?_);refine L_appendZ (m:=m) (z:=.int .u8 0) Y Y (congrArg (Value.int .i64) (by omega)) (by omega) hm ?_;intro c w1 E1 hc hcm ⟨xs,hx,o1⟩;(refine m_S Y<|Ls (q0i Y) ?_);refine Ls (q9x 0 Y Y Y (by omega)) ?_;(refine a_S Y<|q0c<|tn<|q0b<|q0a<|m_S Y<|a_S Y<|q0c<|tn<|q0s ?_);refine q0f Y Y (v:=.slice _ _ _) Y ?_;have hc0:c ≠ 0:=(by omega);refine ⟨_,rfl,E1,?_⟩;have:=own_zero o1;simpa [hc0,Addr.add_mid] using this
   · (refine q0l<|tn<|q0b<|q0a<|m_S Y<|a_S Y<|q0c<|tn<|q0s ?_);refine q0f Y Y (v:=.slice _ _ _) Y ?_;exact ⟨_,rfl,Ext.refl w,⟨rfl,.inl ⟨rfl,rfl⟩⟩⟩
def cat (ps:List (Value × List Nat)) (i:Nat):List Nat:=((ps.take i).map (·.2)).flatten
theorem z1q {ps:List (Value × List Nat)} {i:Nat} {p:Value × List Nat} (h:ps[i]?=some p):cat ps (i+1)=cat ps i++p.2:=by
 unfold cat;rw [List.take_add_one,h];simp
theorem cat_mono (ps:List (Value × List Nat)) (i:Nat):(cat ps i).length≤(cat ps (i+1)).length:=by
 cases h:ps[i]? with
 | none =>
   unfold cat;rw [List.take_add_one,h];simp
 | some p=>rw [z1q h];simp
theorem cat_le (ps:List (Value × List Nat)) {i j:Nat} (h:i≤j):(cat ps i).length≤(cat ps j).length:=by
 induction j with
 | zero => obtain rfl : i = 0 := by omega
           exact Nat.le_refl _
 | succ j ih =>
   by_cases hij:i=j+1
   · subst hij;exact Nat.le_refl _
   · exact Nat.le_trans (ih (by omega)) (cat_mono ps j)
def Parted (w:World) (ps:List (Value × List Nat)):Prop:=∀ p,p∈ps→∃ lo hi,Row w lo hi 1 p.1 p.2.length (ints .u8 p.2)
theorem concatB (lo hi:Nat) (v:Value) (ps:List (Value × List Nat)) (hl:(cat ps ps.length).length≤1000000000) (hn:ps.length≤1000) (w:World) (hr:Row w lo hi 1 v ps.length (ps.map (·.1))) (hp:Parted w ps) :
   Calls Tryz.prog 317 #[v] w fun e w'=>∃ q,e=.returned q∧Ext w w'∧w'.ownsRow w.heap.size 5 1 q (cat ps ps.length).length (ints .u8 (cat ps ps.length)):=by
 refine q0j Tryz.func317 Y Tryz.ntmps317 Y ?_;obtain ⟨hl0,A,c,rfl,hc,hcm,hnn⟩:=hr;(refine q0b<|q0a<|a_S Y<|q0c<|tn<|q0b<|q0a<|a_I Y<|q0c<|tn<|q0b<|q0b<|q0a<|m_S Y<|Ls (q0i Y)<|m_I Y<|q0c<|tn<|q0p ?_);refine q1e (fun q f w'=>∃ i,q=ps.length - i∧i≤ps.length∧w=w'∧f 0=.slice A ps.length c∧f 3=.int .i64 ((cat ps i).length:Nat)∧f 9=.slice A ps.length c∧f 10=.int .i64 (ps.length:Nat)∧f 11=.int .i64 (i:Nat)) ps.length ?_ ?_
 · exact ⟨0,rfl,by omega,rfl,rfl,rfl,rfl,rfl,rfl⟩
 · rintro q f w' ⟨i,rfl,hi,rfl,h0,h3,h9,h10,h11⟩;rw [fold h0,fold h3,fold h9,fold h10,fold h11];(refine q0b<|q0a<|Ls (q2h Y Y)<|q0c<|tn<|q0b ?_);refine q0x Y (fun h=>?_) (fun h=>?_)
   · have hi':i < ps.length:=(by omega);obtain ⟨b,o,rfl,hb1,hb2,hcell⟩:=hnn (by omega);obtain ⟨p,hpi⟩:∃ p,ps[i]?=some p:=⟨ps[i],List.getElem?_eq_getElem hi'⟩;obtain ⟨plo,phi,prow⟩:=hp p (List.mem_of_getElem? hpi);obtain ⟨pv,pl⟩:=p;have hle:=cat_le ps (show i+1≤ps.length by omega);have hsu:=congrArg List.length (z1q hpi);rw [List.length_append] at hsu;dsimp only at hsu prow;(refine q0l<|tn<|q0b<|q0p<|q0b<|q0a<|Ls (q0q Y Y (by omega))<|Ls (q1p (j:=i) (v:=pv) Y hcell (by omega) (by simp [hpi]))<|Ls (q0m (v:=pv) Y)<|q0c<|tn<|q0b<|q0a<|m_I Y<|Ls (q0d (v:=pv) Y)<|Ls (q1y (v:=pv) Y prow)<|Ls (q1c Y Y (by omega))<|a_I Y<|q0c<|tn<|q0b<|q0a<|m_I Y<|Ls (q2h Y Y)<|q0c<|tn ?_);refine q0x Y (fun h=>?_) (fun h=>?_)
     · omega
     · (refine q0l<|bn<|tn<|q0a<|Ls (q1c Y Y (by omega))<|m_I Y<|q0c<|tn ?_);refine ⟨ps.length - (i+1),by omega,i+1,rfl,by omega,rfl,rfl,?_,rfl,rfl,rfl⟩;exact congrArg (Value.int .i64) (by omega)
   · obtain rfl:i=ps.length:=(by omega);(refine q1d<|te<|te<|bx<|tn<|q0b<|q0a<|m_I Y ?_);refine L_fo Y (growB _ hl w) ?_;rintro q2 w2 ⟨E2,o2⟩;(refine Ls (q0m (v:=q2) Y)<|q0c<|tn<|q0b<|q0b<|q0a<|m_S Y<|Ls (q0i Y)<|m_I Y<|q0c<|tn<|q0p ?_);refine q1e (fun q f w'=>∃ i v',q=ps.length - i∧i≤ps.length∧Ext w w'∧w'.ownsRow w.heap.size 5 1 v' (cat ps i).length (ints .u8 (cat ps i))∧f 6=v'∧f 25=.slice A ps.length c∧f 26=.int .i64 (ps.length:Nat)∧f 27=.int .i64 (i:Nat)) ps.length ?_ ?_
     · exact ⟨0,q2,rfl,by omega,E2,o2,rfl,rfl,rfl,rfl⟩
     · clear h0 h3 h9 h10 h11 h hi o2 E2;rintro q f w3 ⟨i,v',rfl,hi,E3,o3,h6,h25,h26,h27⟩;rw [fold h6,fold h25,fold h26,fold h27];(refine q0b<|q0a<|Ls (q2h Y Y)<|q0c<|tn<|q0b ?_);refine q0x Y (fun h=>?_) (fun h=>?_)
       · have hi':i < ps.length:=(by omega);obtain ⟨b,o,rfl,hb1,hb2,hcell⟩:=hnn (by omega);obtain ⟨p,hpi⟩:∃ p,ps[i]?=some p:=⟨ps[i],List.getElem?_eq_getElem hi'⟩;obtain ⟨plo,phi,prow⟩:=hp p (List.mem_of_getElem? hpi);obtain ⟨pv,pl⟩:=p;have hle:=cat_le ps (show i+1≤ps.length by omega);have hsu:=congrArg List.length (z1q hpi);rw [List.length_append] at hsu;dsimp only at hsu prow;(refine q0l<|tn<|q0b<|q0p<|q0b<|q0a<|Ls (q0q Y Y (by omega))<|Ls (q1p (j:=i) (v:=pv) Y (E3.range hcell) (by omega) (by simp [hpi]))<|Ls (q0m (v:=pv) Y)<|q0c<|tn<|q0a<|Ls (q0d (v:=v') Y)<|Ls (q0d (v:=pv) Y) ?_);refine q1u (v:=v') (u:=pv) Y Y o3 (prow.ext E3) q1v (by omega) (by omega) (by have:=E3.size;omega) ?_;intro q4 w4 o4 hg4 _;(refine Ls (q0m (v:=q4) Y)<|q0c<|bn<|tn<|q0a<|Ls (q1c Y Y (by omega))<|m_I Y<|q0c<|tn ?_);refine ⟨ps.length - (i+1),by omega,i+1,q4,rfl,by omega,E3.then hg4 (fun g h=>(o3.lt g h).1),?_,rfl,rfl,rfl,rfl⟩;rw [hsu,z1q hpi,q4p];exact o4
       · obtain rfl:i=ps.length:=(by omega);(refine q1d<|te<|te<|bx<|tn<|q0b<|q0a<|Ls (q0d (v:=v') Y)<|Ls (q0m (v:=v') Y)<|q0c<|tn<|q0s ?_);refine q0f Y Y (v:=v') Y ?_;exact ⟨v',rfl,E3,o3⟩
end Go.Proofs.YtlcnkadkbcoadaaGreatDoor
namespace Go.Proofs.Tr
open Go.Proofs Go.Proofs.K
end Go.Proofs.Tr
namespace Go.Proofs.YtlcnkadkbcoadaaGreatDoor
open Go.RowKit Go.Proofs.K
section
variable {n:NN} {f:Fr} {w:World} {d:Option Tmp} {t:TypeId} {pos:String} {af:Array Edge} {g:Option (Nat × Bool)} {x y:Operand}
end
section
variable {n:NN} {f:Fr} {w:World} {d:Option Tmp} {t:TypeId} {pos:String} {af:Array Edge} {g:Option (Nat × Bool)} {x y:Operand}
end
end Go.Proofs.YtlcnkadkbcoadaaGreatDoor
namespace Go.Proofs.YtlcnkadkbcoadaaGreatDoor
open Go.RowKit Go.Proofs.K Go.ChangeShapes Go.WideShapes Go.ChangeAt
end Go.Proofs.YtlcnkadkbcoadaaGreatDoor
namespace Go.Proofs.K
open Go.RowKit
section
variable {P:Program} {n:NN} {f:Fr} {w:World} {d:Option Tmp} {t ty e:TypeId} {pos:String} {af:Array Edge} {g:Option (Nat × Bool)} {x y:Operand} {k:IntKind}
theorem X_indexW {len size:Nat} [hs:TArr P ty len e] [h1:TAgg P e size] {l:List Value} {i:Nat} (hx:ev n f x=.agg l.toArray) (hy:ev n f y=.int k (i:Int)) (h:i < len) :
   X P n ⟨d,.index ty x y,t,pos,af,g⟩ f w=.ok (.value (.agg ((l.drop (i * size)).take size).toArray)) w:=by
 obtain ⟨D,hD,hd⟩:=h1.h;haveI:TSz P e size:=⟨h1.s⟩;have hext:l.toArray.extract (i * size) (i * size+size)=((l.drop (i * size)).take size).toArray:=by
   simp [List.extract_toArray,List.extract_eq_take_drop]
 simp [X,execOp,hx,hy,Instr.index,asIntOf,run_underlying hs.h,h,TSz.run,part,isAgg,run_underlying hD];cases D <;> simp_all
end
end Go.Proofs.K
namespace Go.Proofs.YtlcnkadkbcoadaaGreatDoor
open Go.RowKit Go.Proofs.K
def rdN (a b c d:Nat):List Value:=[.int .i64 (a:Nat),.int .i64 (b:Nat),.int .i64 (c:Nat),.int .i64 (d:Nat)]
def fldOf (k a b c d:Nat):Nat:=match k with | 0=>a | 1=>b | 2=>c | _=>d
def FldF (id:FuncId) (k:Nat):Prop:=∀ (a b c d:Nat) (w:World),Calls Tryz.prog id #[.agg (rdN a b c d).toArray] w fun e w'=>e=.returned (.int .i64 (fldOf k a b c d:Nat))∧Ext w w'
theorem fld0:FldF 338 0:=by
 intro a b c d w;refine q0j Tryz.func338 Y Tryz.ntmps338 Y ?_;(refine q0b<|q0a ?_);refine q2s (l:=rdN a b c d) Y ?_;intro g1 w1 B1 hg1 E1 hs1;(refine a_I Y<|q0c<|tn<|q0b<|q0a<|Ls (q0g Y)<|Ls (X_ld Y B1 Y)<|a_I Y<|q0c<|tn<|q0s ?_);exact q0f Y Y (v:=.int .i64 (a:Nat)) Y ⟨rfl,E1⟩
theorem fld1:FldF 339 1:=by
 intro a b c d w;refine q0j Tryz.func339 Y Tryz.ntmps339 Y ?_;(refine q0b<|q0a ?_);refine q2s (l:=rdN a b c d) Y ?_;intro g1 w1 B1 hg1 E1 hs1;(refine a_I Y<|q0c<|tn<|q0b<|q0a<|Ls (q0g Y)<|Ls (X_ld Y B1 Y)<|a_I Y<|q0c<|tn<|q0s ?_);exact q0f Y Y (v:=.int .i64 (b:Nat)) Y ⟨rfl,E1⟩
theorem fld2:FldF 340 2:=by
 intro a b c d w;refine q0j Tryz.func340 Y Tryz.ntmps340 Y ?_;(refine q0b<|q0a ?_);refine q2s (l:=rdN a b c d) Y ?_;intro g1 w1 B1 hg1 E1 hs1;(refine a_I Y<|q0c<|tn<|q0b<|q0a<|Ls (q0g Y)<|Ls (X_ld Y B1 Y)<|a_I Y<|q0c<|tn<|q0s ?_);exact q0f Y Y (v:=.int .i64 (c:Nat)) Y ⟨rfl,E1⟩
theorem fld3:FldF 341 3:=by
 intro a b c d w;refine q0j Tryz.func341 Y Tryz.ntmps341 Y ?_;(refine q0b<|q0a ?_);refine q2s (l:=rdN a b c d) Y ?_;intro g1 w1 B1 hg1 E1 hs1;(refine a_I Y<|q0c<|tn<|q0b<|q0a<|Ls (q0g Y)<|Ls (X_ld Y B1 Y)<|a_I Y<|q0c<|tn<|q0s ?_);exact q0f Y Y (v:=.int .i64 (d:Nat)) Y ⟨rfl,E1⟩
theorem infFld:(Tryz.prog.info? 402).map (fun i=>(i.zero,i.size,i.bytes))=some (some (.agg ([[.nilFunc],[.int .i64 0]].flatten).toArray),2,16):=by kernel_rfl
instance zeroFld:TZero Tryz.prog 402 [[.nilFunc],[.int .i64 0]].flatten:=q2l infFld (by rfl)
instance segsFld:TSegs Tryz.prog 402 [[.nilFunc],[.int .i64 0]]:=q3r Tryz.underlying402 (by kernel_rfl) (by kernel_rfl)
theorem infFlds:(Tryz.prog.info? 403).map (fun i=>(i.zero,i.size,i.bytes))=some (some (.agg ((List.replicate 4 [.nilFunc,.int .i64 0]).flatten).toArray),8,64):=by kernel_rfl
instance zeroFlds:TZero Tryz.prog 403 (List.replicate 4 ([[.nilFunc],[.int .i64 0]].flatten)).flatten:=q2l infFlds (by rfl)
theorem z5o {n:NN} {f:Fr} {w:World} {d:Option Tmp} {t:TypeId} {pos:String} {af:Array Edge} {g:Option (Nat × Bool)} {x y:Operand} {v:Value} {a:Int} (hx:ev n f x=v) (hv:v.oneCell'=true) (hy:ev n f y=.int .i64 a) :
   X Tryz.prog n ⟨d,.build 402 #[(0,x),(1,y)],t,pos,af,g⟩ f w=.ok (.value (.agg #[v,.int .i64 a])) w:=by
 have:=q1t (P:=Tryz.prog) (ty:=402) (n:=n) (f:=f) (w:=w) (d:=d) (t:=t) (pos:=pos) (af:=af) (g:=g)
   (Parts.cons (i:=0) (c:=[v]) (z:=[.nilFunc]) hx (q4g hv) Y Y (Parts.cons (i:=1) (c:=[.int .i64 a]) (z:=[.int .i64 0]) hy Y Y Y (Parts.nil _)))
 simpa using this
theorem X_mkFlds {n:NN} {f:Fr} {w:World} {d:Option Tmp} {t:TypeId} {pos:String} {af:Array Edge} {g:Option (Nat × Bool)} {x y z u:Operand} {a b c e a' b' c' e':Value} (hx:ev n f x=.agg #[a,a']) (hy:ev n f y=.agg #[b,b']) (hz:ev n f z=.agg #[c,c']) (hu:ev n f u=.agg #[e,e']) :
   X Tryz.prog n ⟨d,.build 403 #[(0,x),(1,y),(2,z),(3,u)],t,pos,af,g⟩ f w=.ok (.value (.agg #[a,a',b,b',c,c',e,e'])) w:=by
 have:=z4e (P:=Tryz.prog) (ty:=403) (e:=402) (z:=[.nilFunc,.int .i64 0]) (len:=4) (n:=n) (f:=f) (w:=w) (d:=d) (t:=t) (pos:=pos) (af:=af) (g:=g)
   (Parts.cons (i:=0) (c:=[a,a']) (z:=[.nilFunc,.int .i64 0]) hx Y Y Y (Parts.cons (i:=1) (c:=[b,b']) (z:=[.nilFunc,.int .i64 0]) hy Y Y Y (Parts.cons (i:=2) (c:=[c,c']) (z:=[.nilFunc,.int .i64 0]) hz Y Y Y (Parts.cons (i:=3) (c:=[e,e']) (z:=[.nilFunc,.int .i64 0]) hu Y Y Y (Parts.nil _)))))
 simpa using this
abbrev fnV (id:FuncId):Value:=.func (.func id) #[] #[]
def fldsC:List Value:=[fnV 338,.int .i64 4,fnV 339,.int .i64 8,fnV 340,.int .i64 4,fnV 341,.int .i64 8]
theorem fldsC_cell:∀ v∈fldsC,v.oneCell'=true:=by
 have h:(fldsC.all fun v=>v.oneCell')=true:=rfl;exact List.all_eq_true.1 h
theorem gfields (w:World):Calls Tryz.prog 257 #[] w fun e w'=>e=.returned (.agg fldsC.toArray)∧Ext w w':=by
 refine q0j Tryz.func257 Y Tryz.ntmps257 Y ?_;(refine q0b<|q0a ?_);refine q0w ?_;intro g1 w1 B1 hg1 E1 hs1;(refine q0c<|tn<|q0b<|q0a ?_);refine Ls (z5o Y Y Y) ?_;refine Ls (z5o Y Y Y) ?_;refine Ls (z5o Y Y Y) ?_;refine Ls (z5o Y Y Y) ?_;refine Ls (X_mkFlds Y Y Y Y) ?_;refine q0t (l:=fldsC) Y Y Y fldsC_cell B1 Y ?_;intro w2 B2 hg2 hs2;(refine q0c<|tn<|q0s ?_);refine q0z Y Y (Res.cellA inferInstance Y (B2.range (o:=0) (fun j u h=>by rw [Nat.zero_add];exact h)) Y .nil) ?_;exact ⟨rfl,E1.then hg2 fun q h=>by cases h;omega⟩
structure StrI (w:World) (lo hi:Nat) (vL vG:Value) (m:Nat) (rs:Nat→Nat→Nat) (gs:Nat→Bool):Prop where
 l:∃ A c,vL=.slice A m c∧∀ i,i < m→∃ b o,A=some ⟨b,o,none⟩∧lo≤b∧b < hi∧w.rangeAt b (o+i * 4) (rdN (rs i 0) (rs i 1) (rs i 2) (rs i 3))
 g:∃ A c,vG=.slice A m c∧∀ i,i < m→∃ b o,A=some ⟨b,o,none⟩∧lo≤b∧b < hi∧w.rangeAt b (o+i * 1) [.bool (gs i)]
 f:∀ i k,i < m→rs i k < 256
theorem StrI.ext {w w':World} {lo up m:Nat} {vL vG:Value} {rs:Nat→Nat→Nat} {gs:Nat→Bool} (h:StrI w lo up vL vG m rs gs) (E:Ext w w'):StrI w' lo up vL vG m rs gs:=by
 obtain ⟨⟨A,c,h1,h2⟩,⟨A',c',h3,h4⟩,h5⟩:=h;exact ⟨⟨A,c,h1,fun i hi=>by obtain ⟨b,o,e1,e2,e3,e4⟩:=h2 i hi;exact ⟨b,o,e1,e2,e3,E.range e4⟩⟩,⟨A',c',h3,fun i hi=>by obtain ⟨b,o,e1,e2,e3,e4⟩:=h4 i hi;exact ⟨b,o,e1,e2,e3,E.range e4⟩⟩,h5⟩
theorem fldOf_rs (k:Nat) (hk:k < 4) (r:Nat→Nat):fldOf k (r 0) (r 1) (r 2) (r 3)=r k:=by
 rcases k with _ | _ | _ | _ | k <;> first | rfl | omega
def ColF (id:FuncId) (cap:Array Value) (m:Nat) (g:Nat→Nat) (w0:World):Prop:=∀ i,i < m→∀ w,Ext w0 w→Calls Tryz.prog id (#[]++#[.int .i64 (i:Nat)]++cap) w fun e w'=>e=.returned (.int .u64 (g i:Nat))∧Ext w w'
theorem gcolF {id:FuncId} [TFun Tryz.prog id] {k:Nat} (hid:FldF id k) (hk:k < 4) (g9 g2:Nat) (bv:Value) {w0:World} {lo up m:Nat} {vL vG:Value} {rs:Nat→Nat→Nat} {gs:Nat→Bool} (hS:StrI w0 lo up vL vG m rs gs) (h9:Blk w0 g9 402 [fnV id,bv]) (h2:Blk w0 g2 27 [vL,vG]) :
   ColF 259 #[.pointer (some ⟨g9,0,none⟩),.pointer (some ⟨g2,0,none⟩)] m (fun i=>rs i k) w0:=by
 intro i hi w E0;refine q0j Tryz.func259 Y Tryz.ntmps259 Y ?_;have hv:=hS.f i k hi;obtain ⟨⟨A,c,rfl,hl⟩,_,_⟩:=hS;obtain ⟨b,o,rfl,_,_,hR⟩:=hl i hi;have h9:=h9.ext E0;have h2:=h2.ext E0;have hR:=E0.range hR;(refine q0b<|q0a<|a_I Y<|q0c<|tn<|q0b ?_);apply q1r 10 (by kernel_rfl);(apply DW_x (fun r w hA hH=>(q0g Y).trans Y);apply DW_x (fun r w hA hH=>(X_ld Y (h9.ext hA) Y).trans Y);apply DW_x (fun r w hA hH=>(q0g Y).trans Y);apply DW_x (fun r w hA hH=>(X_ld Y (h2.ext hA) Y).trans Y);apply DW_x (fun r w hA hH=>(q0d (v:=.int _ _) Y).trans Y);apply DW_x (fun r w hA hH=>(q0q (i:=i) Y Y (by omega)).trans Y);apply DW_x (fun r w hA hH=>(q2x Y (hA.range hR) Y).trans Y));with_reducible apply DW_frc (id:=id) (F:=fun u _=>u=.int .i64 (rs i k:Nat))
 exact fun _=>rfl;exact fun _=>rfl;exact fun r w hA hH=>(hid _ _ _ _ w).mono fun e w' h=>⟨_,h.1,h.2,by rw [fldOf_rs k hk]⟩;exact fun i v w w' _ _ _ h=>h;((with_reducible apply DW_x);(exact fun r w hA hH=>((q3d (k0:=.i64) (a:=((rs i k:Nat):Int)) (by exact hH 7 Y)).trans (by rw [show IntKind.u64.wrap ((rs i k:Nat):Int)=(rs i k:Nat) from by rw [IntKind.wrap_u64];omega])).trans Y));(apply DW_x (fun r w hA hH=>(q0m (v:=.int _ _) Y).trans Y));((with_reducible exact q2c);(exact rfl);(repeat (first | exact .inr (.inr (fun _ _=>by with_reducible rfl)) | (refine And.intro ?_ ?_) | exact .inr (.inl rfl) | exact .inl (by decide +kernel) | exact trivial | exact .inr (.inr (fun _ _=>rfl))));(try dsimp only [Nat.reduceAdd]));intro r w5 E5 _;(refine q0c<|tn<|q0s ?_);exact q0f Y Y (v:=.int .u64 (rs i k:Nat)) Y ⟨rfl,E5⟩
theorem gcolL (g2:Nat) {w0:World} {lo up m:Nat} {vL vG:Value} {rs:Nat→Nat→Nat} {gs:Nat→Bool} (hS:StrI w0 lo up vL vG m rs gs) (h2:Blk w0 g2 27 [vL,vG]) :
   ColF 260 #[.pointer (some ⟨g2,0,none⟩)] m (fun i=>if gs i then 0 else 1) w0:=by
 intro i hi w E0;refine q0j Tryz.func260 Y Tryz.ntmps260 Y ?_;obtain ⟨_,⟨A,c,rfl,hl⟩,_⟩:=hS;obtain ⟨b,o,rfl,_,_,hR⟩:=hl i hi;have h2:=h2.ext E0;have hR:=E0.range hR;(refine q0b<|q0a<|a_I Y<|q0c<|tn<|q0b<|q0b<|q0a<|Ls (q0g Y)<|Ls (X_ld Y h2 Y)<|m_I Y<|Ls (q0q (i:=i) Y Y (by omega))<|Ls (q1p Y hR (j:=0) (by omega) Y)<|q0c<|tn ?_);cases hg:gs i with
 | true =>
   refine q0r Y ?_;(refine q0b<|q0a<|a_I Y<|q0c<|tn<|q0s<|tr ?_);exact q0f Y Y (v:=.int .u64 0) Y ⟨by simp [hg],Ext.refl _⟩
 | false =>
   refine q0h Y ?_;(refine q0l<|tn<|q0b<|q0a<|a_I Y<|q0c<|tn<|q0s ?_);exact q0f Y Y (v:=.int .u64 1) Y ⟨by simp [hg],Ext.refl _⟩
theorem gcolB {id:FuncId} [TFun Tryz.prog id] {k:Nat} (hid:FldF id k) (hk:k < 4) (g9 g2 g10 q:Nat) (hq:q < 8) (bv:Value) {w0:World} {lo up m:Nat} {vL vG:Value} {rs:Nat→Nat→Nat} {gs:Nat→Bool} (hS:StrI w0 lo up vL vG m rs gs) (h9:Blk w0 g9 402 [fnV id,bv]) (h2:Blk w0 g2 27 [vL,vG]) (h10:Blk w0 g10 3 [.int .i64 (q:Nat)]) :
   ColF 261 #[.pointer (some ⟨g9,0,none⟩),.pointer (some ⟨g2,0,none⟩),.pointer (some ⟨g10,0,none⟩)] m (fun i=>rs i k / 2 ^ q % 2) w0:=by
 intro i hi w E0;refine q0j Tryz.func261 Y Tryz.ntmps261 Y ?_;have hv:=hS.f i k hi;obtain ⟨⟨A,c,rfl,hl⟩,_,_⟩:=hS;obtain ⟨b,o,rfl,_,_,hR⟩:=hl i hi;have h9:=h9.ext E0;have h2:=h2.ext E0;have h10:=h10.ext E0;have hR:=E0.range hR;have hsh:((rs i k:Nat):Int).fdiv (2 ^ (min ((q:Nat):Int).toNat IntKind.u64.bits))=((rs i k / 2 ^ q:Nat):Int):=by
   rw [Int.toNat_natCast,show min q IntKind.u64.bits=q from Nat.min_eq_left (by show q≤64;omega),Int.fdiv_eq_ediv_of_nonneg _ (by exact Int.le_of_lt (Int.pow_pos (by decide)))];simp
 have hand:bits .and .u64 ((rs i k / 2 ^ q:Nat):Int) 1=((rs i k / 2 ^ q % 2:Nat):Int):=by
   have hd:rs i k / 2 ^ q≤rs i k:=Nat.div_le_self _ _;rw [show (1:Int)=((1:Nat):Int) from rfl,q8e _ _ (by omega) (by decide),Nat.and_one_is_mod]
 (refine q0b<|q0a<|a_I Y<|q0c<|tn<|q0b ?_);apply q1r 13 (by kernel_rfl);(apply DW_x (fun r w hA hH=>(q0g Y).trans Y);apply DW_x (fun r w hA hH=>(X_ld Y (h9.ext hA) Y).trans Y);apply DW_x (fun r w hA hH=>(q0g Y).trans Y);apply DW_x (fun r w hA hH=>(X_ld Y (h2.ext hA) Y).trans Y);apply DW_x (fun r w hA hH=>(q0d (v:=.int _ _) Y).trans Y);apply DW_x (fun r w hA hH=>(q0q (i:=i) Y Y (by omega)).trans Y);apply DW_x (fun r w hA hH=>(q2x Y (hA.range hR) Y).trans Y));with_reducible apply DW_frc (id:=id) (F:=fun u _=>u=.int .i64 (rs i k:Nat))
 exact fun _=>rfl;exact fun _=>rfl;exact fun r w hA hH=>(hid _ _ _ _ w).mono fun e w' h=>⟨_,h.1,h.2,by rw [fldOf_rs k hk]⟩;exact fun i v w w' _ _ _ h=>h;((with_reducible apply DW_x);(exact fun r w hA hH=>((q3d (k0:=.i64) (a:=((rs i k:Nat):Int)) (by exact hH 7 Y)).trans (by rw [show IntKind.u64.wrap ((rs i k:Nat):Int)=(rs i k:Nat) from by rw [IntKind.wrap_u64];omega])).trans Y));(apply DW_x (fun r w hA hH=>(X_ld Y (h10.ext hA) Y).trans Y);apply DW_x (fun r w hA hH=>((q5f Y Y (by omega)).trans (by rw [hsh])).trans Y);apply DW_x (fun r w hA hH=>((q4s Y Y).trans (by rw [hand])).trans Y);apply DW_x (fun r w hA hH=>(q0m (v:=.int _ _) Y).trans Y));((with_reducible exact q2c);(exact rfl);(repeat (first | exact .inr (.inr (fun _ _=>by with_reducible rfl)) | (refine And.intro ?_ ?_) | exact .inr (.inl rfl) | exact .inl (by decide +kernel) | exact trivial | exact .inr (.inr (fun _ _=>rfl))));(try dsimp only [Nat.reduceAdd]));intro r w5 E5 _;(refine q0c<|tn<|q0s ?_);exact q0f Y Y (v:=.int .u64 (rs i k / 2 ^ q % 2:Nat)) Y ⟨rfl,E5⟩
end Go.Proofs.YtlcnkadkbcoadaaGreatDoor
namespace Go.Proofs.YtlcnkadkbcoadaaGreatDoor
open Go.RowKit Go.Proofs.K
theorem shl1 {a:Nat} (h:a≤16):IntKind.i64.wrap (1 * 2 ^ (min ((a:Nat):Int).toNat IntKind.i64.bits))=((2 ^ a:Nat):Int):=by
 have h2:2 ^ a≤2 ^ 16:=Nat.pow_le_pow_right (by decide) h;rw [Int.toNat_natCast,show min a IntKind.i64.bits=a from Nat.min_eq_left (by show a≤64;omega),Int.one_mul,show ((2:Int) ^ a)=((2 ^ a:Nat):Int) by simp];have:∀ z:Nat,z≤2 ^ 16→IntKind.i64.wrap ((z:Nat):Int)=(z:Nat):=fun z hz=>by rw [IntKind.wrap_i64];omega
 exact this _ h2
theorem pow16 {a:Nat} (h:a≤16):1≤2 ^ a∧2 ^ a≤65536:=⟨Nat.pow_pos (by decide),Nat.pow_le_pow_right (n:=2) (by decide) h⟩
theorem gchk (lg:Nat) (hlg:lg≤16) {w:World} {lo up m:Nat} {vL vG:Value} {rs:Nat→Nat→Nat} {gs:Nat→Bool} (hS:StrI w lo up vL vG m rs gs) :
   Calls Tryz.prog 256 #[.agg [vL,vG].toArray,.int .i64 (lg:Nat)] w fun e w'=>e=.returned (.int .i64 (if m≤2 ^ lg then 0 else 2))∧Ext w w':=by
 refine q0j Tryz.func256 Y Tryz.ntmps256 Y ?_;obtain ⟨⟨A,c,rfl,_⟩,_,_⟩:=hS;(refine q0b<|q0a ?_);refine q2s (l:=[.slice A m c,vG]) Y ?_;intro g2 w1 B1 hg1 E1 hs1;(refine a_I Y<|q0c<|tn<|q0b<|q0p<|q0b<|q0a<|m_I Y<|Ls (q1f Y Y (by omega))<|m_B Y<|Lg2 Y Y Y (q0d (v:=.int _ _) Y)<|Lg2 Y Y Y (q1q Y Y (by omega))<|Ls (q0k (v:=.bool _) Y Y)<|a_B Y<|q0c<|tn<|q0h Y<|q0b ?_);apply q1r 7 (by kernel_rfl);(apply DW_x (fun r w hA hH=>(q0g Y).trans Y);apply DW_x (fun r w hA hH=>(X_ld Y (B1.ext hA) Y).trans Y);apply DW_x (fun r w hA hH=>(q0i Y).trans Y);apply DW_x (fun r w hA hH=>(q0d (v:=.int _ _) Y).trans Y);apply DW_x (fun r w hA hH=>((q7v Y Y (by omega)).trans (by rw [shl1 hlg])).trans Y);apply DW_x (fun r w hA hH=>(z3e Y Y).trans Y);apply DW_x (fun r w hA hH=>(q0m (v:=.bool _) Y).trans Y));((with_reducible exact q2c);(exact rfl);(repeat (first | exact .inr (.inr (fun _ _=>by with_reducible rfl)) | (refine And.intro ?_ ?_) | exact .inr (.inl rfl) | exact .inl (by decide +kernel) | exact trivial | exact .inr (.inr (fun _ _=>rfl))));(try dsimp only [Nat.reduceAdd]));intro r w2 E2 _;(refine q0c<|tn ?_);refine q0x Y (fun h=>?_) (fun h=>?_)
 · (refine q0b<|q0a<|a_I Y<|q0c<|tn<|q0s<|br<|tr ?_);exact q0f Y Y (v:=.int .i64 2) Y ⟨by rw [if_neg (by omega)],E1.trans E2⟩
 · (refine q0l<|bn<|tn<|q0b<|q0a<|a_I Y<|q0c<|tn<|q0s ?_);exact q0f Y Y (v:=.int .i64 0) Y ⟨by rw [if_pos (by omega)],E1.trans E2⟩
def colT (N m:Nat) (g:Nat→Nat):List Nat:=(List.range m).map g++List.replicate (N - m) 0
theorem colT_len {N m:Nat} (h:m≤N) (g:Nat→Nat):(colT N m g).length=N:=by unfold colT;simp;omega
theorem colT_set {N i:Nat} (h:i < N) (g:Nat→Nat):(colT N i g).set i (g i)=colT N (i+1) g:=by
 unfold colT;rw [show N - i=N - (i+1)+1 by omega,tab_set _ _ _ _ (by simp),List.range_succ,List.map_append];rfl
theorem gepcol {id:FuncId} [TFun Tryz.prog id] (cap:Array Value) (g:Nat→Nat) (lg:Nat) (hlg:lg≤16) {w:World} {lo up m:Nat} {vL vG:Value} {rs:Nat→Nat→Nat} {gs:Nat→Bool} (hm:m≤2 ^ lg) (hS:StrI w lo up vL vG m rs gs) (hf:ColF id cap m g w) :
   Calls Tryz.prog 258 #[.agg [vL,vG].toArray,.int .i64 (lg:Nat),.func (.func id) #[] cap] w fun e w'=>∃ q,e=.returned q∧Ext w w'∧w'.ownsRow w.heap.size 52 1 q (2 ^ lg) (ints .u64 (colT (2 ^ lg) m g)):=by
 refine q0j Tryz.func258 Y Tryz.ntmps258 Y ?_;obtain ⟨⟨A,c,rfl,_⟩,_,_⟩:=hS;have hp:=pow16 hlg;(refine q0b<|q0a ?_);refine q2s (l:=[.slice A m c,vG]) Y ?_;intro g3 w1 B1 hg1 E1 hs1;(refine a_S Y<|q0c<|tn<|q0b<|q0a<|m_I Y<|Ls ((q7v Y Y (by omega)).trans (by rw [shl1 hlg])) ?_);refine z4f (z:=[.int .u64 0]) (2 ^ lg) (2 ^ lg) Y Y Y Y (Nat.le_refl _) (by omega) (by omega) ?_;intro gc w3 B3 hgc E3 hs3;rw [show (List.replicate (2 ^ lg) [Value.int .u64 0]).flatten=ints .u64 (List.replicate (2 ^ lg) 0) from q6n .u64 (2 ^ lg) 0] at B3;have o3:w3.ownsRow w.heap.size 52 1 (.slice (some ⟨gc,0,none⟩) (2 ^ lg) (2 ^ lg)) (2 ^ lg) (ints .u64 (colT (2 ^ lg) 0 g)):=Go.Proofs.K.own_of_blk B3 (by omega) (Nat.le_refl _) (by unfold maxLen;omega) (by rw [q0v];simp) (by rw [List.take_of_length_le (by rw [q0v];simp)];rfl);have D3:=B1.ext E3;have E13:=E1.trans E3;(refine a_S Y<|q0c<|tn<|q0b<|q0b<|q0a<|Ls (q0g Y)<|Ls (X_ld Y D3 Y)<|Ls (q0i Y)<|m_I Y<|q0c<|tn<|q0p ?_);refine q1e (fun q f w'=>∃ i,q=m - i∧i≤m∧f 2=.func (.func id) #[] cap∧f 7=.slice (some ⟨gc,0,none⟩) (2 ^ lg) (2 ^ lg)∧f 14=.int .i64 (m:Nat)∧f 15=.int .i64 (i:Nat)∧Ext w w'∧w'.ownsRow w.heap.size 52 1 (.slice (some ⟨gc,0,none⟩) (2 ^ lg) (2 ^ lg)) (2 ^ lg) (ints .u64 (colT (2 ^ lg) i g))) m ?_ ?_
 · exact ⟨0,rfl,by omega,rfl,rfl,rfl,rfl,E13,o3⟩
 · rintro q f wr ⟨i,hq,hi,f2,f7,f14,f15,hE,oc⟩;rw [fold f2,fold f7,fold f14,fold f15];(refine q0b<|q0a<|Ls (q2h Y Y)<|q0c<|tn<|q0b ?_);refine q0x Y (fun h=>?_) (fun h=>?_)
   · have hlt:i < m:=(by omega);(refine q0l<|tn<|q0b<|q0p<|q0b<|q0a<|m_I Y<|a_I Y<|q0c<|tn<|q0a<|m_S Y<|m_I Y<|Ls (q0d (v:=.func _ _ _) Y)<|m_I Y ?_);refine q4q (vl:=[.int .i64 (i:Nat)]) Y (hf i hlt wr hE) Y ?_;rintro e w5 ⟨rfl,E5⟩;refine ⟨_,rfl,?_⟩;(refine Ls (q0q (i:=i) Y Y (by omega)) ?_);refine q6i (i:=i) (v:=.int .u64 (g i:Nat)) (q1g oc E5) Y Y (by omega) Y (by omega) ?_;intro w6 o6 hg6 hs6;(refine q0c<|bn<|tn<|q0a<|Ls (q1c Y Y (by omega))<|m_I Y<|q0c<|tn ?_);rw [q4w,colT_set (by omega)] at o6;exact ⟨m - (i+1),by omega,i+1,rfl,by omega,rfl,rfl,rfl,rfl,(hE.trans E5).then hg6 (fun g h=>by cases h;omega),o6⟩
   · obtain rfl:i=m:=(by omega);(refine q1d<|te<|te<|bx<|tn<|q0b<|q0a<|m_S Y<|a_S Y<|q0c<|tn<|q0s ?_);exact q0f Y Y (v:=.slice _ _ _) Y ⟨_,rfl,hE,oc⟩
theorem q6t {w:World} {base e size m g T:Nat} {v:Value} {xs cs:List Value} (ho:w.ownsRow base e size v m xs) (hB:Blk w g T cs) (hne:e ≠ T):v.ownBlock ≠ some g:=fun h=>by
 obtain ⟨_,cs',fz,h'⟩:=q3m ho g h;have hB':w.heap[g]?=some (.cells _ _ _):=hB;rw [h'] at hB';cases hB'
 exact hne Y
theorem q5v {w:World} {base e size m base' e' size' m':Nat} {v v':Value} {xs xs':List Value} (ho:w.ownsRow base e size v m xs) (ho':w.ownsRow base' e' size' v' m' xs') (hne:e ≠ e'):∀ g,v.ownBlock=some g→v'.ownBlock ≠ some g:=fun g h h'=>by
 obtain ⟨_,cs,fz,h1⟩:=q3m ho g h;obtain ⟨_,cs',fz',h2⟩:=q3m ho' g h';rw [h1] at h2;cases h2
 exact hne Y
def q5h (w:World) (B:Nat) (q:Value) (N:Nat) (cs:List (List Nat)):Prop:=∃ xs,w.ownsRow B 105 1 q cs.length xs∧∀ (j:Nat) (x:Value) (c:List Nat),xs[j]?=some x→cs[j]?=some c→w.ownsRow B 52 1 x N (ints .u64 c)
theorem q5h.ext {w w':World} {B N:Nat} {q:Value} {cs:List (List Nat)} (h:q5h w B q N cs) (E:Ext w w'):q5h w' B q N cs:=by
 obtain ⟨xs,h1,h2⟩:=h;exact ⟨xs,q1g h1 E,fun j x c hx hc=>q1g (h2 j x c hx hc) E⟩
theorem q5h.cell {w:World} {B N:Nat} {q:Value} {cs:List (List Nat)} (h:q5h w B q N cs):q.oneCell'=true:=by
 obtain ⟨xs,h1,_⟩:=h;exact q3s (Row.of_own h1)
theorem q5h.push {w w':World} {B N:Nat} {q q' x:Value} {xs:List Value} {cs:List (List Nat)} {c:List Nat} (h1:w.ownsRow B 105 1 q cs.length xs) (h2:∀ (j:Nat) (x:Value) (c:List Nat),xs[j]?=some x→cs[j]?=some c→w.ownsRow B 52 1 x N (ints .u64 c))
   (hx:w.ownsRow B 52 1 x N (ints .u64 c)) (o:w'.ownsRow B 105 1 q' (cs.length+1) (xs++[x])) (hg:w.grownBy w' q.ownBlock):q5h w' B q' N (cs++[c]):=by
 have hl:xs.length=cs.length:=by rw [h1.1,Nat.mul_one]
 refine ⟨xs++[x],by rw [List.length_append];exact o,fun j y d hy hd=>?_⟩;by_cases hj:j < cs.length
 · rw [List.getElem?_append_left (by omega)] at hy hd;exact q2n (h2 j y d hy hd) hg (q5v (h2 j y d hy hd) h1 (by decide))
 · rw [List.getElem?_append_right (by omega)] at hy hd;obtain rfl:j=cs.length:=by
     rcases Nat.lt_or_ge (j - cs.length) 1 with h | h
     · omega
     · rw [List.getElem?_eq_none (by simpa using h)] at hd;cases hd
   rw [hl,Nat.sub_self] at hy;rw [Nat.sub_self] at hd;simp at hy hd;subst hy;subst hd;exact q2n hx hg (q5v hx h1 (by decide))
def wbit (k:Nat):Nat:=if k % 2=0 then 4 else 8
theorem fld_at (i:Nat) (hi:i < 4):∃ id,TFun Tryz.prog id∧(fldsC.drop (i * 2)).take 2=[fnV id,.int .i64 (wbit i:Nat)]∧FldF id i:=by
 match i,hi with
 | 0,_=>exact ⟨_,inferInstance,rfl,fld0⟩
 | 1,_=>exact ⟨_,inferInstance,rfl,fld1⟩
 | 2,_=>exact ⟨_,inferInstance,rfl,fld2⟩
 | 3,_=>exact ⟨_,inferInstance,rfl,fld3⟩
def colsK (N m:Nat) (rs:Nat→Nat→Nat) (i:Nat):List (List Nat):=(List.range i).map fun k=>colT N m fun j=>rs j k
theorem q9t (N m:Nat) (rs:Nat→Nat→Nat) (i:Nat):(colsK N m rs i).length=i:=by unfold colsK;simp
theorem colsK_succ (N m:Nat) (rs:Nat→Nat→Nat) (i:Nat):colsK N m rs (i+1)=colsK N m rs i++[colT N m fun j=>rs j i]:=by unfold colsK;rw [List.range_succ,List.map_append];rfl
def cols5 (N m:Nat) (rs:Nat→Nat→Nat) (gs:Nat→Bool):List (List Nat):=colsK N m rs 4++[colT N m fun i=>if gs i then 0 else 1]
theorem gcols5 (lg:Nat) (hlg:lg≤16) {w:World} {lo up m:Nat} {vL vG:Value} {rs:Nat→Nat→Nat} {gs:Nat→Bool} (hm:m≤2 ^ lg) (hS:StrI w lo up vL vG m rs gs) :
   Calls Tryz.prog 147 #[.agg [vL,vG].toArray,.int .i64 (lg:Nat)] w fun e w'=>∃ q,e=.returned (.tuple #[q,.int .i64 0])∧Ext w w'∧q5h w' w.heap.size q (2 ^ lg) (cols5 (2 ^ lg) m rs gs):=by
 refine q0j Tryz.func147 Y Tryz.ntmps147 Y ?_;(refine q0b<|q0a ?_);refine q2s (l:=[vL,vG]) Y ?_;intro g2 w1 B1 hg1 E1 hs1;(refine a_S Y<|a_I Y<|q0c<|tn<|q0b<|q0b<|q0a<|Ls (q2i Y B1 Y)<|m_I Y ?_);refine L_fn (gchk lg hlg (hS.ext E1)) Y ?_;rintro e w2 ⟨rfl,E2⟩;refine ⟨_,rfl,?_⟩;rw [if_pos hm];(refine a_I Y<|q0c<|tn<|q0b<|q0a<|m_I Y<|Ls (q2e Y Y (by omega))<|q0c<|tn<|q0h Y<|q0l<|tn<|q0b<|q0a<|a_S Y<|q0c<|tn<|q0b<|q0b<|q0a ?_);refine L_fn (gfields w2) Y ?_;rintro e w3 ⟨rfl,E3⟩;refine ⟨_,rfl,?_⟩;(refine m_I Y<|q0c<|tn<|q0p ?_);have E13:=(E1.trans E2).trans E3;refine q1e (fun q f w'=>∃ i u,q=4 - i∧i≤4∧f 1=.int .i64 (lg:Nat)∧f 2=.pointer (some ⟨g2,0,none⟩)∧f 7=u∧f 16=.agg fldsC.toArray∧f 17=.int .i64 (i:Nat)∧Ext w w'∧Blk w' g2 27 [vL,vG]∧q5h w' w.heap.size u (2 ^ lg) (colsK (2 ^ lg) m rs i)) 4 ?_ ?_
 · exact ⟨0,_,rfl,by omega,rfl,rfl,rfl,rfl,rfl,E13,(B1.ext E2).ext E3,[],q6d _ _ _ _,fun j x c h=>by simp at h⟩
 · rintro q f wr ⟨i,u,hq,hi,f1,f2,f7,f16,f17,hE,C2,hC⟩;rw [fold f1,fold f2,fold f7,fold f16,fold f17];have hu:=hC.cell;(refine q0b<|q0a<|Ls (q2h Y Y)<|q0c<|tn<|q0b ?_);refine q0x Y (fun h=>?_) (fun h=>?_)
   · have hlt:i < 4:=(by omega);obtain ⟨id,hT,hfl,hid⟩:=fld_at i hlt;haveI:=hT;(refine q0l<|tn<|q0b<|q0p<|q0b<|q0a<|Ls ((X_indexW (i:=i) Y Y (by omega)).trans (by rw [hfl])) ?_);refine q0w ?_;intro g9 w4 B4 hg4 E4 hs4;refine q0t (l:=[fnV id,.int .i64 (wbit i:Nat)]) Y Y Y (fun v hv=>by simp at hv;rcases hv with rfl | rfl <;> rfl) B4 Y ?_;intro w5 B5 hg5 hs5;have E5:=E4.then hg5 fun q h=>(by cases h;omega);have C5:=C2.ext E5;have hE5:=hE.trans E5;(refine q0c<|tn<|q0a<|Ls (q0d (v:=u) Y)<|Ls (q2i Y C5 Y)<|m_I Y ?_);refine Ls (q1i (vf:=[]) (vc:=[.pointer (some ⟨g9,0,none⟩),.pointer (some ⟨g2,0,none⟩)]) Y Y) ?_;refine L_fo (F:=fun v w'=>Ext w5 w'∧w'.ownsRow w5.heap.size 52 1 v (2 ^ lg) (ints .u64 (colT (2 ^ lg) m fun j=>rs j i))) Y ((gepcol _ _ lg hlg hm (hS.ext hE5) (gcolF hid hlt g9 g2 _ (hS.ext hE5) B5 C5)).mono fun e w' ⟨v,h1,h2,h3⟩=>⟨v,h1,h2,h3⟩) ?_;rintro v w6 ⟨E6,o6⟩;have hv:=q3s (Row.of_own o6);skip;refine q4n (v:=v) Y hv ?_;intro y w7 r7 E7 hs7 _;obtain ⟨xs,ox,hx⟩:=(hC.ext E5).ext (E6.trans E7);have hE7:=hE5.trans (E6.trans E7);have hl7:=hE7.size;have h5s:=hE5.size;have hln:=q9t (2 ^ lg) m rs i;skip;refine q1u (v:=u) (u:=y) Y Y ox r7 (fun q hq=>by rw [List.mem_singleton.1 hq];exact hv) (by omega) (by omega) (by omega) ?_;intro q8 w8 o8 hg8 _;have hC8:=q5h.push ox hx (q1g (q2f o6 h5s) E7) o8 hg8;rw [← colsK_succ] at hC8;(refine Ls (q0m (v:=q8) Y)<|q0c<|bn<|tn<|q0a<|Ls (q1c Y Y (by omega))<|m_I Y<|q0c<|tn ?_);exact ⟨4 - (i+1),by omega,i+1,q8,rfl,by omega,rfl,rfl,rfl,rfl,rfl,hE7.then hg8 (q4b ox),((C5.ext E6).ext E7).grown hg8 (q6t ox ((C5.ext E6).ext E7) (by decide)),hC8⟩
   · obtain rfl:i=4:=(by omega);(refine q1d<|te<|te<|bx<|tn<|q0b<|q0a<|Ls (q0d (v:=u) Y)<|Ls (q2i Y C2 Y)<|m_I Y ?_);refine Ls (q1i (vf:=[]) (vc:=[.pointer (some ⟨g2,0,none⟩)]) Y Y) ?_;refine L_fo (F:=fun v w'=>Ext wr w'∧w'.ownsRow wr.heap.size 52 1 v (2 ^ lg) (ints .u64 (colT (2 ^ lg) m fun i=>if gs i then 0 else 1))) Y ((gepcol _ _ lg hlg hm (hS.ext hE) (gcolL g2 (hS.ext hE) C2)).mono fun e w' ⟨v,h1,h2,h3⟩=>⟨v,h1,h2,h3⟩) ?_;rintro v w6 ⟨E6,o6⟩;have hv:=q3s (Row.of_own o6);skip;refine q4n (v:=v) Y hv ?_;intro y w7 r7 E7 hs7 _;obtain ⟨xs,ox,hx⟩:=hC.ext (E6.trans E7);have hE7:=hE.trans (E6.trans E7);have hl7:=hE7.size;have h5s:=hE.size;have hln:=q9t (2 ^ lg) m rs 4;skip;refine q1u (v:=u) (u:=y) Y Y ox r7 (fun q hq=>by rw [List.mem_singleton.1 hq];exact hv) (by omega) (by omega) (by omega) ?_;intro q8 w8 o8 hg8 _;have hC8:=q5h.push ox hx (q1g (q2f o6 h5s) E7) o8 hg8;(refine Ls (q0m (v:=q8) Y)<|a_I Y<|q0c<|tn<|q0s ?_);exact q2q Y Y (v:=q8) (x:=.int .i64 0) Y Y ⟨q8,rfl,hE7.then hg8 (q4b ox),hC8⟩
end Go.Proofs.YtlcnkadkbcoadaaGreatDoor
