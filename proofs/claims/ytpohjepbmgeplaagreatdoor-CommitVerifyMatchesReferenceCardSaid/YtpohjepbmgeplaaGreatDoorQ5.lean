/- HQ, HR, HS, HT, IA, IB, IC, ID, IE, IF, IG, IH. -/
import Derived.Test.YtpohjepbmgeplaaGreatDoorQ4
namespace Go.Proofs.YtpohjepbmgeplaaGreatDoor
open Go.RowKit Go.Proofs.K
open _root_.Mk (spl q2s q3m tree q8q q6g cls q5j q5i q4p)
theorem rsplit {n:Nat} (h2:2≤n) (hn:n≤65536) (w:World) :
    Calls Tryz.prog 159 #[.int .i64 (n:Nat)] w fun e w'=>e=.returned (.int .i64 ((spl n:Nat):Int))∧Ext w w':=by
  refine q0k Tryz.func159 rfl Tryz.ntmps159 rfl ?_;(refine q0b<|q0a<|a_I rfl<|q0c<|tn<|q0b<|q0a<|a_I rfl<|q0c<|tn<|q0b<|q0h ?_);refine q1k (fun q f w'=>∃ j,q=n - 2 ^ j∧2 ^ j < n∧f 0=.int .i64 (n:Nat)∧f 3=.int .i64 ((2 ^ j:Nat):Int)∧w'=w) (n - 1) ?_ ?_
  · exact ⟨0,rfl,by omega,rfl,rfl,rfl⟩
  · rintro q f wr ⟨j,hq,hj,f0,f3,rfl⟩;obtain ⟨z,hz⟩:∃ z,z=2 ^ j:=⟨_,rfl⟩;have hp:0 < 2 ^ j:=Nat.pow_pos (by decide);have hsucc:2 ^ (j+1)=2 * z:=(by rw [Nat.pow_succ,hz,Nat.mul_comm]);rw [← hz] at f3 hj hq hp;rw [fold f0,fold f3];(refine q0b<|q0b<|q0a<|m_I rfl<|Ls (q2a rfl rfl (by omega))<|m_I rfl<|Ls (q1w rfl rfl)<|q0c<|tn ?_);refine q1b rfl (fun h=>?_) (fun h=>?_)
    · (refine q0q<|tn<|q0h<|q0a<|m_I rfl<|Ls (q2a rfl rfl (by omega))<|a_I rfl<|q0c<|bn<|tn ?_);refine ⟨n - 2 * z,by omega,j+1,by rw [hsucc],by omega,rfl,?_,rfl⟩;rw [hsucc,Int.natCast_mul];rfl
    · (refine q1j<|te<|te<|bx<|tn<|q0b<|q0a<|m_I rfl<|a_I rfl<|q0c<|tn<|q0r ?_);refine q0e rfl rfl (v:=.int _ _) rfl ⟨?_,Ext.refl _⟩;have:Nat.log2 (n - 1)=j:=(Nat.log2_eq_iff (by omega)).2 ⟨by omega,by omega⟩;unfold Mk.spl;rw [this,← hz]
theorem z1r {N:Nat→Prop} {w:World} {kd:IntKind} {b o m c:Nat} {M:List (List Nat)} (h:q2f N w kd (.slice (some ⟨b,o,none⟩) m c) M) {i j c':Nat} (hij:i≤j) (hj:j≤M.length) (hc:j - i≤c'∧c'≤maxLen) :
    q2f N w kd (.slice (some ⟨b,o+i * 1,none⟩) (j - i) c') ((M.drop i).take (j - i)):=by
  obtain ⟨vs,hvl,⟨lo,hi,hN,hr⟩,he⟩:=h;have hl:((M.drop i).take (j - i)).length=j - i:=by rw [List.length_take,List.length_drop];omega
  have hl2:((vs.drop i).take (j - i)).length=j - i:=by rw [List.length_take,List.length_drop];omega
  have hg:∀ {α:Type} (l:List α) (q:Nat) (u:α),((l.drop i).take (j - i))[q]?=some u→l[i+q]?=some u:=fun l q u hu=>by
    rw [List.getElem?_take] at hu;split at hu
    · rwa [List.getElem?_drop] at hu
    · cases hu
  refine ⟨(vs.drop i).take (j - i),by rw [hl,hl2],⟨lo,hi,hN,?_⟩,fun q x y hx hy=>he (i+q) x y (hg _ _ _ hx) (hg _ _ _ hy)⟩;rw [hl];refine ⟨by omega,_,c',rfl,hc.1,hc.2,fun h0=>?_⟩;obtain ⟨b',o',c0,e,_,h3,h4,h5⟩:=hr.at (k:=0) (by omega);cases e
  exact ⟨b,_,rfl,h3,h4,q6l h5 fun q u hu=>by rw [Nat.mul_one];exact hg _ _ _ hu⟩
theorem q7w {N:Nat→Prop} {w:World} {kd:IntKind} {A:Option Addr} {m c:Nat} {M:List (List Nat)} (h:q2f N w kd (.slice A m c) M) {i:Nat} {d:List Nat} (hd:M[i]?=some d) :
    ∃ b o x,A=some ⟨b,o,none⟩∧m=M.length∧m≤c∧c≤maxLen∧N b∧w.cell? ⟨b,o+i * 1,none⟩=some x∧x.oneCell'=true∧RowN N w 1 x d.length (ints kd d):=by
  obtain ⟨vs,hvl,hr,he⟩:=h;have hi:i < M.length:=(List.getElem?_eq_some_iff.1 hd).1;obtain ⟨x,hx⟩:∃ x,vs[i]?=some x:=⟨vs[i]'(by omega),List.getElem?_eq_getElem (by omega)⟩;obtain ⟨b,o,c',e,h1,h2,h3,h4⟩:=hr.at hi;cases e
  have:=he i x d hx hd;exact ⟨b,o,x,rfl,rfl,h1,h2,h3,by rw [Nat.mul_one];exact h4 i x hx,this.cell1,this⟩
theorem BsOk.take {M:List (List Nat)} (h:BsOk M) (k:Nat):BsOk (M.take k):=fun d hd=>h d (List.mem_of_mem_take hd)
theorem BsOk.drop {M:List (List Nat)} (h:BsOk M) (k:Nat):BsOk (M.drop k):=fun d hd=>h d (List.mem_of_mem_drop hd)
set_option maxRecDepth 100000 in
set_option maxHeartbeats 2000000 in
theorem z3t (N:Nat→Prop):∀ (F:Nat) (v:Value) (M:List (List Nat)) (_:M.length≤F) (_:1≤M.length) (_:M.length≤65536) (_:BsOk M) (w:World) (_:q2f N w .u8 v M),
    Calls Tryz.prog 113 #[v] w fun e w'=>e=.returned (.agg (ints .u8 (tree nd (M.map lf))).toArray)∧Ext w w'
  | 0,_,_,h,h1,_,_,_,_=>by omega
  | F+1,v,M,hF,h1,hl,hb,w,hr=>by
    obtain ⟨A,c,rfl,_⟩:=hr.form;refine q0k Tryz.func113 rfl Tryz.ntmps113 rfl ?_;(refine q0b<|q0a ?_);refine q0w ?_;intro g1 w1 B1 hg1 E1 hs1;by_cases h2:M.length=1
    · obtain ⟨d,rfl⟩:=List.length_eq_one_iff.1 h2;obtain ⟨b,o,x,rfl,_,_,_,_,hx,hx1,rlo,rhi,_,rx⟩:=q7w hr (i:=0) (d:=d) rfl;have hbd:=hb d (by simp);(refine q0c<|tn<|q0b<|q0b<|q0a<|m_S rfl<|Ls (q0f rfl)<|Ls (q2b rfl rfl (by omega))<|q0c<|tn<|q0z rfl<|q0b<|q0a<|m_S rfl<|Ls (q0n (i:=0) rfl rfl (by simp))<|Ls (q7n rfl (E1.cell hx)) ?_);refine L_fv rfl (rleaf rlo rhi x d hbd.1 hbd.2 w1 (rx.ext E1)) ?_;intro w2 E2;refine q0j (size:=32) (l:=ints .u8 (lf d)) rfl rfl (by rw [q0o];exact q7g _) q1c (B1.ext E2) rfl ?_;intro w8 B8 hg8 _;(refine q0c<|tn<|q0r<|tr ?_);refine q0y rfl rfl (Res.cellA inferInstance rfl (B8.range (fun j u h=>by simpa using h)) (by rw [q0o];exact q7g _) .nil) ?_;exact ⟨rfl,(E1.trans E2).then hg8 (fun g h=>by cases h;omega)⟩
    · have hs1':=q3m (n:=M.length) (by omega);have hs0:=q2s M.length;obtain ⟨b,o,_,rfl,_,hmc,hcm,_⟩:=q7w hr (i:=0) (d:=M[0]'(by omega)) (List.getElem?_eq_getElem (by omega));(refine q0c<|tn<|q0b<|q0b<|q0a<|m_S rfl<|Ls (q0f rfl)<|Ls (q2g rfl rfl (by omega))<|q0c<|tn<|q0x rfl<|q0q<|tn<|q0b<|q0a<|m_S rfl<|Ls (q0f rfl) ?_);refine L_fv rfl (rsplit (n:=M.length) (by omega) hl w1) ?_;intro w2 E2;(refine a_I rfl<|q0c<|tn<|q0b ?_);have E12:=E1.trans E2;have hlt:(M.take (spl M.length)).length=spl M.length:=(by rw [List.length_take];omega);have hld:(M.drop (spl M.length)).length=M.length - spl M.length:=(by rw [List.length_drop]);have ra:∀ y,Ext w2 y→q2f N y .u8 (.slice (some ⟨b,o,none⟩) (spl M.length) c) (M.take (spl M.length)):=fun y E=>by
        have:=z1r (hr.ext (E12.trans E)) (i:=0) (j:=spl M.length) (c':=c) (by omega) (by omega) ⟨by omega,hcm⟩;rw [Nat.zero_mul,Nat.add_zero,List.drop_zero,Nat.sub_zero] at this;exact this
      have rb:∀ y,Ext w2 y→q2f N y .u8 (.slice (some ⟨b,o+spl M.length * 1,none⟩) (M.length - spl M.length) (c - spl M.length)) (M.drop (spl M.length)):=fun y E=>by
        have:=z1r (hr.ext (E12.trans E)) (i:=spl M.length) (j:=M.length) (c':=c - spl M.length) (by omega) (by omega) ⟨by omega,by omega⟩;rw [List.take_of_length_le (by rw [hld];exact Nat.le_refl _)] at this;exact this
      have ta:=q3p ((M.take (spl M.length)).map lf) (q3w _) (by rw [List.length_map];omega);have tb:=q3p ((M.drop (spl M.length)).map lf) (q3w _) (by rw [List.length_map];omega);apply q1h 9 (by kernel_rfl);(apply DW_x (fun r w hA hH=>(q0d (v:=.slice _ _ _) rfl).trans rfl);apply DW_x (fun r w hA hH=>(q0d (v:=.int _ _) rfl).trans rfl));((with_reducible apply DW_x);(exact fun r w hA hH=>(z2h (size:=1) (spl M.length) rfl rfl rfl (by omega)).trans rfl));((with_reducible apply q1x);(exact fun _=>rfl);(exact fun _=>rfl);(exact fun r w hA hH=>z3t N F _ (M.take (spl M.length)) (by omega) (by omega) (by omega) (hb.take _) w (ra w hA)));(apply DW_x (fun r w hA hH=>(q0d (v:=.slice _ _ _) rfl).trans rfl);apply DW_x (fun r w hA hH=>(q0d (v:=.int _ _) rfl).trans rfl));((with_reducible apply DW_x);(exact fun r w hA hH=>(z2i (size:=1) (spl M.length) rfl rfl rfl (by omega) hmc (by omega)).trans rfl));((with_reducible apply q1x);(exact fun _=>rfl);(exact fun _=>rfl);(exact fun r w hA hH=>z3t N F _ (M.drop (spl M.length)) (by omega) (by omega) (by omega) (hb.drop _) w (rb w hA)));((with_reducible apply q1x);(exact fun _=>rfl);(exact fun _=>rfl);(exact fun r w hA hH=>rpair _ _ ta.2 tb.2 ta.1 tb.1 w));((with_reducible exact q1p);(exact rfl);(repeat (first | exact .inr (.inr (fun _ _=>by with_reducible rfl)) | (refine And.intro ?_ ?_) | exact .inr (.inl rfl) | exact .inl (by decide +kernel) | exact trivial | exact .inr (.inr (fun _ _=>rfl))));(try dsimp only [Nat.reduceAdd]));intro r w3 E3 _;refine q0j (size:=32) (l:=ints .u8 (nd (tree nd ((M.take (spl M.length)).map lf)) (tree nd ((M.drop (spl M.length)).map lf)))) rfl rfl (by rw [q0o];exact q5z _ _) q1c (B1.ext (E2.trans E3)) rfl ?_;intro w8 B8 hg8 _;(refine q0c<|tn<|q0r ?_);refine q0y rfl rfl (Res.cellA inferInstance rfl (B8.range (fun j u h=>by simpa using h)) (by rw [q0o];exact q5z _ _) .nil) ?_;refine ⟨?_,(E12.trans E3).then hg8 (fun g h=>by cases h;omega)⟩;rw [q6g nd (l:=M.map lf) (by rw [List.length_map];omega),List.length_map];rfl
theorem rsize {n:Nat} (h1:1≤n) (hn:n≤65536) (w:World) :
    Calls Tryz.prog 112 #[.int .i64 (n:Nat)] w fun e w'=>e=.returned (.int .i64 0)∧Ext w w':=by
  refine q0k Tryz.func112 rfl Tryz.ntmps112 rfl ?_;(refine q0b<|q0a<|a_I rfl<|q0c<|tn<|q0b<|q0b<|q0a<|m_I rfl<|Ls (q2i rfl rfl (by omega))<|q0c<|tn<|q0x rfl<|q0q<|tn<|q0b<|q0b<|q0a<|m_I rfl<|Ls (q3a rfl rfl (by omega))<|q0c<|tn<|q0x rfl<|q0q<|tn<|q0b<|q0a<|a_I rfl<|q0c<|tn<|q0r ?_);refine q0e rfl rfl (v:=.int _ _) rfl ⟨rfl,Ext.refl _⟩
set_option maxHeartbeats 2000000 in
theorem r8root (N:Nat→Prop) (v:Value) (M:List (List Nat)) (h1:1≤M.length) (hM:M.length≤65536) (hb:BsOk M) (w:World) (hr:q2f N w .u8 v M) :
    Calls Tryz.prog 56 #[v] w fun e w'=>e=.returned (.tuple #[.agg (ints .u8 (Mk.root lf nd M)).toArray,.int .i64 0])∧Ext w w':=by
  have hroot:(Mk.root lf nd M).length=32:=(q3p (M.map lf) (q3w M) (by simpa using h1)).1;obtain ⟨A,c,rfl,hmc,hcm⟩:=hr.form;refine q0k Tryz.func56 rfl Tryz.ntmps56 rfl ?_;(refine q0b<|q0a ?_);refine q0w ?_;intro g1 w1 B1 hg1 E1 hs1;(refine a_I rfl<|q0c<|tn<|q0b<|q0a<|m_S rfl<|Ls (q0f rfl) ?_);refine L_fv rfl (rsize h1 hM w1) ?_;intro w2 E2;(refine a_I rfl<|q0c<|tn<|q0b<|q0b<|q0a<|m_I rfl<|Ls (z2s rfl rfl)<|q0c<|tn ?_);refine q0x rfl ?_;(refine q0q<|tn<|q0b<|q0a<|m_S rfl ?_);refine L_fv rfl (z3t N M.length _ M (Nat.le_refl _) h1 hM hb w2 (hr.ext (E1.trans E2))) ?_;intro w3 E3;refine q0j (size:=32) (l:=ints .u8 (Mk.root lf nd M)) rfl rfl (by rw [q0o];exact hroot) q1c (B1.ext (E2.trans E3)) rfl ?_;intro w8 B8 hg8 _;(refine a_I rfl<|q0c<|tn<|q0r ?_);refine q0y rfl rfl (Res.cellA inferInstance rfl (B8.range (fun j u h=>by simpa using h)) (by rw [q0o];exact hroot) (Res.tmp rfl .nil)) ?_;exact ⟨rfl,(E1.trans (E2.trans E3)).then hg8 (fun g h=>by cases h;omega)⟩
theorem q2t {k:IntKind} {I:List Nat} {i x:Nat} (h:I[i]?=some x):(ints k I)[i]?=some (.int k (x:Nat)):=by unfold ints;rw [List.getElem?_map,h];rfl
set_option maxRecDepth 100000 in
set_option maxHeartbeats 4000000 in
theorem rincr {n:Nat} (hn:n≤65536) (lo hi:Nat) (v:Value) (I:List Nat) (hI:∀ i∈I,i < n) (hp:I.Pairwise (· < ·)) (hl:I.length≤65536) (w:World) (hr:Row w lo hi 1 v I.length (ints .i64 I)) :
    Calls Tryz.prog 124 #[v,.int .i64 (n:Nat)] w fun e w'=>e=.returned (.bool true)∧Ext w w':=by
  obtain ⟨A,c,rfl⟩:∃ A c,v=.slice A I.length c:=by
    obtain ⟨_,A,c,rfl,_⟩:=hr;exact ⟨A,c,rfl⟩
  refine q0k Tryz.func124 rfl Tryz.ntmps124 rfl ?_;(refine q0b<|q0a<|a_B rfl<|q0c<|tn<|q0b<|q0b<|q0a<|a_I rfl<|q0c<|tn<|q0h ?_);refine q1k (fun q f w'=>∃ (i:Nat),q=I.length - i∧i≤I.length∧f 0=.slice A I.length c∧f 1=.int .i64 (n:Nat)∧f 5=.int .i64 (i:Nat)∧Ext w w') I.length ?_ ?_
  · exact ⟨0,rfl,by omega,rfl,rfl,rfl,Ext.refl _⟩
  · rintro q f wr ⟨i,hq,hi,f0,f1,f5,hE⟩;rw [fold f0,fold f1,fold f5];(refine q0b<|q0b<|q0a<|m_I rfl<|m_S rfl<|Ls (q0f rfl)<|Ls (q1w rfl rfl)<|q0c<|tn ?_);refine q1b rfl (fun h=>?_) (fun h=>?_)
    · have hlt:i < I.length:=(by omega);obtain ⟨x,hx⟩:∃ x,I[i]?=some x:=⟨I[i],List.getElem?_eq_getElem hlt⟩;have hxn:=hI x (List.mem_of_getElem? hx);obtain ⟨b,o,c',hA,_,_,_,hR⟩:=hr.at hlt;cases hA
      by_cases h0:i=0
      · subst h0;(refine q0q<|tn<|q0b<|q0h<|q0b ?_);apply q1h 29 (by kernel_rfl);repeat (first | ((with_reducible apply q2h);(first | ((with_reducible apply d_ng);(first | apply DW_x (fun r w hA hH=>(q0d (v:=.int _ _) rfl).trans rfl) | apply DW_x (fun r w hA hH=>(q0d (v:=.slice _ _ _) rfl).trans rfl) | apply DW_x (fun r w hA hH=>(q0d (v:=.bool _) rfl).trans rfl))) | ((with_reducible apply d_gd);(first | apply q0m rfl rfl (fun _=>rfl) (fun r w hA hH=>(q0d (v:=.int _ _) rfl).trans rfl) | apply q0m rfl rfl (fun _=>rfl) (fun r w hA hH=>(q0d (v:=.slice _ _ _) rfl).trans rfl) | apply q0m rfl rfl (fun _=>rfl) (fun r w hA hH=>(q0d (v:=.bool _) rfl).trans rfl))))) | ((with_reducible apply z4m);((with_reducible apply d_ng);apply DW_x (fun r w hA hH=>(q2i rfl rfl (by omega)).trans rfl))) | ((with_reducible apply d_gtr);((with_reducible apply d_gd);apply q0m rfl rfl (fun _=>rfl) (fun r w hA hH=>(q3a rfl rfl (by omega)).trans rfl))) | ((with_reducible apply d_geq);((with_reducible apply d_gd);apply q0m rfl rfl (fun _=>rfl) (fun r w hA hH=>(q6w rfl rfl (by omega)).trans rfl))) | ((with_reducible apply q5h);(first | ((with_reducible apply d_ng);apply DW_x (fun r w hA hH=>(q0s (v:=.bool _) rfl rfl).trans rfl)) | ((with_reducible apply d_gd);apply q0m rfl rfl (fun _=>rfl) (fun r w hA hH=>(q0s (v:=.bool _) rfl rfl).trans rfl)))) | ((with_reducible apply q2j);(first | ((with_reducible apply d_ng);apply DW_x (fun r w hA hH=>(q1v rfl ((hE.trans hA).range hR) (j:=0) (by omega) (q2t hx)).trans rfl)) | ((with_reducible apply d_gd);apply q0m rfl rfl (fun _=>rfl) (fun r w hA hH=>(q1v rfl ((hE.trans hA).range hR) (j:=0) (by omega) (q2t hx)).trans rfl)))) | ((with_reducible apply q3x);(first | ((with_reducible apply d_ng);apply DW_x (fun r w hA hH=>(q0n rfl rfl (by omega)).trans rfl)) | ((with_reducible apply d_gd);apply q0m rfl rfl (fun _=>rfl) (fun r w hA hH=>(q0n rfl rfl (by omega)).trans rfl)))) | ((with_reducible apply d_gd);apply q1y rfl rfl (fun _=>rfl) rfl))
        ((with_reducible exact q1p);(exact rfl);(repeat (first | exact .inr (.inr (fun _ _=>by with_reducible rfl)) | (refine And.intro ?_ ?_) | exact .inr (.inl rfl) | exact .inl (by decide +kernel) | exact trivial | exact .inr (.inr (fun _ _=>rfl))));(try dsimp only [Nat.reduceAdd]));intro r w2 E2 _;(refine q0c<|tn<|q0x rfl<|q0q<|bn<|tn<|q0a<|m_I rfl<|Ls (q1e rfl rfl (by omega))<|a_I rfl<|q0c<|tn ?_);exact ⟨I.length - 1,by omega,1,rfl,by omega,rfl,rfl,rfl,hE.trans E2⟩
      · obtain ⟨y,hy⟩:∃ y,I[i - 1]?=some y:=⟨I[i - 1],List.getElem?_eq_getElem (by omega)⟩;have hyx:y < x:=by
          have:=List.pairwise_iff_getElem.1 hp (i - 1) i (by omega) hlt (by omega);rw [List.getElem?_eq_getElem hlt] at hx;rw [List.getElem?_eq_getElem (by omega)] at hy;rw [Option.some.inj hx,Option.some.inj hy] at this;exact this
        (refine q0q<|tn<|q0b<|q0h<|q0b ?_);apply q1h 29 (by kernel_rfl);repeat (first | ((with_reducible apply q2h);(first | ((with_reducible apply d_ng);(first | apply DW_x (fun r w hA hH=>(q0d (v:=.int _ _) rfl).trans rfl) | apply DW_x (fun r w hA hH=>(q0d (v:=.slice _ _ _) rfl).trans rfl) | apply DW_x (fun r w hA hH=>(q0d (v:=.bool _) rfl).trans rfl))) | ((with_reducible apply d_gd);(first | apply q0m rfl rfl (fun _=>rfl) (fun r w hA hH=>(q0d (v:=.int _ _) rfl).trans rfl) | apply q0m rfl rfl (fun _=>rfl) (fun r w hA hH=>(q0d (v:=.slice _ _ _) rfl).trans rfl) | apply q0m rfl rfl (fun _=>rfl) (fun r w hA hH=>(q0d (v:=.bool _) rfl).trans rfl))))) | ((with_reducible apply z2q);((with_reducible apply d_gd);apply q0m rfl rfl (fun _=>rfl) (fun r w hA hH=>(q2d rfl rfl (by omega)).trans rfl))) | ((with_reducible apply z4m);((with_reducible apply d_ng);apply DW_x (fun r w hA hH=>(q2i rfl rfl (by omega)).trans rfl))) | ((with_reducible apply d_gtr);((with_reducible apply d_gd);apply q0m rfl rfl (fun _=>rfl) (fun r w hA hH=>(q4q rfl rfl (by omega)).trans rfl))) | ((with_reducible apply d_geq);((with_reducible apply d_gd);apply q0m rfl rfl (fun _=>rfl) (fun r w hA hH=>(q6w rfl rfl (by omega)).trans rfl))) | ((with_reducible apply q5h);(first | ((with_reducible apply d_ng);apply DW_x (fun r w hA hH=>(q0s (v:=.bool _) rfl rfl).trans rfl)) | ((with_reducible apply d_gd);apply q0m rfl rfl (fun _=>rfl) (fun r w hA hH=>(q0v (v:=.bool _) rfl rfl).trans rfl)))) | ((with_reducible apply q2j);(first | ((with_reducible apply d_ng);apply DW_x (fun r w hA hH=>(q1v rfl ((hE.trans hA).range hR) (j:=i) (by omega) (q2t hx)).trans rfl)) | ((with_reducible apply d_gd);(first | apply q0m rfl rfl (fun _=>rfl) (fun r w hA hH=>(q1v rfl ((hE.trans hA).range hR) (j:=i) (by omega) (q2t hx)).trans rfl) | apply q0m rfl rfl (fun _=>rfl) (fun r w hA hH=>(q1v rfl ((hE.trans hA).range hR) (j:=i - 1) (by omega) (q2t hy)).trans rfl))))) | ((with_reducible apply q3x);(first | ((with_reducible apply d_ng);apply DW_x (fun r w hA hH=>(q0n rfl rfl (by omega)).trans rfl)) | ((with_reducible apply d_gd);(first | apply q0m rfl rfl (fun _=>rfl) (fun r w hA hH=>(q0n rfl rfl (by omega)).trans rfl) | apply q0m rfl rfl (fun _=>rfl) (fun r w hA hH=>(q4n rfl rfl (by omega)).trans rfl))))))
        ((with_reducible exact q1p);(exact rfl);(repeat (first | exact .inr (.inr (fun _ _=>by with_reducible rfl)) | (refine And.intro ?_ ?_) | exact .inr (.inl rfl) | exact .inl (by decide +kernel) | exact trivial | exact .inr (.inr (fun _ _=>rfl))));(try dsimp only [Nat.reduceAdd]));intro r w2 E2 _;(refine q0c<|tn<|q0x rfl<|q0q<|bn<|tn<|q0a<|m_I rfl<|Ls (q1e rfl rfl (by omega))<|a_I rfl<|q0c<|tn ?_);exact ⟨I.length - (i+1),by omega,i+1,rfl,by omega,rfl,rfl,rfl,hE.trans E2⟩
    · (refine q1j<|te<|te<|bx<|tn<|q0b<|q0a<|a_B rfl<|q0c<|tn<|q0r ?_);refine q0e rfl rfl (v:=.bool _) rfl ⟨rfl,hE⟩
def inn (I:List Nat) (lo hi:Nat):List Nat:=I.filter fun i=>Nat.ble lo i && Nat.blt i hi
theorem inn_bit (lo hi x:Nat):(Nat.ble lo x && Nat.blt x hi)=true↔lo≤x∧x < hi:=by rw [Bool.and_eq_true,Nat.blt_eq,Nat.ble_eq]
theorem inn_succ {I:List Nat} {lo hi i x:Nat} (hx:I[i]?=some x):(inn (I.take (i+1)) lo hi).length=(inn (I.take i) lo hi).length+(if lo≤x∧x < hi then 1 else 0):=by
  unfold inn;rw [List.take_add_one,hx,List.filter_append,List.length_append];congr 1;by_cases h:lo≤x∧x < hi
  · rw [if_pos h];simp [List.filter_cons,(inn_bit lo hi x).2 h]
  · rw [if_neg h];have:(Nat.ble lo x && Nat.blt x hi)=false:=by
      cases hb:(Nat.ble lo x && Nat.blt x hi)
      · rfl
      · exact (h ((inn_bit lo hi x).1 hb)).elim
    simp [List.filter_cons,this]
set_option maxRecDepth 100000 in
set_option maxHeartbeats 2000000 in
theorem rwithin (L H lo hi:Nat) (v:Value) (I:List Nat) (hl:I.length≤65536) (w:World) (hr:Row w lo hi 1 v I.length (ints .i64 I)) :
    Calls Tryz.prog 171 #[v,.int .i64 (L:Nat),.int .i64 (H:Nat)] w fun e w'=>e=.returned (.int .i64 (((inn I L H).length:Nat):Int))∧Ext w w':=by
  obtain ⟨A,c,rfl⟩:∃ A c,v=.slice A I.length c:=by
    obtain ⟨_,A,c,rfl,_⟩:=hr;exact ⟨A,c,rfl⟩
  refine q0k Tryz.func171 rfl Tryz.ntmps171 rfl ?_;(refine q0b<|q0a<|a_I rfl<|q0c<|tn<|q0b<|q0a<|a_I rfl<|q0c<|tn<|q0b<|q0b<|q0a<|a_I rfl<|q0c<|tn<|q0h ?_);refine q1k (fun q f w'=>∃ (i z:Nat),q=I.length - i∧i≤I.length∧z=(inn (I.take i) L H).length∧f 0=.slice A I.length c∧f 1=.int .i64 (L:Nat)∧f 2=.int .i64 (H:Nat)∧f 7=.int .i64 (z:Nat)∧f 8=.int .i64 (i:Nat)∧Ext w w') I.length ?_ ?_
  · exact ⟨0,0,rfl,by omega,by simp [inn],rfl,rfl,rfl,rfl,rfl,Ext.refl _⟩
  · rintro q f wr ⟨i,z,hq,hi,hz,f0,f1,f2,f7,f8,hE⟩;rw [fold f0,fold f1,fold f2,fold f7,fold f8];have hzl:z≤65536:=by
      have:(inn (I.take i) L H).length≤(I.take i).length:=List.length_filter_le _ _;rw [List.length_take] at this;omega
    (refine q0b<|q0b<|q0a<|m_I rfl<|m_S rfl<|Ls (q0f rfl)<|Ls (q1w rfl rfl)<|q0c<|tn ?_);refine q1b rfl (fun h=>?_) (fun h=>?_)
    · have hlt:i < I.length:=(by omega);obtain ⟨x,hx⟩:∃ x,I[i]?=some x:=⟨I[i],List.getElem?_eq_getElem hlt⟩;obtain ⟨b,o,c',hA,_,_,_,hR⟩:=hr.at hlt;cases hA
      have hs:=inn_succ (lo:=L) (hi:=H) hx;by_cases h1:L≤x
      · by_cases h2:x < H
        · rw [if_pos ⟨h1,h2⟩] at hs;(refine q0q<|tn<|q0b<|q0h<|q0b<|q0a<|m_S rfl<|m_I rfl<|Ls (q0n rfl rfl (by omega))<|Ls (q1v rfl (hE.range hR) (j:=i) (by omega) (q2t hx))<|m_I rfl<|Ls (q6c rfl rfl (by omega))<|m_B rfl<|Lg2 rfl rfl rfl (q0d (v:=.slice _ _ _) rfl)<|Lg2 rfl rfl rfl (q0d (v:=.int _ _) rfl)<|Lg2 rfl rfl rfl (q0n rfl rfl (by omega))<|Lg2 rfl rfl rfl (q1v rfl (hE.range hR) (j:=i) (by omega) (q2t hx))<|Lg2 rfl rfl rfl (q0d (v:=.int _ _) rfl)<|Lg2 rfl rfl rfl (q9j rfl rfl (by omega))<|Ls (q0v (v:=.bool _) rfl rfl)<|q0c<|tn<|q0z rfl<|q0a<|m_I rfl<|Ls (q1e rfl rfl (by omega))<|a_I rfl<|q0c<|bn<|tn<|q0a<|m_I rfl<|Ls (q1e rfl rfl (by omega))<|a_I rfl<|q0c<|tn ?_);exact ⟨I.length - (i+1),by omega,i+1,z+1,rfl,by omega,by omega,rfl,rfl,rfl,rfl,rfl,hE⟩
        · rw [if_neg (fun h=>h2 h.2)] at hs;(refine q0q<|tn<|q0b<|q0h<|q0b<|q0a<|m_S rfl<|m_I rfl<|Ls (q0n rfl rfl (by omega))<|Ls (q1v rfl (hE.range hR) (j:=i) (by omega) (q2t hx))<|m_I rfl<|Ls (q6c rfl rfl (by omega))<|m_B rfl<|Lg2 rfl rfl rfl (q0d (v:=.slice _ _ _) rfl)<|Lg2 rfl rfl rfl (q0d (v:=.int _ _) rfl)<|Lg2 rfl rfl rfl (q0n rfl rfl (by omega))<|Lg2 rfl rfl rfl (q1v rfl (hE.range hR) (j:=i) (by omega) (q2t hx))<|Lg2 rfl rfl rfl (q0d (v:=.int _ _) rfl)<|Lg2 rfl rfl rfl (q2i rfl rfl (by omega))<|Ls (q0v (v:=.bool _) rfl rfl)<|q0c<|tn<|q0x rfl<|q0q<|bn<|tn<|q0a<|m_I rfl<|Ls (q1e rfl rfl (by omega))<|a_I rfl<|q0c<|tn ?_);exact ⟨I.length - (i+1),by omega,i+1,z,rfl,by omega,by omega,rfl,rfl,rfl,rfl,rfl,hE⟩
      · rw [if_neg (fun h=>h1 h.1)] at hs;(refine q0q<|tn<|q0b<|q0h<|q0b<|q0a<|m_S rfl<|m_I rfl<|Ls (q0n rfl rfl (by omega))<|Ls (q1v rfl (hE.range hR) (j:=i) (by omega) (q2t hx))<|m_I rfl<|Ls (q6w rfl rfl (by omega))<|m_B rfl<|Lo2 rfl rfl rfl rfl<|Lo2 rfl rfl rfl rfl<|Lo2 rfl rfl rfl rfl<|Lo2 rfl rfl rfl rfl<|Lo2 rfl rfl rfl rfl<|Lo2 rfl rfl rfl rfl<|Ls (q0s (v:=.bool _) rfl rfl)<|q0c<|tn<|q0x rfl<|q0q<|bn<|tn<|q0a<|m_I rfl<|Ls (q1e rfl rfl (by omega))<|a_I rfl<|q0c<|tn ?_);exact ⟨I.length - (i+1),by omega,i+1,z,rfl,by omega,by omega,rfl,rfl,rfl,rfl,rfl,hE⟩
    · have hil:i=I.length:=(by omega);rw [hil,List.take_length] at hz;(refine q1j<|te<|te<|bx<|tn<|q0b<|q0a<|m_I rfl<|a_I rfl<|q0c<|tn<|q0r ?_);refine q0e rfl rfl (v:=.int _ _) rfl ⟨by rw [hz],hE⟩
def mxs (l:List (Nat × Nat)):List Value:=(l.map fun p=>[Value.int .i64 (p.1:Nat),.int .i64 (p.2:Nat)]).flatten
theorem mxs_len (l:List (Nat × Nat)):(mxs l).length=l.length * 2:=by
  unfold mxs;induction l with
  | nil=>rfl
  | cons p l ih=>rw [List.map_cons,List.flatten_cons,List.length_append,ih,List.length_cons,List.length_cons,List.length_cons,List.length_nil];omega
theorem mxs_app (a b:List (Nat × Nat)):mxs (a++b)=mxs a++mxs b:=by unfold mxs;rw [List.map_append,List.flatten_append]
theorem mxs_cell {l:List (Nat × Nat)}:∀ v∈mxs l,v.oneCell'=true:=by
  intro v hv;obtain ⟨c,hc,hvc⟩:=List.mem_flatten.1 hv;obtain ⟨p,_,rfl⟩:=List.mem_map.1 hc;rcases List.mem_cons.1 hvc with rfl | hvc
  · rfl
  · rcases List.mem_cons.1 hvc with rfl | hvc
    · rfl
    · cases hvc
theorem mxs_get {l:List (Nat × Nat)} {i:Nat} {p:Nat × Nat} (h:l[i]?=some p):(mxs l)[i * 2]?=some (.int .i64 (p.1:Nat))∧(mxs l)[i * 2+1]?=some (.int .i64 (p.2:Nat)):=by
  have hi:i < l.length:=(List.getElem?_eq_some_iff.1 h).1;have e:l=l.take i++p :: l.drop (i+1):=by
    have:=List.take_append_drop i l;rw [List.drop_eq_getElem_cons hi] at this;rw [List.getElem?_eq_getElem hi] at h;rw [Option.some.inj h] at this;exact this.symm
  have hl:(mxs (l.take i)).length=i * 2:=by rw [mxs_len,List.length_take,Nat.min_eq_left (by omega)]
  rw [e,mxs_app];constructor
  · rw [List.getElem?_append_right (by omega),hl,Nat.sub_self];rfl
  · rw [List.getElem?_append_right (by omega),hl,show i * 2+1 - i * 2=1 by omega];rfl
section
variable {n:NN} {f:Fr} {w:World} {d:Option Tmp} {t:TypeId} {pos:String} {af:Array Edge} {g:Option (Nat × Bool)} {x y:Operand}
theorem X_mkMx {a b:Nat} (hx:ev n f x=.int .i64 (a:Nat)) (hy:ev n f y=.int .i64 (b:Nat)) :
    X Tryz.prog n ⟨d,.build 168 #[(0,x),(1,y)],t,pos,af,g⟩ f w=.ok (.value (.agg (mxs [(a,b)]).toArray)) w:=by
  have:=q3d (P:=Tryz.prog) (ty:=168) (n:=n) (f:=f) (w:=w) (d:=d) (t:=t) (pos:=pos) (af:=af) (g:=g) (Parts.cons (i:=0) (c:=[.int .i64 (a:Nat)]) (z:=[.int .i64 0]) hx rfl rfl rfl (Parts.cons (i:=1) (c:=[.int .i64 (b:Nat)]) (z:=[.int .i64 0]) hy rfl rfl rfl (Parts.nil _)));exact this
end
theorem inn_lo {I:List Nat} {lo k hi:Nat} (h1:lo≤k) (h2:k≤hi):(inn I lo hi).filter (fun i=>Nat.blt i k)=inn I lo k∧(inn I lo hi).filter (fun i=>Nat.ble k i)=inn I k hi:=by
  unfold inn;rw [List.filter_filter,List.filter_filter];constructor
  · refine List.filter_congr fun i _=>?_;rw [Bool.eq_iff_iff];simp only [Bool.and_eq_true,Nat.blt_eq,Nat.ble_eq];omega
  · refine List.filter_congr fun i _=>?_;rw [Bool.eq_iff_iff];simp only [Bool.and_eq_true,Nat.blt_eq,Nat.ble_eq];omega
theorem z0e:∀ (f lo hi:Nat) (I:List Nat),hi - lo < f→lo < hi→(cls lo hi I).length≤hi - lo
  | 0,_,_,_,h,_=>by omega
  | f+1,lo,hi,I,hf,hlo=>by
    by_cases h0:I=[]
    · subst h0;rw [q5j];simp;omega
    · by_cases h1:hi - lo≤1
      · rw [q5i h1 h0];simp
      · have h2:2≤hi - lo:=(by omega);have hs1:=q3m h2;have hs0:=q2s (hi - lo);rw [q4p h2 h0,List.length_append];have:=z0e f lo (lo+spl (hi - lo)) (I.filter fun i=>Nat.blt i (lo+spl (hi - lo))) (by omega) (by omega);have:=z0e f (lo+spl (hi - lo)) hi (I.filter fun i=>Nat.ble (lo+spl (hi - lo)) i) (by omega) (by omega);omega
set_option maxRecDepth 100000 in
set_option maxHeartbeats 4000000 in
theorem z3u (bl bh:Nat) (v:Value) (I:List Nat) (hl:I.length≤65536):∀ (F lo hi:Nat) (_:hi - lo < F) (_:lo < hi) (_:hi≤65536) (w:World) (_:Row w bl bh 1 v I.length (ints .i64 I)),
    Calls Tryz.prog 125 #[v,.int .i64 (lo:Nat),.int .i64 (hi:Nat)] w fun e w'=>∃ q,e=.returned q∧Ext w w'∧w'.ownsRow w.heap.size 168 2 q (cls lo hi (inn I lo hi)).length (mxs (cls lo hi (inn I lo hi)))
  | 0,_,_,h,_,_,_,_=>by omega
  | F+1,lo,hi,hF,hlo,hh,w,hr=>by
    have hv1:=q0g hr;refine q0k Tryz.func125 rfl Tryz.ntmps125 rfl ?_;(refine q0b<|q0a<|a_S rfl<|q0c<|tn<|q0b<|q0b<|q0a<|Ls (q0d (v:=v) rfl)<|m_I rfl<|m_I rfl ?_);refine L_fv rfl (rwithin lo hi bl bh v I hl w hr) ?_;intro w1 E1;by_cases h0:inn I lo hi=[]
    · have hz:(inn I lo hi).length=0:=(by rw [h0];rfl);rw [h0,q5j];(refine Ls (z2m rfl rfl)<|q0c<|tn<|q0z rfl<|q0b<|q0a<|m_I rfl<|m_I rfl ?_);refine Ls (X_mkMx (a:=lo) (b:=hi) rfl rfl) ?_;refine L_lits (z:=[.int .i64 0,.int .i64 0]) (zs':=[mxs [(lo,hi)]]) (cs:=mxs [(lo,hi)]) (len:=1) (Parts.cons (i:=0) (c:=mxs [(lo,hi)]) (z:=[.int .i64 0,.int .i64 0]) rfl rfl rfl rfl (Parts.nil _)) rfl (by simp) rfl rfl ?_;intro q w2 r2 E2 hs2 o2 _;(refine Ls (q0l (v:=q) rfl)<|q0c<|tn<|q0r<|tr ?_);exact q0e rfl rfl (v:=q) rfl ⟨q,rfl,E1.trans E2,q1l o2 E1.size⟩
    · have hz:0 < (inn I lo hi).length:=List.length_pos_iff.2 h0;by_cases h1:hi - lo≤1
      · rw [q5i h1 h0];(refine Ls (q2g rfl rfl (by omega))<|q0c<|tn<|q0x rfl<|q0q<|tn<|q0b<|q0b<|q0a<|m_I rfl<|m_I rfl<|Ls (q2d rfl rfl (by omega))<|Ls (q2b rfl rfl (by omega))<|q0c<|tn<|q0z rfl<|q0b<|q0a<|a_S rfl<|q0c<|tn<|q0r<|tr ?_);exact q0e rfl rfl (v:=.slice none 0 0) rfl ⟨_,rfl,E1,⟨rfl,.inl ⟨rfl,rfl⟩⟩⟩
      · have h2:2≤hi - lo:=(by omega);have hs1:=q3m h2;have hs0:=q2s (hi - lo);obtain ⟨k,hk⟩:∃ k,k=lo+spl (hi - lo):=⟨_,rfl⟩;obtain ⟨f1,f2⟩:=inn_lo (I:=I) (lo:=lo) (k:=k) (hi:=hi) (by omega) (by omega);have hcl:=q4p h2 h0;rw [← hk,f1,f2] at hcl;rw [hcl];have ca:=z0e (k - lo+1) lo k (inn I lo k) (by omega) (by omega);have cb:=z0e (hi - k+1) k hi (inn I k hi) (by omega) (by omega);(refine Ls (q2g rfl rfl (by omega))<|q0c<|tn<|q0x rfl<|q0q<|tn<|q0b<|q0b<|q0a<|m_I rfl<|m_I rfl<|Ls (X_subn rfl rfl ⟨by omega,by omega⟩)<|Ls (q2g rfl rfl (by omega))<|q0c<|tn<|q0x rfl<|q0q<|tn<|q0b<|q0a<|m_I rfl<|m_I rfl<|m_I rfl<|Ls (X_subn rfl rfl ⟨by omega,by omega⟩) ?_);refine L_fv rfl (rsplit h2 (by omega) w1) ?_;intro w2 E2;(refine Ls (X_addn rfl rfl (by omega))<|a_I rfl<|q0c<|tn<|q0b<|q0a<|Ls (q0d (v:=v) rfl)<|m_I rfl<|m_I rfl ?_);rw [← hk];have E12:=E1.trans E2;skip;refine L_fo rfl (z3u bl bh v I hl F lo k (by omega) (by omega) (by omega) w2 (hr.ext E12)) ?_;rintro q3 w3 ⟨E3,o3⟩;have hq3:=q0g (Row.of_own o3);(refine Ls (q0l (v:=q3) rfl)<|q0c<|tn<|q0b<|q0a<|Ls (q0d (v:=q3) rfl)<|Ls (q0d (v:=v) rfl)<|m_I rfl<|m_I rfl ?_);refine L_fo rfl (z3u bl bh v I hl F k hi (by omega) (by omega) hh w3 (hr.ext (E12.trans E3))) ?_;rintro q4 w4 ⟨E4,o4⟩;refine q1n (v:=q3) (u:=q4) rfl rfl (q0p o3 E4) (Row.of_own o4) mxs_cell (by omega) (by omega) (by have:=E3.size;have:=E4.size;omega) ?_;intro q5 w5 o5 hg5 _;(refine Ls (q0l (v:=q5) rfl)<|q0c<|tn<|q0r ?_);refine q0e rfl rfl (v:=q5) rfl ⟨q5,rfl,((E12.trans E3).trans E4).then hg5 (fun q hq=>by have:=(q1g o3 q hq).1;have:=E12.size;omega),?_⟩;rw [List.length_append,mxs_app];exact q1l o5 E12.size
set_option maxRecDepth 100000 in
set_option maxHeartbeats 4000000 in
theorem r8open (N:Nat→Prop) (v:Value) (M:List (List Nat)) (h1:1≤M.length) (hM:M.length≤65536) (hb:BsOk M) (lo hi':Nat) (u:Value) (I:List Nat) (hp:I.Pairwise (· < ·)) (hin:∀ i∈I,i < M.length) (w:World) (hr:q2f N w .u8 v M) (hru:Row w lo hi' 1 u I.length (ints .i64 I)) :
    Calls Tryz.prog 68 #[v,u] w fun e w'=>∃ q,e=.returned (.tuple #[.agg #[q],.int .i64 0])∧Ext w w'∧w'.ownsRow w.heap.size 43 32 q (Mk.opening lf nd M I).length (dgs (Mk.opening lf nd M I)):=by
  have hIl:I.length≤65536:=by
    have:=q4z hp (lo:=0) (hi:=M.length) fun i h=>⟨Nat.zero_le _,hin i h⟩;omega
  have hcl:=Mk.cls_in (M.length+1) 0 M.length I (by omega) (by omega);have hcn:=z0e (M.length+1) 0 M.length I (by omega) (by omega);have hinn:inn I 0 M.length=I:=Mk.filt_all hin;obtain ⟨A,c,rfl,_,hcm⟩:=hr.form;obtain ⟨b0,o0,_,rfl,_,hmc,_⟩:=q7w hr (i:=0) (d:=M[0]'(by omega)) (List.getElem?_eq_getElem (by omega));have hu1:=q0g hru;obtain ⟨nodes,hnodes⟩:∃ nodes,nodes=Mk.opening lf nd M I:=⟨_,rfl⟩;have hnl:nodes.length=(cls 0 M.length I).length:=by rw [hnodes];unfold Mk.opening;simp
  rw [← hnodes];refine q0k Tryz.func68 rfl Tryz.ntmps68 rfl ?_;(refine q0b<|q0a ?_);refine q0w ?_;intro g4 w1 B4 hg4 E1 hs1;(refine a_I rfl<|q0c<|tn<|q0b<|q0b<|q0a<|m_S rfl<|Ls (q0f rfl)<|Ls (q2i rfl rfl (by omega))<|m_B rfl<|Lg2 rfl rfl rfl (q0d (v:=u) rfl)<|Lg2 rfl rfl rfl (q0d (v:=.slice _ _ _) rfl)<|Lg2 rfl rfl rfl (q0f rfl) ?_);refine q1z rfl rfl rfl ?_;refine L_fv rfl (rincr hM lo hi' u I hin hp hIl w1 (hru.ext E1)) ?_;intro w2 E2;(refine Lg2 rfl rfl rfl (q1s rfl)<|Ls (q0s (v:=.bool _) rfl rfl)<|q0c<|tn<|q0x rfl<|q0q<|tn<|q0b<|q0b<|q0a<|m_S rfl<|Ls (q0f rfl) ?_);refine L_fv rfl (rsize h1 hM w2) ?_;intro w3 E3;(refine Ls (z2s rfl rfl)<|q0c<|tn ?_);refine q0x rfl ?_;(refine q0q<|tn<|q0b<|q0a ?_);refine Ls (q3d (zs:=[[Value.slice none 0 0]]) (r:=[]) (Parts.nil _)) ?_;(refine Ls (q0d (v:=u) rfl)<|m_S rfl<|Ls (q0f rfl) ?_);have E13:=E1.trans (E2.trans E3);refine L_fo rfl (z3u lo hi' u I hIl (M.length+1) 0 M.length (by omega) (by omega) hM w3 (hru.ext E13)) ?_;rintro q7 w4 ⟨E4,o4⟩;rw [hinn] at o4;refine q0w ?_;intro g6 w5 B6 hg6 E5 hs5;refine q0j (l:=[.slice none 0 0]) rfl rfl rfl (fun x hx=>by rw [List.mem_singleton.1 hx];rfl) B6 rfl ?_;intro w6 B6' hg6' hs6;have hz4:=E4.size;have E46:Ext w4 w6:=E5.then hg6' (fun g h=>by cases h;omega);have E06:=(E13.trans E4).trans E46;obtain ⟨A7,c7,rfl,_⟩:∃ A c,q7=.slice A (cls 0 M.length I).length c∧True:=by
    obtain ⟨_,A,c,rfl,_⟩:=Row.of_own o4;exact ⟨A,c,rfl,trivial⟩
  have C4:=B4.ext ((E2.trans (E3.trans E4)).trans E46);have h46:g4 ≠ g6:=by have:=(E2.trans (E3.trans E4)).size;omega
  (refine a_S rfl<|q0c<|tn<|q0b<|q0b<|q0a<|a_I rfl<|q0c<|tn<|q0h ?_);refine q1k (fun q f w'=>∃ i x,q=nodes.length - i∧i≤nodes.length∧f 0=.slice (some ⟨b0,o0,none⟩) M.length c∧f 4=.pointer (some ⟨g4,0,none⟩)∧f 6=.pointer (some ⟨g6,0,none⟩)∧f 7=.slice A7 (cls 0 M.length I).length c7∧f 8=.int .i64 (i:Nat)∧Blk w' g4 48 [.slice none 0 0]∧Blk w' g6 48 [x]∧w'.ownsRow w.heap.size 43 32 x i (dgs (nodes.take i))∧w'.ownsRow w.heap.size 168 2 (.slice A7 (cls 0 M.length I).length c7) (cls 0 M.length I).length (mxs (cls 0 M.length I))∧Ext w w') nodes.length ?_ ?_
  · exact ⟨0,.slice none 0 0,rfl,by omega,rfl,rfl,rfl,rfl,rfl,C4,B6',⟨rfl,.inl ⟨rfl,rfl⟩⟩,q1l (q0p o4 E46) (E13.size),E06⟩
  · rintro q f wr ⟨i,x,hq,hi,f0,f4,f6,f7,f8,D4,D6,o,r7,hE⟩;rw [fold f0,fold f4,fold f6,fold f7,fold f8];have hx1:=q0g (Row.of_own o);(refine q0b<|q0b<|q0a<|m_I rfl<|m_S rfl<|Ls (q0f rfl)<|Ls (q1w rfl rfl)<|q0c<|tn ?_);refine q1b rfl (fun h=>?_) (fun h=>?_)
    · have hlt:i < (cls 0 M.length I).length:=(by omega);obtain ⟨p,hp1⟩:∃ p,(cls 0 M.length I)[i]?=some p:=⟨_,List.getElem?_eq_getElem hlt⟩;obtain ⟨p1,p2,p3⟩:=hcl p (List.mem_of_getElem? hp1);have hnd:nodes[i]?=some (tree nd (((M.drop p.1).take (p.2 - p.1)).map lf)):=by
        rw [hnodes];unfold Mk.opening Mk.hashes;rw [List.getElem?_map,hp1];show some (tree nd (((M.map lf).drop p.1).take (p.2 - p.1)))=_;rw [List.map_take,List.map_drop]
      obtain ⟨d,hd⟩:∃ d,d=tree nd (((M.drop p.1).take (p.2 - p.1)).map lf):=⟨_,rfl⟩;have hml:((M.drop p.1).take (p.2 - p.1)).length=p.2 - p.1:=(by rw [List.length_take,List.length_drop];omega);have hd32:d.length=32:=by
        rw [hd];exact (q3p _ (q3w _) (by rw [List.length_map];omega)).1
      obtain ⟨b7,c7',e7,hb7,hl7,hc7,_⟩:=q7x r7 (by omega);cases e7
      have hR7:=q4o r7;have hpart:∀ y,Ext wr y→q2f N y .u8 (.slice (some ⟨b0,o0+p.1 * 1,none⟩) (p.2 - p.1) (c - p.1)) ((M.drop p.1).take (p.2 - p.1)):=fun y E=>z1r (hr.ext (hE.trans E)) (by omega) (by omega) ⟨by omega,by omega⟩;(refine q0q<|tn<|q0b<|q0h ?_);apply q1h 16 (by kernel_rfl);repeat (first | ((with_reducible apply q2h);(first | apply DW_x (fun r w hA hH=>(q0d (v:=.int _ _) rfl).trans rfl) | apply DW_x (fun r w hA hH=>(q0d (v:=.slice _ _ _) rfl).trans rfl))) | ((with_reducible apply q7i);apply DW_x (fun r w hA hH=>(q0i rfl).trans rfl)) | ((with_reducible apply q2j);(first | apply DW_x (fun r w hA hH=>(X_ld rfl (D6.ext hA) rfl).trans rfl) | apply DW_x (fun r w hA hH=>(q1v rfl (hA.range hR7) (j:=i * 2) (by omega) (mxs_get hp1).1).trans rfl) | apply DW_x (fun r w hA hH=>(q1v rfl (hA.range hR7) (j:=i * 2+1) (by omega) (mxs_get hp1).2).trans rfl))) | ((with_reducible apply q3x);apply DW_x (fun r w hA hH=>(q0n rfl rfl (by omega)).trans rfl)))
      ((with_reducible apply DW_x);(exact fun r w hA hH=>(X_slice2p (size:=1) p.1 p.2 rfl rfl rfl rfl rfl (by omega) (by omega) (by omega)).trans rfl))
      ((with_reducible apply q1x);(exact fun _=>rfl);(exact fun _=>rfl);(exact fun r w hA hH=>(by
        have h:=z3t N ((M.drop p.1).take (p.2 - p.1)).length _ ((M.drop p.1).take (p.2 - p.1)) (Nat.le_refl _) (by omega) (by omega) ((hb.drop _).take _) w (hpart w hA)
        rw [← hd] at h
        exact h)))
      ((with_reducible apply DW_d (F:=fun r v w=>RowF wr 32 v 1 (ints .u8 d) w));(exact fun r w hA hH=>X_litA (z:=List.replicate 32 (.int .u8 0)) rfl (by rw [q0o,hd32];rfl) rfl hA.size);(exact fun _ _ u w w' _ _ hR h=>RowF.ext hR h);(exact fun _ _=>rfl));((with_reducible exact q1p);(exact rfl);(repeat (first | exact .inr (.inr (fun _ _=>by with_reducible rfl)) | (refine And.intro ?_ ?_) | exact .inr (.inl rfl) | exact .inl (by decide +kernel) | exact trivial | exact .inr (.inr (fun _ _=>rfl))));(try dsimp only [Nat.reduceAdd]));intro r z1 F1 H1;obtain ⟨l9,h9,hl9,r9⟩:RowF wr 32 (r 15) 1 (ints .u8 d) z1:=H1 15;refine q1n (v:=x) (u:=r 15) rfl rfl (q0p o F1) r9 q1c (by omega) (by omega) (by have:=hE.size;have:=F1.size;omega) ?_;intro v2 z2 o2 hg2 hb2;have G6:=(D6.ext F1).grown hg2 (fun h=>by
        obtain ⟨_,cs,fz,e⟩:=q1g o g6 h
        exact q2p D6 e (by decide))
      have G4:=(D4.ext F1).grown hg2 (fun h=>by
        obtain ⟨_,cs,fz,e⟩:=q1g o g4 h
        exact q2p D4 e (by decide))
      have G7:=q1i (q0p r7 F1) hg2 (fun q hq h=>by
        obtain ⟨_,cs,fz,e⟩:=q1g (q0p o F1) q h
        obtain ⟨_,cs',fz',e'⟩:=q1g (q0p r7 F1) q hq
        rw [e] at e'
        cases e')
      have hv2:=q0g (Row.of_own o2);have hE2:Ext w z2:=(hE.trans F1).then hg2 (fun q hq=>(q1g o q hq).1);(refine Ls (q0i rfl) ?_);refine q1m (v:=v2) rfl rfl hv2 G6 (by simp) ?_;intro z3 G6' hg3 hs3;(refine q0c<|bn<|tn<|q0a<|m_I rfl<|Ls (q1e rfl rfl (by omega))<|a_I rfl<|q0c<|tn ?_);refine ⟨nodes.length - (i+1),by omega,i+1,v2,rfl,by omega,rfl,rfl,rfl,rfl,rfl,G4.grown hg3 (by simp;omega),G6',?_,q1i G7 hg3 (fun q hq h=>?_),hE2.then hg3 (fun g h=>by cases h;have:=E13.size;have:=E4.size;omega)⟩
      · rw [List.take_add_one,hnd,← hd];have:=q1i o2 hg3 (fun q hq h=>by
          obtain rfl:g6=q:=Option.some.inj h
          obtain ⟨_,cs,fz,e⟩:=q1g o2 g6 hq
          exact q2p G6 e (by decide))
        rw [show nodes.take i++(some d).toList=nodes.take i++[d] from rfl,z2d,z4k];exact this
      · obtain rfl:g6=q:=Option.some.inj h;obtain ⟨_,cs,fz,e⟩:=q1g G7 g6 hq;exact q2p G6 e (by decide)
    · have hil:i=nodes.length:=(by omega);rw [hil,List.take_length] at o;(refine q1j<|te<|te<|bx<|tn<|q0b<|q0a<|Ls (q1a (cs:=[x]) rfl D6 rfl) ?_);refine q0j (l:=[x]) rfl rfl rfl (fun y hy=>by rw [List.mem_singleton.1 hy];exact hx1) D4 rfl ?_;intro y2 D4' hg4' hs4';(refine a_I rfl<|q0c<|tn<|q0r ?_);refine q0y rfl rfl (Res.cellA inferInstance rfl (D4'.range (fun j u h=>by simpa using h)) rfl (Res.tmp rfl .nil)) ?_;refine ⟨x,rfl,hE.then hg4' (fun g h=>by cases h;omega),q1i o hg4' (fun q hq h=>?_)⟩;obtain rfl:g4=q:=Option.some.inj h;obtain ⟨_,cs,fz,e⟩:=q1g o g4 hq;exact q2p D4 e (by decide)
end Go.Proofs.YtpohjepbmgeplaaGreatDoor
namespace Go.Proofs.YtpohjepbmgeplaaGreatDoor
open Go.RowKit Go.Proofs.K
open _root_.Mk (spl q2s q3m cls q5j q5i q4p posOf rref okR)
structure Opd (w:World) (il ih:Nat) (NN:Nat→Prop) (iv bv nv cv:Value) (I:List Nat) (bs ns:List (List Nat)) (c:List (Nat × Nat)):Prop where
  i:Row w il ih 1 iv I.length (ints .i64 I)
  b:q2f NN w .u8 bv bs
  n:RowN NN w 32 nv ns.length (dgs ns)
  c:RowN NN w 2 cv c.length (mxs c)
theorem Opd.ext {w w':World} {il ih:Nat} {NN:Nat→Prop} {iv bv nv cv:Value} {I:List Nat} {bs ns:List (List Nat)} {c:List (Nat × Nat)} (h:Opd w il ih NN iv bv nv cv I bs ns c) (E:Ext w w'):Opd w' il ih NN iv bv nv cv I bs ns c:=⟨h.i.ext E,h.b.ext E,h.n.ext E,h.c.ext E⟩
def opC (iv bv nv cv:Value):List Value:=[iv,bv,nv,cv]
theorem dg_at {w:World} {b o:Nat} {l:List (List Nat)} (hok:DgOk l) (hR:w.rangeAt b o (dgs l)) {i:Nat} {d:List Nat} (hd:l[i]?=some d):w.rangeAt b (o+i * 32) (ints .u8 d):=by
  have hi:i < l.length:=(List.getElem?_eq_some_iff.1 hd).1;obtain ⟨h1,h2⟩:=z2c hok (k:=i) (by omega);have e:l.drop i=d :: l.drop (i+1):=by
    rw [List.drop_eq_getElem_cons hi];rw [List.getElem?_eq_getElem hi] at hd;rw [Option.some.inj hd]
  refine q6l hR fun j u hu=>?_;rw [h1,List.getElem?_append_right (by omega),h2,show i * 32+j - i * 32=j by omega,e,show dgs (d :: l.drop (i+1))=ints .u8 d++dgs (l.drop (i+1)) from rfl,List.getElem?_append_left (List.getElem?_eq_some_iff.1 hu).1];exact hu
theorem inn_zero (I:List Nat) (lo:Nat):inn I 0 lo=I.filter fun i=>Nat.blt i lo:=by
  unfold inn;refine List.filter_congr fun i _=>?_;rw [Bool.eq_iff_iff];simp only [Bool.and_eq_true,Nat.blt_eq,Nat.ble_eq];omega
theorem bel_lt {I:List Nat} {lo:Nat} (h:lo∈I):(I.filter fun i=>Nat.blt i lo).length < I.length:=by
  rcases Nat.lt_or_ge (I.filter fun i=>Nat.blt i lo).length I.length with h1 | h1
  · exact h1
  · have:=List.filter_eq_self.1 (List.Sublist.eq_of_length_le List.filter_sublist h1) lo h;rw [Nat.blt_eq] at this;omega
structure Nod (c:List (Nat × Nat)) (I:List Nat) (lo hi:Nat):Prop where
  h:∃ a b,c=a++cls lo hi (inn I lo hi)++b∧(∀ p∈a,p.2≤lo∧p.1 < p.2)∧(∀ p∈b,hi≤p.1∧p.1 < p.2)
theorem Nod.split {c:List (Nat × Nat)} {I:List Nat} {lo k hi:Nat} (h:Nod c I lo hi) (h2:2≤hi - lo) (h0:inn I lo hi ≠ []) (hk:k=lo+spl (hi - lo)):Nod c I lo k∧Nod c I k hi:=by
  obtain ⟨a,b,hc,ha,hb⟩:=h;have hs1:=q3m h2;have hs0:=q2s (hi - lo);obtain ⟨f1,f2⟩:=inn_lo (I:=I) (lo:=lo) (k:=k) (hi:=hi) (by omega) (by omega);have hcl:=q4p h2 h0;rw [← hk,f1,f2] at hcl;have inA:=Mk.cls_in (k - lo+1) lo k (inn I lo k) (by omega) (by omega);have inB:=Mk.cls_in (hi - k+1) k hi (inn I k hi) (by omega) (by omega);refine ⟨⟨a,cls k hi (inn I k hi)++b,by rw [hc,hcl];simp,ha,fun p hp=>?_⟩,⟨a++cls lo k (inn I lo k),b,by rw [hc,hcl];simp,fun p hp=>?_,hb⟩⟩
  · rcases List.mem_append.1 hp with hp | hp
    · have:=inB p hp;omega
    · have:=hb p hp;omega
  · rcases List.mem_append.1 hp with hp | hp
    · have:=ha p hp;omega
    · have:=inA p hp;omega
theorem Nod.pos {c:List (Nat × Nat)} {I:List Nat} {lo hi:Nat} (h:Nod c I lo hi) (hlo:lo < hi) (hn:posOf c (lo,hi)=none):inn I lo hi ≠ []:=by
  obtain ⟨a,b,hc,ha,hb⟩:=h;intro h0;have hna:(lo,hi) ∉ a:=fun h=>by have:=ha _ h;dsimp only at this;omega
  rw [hc,h0,q5j,List.append_assoc,show [(lo,hi)]++b=(lo,hi) :: b from rfl,Mk.pos_some hna] at hn;cases hn
def rrefU (c:List (Nat × Nat)) (ns:List (List Nat)) (I:List Nat) (bs:List (List Nat)) (F lo hi:Nat):Option Nat→List Nat
  | some i=>ns.getD i []
  | none=>bif Nat.ble (hi - lo) 1 then lf (bs.getD (I.filter fun i=>Nat.blt i lo).length []) else nd (rref lf nd c ns I bs F lo (lo+spl (hi - lo))) (rref lf nd c ns I bs F (lo+spl (hi - lo)) hi)
theorem rref_u (c:List (Nat × Nat)) (ns:List (List Nat)) (I:List Nat) (bs:List (List Nat)) (F lo hi:Nat):rref lf nd c ns I bs (F+1) lo hi=rrefU c ns I bs F lo hi (posOf c (lo,hi)):=by
  show (match posOf c (lo,hi) with | some i=>ns.getD i [] | none=>_)=_;cases posOf c (lo,hi) <;> rfl
set_option maxRecDepth 100000 in
set_option maxHeartbeats 8000000 in
theorem z3o {il ih:Nat} {NN:Nat→Prop} {iv bv nv cv:Value} {I:List Nat} {bs ns:List (List Nat)} {c:List (Nat × Nat)} (hIl:I.length≤65536) (hbl:bs.length=I.length) (hb:BsOk bs) (hn:DgOk ns) (hnc:ns.length=c.length) (hcl:c.length≤65536) :
    ∀ (F lo hi:Nat) (_:hi - lo < F) (_:lo < hi) (_:hi≤65536) (_:Nod c I lo hi) (w:World) (_:Opd w il ih NN iv bv nv cv I bs ns c),
    Calls Tryz.prog 140 #[.agg (opC iv bv nv cv).toArray,.int .i64 (lo:Nat),.int .i64 (hi:Nat)] w fun e w'=>e=.returned (.agg (ints .u8 (rref lf nd c ns I bs F lo hi)).toArray)∧((rref lf nd c ns I bs F lo hi).length=32∧Sha.bytesOk (rref lf nd c ns I bs F lo hi))∧Ext w w'
  | 0,_,_,h,_,_,_,_,_=>by omega
  | F+1,lo,hi,hF,hlo,hh,hN,w,hO=>by
    obtain ⟨An,cn,rfl,hnc1,hnc2⟩:=hO.n.form;obtain ⟨Ab,cb,rfl,hbc1,hbc2⟩:=hO.b.form;obtain ⟨Ac,cc,rfl,hcc1,hcc2⟩:=hO.c.form;have hi1:=q0g hO.i;refine q0k Tryz.func140 rfl Tryz.ntmps140 rfl ?_;(refine q0b<|q0a ?_);refine q1t rfl ?_;intro g3 w1 B3 hg3 E1 hs1;refine q0w ?_;intro g6 w2 B6 hg6 E2 hs2;have C3:Blk w2 g3 189 [iv,.slice Ab bs.length cb,.slice An ns.length cn,.slice Ac c.length cc]:=B3.ext E2;have E12:=E1.trans E2;have O2:=hO.ext E12;have hfrst:∀ (k:Option Nat),posOf c (lo,hi)=k→∀ j p,c[j]?=some p→(∀ k',k=some k'→j < k')→¬ (p.1=lo∧p.2=hi):=by
      intro k hk j p hp hj h;have hjl:=(List.getElem?_eq_some_iff.1 hp).1;have hpe:c[j]=p:=(by rw [List.getElem?_eq_getElem hjl] at hp;exact Option.some.inj hp);unfold Mk.posOf at hk;cases k with
      | none =>
        rw [List.findIdx?_eq_none_iff] at hk;have:=hk c[j] (List.getElem_mem _);rw [hpe] at this;simp [h.1,h.2] at this
      | some k =>
        obtain ⟨_,_,h3⟩:=List.findIdx?_eq_some_iff_getElem.1 hk;have:=h3 j (hj k rfl);simp [hpe,h.1,h.2] at this
    have hsome:∀ k,posOf c (lo,hi)=some k→c[k]?=some (lo,hi):=by
      intro k hk;unfold Mk.posOf at hk;obtain ⟨h1,h2,_⟩:=List.findIdx?_eq_some_iff_getElem.1 hk;rw [List.getElem?_eq_getElem h1];simp only [Bool.and_eq_true,beq_iff_eq] at h2;exact congrArg some (Prod.ext h2.1 h2.2)
    obtain ⟨P,hP⟩:∃ P,P=posOf c (lo,hi):=⟨_,rfl⟩;have hfrst:=hfrst P hP.symm;have hsome:∀ k,P=some k→c[k]?=some (lo,hi):=fun k hk=>hsome k (by rw [← hP];exact hk);have hPl:∀ k,P=some k→k < c.length:=fun k hk=>(List.getElem?_eq_some_iff.1 (hsome k hk)).1;obtain ⟨z,hz⟩:∃ z,z=rref lf nd c ns I bs (F+1) lo hi:=⟨_,rfl⟩;rw [← hz];have hzu:z=rrefU c ns I bs F lo hi P:=(by rw [hz,rref_u,← hP]);(refine q0c<|tn<|q0b<|q0b<|q0a<|a_I rfl<|q0c<|tn<|q0h ?_);refine q1k (fun q f w'=>∃ i,q=c.length - i∧i≤c.length∧(∀ k,P=some k→i≤k)∧f 1=.int .i64 (lo:Nat)∧f 2=.int .i64 (hi:Nat)∧f 3=.pointer (some ⟨g3,0,none⟩)∧f 6=.pointer (some ⟨g6,0,none⟩)∧f 7=.int .i64 (i:Nat)∧w'=w2) c.length ?_ ?_
    · exact ⟨0,rfl,by omega,fun _ _=>by omega,rfl,rfl,rfl,rfl,rfl,rfl⟩
    · rintro q f wr ⟨i,hq,hi',hPi,f1,f2,f3,f6,f7,rfl⟩;rw [fold f1,fold f2,fold f3,fold f6,fold f7];(refine q0b<|q0b<|q0a<|m_I rfl<|Ls (q0i rfl)<|Ls (X_ld rfl C3 rfl)<|Ls (q0f rfl)<|Ls (q1w rfl rfl)<|q0c<|tn ?_);refine q1b rfl (fun h=>?_) (fun h=>?_)
      · have hlt:i < c.length:=(by omega);obtain ⟨p,hp⟩:∃ p,c[i]?=some p:=⟨_,List.getElem?_eq_getElem hlt⟩;obtain ⟨b7,o7,c7,e7,_,_,_,hR7⟩:=O2.c.at hlt;cases e7
        obtain ⟨m1,m2⟩:=mxs_get hp;by_cases hpi:P=some i
        · obtain rfl:p=(lo,hi):=by
            have:=hsome i hpi;rw [hp] at this;exact Option.some.inj this
          have hni:i < ns.length:=(by omega);obtain ⟨d,hd⟩:∃ d,ns[i]?=some d:=⟨_,List.getElem?_eq_getElem hni⟩;obtain ⟨bn,on,cn',en,_,_,_,hRn⟩:=O2.n.at hni;cases en
          have hzd:z=d:=by
            rw [hzu,hpi];show ns.getD i []=d;rw [List.getD_eq_getElem?_getD,hd];rfl
          have hdo:=hn d (List.mem_of_getElem? hd);(refine q0q<|tn<|q0b<|q0h<|q0b<|q0a<|Ls (q0i rfl)<|Ls (X_ld rfl C3 rfl)<|m_I rfl<|Ls (q0n rfl rfl (by omega))<|Ls (q0i rfl)<|Ls (q1v rfl hR7 (j:=i * 2) (by omega) m1)<|m_I rfl<|Ls (q2b rfl rfl (by omega))<|m_B rfl<|Lg2 rfl rfl rfl (q0i rfl)<|Lg2 rfl rfl rfl (X_ld rfl C3 rfl)<|Lg2 rfl rfl rfl (q0d (v:=.int _ _) rfl)<|Lg2 rfl rfl rfl (q0n rfl rfl (by omega))<|Lg2 rfl rfl rfl (q0i rfl)<|Lg2 rfl rfl rfl (q1v rfl hR7 (j:=i * 2+1) (by omega) m2)<|Lg2 rfl rfl rfl (q0d (v:=.int _ _) rfl)<|Lg2 rfl rfl rfl (q2b rfl rfl (by omega))<|Ls (q0v (v:=.bool _) rfl rfl)<|q0c<|tn<|q0z rfl<|q0b<|q0a<|Ls (q0i rfl)<|Ls (q0i rfl)<|Ls (X_ld rfl C3 rfl)<|m_I rfl<|Ls (q0n rfl rfl (by omega))<|Ls (q2q (size:=32) (cs:=ints .u8 d) rfl (dg_at hn hRn hd) (by rw [q0o];exact hdo.1)) ?_);rw [hzd];refine q0j (size:=32) (l:=ints .u8 d) rfl rfl (by rw [q0o];exact hdo.1) q1c B6 rfl ?_;intro w8 B8 hg8 _;(refine q0c<|tn<|q0r<|br<|tr<|tr<|br<|tr ?_);refine q0y rfl rfl (Res.cellA inferInstance rfl (B8.range (fun j u h=>by simpa using h)) (by rw [q0o];exact hdo.1) .nil) ?_;exact ⟨rfl,hdo,E12.then hg8 (fun g h=>by cases h;omega)⟩
        · have hPi':∀ k,P=some k→i+1≤k:=fun k hk=>by
            have:=hPi k hk;rcases Nat.lt_or_ge i k with h | h
            · omega
            · exact (hpi (by rw [hk];congr 1;omega)).elim
          have hne:=hfrst i p hp fun k hk=>hPi' k hk;by_cases hp1:p.1=lo
          · have hp2:p.2 ≠ hi:=fun h=>hne ⟨hp1,h⟩;(refine q0q<|tn<|q0b<|q0h<|q0b<|q0a<|Ls (q0i rfl)<|Ls (X_ld rfl C3 rfl)<|m_I rfl<|Ls (q0n rfl rfl (by omega))<|Ls (q0i rfl)<|Ls (q1v rfl hR7 (j:=i * 2) (by omega) m1)<|m_I rfl<|Ls (q2b rfl rfl (by omega))<|m_B rfl<|Lg2 rfl rfl rfl (q0i rfl)<|Lg2 rfl rfl rfl (X_ld rfl C3 rfl)<|Lg2 rfl rfl rfl (q0d (v:=.int _ _) rfl)<|Lg2 rfl rfl rfl (q0n rfl rfl (by omega))<|Lg2 rfl rfl rfl (q0i rfl)<|Lg2 rfl rfl rfl (q1v rfl hR7 (j:=i * 2+1) (by omega) m2)<|Lg2 rfl rfl rfl (q0d (v:=.int _ _) rfl)<|Lg2 rfl rfl rfl (q2g rfl rfl (by omega))<|Ls (q0v (v:=.bool _) rfl rfl)<|q0c<|tn<|q0x rfl<|q0q<|bn<|tn<|q0a<|m_I rfl<|Ls (q1e rfl rfl (by omega))<|a_I rfl<|q0c<|tn ?_);exact ⟨c.length - (i+1),by omega,i+1,rfl,by omega,hPi',rfl,rfl,rfl,rfl,rfl,rfl⟩
          · (refine q0q<|tn<|q0b<|q0h<|q0b<|q0a<|Ls (q0i rfl)<|Ls (X_ld rfl C3 rfl)<|m_I rfl<|Ls (q0n rfl rfl (by omega))<|Ls (q0i rfl)<|Ls (q1v rfl hR7 (j:=i * 2) (by omega) m1)<|m_I rfl<|Ls (q2g rfl rfl (by omega))<|m_B rfl<|Lo2 rfl rfl rfl rfl<|Lo2 rfl rfl rfl rfl<|Lo2 rfl rfl rfl rfl<|Lo2 rfl rfl rfl rfl<|Lo2 rfl rfl rfl rfl<|Lo2 rfl rfl rfl rfl<|Lo2 rfl rfl rfl rfl<|Lo2 rfl rfl rfl rfl<|Ls (q0s (v:=.bool _) rfl rfl)<|q0c<|tn<|q0x rfl<|q0q<|bn<|tn<|q0a<|m_I rfl<|Ls (q1e rfl rfl (by omega))<|a_I rfl<|q0c<|tn ?_);exact ⟨c.length - (i+1),by omega,i+1,rfl,by omega,hPi',rfl,rfl,rfl,rfl,rfl,rfl⟩
      · have hil:i=c.length:=(by omega);have hPn:P=none:=by
          cases hPP:P with
          | none=>rfl
          | some k=>have:=hPl k hPP;have:=hPi k hPP;omega
        rw [hPn] at hzu;unfold rrefU at hzu;have h0:=hN.pos hlo (by rw [← hP,hPn]);by_cases h1:hi - lo≤1
        · have hmem:lo∈I:=by
            obtain ⟨x,hx⟩:=List.exists_mem_of_ne_nil _ h0;obtain ⟨q1,q2⟩:=List.mem_filter.1 hx;have:=(inn_bit lo hi x).1 q2;obtain rfl:x=lo:=(by omega);exact q1
          have hbel:=bel_lt hmem;obtain ⟨y,hy⟩:∃ y,y=(I.filter fun i=>Nat.blt i lo).length:=⟨_,rfl⟩;rw [← hy] at hbel hzu;obtain ⟨d,hd⟩:∃ d,bs[y]?=some d:=⟨_,List.getElem?_eq_getElem (by omega)⟩;obtain ⟨bb,ob,x,eb,_,_,_,_,hx,hx1,xl,xh,_,rx⟩:=q7w O2.b hd;cases eb
          have hzd:z=lf d:=by
            rw [hzu];show (bif Nat.ble (hi - lo) 1 then _ else _)=_;rw [Nat.ble_eq_true_of_le h1];show lf (bs.getD y [])=_;rw [List.getD_eq_getElem?_getD,hd];rfl
          have hdo:=hb d (List.mem_of_getElem? hd);(refine q1j<|te<|te<|bx<|tn<|q0b<|q0b<|q0a<|m_I rfl<|m_I rfl<|Ls (q2d rfl rfl (by omega))<|Ls (q2b rfl rfl (by omega))<|q0c<|tn<|q0z rfl<|q0b ?_);apply q1h 8 (by kernel_rfl);(apply DW_x (fun r w hA hH=>(q0i rfl).trans rfl);apply DW_x (fun r w hA hH=>(q0i rfl).trans rfl);apply DW_x (fun r w hA hH=>(X_ld rfl (C3.ext hA) rfl).trans rfl);apply DW_x (fun r w hA hH=>(q0i rfl).trans rfl);apply DW_x (fun r w hA hH=>(q0i rfl).trans rfl);apply DW_x (fun r w hA hH=>(X_ld rfl (C3.ext hA) rfl).trans rfl);apply DW_x (fun r w hA hH=>(q0d (v:=.int _ _) rfl).trans rfl));((with_reducible apply q1x);(exact fun _=>rfl);(exact fun _=>rfl);(exact fun r w hA hH=>rwithin 0 lo il ih iv I hIl w (O2.i.ext hA)));((with_reducible exact q1p);(exact rfl);(repeat (first | exact .inr (.inr (fun _ _=>by with_reducible rfl)) | (refine And.intro ?_ ?_) | exact .inr (.inl rfl) | exact .inl (by decide +kernel) | exact trivial | exact .inr (.inr (fun _ _=>rfl))));(try dsimp only [Nat.reduceAdd]));intro r w3 E3 _;rw [inn_zero,← hy];(refine Ls (q0n rfl rfl (by omega))<|Ls (q7n rfl (E3.cell hx)) ?_);refine L_fv rfl (rleaf xl xh x d hdo.1 hdo.2 w3 (rx.ext E3)) ?_;intro w4 E4;refine q0j (size:=32) (l:=ints .u8 (lf d)) rfl rfl (by rw [q0o];exact q7g _) q1c (B6.ext (E3.trans E4)) rfl ?_;intro w8 B8 hg8 _;(refine q0c<|tn<|q0r<|tr ?_);refine q0y rfl rfl (Res.cellA inferInstance rfl (B8.range (fun j u h=>by simpa using h)) (by rw [q0o];exact q7g _) .nil) ?_;rw [hzd];exact ⟨rfl,⟨q7g _,lf_ok _⟩,(E12.trans (E3.trans E4)).then hg8 (fun g h=>by cases h;omega)⟩
        · have h2:2≤hi - lo:=(by omega);have hs1':=q3m h2;have hs0:=q2s (hi - lo);obtain ⟨k,hk⟩:∃ k,k=lo+spl (hi - lo):=⟨_,rfl⟩;obtain ⟨N1,N2⟩:=hN.split h2 h0 hk;have hzd:z=nd (rref lf nd c ns I bs F lo k) (rref lf nd c ns I bs F k hi):=by
            rw [hzu,hk];show (bif Nat.ble (hi - lo) 1 then _ else _)=_;have hbf:Nat.ble (hi - lo) 1=false:=by
              cases hb1:Nat.ble (hi - lo) 1
              · rfl
              · exact (h1 (Nat.le_of_ble_eq_true hb1)).elim
            rw [hbf];rfl
          have ia:=fun y (hy:Opd y il ih NN iv (.slice Ab bs.length cb) (.slice An ns.length cn) (.slice Ac c.length cc) I bs ns c)=>z3o hIl hbl hb hn hnc hcl F lo k (by omega) (by omega) (by omega) N1 y hy;have ib:=fun y (hy:Opd y il ih NN iv (.slice Ab bs.length cb) (.slice An ns.length cn) (.slice Ac c.length cc) I bs ns c)=>z3o hIl hbl hb hn hnc hcl F k hi (by omega) (by omega) hh N2 y hy;generalize rref lf nd c ns I bs F lo k=za at ia hzd;generalize rref lf nd c ns I bs F k hi=zb at ib hzd;(refine q1j<|te<|te<|bx<|tn<|q0b<|q0b<|q0a<|m_I rfl<|m_I rfl<|Ls (X_subn rfl rfl ⟨by omega,by omega⟩)<|Ls (q2g rfl rfl (by omega))<|q0c<|tn<|q0x rfl<|q0q<|tn<|q0b<|q0a<|m_I rfl<|m_I rfl<|m_I rfl<|Ls (X_subn rfl rfl ⟨by omega,by omega⟩) ?_);refine L_fv rfl (rsplit h2 (by omega) wr) ?_;intro w3 E3;(refine Ls (X_addn rfl rfl (by omega))<|a_I rfl<|q0c<|tn<|q0b ?_);rw [← hk];have C3':=C3.ext E3;have O3:=O2.ext E3;skip;apply q1h 8 (by kernel_rfl);(apply DW_x (fun r w hA hH=>(q1a (cs:=opC iv _ _ _) rfl (C3'.ext hA) rfl).trans rfl);apply DW_x (fun r w hA hH=>(q0d (v:=.int _ _) rfl).trans rfl);apply DW_x (fun r w hA hH=>(q0d (v:=.int _ _) rfl).trans rfl));((with_reducible apply q4y (F:=fun v w'=>v=.agg (ints .u8 za).toArray∧za.length=32∧Sha.bytesOk za));(exact fun _=>rfl);(exact fun _=>rfl);(exact fun r w hA hH=>(ia w (O3.ext hA)).mono fun e w' ⟨h1,h2,h3⟩=>⟨_,h1,h3,rfl,h2⟩);(exact fun i u w w' hi ht hR h=>h));(apply DW_x (fun r w hA hH=>(q1a (cs:=opC iv _ _ _) rfl (C3'.ext hA) rfl).trans rfl);apply DW_x (fun r w hA hH=>(q0d (v:=.int _ _) rfl).trans rfl);apply DW_x (fun r w hA hH=>(q0d (v:=.int _ _) rfl).trans rfl));((with_reducible apply q4y (F:=fun v w'=>v=.agg (ints .u8 zb).toArray∧zb.length=32∧Sha.bytesOk zb));(exact fun _=>rfl);(exact fun _=>rfl);(exact fun r w hA hH=>(ib w (O3.ext hA)).mono fun e w' ⟨h1,h2,h3⟩=>⟨_,h1,h3,rfl,h2⟩);(exact fun i u w w' hi ht hR h=>h));((with_reducible exact q1p);(exact rfl);(repeat (first | exact .inr (.inr (fun _ _=>by with_reducible rfl)) | (refine And.intro ?_ ?_) | exact .inr (.inl rfl) | exact .inl (by decide +kernel) | exact trivial | exact .inr (.inr (fun _ _=>rfl))));(try dsimp only [Nat.reduceAdd]));intro r w4 E4 H4;obtain ⟨ra,la,oa⟩:r 3=.agg (ints .u8 za).toArray∧za.length=32∧Sha.bytesOk za:=H4 3;obtain ⟨rb,lb,ob⟩:r 7=.agg (ints .u8 zb).toArray∧zb.length=32∧Sha.bytesOk zb:=H4 7;rw [ra,rb];refine L_fv rfl (rpair za zb oa ob la lb w4) ?_;intro w5 E5;have Ex:=E3.trans (E4.trans E5);refine q0j (size:=32) (l:=ints .u8 (nd za zb)) rfl rfl (by rw [q0o];exact q5z _ _) q1c (B6.ext Ex) rfl ?_;intro w8 B8 hg8 _;(refine q0c<|tn<|q0r ?_);refine q0y rfl rfl (Res.cellA inferInstance rfl (B8.range (fun j u h=>by simpa using h)) (by rw [q0o];exact q5z _ _) .nil) ?_;rw [hzd];exact ⟨rfl,⟨q5z _ _,nd_ok _ _⟩,(E12.trans Ex).then hg8 (fun g h=>by cases h;omega)⟩
end Go.Proofs.YtpohjepbmgeplaaGreatDoor
namespace Go.Proofs.YtpohjepbmgeplaaGreatDoor
open Go.RowKit Go.Proofs.K
open _root_.Mk (cls rref okR)
section
variable {n:NN} {f:Fr} {w:World} {d:Option Tmp} {t:TypeId} {pos:String} {af:Array Edge} {g:Option (Nat × Bool)} {x y z:Operand}
theorem X_mkOpd {iv bv nv cv:Value} (hi:iv.oneCell'=true) (hb:bv.oneCell'=true) (hn:nv.oneCell'=true) (hc:cv.oneCell'=true) (hx:ev n f x=.agg #[iv,bv]) (hy:ev n f y=.agg #[nv]) (hz:ev n f z=cv) :
    X Tryz.prog n ⟨d,.build 189 #[(0,x),(1,y),(2,z)],t,pos,af,g⟩ f w=.ok (.value (.agg (opC iv bv nv cv).toArray)) w:=by
  have:=q3d (P:=Tryz.prog) (ty:=189) (n:=n) (f:=f) (w:=w) (d:=d) (t:=t) (pos:=pos) (af:=af) (g:=g) (Parts.cons (i:=0) (c:=[iv,bv]) (z:=[.slice none 0 0,.slice none 0 0]) hx rfl rfl rfl (Parts.cons (i:=1) (c:=[nv]) (z:=[.slice none 0 0]) hy rfl rfl rfl (Parts.cons (i:=2) (c:=[cv]) (z:=[.slice none 0 0]) hz (one_cells hc) rfl rfl (Parts.nil _))));exact this
end
set_option maxRecDepth 100000 in
set_option maxHeartbeats 4000000 in
theorem r8verify {n:Nat} (h1:1≤n) (hn:n≤65536) (rt:List Nat) (hrt:rt.length=32) (hrt8:Sha.bytesOk rt) (bl bh:Nat) (iv bv nv:Value) (I:List Nat) (bs ns:List (List Nat)) (hp:I.Pairwise (· < ·)) (hin:∀ i∈I,i < n) (hbl:bs.length=I.length) (hb:BsOk bs) (hnk:DgOk ns)
    (w:World) (hri:Row w bl bh 1 iv I.length (ints .i64 I)) (hrb:q2f (fun _=>True) w .u8 bv bs) (hrn:RowN (fun _=>True) w 32 nv ns.length (dgs ns)) :
    Calls Tryz.prog 85 #[.agg (ints .u8 rt).toArray,.int .i64 (n:Nat),.agg #[iv,bv],.agg #[nv]] w fun e w'=>e=.returned (.int .i64 (if okR lf nd n I bs ns rt then 0 else 80))∧Ext w w':=by
  have hIl:I.length≤65536:=by
    have:=q4z hp (lo:=0) (hi:=n) fun i h=>⟨Nat.zero_le _,hin i h⟩;omega
  have hcn:=z0e (n+1) 0 n I (by omega) (by omega);have hinn:inn I 0 n=I:=Mk.filt_all hin;obtain ⟨Ai,ci,rfl⟩:∃ A c,iv=.slice A I.length c:=by
    obtain ⟨_,A,c,rfl,_⟩:=hri;exact ⟨A,c,rfl⟩
  obtain ⟨Ab,cb,rfl,_⟩:=hrb.form;obtain ⟨An,cn,rfl,_⟩:=hrn.form;refine q0k Tryz.func85 rfl Tryz.ntmps85 rfl ?_;(refine q0b<|q0a ?_);refine q1t rfl ?_;intro g4 w1 B4 hg4 E1 hs1;refine q1t (l:=[.slice Ai I.length ci,.slice Ab bs.length cb]) rfl ?_;intro g6 w2 B6 hg6 E2 hs2;refine q1t (l:=[.slice An ns.length cn]) rfl ?_;intro g7 w3 B7 hg7 E3 hs3;have C4:=B4.ext (E2.trans E3);have C6:=B6.ext E3;have E13:=E1.trans (E2.trans E3);(refine a_I rfl<|q0c<|tn<|q0b<|q0b<|q0a<|m_I rfl<|Ls (q2i rfl rfl (by omega))<|m_B rfl<|Lg2 rfl rfl rfl (q0i rfl)<|Lg2 rfl rfl rfl (X_ld rfl C6 rfl)<|Lg2 rfl rfl rfl (q0d (v:=.int _ _) rfl) ?_);refine q1z rfl rfl rfl ?_;refine L_fv rfl (rincr hn bl bh _ I hin hp hIl w3 (hri.ext E13)) ?_;intro w4 E4;have C4:=C4.ext E4;have C6:=C6.ext E4;have C7:=B7.ext E4;(refine Lg2 rfl rfl rfl (q1s rfl)<|Ls (q0s (v:=.bool _) rfl rfl)<|m_B rfl<|Lg2 rfl rfl rfl (q0i rfl)<|Lg2 rfl rfl rfl (X_ld rfl C6 rfl)<|Lg2 rfl rfl rfl (q0f rfl)<|Lg2 rfl rfl rfl (q0i rfl)<|Lg2 rfl rfl rfl (X_ld rfl C6 rfl)<|Lg2 rfl rfl rfl (q0f rfl)<|Lg2 rfl rfl rfl (q2l rfl rfl (by omega))<|Ls (q0s (v:=.bool _) rfl rfl)<|q0c<|tn<|q0x rfl<|q0q<|tn<|q0b<|q0b<|q0a<|m_I rfl ?_);refine L_fv rfl (rsize h1 hn w4) ?_;intro w5 E5;have C4:=C4.ext E5;have C6:=C6.ext E5;have C7:=C7.ext E5;(refine Ls (z2s rfl rfl)<|q0c<|tn ?_);refine q0x rfl ?_;(refine q0q<|tn<|q0b<|q0a<|Ls (q0i rfl)<|Ls (X_ld rfl C6 rfl)<|m_I rfl ?_);have E15:=E13.trans (E4.trans E5);refine L_fo rfl (z3u bl bh _ I hIl (n+1) 0 n (by omega) (by omega) hn w5 (hri.ext E15)) ?_;rintro q w6 ⟨E6,o6⟩;rw [hinn] at o6;have C4:=C4.ext E6;have C6:=C6.ext E6;have C7:=C7.ext E6;have E16:=E15.trans E6;obtain ⟨Ac,cc,rfl⟩:∃ A c,q=.slice A (cls 0 n I).length c:=by
    obtain ⟨_,A,c,rfl,_⟩:=Row.of_own o6;exact ⟨A,c,rfl⟩
  (refine a_S rfl<|q0c<|tn<|q0b<|q0b ?_);by_cases hl:ns.length=(cls 0 n I).length
  · have hN:Nod (cls 0 n I) I 0 n:=⟨[],[],by rw [hinn];simp,(fun _ h=>by cases h),(fun _ h=>by cases h)⟩;have hO:∀ y,Ext w6 y→Opd y bl bh (fun _=>True) (.slice Ai I.length ci) (.slice Ab bs.length cb) (.slice An ns.length cn) (.slice Ac (cls 0 n I).length cc) I bs ns (cls 0 n I):=fun y E=>⟨hri.ext (E16.trans E),hrb.ext (E16.trans E),hrn.ext (E16.trans E),(RowN.ofAny (Row.of_own o6)).ext E⟩;obtain ⟨z,hz⟩:∃ z,z=rref lf nd (cls 0 n I) ns I bs (n+1) 0 n:=⟨_,rfl⟩;have hreb:=fun y (E:Ext w6 y)=>z3o hIl hbl hb hnk hl (by omega) (n+1) 0 n (by omega) (by omega) hn hN y (hO y E);rw [← hz] at hreb;have hok:okR lf nd n I bs ns rt↔z=rt:=by
      unfold Mk.okR;rw [← hz];exact ⟨fun h=>h.2,fun h=>⟨hl,h⟩⟩
    apply q1h 14 (by kernel_rfl);(apply DW_x (fun r w hA hH=>(q0i rfl).trans rfl);apply DW_x (fun r w hA hH=>(X_ld rfl (C7.ext hA) rfl).trans rfl);apply DW_x (fun r w hA hH=>(q0f rfl).trans rfl);apply DW_x (fun r w hA hH=>(q0d (v:=.slice _ _ _) rfl).trans rfl);apply DW_x (fun r w hA hH=>(q0f rfl).trans rfl);apply DW_x (fun r w hA hH=>(q2l rfl rfl (by omega)).trans rfl);apply DW_x (fun r w hA hH=>(q0d (v:=.bool _) rfl).trans rfl));((with_reducible apply q0m);(exact rfl);(exact rfl);(exact fun _=>rfl);(exact fun r w hA hH=>(q1a (cs:=[Value.slice Ai I.length ci,.slice Ab bs.length cb]) rfl (C6.ext hA) rfl).trans rfl));((with_reducible apply q0m);(exact rfl);(exact rfl);(exact fun _=>rfl);(exact fun r w hA hH=>(q1a (cs:=[Value.slice An ns.length cn]) rfl (C7.ext hA) rfl).trans rfl));(apply q0m rfl rfl (fun _=>rfl) (fun r w hA hH=>(q0d (v:=.slice _ _ _) rfl).trans rfl));((with_reducible apply q0m);(exact rfl);(exact rfl);(exact fun _=>rfl);(exact fun r w hA hH=>(X_mkOpd rfl rfl rfl rfl rfl rfl rfl).trans rfl));(apply q0m rfl rfl (fun _=>rfl) (fun r w hA hH=>(q0d (v:=.int _ _) rfl).trans rfl));((with_reducible apply DW_fo2 (F:=fun v w'=>v=.agg (ints .u8 z).toArray∧z.length=32∧Sha.bytesOk z));(exact rfl);(exact rfl);(exact fun _=>rfl);(exact fun _=>rfl);(exact fun r w hA hH=>(hreb w hA).mono fun e w' ⟨h1,h2,h3⟩=>⟨_,h1,h3,rfl,h2⟩);(exact fun i u w w' hi ht hR h=>h));((with_reducible apply q0m);(exact rfl);(exact rfl);(exact fun _=>rfl);(exact fun r w hA hH=>(q1a (cs:=ints .u8 rt) rfl (C4.ext hA) (by rw [q0o];exact hrt)).trans rfl));((with_reducible exact q1p);(exact rfl);(repeat (first | exact .inr (.inr (fun _ _=>by with_reducible rfl)) | (refine And.intro ?_ ?_) | exact .inr (.inl rfl) | exact .inl (by decide +kernel) | exact trivial | exact .inr (.inr (fun _ _=>rfl))));(try dsimp only [Nat.reduceAdd]));intro r w7 E7 H7;obtain ⟨r12,lz,oz⟩:r 12=.agg (ints .u8 z).toArray∧z.length=32∧Sha.bytesOk z:=H7 12;rw [r12];by_cases hzr:z=rt
    · rw [if_pos (hok.2 hzr)];(refine Lg2 rfl rfl rfl ((X_neqD lz hrt oz hrt8 rfl rfl).trans (by rw [decide_eq_false (fun h=>h hzr)]))<|Ls (q0s (v:=.bool _) rfl rfl)<|q0c<|tn<|q0x rfl<|q0q<|tn<|q0b<|q0a<|a_I rfl<|q0c<|tn<|q0r ?_);exact q0e rfl rfl (v:=.int _ _) rfl ⟨rfl,E16.trans E7⟩
    · rw [if_neg (fun h=>hzr (hok.1 h))];(refine Lg2 rfl rfl rfl ((X_neqD lz hrt oz hrt8 rfl rfl).trans (by rw [decide_eq_true hzr]))<|Ls (q0s (v:=.bool _) rfl rfl)<|q0c<|tn<|q0z rfl<|q0b<|q0a<|a_I rfl<|q0c<|tn<|q0r<|tr ?_);exact q0e rfl rfl (v:=.int _ _) rfl ⟨rfl,E16.trans E7⟩
  · have hno:¬ okR lf nd n I bs ns rt:=fun h=>hl h.1;rw [if_neg hno];apply q1h 16 (by kernel_rfl);(apply DW_x (fun r w hA hH=>(q0i rfl).trans rfl);apply DW_x (fun r w hA hH=>(X_ld rfl (C7.ext hA) rfl).trans rfl);apply DW_x (fun r w hA hH=>(q0f rfl).trans rfl);apply DW_x (fun r w hA hH=>(q0d (v:=.slice _ _ _) rfl).trans rfl);apply DW_x (fun r w hA hH=>(q0f rfl).trans rfl);apply DW_x (fun r w hA hH=>(q3h rfl rfl (by omega)).trans rfl);apply DW_x (fun r w hA hH=>(q0d (v:=.bool _) rfl).trans rfl);apply q1y rfl rfl (fun _=>rfl) rfl;apply q1y rfl rfl (fun _=>rfl) rfl;apply q1y rfl rfl (fun _=>rfl) rfl;apply q1y rfl rfl (fun _=>rfl) rfl;apply q1y rfl rfl (fun _=>rfl) rfl;apply q1y rfl rfl (fun _=>rfl) rfl;apply q1y rfl rfl (fun _=>rfl) rfl;apply q1y rfl rfl (fun _=>rfl) rfl;apply DW_x (fun r w hA hH=>(q0v (v:=.bool _) rfl rfl).trans rfl));((with_reducible exact q1p);(exact rfl);(repeat (first | exact .inr (.inr (fun _ _=>by with_reducible rfl)) | (refine And.intro ?_ ?_) | exact .inr (.inl rfl) | exact .inl (by decide +kernel) | exact trivial | exact .inr (.inr (fun _ _=>rfl))));(try dsimp only [Nat.reduceAdd]));intro r w7 E7 _;(refine q0c<|tn<|q0z rfl<|q0b<|q0a<|a_I rfl<|q0c<|tn<|q0r<|tr ?_);exact q0e rfl rfl (v:=.int _ _) rfl ⟨rfl,E16.trans E7⟩
end Go.Proofs.YtpohjepbmgeplaaGreatDoor
namespace Go.Proofs.YtpohjepbmgeplaaGreatDoor
open Go.RowKit Go.Proofs.K
open _root_.Fd (K E pw root)
open _root_.Cm (Sh)
def lgI (n:Int):Int:=if n=((2 ^ Nat.log2 n.toNat:Nat):Int) then ((Nat.log2 n.toNat:Nat):Int) else -1
theorem q5f (a:Nat):lgI ((2 ^ a:Nat):Int)=a:=by
  unfold lgI;rw [Int.toNat_natCast,Nat.log2_two_pow,if_pos rfl]
theorem z0r {n:Int} (h:0≤lgI n):∃ a:Nat,lgI n=a∧n=((2 ^ a:Nat):Int):=by
  unfold lgI at h ⊢;split
  · exact ⟨_,rfl,by assumption⟩
  · rename_i hn;rw [if_neg hn] at h;omega
theorem lgI_neg {n:Int} (h:n < 1):lgI n=-1:=by
  unfold lgI;rw [if_neg];have:0 < 2 ^ Nat.log2 n.toNat:=Nat.pow_pos (by decide);omega
theorem lgI_bd {n:Int} (h:n≤9223372036854775807):-1≤lgI n∧lgI n≤62:=by
  unfold lgI;split
  · rename_i hn;have:Nat.log2 n.toNat < 63:=by
      rcases Nat.lt_or_ge (Nat.log2 n.toNat) 63 with h1 | h1
      · exact h1
      · have:2 ^ 63≤2 ^ Nat.log2 n.toNat:=Nat.pow_le_pow_right (by decide) h1;omega
    omega
  · omega
theorem and_pred {n:Nat} (h:1≤n):n &&& (n - 1)=0↔n=2 ^ Nat.log2 n:=by
  constructor
  · intro h0;have h1:=Nat.log2_self_le (n:=n) (by omega);have h2:=Nat.lt_log2_self (n:=n);rcases Nat.lt_or_ge (2 ^ Nat.log2 n) n with h3 | h3
    · exfalso;have hb:∀ m,2 ^ Nat.log2 n≤m→m < 2 ^ (Nat.log2 n+1)→m.testBit (Nat.log2 n)=true:=fun m hm1 hm2=>by
        rw [Nat.testBit_eq_decide_div_mod_eq,decide_eq_true_eq];have:m / 2 ^ Nat.log2 n=1:=by
          rw [Nat.pow_succ] at hm2;exact Nat.div_eq_of_lt_le (by omega) (by omega)
        rw [this]
      have:=congrArg (Nat.testBit · (Nat.log2 n)) h0;simp only [Nat.testBit_and,Nat.zero_testBit] at this;rw [hb n h1 h2,hb (n - 1) (by omega) (by omega)] at this;cases this
    · omega
  · intro he;rw [he,Nat.and_two_pow_sub_one_eq_mod,Nat.mod_self]
theorem bits_i64_and (a b:Nat) (ha:a < 9223372036854775808) (hb:b < 9223372036854775808):bits .and .i64 (a:Int) (b:Int)=((a &&& b:Nat):Int):=by
  show IntKind.i64.wrap ((BitVec.ofInt 64 (a:Int) &&& BitVec.ofInt 64 (b:Int)).toNat:Int)=_;rw [BitVec.toNat_and,BitVec.ofInt_natCast,BitVec.ofInt_natCast,BitVec.toNat_ofNat,BitVec.toNat_ofNat,Nat.mod_eq_of_lt (by omega),Nat.mod_eq_of_lt (by omega),q5g];have:=Nat.and_lt_two_pow (n:=63) a (y:=b) (by omega);omega
set_option maxHeartbeats 1000000 in
theorem gcpow (n:Int) (h0:-9223372036854775808≤n) (h1:n≤9223372036854775807) (w:World) :
    Calls Tryz.prog 59 #[.int .i64 n] w fun e w'=>e=.returned (.int .i64 (lgI n))∧Ext w w':=by
  refine q0k Tryz.func59 rfl Tryz.ntmps59 rfl ?_;by_cases hn:n < 1
  · rw [lgI_neg hn];(refine q0b<|q0a<|a_I rfl<|q0c<|tn<|q0b<|q0b<|q0a<|m_I rfl<|Ls (q9j rfl rfl (by omega))<|m_B rfl<|Lo2 rfl rfl rfl rfl<|Lo2 rfl rfl rfl rfl<|Lo2 rfl rfl rfl rfl<|Lo2 rfl rfl rfl rfl<|Lo2 rfl rfl rfl rfl<|Ls (q0v (v:=.bool _) rfl rfl)<|q0c<|tn<|q0z rfl<|q0b<|q0a<|a_I rfl<|q0c<|tn<|q0r<|tr ?_);exact q0e rfl rfl (v:=.int _ _) rfl ⟨rfl,Ext.refl _⟩
  · obtain ⟨m,rfl⟩:∃ m:Nat,n=m:=⟨n.toNat,by omega⟩;have hm:1≤m:=(by omega);have ha:bits .and .i64 (m:Int) ((m:Int) - 1)=((m &&& (m - 1):Nat):Int):=by
      rw [show (m:Int) - 1=((m - 1:Nat):Int) by omega,bits_i64_and _ _ (by omega) (by omega)]
    have hp:=and_pred hm;by_cases h2:m=2 ^ Nat.log2 m
    · have hz:m &&& (m - 1)=0:=hp.2 h2;rw [hz] at ha;have hl:lgI (m:Int)=(Nat.log2 m:Nat):=by
        unfold lgI;rw [Int.toNat_natCast,if_pos (by omega)]
      rw [hl];(refine q0b<|q0a<|a_I rfl<|q0c<|tn<|q0b<|q0b<|q0a<|m_I rfl<|Ls (q2i rfl rfl (by omega))<|m_B rfl<|Lg2 rfl rfl rfl (q0d (v:=.int _ _) rfl)<|Lg2 rfl rfl rfl (q0d (v:=.int _ _) rfl)<|Lg2 rfl rfl rfl (q2d rfl rfl (by omega))<|Lg2 rfl rfl rfl ((q5m rfl rfl).trans (by rw [ha]))<|Lg2 rfl rfl rfl (q2l rfl rfl (by omega))<|Ls (q0s (v:=.bool _) rfl rfl)<|q0c<|tn<|q0x rfl<|q0q<|tn<|q0b<|q0a<|m_I rfl<|Ls (q2y rfl) ?_);rw [show IntKind.u64.wrap (m:Int)=(m:Int) by rw [IntKind.wrap_u64];omega];refine L_fv rfl ((Tryz.bits_Len (m:Int) w (by omega) (by omega)).mono fun _ _ q=>⟨q.1,q.2 ▸ Ext.refl _⟩) ?_;intro w1 E1;have hlog:Nat.log2 m < 63:=(Nat.log2_lt (by omega)).2 (by omega);rw [Int.toNat_natCast,z3d (by omega) (by omega)];(refine Ls (q2d rfl rfl (by omega))<|a_I rfl<|q0c<|tn<|q0r ?_);refine q0e rfl rfl (v:=.int _ _) rfl ⟨?_,E1⟩;rw [show (((Nat.log2 m+1:Nat):Int) - 1)=((Nat.log2 m:Nat):Int) by omega]
    · have hz:m &&& (m - 1) ≠ 0:=fun h=>h2 (hp.1 h);obtain ⟨y,hy⟩:∃ y,m &&& (m - 1)=y+1:=⟨(m &&& (m - 1)) - 1,by omega⟩;rw [hy] at ha;have hl:lgI (m:Int)=-1:=by
        unfold lgI;rw [Int.toNat_natCast,if_neg (by omega)]
      rw [hl];(refine q0b<|q0a<|a_I rfl<|q0c<|tn<|q0b<|q0b<|q0a<|m_I rfl<|Ls (q2i rfl rfl (by omega))<|m_B rfl<|Lg2 rfl rfl rfl (q0d (v:=.int _ _) rfl)<|Lg2 rfl rfl rfl (q0d (v:=.int _ _) rfl)<|Lg2 rfl rfl rfl (q2d rfl rfl (by omega))<|Lg2 rfl rfl rfl ((q5m rfl rfl).trans (by rw [ha]))<|Lg2 rfl rfl rfl (q3h rfl rfl (by omega))<|Ls (q0s (v:=.bool _) rfl rfl)<|q0c<|tn<|q0z rfl<|q0b<|q0a<|a_I rfl<|q0c<|tn<|q0r<|tr ?_);exact q0e rfl rfl (v:=.int _ _) rfl ⟨rfl,Ext.refl _⟩
structure SOk (R C B T log:Int):Prop where
  l0:0≤log
  l16:log≤16
  r:0≤lgI R
  c:0≤lgI C
  s:lgI R+lgI C=log
  b:B=2∨B=4∨B=8∨B=16
  n:B * C≤65536
  t1:1≤T
  t64:T≤64
  tn:T≤B * C
def I64 (n:Int):Prop:=-9223372036854775808≤n∧n≤9223372036854775807
def shC (R C B T:Int):List Value:=[.int .i64 R,.int .i64 C,.int .i64 B,.int .i64 T]
theorem q4e {R C B T:Int}:∀ v∈shC R C B T,v.oneCell'=true:=by
  intro v hv;rcases List.mem_cons.1 hv with rfl | hv
  · rfl
  · rcases List.mem_cons.1 hv with rfl | hv
    · rfl
    · rcases List.mem_cons.1 hv with rfl | hv
      · rfl
      · rcases List.mem_cons.1 hv with rfl | hv
        · rfl
        · cases hv
theorem col_bd {R C log:Int} (hl:log≤16) (hr:0≤lgI R) (hc:0≤lgI C) (hs:lgI R+lgI C=log):1≤C∧C≤65536∧1≤R∧R≤65536:=by
  obtain ⟨a,ha,rfl⟩:=z0r hr;obtain ⟨c,hc',rfl⟩:=z0r hc;rw [ha,hc'] at hs;have:=q1f (a:=a) (by omega);have:=q1f (a:=c) (by omega);omega
theorem mul_bd {B C:Int} (hb:B=2∨B=4∨B=8∨B=16) (hc:1≤C∧C≤65536):1≤B * C∧B * C≤1048576:=by
  rcases hb with rfl | rfl | rfl | rfl <;> omega
set_option maxRecDepth 100000 in
set_option maxHeartbeats 4000000 in
theorem z4g (R C B T log:Int) (hR:I64 R) (hC:I64 C) (hB:I64 B) (hT:I64 T) (hlog:I64 log) (w:World) :
    Calls Tryz.prog 20 #[.agg (shC R C B T).toArray,.int .i64 log] w fun e w'=>∃ b:Bool,e=.returned (.bool b)∧(b=true↔SOk R C B T log)∧Ext w w':=by
  obtain ⟨l1,l2⟩:=hlog;obtain ⟨t1,t2⟩:=hT;have br:=lgI_bd hR.2;have bc:=lgI_bd hC.2;refine q0k Tryz.func20 rfl Tryz.ntmps20 rfl ?_;(refine q0b<|q0a ?_);refine q1t rfl ?_;intro g2 w1 B2 hg2 E1 hs1;(refine a_B rfl<|q0c<|tn<|q0b ?_);apply q1h 5 (by kernel_rfl);(apply DW_x (fun r w hA hH=>(q0i rfl).trans rfl);apply DW_x (fun r w hA hH=>(X_ld (cs:=shC R C B T) rfl (B2.ext hA) rfl).trans rfl));((with_reducible apply q1x);(exact fun _=>rfl);(exact fun _=>rfl);(exact fun r w hA hH=>gcpow R hR.1 hR.2 w));(apply DW_x (fun r w hA hH=>(q0i rfl).trans rfl);apply DW_x (fun r w hA hH=>(X_ld (cs:=shC R C B T) rfl (B2.ext hA) rfl).trans rfl));((with_reducible exact q1p);(exact rfl);(repeat (first | exact .inr (.inr (fun _ _=>by with_reducible rfl)) | (refine And.intro ?_ ?_) | exact .inr (.inl rfl) | exact .inl (by decide +kernel) | exact trivial | exact .inr (.inr (fun _ _=>rfl))));(try dsimp only [Nat.reduceAdd]));intro r0 w2 E2 _;refine L_fv rfl (gcpow C hC.1 hC.2 w2) ?_;intro w3 E3;have C2:=B2.ext (E2.trans E3);have E13:=E1.trans (E2.trans E3);generalize hlr:lgI R=lr at br ⊢;generalize hlc:lgI C=lc at bc ⊢;by_cases h1:log < 0
  · (refine a_I rfl<|a_I rfl<|q0c<|tn<|q0b<|q0b<|q0a<|m_I rfl<|Ls (q9j rfl rfl (by omega))<|m_B rfl<|Lo2 rfl rfl rfl rfl<|Lo2 rfl rfl rfl rfl<|Ls (q0v (v:=.bool _) rfl rfl)<|m_B rfl<|Lo2 rfl rfl rfl rfl<|Lo2 rfl rfl rfl rfl<|Ls (q0v (v:=.bool _) rfl rfl)<|m_B rfl<|Lo2 rfl rfl rfl rfl<|Lo2 rfl rfl rfl rfl<|Ls (q0v (v:=.bool _) rfl rfl)<|m_B rfl<|Lo2 rfl rfl rfl rfl<|Lo2 rfl rfl rfl rfl<|Lo2 rfl rfl rfl rfl<|Lo2 rfl rfl rfl rfl<|Lo2 rfl rfl rfl rfl<|Ls (q0v (v:=.bool _) rfl rfl)<|m_B rfl<|Lo2 rfl rfl rfl rfl<|Lo2 rfl rfl rfl rfl<|Lo2 rfl rfl rfl rfl<|Lo2 rfl rfl rfl rfl<|Lo2 rfl rfl rfl rfl<|Ls (q0v (v:=.bool _) rfl rfl)<|q0c<|tn<|q0z rfl<|q0b<|q0a<|a_B rfl<|q0c<|tn<|q0r<|tr ?_);exact q0e rfl rfl (v:=.bool _) rfl ⟨false,rfl,⟨(fun h=>by cases h),fun h=>by have:=h.l0;omega⟩,E13⟩
  by_cases h2:16 < log
  · (refine a_I rfl<|a_I rfl<|q0c<|tn<|q0b<|q0b<|q0a<|m_I rfl<|Ls (q2i rfl rfl (by omega))<|m_B rfl<|Lg2 rfl rfl rfl (q0d (v:=.int _ _) rfl)<|Lg2 rfl rfl rfl (q4q rfl rfl (by omega))<|Ls (q0s (v:=.bool _) rfl rfl)<|m_B rfl<|Lo2 rfl rfl rfl rfl<|Lo2 rfl rfl rfl rfl<|Ls (q0v (v:=.bool _) rfl rfl)<|m_B rfl<|Lo2 rfl rfl rfl rfl<|Lo2 rfl rfl rfl rfl<|Ls (q0v (v:=.bool _) rfl rfl)<|m_B rfl<|Lo2 rfl rfl rfl rfl<|Lo2 rfl rfl rfl rfl<|Lo2 rfl rfl rfl rfl<|Lo2 rfl rfl rfl rfl<|Lo2 rfl rfl rfl rfl<|Ls (q0v (v:=.bool _) rfl rfl)<|m_B rfl<|Lo2 rfl rfl rfl rfl<|Lo2 rfl rfl rfl rfl<|Lo2 rfl rfl rfl rfl<|Lo2 rfl rfl rfl rfl<|Lo2 rfl rfl rfl rfl<|Ls (q0v (v:=.bool _) rfl rfl)<|q0c<|tn<|q0z rfl<|q0b<|q0a<|a_B rfl<|q0c<|tn<|q0r<|tr ?_);exact q0e rfl rfl (v:=.bool _) rfl ⟨false,rfl,⟨(fun h=>by cases h),fun h=>by have:=h.l16;omega⟩,E13⟩
  by_cases h3:lr < 0
  · (refine a_I rfl<|a_I rfl<|q0c<|tn<|q0b<|q0b<|q0a<|m_I rfl<|Ls (q2i rfl rfl (by omega))<|m_B rfl<|Lg2 rfl rfl rfl (q0d (v:=.int _ _) rfl)<|Lg2 rfl rfl rfl (q3a rfl rfl (by omega))<|Ls (q0s (v:=.bool _) rfl rfl)<|m_B rfl<|Lg2 rfl rfl rfl (q0d (v:=.int _ _) rfl)<|Lg2 rfl rfl rfl (q9j rfl rfl (by omega))<|Ls (q0s (v:=.bool _) rfl rfl)<|m_B rfl<|Lo2 rfl rfl rfl rfl<|Lo2 rfl rfl rfl rfl<|Ls (q0v (v:=.bool _) rfl rfl)<|m_B rfl<|Lo2 rfl rfl rfl rfl<|Lo2 rfl rfl rfl rfl<|Lo2 rfl rfl rfl rfl<|Lo2 rfl rfl rfl rfl<|Lo2 rfl rfl rfl rfl<|Ls (q0v (v:=.bool _) rfl rfl)<|m_B rfl<|Lo2 rfl rfl rfl rfl<|Lo2 rfl rfl rfl rfl<|Lo2 rfl rfl rfl rfl<|Lo2 rfl rfl rfl rfl<|Lo2 rfl rfl rfl rfl<|Ls (q0v (v:=.bool _) rfl rfl)<|q0c<|tn<|q0z rfl<|q0b<|q0a<|a_B rfl<|q0c<|tn<|q0r<|tr ?_);exact q0e rfl rfl (v:=.bool _) rfl ⟨false,rfl,⟨(fun h=>by cases h),fun h=>by have:=h.r;omega⟩,E13⟩
  by_cases h4:lc < 0
  · (refine a_I rfl<|a_I rfl<|q0c<|tn<|q0b<|q0b<|q0a<|m_I rfl<|Ls (q2i rfl rfl (by omega))<|m_B rfl<|Lg2 rfl rfl rfl (q0d (v:=.int _ _) rfl)<|Lg2 rfl rfl rfl (q3a rfl rfl (by omega))<|Ls (q0s (v:=.bool _) rfl rfl)<|m_B rfl<|Lg2 rfl rfl rfl (q0d (v:=.int _ _) rfl)<|Lg2 rfl rfl rfl (q2i rfl rfl (by omega))<|Ls (q0s (v:=.bool _) rfl rfl)<|m_B rfl<|Lg2 rfl rfl rfl (q0d (v:=.int _ _) rfl)<|Lg2 rfl rfl rfl (q9j rfl rfl (by omega))<|Ls (q0s (v:=.bool _) rfl rfl)<|m_B rfl<|Lo2 rfl rfl rfl rfl<|Lo2 rfl rfl rfl rfl<|Lo2 rfl rfl rfl rfl<|Lo2 rfl rfl rfl rfl<|Lo2 rfl rfl rfl rfl<|Ls (q0v (v:=.bool _) rfl rfl)<|m_B rfl<|Lo2 rfl rfl rfl rfl<|Lo2 rfl rfl rfl rfl<|Lo2 rfl rfl rfl rfl<|Lo2 rfl rfl rfl rfl<|Lo2 rfl rfl rfl rfl<|Ls (q0v (v:=.bool _) rfl rfl)<|q0c<|tn<|q0z rfl<|q0b<|q0a<|a_B rfl<|q0c<|tn<|q0r<|tr ?_);exact q0e rfl rfl (v:=.bool _) rfl ⟨false,rfl,⟨(fun h=>by cases h),fun h=>by have:=h.c;omega⟩,E13⟩
  by_cases h5:lr+lc=log
  · have hcb:=col_bd (R:=R) (C:=C) (log:=log) (by omega) (by omega) (by omega) (by omega);(refine a_I rfl<|a_I rfl<|q0c<|tn<|q0b<|q0b<|q0a<|m_I rfl<|Ls (q2i rfl rfl (by omega))<|m_B rfl<|Lg2 rfl rfl rfl (q0d (v:=.int _ _) rfl)<|Lg2 rfl rfl rfl (q3a rfl rfl (by omega))<|Ls (q0s (v:=.bool _) rfl rfl)<|m_B rfl<|Lg2 rfl rfl rfl (q0d (v:=.int _ _) rfl)<|Lg2 rfl rfl rfl (q2i rfl rfl (by omega))<|Ls (q0s (v:=.bool _) rfl rfl)<|m_B rfl<|Lg2 rfl rfl rfl (q0d (v:=.int _ _) rfl)<|Lg2 rfl rfl rfl (q2i rfl rfl (by omega))<|Ls (q0s (v:=.bool _) rfl rfl)<|m_B rfl<|Lg2 rfl rfl rfl (q0d (v:=.int _ _) rfl)<|Lg2 rfl rfl rfl (q0d (v:=.int _ _) rfl)<|Lg2 rfl rfl rfl (q1e rfl rfl (by omega))<|Lg2 rfl rfl rfl (q0d (v:=.int _ _) rfl)<|Lg2 rfl rfl rfl (q2l rfl rfl (by omega))<|Ls (q0s (v:=.bool _) rfl rfl)<|m_B rfl ?_);refine q1z rfl rfl rfl ?_;refine L_lits (z:=[.int .i64 0]) (zs':=[[.int .i64 2],[.int .i64 4],[.int .i64 8],[.int .i64 16]]) (cs:=ints .i64 [2,4,8,16]) (len:=4) ?_ rfl rfl rfl rfl ?_
    · repeat (first | exact Parts.nil _ | refine Parts.cons rfl rfl rfl rfl ?_)
    intro q w4 r4 E4 hs4 o4 hq;subst hq;have C2:=C2.ext E4;have hct:∀ w5,w5=w4→Calls Tryz.prog 71 #[.slice (some ⟨w3.heap.size,0,none⟩) 4 4,.int .i64 B] w5 fun e w'=>e=.returned (.bool (decide (B=2∨B=4∨B=8∨B=16)))∧Ext w5 w':=by
      rintro w5 rfl;have h:=Tryz.slices_Contains_int w3.heap.size 0 4 4 [2,4,8,16] B w5 (by decide) (by decide) (fun j hj=>q4o o4 j _ (by
        match j,hj with
        | 0,_=>rfl
        | 1,_=>rfl
        | 2,_=>rfl
        | 3,_=>rfl))
      refine h.mono fun e w' ⟨h1,h2⟩=>⟨?_,by rw [h2];exact Ext.refl _⟩;rw [h1];congr 2;rw [Bool.eq_iff_iff];simp
    (refine Lg2 rfl rfl rfl (q0i rfl)<|Lg2 rfl rfl rfl (X_ld (cs:=shC R C B T) rfl C2 rfl) ?_);refine q1z rfl rfl rfl ?_;refine L_fv rfl (hct w4 rfl) ?_;intro w5 E5;have C2:=C2.ext E5;have E15:=E13.trans (E4.trans E5);by_cases h6:B=2∨B=4∨B=8∨B=16
    · rw [decide_eq_true h6];have hmb:=mul_bd h6 ⟨hcb.1,hcb.2.1⟩;by_cases h7:B * C≤65536
      · by_cases h8:1≤T
        · (refine Lg2 rfl rfl rfl (q1s rfl)<|Ls (q0s (v:=.bool _) rfl rfl)<|q0c<|tn<|q0x rfl<|q0q<|tn<|q0b<|q0a<|Ls (q0i rfl)<|Ls (X_ld (cs:=shC R C B T) rfl C2 rfl)<|Ls (q0i rfl)<|Ls (X_ld (cs:=shC R C B T) rfl C2 rfl)<|Ls (q2a rfl rfl ⟨by omega,by omega⟩)<|a_I rfl<|q0c<|tn<|q0b<|q0a<|m_I rfl<|Ls (q7o rfl rfl (by omega))<|m_B rfl<|Lg2 rfl rfl rfl (q0i rfl)<|Lg2 rfl rfl rfl (X_ld (cs:=shC R C B T) rfl C2 rfl)<|Lg2 rfl rfl rfl (q7o rfl rfl (by omega))<|Ls (q0v (v:=.bool _) rfl rfl)<|m_B rfl<|Lg2 rfl rfl rfl (q0i rfl)<|Lg2 rfl rfl rfl (X_ld (cs:=shC R C B T) rfl C2 rfl)<|Lg2 rfl rfl rfl (q0d (v:=.int _ _) rfl)<|Lg2 rfl rfl rfl ((X_min rfl rfl).trans (by rfl))<|Lg2 rfl rfl rfl (X_leq rfl rfl)<|Ls (q0v (v:=.bool _) rfl rfl)<|a_B rfl<|q0c<|tn<|q0r ?_);refine q0e rfl rfl (v:=.bool _) rfl ⟨_,rfl,?_,E15⟩;rw [decide_eq_true_eq];constructor
          · intro h;refine ⟨by omega,by omega,by omega,by omega,by omega,h6,h7,h8,?_,?_⟩
            · split at h <;> omega
            · split at h <;> omega
          · intro h;have:=h.t64;have:=h.tn;split <;> omega
        · (refine Lg2 rfl rfl rfl (q1s rfl)<|Ls (q0s (v:=.bool _) rfl rfl)<|q0c<|tn<|q0x rfl<|q0q<|tn<|q0b<|q0a<|Ls (q0i rfl)<|Ls (X_ld (cs:=shC R C B T) rfl C2 rfl)<|Ls (q0i rfl)<|Ls (X_ld (cs:=shC R C B T) rfl C2 rfl)<|Ls (q2a rfl rfl ⟨by omega,by omega⟩)<|a_I rfl<|q0c<|tn<|q0b<|q0a<|m_I rfl<|Ls (q7o rfl rfl (by omega))<|m_B rfl<|Lg2 rfl rfl rfl (q0i rfl)<|Lg2 rfl rfl rfl (X_ld (cs:=shC R C B T) rfl C2 rfl)<|Lg2 rfl rfl rfl (z3g rfl rfl (by omega))<|Ls (q0v (v:=.bool _) rfl rfl)<|m_B rfl<|Lo2 rfl rfl rfl rfl<|Lo2 rfl rfl rfl rfl<|Lo2 rfl rfl rfl rfl<|Lo2 rfl rfl rfl rfl<|Lo2 rfl rfl rfl rfl<|Ls (q0s (v:=.bool _) rfl rfl)<|a_B rfl<|q0c<|tn<|q0r ?_);exact q0e rfl rfl (v:=.bool _) rfl ⟨false,rfl,⟨(fun h=>by cases h),fun h=>(h8 h.t1).elim⟩,E15⟩
      · (refine Lg2 rfl rfl rfl (q1s rfl)<|Ls (q0s (v:=.bool _) rfl rfl)<|q0c<|tn<|q0x rfl<|q0q<|tn<|q0b<|q0a<|Ls (q0i rfl)<|Ls (X_ld (cs:=shC R C B T) rfl C2 rfl)<|Ls (q0i rfl)<|Ls (X_ld (cs:=shC R C B T) rfl C2 rfl)<|Ls (q2a rfl rfl ⟨by omega,by omega⟩)<|a_I rfl<|q0c<|tn<|q0b<|q0a<|m_I rfl<|Ls (z3g rfl rfl (by omega))<|m_B rfl<|Lo2 rfl rfl rfl rfl<|Lo2 rfl rfl rfl rfl<|Lo2 rfl rfl rfl rfl<|Ls (q0s (v:=.bool _) rfl rfl)<|m_B rfl<|Lo2 rfl rfl rfl rfl<|Lo2 rfl rfl rfl rfl<|Lo2 rfl rfl rfl rfl<|Lo2 rfl rfl rfl rfl<|Lo2 rfl rfl rfl rfl<|Ls (q0s (v:=.bool _) rfl rfl)<|a_B rfl<|q0c<|tn<|q0r ?_);exact q0e rfl rfl (v:=.bool _) rfl ⟨false,rfl,⟨(fun h=>by cases h),fun h=>(h7 h.n).elim⟩,E15⟩
    · rw [decide_eq_false h6];(refine Lg2 rfl rfl rfl (q1s rfl)<|Ls (q0s (v:=.bool _) rfl rfl)<|q0c<|tn<|q0z rfl<|q0b<|q0a<|a_B rfl<|q0c<|tn<|q0r<|tr ?_);exact q0e rfl rfl (v:=.bool _) rfl ⟨false,rfl,⟨(fun h=>by cases h),fun h=>(h6 h.b).elim⟩,E15⟩
  · (refine a_I rfl<|a_I rfl<|q0c<|tn<|q0b<|q0b<|q0a<|m_I rfl<|Ls (q2i rfl rfl (by omega))<|m_B rfl<|Lg2 rfl rfl rfl (q0d (v:=.int _ _) rfl)<|Lg2 rfl rfl rfl (q3a rfl rfl (by omega))<|Ls (q0s (v:=.bool _) rfl rfl)<|m_B rfl<|Lg2 rfl rfl rfl (q0d (v:=.int _ _) rfl)<|Lg2 rfl rfl rfl (q2i rfl rfl (by omega))<|Ls (q0s (v:=.bool _) rfl rfl)<|m_B rfl<|Lg2 rfl rfl rfl (q0d (v:=.int _ _) rfl)<|Lg2 rfl rfl rfl (q2i rfl rfl (by omega))<|Ls (q0s (v:=.bool _) rfl rfl)<|m_B rfl<|Lg2 rfl rfl rfl (q0d (v:=.int _ _) rfl)<|Lg2 rfl rfl rfl (q0d (v:=.int _ _) rfl)<|Lg2 rfl rfl rfl (q1e rfl rfl (by omega))<|Lg2 rfl rfl rfl (q0d (v:=.int _ _) rfl)<|Lg2 rfl rfl rfl (q3h rfl rfl (by omega))<|Ls (q0s (v:=.bool _) rfl rfl)<|m_B rfl<|Lo2 rfl rfl rfl rfl<|Lo2 rfl rfl rfl rfl<|Lo2 rfl rfl rfl rfl<|Lo2 rfl rfl rfl rfl<|Lo2 rfl rfl rfl rfl<|Ls (q0v (v:=.bool _) rfl rfl)<|q0c<|tn<|q0z rfl<|q0b<|q0a<|a_B rfl<|q0c<|tn<|q0r<|tr ?_);exact q0e rfl rfl (v:=.bool _) rfl ⟨false,rfl,⟨(fun h=>by cases h),fun h=>by have:=h.s;omega⟩,E13⟩
def p16 (n:Int):Bool:=decide (0≤lgI n∧lgI n≤16)
set_option maxHeartbeats 1000000 in
theorem q6m (n:Int) (hn:I64 n) (w:World) :
    Calls Tryz.prog 72 #[.int .i64 n] w fun e w'=>e=.returned (.bool (p16 n))∧Ext w w':=by
  refine q0k Tryz.func72 rfl Tryz.ntmps72 rfl ?_;(refine q0b<|q0a<|a_B rfl<|q0c<|tn<|q0b<|q0b<|q0a<|a_I rfl<|q0c<|tn<|q0h ?_);refine q1k (fun q f w'=>∃ i:Nat,q=17 - i∧i≤17∧(p16 n=true→(i:Int)≤lgI n)∧f 0=.int .i64 n∧f 3=.int .i64 (i:Nat)∧w'=w) 17 ?_ ?_
  · refine ⟨0,rfl,by omega,fun h=>?_,rfl,rfl,rfl⟩;unfold p16 at h;rw [decide_eq_true_eq] at h;exact h.1
  · rintro q f wr ⟨i,hq,hi,hp,f0,f3,rfl⟩;rw [fold f0,fold f3];(refine q0b<|q0b<|q0a<|m_I rfl<|Ls (X_leq rfl rfl)<|q0c<|tn ?_);refine q1b rfl (fun h=>?_) (fun h=>?_)
    · have hi16:i≤16:=(by omega);(refine q0q<|tn<|q0b<|q0h<|q0b<|q0a<|m_I rfl<|m_I rfl<|Ls ((q5x rfl rfl (by omega)).trans (by rw [q6k (by omega)]))<|Ls (z2m rfl rfl)<|q0c<|tn ?_);refine q1b rfl (fun h2=>?_) (fun h2=>?_)
      · have:p16 n=true:=by
          rw [h2];unfold p16;rw [q5f,decide_eq_true_eq];omega
        rw [this];(refine q0b<|q0a<|a_B rfl<|q0c<|tn<|q0r<|br<|tr<|tr<|br<|tr ?_);exact q0e rfl rfl (v:=.bool _) rfl ⟨rfl,Ext.refl _⟩
      · (refine q0q<|bn<|tn<|q0a<|m_I rfl<|Ls (q1e rfl rfl (by omega))<|a_I rfl<|q0c<|tn ?_);refine ⟨17 - (i+1),by omega,i+1,rfl,by omega,fun hp1=>?_,rfl,rfl,rfl⟩;have h3:=hp hp1;by_cases e:(i:Int)=lgI n
        · obtain ⟨a,ha,hna⟩:=z0r (n:=n) (by omega);have:a=i:=(by omega);rw [this] at hna;exact (h2 hna).elim
        · omega
    · have:p16 n=false:=by
        cases hb:p16 n with
        | false=>rfl
        | true =>
          have h3:=hp hb;unfold p16 at hb;rw [decide_eq_true_eq] at hb;omega
      rw [this];(refine q1j<|te<|te<|bx<|tn<|q0b<|q0a<|a_B rfl<|q0c<|tn<|q0r ?_);exact q0e rfl rfl (v:=.bool _) rfl ⟨rfl,Ext.refl _⟩
theorem p16_true {n:Int} (h:p16 n=true):∃ a:Nat,a≤16∧lgI n=a∧n=((2 ^ a:Nat):Int):=by
  unfold p16 at h;rw [decide_eq_true_eq] at h;obtain ⟨a,h1,h2⟩:=z0r h.1;exact ⟨a,by omega,h1,h2⟩
set_option maxRecDepth 100000 in
set_option maxHeartbeats 4000000 in
theorem rvalid11 (R C B T log:Int) (hR:I64 R) (hC:I64 C) (hB:I64 B) (hT:I64 T) (hlog:I64 log) (w:World) :
    Calls Tryz.prog 21 #[.agg (shC R C B T).toArray,.int .i64 log] w fun e w'=>∃ b:Bool,e=.returned (.bool b)∧(b=true↔SOk R C B T log)∧Ext w w':=by
  obtain ⟨l1,l2⟩:=hlog;obtain ⟨t1,t2⟩:=hT;refine q0k Tryz.func21 rfl Tryz.ntmps21 rfl ?_;(refine q0b<|q0a ?_);refine q1t rfl ?_;intro g2 w1 B2 hg2 E1 hs1;(refine a_B rfl<|q0c<|tn<|q0b<|q0b ?_);by_cases h1:log < 0
  · apply q1h 28 (by kernel_rfl);repeat (first | ((with_reducible apply q2h);((with_reducible apply d_ng);(first | apply DW_x (fun r w hA hH=>(q0d (v:=.int _ _) rfl).trans rfl) | apply DW_x (fun r w hA hH=>(q0d (v:=.bool _) rfl).trans rfl)))) | ((with_reducible apply z4m);((with_reducible apply d_ng);apply DW_x (fun r w hA hH=>(q9j rfl rfl (by omega)).trans rfl))) | ((with_reducible apply q5h);((with_reducible apply d_ng);apply DW_x (fun r w hA hH=>(q0v (v:=.bool _) rfl rfl).trans rfl))) | ((with_reducible apply d_gd);apply q1y rfl rfl (fun _=>rfl) rfl))
    ((with_reducible exact q1p);(exact rfl);(repeat (first | exact .inr (.inr (fun _ _=>by with_reducible rfl)) | (refine And.intro ?_ ?_) | exact .inr (.inl rfl) | exact .inl (by decide +kernel) | exact trivial | exact .inr (.inr (fun _ _=>rfl))));(try dsimp only [Nat.reduceAdd]));intro r0 w2 E2 _;(refine q0c<|tn<|q0z rfl<|q0b<|q0a<|a_B rfl<|q0c<|tn<|q0r<|tr ?_);exact q0e rfl rfl (v:=.bool _) rfl ⟨false,rfl,⟨(fun h=>by cases h),fun h=>by have:=h.l0;omega⟩,E1.trans E2⟩
  by_cases h2:16 < log
  · apply q1h 28 (by kernel_rfl);repeat (first | ((with_reducible apply q2h);(first | ((with_reducible apply d_ng);(first | apply DW_x (fun r w hA hH=>(q0d (v:=.int _ _) rfl).trans rfl) | apply DW_x (fun r w hA hH=>(q0d (v:=.bool _) rfl).trans rfl))) | ((with_reducible apply d_gd);apply q0m rfl rfl (fun _=>rfl) (fun r w hA hH=>(q0d (v:=.int _ _) rfl).trans rfl)))) | ((with_reducible apply z4m);((with_reducible apply d_ng);apply DW_x (fun r w hA hH=>(q2i rfl rfl (by omega)).trans rfl))) | ((with_reducible apply d_gtr);((with_reducible apply d_gd);apply q0m rfl rfl (fun _=>rfl) (fun r w hA hH=>(q4q rfl rfl (by omega)).trans rfl))) | ((with_reducible apply q5h);((with_reducible apply d_ng);(first | apply DW_x (fun r w hA hH=>(q0v (v:=.bool _) rfl rfl).trans rfl) | apply DW_x (fun r w hA hH=>(q0s (v:=.bool _) rfl rfl).trans rfl)))) | ((with_reducible apply d_gd);apply q1y rfl rfl (fun _=>rfl) rfl))
    ((with_reducible exact q1p);(exact rfl);(repeat (first | exact .inr (.inr (fun _ _=>by with_reducible rfl)) | (refine And.intro ?_ ?_) | exact .inr (.inl rfl) | exact .inl (by decide +kernel) | exact trivial | exact .inr (.inr (fun _ _=>rfl))));(try dsimp only [Nat.reduceAdd]));intro r0 w2 E2 _;(refine q0c<|tn<|q0z rfl<|q0b<|q0a<|a_B rfl<|q0c<|tn<|q0r<|tr ?_);exact q0e rfl rfl (v:=.bool _) rfl ⟨false,rfl,⟨(fun h=>by cases h),fun h=>by have:=h.l16;omega⟩,E1.trans E2⟩
  cases h3:p16 R with
  | false =>
    apply q1h 28 (by kernel_rfl);(apply DW_x (fun r w hA hH=>(q0d (v:=.int _ _) rfl).trans rfl);apply DW_x (fun r w hA hH=>(q2i rfl rfl (by omega)).trans rfl);apply DW_x (fun r w hA hH=>(q0d (v:=.bool _) rfl).trans rfl);apply q0m rfl rfl (fun _=>rfl) (fun r w hA hH=>(q0d (v:=.int _ _) rfl).trans rfl);apply q0m rfl rfl (fun _=>rfl) (fun r w hA hH=>(q3a rfl rfl (by omega)).trans rfl);apply DW_x (fun r w hA hH=>(q0s (v:=.bool _) rfl rfl).trans rfl);apply DW_x (fun r w hA hH=>(q0d (v:=.bool _) rfl).trans rfl);apply q0m rfl rfl (fun _=>rfl) (fun r w hA hH=>(q0i rfl).trans rfl);apply q0m rfl rfl (fun _=>rfl) (fun r w hA hH=>(X_ld (cs:=shC R C B T) rfl (B2.ext hA) rfl).trans rfl));((with_reducible apply q2r);(exact rfl);(exact rfl);(exact fun _=>rfl);(exact fun _=>rfl);(exact fun r w hA hH=>q6m R hR w));rw [h3];repeat (first | ((with_reducible apply q2h);((with_reducible apply d_ng);apply DW_x (fun r w hA hH=>(q0d (v:=.bool _) rfl).trans rfl))) | ((with_reducible apply d_unot);((with_reducible apply d_gd);apply q0m rfl rfl (fun _=>rfl) (fun r w hA hH=>(q1s rfl).trans rfl))) | ((with_reducible apply q5h);((with_reducible apply d_ng);(first | apply DW_x (fun r w hA hH=>(q0v (v:=.bool _) rfl rfl).trans rfl) | apply DW_x (fun r w hA hH=>(q0s (v:=.bool _) rfl rfl).trans rfl)))) | ((with_reducible apply d_gd);apply q1y rfl rfl (fun _=>rfl) rfl))
    ((with_reducible exact q1p);(exact rfl);(repeat (first | exact .inr (.inr (fun _ _=>by with_reducible rfl)) | (refine And.intro ?_ ?_) | exact .inr (.inl rfl) | exact .inl (by decide +kernel) | exact trivial | exact .inr (.inr (fun _ _=>rfl))));(try dsimp only [Nat.reduceAdd]));intro r0 w2 E2 _;(refine q0c<|tn<|q0z rfl<|q0b<|q0a<|a_B rfl<|q0c<|tn<|q0r<|tr ?_);exact q0e rfl rfl (v:=.bool _) rfl ⟨false,rfl,⟨(fun h=>by cases h),fun h=>by
      have h3':=h3
      unfold p16 at h3'
      rw [decide_eq_false_iff_not] at h3'
      exact (h3' ⟨h.r,by have:=h.c;have:=h.s;have:=h.l16;omega⟩).elim⟩,E1.trans E2⟩
  | true =>
  cases h4:p16 C with
  | false =>
    apply q1h 28 (by kernel_rfl);(apply DW_x (fun r w hA hH=>(q0d (v:=.int _ _) rfl).trans rfl);apply DW_x (fun r w hA hH=>(q2i rfl rfl (by omega)).trans rfl);apply DW_x (fun r w hA hH=>(q0d (v:=.bool _) rfl).trans rfl);apply q0m rfl rfl (fun _=>rfl) (fun r w hA hH=>(q0d (v:=.int _ _) rfl).trans rfl);apply q0m rfl rfl (fun _=>rfl) (fun r w hA hH=>(q3a rfl rfl (by omega)).trans rfl);apply DW_x (fun r w hA hH=>(q0s (v:=.bool _) rfl rfl).trans rfl);apply DW_x (fun r w hA hH=>(q0d (v:=.bool _) rfl).trans rfl);apply q0m rfl rfl (fun _=>rfl) (fun r w hA hH=>(q0i rfl).trans rfl);apply q0m rfl rfl (fun _=>rfl) (fun r w hA hH=>(X_ld (cs:=shC R C B T) rfl (B2.ext hA) rfl).trans rfl));((with_reducible apply q2r);(exact rfl);(exact rfl);(exact fun _=>rfl);(exact fun _=>rfl);(exact fun r w hA hH=>q6m R hR w));rw [h3];(apply q0m rfl rfl (fun _=>rfl) (fun r w hA hH=>(q1s rfl).trans rfl);apply DW_x (fun r w hA hH=>(q0s (v:=.bool _) rfl rfl).trans rfl);apply DW_x (fun r w hA hH=>(q0d (v:=.bool _) rfl).trans rfl);apply q0m rfl rfl (fun _=>rfl) (fun r w hA hH=>(q0i rfl).trans rfl);apply q0m rfl rfl (fun _=>rfl) (fun r w hA hH=>(X_ld (cs:=shC R C B T) rfl (B2.ext hA) rfl).trans rfl));((with_reducible apply q2r);(exact rfl);(exact rfl);(exact fun _=>rfl);(exact fun _=>rfl);(exact fun r w hA hH=>q6m C hC w));rw [h4];repeat (first | ((with_reducible apply q2h);((with_reducible apply d_ng);apply DW_x (fun r w hA hH=>(q0d (v:=.bool _) rfl).trans rfl))) | ((with_reducible apply d_unot);((with_reducible apply d_gd);apply q0m rfl rfl (fun _=>rfl) (fun r w hA hH=>(q1s rfl).trans rfl))) | ((with_reducible apply q5h);((with_reducible apply d_ng);(first | apply DW_x (fun r w hA hH=>(q0v (v:=.bool _) rfl rfl).trans rfl) | apply DW_x (fun r w hA hH=>(q0s (v:=.bool _) rfl rfl).trans rfl)))) | ((with_reducible apply d_gd);apply q1y rfl rfl (fun _=>rfl) rfl))
    ((with_reducible exact q1p);(exact rfl);(repeat (first | exact .inr (.inr (fun _ _=>by with_reducible rfl)) | (refine And.intro ?_ ?_) | exact .inr (.inl rfl) | exact .inl (by decide +kernel) | exact trivial | exact .inr (.inr (fun _ _=>rfl))));(try dsimp only [Nat.reduceAdd]));intro r0 w2 E2 _;(refine q0c<|tn<|q0z rfl<|q0b<|q0a<|a_B rfl<|q0c<|tn<|q0r<|tr ?_);exact q0e rfl rfl (v:=.bool _) rfl ⟨false,rfl,⟨(fun h=>by cases h),fun h=>by
      have h4':=h4
      unfold p16 at h4'
      rw [decide_eq_false_iff_not] at h4'
      exact (h4' ⟨h.c,by have:=h.r;have:=h.s;have:=h.l16;omega⟩).elim⟩,E1.trans E2⟩
  | true =>
  obtain ⟨a,ha16,ha,hRa⟩:=p16_true h3;obtain ⟨c,hc16,hc,hCc⟩:=p16_true h4;obtain ⟨l,rfl⟩:∃ l:Nat,log=l:=⟨log.toNat,by omega⟩;have pa:=q1f ha16;have pc:=q1f hc16;have hRC:R * C=((2 ^ (a+c):Nat):Int):=by rw [hRa,hCc,Nat.pow_add,Int.natCast_mul]
  have hRb:1≤R∧R≤65536:=by omega
  have hCb:1≤C∧C≤65536:=by omega
  have hRCb:0≤R * C∧R * C≤4294967296:=by
    rw [hRC];have:2 ^ (a+c)≤2 ^ 32:=Nat.pow_le_pow_right (by decide) (by omega);generalize 2 ^ (a+c)=z at this ⊢;omega
  by_cases h5:a+c=l
  · have he:R * C=((2 ^ l:Nat):Int):=(by rw [hRC,h5]);apply q1h 28 (by kernel_rfl);(apply DW_x (fun r w hA hH=>(q0d (v:=.int _ _) rfl).trans rfl);apply DW_x (fun r w hA hH=>(q2i rfl rfl (by omega)).trans rfl);apply DW_x (fun r w hA hH=>(q0d (v:=.bool _) rfl).trans rfl);apply q0m rfl rfl (fun _=>rfl) (fun r w hA hH=>(q0d (v:=.int _ _) rfl).trans rfl);apply q0m rfl rfl (fun _=>rfl) (fun r w hA hH=>(q3a rfl rfl (by omega)).trans rfl);apply DW_x (fun r w hA hH=>(q0s (v:=.bool _) rfl rfl).trans rfl);apply DW_x (fun r w hA hH=>(q0d (v:=.bool _) rfl).trans rfl);apply q0m rfl rfl (fun _=>rfl) (fun r w hA hH=>(q0i rfl).trans rfl);apply q0m rfl rfl (fun _=>rfl) (fun r w hA hH=>(X_ld (cs:=shC R C B T) rfl (B2.ext hA) rfl).trans rfl));((with_reducible apply q2r);(exact rfl);(exact rfl);(exact fun _=>rfl);(exact fun _=>rfl);(exact fun r w hA hH=>q6m R hR w));rw [h3];(apply q0m rfl rfl (fun _=>rfl) (fun r w hA hH=>(q1s rfl).trans rfl);apply DW_x (fun r w hA hH=>(q0s (v:=.bool _) rfl rfl).trans rfl);apply DW_x (fun r w hA hH=>(q0d (v:=.bool _) rfl).trans rfl);apply q0m rfl rfl (fun _=>rfl) (fun r w hA hH=>(q0i rfl).trans rfl);apply q0m rfl rfl (fun _=>rfl) (fun r w hA hH=>(X_ld (cs:=shC R C B T) rfl (B2.ext hA) rfl).trans rfl));((with_reducible apply q2r);(exact rfl);(exact rfl);(exact fun _=>rfl);(exact fun _=>rfl);(exact fun r w hA hH=>q6m C hC w));rw [h4];(apply q0m rfl rfl (fun _=>rfl) (fun r w hA hH=>(q1s rfl).trans rfl);apply DW_x (fun r w hA hH=>(q0s (v:=.bool _) rfl rfl).trans rfl);apply DW_x (fun r w hA hH=>(q0d (v:=.bool _) rfl).trans rfl);apply q0m rfl rfl (fun _=>rfl) (fun r w hA hH=>(q0i rfl).trans rfl);apply q0m rfl rfl (fun _=>rfl) (fun r w hA hH=>(X_ld (cs:=shC R C B T) rfl (B2.ext hA) rfl).trans rfl);apply q0m rfl rfl (fun _=>rfl) (fun r w hA hH=>(q0i rfl).trans rfl);apply q0m rfl rfl (fun _=>rfl) (fun r w hA hH=>(X_ld (cs:=shC R C B T) rfl (B2.ext hA) rfl).trans rfl);apply q0m rfl rfl (fun _=>rfl) (fun r w hA hH=>(q2a rfl rfl ⟨by omega,by omega⟩).trans rfl);apply q0m rfl rfl (fun _=>rfl) (fun r w hA hH=>(q0d (v:=.int _ _) rfl).trans rfl);apply q0m rfl rfl (fun _=>rfl) (fun r w hA hH=>((q5x rfl rfl (by omega)).trans (by rw [q6k (by omega)])).trans rfl);apply q0m rfl rfl (fun _=>rfl) (fun r w hA hH=>(q2l rfl rfl (fun h=>h he)).trans rfl);apply DW_x (fun r w hA hH=>(q0s (v:=.bool _) rfl rfl).trans rfl));((with_reducible exact q1p);(exact rfl);(repeat (first | exact .inr (.inr (fun _ _=>by with_reducible rfl)) | (refine And.intro ?_ ?_) | exact .inr (.inl rfl) | exact .inl (by decide +kernel) | exact trivial | exact .inr (.inr (fun _ _=>rfl))));(try dsimp only [Nat.reduceAdd]));intro r0 w2 E2 _;have C2:=B2.ext E2;have E12:=E1.trans E2;by_cases h6:B=2∨B=4∨B=8∨B=16
    · have hmb:=mul_bd h6 hCb;have hok:B * C≤65536→1≤T→T≤64→T≤B * C→SOk R C B T (l:Int):=fun q1 q2 q3 q4=>⟨by omega,by omega,by omega,by omega,by omega,h6,q1,q2,q3,q4⟩;have key:∀ x y:Bool,True:=fun _ _=>trivial;by_cases h7:B * C≤65536
      · rcases h6 with h6 | h6 | h6 | h6 <;>
        · by_cases h8:1≤T
          · by_cases h9:T≤64
            · repeat (first | (with_reducible refine tn ?_) | (with_reducible refine q0b ?_) | (with_reducible refine q0a ?_) | (with_reducible refine q0q ?_) | (with_reducible refine q0r ?_) | (with_reducible refine q0c ?_) | ((with_reducible refine z1y ?_);((with_reducible refine i_ng ?_);refine Ls (q0d (v:=.bool _) rfl) ?_)) | ((with_reducible refine q5s ?_);((with_reducible refine i_ng ?_);refine Ls (q0l (v:=.bool _) rfl) ?_)) | ((with_reducible refine i_mul ?_);((with_reducible refine i_gd ?_);refine Lg2 rfl rfl rfl (q2a rfl rfl ⟨by omega,by omega⟩) ?_)) | ((with_reducible refine i_leq ?_);((with_reducible refine i_gd ?_);(first | refine Lg2 rfl rfl rfl (q7o rfl rfl (by omega)) ?_ | refine Lg2 rfl rfl rfl (X_leq rfl rfl) ?_))) | ((with_reducible refine i_gtr ?_);((with_reducible refine i_gd ?_);refine Lg2 rfl rfl rfl (q3a rfl rfl (by omega)) ?_)) | ((with_reducible refine i_geq ?_);((with_reducible refine i_ng ?_);refine Ls (q6c rfl rfl (by omega)) ?_)) | ((with_reducible refine i_neq ?_);(first | ((with_reducible refine i_ng ?_);(first | refine Ls (q3h rfl rfl (by omega)) ?_ | refine Ls (q2l rfl rfl (by omega)) ?_)) | ((with_reducible refine i_gd ?_);(first | refine Lg2 rfl rfl rfl (q3h rfl rfl (by omega)) ?_ | refine Lg2 rfl rfl rfl (q2l rfl rfl (by omega)) ?_)))) | ((with_reducible refine i_fld ?_);(first | ((with_reducible refine i_ng ?_);refine Ls (q0i rfl) ?_) | ((with_reducible refine i_gd ?_);refine Lg2 rfl rfl rfl (q0i rfl) ?_))) | ((with_reducible refine i_pick ?_);((with_reducible refine i_ng ?_);(first | refine Ls (q0v (v:=.bool _) rfl rfl) ?_ | refine Ls (q0s (v:=.bool _) rfl rfl) ?_))) | ((with_reducible refine i_load ?_);(first | ((with_reducible refine i_ng ?_);refine Ls (X_ld (cs:=shC R C B T) rfl C2 rfl) ?_) | ((with_reducible refine i_gd ?_);refine Lg2 rfl rfl rfl (X_ld (cs:=shC R C B T) rfl C2 rfl) ?_))) | ((with_reducible refine i_gd ?_);refine Lo2 rfl rfl rfl rfl ?_) | (with_reducible refine q0x rfl ?_))
              refine q0e rfl rfl (v:=.bool _) rfl ⟨_,rfl,?_,E12⟩;first
                | exact ⟨fun h=>hok h7 h8 h9 (by first | omega | exact of_decide_eq_true h),fun h=>by first | rfl | exact decide_eq_true h.tn⟩
                | exact ⟨fun h=>by cases h,fun h=>by have:=h.tn;omega⟩
            · repeat (first | (with_reducible refine tn ?_) | (with_reducible refine q0b ?_) | (with_reducible refine q0a ?_) | (with_reducible refine q0q ?_) | (with_reducible refine q0r ?_) | (with_reducible refine q0c ?_) | ((with_reducible refine z1y ?_);((with_reducible refine i_ng ?_);refine Ls (q0d (v:=.bool _) rfl) ?_)) | ((with_reducible refine q5s ?_);((with_reducible refine i_ng ?_);refine Ls (q0l (v:=.bool _) rfl) ?_)) | ((with_reducible refine i_mul ?_);((with_reducible refine i_gd ?_);refine Lg2 rfl rfl rfl (q2a rfl rfl ⟨by omega,by omega⟩) ?_)) | ((with_reducible refine i_leq ?_);((with_reducible refine i_gd ?_);refine Lg2 rfl rfl rfl (z3g rfl rfl (by omega)) ?_)) | ((with_reducible refine i_gtr ?_);((with_reducible refine i_gd ?_);refine Lg2 rfl rfl rfl (q3a rfl rfl (by omega)) ?_)) | ((with_reducible refine i_geq ?_);((with_reducible refine i_ng ?_);refine Ls (q6c rfl rfl (by omega)) ?_)) | ((with_reducible refine i_neq ?_);(first | ((with_reducible refine i_ng ?_);(first | refine Ls (q3h rfl rfl (by omega)) ?_ | refine Ls (q2l rfl rfl (by omega)) ?_)) | ((with_reducible refine i_gd ?_);(first | refine Lg2 rfl rfl rfl (q3h rfl rfl (by omega)) ?_ | refine Lg2 rfl rfl rfl (q2l rfl rfl (by omega)) ?_)))) | ((with_reducible refine i_fld ?_);(first | ((with_reducible refine i_ng ?_);refine Ls (q0i rfl) ?_) | ((with_reducible refine i_gd ?_);refine Lg2 rfl rfl rfl (q0i rfl) ?_))) | ((with_reducible refine i_pick ?_);((with_reducible refine i_ng ?_);(first | refine Ls (q0v (v:=.bool _) rfl rfl) ?_ | refine Ls (q0s (v:=.bool _) rfl rfl) ?_))) | ((with_reducible refine i_load ?_);(first | ((with_reducible refine i_ng ?_);refine Ls (X_ld (cs:=shC R C B T) rfl C2 rfl) ?_) | ((with_reducible refine i_gd ?_);refine Lg2 rfl rfl rfl (X_ld (cs:=shC R C B T) rfl C2 rfl) ?_))) | ((with_reducible refine i_gd ?_);refine Lo2 rfl rfl rfl rfl ?_) | (with_reducible refine q0x rfl ?_))
              exact q0e rfl rfl (v:=.bool _) rfl ⟨false,rfl,⟨(fun h=>by cases h),fun h=>(h9 h.t64).elim⟩,E12⟩
          · repeat (first | (with_reducible refine tn ?_) | (with_reducible refine q0b ?_) | (with_reducible refine q0a ?_) | (with_reducible refine q0q ?_) | (with_reducible refine q0r ?_) | (with_reducible refine q0c ?_) | ((with_reducible refine z1y ?_);((with_reducible refine i_ng ?_);refine Ls (q0d (v:=.bool _) rfl) ?_)) | ((with_reducible refine q5s ?_);((with_reducible refine i_ng ?_);refine Ls (q0l (v:=.bool _) rfl) ?_)) | ((with_reducible refine i_mul ?_);((with_reducible refine i_gd ?_);refine Lg2 rfl rfl rfl (q2a rfl rfl ⟨by omega,by omega⟩) ?_)) | ((with_reducible refine i_gtr ?_);((with_reducible refine i_gd ?_);refine Lg2 rfl rfl rfl (q3a rfl rfl (by omega)) ?_)) | ((with_reducible refine i_geq ?_);((with_reducible refine i_ng ?_);refine Ls (q6w rfl rfl (by omega)) ?_)) | ((with_reducible refine i_neq ?_);(first | ((with_reducible refine i_ng ?_);(first | refine Ls (q3h rfl rfl (by omega)) ?_ | refine Ls (q2l rfl rfl (by omega)) ?_)) | ((with_reducible refine i_gd ?_);(first | refine Lg2 rfl rfl rfl (q3h rfl rfl (by omega)) ?_ | refine Lg2 rfl rfl rfl (q2l rfl rfl (by omega)) ?_)))) | ((with_reducible refine i_fld ?_);(first | ((with_reducible refine i_ng ?_);refine Ls (q0i rfl) ?_) | ((with_reducible refine i_gd ?_);refine Lg2 rfl rfl rfl (q0i rfl) ?_))) | ((with_reducible refine i_pick ?_);((with_reducible refine i_ng ?_);(first | refine Ls (q0v (v:=.bool _) rfl rfl) ?_ | refine Ls (q0s (v:=.bool _) rfl rfl) ?_))) | ((with_reducible refine i_load ?_);(first | ((with_reducible refine i_ng ?_);refine Ls (X_ld (cs:=shC R C B T) rfl C2 rfl) ?_) | ((with_reducible refine i_gd ?_);refine Lg2 rfl rfl rfl (X_ld (cs:=shC R C B T) rfl C2 rfl) ?_))) | ((with_reducible refine i_gd ?_);refine Lo2 rfl rfl rfl rfl ?_) | (with_reducible refine q0x rfl ?_))
            exact q0e rfl rfl (v:=.bool _) rfl ⟨false,rfl,⟨(fun h=>by cases h),fun h=>(h8 h.t1).elim⟩,E12⟩
      · rcases h6 with h6 | h6 | h6 | h6 <;>
        · repeat (first | (with_reducible refine tn ?_) | (with_reducible refine tr ?_) | (with_reducible refine q0b ?_) | (with_reducible refine q0a ?_) | (with_reducible refine q0q ?_) | (with_reducible refine q0r ?_) | (with_reducible refine q0c ?_) | ((with_reducible refine z1y ?_);((with_reducible refine i_ng ?_);refine Ls (q0d (v:=.bool _) rfl) ?_)) | ((with_reducible refine q5s ?_);((with_reducible refine i_ng ?_);refine Ls (q0l (v:=.bool _) rfl) ?_)) | ((with_reducible refine i_mul ?_);((with_reducible refine i_gd ?_);refine Lg2 rfl rfl rfl (q2a rfl rfl ⟨by omega,by omega⟩) ?_)) | ((with_reducible refine i_gtr ?_);((with_reducible refine i_gd ?_);refine Lg2 rfl rfl rfl (q4q rfl rfl (by omega)) ?_)) | ((with_reducible refine i_neq ?_);(first | ((with_reducible refine i_ng ?_);(first | refine Ls (q3h rfl rfl (by omega)) ?_ | refine Ls (q2l rfl rfl (by omega)) ?_)) | ((with_reducible refine i_gd ?_);(first | refine Lg2 rfl rfl rfl (q3h rfl rfl (by omega)) ?_ | refine Lg2 rfl rfl rfl (q2l rfl rfl (by omega)) ?_)))) | ((with_reducible refine i_fld ?_);(first | ((with_reducible refine i_ng ?_);refine Ls (q0i rfl) ?_) | ((with_reducible refine i_gd ?_);refine Lg2 rfl rfl rfl (q0i rfl) ?_))) | ((with_reducible refine i_pick ?_);((with_reducible refine i_ng ?_);(first | refine Ls (q0v (v:=.bool _) rfl rfl) ?_ | refine Ls (q0s (v:=.bool _) rfl rfl) ?_))) | ((with_reducible refine i_load ?_);(first | ((with_reducible refine i_ng ?_);refine Ls (X_ld (cs:=shC R C B T) rfl C2 rfl) ?_) | ((with_reducible refine i_gd ?_);refine Lg2 rfl rfl rfl (X_ld (cs:=shC R C B T) rfl C2 rfl) ?_))) | ((with_reducible refine i_gd ?_);refine Lo2 rfl rfl rfl rfl ?_) | (with_reducible refine q0z rfl ?_) | (with_reducible refine q0x rfl ?_))
          exact q0e rfl rfl (v:=.bool _) rfl ⟨false,rfl,⟨(fun h=>by cases h),fun h=>(h7 h.n).elim⟩,E12⟩
    · have n1:B ≠ 2:=fun h=>h6 (.inl h);have n2:B ≠ 4:=fun h=>h6 (.inr (.inl h));have n3:B ≠ 8:=fun h=>h6 (.inr (.inr (.inl h)));have n4:B ≠ 16:=fun h=>h6 (.inr (.inr (.inr h)));(refine q0c<|tn<|q0x rfl<|q0q<|tn<|q0b<|q0b<|q0a<|Ls (q0i rfl)<|Ls (X_ld (cs:=shC R C B T) rfl C2 rfl)<|Ls (q3h rfl rfl (by omega))<|m_B rfl<|Lg2 rfl rfl rfl (q0i rfl)<|Lg2 rfl rfl rfl (X_ld (cs:=shC R C B T) rfl C2 rfl)<|Lg2 rfl rfl rfl (q3h rfl rfl (by omega))<|Ls (q0v (v:=.bool _) rfl rfl)<|m_B rfl<|Lg2 rfl rfl rfl (q0i rfl)<|Lg2 rfl rfl rfl (X_ld (cs:=shC R C B T) rfl C2 rfl)<|Lg2 rfl rfl rfl (q3h rfl rfl (by omega))<|Ls (q0v (v:=.bool _) rfl rfl)<|m_B rfl<|Lg2 rfl rfl rfl (q0i rfl)<|Lg2 rfl rfl rfl (X_ld (cs:=shC R C B T) rfl C2 rfl)<|Lg2 rfl rfl rfl (q3h rfl rfl (by omega))<|Ls (q0v (v:=.bool _) rfl rfl)<|m_B rfl<|Lo2 rfl rfl rfl rfl<|Lo2 rfl rfl rfl rfl<|Lo2 rfl rfl rfl rfl<|Lo2 rfl rfl rfl rfl<|Lo2 rfl rfl rfl rfl<|Lo2 rfl rfl rfl rfl<|Ls (q0v (v:=.bool _) rfl rfl)<|q0c<|tn<|q0z rfl<|q0b<|q0a<|a_B rfl<|q0c<|tn<|q0r<|tr ?_);exact q0e rfl rfl (v:=.bool _) rfl ⟨false,rfl,⟨(fun h=>by cases h),fun h=>(h6 h.b).elim⟩,E12⟩
  · have hne:R * C ≠ ((2 ^ l:Nat):Int):=by
      rw [hRC];intro h;have:2 ^ (a+c)=2 ^ l:=Int.ofNat.inj h;exact h5 ((Nat.pow_right_inj (by decide)).1 this)
    apply q1h 28 (by kernel_rfl);(apply DW_x (fun r w hA hH=>(q0d (v:=.int _ _) rfl).trans rfl);apply DW_x (fun r w hA hH=>(q2i rfl rfl (by omega)).trans rfl);apply DW_x (fun r w hA hH=>(q0d (v:=.bool _) rfl).trans rfl);apply q0m rfl rfl (fun _=>rfl) (fun r w hA hH=>(q0d (v:=.int _ _) rfl).trans rfl);apply q0m rfl rfl (fun _=>rfl) (fun r w hA hH=>(q3a rfl rfl (by omega)).trans rfl);apply DW_x (fun r w hA hH=>(q0s (v:=.bool _) rfl rfl).trans rfl);apply DW_x (fun r w hA hH=>(q0d (v:=.bool _) rfl).trans rfl);apply q0m rfl rfl (fun _=>rfl) (fun r w hA hH=>(q0i rfl).trans rfl);apply q0m rfl rfl (fun _=>rfl) (fun r w hA hH=>(X_ld (cs:=shC R C B T) rfl (B2.ext hA) rfl).trans rfl));((with_reducible apply q2r);(exact rfl);(exact rfl);(exact fun _=>rfl);(exact fun _=>rfl);(exact fun r w hA hH=>q6m R hR w));rw [h3];(apply q0m rfl rfl (fun _=>rfl) (fun r w hA hH=>(q1s rfl).trans rfl);apply DW_x (fun r w hA hH=>(q0s (v:=.bool _) rfl rfl).trans rfl);apply DW_x (fun r w hA hH=>(q0d (v:=.bool _) rfl).trans rfl);apply q0m rfl rfl (fun _=>rfl) (fun r w hA hH=>(q0i rfl).trans rfl);apply q0m rfl rfl (fun _=>rfl) (fun r w hA hH=>(X_ld (cs:=shC R C B T) rfl (B2.ext hA) rfl).trans rfl));((with_reducible apply q2r);(exact rfl);(exact rfl);(exact fun _=>rfl);(exact fun _=>rfl);(exact fun r w hA hH=>q6m C hC w));rw [h4];(apply q0m rfl rfl (fun _=>rfl) (fun r w hA hH=>(q1s rfl).trans rfl);apply DW_x (fun r w hA hH=>(q0s (v:=.bool _) rfl rfl).trans rfl);apply DW_x (fun r w hA hH=>(q0d (v:=.bool _) rfl).trans rfl);apply q0m rfl rfl (fun _=>rfl) (fun r w hA hH=>(q0i rfl).trans rfl);apply q0m rfl rfl (fun _=>rfl) (fun r w hA hH=>(X_ld (cs:=shC R C B T) rfl (B2.ext hA) rfl).trans rfl);apply q0m rfl rfl (fun _=>rfl) (fun r w hA hH=>(q0i rfl).trans rfl);apply q0m rfl rfl (fun _=>rfl) (fun r w hA hH=>(X_ld (cs:=shC R C B T) rfl (B2.ext hA) rfl).trans rfl);apply q0m rfl rfl (fun _=>rfl) (fun r w hA hH=>(q2a rfl rfl ⟨by omega,by omega⟩).trans rfl);apply q0m rfl rfl (fun _=>rfl) (fun r w hA hH=>(q0d (v:=.int _ _) rfl).trans rfl);apply q0m rfl rfl (fun _=>rfl) (fun r w hA hH=>((q5x rfl rfl (by omega)).trans (by rw [q6k (by omega)])).trans rfl);apply q0m rfl rfl (fun _=>rfl) (fun r w hA hH=>(q3h rfl rfl hne).trans rfl);apply DW_x (fun r w hA hH=>(q0s (v:=.bool _) rfl rfl).trans rfl));((with_reducible exact q1p);(exact rfl);(repeat (first | exact .inr (.inr (fun _ _=>by with_reducible rfl)) | (refine And.intro ?_ ?_) | exact .inr (.inl rfl) | exact .inl (by decide +kernel) | exact trivial | exact .inr (.inr (fun _ _=>rfl))));(try dsimp only [Nat.reduceAdd]));intro r0 w2 E2 _;(refine q0c<|tn<|q0z rfl<|q0b<|q0a<|a_B rfl<|q0c<|tn<|q0r<|tr ?_);exact q0e rfl rfl (v:=.bool _) rfl ⟨false,rfl,⟨(fun h=>by cases h),fun h=>by have:=h.s;omega⟩,E1.trans E2⟩
end Go.Proofs.YtpohjepbmgeplaaGreatDoor
namespace Go.Proofs.YtpohjepbmgeplaaGreatDoor
open Go.RowKit Go.Proofs.K
open _root_.Fd (K E pw root)
def q4a (P:Program) (fid:FuncId) (fc:Array Value) (vals:List Value) (Q:Nat→Bool) (w:World):Prop :=
  ∀ (i:Nat) (x:Value) (w':World),Ext w w'→vals[i]?=some x→Calls P fid (#[]++[x].toArray++fc) w' fun e w''=>e=.returned (.bool (Q i))∧Ext w' w''
theorem q4a.ext {P:Program} {fid:FuncId} {fc:Array Value} {vals:List Value} {Q:Nat→Bool} {w w':World} (h:q4a P fid fc vals Q w) (E:Ext w w'):q4a P fid fc vals Q w':=fun i x w2 E2 hx=>h i x w2 (E.trans E2) hx
theorem all_iff {m:Nat} {Q:Nat→Bool} {r:Int} (h:0≤r↔∃ i,i < m∧Q i=false):(!decide (0≤r))=decide (∀ i,i < m→Q i=true):=by
  rw [Bool.eq_iff_iff,Bool.not_eq_true',decide_eq_false_iff_not,decide_eq_true_eq,h];constructor
  · intro h i hi;cases hq:Q i with
    | true=>rfl
    | false=>exact (h ⟨i,hi,hq⟩).elim
  · rintro h ⟨i,hi,hq⟩;rw [h i hi] at hq;cases hq
set_option maxHeartbeats 1000000 in
theorem gidx_u (lo hi:Nat) (v:Value) (vals:List Value) (hl:vals.length≤1000000) (w:World) (hr:Row w lo hi 1 v vals.length vals) (h1:∀ x∈vals,x.oneCell'=true) (Q:Nat→Bool) (fid:FuncId) [TFun Tryz.prog fid] (fc:Array Value) (hf:q4a Tryz.prog fid fc vals (fun i=>!Q i) w) :
    Calls Tryz.prog 184 #[v,.func (.func fid) #[] fc] w fun e w'=>∃ r:Int,e=.returned (.int .i64 r)∧(0≤r↔∃ i,i < vals.length∧Q i=false)∧Ext w w':=by
  obtain ⟨A,c,rfl⟩:∃ A c,v=.slice A vals.length c:=by
    obtain ⟨_,A,c,rfl,_⟩:=hr;exact ⟨A,c,rfl⟩
  refine q0k Tryz.func184 rfl Tryz.ntmps184 rfl ?_;(refine q0b<|q0a<|a_I rfl<|q0c<|tn<|q0b<|q0b<|q0a<|m_S rfl<|Ls (q0f rfl)<|m_I rfl<|q0c<|tn<|q0h ?_);refine q1k (fun q f w'=>∃ i,q=vals.length - i∧i≤vals.length∧(∀ j,j < i→Q j=true)∧f 0=.slice A vals.length c∧f 1=.func (.func fid) #[] fc∧f 7=.int .i64 (vals.length:Nat)∧f 8=.int .i64 (i:Nat)∧Ext w w') vals.length ?_ ?_
  · exact ⟨0,rfl,by omega,fun _ h=>by omega,rfl,rfl,rfl,rfl,Ext.refl _⟩
  · rintro q f wr ⟨i,hq,hil,hall,f0,f1,f7,f8,hE⟩;rw [fold f0,fold f1,fold f7,fold f8];(refine q0b<|q0a<|Ls (q1w rfl rfl)<|q0c<|tn<|q0b ?_);refine q1b rfl (fun h=>?_) (fun h=>?_)
    · have hlt:i < vals.length:=(by omega);obtain ⟨x,hx⟩:∃ x,vals[i]?=some x:=⟨_,List.getElem?_eq_getElem hlt⟩;obtain ⟨b0,o0,c0,hA,_,_,_,hc0⟩:=hr.at hlt;cases hA
      (refine q0q<|tn<|q0b<|q0h<|q0b<|q0a<|m_I rfl<|a_I rfl<|q0c<|tn<|q0b<|q0a<|Ls (q0d (v:=.func _ _ _) rfl)<|m_S rfl<|m_I rfl<|Ls (q0n rfl rfl (by omega))<|Ls (q1v rfl (hE.range hc0) (j:=i) (by omega) hx) ?_);refine q6y (vl:=[x]) rfl (hf i _ wr hE hx) rfl ?_;rintro e w2 ⟨rfl,E2⟩;refine ⟨_,rfl,?_⟩;(refine q0c<|tn ?_);refine z0w (b:=!Q i) rfl (fun h=>?_) (fun h=>?_)
      · have hQ:Q i=false:=(by simpa using h);(refine q0b<|q0a<|m_I rfl<|a_I rfl<|q0c<|tn<|q0r<|br<|tr<|tr<|br<|tr ?_);exact q0e rfl rfl (v:=.int _ _) rfl ⟨_,rfl,⟨fun _=>⟨i,hlt,hQ⟩,fun _=>by omega⟩,hE.trans E2⟩
      · have hQ:Q i=true:=(by simpa using h);(refine q0q<|bn<|tn<|q0a<|Ls (q1e rfl rfl (by omega))<|m_I rfl<|q0c<|tn ?_);refine ⟨vals.length - (i+1),by omega,i+1,rfl,by omega,fun j hj=>?_,rfl,rfl,rfl,rfl,hE.trans E2⟩;rcases Nat.lt_or_ge j i with h | h
        · exact hall j h
        · obtain rfl:j=i:=(by omega);exact hQ
    · (refine q1j<|te<|te<|bx<|tn<|q0b<|q0a<|a_I rfl<|q0c<|tn<|q0r ?_);refine q0e rfl rfl (v:=.int _ _) rfl ⟨_,rfl,⟨fun h=>by omega,?_⟩,hE⟩;rintro ⟨j,hj,hQ⟩;rw [hall j (by omega)] at hQ;cases hQ
theorem gcon_u (lo hi:Nat) (v:Value) (vals:List Value) (hl:vals.length≤1000000) (w:World) (hr:Row w lo hi 1 v vals.length vals) (h1:∀ x∈vals,x.oneCell'=true) (Q:Nat→Bool) (fid:FuncId) [TFun Tryz.prog fid] (fc:Array Value) (hf:q4a Tryz.prog fid fc vals (fun i=>!Q i) w) :
    Calls Tryz.prog 145 #[v,.func (.func fid) #[] fc] w fun e w'=>e=.returned (.bool (!decide (∀ i,i < vals.length→Q i=true)))∧Ext w w':=by
  have hv1:=q0g hr;refine q0k Tryz.func145 rfl Tryz.ntmps145 rfl ?_;(refine q0b<|q0a<|a_B rfl<|q0c<|tn<|q0b<|q0a<|Ls (q0d (v:=v) rfl)<|Ls (q0d (v:=.func _ _ _) rfl) ?_);refine L_fo (F:=fun u w'=>∃ r:Int,u=.int .i64 r∧(0≤r↔∃ i,i < vals.length∧Q i=false)∧Ext w w') rfl ((gidx_u lo hi v vals hl w hr h1 Q fid fc hf).mono fun e w' ⟨r,h1,h2,h3⟩=>⟨_,h1,r,rfl,h2,h3⟩) ?_;rintro _ w1 ⟨r,rfl,hr',E1⟩;(refine Ls (z1b rfl rfl)<|a_B rfl<|q0c<|tn<|q0r ?_);refine q0e rfl rfl (v:=.bool _) rfl ⟨?_,E1⟩;rw [← all_iff hr',Bool.not_not]
theorem gvclo_u (b:Nat) (fid:FuncId) [TFun Tryz.prog fid] (fc:Array Value) (vals:List Value) (h1:∀ x∈vals,x.oneCell'=true) (Q:Nat→Bool) (w:World) (hB:Blk w b 144 [.func (.func fid) #[] fc]) (hf:q4a Tryz.prog fid fc vals Q w):q4a Tryz.prog 146 #[.pointer (some ⟨b,0,none⟩)] vals (fun i=>!Q i) w:=by
  intro i x w1 E1 hx;have hx1:=h1 x (List.mem_of_getElem? hx);refine q0k Tryz.func146 rfl Tryz.ntmps146 rfl ?_;(refine q0b<|q0a<|a_B rfl<|q0c<|tn<|q0b<|q0a<|Ls (X_ld rfl (hB.ext E1) rfl)<|Ls (q0d (v:=x) rfl) ?_);refine q6y (vl:=[x]) rfl (hf i x w1 E1 hx) rfl ?_;rintro e w2 ⟨rfl,E2⟩;refine ⟨_,rfl,?_⟩;(refine Ls (q1s rfl)<|a_B rfl<|q0c<|tn<|q0r ?_);exact q0e rfl rfl (v:=.bool _) rfl ⟨rfl,E2⟩
theorem gval_u (lo hi:Nat) (v:Value) (vals:List Value) (hl:vals.length≤1000000) (w:World) (hr:Row w lo hi 1 v vals.length vals) (h1:∀ x∈vals,x.oneCell'=true) (Q:Nat→Bool) (fid:FuncId) [TFun Tryz.prog fid] (fc:Array Value) (hf:q4a Tryz.prog fid fc vals Q w) :
    Calls Tryz.prog 100 #[v,.func (.func fid) #[] fc] w fun e w'=>e=.returned (.bool (decide (∀ i,i < vals.length→Q i=true)))∧Ext w w':=by
  have hv1:=q0g hr;refine q0k Tryz.func100 rfl Tryz.ntmps100 rfl ?_;(refine q0b<|q0a ?_);refine q4r (v:=.func (.func fid) #[] fc) rfl rfl ?_;intro g3 w1 B3 hg3 E1 hs1;(refine a_B rfl<|q0c<|tn<|q0b<|q0a<|Ls (q0d (v:=v) rfl) ?_);refine Ls (q3l (vf:=[]) (vc:=[.pointer (some ⟨g3,0,none⟩)]) rfl rfl) ?_;skip;refine L_fv rfl (gcon_u lo hi v vals hl w1 (hr.ext E1) h1 Q 146 #[.pointer (some ⟨g3,0,none⟩)] (gvclo_u g3 fid fc vals h1 Q w1 B3 (hf.ext E1))) ?_;intro w2 E2;(refine Ls (q1s rfl)<|a_B rfl<|q0c<|tn<|q0r ?_);refine q0e rfl rfl (v:=.bool _) rfl ⟨?_,E1.trans E2⟩;rw [Bool.not_not]
set_option maxHeartbeats 1000000 in
theorem gidx_l (lo hi:Nat) (v:Value) (vals:List Value) (hl:vals.length≤1000000) (w:World) (hr:Row w lo hi 1 v vals.length vals) (h1:∀ x∈vals,x.oneCell'=true) (Q:Nat→Bool) (fid:FuncId) [TFun Tryz.prog fid] (fc:Array Value) (hf:q4a Tryz.prog fid fc vals (fun i=>!Q i) w) :
    Calls Tryz.prog 194 #[v,.func (.func fid) #[] fc] w fun e w'=>∃ r:Int,e=.returned (.int .i64 r)∧(0≤r↔∃ i,i < vals.length∧Q i=false)∧Ext w w':=by
  obtain ⟨A,c,rfl⟩:∃ A c,v=.slice A vals.length c:=by
    obtain ⟨_,A,c,rfl,_⟩:=hr;exact ⟨A,c,rfl⟩
  refine q0k Tryz.func194 rfl Tryz.ntmps194 rfl ?_;(refine q0b<|q0a<|a_I rfl<|q0c<|tn<|q0b<|q0b<|q0a<|m_S rfl<|Ls (q0f rfl)<|m_I rfl<|q0c<|tn<|q0h ?_);refine q1k (fun q f w'=>∃ i,q=vals.length - i∧i≤vals.length∧(∀ j,j < i→Q j=true)∧f 0=.slice A vals.length c∧f 1=.func (.func fid) #[] fc∧f 7=.int .i64 (vals.length:Nat)∧f 8=.int .i64 (i:Nat)∧Ext w w') vals.length ?_ ?_
  · exact ⟨0,rfl,by omega,fun _ h=>by omega,rfl,rfl,rfl,rfl,Ext.refl _⟩
  · rintro q f wr ⟨i,hq,hil,hall,f0,f1,f7,f8,hE⟩;rw [fold f0,fold f1,fold f7,fold f8];(refine q0b<|q0a<|Ls (q1w rfl rfl)<|q0c<|tn<|q0b ?_);refine q1b rfl (fun h=>?_) (fun h=>?_)
    · have hlt:i < vals.length:=(by omega);obtain ⟨x,hx⟩:∃ x,vals[i]?=some x:=⟨_,List.getElem?_eq_getElem hlt⟩;obtain ⟨b0,o0,c0,hA,_,_,_,hc0⟩:=hr.at hlt;cases hA
      (refine q0q<|tn<|q0b<|q0h<|q0b<|q0a<|m_I rfl<|a_I rfl<|q0c<|tn<|q0b<|q0a<|Ls (q0d (v:=.func _ _ _) rfl)<|m_S rfl<|m_I rfl<|Ls (q0n rfl rfl (by omega))<|Ls (q1v rfl (hE.range hc0) (j:=i) (by omega) hx) ?_);refine q6y (vl:=[x]) rfl (hf i _ wr hE hx) rfl ?_;rintro e w2 ⟨rfl,E2⟩;refine ⟨_,rfl,?_⟩;(refine q0c<|tn ?_);refine z0w (b:=!Q i) rfl (fun h=>?_) (fun h=>?_)
      · have hQ:Q i=false:=(by simpa using h);(refine q0b<|q0a<|m_I rfl<|a_I rfl<|q0c<|tn<|q0r<|br<|tr<|tr<|br<|tr ?_);exact q0e rfl rfl (v:=.int _ _) rfl ⟨_,rfl,⟨fun _=>⟨i,hlt,hQ⟩,fun _=>by omega⟩,hE.trans E2⟩
      · have hQ:Q i=true:=(by simpa using h);(refine q0q<|bn<|tn<|q0a<|Ls (q1e rfl rfl (by omega))<|m_I rfl<|q0c<|tn ?_);refine ⟨vals.length - (i+1),by omega,i+1,rfl,by omega,fun j hj=>?_,rfl,rfl,rfl,rfl,hE.trans E2⟩;rcases Nat.lt_or_ge j i with h | h
        · exact hall j h
        · obtain rfl:j=i:=(by omega);exact hQ
    · (refine q1j<|te<|te<|bx<|tn<|q0b<|q0a<|a_I rfl<|q0c<|tn<|q0r ?_);refine q0e rfl rfl (v:=.int _ _) rfl ⟨_,rfl,⟨fun h=>by omega,?_⟩,hE⟩;rintro ⟨j,hj,hQ⟩;rw [hall j (by omega)] at hQ;cases hQ
theorem gcon_l (lo hi:Nat) (v:Value) (vals:List Value) (hl:vals.length≤1000000) (w:World) (hr:Row w lo hi 1 v vals.length vals) (h1:∀ x∈vals,x.oneCell'=true) (Q:Nat→Bool) (fid:FuncId) [TFun Tryz.prog fid] (fc:Array Value) (hf:q4a Tryz.prog fid fc vals (fun i=>!Q i) w) :
    Calls Tryz.prog 174 #[v,.func (.func fid) #[] fc] w fun e w'=>e=.returned (.bool (!decide (∀ i,i < vals.length→Q i=true)))∧Ext w w':=by
  have hv1:=q0g hr;refine q0k Tryz.func174 rfl Tryz.ntmps174 rfl ?_;(refine q0b<|q0a<|a_B rfl<|q0c<|tn<|q0b<|q0a<|Ls (q0d (v:=v) rfl)<|Ls (q0d (v:=.func _ _ _) rfl) ?_);refine L_fo (F:=fun u w'=>∃ r:Int,u=.int .i64 r∧(0≤r↔∃ i,i < vals.length∧Q i=false)∧Ext w w') rfl ((gidx_l lo hi v vals hl w hr h1 Q fid fc hf).mono fun e w' ⟨r,h1,h2,h3⟩=>⟨_,h1,r,rfl,h2,h3⟩) ?_;rintro _ w1 ⟨r,rfl,hr',E1⟩;(refine Ls (z1b rfl rfl)<|a_B rfl<|q0c<|tn<|q0r ?_);refine q0e rfl rfl (v:=.bool _) rfl ⟨?_,E1⟩;rw [← all_iff hr',Bool.not_not]
theorem gvclo_l (b:Nat) (fid:FuncId) [TFun Tryz.prog fid] (fc:Array Value) (vals:List Value) (h1:∀ x∈vals,x.oneCell'=true) (Q:Nat→Bool) (w:World) (hB:Blk w b 100 [.func (.func fid) #[] fc]) (hf:q4a Tryz.prog fid fc vals Q w):q4a Tryz.prog 175 #[.pointer (some ⟨b,0,none⟩)] vals (fun i=>!Q i) w:=by
  intro i x w1 E1 hx;have hx1:=h1 x (List.mem_of_getElem? hx);refine q0k Tryz.func175 rfl Tryz.ntmps175 rfl ?_;(refine q0b<|q0a<|a_B rfl<|q0c<|tn<|q0b<|q0a<|Ls (X_ld rfl (hB.ext E1) rfl)<|Ls (q0d (v:=x) rfl) ?_);refine q6y (vl:=[x]) rfl (hf i x w1 E1 hx) rfl ?_;rintro e w2 ⟨rfl,E2⟩;refine ⟨_,rfl,?_⟩;(refine Ls (q1s rfl)<|a_B rfl<|q0c<|tn<|q0r ?_);exact q0e rfl rfl (v:=.bool _) rfl ⟨rfl,E2⟩
theorem gval_l (lo hi:Nat) (v:Value) (vals:List Value) (hl:vals.length≤1000000) (w:World) (hr:Row w lo hi 1 v vals.length vals) (h1:∀ x∈vals,x.oneCell'=true) (Q:Nat→Bool) (fid:FuncId) [TFun Tryz.prog fid] (fc:Array Value) (hf:q4a Tryz.prog fid fc vals Q w) :
    Calls Tryz.prog 129 #[v,.func (.func fid) #[] fc] w fun e w'=>e=.returned (.bool (decide (∀ i,i < vals.length→Q i=true)))∧Ext w w':=by
  have hv1:=q0g hr;refine q0k Tryz.func129 rfl Tryz.ntmps129 rfl ?_;(refine q0b<|q0a ?_);refine q4r (v:=.func (.func fid) #[] fc) rfl rfl ?_;intro g3 w1 B3 hg3 E1 hs1;(refine a_B rfl<|q0c<|tn<|q0b<|q0a<|Ls (q0d (v:=v) rfl) ?_);refine Ls (q3l (vf:=[]) (vc:=[.pointer (some ⟨g3,0,none⟩)]) rfl rfl) ?_;skip;refine L_fv rfl (gcon_l lo hi v vals hl w1 (hr.ext E1) h1 Q 175 #[.pointer (some ⟨g3,0,none⟩)] (gvclo_l g3 fid fc vals h1 Q w1 B3 (hf.ext E1))) ?_;intro w2 E2;(refine Ls (q1s rfl)<|a_B rfl<|q0c<|tn<|q0r ?_);refine q0e rfl rfl (v:=.bool _) rfl ⟨?_,E1.trans E2⟩;rw [Bool.not_not]
set_option maxHeartbeats 1000000 in
theorem gidx_e (lo hi:Nat) (v:Value) (l:List (Nat × Nat)) (vals:List Value) (hvals:vals=l.map fun p=>Value.agg (exC p.1 p.2).toArray) (hl:vals.length≤1000000) (w:World) (hr:Row w lo hi 2 v vals.length (exs l)) (Q:Nat→Bool) (fid:FuncId) [TFun Tryz.prog fid] (fc:Array Value) (hf:q4a Tryz.prog fid fc vals (fun i=>!Q i) w) :
    Calls Tryz.prog 191 #[v,.func (.func fid) #[] fc] w fun e w'=>∃ r:Int,e=.returned (.int .i64 r)∧(0≤r↔∃ i,i < vals.length∧Q i=false)∧Ext w w':=by
  obtain ⟨A,c,rfl⟩:∃ A c,v=.slice A vals.length c:=by
    obtain ⟨_,A,c,rfl,_⟩:=hr;exact ⟨A,c,rfl⟩
  refine q0k Tryz.func191 rfl Tryz.ntmps191 rfl ?_;(refine q0b<|q0a<|a_I rfl<|q0c<|tn<|q0b<|q0b<|q0a<|m_S rfl<|Ls (q0f rfl)<|m_I rfl<|q0c<|tn<|q0h ?_);refine q1k (fun q f w'=>∃ i,q=vals.length - i∧i≤vals.length∧(∀ j,j < i→Q j=true)∧f 0=.slice A vals.length c∧f 1=.func (.func fid) #[] fc∧f 7=.int .i64 (vals.length:Nat)∧f 8=.int .i64 (i:Nat)∧Ext w w') vals.length ?_ ?_
  · exact ⟨0,rfl,by omega,fun _ h=>by omega,rfl,rfl,rfl,rfl,Ext.refl _⟩
  · rintro q f wr ⟨i,hq,hil,hall,f0,f1,f7,f8,hE⟩;rw [fold f0,fold f1,fold f7,fold f8];(refine q0b<|q0a<|Ls (q1w rfl rfl)<|q0c<|tn<|q0b ?_);refine q1b rfl (fun h=>?_) (fun h=>?_)
    · have hlt:i < vals.length:=(by omega);obtain ⟨x,hx⟩:∃ x,vals[i]?=some x:=⟨_,List.getElem?_eq_getElem hlt⟩;have hr3:=hr.ext hE;have hvl:vals.length=l.length:=(by rw [hvals,List.length_map]);obtain ⟨p,hp⟩:∃ p,l[i]?=some p:=⟨_,List.getElem?_eq_getElem (by omega)⟩;obtain rfl:x=.agg (exC p.1 p.2).toArray:=by
        rw [hvals,List.getElem?_map,hp] at hx;exact (Option.some.inj hx).symm
      have hr4:Row wr lo hi 2 (.slice A vals.length c) l.length (exs l):=hvl ▸ hr3;obtain ⟨b0,o0,hA,_,_,_,_,_,hR⟩:=q8f hr4 hp;cases hA
      (refine q0q<|tn<|q0b<|q0h<|q0b<|q0a<|m_I rfl<|a_I rfl<|q0c<|tn<|q0b<|q0a<|Ls (q0d (v:=.func _ _ _) rfl)<|m_S rfl<|m_I rfl<|Ls (q0n rfl rfl (by omega))<|Ls (q2q (size:=2) (cs:=exC p.1 p.2) rfl hR rfl) ?_);refine q6y (vl:=[.agg (exC p.1 p.2).toArray]) rfl (hf i _ wr hE hx) rfl ?_;rintro e w2 ⟨rfl,E2⟩;refine ⟨_,rfl,?_⟩;(refine q0c<|tn ?_);refine z0w (b:=!Q i) rfl (fun h=>?_) (fun h=>?_)
      · have hQ:Q i=false:=(by simpa using h);(refine q0b<|q0a<|m_I rfl<|a_I rfl<|q0c<|tn<|q0r<|br<|tr<|tr<|br<|tr ?_);exact q0e rfl rfl (v:=.int _ _) rfl ⟨_,rfl,⟨fun _=>⟨i,hlt,hQ⟩,fun _=>by omega⟩,hE.trans E2⟩
      · have hQ:Q i=true:=(by simpa using h);(refine q0q<|bn<|tn<|q0a<|Ls (q1e rfl rfl (by omega))<|m_I rfl<|q0c<|tn ?_);refine ⟨vals.length - (i+1),by omega,i+1,rfl,by omega,fun j hj=>?_,rfl,rfl,rfl,rfl,hE.trans E2⟩;rcases Nat.lt_or_ge j i with h | h
        · exact hall j h
        · obtain rfl:j=i:=(by omega);exact hQ
    · (refine q1j<|te<|te<|bx<|tn<|q0b<|q0a<|a_I rfl<|q0c<|tn<|q0r ?_);refine q0e rfl rfl (v:=.int _ _) rfl ⟨_,rfl,⟨fun h=>by omega,?_⟩,hE⟩;rintro ⟨j,hj,hQ⟩;rw [hall j (by omega)] at hQ;cases hQ
theorem gcon_e (lo hi:Nat) (v:Value) (l:List (Nat × Nat)) (vals:List Value) (hvals:vals=l.map fun p=>Value.agg (exC p.1 p.2).toArray) (hl:vals.length≤1000000) (w:World) (hr:Row w lo hi 2 v vals.length (exs l)) (Q:Nat→Bool) (fid:FuncId) [TFun Tryz.prog fid] (fc:Array Value) (hf:q4a Tryz.prog fid fc vals (fun i=>!Q i) w) :
    Calls Tryz.prog 161 #[v,.func (.func fid) #[] fc] w fun e w'=>e=.returned (.bool (!decide (∀ i,i < vals.length→Q i=true)))∧Ext w w':=by
  have hv1:=q0g hr;refine q0k Tryz.func161 rfl Tryz.ntmps161 rfl ?_;(refine q0b<|q0a<|a_B rfl<|q0c<|tn<|q0b<|q0a<|Ls (q0d (v:=v) rfl)<|Ls (q0d (v:=.func _ _ _) rfl) ?_);refine L_fo (F:=fun u w'=>∃ r:Int,u=.int .i64 r∧(0≤r↔∃ i,i < vals.length∧Q i=false)∧Ext w w') rfl ((gidx_e lo hi v l vals hvals hl w hr Q fid fc hf).mono fun e w' ⟨r,h1,h2,h3⟩=>⟨_,h1,r,rfl,h2,h3⟩) ?_;rintro _ w1 ⟨r,rfl,hr',E1⟩;(refine Ls (z1b rfl rfl)<|a_B rfl<|q0c<|tn<|q0r ?_);refine q0e rfl rfl (v:=.bool _) rfl ⟨?_,E1⟩;rw [← all_iff hr',Bool.not_not]
theorem gvclo_e (b:Nat) (fid:FuncId) [TFun Tryz.prog fid] (fc:Array Value) (vals:List Value) (l:List (Nat × Nat)) (hvals:vals=l.map fun p=>Value.agg (exC p.1 p.2).toArray) (Q:Nat→Bool) (w:World) (hB:Blk w b 86 [.func (.func fid) #[] fc]) (hf:q4a Tryz.prog fid fc vals Q w):q4a Tryz.prog 162 #[.pointer (some ⟨b,0,none⟩)] vals (fun i=>!Q i) w:=by
  intro i x w1 E1 hx;obtain ⟨p,hp⟩:∃ p:Nat × Nat,x=.agg (exC p.1 p.2).toArray:=by
    rw [hvals,List.getElem?_map] at hx;cases h:l[i]? with
    | none=>rw [h] at hx;cases hx
    | some p=>rw [h] at hx;exact ⟨p,(Option.some.inj hx).symm⟩
  refine q0k Tryz.func162 rfl Tryz.ntmps162 rfl ?_;subst hp;(refine q0b<|q0a ?_);refine q1t rfl ?_;intro g2 w0 B2 hg2 E0 hs0;(refine a_B rfl<|q0c<|tn<|q0b<|q0a<|Ls (X_ld rfl ((hB.ext E1).ext E0) rfl)<|Ls (q1a rfl B2 rfl) ?_);refine q6y (vl:=[.agg (exC p.1 p.2).toArray]) rfl (hf i _ w0 (E1.trans E0) hx) rfl ?_;rintro e w2 ⟨rfl,E2'⟩;have E2:=E0.trans E2';refine ⟨_,rfl,?_⟩;(refine Ls (q1s rfl)<|a_B rfl<|q0c<|tn<|q0r ?_);exact q0e rfl rfl (v:=.bool _) rfl ⟨rfl,E2⟩
theorem gval_e (lo hi:Nat) (v:Value) (l:List (Nat × Nat)) (vals:List Value) (hvals:vals=l.map fun p=>Value.agg (exC p.1 p.2).toArray) (hl:vals.length≤1000000) (w:World) (hr:Row w lo hi 2 v vals.length (exs l)) (Q:Nat→Bool) (fid:FuncId) [TFun Tryz.prog fid] (fc:Array Value) (hf:q4a Tryz.prog fid fc vals Q w) :
    Calls Tryz.prog 114 #[v,.func (.func fid) #[] fc] w fun e w'=>e=.returned (.bool (decide (∀ i,i < vals.length→Q i=true)))∧Ext w w':=by
  have hv1:=q0g hr;refine q0k Tryz.func114 rfl Tryz.ntmps114 rfl ?_;(refine q0b<|q0a ?_);refine q4r (v:=.func (.func fid) #[] fc) rfl rfl ?_;intro g3 w1 B3 hg3 E1 hs1;(refine a_B rfl<|q0c<|tn<|q0b<|q0a<|Ls (q0d (v:=v) rfl) ?_);refine Ls (q3l (vf:=[]) (vc:=[.pointer (some ⟨g3,0,none⟩)]) rfl rfl) ?_;skip;refine L_fv rfl (gcon_e lo hi v l vals hvals hl w1 (hr.ext E1) Q 162 #[.pointer (some ⟨g3,0,none⟩)] (gvclo_e g3 fid fc vals l hvals Q w1 B3 (hf.ext E1))) ?_;intro w2 E2;(refine Ls (q1s rfl)<|a_B rfl<|q0c<|tn<|q0r ?_);refine q0e rfl rfl (v:=.bool _) rfl ⟨?_,E1.trans E2⟩;rw [Bool.not_not]
end Go.Proofs.YtpohjepbmgeplaaGreatDoor
namespace Go.Proofs.YtpohjepbmgeplaaGreatDoor
open Go.RowKit Go.Proofs.K
open _root_.Fd (K E pw root trow)
def chk (b o C i:Nat):Value:=.slice (some ⟨b,o+i * C * 1,none⟩) C C
def PreCk (b o R C:Nat) (i:Nat) (vs:List Value) (_:World):Prop:=i < R∧vs=[chk b o C i]
set_option maxRecDepth 100000 in
set_option maxHeartbeats 2000000 in
theorem gchunk (S:Nat→Prop) (g1 g2 b o n c R C:Nat) (hC:1≤C) (hn:n=R * C) (hnc:n≤c) (hn6:n≤1000000) (w:World) (hB1:Blk w g1 22 [.slice (some ⟨b,o,none⟩) n c]) (hB2:Blk w g2 3 [.int .i64 (C:Nat)]) (h1:¬ S g1) (h2:¬ S g2) :
    z0k Tryz.prog 148 #[.pointer (some ⟨g1,0,none⟩),.pointer (some ⟨g2,0,none⟩)] w S (PreCk b o R C) (fun i=>i=R):=by
  intro lp J Jx w1 E1 hJ hJx hY h0;refine q0k Tryz.func148 rfl Tryz.ntmps148 rfl ?_;(refine q0b<|q0a<|a_I rfl<|q0c<|tn<|q0h ?_);refine q1k (fun q f w'=>∃ i,q=R - i∧i≤R∧f 0=q3o lp∧f 1=.pointer (some ⟨g1,0,none⟩)∧f 2=.pointer (some ⟨g2,0,none⟩)∧f 4=.int .i64 ((i * C:Nat):Int)∧J i w'∧Blk w' g1 22 [.slice (some ⟨b,o,none⟩) n c]∧Blk w' g2 3 [.int .i64 (C:Nat)]) R ?_ ?_
  · exact ⟨0,rfl,by omega,rfl,rfl,rfl,by rw [Nat.zero_mul];rfl,h0,hB1.ext E1,hB2.ext E1⟩
  · rintro q f wr ⟨i,hq,hi,f0,f1,f2,f4,hj,C1,C2⟩;rw [fold f0,fold f1,fold f2,fold f4];(refine q0b<|q0b<|q0a<|m_I rfl<|Ls (X_ld rfl C1 rfl)<|Ls (q0f rfl)<|Ls (q1w rfl rfl)<|q0c<|tn ?_);refine q1b rfl (fun h=>?_) (fun h=>?_)
    · have hiR:i < R:=by
        have:i * C < R * C:=(by rw [← hn];omega);exact Nat.lt_of_mul_lt_mul_right this
      have hz:i * C+C≤n:=(by rw [hn,← Nat.succ_mul];exact Nat.mul_le_mul_right _ hiR);have hsucc:(i+1) * C=i * C+C:=Nat.succ_mul i C;have hck:chk b o C i=.slice (some ⟨b,o+i * C * 1,none⟩) C C:=rfl;have hYi:=hY i [chk b o C i];rw [hck] at hYi;generalize hzz:i * C=z at *;(refine q0q<|tn<|q0b<|q0h<|q0b ?_);apply q1h 7 (by kernel_rfl);(apply DW_x (fun r w hA hH=>(X_ld rfl (C2.ext hA) rfl).trans rfl);apply DW_x (fun r w hA hH=>(X_ld rfl (C1.ext hA) rfl).trans rfl);apply DW_x (fun r w hA hH=>(q0d (v:=.int _ _) rfl).trans rfl));((with_reducible apply DW_x);(exact fun r w hA hH=>(z2i (size:=1) z rfl rfl rfl (by omega) hnc (by omega)).trans rfl));(apply DW_x (fun r w hA hH=>(q0f rfl).trans rfl);apply DW_x (fun r w hA hH=>((X_min rfl rfl).trans (by rw [if_neg (by omega)])).trans rfl);apply DW_x (fun r w hA hH=>(q0l (v:=.int _ _) rfl).trans rfl));((with_reducible exact q1p);(exact rfl);(repeat (first | exact .inr (.inr (fun _ _=>by with_reducible rfl)) | (refine And.intro ?_ ?_) | exact .inr (.inl rfl) | exact .inl (by decide +kernel) | exact trivial | exact .inr (.inr (fun _ _=>rfl))));(try dsimp only [Nat.reduceAdd]));intro r w2 E2 _;have D1:=C1.ext E2;have D2:=C2.ext E2;(refine q0c<|tn<|q0b<|q0a<|Ls (q0d (v:=.func _ _ _) rfl)<|Ls (X_ld rfl D1 rfl)<|m_I rfl<|m_I rfl<|m_I rfl<|Ls (q1e rfl rfl (by omega))<|m_I rfl<|m_I rfl<|Ls (q1e rfl rfl (by omega)) ?_);refine Ls (z2j (size:=1) z C C (o+z * 1) rfl rfl rfl rfl rfl (by omega) (by omega) (Nat.le_refl _) (by omega) (by omega) rfl) ?_;refine q7q rfl rfl rfl (hYi w2 (hJ _ _ _ hj E2) ⟨hiR,by rw [hck]⟩) ?_;rintro e w3 (⟨rfl,hj2,hk2⟩ | ⟨rfl,hjx⟩)
      · refine ⟨.bool true,rfl,?_⟩;have F1:=hk2.blk D1 h1;have F2:=hk2.blk D2 h2;(refine Ls (q1s rfl)<|q0c<|tn<|q0x rfl<|q0q<|bn<|tn<|q0a<|m_I rfl<|Ls (X_ld rfl F2 rfl)<|Ls (q1e rfl rfl (by omega))<|a_I rfl<|q0c<|tn ?_);exact ⟨R - (i+1),by omega,i+1,rfl,by omega,rfl,rfl,rfl,by rw [hsucc];rfl,hj2,F1,F2⟩
      · refine ⟨.bool false,rfl,?_⟩;(refine Ls (q1s rfl)<|q0c<|tn<|q0z rfl<|q0r<|br<|tr<|tr<|br ?_);refine q4g rfl rfl ?_;exact ⟨⟨_,rfl⟩,.inr hjx⟩
    · have hiR:i=R:=by
        have:¬ i < R:=fun hlt=>by
          have:i * C < R * C:=Nat.mul_lt_mul_of_pos_right hlt (by omega);rw [← hn] at this;omega
        omega
      (refine q1j<|te<|te<|bx ?_);refine q4h rfl rfl ?_;exact ⟨⟨_,rfl⟩,.inl ⟨_,hiR,hj⟩⟩
theorem gchunkMk (v:Value) (hv:v.oneCell'=true) (C:Nat) (hC:1≤C) (w:World) :
    Calls Tryz.prog 103 #[v,.int .i64 (C:Nat)] w fun e w'=>∃ q,e=.returned q∧∃ g1 g2,q=.func (.func 148) #[] #[.pointer (some ⟨g1,0,none⟩),.pointer (some ⟨g2,0,none⟩)]∧Ext w w'∧Blk w' g1 22 [v]∧Blk w' g2 3 [.int .i64 (C:Nat)]:=by
  refine q0k Tryz.func103 rfl Tryz.ntmps103 rfl ?_;(refine q0b<|q0a ?_);refine q4r rfl hv ?_;intro g1 w1 B1 hg1 E1 hs1;refine q4r rfl rfl ?_;intro g2 w2 B2 hg2 E2 hs2;(refine Ls (q0l (v:=Value.nilFunc) rfl)<|q0c<|tn<|q0b<|q0b<|q0a<|Ls (X_ld rfl B2 rfl)<|Ls (q2i rfl rfl (by omega))<|q0c<|tn<|q0x rfl<|q0q<|tn<|q0b<|q0a ?_);refine Ls (q3l (vf:=[]) (vc:=[.pointer (some ⟨g1,0,none⟩),.pointer (some ⟨g2,0,none⟩)]) rfl rfl) ?_;(refine Ls (q0l (v:=.func _ _ _) rfl)<|q0c<|tn<|q0r ?_);refine q0e rfl rfl (v:=.func _ _ _) rfl ⟨_,rfl,g1,g2,rfl,E1.trans E2,B1.ext E2,B2⟩
set_option maxRecDepth 100000 in
set_option maxHeartbeats 2000000 in
theorem gappseq (gf:FuncId) (lb:Array Value) (he:Enters Tryz.prog gf) (xs:List Value) (h1:∀ x∈xs,x.oneCell'=true) (hl:xs.length≤1000000) (w:World)
    (hit:∀ w1,Ext w w1→z0k Tryz.prog gf lb w1 (fun k=>w.heap.size≤k) (fun i vs _=>∃ x,xs[i]?=some x∧vs=[x]) (fun i=>i=xs.length)) :
    Calls Tryz.prog 147 #[.slice none 0 0,.func (.func gf) #[] lb] w fun e w'=>∃ q,e=.returned q∧Ext w w'∧w'.ownsRow w.heap.size 22 1 q xs.length xs:=by
  refine q6s Tryz.func147 rfl Tryz.ntmps147 rfl ?_;refine q4v ?_;(refine q0a ?_);refine q4r (v:=.slice none 0 0) rfl rfl ?_;intro g2 w1 B2 hg2 E1 hs1;(refine a_S rfl<|q0c<|tn ?_);refine z0x ?_;(refine q0a<|Ls (q0d (v:=.func _ _ _) rfl)<|q0c<|tn ?_);refine q9l (ps:=[7]) (fun k=>w.heap.size≤k) rfl he (fun i vs a h=>by obtain ⟨_,_,rfl⟩:=h;rfl) (hit w1 E1)
    (fun i y=>∃ v,Blk y g2 38 [v]∧y.ownsRow w.heap.size 22 1 v i (xs.take i)∧i≤xs.length) (fun _=>False)
    (fun i x y h C=>by obtain ⟨v,h1,h2,h3⟩:=h;exact ⟨v,C.blk h1,C.own h2,h3⟩) (fun _ _ h _=>h) ⟨.slice none 0 0,B2,⟨rfl,.inl ⟨rfl,rfl⟩⟩,by omega⟩
    (fun i vs a f' y=>∃ x,xs[i]?=some x∧y=a∧f' 2=.pointer (some ⟨g2,0,none⟩)∧f' 5=x) (fun i vs a f' b h=>by obtain ⟨_,_,rfl,_⟩:=h;exact Ext.refl _) (fun lp vs i y hi hM hp=>?_) (fun lp i vs a f' z y hi hM hp hga hac hbc=>?_) (fun D y hD hdn hM hbD=>?_)
  · obtain ⟨x,hx,rfl⟩:=hp;(refine q0a<|Ls (q0l (v:=x) rfl)<|q0c ?_);exact ⟨rfl,x,hx,rfl,rfl,rfl⟩
  · obtain ⟨v,I1,I2,I3⟩:=hi;obtain ⟨x,hx,rfl,f2,f5⟩:=hga;have hix:i < xs.length:=(List.getElem?_eq_some_iff.1 hx).1;have hx1:=h1 x (List.mem_of_getElem? hx);have hv1:=q0g (Row.of_own I2);have hMs:=hM.size;rw [fold f2,fold f5];(refine q0h<|q0a<|Ls (X_ld rfl I1 rfl)<|Ls (q0d (v:=x) rfl) ?_);refine q3v (v:=x) rfl hx1 ?_;intro u w3 r3 E3 hs3 _;refine q1n (v:=v) (u:=u) rfl rfl (q0p I2 E3) r3 (fun q hq=>by rw [List.mem_singleton.1 hq];exact hx1) (by omega) (by omega) (by have:=E3.size;have:=E1.size;omega) ?_;intro v4 w4 o4 hg4 _;have hv4:=q0g (Row.of_own o4);have G2:=(I1.ext E3).grown hg4 (fun h=>by
      obtain ⟨_,cs,fz,e⟩:=q1g I2 g2 h
      exact q2p I1 e (by decide))
    have M4:Mut (fun k=>w.heap.size≤k) y w4:=(Mut.of_ext E3).trans (Mut.app (q0p I2 E3) hg4 (fun q hq=>(q1g I2 q hq).1));skip;refine q1m (v:=v4) rfl rfl hv4 G2 (by simp) ?_;intro w5 G2' hg5 hs5;(refine q0c<|bn ?_);refine ⟨M4.trans (Mut.store G2 hg5 (by show w.heap.size≤g2;omega)),v4,G2',?_,by omega⟩;rw [List.take_add_one,hx];exact q1i o4 hg5 (fun q hq h=>by
      obtain rfl:g2=q:=Option.some.inj h
      obtain ⟨_,cs,fz,e⟩:=q1g o4 g2 hq
      exact q2p G2 e (by decide))
  · obtain ⟨i,hfin,v,I1,I2,I3⟩:∃ i,i=xs.length∧∃ v,Blk y g2 38 [v]∧y.ownsRow w.heap.size 22 1 v i (xs.take i)∧i≤xs.length:=hdn.elim id False.elim;subst hfin;rw [List.take_length] at I2;have hv1:=q0g (Row.of_own I2);refine z0y ?_;(refine q0b<|q0a<|Ls (X_ld rfl I1 rfl)<|Ls (q0l (v:=v) rfl)<|q0c<|tn<|q0r ?_);refine q5c w1.heap.size [D] rfl rfl (by simp) (fun D' h=>?_) (fun w' hc=>⟨Res.tmp (v:=v) rfl .nil,v,rfl,?_,hc.own I2⟩)
    · rw [List.mem_singleton.1 h];exact ⟨by omega,hbD⟩
    · exact hc.toExt (hM.toExt E1 (fun k h=>h)) (by omega)
theorem gcollect (gf:FuncId) (lb:Array Value) (he:Enters Tryz.prog gf) (xs:List Value) (h1:∀ x∈xs,x.oneCell'=true) (hl:xs.length≤1000000) (w:World)
    (hit:∀ w1,Ext w w1→z0k Tryz.prog gf lb w1 (fun k=>w.heap.size≤k) (fun i vs _=>∃ x,xs[i]?=some x∧vs=[x]) (fun i=>i=xs.length)) :
    Calls Tryz.prog 102 #[.func (.func gf) #[] lb] w fun e w'=>∃ q,e=.returned q∧Ext w w'∧w'.ownsRow w.heap.size 22 1 q xs.length xs:=by
  refine q0k Tryz.func102 rfl Tryz.ntmps102 rfl ?_;(refine q0b<|q0a<|a_S rfl<|q0c<|tn<|q0b<|q0a<|Ls (q0d (v:=.func _ _ _) rfl) ?_);refine L_fo rfl (gappseq gf lb he xs h1 hl w hit) ?_;rintro q w1 ⟨E1,o1⟩;have hq1:=q0g (Row.of_own o1);(refine Ls (q0l (v:=q) rfl)<|q0c<|tn<|q0r ?_);exact q0e rfl rfl (v:=q) rfl ⟨q,rfl,E1,o1⟩
end Go.Proofs.YtpohjepbmgeplaaGreatDoor
namespace Go.Proofs.YtpohjepbmgeplaaGreatDoor
open Go.RowKit Go.Proofs.K
open _root_.Fd (K E pw root trow enc)
open _root_.Cm (Sh)
theorem SOk.sh {R C B T log:Int} (h:SOk R C B T log):∃ s:Sh,s.Ok∧R=((s.R:Nat):Int)∧C=((s.C:Nat):Int)∧B=((s.B:Nat):Int)∧T=((s.t:Nat):Int)∧log=((s.a+s.c:Nat):Int):=by
  obtain ⟨a,ha,hRa⟩:=z0r h.r;obtain ⟨c,hc,hCc⟩:=z0r h.c;have hs:=h.s;rw [ha,hc] at hs;have hl:=h.l16;obtain ⟨b,hb1,hb4,hBb⟩:∃ b:Nat,1≤b∧b≤4∧B=((2 ^ b:Nat):Int):=by
    rcases h.b with e | e | e | e
    · exact ⟨1,by omega,by omega,e⟩
    · exact ⟨2,by omega,by omega,e⟩
    · exact ⟨3,by omega,by omega,e⟩
    · exact ⟨4,by omega,by omega,e⟩
  have hn:=h.n;have hBC:B * C=((2 ^ (c+b):Nat):Int):=by rw [hBb,hCc,Nat.add_comm,Nat.pow_add,Int.natCast_mul]
  have ht1:=h.t1;have ht64:=h.t64;have htn:=h.tn;rw [hBC] at hn htn;have hcb:c+b≤16:=by
    rcases Nat.lt_or_ge 16 (c+b) with h1 | h1
    · have:2 ^ 17≤2 ^ (c+b):=Nat.pow_le_pow_right (by decide) h1;generalize 2 ^ (c+b)=z at *;omega
    · exact h1
  refine ⟨⟨a,c,b,T.toNat⟩,⟨by show a+c≤16;omega,hb1,hb4,hcb,by show 1≤T.toNat;omega,by show T.toNat≤64;omega,?_⟩,hRa,hCc,hBb,by show T=((T.toNat:Nat):Int);omega,by show log=((a+c:Nat):Int);omega⟩;show T.toNat≤2 ^ (c+b);generalize 2 ^ (c+b)=z at *;omega
theorem sh_ok {s:Sh} (h:s.Ok):SOk (s.R:Nat) (s.C:Nat) (s.B:Nat) (s.t:Nat) ((s.a+s.c:Nat):Int):=by
  have p1:lgI ((s.R:Nat):Int)=s.a:=q5f s.a;have p2:lgI ((s.C:Nat):Int)=s.c:=q5f s.c;have hac:=h.ac;have hBC:((s.B:Nat):Int) * ((s.C:Nat):Int)=((s.n:Nat):Int):=by rw [← Int.natCast_mul,Cm.Sh.BC]
  have hn:s.n≤65536:=(q1f h.cb).2;have ht:s.t≤s.n:=h.tn;refine ⟨by omega,by omega,by omega,by omega,by omega,?_,by rw [hBC];omega,by have:=h.t1;omega,by have:=h.t64;omega,by rw [hBC];omega⟩;have b1:=h.b1;have b4:=h.b4;unfold Cm.Sh.B;have hb:s.b=1∨s.b=2∨s.b=3∨s.b=4:=by omega
  rcases hb with e | e | e | e <;> rw [e] <;> simp
theorem z0k.imp {P:Program} {gf:FuncId} {lb:Array Value} {w:World} {S:Nat→Prop} {Pre Pre':Nat→List Value→World→Prop} {Fin:Nat→Prop} (h:z0k P gf lb w S Pre Fin) (hp:∀ i vs a,Pre i vs a→Pre' i vs a):z0k P gf lb w S Pre' Fin :=
  fun l J Jx w1 E hJ hJx hY h0=>h l J Jx w1 E hJ hJx (fun i v a hj hq=>hY i v a hj (hp i v a hq)) h0
theorem q9n {t:List K} {i:Nat} {x:K} (h:t[i]?=some x):(vals t)[i]?=some x.val:=by unfold vals;rw [List.getElem?_map,h];rfl
theorem chk_row {w:World} {lo hi b o n c R C r:Nat} {t:List K} (hr:Row w lo hi 1 (.slice (some ⟨b,o,none⟩) n c) n (ints .u64 (vals t))) (hl:t.length=n) (hn:n=R * C) (hrR:r < R) (hC:1≤C):Row w lo hi 1 (chk b o C r) C (ints .u64 (vals (trow t C r))):=by
  have hz:r * C+C≤n:=by rw [hn,← Nat.succ_mul];exact Nat.mul_le_mul_right _ hrR
  obtain ⟨b',o',c',e,hc,h1,h2,h3⟩:=hr.at (k:=0) (by omega);cases e
  have hcm:c≤maxLen:=by
    obtain ⟨_,A,c',e,_,h,_⟩:=hr;cases e;exact h
  refine ⟨by rw [q0o,q2e,Fd.trow_len,Nat.mul_one],_,C,rfl,Nat.le_refl _,by omega,fun _=>⟨b,_,rfl,h1,h2,q6l h3 fun j u hu=>?_⟩⟩;have hj:j < C:=by
    have:=(List.getElem?_eq_some_iff.1 hu).1;rw [q0o,q2e,Fd.trow_len] at this;exact this
  have hin:j+C * r < t.length:=by rw [hl,Nat.mul_comm];omega
  have e1:(trow t C r)[j]?=some t[j+C * r]:=by
    unfold Fd.trow;rw [List.getElem?_map,List.getElem?_range hj];show some (t.getD (j+C * r) 0)=_;rw [List.getD_eq_getElem?_getD,List.getElem?_eq_getElem hin];rfl
  rw [q2t (q9n e1)] at hu;rw [← hu,Nat.mul_one,show r * C+j=j+C * r by rw [Nat.mul_comm];omega];exact q2t (q9n (List.getElem?_eq_getElem hin))
theorem z3c (l:List Nat) (w:World):q4a Tryz.prog 101 #[] (ints .u64 l) (fun i=>decide (l.getD i 0 < Fd.pr)) w:=by
  intro i x w' E hx;have hi:i < l.length:=by
    have:=(List.getElem?_eq_some_iff.1 hx).1;rwa [q0o] at this
  have hg:l[i]?=some (l.getD i 0):=by rw [List.getD_eq_getElem?_getD,List.getElem?_eq_getElem hi];rfl
  rw [q2t hg] at hx;cases hx
  exact gvalid (l.getD i 0) w'
theorem vals_lt (t:List K):decide (∀ i,i < (ints .u64 (vals t)).length→decide ((vals t).getD i 0 < Fd.pr)=true)=true:=by
  rw [decide_eq_true_eq];intro i hi;rw [q0o,q2e] at hi;rw [decide_eq_true_eq,List.getD_eq_getElem?_getD,q9n (List.getElem?_eq_getElem hi)];exact (t[i]).isLt
def RowsAt (w0 w:World) (lo hi:Nat) (q:Value) (t:List K) (R C:Nat):Prop :=
  ∃ xs:List Value,w.ownsRow w0.heap.size 22 1 q R xs∧∀ r x,xs[r]?=some x→Row w lo hi 1 x C (ints .u64 (vals (trow t C r)))
set_option maxRecDepth 100000 in
set_option maxHeartbeats 2000000 in
theorem grows (lo hi:Nat) (v:Value) (t:List K) (ht:t.length≤1000000) (R C B T:Int) (hR:I64 R) (hC:I64 C) (hB:I64 B) (hT:I64 T) (w:World) (hr:Row w lo hi 1 v t.length (ints .u64 (vals t))) :
    Calls Tryz.prog 50 #[v,.agg (shC R C B T).toArray] w fun e w'=>Ext w w'∧((SOk R C B T (lgI (t.length:Nat))∧∃ q,e=.returned (.tuple #[q,.bool true])∧RowsAt w w' lo hi q t R.toNat C.toNat)∨(¬ SOk R C B T (lgI (t.length:Nat))∧e=.returned (.tuple #[.slice none 0 0,.bool false]))):=by
  obtain ⟨A,c,rfl⟩:∃ A c,v=.slice A t.length c:=by
    obtain ⟨_,A,c,rfl,_⟩:=hr;exact ⟨A,c,rfl⟩
  have hlb:=lgI_bd (n:=((t.length:Nat):Int)) (by omega);refine q0k Tryz.func50 rfl Tryz.ntmps50 rfl ?_;(refine q0b<|q0a ?_);refine q1t rfl ?_;intro g3 w1 B3 hg3 E1 hs1;(refine a_S rfl<|a_B rfl<|q0c<|tn<|q0b<|q0b ?_);apply q1h 4 (by kernel_rfl);(apply DW_x (fun r w hA hH=>(q1a (cs:=shC R C B T) rfl (B3.ext hA) rfl).trans rfl);apply DW_x (fun r w hA hH=>(q0d (v:=.slice _ _ _) rfl).trans rfl);apply DW_x (fun r w hA hH=>(q0f rfl).trans rfl));((with_reducible apply q1x);(exact fun _=>rfl);(exact fun _=>rfl);(exact fun r w hA hH=>gcpow ((t.length:Nat):Int) (by omega) (by omega) w));((with_reducible exact q1p);(exact rfl);(repeat (first | exact .inr (.inr (fun _ _=>by with_reducible rfl)) | (refine And.intro ?_ ?_) | exact .inr (.inl rfl) | exact .inl (by decide +kernel) | exact trivial | exact .inr (.inr (fun _ _=>rfl))));(try dsimp only [Nat.reduceAdd]));intro r0 w2 E2 _;have C3:=B3.ext E2;refine L_fo (F:=fun u w'=>∃ b:Bool,u=.bool b∧(b=true↔SOk R C B T (lgI (t.length:Nat)))∧Ext w2 w') rfl ((z4g R C B T (lgI (t.length:Nat)) hR hC hB hT ⟨by omega,by omega⟩ w2).mono fun e w' ⟨b,h1,h2,h3⟩=>⟨_,h1,b,rfl,h2,h3⟩) ?_;rintro _ w3 ⟨b,rfl,hb,E3⟩;have C3:=C3.ext E3;have E13:=E1.trans (E2.trans E3);cases b with
  | false =>
    (refine Ls (q1s rfl)<|m_B rfl<|Lo2 rfl rfl rfl rfl<|Lo2 rfl rfl rfl rfl<|Lo2 rfl rfl rfl rfl<|Ls (q0v (v:=.bool _) rfl rfl)<|q0c<|tn<|q0z rfl<|q0b<|q0a<|a_S rfl<|a_B rfl<|q0c<|tn<|q0r<|tr ?_);exact q2z rfl rfl (v:=.slice none 0 0) (x:=.bool _) rfl rfl ⟨E13,.inr ⟨fun h=>(by have:=hb.2 h;cases this),rfl⟩⟩
  | true =>
    have hok:=hb.1 rfl;obtain ⟨s,hs,rfl,rfl,rfl,rfl,hlog⟩:=hok.sh;have hn:t.length=s.R * s.C:=by
      have h0:0≤lgI ((t.length:Nat):Int):=(by rw [hlog];omega);obtain ⟨a,h1,h2⟩:=z0r h0;rw [h1] at hlog;rw [Cm.Sh.RC,show s.a+s.c=a by omega];exact Int.ofNat.inj h2
    have hC1:1≤s.C:=Nat.pow_pos (by decide);have hR1:1≤s.R:=Nat.pow_pos (by decide);have hR16:s.R≤65536:=(q1f (a:=s.a) (by have:=hs.ac;omega)).2;have ht1:1≤t.length:=(by rw [hn];exact Nat.mul_pos hR1 hC1);obtain ⟨b0,o0,c0,e,hmc,h1,h2,h3⟩:=hr.at (k:=0) (by omega);cases e
    (refine Ls (q1s rfl)<|m_B rfl<|Lg2 rfl rfl rfl (q0d (v:=.slice _ _ _) rfl) ?_);refine q1z rfl rfl rfl ?_;refine L_fv rfl (gval_u lo hi _ (ints .u64 (vals t)) (by rw [q0o,q2e];omega) w3 ((hr.ext E13).re (by rw [q0o,q2e]) rfl) q1c (fun i=>decide ((vals t).getD i 0 < Fd.pr)) 101 #[] (z3c (vals t) w3)) ?_;intro w4 E4;rw [vals_lt];have C3:=C3.ext E4;(refine Lg2 rfl rfl rfl (q1s rfl)<|Ls (q0s (v:=.bool _) rfl rfl)<|q0c<|tn<|q0x rfl<|q0q<|tn<|q0b<|q0a<|m_S rfl<|Ls (q0i rfl)<|Ls (X_ld (cs:=shC (s.R:Nat) (s.C:Nat) (s.B:Nat) (s.t:Nat)) rfl C3 rfl) ?_);refine L_fo rfl (gchunkMk (.slice (some ⟨b0,o0,none⟩) t.length c) rfl s.C hC1 w4) ?_;rintro q w5 ⟨g1,g2,rfl,E5,D1,D2⟩;obtain ⟨xs,hxs⟩:∃ xs,xs=(List.range s.R).map (chk b0 o0 s.C):=⟨_,rfl⟩;have hxl:xs.length=s.R:=(by rw [hxs];simp);have hxg:∀ r x,xs[r]?=some x→r < s.R∧x=chk b0 o0 s.C r:=fun r x h=>by
      have hr:=(List.getElem?_eq_some_iff.1 h).1;rw [hxl] at hr;rw [hxs,List.getElem?_map,List.getElem?_range hr] at h;exact ⟨hr,(Option.some.inj h).symm⟩
    have hE5:=E13.trans (E4.trans E5);refine L_fo rfl (gcollect 148 #[.pointer (some ⟨g1,0,none⟩),.pointer (some ⟨g2,0,none⟩)] (enters_of Tryz.func148 (by kernel_rfl) rfl) xs (fun x hx=>by
      obtain ⟨r,hr⟩:=List.mem_iff_getElem?.1 hx
      rw [(hxg r x hr).2];rfl) (by omega) w5 (fun y E=>by
      have hh:=gchunk (fun k=>w5.heap.size≤k) g1 g2 b0 o0 t.length c s.R s.C hC1 hn hmc (by omega) y (D1.ext E) (D2.ext E) (by have:=D1.lt;show ¬ (w5.heap.size≤g1);omega) (by have:=D2.lt;show ¬ (w5.heap.size≤g2);omega)
      rw [hxl]
      refine z0k.imp hh fun i vs a hp=>⟨chk b0 o0 s.C i,?_,hp.2⟩
      rw [hxs,List.getElem?_map,List.getElem?_range hp.1];rfl)) ?_
    rintro q6 w6 ⟨E6,o6⟩;have hq6:=q0g (Row.of_own o6);(refine Ls (q0l (v:=q6) rfl)<|a_B rfl<|q0c<|tn<|q0r ?_);refine q2z rfl rfl (v:=q6) (x:=.bool _) rfl rfl ⟨hE5.trans E6,.inl ⟨hok,q6,rfl,xs,?_,fun r x h=>?_⟩⟩
    · rw [Int.toNat_natCast,← hxl];exact q1l o6 hE5.size
    · obtain ⟨h4,rfl⟩:=hxg r x h;rw [Int.toNat_natCast];exact chk_row (hr.ext (hE5.trans E6)) rfl hn h4 hC1
def cws (t:List K) (s:Sh):List (List Nat):=(List.range s.R).map fun r=>vals (enc (trow t s.C r) (s.c+s.b))
theorem q3y (t:List K) (s:Sh):(cws t s).length=s.R:=by unfold cws;simp
set_option maxRecDepth 100000 in
set_option maxHeartbeats 4000000 in
theorem z0a (lo hi:Nat) (v:Value) (t:List K) (ht:t.length≤1000000) (R C B T:Int) (hR:I64 R) (hC:I64 C) (hB:I64 B) (hT:I64 T) (w:World) (hw:Tb w) (hr:Row w lo hi 1 v t.length (ints .u64 (vals t))) :
    Calls Tryz.prog 12 #[v,.agg (shC R C B T).toArray] w fun e w'=>Ext w w'∧((∃ s:Sh,s.Ok∧R=((s.R:Nat):Int)∧C=((s.C:Nat):Int)∧B=((s.B:Nat):Int)∧T=((s.t:Nat):Int)∧lgI (t.length:Nat)=((s.a+s.c:Nat):Int)∧t.length=s.R * s.C∧∃ q,e=.returned (.tuple #[q,.int .i64 0])∧q2f (fun k=>w.heap.size≤k∧k < w'.heap.size) w' .u64 q (cws t s))∨(¬ SOk R C B T (lgI (t.length:Nat))∧e=.returned (.tuple #[.slice none 0 0,.int .i64 1]))):=by
  have hv1:=q0g hr;have hr:=hr.tightN (by decide);refine q0k Tryz.func12 rfl Tryz.ntmps12 rfl ?_;(refine q0b<|q0a ?_);refine q1t rfl ?_;intro g3 w1 B3 hg3 E1 hs1;(refine a_S rfl<|a_I rfl<|q0c<|tn<|q0b<|q0a<|Ls (q0d (v:=v) rfl)<|Ls (q1a (cs:=shC R C B T) rfl B3 rfl) ?_);refine L_fo (F:=fun u w'=>Ext w1 w'∧((SOk R C B T (lgI (t.length:Nat))∧∃ q,u=.tuple #[q,.bool true]∧RowsAt w1 w' lo w.heap.size q t R.toNat C.toNat)∨(¬ SOk R C B T (lgI (t.length:Nat))∧u=.tuple #[.slice none 0 0,.bool false]))) rfl ((grows lo w.heap.size v t ht R C B T hR hC hB hT w1 (hr.ext E1)).mono fun e w' ⟨h1,h2⟩=>by
    rcases h2 with ⟨h2,q,h3,h4⟩ | ⟨h2,h3⟩
    · exact ⟨_,h3,h1,.inl ⟨h2,q,rfl,h4⟩⟩
    · exact ⟨_,h3,h1,.inr ⟨h2,rfl⟩⟩) ?_
  rintro _ w2 ⟨E2,⟨hok,q,rfl,xs,o2,hx2⟩ | ⟨hno,rfl⟩⟩
  · obtain ⟨s,hs,rfl,rfl,rfl,rfl,hlog⟩:=hok.sh;have hn:t.length=s.R * s.C:=by
      have h0:0≤lgI ((t.length:Nat):Int):=(by rw [hlog];omega);obtain ⟨a,h1,h2⟩:=z0r h0;rw [h1] at hlog;rw [Cm.Sh.RC,show s.a+s.c=a by omega];exact Int.ofNat.inj h2
    rw [Int.toNat_natCast] at o2 hx2;have hR1:1≤s.R:=Nat.pow_pos (by decide);have hR16:s.R≤65536:=(q1f (a:=s.a) (by have:=hs.ac;omega)).2;have hxl:xs.length=s.R:=(by rw [o2.1,Nat.mul_one]);obtain ⟨gq,cq,rfl,hgq1,hgq2,hgq3,hgq4⟩:=q7x o2 hR1;have E12:=E1.trans E2;have C3:=B3.ext E2;have hz1:=E1.size;have hl3:=B3.lt;have hgB:w1.heap.size≤gq:=hgq1;(refine m_T rfl<|Ls (q0t rfl rfl)<|Ls (q0t rfl rfl)<|a_S rfl<|a_B rfl<|q0c<|tn<|q0b<|q0b<|q0a<|m_B rfl<|Ls (q1s rfl)<|q0c<|tn ?_);refine q0x rfl ?_;(refine q0q<|tn<|q0b<|q0b<|q0a<|m_S rfl<|Ls (q0f rfl)<|m_I rfl<|q0c<|tn<|q0h ?_);refine q1k (fun q f w'=>∃ i zs,q=s.R - i∧i≤s.R∧f 3=.pointer (some ⟨g3,0,none⟩)∧f 6=.slice (some ⟨gq,0,none⟩) s.R cq∧f 18=.slice (some ⟨gq,0,none⟩) s.R cq∧f 19=.int .i64 (s.R:Nat)∧f 20=.int .i64 (i:Nat)∧Blk w' g3 28 (shC (s.R:Nat) (s.C:Nat) (s.B:Nat) (s.t:Nat)) ∧
      w'.ownsRow w1.heap.size 22 1 (.slice (some ⟨gq,0,none⟩) s.R cq) s.R zs∧(∀ r x,i≤r→zs[r]?=some x→xs[r]?=some x)∧(∀ r x,r < i→zs[r]?=some x→w'.ownsRow w.heap.size 29 1 x (s.B * s.C) (ints .u64 (vals (enc (trow t s.C r) (s.c+s.b)))))∧Ext w w'∧w2.heap.size≤w'.heap.size∧w2.grownBy w' (some gq)) s.R ?_ ?_
    · exact ⟨0,xs,rfl,by omega,rfl,rfl,rfl,rfl,rfl,C3,o2,fun _ _ _ h=>h,fun _ _ h=>by omega,E12,Nat.le_refl _,(Ext.refl w2).row _⟩
    · rintro q f wr ⟨i,zs,hq,hi',f3,f6,f18,f19,f20,D3,oz,hz1',hz2',hE,hsz,hG⟩;rw [fold f3,fold f6,fold f18,fold f19,fold f20];(refine q0b<|q0a<|Ls (q1w rfl rfl)<|q0c<|tn<|q0b ?_);refine q1b rfl (fun h=>?_) (fun h=>?_)
      · have hlt:i < s.R:=(by omega);have hzl:zs.length=s.R:=(by rw [oz.1,Nat.mul_one]);obtain ⟨x,hx⟩:∃ x,zs[i]?=some x:=⟨_,List.getElem?_eq_getElem (by omega)⟩;have hxx:=hz1' i x (Nat.le_refl _) hx;have hrx:=hx2 i x hxx;have hx1:=q0g hrx;have hRz:=q4o oz;have hrw:Row wr lo w.heap.size 1 x s.C (ints .u64 (vals (trow t s.C i))):=hrx.grown hG (fun g h=>by cases h;right;omega);have hEs:=hE.size;have hl3':=D3.lt;(refine q0q<|tn<|q0b<|q0h<|q0b<|q0a<|m_I rfl<|Ls (q0n rfl rfl (by omega))<|Ls (q1v rfl hRz (j:=i) (by omega) hx)<|a_I rfl<|Ls (q0l (v:=x) rfl)<|q0c<|tn<|q0a<|m_S rfl<|m_I rfl<|Ls (q0d (v:=x) rfl)<|Ls (q0i rfl)<|Ls (X_ld (cs:=shC (s.R:Nat) (s.C:Nat) (s.B:Nat) (s.t:Nat)) rfl D3 rfl) ?_);refine L_fo (F:=fun u w'=>∃ y,u=.tuple #[y,.int .i64 0]∧Ext wr w'∧w'.ownsRow wr.heap.size 29 1 y (s.B * s.C) (ints .u64 (vals (enc (trow t s.C i) (s.c+s.b))))) rfl ((gencode (a:=s.c) (b:=s.b) (c:=s.C) (m:=s.B) hs.b1 hs.b4 hs.cb rfl rfl lo w.heap.size x (trow t s.C i) (Fd.trow_len _ _ _) wr (hw.ext hE) hrw).mono fun e w' ⟨y,h1,h2,h3⟩=>⟨_,h1,y,rfl,h2,h3⟩) ?_;rintro _ w4 ⟨y,rfl,E4,o4⟩;have hy1:=q0g (Row.of_own o4);(refine m_T rfl<|Ls (q0t rfl rfl)<|Ls (q0t rfl rfl)<|Ls (q0n rfl rfl (by omega)) ?_);refine q5n (i:=i) (v:=y) (q0p oz E4) rfl rfl (by omega) hy1 hlt ?_;intro w5 o5 hg5 hs5;(refine q0c<|bn<|tn<|q0a<|Ls (q1e rfl rfl (by omega))<|m_I rfl<|q0c<|tn ?_);have hx5:∀ (z:Value) (m:Nat) (l:List Value),w4.ownsRow w.heap.size 29 1 z m l→w5.ownsRow w.heap.size 29 1 z m l:=fun z m l h=>q1i h hg5 (fun g hg e=>by
          obtain rfl:gq=g:=Option.some.inj e
          obtain ⟨_,cs,fz,e1⟩:=q1g h gq hg
          obtain ⟨_,cs',fz',e2⟩:=q1g (q0p oz E4) gq rfl
          rw [e1] at e2
          cases e2)
        refine ⟨s.R - (i+1),by omega,i+1,zs.set i y,rfl,by omega,rfl,rfl,rfl,rfl,rfl,(D3.ext E4).grown hg5 (by simp;omega),o5,fun r z hr' hz=>?_,fun r z hr' hz=>?_,(hE.trans E4).then hg5 (fun g h=>by cases h;omega),by have:=E4.size;omega,q1o (q1o hG E4 (fun _ h=>by cases h)) hg5 (fun g h=>.inl h)⟩
        · rw [List.getElem?_set_ne (by omega)] at hz;exact hz1' r z (by omega) hz
        · by_cases hri:r=i
          · subst hri;rw [List.getElem?_set_self (by omega)] at hz;cases hz
            exact hx5 _ _ _ (q1l o4 hEs)
          · rw [List.getElem?_set_ne (by omega)] at hz;exact hx5 _ _ _ (q0p (hz2' r z (by omega) hz) E4)
      · have hiR:i=s.R:=(by omega);subst hiR;have hzl:zs.length=s.R:=(by rw [oz.1,Nat.mul_one]);(refine q1j<|te<|te<|bx<|tn<|q0b<|q0a<|m_S rfl<|a_S rfl<|a_I rfl<|q0c<|tn<|q0r ?_);refine q2z rfl rfl (v:=.slice _ _ _) (x:=.int _ _) rfl rfl ⟨hE,.inl ⟨s,hs,rfl,rfl,rfl,rfl,hlog,hn,_,rfl,zs,by rw [q3y];exact hzl,?_,fun r x y hx hy=>?_⟩⟩
        · rw [q3y];refine (RowN.of_own oz).mono fun k hk=>⟨by omega,hk.2⟩
        · have hrl:r < s.R:=by
            have:=(List.getElem?_eq_some_iff.1 hx).1;omega
          have hy':y=vals (enc (trow t s.C r) (s.c+s.b)):=by
            unfold cws at hy;rw [List.getElem?_map,List.getElem?_range hrl] at hy;exact (Option.some.inj hy).symm
          rw [hy'];have hh:=RowN.of_own (hz2' r x hrl hx);exact hh.re (by rw [q2e,Fd.enc_len,Cm.Sh.BC];rfl) rfl
  · (refine m_T rfl<|Ls (q0t rfl rfl)<|Ls (q0t rfl rfl)<|a_S rfl<|a_B rfl<|q0c<|tn<|q0b<|q0b<|q0a<|m_B rfl<|Ls (q1s rfl)<|q0c<|tn ?_);refine q0z rfl ?_;(refine q0b<|q0a<|a_S rfl<|a_I rfl<|q0c<|tn<|q0r<|tr ?_);exact q2z rfl rfl (v:=.slice none 0 0) (x:=.int _ _) rfl rfl ⟨E1.trans E2,.inr ⟨hno,rfl⟩⟩
end Go.Proofs.YtpohjepbmgeplaaGreatDoor
namespace Go.Proofs.YtpohjepbmgeplaaGreatDoor
open Go.RowKit Go.Proofs.K
open _root_.Fd (K E pw root trow enc ccol)
open _root_.Cm (Sh)
def colM (M:List (List Nat)) (j:Nat):List Nat:=M.map fun r=>r.getD j 0
theorem q7z (M:List (List Nat)) (j:Nat):(colM M j).length=M.length:=by unfold colM;simp
theorem colM_get {M:List (List Nat)} {r j:Nat} {d:List Nat} (h:M[r]?=some d):(colM M j)[r]?=some (d.getD j 0):=by unfold colM;rw [List.getElem?_map,h];rfl
def PreCol (w0:World) (M:List (List Nat)) (L:Nat) (i:Nat) (vs:List Value) (a:World):Prop:=i < L∧∃ q,vs=[.int .i64 (i:Nat),q]∧a.ownsRow w0.heap.size 29 1 q M.length (ints .u64 (colM M i))
set_option maxRecDepth 100000 in
set_option maxHeartbeats 4000000 in
theorem gcols (S N:Nat→Prop) (g:Nat) (v:Value) (M:List (List Nat)) (L:Nat) (hL:∀ r∈M,r.length=L) (hM1:1≤M.length) (hM:M.length≤65536) (hL6:L≤1000000) (w:World) (hB:Blk w g 38 [v]) (hP:q2f N w .u64 v M) (h1:¬ S g) (h2:∀ k,N k→¬ S k) :
    z0k Tryz.prog 118 #[.pointer (some ⟨g,0,none⟩)] w S (PreCol w M L) (fun i=>i=L):=by
  intro lp J Jx w1 E1 hJ hJx hY h0;obtain ⟨A,c,rfl,hmc,hcm⟩:=hP.form;refine q0k Tryz.func118 rfl Tryz.ntmps118 rfl ?_;obtain ⟨d0,hd0⟩:∃ d,M[0]?=some d:=⟨_,List.getElem?_eq_getElem (by omega)⟩;have hd0l:=hL d0 (List.mem_of_getElem? hd0);obtain ⟨b0,o0,x0,rfl,_,_,_,_,hx0,hx01,hr0⟩:=q7w (hP.ext E1) hd0;obtain ⟨A0,c0,rfl,_⟩:=hr0.form;(refine q0b<|q0a<|Ls (X_ld rfl (hB.ext E1) rfl)<|Ls (q0n (i:=0) rfl rfl (by omega))<|Ls (q7n rfl hx0)<|Ls (q0f rfl)<|m_I rfl<|q0c<|tn<|q0h ?_);rw [hd0l];refine q1k (fun q f w'=>∃ j,q=L - j∧j≤L∧f 0=q3o lp∧f 1=.pointer (some ⟨g,0,none⟩)∧f 10=.int .i64 (L:Nat)∧f 11=.int .i64 (j:Nat)∧J j w'∧Blk w' g 38 [.slice (some ⟨b0,o0,none⟩) M.length c]∧q2f N w' .u64 (.slice (some ⟨b0,o0,none⟩) M.length c) M∧w.heap.size≤w'.heap.size) L ?_ ?_
  · exact ⟨0,rfl,by omega,rfl,rfl,rfl,rfl,h0,hB.ext E1,hP.ext E1,E1.size⟩
  · rintro q f wr ⟨j,hq,hj,f0,f1,f10,f11,hJj,C1,P1,hsz⟩;rw [fold f0,fold f1,fold f10,fold f11];(refine q0b<|q0a<|Ls (q1w rfl rfl)<|q0c<|tn<|q0b ?_);refine q1b rfl (fun h=>?_) (fun h=>?_)
    · have hlt:j < L:=(by omega);(refine q0q<|tn<|q0b<|q0h<|q0b<|q0a<|m_I rfl<|a_I rfl<|q0c<|tn<|q0b<|q0a<|Ls (X_ld rfl C1 rfl)<|Ls (q0f rfl) ?_);refine L_make (z:=[.int .u64 0]) M.length M.length rfl rfl rfl rfl (Nat.le_refl _) (by omega) (by omega) ?_;intro gc w3 B3 hgc E3 hs3;have C3:=C1.ext E3;have P3:=P1.ext E3;have hrep:(List.replicate M.length [Value.int .u64 0]).flatten=ints .u64 (List.replicate M.length 0):=q4u .u64 M.length 0;rw [hrep] at B3;have o3:w3.ownsRow w.heap.size 29 1 (.slice (some ⟨gc,0,none⟩) M.length M.length) M.length (ints .u64 ((colM M j).take 0++List.replicate (M.length - 0) 0)):=q5a B3 (by omega) (Nat.le_refl _) (by unfold maxLen;omega) (by rw [q0o];simp) (by rw [List.take_of_length_le (by rw [q0o];simp)];rfl);have hJ3:=hJ _ _ _ hJj E3;(refine a_S rfl<|q0c<|tn<|q0b<|q0b<|q0a<|Ls (X_ld rfl C3 rfl)<|Ls (q0f rfl)<|m_I rfl<|q0c<|tn<|q0h ?_);refine q1k (fun q f w'=>∃ r,q=M.length - r∧r≤M.length∧f 0=q3o lp∧f 1=.pointer (some ⟨g,0,none⟩)∧f 3=.int .i64 (j:Nat)∧f 4=.slice (some ⟨gc,0,none⟩) M.length M.length∧f 10=.int .i64 (L:Nat)∧f 11=.int .i64 (j:Nat)∧f 17=.slice (some ⟨b0,o0,none⟩) M.length c∧f 18=.int .i64 (M.length:Nat)∧f 19=.int .i64 (r:Nat)∧Ext wr w'∧w'.ownsRow w.heap.size 29 1 (.slice (some ⟨gc,0,none⟩) M.length M.length) M.length (ints .u64 ((colM M j).take r++List.replicate (M.length - r) 0))) M.length ?_ ?_
      · exact ⟨0,rfl,by omega,rfl,rfl,rfl,rfl,rfl,rfl,rfl,rfl,rfl,E3,o3⟩
      · rintro q f wi ⟨r,hq,hr,f0,f1,f3,f4,f10,f11,f17,f18,f19,hE,oc⟩;rw [fold f0,fold f1,fold f3,fold f4,fold f10,fold f11,fold f17,fold f18,fold f19];(refine q0b<|q0a<|Ls (q1w rfl rfl)<|q0c<|tn<|q0b ?_);refine q1b rfl (fun h=>?_) (fun h=>?_)
        · have hrl:r < M.length:=(by omega);obtain ⟨d,hd⟩:∃ d,M[r]?=some d:=⟨_,List.getElem?_eq_getElem hrl⟩;have hdl:=hL d (List.mem_of_getElem? hd);obtain ⟨b1,o1,x,e1,_,_,_,_,hx,hx1,hrx⟩:=q7w (P1.ext hE) hd;cases e1
          obtain ⟨bx,ox,cx,rfl,hcx,_,_,hRx⟩:=hrx.at (k:=j) (by omega);have hdj:d[j]?=some (d.getD j 0):=(by rw [List.getD_eq_getElem?_getD,List.getElem?_eq_getElem (by omega)];rfl);(refine q0q<|tn<|q0b<|q0h<|q0b<|q0a<|m_I rfl<|Ls (q0n rfl rfl (by omega))<|Ls (q7n rfl hx)<|a_I rfl<|a_S rfl<|q0c<|tn<|q0a<|m_S rfl<|m_I rfl<|m_S rfl<|m_I rfl<|Ls (q0n rfl rfl (by omega))<|Ls (q1v rfl hRx (j:=j) (by omega) (q2t hdj))<|Ls (q0n rfl rfl (by omega)) ?_);refine q5n (i:=r) (v:=.int .u64 ((d.getD j 0:Nat):Int)) oc rfl rfl (by omega) rfl hrl ?_;intro w5 o5 hg5 hs5;(refine q0c<|bn<|tn<|q0a<|Ls (q1e rfl rfl (by omega))<|m_I rfl<|q0c<|tn ?_);refine ⟨M.length - (r+1),by omega,r+1,rfl,by omega,rfl,rfl,rfl,rfl,rfl,rfl,rfl,rfl,rfl,hE.then hg5 (fun g h=>by cases h;omega),?_⟩;rw [q4f,show M.length - r=M.length - (r+1)+1 by omega,tab_set _ _ _ _ (by rw [List.length_take,q7z];omega)] at o5;rw [List.take_add_one,colM_get hd];exact o5
        · have hrM:r=M.length:=(by omega);rw [hrM,Nat.sub_self,List.replicate_zero,List.append_nil,List.take_of_length_le (by rw [q7z];exact Nat.le_refl _)] at oc;have CC:=C1.ext hE;have PP:=P1.ext hE;have hEs:=hE.size;(refine q1j<|te<|te<|bx<|tn<|q0b<|q0a<|Ls (q0d (v:=.func _ _ _) rfl)<|m_I rfl<|m_S rfl ?_);refine q7q rfl rfl rfl (hY j [.int .i64 (j:Nat),.slice (some ⟨gc,0,none⟩) M.length M.length] wi (hJ _ _ _ hJj hE) ⟨hlt,_,rfl,oc⟩) ?_;rintro e w6 (⟨rfl,hj2,hk2⟩ | ⟨rfl,hjx⟩)
          · refine ⟨.bool true,rfl,?_⟩;(refine Ls (q1s rfl)<|q0c<|tn<|q0x rfl<|q0q<|bn<|tn<|q0a<|Ls (q1e rfl rfl (by omega))<|m_I rfl<|q0c<|tn ?_);exact ⟨L - (j+1),by omega,j+1,rfl,by omega,rfl,rfl,rfl,rfl,hj2,hk2.blk CC h1,PP.keepS hk2 h2,by have:=hk2.size;omega⟩
          · refine ⟨.bool false,rfl,?_⟩;(refine Ls (q1s rfl)<|q0c<|tn<|q0z rfl<|q0r<|br<|tr<|tr<|br ?_);refine q4g rfl rfl ?_;exact ⟨⟨_,rfl⟩,.inr hjx⟩
    · have hjL:j=L:=(by omega);(refine q1j<|te<|te<|bx ?_);refine q4h rfl rfl ?_;exact ⟨⟨_,rfl⟩,.inl ⟨_,hjL,hJj⟩⟩
theorem gcolsMk (v:Value) (hv:v.oneCell'=true) (w:World) :
    Calls Tryz.prog 61 #[v] w fun e w'=>∃ q,e=.returned q∧∃ b,q=.func (.func 118) #[] #[.pointer (some ⟨b,0,none⟩)]∧Ext w w'∧Blk w' b 38 [v]∧w.heap.size=b:=by
  refine q0k Tryz.func61 rfl Tryz.ntmps61 rfl ?_;(refine q0b<|q0a ?_);refine q4r rfl hv ?_;intro g1 w1 B1 hg1 E1 hs1;(refine Ls (q0l (v:=Value.nilFunc) rfl)<|q0c<|tn<|q0b<|q0a ?_);refine Ls (q3l (vf:=[]) (vc:=[.pointer (some ⟨g1,0,none⟩)]) rfl rfl) ?_;(refine Ls (q0l (v:=.func _ _ _) rfl)<|q0c<|tn<|q0r ?_);refine q0e rfl rfl (v:=.func _ _ _) rfl ⟨_,rfl,g1,rfl,E1,B1,hg1⟩
def encB (l:List Nat):List Nat:=(l.map fun x=>word x 8).flatten
theorem encB_app (a b:List Nat):encB (a++b)=encB a++encB b:=by unfold encB;rw [List.map_append,List.flatten_append]
theorem encB_one (x:Nat):encB [x]=word x 8:=by unfold encB;simp
theorem q9c (l:List Nat):(encB l).length=l.length * 8:=by
  unfold encB;induction l with
  | nil=>rfl
  | cons x l ih=>rw [List.map_cons,List.flatten_cons,List.length_append,ih,word_len,List.length_cons];omega
theorem encB_ok (l:List Nat):Sha.bytesOk (encB l):=by
  intro y hy;obtain ⟨c,hc,hyc⟩:=List.mem_flatten.1 hy;obtain ⟨x,_,rfl⟩:=List.mem_map.1 hc;obtain ⟨k,_,rfl⟩:=List.mem_map.1 hyc;unfold byteAt;exact Nat.mod_lt _ (by decide)
set_option maxRecDepth 100000 in
set_option maxHeartbeats 2000000 in
theorem gencodeB (lo hi:Nat) (v:Value) (l:List Nat) (hl:l.length≤1000000) (w:World) (hr:Row w lo hi 1 v l.length (ints .u64 l)) :
    Calls Tryz.prog 79 #[v] w fun e w'=>∃ q,e=.returned q∧Ext w w'∧w'.ownsRow w.heap.size 5 1 q (encB l).length (ints .u8 (encB l)):=by
  obtain ⟨A,c,rfl⟩:∃ A c,v=.slice A l.length c:=by
    obtain ⟨_,A,c,rfl,_⟩:=hr;exact ⟨A,c,rfl⟩
  refine q0k Tryz.func79 rfl Tryz.ntmps79 rfl ?_;(refine q0b<|q0a<|a_S rfl<|q0c<|tn<|q0b<|q0a<|a_S rfl<|q0c<|tn<|q0b<|q0b<|q0a<|m_S rfl<|Ls (q0f rfl)<|m_I rfl<|q0c<|tn<|q0h ?_);refine q1k (fun q f w'=>∃ i u,q=l.length - i∧i≤l.length∧f 3=u∧f 7=.slice A l.length c∧f 8=.int .i64 (l.length:Nat)∧f 9=.int .i64 (i:Nat)∧Ext w w'∧w'.ownsRow w.heap.size 5 1 u (i * 8) (ints .u8 (encB (l.take i)))) l.length ?_ ?_
  · exact ⟨0,.slice none 0 0,rfl,by omega,rfl,rfl,rfl,rfl,Ext.refl _,⟨rfl,.inl ⟨rfl,rfl⟩⟩⟩
  · rintro q f wr ⟨i,u,hq,hi',f3,f7,f8,f9,hE,ho⟩;rw [fold f3,fold f7,fold f8,fold f9];have hu1:=q0g (Row.of_own ho);(refine q0b<|q0a<|Ls (q1w rfl rfl)<|q0c<|tn<|q0b ?_);refine q1b rfl (fun h=>?_) (fun h=>?_)
    · have hlt:i < l.length:=(by omega);obtain ⟨x,hx⟩:∃ x,l[i]?=some x:=⟨_,List.getElem?_eq_getElem hlt⟩;obtain ⟨b,o,c',e,_,_,_,hR⟩:=hr.at hlt;cases e
      (refine q0q<|tn<|q0b<|q0h<|q0b<|q0a<|Ls (q0n rfl rfl (by omega))<|Ls (q1v rfl (hE.range hR) (j:=i) (by omega) (q2t hx))<|a_I rfl<|q0c<|tn<|q0b<|q0a<|a_I rfl<|q0c<|tn<|q0h ?_);refine q1k (fun q f w'=>∃ k u,q=8 - k∧k≤8∧f 3=u∧f 5=.int .u64 (x:Nat)∧f 6=.int .i64 ((8:Int) * (k:Nat))∧f 7=.slice (some ⟨b,o,none⟩) l.length c∧f 8=.int .i64 (l.length:Nat)∧f 9=.int .i64 (i:Nat)∧Ext w w'∧w'.ownsRow w.heap.size 5 1 u (i * 8+k) (ints .u8 (encB (l.take i)++word x k))) 8 ?_ ?_
      · exact ⟨0,u,rfl,by omega,rfl,rfl,rfl,rfl,rfl,rfl,hE,by rw [show word x 0=[] from rfl,List.append_nil];exact ho⟩
      · clear hu1 ho f3;rintro q f wi ⟨k,u,hq,hk,f3,f5,f6,f7,f8,f9,hE,ho⟩;rw [fold f3,fold f5,fold f6,fold f7,fold f8,fold f9];have hu1:=q0g (Row.of_own ho);(refine q0b<|q0b<|q0a<|m_I rfl<|Ls (q1w rfl rfl)<|q0c<|tn ?_);refine q1b rfl (fun h=>?_) (fun h=>?_)
        · have hk7:k≤7:=(by omega);(refine q0q<|tn<|q0b<|q0h<|q0a<|Ls (q0d (v:=u) rfl)<|m_I rfl<|m_I rfl<|Ls (q4m rfl rfl (by omega))<|Ls ((q2y rfl).trans (by rw [shr_byte x k hk7])) ?_);refine q3v (v:=.int .u8 _) rfl rfl ?_;intro u2 w3 r3 E3 hs3 _;refine q1n (v:=u) (u:=u2) rfl rfl (q0p ho E3) r3 (fun q hq=>by rw [List.mem_singleton.1 hq];rfl) (by omega) (by omega) (by have:=hE.size;have:=E3.size;omega) ?_;intro u4 w4 o4 hg4 _;(refine Ls (q0l (v:=u4) rfl)<|q0c<|bn<|tn<|q0a<|m_I rfl<|Ls (q1e rfl rfl (by omega))<|a_I rfl<|q0c<|tn ?_);refine ⟨8 - (k+1),by omega,k+1,u4,rfl,by omega,rfl,rfl,?_,rfl,rfl,rfl,(hE.trans E3).then hg4 (fun q hq=>(q1g ho q hq).1),?_⟩
          · rw [show (8:Int) * ((k+1:Nat):Int)=8 * (k:Int)+8 by omega];rfl
          · rw [word_succ,← List.append_assoc,q2u];exact o4
        · have hk8:k=8:=(by omega);subst hk8;(refine q1j<|te<|te<|bx<|bn<|tn<|q0a<|Ls (q1e rfl rfl (by omega))<|m_I rfl<|q0c<|tn ?_);refine ⟨l.length - (i+1),by omega,i+1,u,rfl,by omega,rfl,rfl,rfl,rfl,hE,?_⟩;rw [List.take_add_one,hx,encB_app,show (some x).toList=[x] from rfl,encB_one,Nat.succ_mul];exact ho
    · have hil:i=l.length:=(by omega);rw [hil,List.take_length] at ho;(refine q1j<|te<|te<|bx<|tn<|q0b<|q0a<|Ls (q0d (v:=u) rfl)<|Ls (q0l (v:=u) rfl)<|q0c<|tn<|q0r ?_);exact q0e rfl rfl (v:=u) rfl ⟨u,rfl,hE,by rw [q9c];exact ho⟩
set_option maxRecDepth 100000 in
set_option maxHeartbeats 4000000 in
theorem gleaves (N:Nat→Prop) (v:Value) (M:List (List Nat)) (L:Nat) (hL:∀ r∈M,r.length=L) (hM1:1≤M.length) (hM:M.length≤65536) (hL6:L≤65536) (w:World) (hP:q2f N w .u64 v M) :
    Calls Tryz.prog 55 #[v] w fun e w'=>∃ q,e=.returned q∧Ext w w'∧q2f (fun k=>w.heap.size≤k) w' .u8 q ((List.range L).map fun j=>encB (colM M j)):=by
  obtain ⟨A,c,rfl,_⟩:=hP.form;have hP:=hP.tight;refine q6s Tryz.func55 rfl Tryz.ntmps55 rfl ?_;refine q4v ?_;(refine q0a<|a_S rfl<|q0c<|tn ?_);refine q4v ?_;(refine q0a ?_);refine q0w ?_;intro g3 w1 B3 hg3 E1 hs1;(refine q0c<|tn ?_);refine z0x ?_;(refine q0a<|m_S rfl ?_);refine L_fo rfl (gcolsMk (.slice A M.length c) rfl w1) ?_;rintro q w2 ⟨b,rfl,E2,Bb,hb⟩;(refine q0c<|tn ?_);have E12:=E1.trans E2;have hlb:=Bb.lt;refine q9l (ps:=[8,9]) (fun k=>w.heap.size≤k∧k ≠ b) rfl (enters_of Tryz.func118 (by kernel_rfl) rfl) (fun i vs a h=>by obtain ⟨_,_,rfl,_⟩:=h;rfl) (gcols (fun k=>w.heap.size≤k∧k ≠ b) (fun k=>N k∧k < w.heap.size) b _ M L hL hM1 hM (by omega) w2 Bb (hP.ext E12) (fun h=>h.2 rfl) (fun k hk h=>by omega))
    (fun i y=>∃ u xs,Blk y g3 102 [u]∧y.ownsRow w.heap.size 129 1 u i xs∧(∀ j x,xs[j]?=some x→y.ownsRow w.heap.size 5 1 x (encB (colM M j)).length (ints .u8 (encB (colM M j))))∧(∀ q,u.ownBlock=some q→q ≠ b)∧i≤L) (fun _=>False)
    (fun i x y h C=>by obtain ⟨u,xs,h1,h2,h3,h4,h5⟩:=h;exact ⟨u,xs,C.blk h1,C.own h2,fun j z hz=>C.own (h3 j z hz),h4,h5⟩) (fun _ _ h _=>h) ⟨.slice none 0 0,[],B3.ext E2,⟨rfl,.inl ⟨rfl,rfl⟩⟩,(fun _ _ h=>by cases h),(fun _ h=>by cases h),by omega⟩
    (fun i vs a f' y=>i < L∧∃ q,y=a∧a.ownsRow w2.heap.size 29 1 q M.length (ints .u64 (colM M i))∧f' 3=.pointer (some ⟨g3,0,none⟩)∧f' 5=q) (fun i vs a f' b h=>by obtain ⟨_,_,rfl,_⟩:=h;exact Ext.refl _) (fun lp vs i y hi hM hp=>?_) (fun lp i vs a f' z y hi hMu hp hga hac hbc=>?_) (fun D y hD hdn hMu hbD=>?_)
  · obtain ⟨hiL,q,rfl,oq⟩:=hp;have hq1:=q0g (Row.of_own oq);(refine q0a<|Ls (q0l (v:=q) rfl)<|q0c ?_);exact ⟨rfl,hiL,q,rfl,oq,rfl,rfl⟩
  · obtain ⟨u,xs,I1,I2,I3,I4,I5⟩:=hi;obtain ⟨hiL,q,rfl,oq,f3,f5⟩:=hga;have oq:=hac.own oq;have hq1:=q0g (Row.of_own oq);have hu1:=q0g (Row.of_own I2);have hMs:=hMu.size;have hlb':b < y.heap.size:=(by omega);have hcl:=q7z M i;rw [fold f3,fold f5];(refine q0h ?_);apply q1h 4 (by kernel_rfl);(apply DW_x (fun r w hA hH=>(X_ld rfl (I1.ext hA) rfl).trans rfl);apply DW_x (fun r w hA hH=>(q0d (v:=q) rfl).trans rfl));((with_reducible apply q4y);(exact fun _=>rfl);(exact fun _=>rfl);(exact fun r w hA hH=>q2o hA (gencodeB _ _ q (colM M i) (by omega) w ((Row.of_own (q0p oq hA)).re hcl.symm rfl)));(exact fun _ _ _ _ _ _ E h=>OwnF.ext E h));apply z0l (w0:=y) (fun r=>r 2) (fun r=>rfl) (fun r w hA hH=>(by obtain ⟨_,_,o⟩:=hH 2 rfl;exact q0g (Row.of_own o))) (fun w hA=>hA.size) (fun r v=>rfl);((with_reducible exact q1p);(exact rfl);(repeat (first | exact .inr (.inr (fun _ _=>by with_reducible rfl)) | (refine And.intro ?_ ?_) | exact .inr (.inl rfl) | exact .inl (by decide +kernel) | exact trivial | exact .inr (.inr (fun _ _=>rfl))));(try dsimp only [Nat.reduceAdd]));intro r y1 F1 H1;obtain ⟨bq,hbq,o2⟩:OwnF y 5 1 (r 2) _ _ y1:=H1 2;obtain ⟨l3,h3,hl3,r3⟩:RowF y 1 (r 3) 1 [r 2] y1:=H1 3;have hr2:=q0g (Row.of_own o2);refine q1n (v:=u) (u:=r 3) rfl rfl (q0p I2 F1) r3 (fun x hx=>by rw [List.mem_singleton.1 hx];exact hr2) (by omega) (by omega) (by have:=F1.size;have:=E12.size;omega) ?_;intro u4 y4 o4 hg4 hb4;have hu4:=q0g (Row.of_own o4);have I2':=q0p I2 F1;have G3:=(I1.ext F1).grown hg4 (fun h=>by
      obtain ⟨_,cs,fz,e⟩:=q1g I2' g3 h
      exact q2p (I1.ext F1) e (by decide))
    have hxo:∀ (x:Value) (m:Nat) (l:List Value) (bs:Nat),y1.ownsRow bs 5 1 x m l→y4.ownsRow bs 5 1 x m l:=fun x m l bs h=>q1i h hg4 (fun g hg e=>by
      obtain ⟨_,cs,fz,e1⟩:=q1g h g hg
      obtain ⟨_,cs',fz',e2⟩:=q1g I2' g e
      rw [e1] at e2
      cases e2)
    have hub4:∀ q,u4.ownBlock=some q→q ≠ b:=fun q hq=>by
      rcases hb4 with h | h
      · rw [h] at hq;exact I4 q hq
      · rw [h] at hq;have:=Option.some.inj hq;have:=F1.size;omega
    have M4:Mut (fun k=>w.heap.size≤k∧k ≠ b) y y4:=(Mut.of_ext F1).trans (Mut.app I2' hg4 (fun q hq=>⟨(q1g I2' q hq).1,I4 q hq⟩));refine q1m (v:=u4) rfl rfl hu4 G3 (by simp) ?_;intro y5 G3' hg5 hs5;(refine q0c<|bn ?_);have hx5:∀ (x:Value) (m:Nat) (l:List Value) (bs:Nat),y4.ownsRow bs 5 1 x m l→y5.ownsRow bs 5 1 x m l:=fun x m l bs h=>q1i h hg5 (fun g hg e=>by
      obtain rfl:g3=g:=Option.some.inj e
      obtain ⟨_,cs,fz,e1⟩:=q1g h g3 hg
      exact q2p G3 e1 (by decide))
    have hil:xs.length=i:=(by rw [I2.1,Nat.mul_one]);refine ⟨M4.trans (Mut.store G3 hg5 ⟨by omega,by omega⟩),u4,xs++[r 2],G3',q1i o4 hg5 (fun g hg e=>by
      obtain rfl:g3=g:=Option.some.inj e
      obtain ⟨_,cs,fz,e1⟩:=q1g o4 g3 hg
      exact q2p G3 e1 (by decide)),fun j x hx=>?_,hub4,by omega⟩
    rcases Nat.lt_or_ge j i with hji | hji
    · rw [List.getElem?_append_left (by omega)] at hx;exact hx5 _ _ _ _ (hxo _ _ _ _ (q0p (I3 j x hx) F1))
    · have hje:j=i:=by
        have:=(List.getElem?_eq_some_iff.1 hx).1;rw [List.length_append,hil] at this;simp at this;omega
      subst hje;rw [List.getElem?_append_right (by omega),hil,Nat.sub_self] at hx;cases hx
      exact hx5 _ _ _ _ (hxo _ _ _ _ (q1l o2 (by have:=E12.size;omega)))
  · obtain ⟨i,hfin,u,xs,I1,I2,I3,I4,I5⟩:∃ i,i=L∧∃ u xs,Blk y g3 102 [u]∧y.ownsRow w.heap.size 129 1 u i xs∧(∀ j x,xs[j]?=some x→y.ownsRow w.heap.size 5 1 x (encB (colM M j)).length (ints .u8 (encB (colM M j))))∧(∀ q,u.ownBlock=some q→q ≠ b)∧i≤L:=hdn.elim id False.elim;rw [hfin] at I2;have hu1:=q0g (Row.of_own I2);refine z0y ?_;(refine q0b<|q0a<|Ls (X_ld rfl I1 rfl)<|Ls (q0l (v:=u) rfl)<|q0c<|tn<|q0r ?_);refine q5c w2.heap.size [D] rfl rfl (by simp) (fun D' h=>?_) (fun w' hc=>⟨Res.tmp (v:=u) rfl .nil,u,rfl,?_,xs,?_,?_,fun j x d hx hd=>?_⟩)
    · rw [List.mem_singleton.1 h];exact ⟨by omega,hbD⟩
    · exact hc.toExt (hMu.toExt E12 (fun k h=>h.1)) (by have:=E12.size;omega)
    · rw [I2.1];simp
    · rw [List.length_map,List.length_range];exact (RowN.of_own (hc.own I2)).mono fun k hk=>hk.1
    · have hjL:j < L:=by
        have:=(List.getElem?_eq_some_iff.1 hd).1;simpa using this
      rw [List.getElem?_map,List.getElem?_range hjL] at hd;cases hd
      exact (RowN.of_own (hc.own (I3 j x hx))).mono fun k hk=>hk.1
end Go.Proofs.YtpohjepbmgeplaaGreatDoor
namespace Go.Proofs.YtpohjepbmgeplaaGreatDoor
open Go.RowKit Go.Proofs.K
open _root_.Fd (K E pw root trow enc ccol comb)
open _root_.Cm (Sh pws pwE)
def waC (pv:Value) (rho:Nat × Nat) (iv:Value):List Value:=[pv,.int .u64 (rho.1:Nat),.int .u64 (rho.2:Nat),iv]
theorem q8o {pv iv:Value} {rho:Nat × Nat} (hp:pv.oneCell'=true) (hi:iv.oneCell'=true):∀ v∈waC pv rho iv,v.oneCell'=true:=by
  intro v hv;rcases List.mem_cons.1 hv with rfl | hv
  · exact hp
  · rcases List.mem_cons.1 hv with rfl | hv
    · rfl
    · rcases List.mem_cons.1 hv with rfl | hv
      · rfl
      · rcases List.mem_cons.1 hv with rfl | hv
        · exact hi
        · cases hv
def isE (p:Nat × Nat):Prop:=p.1 < Fd.pr∧p.2 < Fd.pr
structure PosOk (s:Sh) (P:List (Nat × Nat)) (rho:Nat × Nat) (I:List Int):Prop where
  p:P.length=s.a+s.c
  i:I.length=s.t
  pv:∀ x∈P,isE x
  rv:isE rho
  ix:∀ i∈I,0≤i∧i < ((s.n:Nat):Int)
  srt:I.Pairwise (· < ·)
theorem q8n (l:List (Nat × Nat)) (w:World):q4a Tryz.prog 77 #[] (l.map fun p=>Value.agg (exC p.1 p.2).toArray) (fun i=>decide ((l.getD i (0,0)).1 < Fd.pr) && decide ((l.getD i (0,0)).2 < Fd.pr)) w:=by
  intro i x w' E hx;rw [List.getElem?_map] at hx;cases hp:l[i]? with
  | none=>rw [hp] at hx;cases hx
  | some p =>
    rw [hp] at hx;cases hx
    have:l.getD i (0,0)=p:=(by rw [List.getD_eq_getElem?_getD,hp];rfl);show Calls _ _ _ _ fun e w''=>e=.returned (.bool (decide ((l.getD i (0,0)).1 < Fd.pr) && decide ((l.getD i (0,0)).2 < Fd.pr)))∧_;rw [this];exact z4e p.1 p.2 w'
theorem z4o (l:List (Nat × Nat)):decide (∀ i,i < (l.map fun p=>Value.agg (exC p.1 p.2).toArray).length→(decide ((l.getD i (0,0)).1 < Fd.pr) && decide ((l.getD i (0,0)).2 < Fd.pr))=true)=true↔∀ x∈l,isE x:=by
  rw [decide_eq_true_eq,List.length_map];constructor
  · intro h x hx;obtain ⟨i,hi⟩:=List.mem_iff_getElem?.1 hx;have:=h i (List.getElem?_eq_some_iff.1 hi).1;rw [List.getD_eq_getElem?_getD,hi] at this;simpa [isE] using this
  · intro h i hi;have:=h l[i] (List.getElem_mem _);rw [List.getD_eq_getElem?_getD,List.getElem?_eq_getElem hi];simpa [isE] using this
set_option maxRecDepth 100000 in
set_option maxHeartbeats 4000000 in
theorem q8m (s:Sh) (hs:s.Ok) (pl ph il ih:Nat) (pv iv:Value) (P:List (Nat × Nat)) (rho:Nat × Nat) (I:List Int) (hPl:P.length≤1000000) (hIl:I.length≤1000000) (w:World) (hp:Row w pl ph 2 pv P.length (exs P)) (hi:Row w il ih 1 iv I.length (I.map (Value.int .i64))) :
    Calls Tryz.prog 58 #[.agg (shC (s.R:Nat) (s.C:Nat) (s.B:Nat) (s.t:Nat)).toArray,.int .i64 ((s.a+s.c:Nat):Int),.agg (waC pv rho iv).toArray] w fun e w'=>∃ b:Bool,e=.returned (.bool b)∧(b=true↔PosOk s P rho I)∧Ext w w':=by
  obtain ⟨Ap,cp,rfl⟩:∃ A c,pv=.slice A P.length c:=by
    obtain ⟨_,A,c,rfl,_⟩:=hp;exact ⟨A,c,rfl⟩
  obtain ⟨Ai,ci,rfl⟩:∃ A c,iv=.slice A I.length c:=by
    obtain ⟨_,A,c,rfl,_⟩:=hi;exact ⟨A,c,rfl⟩
  have hBC:((s.B:Nat):Int) * ((s.C:Nat):Int)=((s.n:Nat):Int):=by rw [← Int.natCast_mul,Cm.Sh.BC]
  have hn:s.n≤65536:=(q1f hs.cb).2;have hac:=hs.ac;refine q0k Tryz.func58 rfl Tryz.ntmps58 rfl ?_;(refine q0b<|q0a ?_);refine q1t rfl ?_;intro g3 w1 B3 hg3 E1 hs1;refine q1t rfl ?_;intro g5 w2 B5 hg5 E2 hs2;have C3:=B3.ext E2;have E12:=E1.trans E2;(refine a_B rfl<|q0c<|tn<|q0b<|q0a<|a_I rfl<|q0c<|tn<|q0b<|q0b<|q0a<|Ls (q0i rfl)<|Ls (X_ld (cs:=waC (.slice Ap P.length cp) rho (.slice Ai I.length ci)) rfl B5 rfl)<|Ls (q0f rfl)<|m_I rfl<|q0c<|tn<|q0h ?_);refine q1k (fun q f w'=>∃ (i:Nat) (z:Int),q=I.length - i∧i≤I.length∧f 1=.int .i64 ((s.a+s.c:Nat):Int)∧f 3=.pointer (some ⟨g3,0,none⟩)∧f 5=.pointer (some ⟨g5,0,none⟩)∧f 7=.int .i64 z∧f 11=.slice Ai I.length ci∧f 12=.int .i64 (I.length:Nat)∧f 13=.int .i64 (i:Nat)∧w'=w2 ∧
    ((i=0∧z=-1)∨∃ j,i=j+1∧I[j]?=some z)∧(I.take i).Pairwise (· < ·)∧(∀ x∈I.take i,0≤x∧x < ((s.n:Nat):Int))∧(∀ x∈I.take i,x≤z)∧-1≤z) I.length ?_ ?_
  · exact ⟨0,-1,rfl,by omega,rfl,rfl,rfl,rfl,rfl,rfl,rfl,rfl,.inl ⟨rfl,rfl⟩,by simp,by simp,by simp,by omega⟩
  · rintro q f wr ⟨i,z,hq,hil,f1,f3,f5,f7,f11,f12,f13,rfl,hz,hpw,hrg,hle,hz1⟩;rw [fold f1,fold f3,fold f5,fold f7,fold f11,fold f12,fold f13];(refine q0b<|q0a<|Ls (q1w rfl rfl)<|q0c<|tn<|q0b ?_);refine q1b rfl (fun h=>?_) (fun h=>?_)
    · have hlt:i < I.length:=(by omega);obtain ⟨x,hx⟩:∃ x,I[i]?=some x:=⟨_,List.getElem?_eq_getElem hlt⟩;have hxm:=List.mem_of_getElem? hx;obtain ⟨b,o,c',e,_,_,_,hR⟩:=(hi.ext E12).at hlt;cases e
      have hxv:(I.map (Value.int .i64))[i]?=some (.int .i64 x):=(by rw [List.getElem?_map,hx];rfl);by_cases h1:x≤z
      · (refine q0q<|tn<|q0b<|q0h<|q0b<|q0a<|Ls (q0n rfl rfl (by omega))<|Ls (q1v rfl hR (j:=i) (by omega) hxv)<|a_I rfl<|q0c<|tn<|q0b<|q0b<|q0a<|m_I rfl<|m_I rfl<|Ls (q7o rfl rfl (by omega))<|m_B rfl<|Lo2 rfl rfl rfl rfl<|Lo2 rfl rfl rfl rfl<|Lo2 rfl rfl rfl rfl<|Lo2 rfl rfl rfl rfl<|Lo2 rfl rfl rfl rfl<|Lo2 rfl rfl rfl rfl<|Lo2 rfl rfl rfl rfl<|Ls (q0v (v:=.bool _) rfl rfl)<|q0c<|tn<|q0z rfl<|q0b<|q0a<|a_B rfl<|q0c<|tn<|q0r<|tr<|br<|tr<|tr<|br<|tr ?_);refine q0e rfl rfl (v:=.bool _) rfl ⟨false,rfl,⟨(fun h=>by cases h),fun hP=>?_⟩,E12⟩;rcases hz with ⟨_,rfl⟩ | ⟨j,rfl,hj⟩
        · have:=(hP.ix x hxm).1;omega
        · have:=List.pairwise_iff_getElem.1 hP.srt j (j+1) (List.getElem?_eq_some_iff.1 hj).1 hlt (by omega);rw [List.getElem?_eq_getElem hlt] at hx;obtain ⟨h2,h3⟩:=List.getElem?_eq_some_iff.1 hj;rw [h3,Option.some.inj hx] at this;omega
      · by_cases h2:((s.n:Nat):Int)≤x
        · (refine q0q<|tn<|q0b<|q0h<|q0b<|q0a<|Ls (q0n rfl rfl (by omega))<|Ls (q1v rfl hR (j:=i) (by omega) hxv)<|a_I rfl<|q0c<|tn<|q0b<|q0b<|q0a<|m_I rfl<|m_I rfl<|Ls (z3g rfl rfl (by omega))<|m_B rfl<|Lg2 rfl rfl rfl (q0d (v:=.int _ _) rfl)<|Lg2 rfl rfl rfl (q0i rfl)<|Lg2 rfl rfl rfl (X_ld (cs:=shC (s.R:Nat) (s.C:Nat) (s.B:Nat) (s.t:Nat)) rfl C3 rfl)<|Lg2 rfl rfl rfl (q0i rfl)<|Lg2 rfl rfl rfl (X_ld (cs:=shC (s.R:Nat) (s.C:Nat) (s.B:Nat) (s.t:Nat)) rfl C3 rfl)<|Lg2 rfl rfl rfl ((q2a rfl rfl ⟨by omega,by omega⟩).trans (by rw [hBC]))<|Lg2 rfl rfl rfl (q6c rfl rfl (by omega))<|Ls (q0s (v:=.bool _) rfl rfl)<|q0c<|tn<|q0z rfl<|q0b<|q0a<|a_B rfl<|q0c<|tn<|q0r<|tr<|br<|tr<|tr<|br<|tr ?_);exact q0e rfl rfl (v:=.bool _) rfl ⟨false,rfl,⟨(fun h=>by cases h),fun h=>by have:=(h.ix x hxm).2;omega⟩,E12⟩
        · (refine q0q<|tn<|q0b<|q0h<|q0b<|q0a<|Ls (q0n rfl rfl (by omega))<|Ls (q1v rfl hR (j:=i) (by omega) hxv)<|a_I rfl<|q0c<|tn<|q0b<|q0b<|q0a<|m_I rfl<|m_I rfl<|Ls (z3g rfl rfl (by omega))<|m_B rfl<|Lg2 rfl rfl rfl (q0d (v:=.int _ _) rfl)<|Lg2 rfl rfl rfl (q0i rfl)<|Lg2 rfl rfl rfl (X_ld (cs:=shC (s.R:Nat) (s.C:Nat) (s.B:Nat) (s.t:Nat)) rfl C3 rfl)<|Lg2 rfl rfl rfl (q0i rfl)<|Lg2 rfl rfl rfl (X_ld (cs:=shC (s.R:Nat) (s.C:Nat) (s.B:Nat) (s.t:Nat)) rfl C3 rfl)<|Lg2 rfl rfl rfl ((q2a rfl rfl ⟨by omega,by omega⟩).trans (by rw [hBC]))<|Lg2 rfl rfl rfl (q6w rfl rfl (by omega))<|Ls (q0s (v:=.bool _) rfl rfl)<|q0c<|tn<|q0x rfl<|q0q<|tn<|q0a<|m_I rfl<|a_I rfl<|q0c<|bn<|tn<|q0a<|Ls (q1e rfl rfl (by omega))<|m_I rfl<|q0c<|tn ?_);have ht:I.take (i+1)=I.take i++[x]:=(by rw [List.take_add_one,hx];rfl);refine ⟨I.length - (i+1),by omega,i+1,x,rfl,by omega,rfl,rfl,rfl,rfl,rfl,rfl,rfl,rfl,.inr ⟨i,rfl,hx⟩,?_,fun y hy=>?_,fun y hy=>?_,by omega⟩
          · rw [ht,List.pairwise_append];refine ⟨hpw,by simp,fun a ha b hb=>?_⟩;rw [List.mem_singleton.1 hb];have:=hle a ha;omega
          · rw [ht] at hy;rcases List.mem_append.1 hy with hy | hy
            · exact hrg y hy
            · rw [List.mem_singleton.1 hy];omega
          · rw [ht] at hy;rcases List.mem_append.1 hy with hy | hy
            · have:=hle y hy;omega
            · rw [List.mem_singleton.1 hy];omega
    · have hil':i=I.length:=(by omega);rw [hil',List.take_length] at hpw hrg;by_cases h3:I.length=s.t
      · by_cases h4:P.length=s.a+s.c
        · (refine q1j<|te<|te<|bx<|tn<|q0b<|q0a<|Ls (q0i rfl)<|Ls (X_ld (cs:=waC (.slice Ap P.length cp) rho (.slice Ai I.length ci)) rfl B5 rfl)<|Ls (q0f rfl)<|Ls (q0i rfl)<|Ls (X_ld (cs:=shC (s.R:Nat) (s.C:Nat) (s.B:Nat) (s.t:Nat)) rfl C3 rfl)<|Ls (q2b rfl rfl (by omega))<|m_B rfl<|Lg2 rfl rfl rfl (q0i rfl)<|Lg2 rfl rfl rfl (X_ld (cs:=waC (.slice Ap P.length cp) rho (.slice Ai I.length ci)) rfl B5 rfl)<|Lg2 rfl rfl rfl (q0f rfl)<|Lg2 rfl rfl rfl (q0d (v:=.int _ _) rfl)<|Lg2 rfl rfl rfl (q2b rfl rfl (by omega))<|Ls (q0v (v:=.bool _) rfl rfl)<|m_B rfl<|Lg2 rfl rfl rfl (q0i rfl)<|Lg2 rfl rfl rfl (X_ld (cs:=waC (.slice Ap P.length cp) rho (.slice Ai I.length ci)) rfl B5 rfl) ?_);refine q1z rfl rfl rfl ?_;refine L_fv rfl (gval_e pl ph _ P (P.map fun p=>Value.agg (exC p.1 p.2).toArray) rfl (by rw [List.length_map];omega) wr ((hp.ext E12).re (by rw [List.length_map]) rfl) (fun i=>decide ((P.getD i (0,0)).1 < Fd.pr) && decide ((P.getD i (0,0)).2 < Fd.pr)) 77 #[] (q8n P wr)) ?_;intro w3 E3;have hall:=z4o P;have C5:=B5.ext E3;by_cases h5:∀ x∈P,isE x
          · rw [hall.2 h5];(refine Ls (q0v (v:=.bool _) rfl rfl)<|m_B rfl<|Lg2 rfl rfl rfl (q0i rfl)<|Lg2 rfl rfl rfl (q6b (size:=2) (l:=exC rho.1 rho.2) rfl C5 rfl rfl) ?_);refine q1z rfl rfl rfl ?_;refine L_fv rfl (z4e rho.1 rho.2 w3) ?_;intro w4 E4;(refine Ls (q0v (v:=.bool _) rfl rfl)<|a_B rfl<|q0c<|tn<|q0r ?_);refine q0e rfl rfl (v:=.bool _) rfl ⟨_,rfl,⟨fun h=>?_,fun h=>?_⟩,E12.trans (E3.trans E4)⟩
            · exact ⟨h4,h3,h5,by simpa [isE] using h,hrg,hpw⟩
            · have:=h.rv;simpa [isE] using this
          · have hf:decide (∀ i,i < (P.map fun p=>Value.agg (exC p.1 p.2).toArray).length→(decide ((P.getD i (0,0)).1 < Fd.pr) && decide ((P.getD i (0,0)).2 < Fd.pr))=true)=false:=by
              cases hb:decide (∀ i,i < (P.map fun p=>Value.agg (exC p.1 p.2).toArray).length→(decide ((P.getD i (0,0)).1 < Fd.pr) && decide ((P.getD i (0,0)).2 < Fd.pr))=true) with
              | false=>rfl
              | true=>exact (h5 (hall.1 hb)).elim
            rw [hf];(refine Ls (q0v (v:=.bool _) rfl rfl)<|m_B rfl<|Lo2 rfl rfl rfl rfl<|Lo2 rfl rfl rfl rfl<|Lo2 rfl rfl rfl rfl<|Ls (q0s (v:=.bool _) rfl rfl)<|a_B rfl<|q0c<|tn<|q0r ?_);exact q0e rfl rfl (v:=.bool _) rfl ⟨false,rfl,⟨(fun h=>by cases h),fun h=>(h5 h.pv).elim⟩,E12.trans E3⟩
        · (refine q1j<|te<|te<|bx<|tn<|q0b<|q0a<|Ls (q0i rfl)<|Ls (X_ld (cs:=waC (.slice Ap P.length cp) rho (.slice Ai I.length ci)) rfl B5 rfl)<|Ls (q0f rfl)<|Ls (q0i rfl)<|Ls (X_ld (cs:=shC (s.R:Nat) (s.C:Nat) (s.B:Nat) (s.t:Nat)) rfl C3 rfl)<|Ls (q2b rfl rfl (by omega))<|m_B rfl<|Lg2 rfl rfl rfl (q0i rfl)<|Lg2 rfl rfl rfl (X_ld (cs:=waC (.slice Ap P.length cp) rho (.slice Ai I.length ci)) rfl B5 rfl)<|Lg2 rfl rfl rfl (q0f rfl)<|Lg2 rfl rfl rfl (q0d (v:=.int _ _) rfl)<|Lg2 rfl rfl rfl (q2g rfl rfl (by omega))<|Ls (q0v (v:=.bool _) rfl rfl)<|m_B rfl<|Lo2 rfl rfl rfl rfl<|Lo2 rfl rfl rfl rfl<|Lo2 rfl rfl rfl rfl<|Ls (q0s (v:=.bool _) rfl rfl)<|m_B rfl<|Lo2 rfl rfl rfl rfl<|Lo2 rfl rfl rfl rfl<|Lo2 rfl rfl rfl rfl<|Ls (q0s (v:=.bool _) rfl rfl)<|a_B rfl<|q0c<|tn<|q0r ?_);exact q0e rfl rfl (v:=.bool _) rfl ⟨false,rfl,⟨(fun h=>by cases h),fun h=>(h4 h.p).elim⟩,E12⟩
      · (refine q1j<|te<|te<|bx<|tn<|q0b<|q0a<|Ls (q0i rfl)<|Ls (X_ld (cs:=waC (.slice Ap P.length cp) rho (.slice Ai I.length ci)) rfl B5 rfl)<|Ls (q0f rfl)<|Ls (q0i rfl)<|Ls (X_ld (cs:=shC (s.R:Nat) (s.C:Nat) (s.B:Nat) (s.t:Nat)) rfl C3 rfl)<|Ls (q2g rfl rfl (by omega))<|m_B rfl<|Lo2 rfl rfl rfl rfl<|Lo2 rfl rfl rfl rfl<|Lo2 rfl rfl rfl rfl<|Lo2 rfl rfl rfl rfl<|Lo2 rfl rfl rfl rfl<|Ls (q0s (v:=.bool _) rfl rfl)<|m_B rfl<|Lo2 rfl rfl rfl rfl<|Lo2 rfl rfl rfl rfl<|Lo2 rfl rfl rfl rfl<|Ls (q0s (v:=.bool _) rfl rfl)<|m_B rfl<|Lo2 rfl rfl rfl rfl<|Lo2 rfl rfl rfl rfl<|Lo2 rfl rfl rfl rfl<|Ls (q0s (v:=.bool _) rfl rfl)<|a_B rfl<|q0c<|tn<|q0r ?_);exact q0e rfl rfl (v:=.bool _) rfl ⟨false,rfl,⟨(fun h=>by cases h),fun h=>(h3 h.i).elim⟩,E12⟩
theorem vals_getD {l:List K} {i:Nat} {x:K} (h:l[i]?=some x):l.getD i 0=x:=by rw [List.getD_eq_getElem?_getD,h];rfl
set_option maxRecDepth 100000 in
set_option maxHeartbeats 4000000 in
theorem gsumw (al ah bl bh:Nat) (u v:Value) (ws:List E) (l:List K) (hwl:l.length≤ws.length) (hl6:ws.length≤1000000) (w:World) (hu:Row w al ah 2 u ws.length (exs (raw ws))) (hv:Row w bl bh 1 v l.length (ints .u64 (vals l))) :
    Calls Tryz.prog 62 #[.agg mixC.toArray,u,v] w fun e w'=>e=.returned (.agg (xc (comb ws l)).toArray)∧Ext w w':=by
  obtain ⟨Au,cu,rfl⟩:∃ A c,u=.slice A ws.length c:=by
    obtain ⟨_,A,c,rfl,_⟩:=hu;exact ⟨A,c,rfl⟩
  obtain ⟨Av,cv,rfl⟩:∃ A c,v=.slice A l.length c:=by
    obtain ⟨_,A,c,rfl,_⟩:=hv;exact ⟨A,c,rfl⟩
  refine q0k Tryz.func62 rfl Tryz.ntmps62 rfl ?_;(refine q0b<|q0a ?_);refine q1t rfl ?_;intro g3 w1 B3 hg3 E1 hs1;refine q0w ?_;intro g6 w2 B6 hg6 E2 hs2;(refine q0c<|tn<|q0b<|q0a ?_);refine q0w ?_;intro g7 w3 B7 hg7 E3 hs3;have C3:=B3.ext (E2.trans E3);have C6:=B6.ext E3;have E13:=E1.trans (E2.trans E3);have hn36:g3 ≠ g7:=by have:=(E2.trans E3).size;have:=E2.size;omega
  have hn67:g6 ≠ g7:=by have:=E3.size;omega
  (refine q0c<|tn<|q0b<|q0b<|q0a<|m_S rfl<|Ls (q0f rfl)<|m_I rfl<|q0c<|tn<|q0h ?_);refine q1k (fun q f w'=>∃ i,q=l.length - i∧i≤l.length∧f 1=.slice Au ws.length cu∧f 3=.pointer (some ⟨g3,0,none⟩)∧f 6=.pointer (some ⟨g6,0,none⟩)∧f 7=.pointer (some ⟨g7,0,none⟩)∧f 10=.slice Av l.length cv∧f 11=.int .i64 (l.length:Nat)∧f 12=.int .i64 (i:Nat)∧Blk w' g3 112 mixC∧Blk w' g6 31 (exC 0 0)∧Blk w' g7 31 (xc (Fd.es i fun j=>ws.getD j 0 * E.of (l.getD j 0)))∧Ext w w') l.length ?_ ?_
  · exact ⟨0,rfl,by omega,rfl,rfl,rfl,rfl,rfl,rfl,rfl,C3,C6,B7,E13⟩
  · rintro q f wr ⟨i,hq,hi,f1,f3,f6,f7,f10,f11,f12,D3,D6,D7,hE⟩;rw [fold f1,fold f3,fold f6,fold f7,fold f10,fold f11,fold f12];(refine q0b<|q0a<|Ls (q1w rfl rfl)<|q0c<|tn<|q0b ?_);refine q1b rfl (fun h=>?_) (fun h=>?_)
    · have hlt:i < l.length:=(by omega);obtain ⟨x,hx⟩:∃ x,l[i]?=some x:=⟨_,List.getElem?_eq_getElem hlt⟩;obtain ⟨y,hy⟩:∃ y,ws[i]?=some y:=⟨_,List.getElem?_eq_getElem (by omega)⟩;obtain ⟨b1,o1,c1,e1,_,_,_,hRv⟩:=hv.at hlt;cases e1
      have hu':=hu;rw [← q1q ws] at hu';obtain ⟨b2,o2,e2,_,_,_,_,_,hRu⟩:=q8f hu' (q4l hy);cases e2
      obtain ⟨acc,hacc⟩:∃ acc,acc=Fd.es i fun j=>ws.getD j 0 * E.of (l.getD j 0):=⟨_,rfl⟩;rw [← hacc] at D7;have hstep:acc+y * E.of x=Fd.es (i+1) fun j=>ws.getD j 0 * E.of (l.getD j 0):=by
        show _=Fd.es i _+ws.getD i 0 * E.of (l.getD i 0);rw [← hacc,vals_getD hx,List.getD_eq_getElem?_getD,hy];rfl
      (refine q0q<|tn<|q0b<|q0h<|q0b<|q0a<|m_I rfl<|Ls (q0n rfl rfl (by omega))<|Ls (q1v rfl (hE.range hRv) (j:=i) (by omega) (q2t (q9n hx)))<|a_I rfl<|a_I rfl<|q0c<|tn ?_);apply q1h 11 (by kernel_rfl);repeat (first | ((with_reducible apply q2h);(first | apply DW_x (fun r w hA hH=>(q0d (v:=.int _ _) rfl).trans rfl) | apply DW_x (fun r w hA hH=>(q0d (v:=.slice _ _ _) rfl).trans rfl))) | ((with_reducible apply q7i);apply DW_x (fun r w hA hH=>(q0i rfl).trans rfl)) | ((with_reducible apply q2j);(first | apply DW_x (fun r w hA hH=>(X_ld (cs:=mixC) rfl (D3.ext hA) rfl).trans rfl) | apply DW_x (fun r w hA hH=>(q1a rfl (D7.ext hA) rfl).trans rfl) | apply DW_x (fun r w hA hH=>(q2q (size:=2) (cs:=xc y) rfl ((hE.trans hA).range hRu) rfl).trans rfl))) | ((with_reducible apply q3x);apply DW_x (fun r w hA hH=>(q0n rfl rfl (by omega)).trans rfl)))
      apply DW_fc (first:=#[]) (cap:=#[]) (vl:=fun _=>[kv x,.agg (xc y).toArray]) (fun _=>rfl) (fun _=>rfl) (fun r w hA hH=>gmixed y x w);((with_reducible exact q1p);(exact rfl);(repeat (first | exact .inr (.inr (fun _ _=>by with_reducible rfl)) | (refine And.intro ?_ ?_) | exact .inr (.inl rfl) | exact .inl (by decide +kernel) | exact trivial | exact .inr (.inr (fun _ _=>rfl))));(try dsimp only [Nat.reduceAdd]));intro r w4 E4 _;refine q6y (vl:=[.agg (xc acc).toArray,.agg (xc (y * E.of x)).toArray]) rfl (gexadd acc (y * E.of x) w4) rfl (fun e w5 hq=>⟨_,hq.1,?_⟩);have E5:=hq.2;have E45:=E4.trans E5;refine q0j (l:=xc (acc+y * E.of x)) rfl rfl rfl q1d (D7.ext E45) rfl ?_;intro w6 D7' hg6' hs6;(refine q0c<|bn<|tn<|q0a<|Ls (q1e rfl rfl (by omega))<|m_I rfl<|q0c<|tn ?_);refine ⟨l.length - (i+1),by omega,i+1,rfl,by omega,rfl,rfl,rfl,rfl,rfl,rfl,rfl,(D3.ext E45).grown hg6' (by simp;omega),(D6.ext E45).grown hg6' (by simp;omega),by rw [← hstep];exact D7',(hE.trans E45).then hg6' (fun g h=>by cases h;have:=(E1.trans E2).size;omega)⟩
    · have hil:i=l.length:=(by omega);rw [hil] at D7;(refine q1j<|te<|te<|bx<|tn<|q0b<|q0a<|Ls (q1a rfl D7 rfl) ?_);refine q0j (l:=xc (comb ws l)) rfl rfl rfl q1d D6 rfl ?_;intro w6 D6' hg6' hs6;(refine q0c<|tn<|q0r ?_);refine q0y rfl rfl (Res.cellA inferInstance rfl (D6'.range (fun j u h=>by simpa using h)) rfl .nil) ?_;exact ⟨rfl,hE.then hg6' (fun g h=>by cases h;have:=E1.size;omega)⟩
theorem z3x (x:E) (n:Nat):(pws x n).length=n:=by unfold pws;simp
theorem raw_drop {w:World} {lo hi m c:Nat} {A:Option Addr} {P:List E} (h:Row w lo hi 2 (.slice A m c) m (exs (raw P))) (hl:P.length=m) {i:Nat} (hi':i≤m) :
    Row w lo hi 2 (.slice (if c=i then A else A.map (·.add (i * 2))) (m - i) (c - i)) (P.drop i).length (exs (raw (P.drop i))):=by
  have:=h.slice (i:=i) (j:=m) rfl hi' (Nat.le_refl _);have e:((exs (raw P)).drop (i * 2)).take ((m - i) * 2)=exs (raw (P.drop i)):=by
    have h1:raw P=raw (P.take i)++raw (P.drop i):=(by unfold raw;rw [← List.map_append,List.take_append_drop]);have h2:(exs (raw (P.take i))).length=i * 2:=(by rw [q5w,q1q,List.length_take];omega);rw [h1,q3k,← h2,List.drop_left,List.take_of_length_le (by rw [q5w,q1q,List.length_drop];omega)]
  rw [e] at this;rw [List.length_drop,hl];exact this
theorem Run_ex {P:Program} {n:NN} {o:Oper} {f:Fr} {w:World} {K Φ:Value→World→Prop} (h:∃ v w',X P n o f w=.ok (.value v) w'∧Φ v w') (hk:∀ v w',Φ v w'→K v w'):Run P n o f w K:=by
  obtain ⟨v,w',h1,h2⟩:=h;exact q4j h1 (hk v w' h2)
structure WJ (w2:World) (g2 g3 R:Nat) (L:Nat→Bool) (f:Fr) (w:World):Prop where
  e:Ext w2 w
  f2:f 2=.pointer (some ⟨g2,0,none⟩)
  f3:f 3=.pointer (some ⟨g3,0,none⟩)
  o0:L 0=true→f 9=.pointer (some ⟨g2,0+0,none⟩)
  o1:L 1=true→f 10=.int .i64 (R:Nat)
  o2:L 2=true→∃ k,f 11=.slice (some ⟨k,0,none⟩) R R∧w2.heap.size≤k∧k < w.heap.size∧Blk w k 31 (List.replicate R [Value.int .u64 0,.int .u64 0]).flatten∧(L 4=true→∀ q,f 7=.pointer (some ⟨q,0,none⟩)→q ≠ k)
  o3:L 3=true→f 12=.agg (xc 1).toArray
  o4:L 4=true→∃ q,f 7=.pointer (some ⟨q,0,none⟩)∧w2.heap.size≤q∧q < w.heap.size∧Blk w q 31 (if L 6=true then xc 1 else exC 0 0)
  o5:L 5=true→f 6=f 11
  d5:L 5=true→L 2=true
  d6:L 6=true→L 4=true
theorem WJ.step {w2:World} {g2 g3 R:Nat} {L L':Nat→Bool} {f f':Fr} {w w':World} (h:WJ w2 g2 g3 R L f w) (E:Ext w w')
    (h2:f' 2=f 2) (h3:f' 3=f 3) (o0:L' 0=true→L 0=true∧f' 9=f 9∨f' 9=.pointer (some ⟨g2,0+0,none⟩)) (o1:L' 1=true→L 1=true∧f' 10=f 10∨f' 10=.int .i64 (R:Nat))
    (o3:L' 3=true→L 3=true∧f' 12=f 12∨f' 12=.agg (xc 1).toArray) (o2:L' 2=true→L 2=true∧f' 11=f 11) (o4:L' 4=L 4∧f' 7=f 7) (o6:L' 6=L 6) (o5:L' 5=true→L 5=true∧f' 6=f 6∧f' 11=f 11∨f' 6=f' 11) (d5:L' 5=true→L' 2=true):WJ w2 g2 g3 R L' f' w':=by
  refine ⟨h.e.trans E,h2.trans h.f2,h3.trans h.f3,fun q=>?_,fun q=>?_,fun q=>?_,fun q=>?_,fun q=>?_,fun q=>?_,d5,fun q=>o4.1.symm ▸ h.d6 (o6 ▸ q)⟩
  · rcases o0 q with ⟨a,b⟩ | b
    · exact b.trans (h.o0 a)
    · exact b
  · rcases o1 q with ⟨a,b⟩ | b
    · exact b.trans (h.o1 a)
    · exact b
  · obtain ⟨a,b⟩:=o2 q;obtain ⟨k,h1,h2,h3,h4,h5⟩:=h.o2 a;have:=E.size;exact ⟨k,b.trans h1,h2,by omega,h4.ext E,fun r x hx=>h5 (o4.1 ▸ r) x (o4.2 ▸ hx)⟩
  · rcases o3 q with ⟨a,b⟩ | b
    · exact b.trans (h.o3 a)
    · exact b
  · obtain ⟨k,h1,h2,h3,h4⟩:=h.o4 (o4.1 ▸ q);have:=E.size;exact ⟨k,o4.2.trans h1,h2,by omega,by rw [o6];exact h4.ext E⟩
  · rcases o5 q with ⟨a,b,c⟩ | b
    · rw [b,c];exact h.o5 a
    · exact b
set_option maxRecDepth 100000 in
set_option maxHeartbeats 4000000 in
theorem gcweights (s:Sh) (hs:s.Ok) (pl ph:Nat) (pv iv:Value) (hiv:iv.oneCell'=true) (P:List E) (rho:E) (hP:P.length=s.a+s.c) (w:World) (hw:Tb w) (hp:Row w pl ph 2 pv P.length (exs (raw P))) :
    Calls Tryz.prog 60 #[.agg (shC (s.R:Nat) (s.C:Nat) (s.B:Nat) (s.t:Nat)).toArray,.agg (waC pv (rho.a.val,rho.b.val) iv).toArray] w fun e w'=>∃ q1 q2,e=.returned (.tuple #[q1,q2])∧Ext w w'∧w'.ownsRow w.heap.size 31 2 q1 s.R (exs (raw (Fd.eqT (P.drop s.c))))∧w'.ownsRow w.heap.size 31 2 q2 s.R (exs (raw (pws rho s.R))):=by
  obtain ⟨Ap,cp,rfl,hcp⟩:∃ A c,pv=.slice A P.length c∧P.length≤c:=by
    obtain ⟨_,A,c,rfl,h,_⟩:=hp;exact ⟨A,c,rfl,h⟩
  have hac:=hs.ac;have hR16:s.R≤65536:=(q1f (a:=s.a) (by omega)).2;have hR1:1≤s.R:=Nat.pow_pos (by decide);have hC16:s.C≤65536:=(q1f (a:=s.c) (by omega)).2;have hlc:lgI ((s.C:Nat):Int)=s.c:=q5f s.c;refine q0k Tryz.func60 rfl Tryz.ntmps60 rfl ?_;(refine q0b<|q0a ?_);refine q1t rfl ?_;intro g2 w1 B2 hg2 E1 hs1;refine q1t rfl ?_;intro g3 w2 B3 hg3 E2 hs2;have C2:=B2.ext E2;have E12:=E1.trans E2;(refine a_S rfl<|a_S rfl<|q0c<|tn<|q0b ?_);refine W_draw (WJ w2 g2 g3 s.R) (by kernel_rfl) ⟨Ext.drew w2,rfl,rfl,(fun h=>by simp at h),(fun h=>by simp at h),(fun h=>by simp at h),(fun h=>by simp at h),(fun h=>by simp at h),(fun h=>by simp at h),(fun h=>by simp at h),(fun h=>by simp at h)⟩ ?_ ?_
  · intro i o ho L f w hL hdep hJ;have hsz:=hJ.e.size;have hg2l:=C2.lt;have hwn:∀ {o:Oper} {ops:Array Oper} {K:Prop},o.guard=none→q3i ⟨35,[],none⟩ ops f o=false→K:=fun hg h=>(by rw [q4c hg] at h;cases h);match i,ho with
    | 0,ho =>
      obtain rfl:=Option.some.inj ho;refine ⟨fun _=>q4j ((q0i (show ev ⟨35,[],none⟩ f (.tmp 2)=_ from hJ.f2)).trans rfl) ?_,hwn rfl⟩;exact hJ.step (Ext.refl _) rfl rfl (fun _=>.inr rfl) (fun h=>.inl ⟨h,rfl⟩) (fun h=>.inl ⟨h,rfl⟩) (fun h=>⟨h,rfl⟩) ⟨rfl,rfl⟩ rfl (fun h=>.inl ⟨h,rfl,rfl⟩) hJ.d5
    | 1,ho =>
      obtain rfl:=Option.some.inj ho;have h0:=hJ.o0 (hdep ⟨0,.data⟩ (by simp) rfl);refine ⟨fun _=>q4j (X_ld (cs:=shC (s.R:Nat) (s.C:Nat) (s.B:Nat) (s.t:Nat)) (show ev ⟨35,[],none⟩ f (.tmp 9)=_ from h0) (C2.ext hJ.e) rfl) ?_,hwn rfl⟩;exact hJ.step (Ext.refl _) rfl rfl (fun h=>.inl ⟨h,rfl⟩) (fun _=>.inr rfl) (fun h=>.inl ⟨h,rfl⟩) (fun h=>⟨h,rfl⟩) ⟨rfl,rfl⟩ rfl (fun h=>.inl ⟨h,rfl,rfl⟩) hJ.d5
    | 2,ho =>
      obtain rfl:=Option.some.inj ho;have h1:=hJ.o1 (hdep ⟨1,.data⟩ (by simp) rfl);refine ⟨fun _=>Run_ex (X_makeD (w0:=w) s.R s.R (show ev ⟨35,[],none⟩ f (.tmp 10)=_ from h1) (show ev ⟨35,[],none⟩ f (.tmp 10)=_ from h1) rfl rfl (Nat.le_refl _) (by omega) (by omega) (Nat.le_refl _)) ?_,hwn rfl⟩;rintro v w' ⟨E,k,rfl,hk,hBk⟩;refine ⟨hJ.e.trans E,hJ.f2,hJ.f3,hJ.o0,hJ.o1,fun _=>⟨k,rfl,by omega,hBk.lt,hBk,fun h4 q hq=>?_⟩,hJ.o3,fun h4=>?_,fun h5=>?_,fun _=>rfl,hJ.d6⟩
      · obtain ⟨q',h1,_,h3,_⟩:=hJ.o4 h4;have:f 7=.pointer (some ⟨q,0,none⟩):=hq;rw [h1] at this;cases this
        omega
      · obtain ⟨q',h1,h2,h3,h4⟩:=hJ.o4 h4;exact ⟨q',h1,h2,by have:=E.size;omega,h4.ext E⟩
      · exact absurd (hJ.d5 h5) (by rw [hL];simp)
    | 3,ho =>
      obtain rfl:=Option.some.inj ho;refine ⟨fun _=>q6v (X_fn (vl:=[kv 1]) rfl) (gbase 1 w) fun e w' ⟨he,E⟩=>⟨_,he,?_⟩,hwn rfl⟩;exact hJ.step E rfl rfl (fun h=>.inl ⟨h,rfl⟩) (fun h=>.inl ⟨h,rfl⟩) (fun _=>.inr rfl) (fun h=>⟨h,rfl⟩) ⟨rfl,rfl⟩ rfl (fun h=>.inl ⟨h,rfl,rfl⟩) hJ.d5
    | 4,ho =>
      obtain rfl:=Option.some.inj ho;have hL6:¬ L 6=true:=fun h=>(by have:=hJ.d6 h;rw [hL] at this;cases this);refine ⟨fun _=>Run_ex (q9e (w0:=w) (z':=exC 0 0) (Nat.le_refl _)) ?_,hwn rfl⟩;rintro v w' ⟨E,q,rfl,hq,hBq⟩;refine ⟨hJ.e.trans E,hJ.f2,hJ.f3,hJ.o0,hJ.o1,fun h2=>?_,hJ.o3,fun h4=>⟨q,rfl,by omega,hBq.lt,?_⟩,hJ.o5,hJ.d5,fun _=>rfl⟩
      · obtain ⟨k,h1,h2',h3,h4,_⟩:=hJ.o2 h2;refine ⟨k,h1,h2',by have:=E.size;omega,h4.ext E,fun _ x hx=>?_⟩;have:(Value.pointer (some ⟨q,0,none⟩))=.pointer (some ⟨x,0,none⟩):=hx;cases this
        omega
      · show Blk w' q _ (if L 6=true then xc 1 else exC 0 0);rw [if_neg hL6];exact hBq
    | 5,ho =>
      obtain rfl:=Option.some.inj ho;refine ⟨fun _=>q4j (q0l (v:=f 11) rfl) ?_,hwn rfl⟩;exact hJ.step (Ext.refl _) rfl rfl (fun h=>.inl ⟨h,rfl⟩) (fun h=>.inl ⟨h,rfl⟩) (fun h=>.inl ⟨h,rfl⟩) (fun h=>⟨h,rfl⟩) ⟨rfl,rfl⟩ rfl (fun _=>.inr rfl) (fun _=>hdep ⟨2,.data⟩ (by simp) rfl)
    | 6,ho =>
      obtain rfl:=Option.some.inj ho;have hd:∀ j,j≤5→L j=true:=fun j hj=>by
        match j,hj with
        | 0,_=>exact hdep ⟨0,.phase⟩ (by simp) rfl
        | 1,_=>exact hdep ⟨1,.phase⟩ (by simp) rfl
        | 2,_=>exact hdep ⟨2,.phase⟩ (by simp) rfl
        | 3,_=>exact hdep ⟨3,.phase⟩ (by simp) rfl
        | 4,_=>exact hdep ⟨4,.phase⟩ (by simp) rfl
        | 5,_=>exact hdep ⟨5,.phase⟩ (by simp) rfl
      obtain ⟨q,h1,h2,h3,h4⟩:=hJ.o4 (hd 4 (by omega));rw [hL,if_neg (by simp)] at h4;obtain ⟨k,k1,k2,k3,k4,k5⟩:=hJ.o2 (hd 2 (by omega));have hqk:=k5 (hd 4 (by omega)) q h1;have hX:=fun t pos af=>q5t (P:=Tryz.prog) (n:=⟨35,[],none⟩) (f:=f) (w:=w) (d:=none) (t:=t) (ty:=31) (pos:=pos) (af:=af) (g:=none) (size:=2) (x:=.tmp 7) (y:=.tmp 12) (show ev ⟨35,[],none⟩ f (.tmp 7)=_ from h1) (show ev ⟨35,[],none⟩ f (.tmp 12)=_ from hJ.o3 (hd 3 (by omega))) rfl q1d h4 (by decide);have hE:=q2n w q ((exC 0 0).take 0++xc 1++(exC 0 0).drop (0+2)).toArray;refine ⟨fun _=>q4w (hX _ _ _) ⟨hJ.e.then hE (fun g h=>by cases h;omega),hJ.f2,hJ.f3,hJ.o0,hJ.o1,fun _=>⟨k,k1,k2,by have:=hE.size;omega,k4.grown hE (by simp;omega),fun _ x hx=>k5 (hd 4 (by omega)) x hx⟩,hJ.o3,fun _=>⟨q,h1,h2,by have:=hE.size;omega,?_⟩,hJ.o5,hJ.d5,fun _=>hd 4 (by omega)⟩,hwn rfl⟩;show Blk _ q _ (if (true:Bool)=true then xc 1 else exC 0 0);rw [if_pos rfl];exact h4.setRow _
    | i+7,ho=>simp at ho
  · intro L f w3 hall hJ;have hall:∀ i,i < 7→L i=true:=fun i hi=>hall i hi;obtain ⟨k,k1,k2,k3,k4,k5⟩:=hJ.o2 (hall 2 (by omega));obtain ⟨q,q1,q2,q3,q4⟩:=hJ.o4 (hall 4 (by omega));rw [if_pos (hall 6 (by omega))] at q4;have hqk:=k5 (hall 4 (by omega)) q q1;have f6:f 6=.slice (some ⟨k,0,none⟩) s.R s.R:=(hJ.o5 (hall 5 (by omega))).trans k1;have E3:=hJ.e;have f2:=hJ.f2;have f3:=hJ.f3;clear k5 hJ;have hz2:=E12.size;have hz3:=E3.size;have ok3:w3.ownsRow w.heap.size 31 2 (.slice (some ⟨k,0,none⟩) s.R s.R) s.R (exs (raw (tabE s.R fun j=>if j < 0 then pwE rho j else 0))):=by
      rw [tabE_zero] at k4;have e:tabE s.R (fun j=>if j < 0 then pwE rho j else 0)=tabE s.R fun _=>0:=q3t fun j _=>(by rw [if_neg (by omega)]);rw [e];exact q5a k4 (by omega) (Nat.le_refl _) (by unfold maxLen;omega) (by rw [q5w,q1q,q8r]) (by rw [List.take_of_length_le (by rw [q5w,q1q,q8r];exact Nat.le_refl _)])
    rw [fold f2,fold f3,fold f6,fold q1];(refine tn<|q0b<|q0b<|q0a<|m_S rfl<|Ls (q0f rfl)<|m_I rfl<|q0c<|tn<|q0h ?_);refine q1k (fun z f w'=>∃ i,z=s.R - i∧i≤s.R∧f 2=.pointer (some ⟨g2,0,none⟩)∧f 3=.pointer (some ⟨g3,0,none⟩)∧f 6=.slice (some ⟨k,0,none⟩) s.R s.R∧f 7=.pointer (some ⟨q,0,none⟩)∧f 14=.int .i64 (s.R:Nat)∧f 15=.int .i64 (i:Nat)∧Ext w2 w'∧Blk w' q 31 (xc (pwE rho i))∧w'.ownsRow w.heap.size 31 2 (.slice (some ⟨k,0,none⟩) s.R s.R) s.R (exs (raw (tabE s.R fun j=>if j < i then pwE rho j else 0)))) s.R ?_ ?_
    · exact ⟨0,rfl,by omega,rfl,rfl,rfl,rfl,rfl,rfl,E3,q4,ok3⟩
    · rintro z f wr ⟨i,hz,hi,f2,f3,f6,f7,f14,f15,hE,D7,o6⟩;rw [fold f2,fold f3,fold f6,fold f7,fold f14,fold f15];have hEs:=hE.size;(refine q0b<|q0a<|Ls (q1w rfl rfl)<|q0c<|tn<|q0b ?_);refine q1b rfl (fun h=>?_) (fun h=>?_)
      · have hlt:i < s.R:=(by omega);have D3:=B3.ext hE;(refine q0q<|tn<|q0b<|q0h<|q0b<|q0a<|m_I rfl<|a_I rfl<|q0c<|tn ?_);apply q1h 7 (by kernel_rfl);(apply DW_x (fun r w hA hH=>(q0d (v:=.slice _ _ _) rfl).trans rfl);apply DW_x (fun r w hA hH=>(q0d (v:=.int _ _) rfl).trans rfl);apply DW_x (fun r w hA hH=>(q1a rfl (D7.ext hA) rfl).trans rfl);apply DW_x (fun r w hA hH=>(q1a rfl (D7.ext hA) rfl).trans rfl);apply DW_x (fun r w hA hH=>(q0i rfl).trans rfl);apply DW_x (fun r w hA hH=>(q6b (size:=2) (l:=xc rho) rfl (D3.ext hA) rfl rfl).trans rfl));((with_reducible apply q1x);(exact fun _=>rfl);(exact fun _=>rfl);(exact fun r w hA hH=>gexmul (pwE rho i) rho w));((with_reducible exact q1p);(exact rfl);(repeat (first | exact .inr (.inr (fun _ _=>by with_reducible rfl)) | (refine And.intro ?_ ?_) | exact .inr (.inl rfl) | exact .inl (by decide +kernel) | exact trivial | exact .inr (.inr (fun _ _=>rfl))));(try dsimp only [Nat.reduceAdd]));intro r w4 E4 _;(refine Ls (q0n rfl rfl (by omega)) ?_);refine q5d (i:=i) (l:=xc (pwE rho i)) (q0p o6 E4) rfl rfl (by omega) rfl q1d hlt ?_;intro w5 o5 hg5 hs5;refine q0j (l:=xc (pwE rho i * rho)) rfl rfl rfl q1d ((D7.ext E4).grown hg5 (by simp;omega)) rfl ?_;intro w6 D7' hg6 hs6;(refine q0c<|bn<|tn<|q0a<|Ls (q1e rfl rfl (by omega))<|m_I rfl<|q0c<|tn ?_);have o6':=q1i o5 hg6 (fun g hg e=>by
          obtain rfl:k=g:=Option.some.inj hg
          exact hqk (Option.some.inj e))
        refine ⟨s.R - (i+1),by omega,i+1,rfl,by omega,rfl,rfl,rfl,rfl,rfl,rfl,((hE.trans E4).then hg5 (fun g h=>by cases h;omega)).then hg6 (fun g h=>by cases h;omega),D7',?_⟩;rw [q9r _ _ _ hlt] at o6';rw [show tabE s.R (fun j=>if j < i+1 then pwE rho j else 0)=tabE s.R fun j=>if j=i then pwE rho i else if j < i then pwE rho j else 0 from q3t fun j _=>by
          by_cases e1:j=i
          · rw [if_pos (by omega),if_pos e1,e1]
          · rw [if_neg e1]
            by_cases e2:j < i
            · rw [if_pos e2,if_pos (by omega)]
            · rw [if_neg e2,if_neg (by omega)]]
        exact o6'
      · have hiR:i=s.R:=(by omega);rw [hiR] at o6;have E0:=E12.trans hE;have D3:=B3.ext hE;have D2:=C2.ext hE;obtain ⟨x,hx⟩:∃ x:Value,x=.slice (if cp=s.c then Ap else Ap.map (·.add (s.c * 2))) (P.length - s.c) (cp - s.c):=⟨_,rfl⟩;have hrx:=fun y (E:Ext w y)=>raw_drop (hp.ext E) rfl (i:=s.c) (by omega);rw [← hx] at hrx;have hx1:x.oneCell'=true:=(by rw [hx];rfl);(refine q1j<|te<|te<|bx<|tn<|q0b ?_);apply q1h 9 (by kernel_rfl);(apply DW_x (fun r w hA hH=>(q0i rfl).trans rfl);apply DW_x (fun r w hA hH=>(X_ld (cs:=waC (.slice Ap P.length cp) (rho.a.val,rho.b.val) iv) rfl (D3.ext hA) rfl).trans rfl);apply DW_x (fun r w hA hH=>(q0i rfl).trans rfl);apply DW_x (fun r w hA hH=>(X_ld (cs:=shC (s.R:Nat) (s.C:Nat) (s.B:Nat) (s.t:Nat)) rfl (D2.ext hA) rfl).trans rfl));((with_reducible apply q1x);(exact fun _=>rfl);(exact fun _=>rfl);(exact fun r w hA hH=>gcpow ((s.C:Nat):Int) (by omega) (by omega) w));rw [hlc];((with_reducible apply DW_x);(exact fun r w hA hH=>((q5l (size:=2) (i:=s.c) (j:=P.length) rfl (by exact ⟨_,rfl⟩) (by exact rfl) (by omega) hcp).trans (by rw [← hx])).trans rfl));((with_reducible apply q4y);(exact fun _=>rfl);(exact fun _=>rfl);(exact fun r w hA hH=>q2o hA (geqt pl ph x (P.drop s.c) (by rw [List.length_drop];omega) w ((hw.ext E0).ext hA) (hrx w (E0.trans hA))));(exact fun _ _ _ _ _ _ E h=>OwnF.ext E h));(apply DW_x (fun r w hA hH=>(q0d (v:=.slice _ _ _) rfl).trans rfl));((with_reducible apply DW_x);(exact fun r w hA hH=>(q0l (v:=r 6) rfl).trans rfl));((with_reducible exact q1p);(exact rfl);(repeat (first | exact .inr (.inr (fun _ _=>by with_reducible rfl)) | (refine And.intro ?_ ?_) | exact .inr (.inl rfl) | exact .inl (by decide +kernel) | exact trivial | exact .inr (.inr (fun _ _=>rfl))));(try dsimp only [Nat.reduceAdd]));intro r w4 E4 H4;obtain ⟨bq,hbq,oq⟩:OwnF wr 31 2 (r 6) (2 ^ (P.drop s.c).length) (exs (raw (Fd.eqT (P.drop s.c)))) w4:=H4 6;(refine a_S rfl<|q0c<|tn<|q0r ?_);refine q2z rfl rfl (v:=r 6) (x:=.slice _ _ _) rfl rfl ⟨r 6,_,rfl,E0.trans E4,?_,?_⟩
        · rw [List.length_drop,hP,show s.a+s.c - s.c=s.a by omega] at oq;exact q1l oq (by have:=E0.size;omega)
        · have e:pws rho s.R=tabE s.R fun j=>if j < s.R then pwE rho j else 0:=by
            show tabE s.R (pwE rho)=_;exact q3t fun j hj=>by rw [if_pos hj]
          rw [e];exact q0p o6 E4
end Go.Proofs.YtpohjepbmgeplaaGreatDoor
