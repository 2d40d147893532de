/- HE, HF, HG, HH, HI, E7, E8, EA, EB, HJ, KY, HK, HL, HM, HN, HO, HP. -/
import Derived.Test.YtpohjepbmgeplaaGreatDoorQ3
import Derived.Test.YtpohjepbmgeplaaGreatDoorQ2
import Derived.Lib.ItoaNum
namespace Go.Proofs.YtpohjepbmgeplaaGreatDoor
open Go.RowKit Go.Proofs.K
open _root_.Fd (K E pw root tab cur)
theorem half_pow (i:Nat):((2 ^ (i+1):Nat):Int) / 2=((2 ^ i:Nat):Int):=by rw [Nat.pow_succ];omega
theorem pair_cells {n:Nat} (g:Nat→K) (p q:Nat) (u v:K) :
    ((ints .u64 (tab n g)).set p (kv u)).set q (kv v)=ints .u64 (tab n fun j=>if j=q then v else if j=p then u else g j):=by
  rw [q4f,q4f,Fd.tab_set,Fd.tab_set]
set_option maxRecDepth 100000 in
set_option maxHeartbeats 1000000 in
theorem gtransform {m n:Nat} (hm:m≤16) (hn:n=2 ^ m) (g:Nat) (a:Nat→K) (w:World) (hw:Tb w) (hB:Blk w g 29 (ints .u64 (tab n a))) :
    Calls Tryz.prog 153 #[.slice (some ⟨g,0,none⟩) n n,.bool false] w fun e w'=>e=.returned (.tuple #[])∧w.grownBy w' (some g)∧Blk w' g 29 (ints .u64 (tab n (cur a m m 0 0))):=by
  have hp:=q1f hm;rw [← hn] at hp;refine q6s Tryz.func153 rfl Tryz.ntmps153 rfl ?_;refine q4v ?_;(refine q0a ?_);refine q4r rfl rfl ?_;intro g2 w2 B2 hg2 E2 hs2;(refine q0c<|tn ?_);refine q4v ?_;(refine q0a<|Ls (X_ld rfl B2 rfl) ?_);refine L_fo (F:=fun v w'=>v=.tuple #[]∧w2.grownBy w' (some g)∧Blk w' g 29 (ints .u64 (tab n fun j=>a (Fd.rev m j)))) rfl ((gpermute hm hn g a w2 (hw.ext E2) (hB.ext E2)).mono fun e w' h=>⟨_,h.1,rfl,h.2⟩) ?_;rintro _ w3 ⟨rfl,G3,B3⟩;have hlt:=hB.lt;have C2:=B2.grown G3 (by simp;omega);(refine q0c<|tn ?_);refine q4v ?_;(refine q0a<|Ls (X_ld rfl C2 rfl)<|Ls (q0f rfl)<|m_B rfl ?_);refine L_fo rfl (gstagesMk n false w3) ?_;rintro q w4 ⟨b1,b2,rfl,E4,D1,D2,hb1,hb2⟩;(refine q0c<|tn ?_);have hs3:=G3.size;have hs4:=E4.size;have hz2:=E2.size;have B4:=B3.ext E4;have C4:=C2.ext E4;refine T_rangeE (ps:=[20,21]) (fun k=>k=g) rfl (enters_of Tryz.func203 (by kernel_rfl) rfl) (fun i vs a h=>by obtain ⟨_,rfl⟩:=h;rfl) (gstages (fun k=>k=g) b1 b2 hm hn w4 D1 D2 (by omega) (by omega))
    (fun i b=>Blk b g 29 (ints .u64 (tab n (cur a m i 0 0)))∧Blk b g2 22 [.slice (some ⟨g,0,none⟩) n n]∧i≤m) (fun _=>False) (fun i x y h C=>⟨C.blk h.1,C.blk h.2.1,h.2.2⟩) (fun _ _ h _=>h) ⟨?_,C4,by omega⟩
    (fun i vs a f' b=>b=a∧f' 2=.pointer (some ⟨g2,0,none⟩)∧f' 4=.int .i64 ((2 ^ (i+1):Nat):Int)∧f' 5=kv (root (i+1))) (fun i vs a f' b h=>by rw [h.1];exact Ext.refl a) (fun lp vs i x hi hM hp=>?_) (fun lp i vs y f' b x hi hM hp hga hac hbc=>?_) (fun D b hD hdn hM hbD=>?_)
  · rw [show tab n (cur a m 0 0 0)=tab n fun j=>a (Fd.rev m j) from Fd.tab_congr fun j hj=>by
      rw [Fd.cur_start,Nat.pow_zero,Nat.div_one,Nat.mod_one,Fd.stv_zero]]
    exact B4
  · obtain ⟨_,rfl⟩:=hp;(refine q0b<|q0a<|a_I rfl<|q0c<|tn<|q0a<|a_I rfl<|q0c ?_);exact ⟨rfl,rfl,rfl,rfl,rfl⟩
  · obtain ⟨hlt',_⟩:=hp;obtain ⟨rfl,h2,h4,h5⟩:=hga;obtain ⟨I1,I2,him⟩:=hi;obtain ⟨H,hH⟩:∃ H,H=2 ^ i:=⟨_,rfl⟩;obtain ⟨Z,hZ⟩:∃ Z,Z=2 ^ (i+1):=⟨_,rfl⟩;obtain ⟨C,hC⟩:∃ C,C=2 ^ (m - (i+1)):=⟨_,rfl⟩;have hC0:0 < C:=(by rw [hC];exact Nat.pow_pos (by decide));have hH0:0 < H:=(by rw [hH];exact Nat.pow_pos (by decide));have hn':n=C * Z:=(by rw [hn,hC,hZ,← Nat.pow_add];congr 1;omega);have hZH:Z=2 * H:=(by rw [hZ,hH,Nat.pow_succ];omega);have e1:=half_pow i;rw [← hZ] at h4 e1;rw [← hH] at e1;have hZn:Z≤n:=(by rw [hn'];exact Nat.le_mul_of_pos_left _ hC0);rw [fold h2,fold h4,fold h5];(refine q0h<|q0b<|q0a<|m_I rfl<|Ls (z2k rfl rfl (by omega))<|a_I rfl<|q0c<|tn<|q0b<|q0a<|a_I rfl<|q0c<|tn<|q0h ?_);rw [e1];skip;refine q1k (fun q f w'=>∃ s,q=C - s∧s≤C∧f 2=.pointer (some ⟨g2,0,none⟩)∧f 4=.int .i64 (Z:Nat)∧f 5=kv (root (i+1))∧f 6=.int .i64 (H:Nat)∧f 7=.int .i64 ((s * Z:Nat):Int)∧Mut (fun k=>k=g) x w'∧Blk w' g 29 (ints .u64 (tab n (cur a m i s 0)))∧Blk w' g2 22 [.slice (some ⟨g,0,none⟩) n n]) C ?_ ?_
    · exact ⟨0,by omega,by omega,rfl,rfl,rfl,rfl,by rw [Nat.zero_mul];rfl,Mut.refl _,I1,I2⟩
    · rintro q f wr ⟨s,hq,hs,f2,f4,f5,f6,f7,hMr,J1,J2⟩;rw [fold f2,fold f4,fold f5,fold f6,fold f7];(refine q0b<|q0b<|q0a<|m_I rfl<|Ls (X_ld rfl J2 rfl)<|Ls (q0f rfl)<|Ls (q1w rfl rfl)<|q0c<|tn ?_);refine q1b rfl (fun h=>?_) (fun h=>?_)
      · have hsC:s < C:=by
          have:s * Z < C * Z:=(by rw [← hn'];omega);exact Nat.lt_of_mul_lt_mul_right this
        have hsz:s * Z+Z≤n:=(by rw [hn',← Nat.succ_mul];exact Nat.mul_le_mul_right _ (by omega));(refine q0q<|tn<|q0b<|q0h<|q0b ?_);apply q1h 22 (by kernel_rfl);(apply DW_x (fun r w hA hH=>(X_ld rfl (J2.ext hA) rfl).trans rfl);apply DW_x (fun r w hA hH=>(q0d (v:=.int _ _) rfl).trans rfl);apply DW_x (fun r w hA hH=>(q0d (v:=.int _ _) rfl).trans rfl);apply DW_x (fun r w hA hH=>(q0d (v:=.int _ _) rfl).trans rfl);apply DW_x (fun r w hA hH=>(q1e rfl rfl (by omega)).trans rfl);apply DW_x (fun r w hA hH=>(q0d (v:=.int _ _) rfl).trans rfl);apply DW_x (fun r w hA hH=>(q0d (v:=.int _ _) rfl).trans rfl);apply DW_x (fun r w hA hH=>(q1e rfl rfl (by omega)).trans rfl));((with_reducible apply DW_x);(exact fun r w hA hH=>(z2j (size:=1) (s * Z) H H (s * Z) rfl rfl rfl rfl rfl (by omega) (by omega) (by omega) hH0 (by omega) (by omega)).trans rfl));repeat (first | ((with_reducible apply q2h);apply DW_x (fun r w hA hH=>(q0d (v:=.int _ _) rfl).trans rfl)) | ((with_reducible apply z2r);apply DW_x (fun r w hA hH=>(q1e rfl rfl (by omega)).trans rfl)) | ((with_reducible apply q2j);apply DW_x (fun r w hA hH=>(X_ld rfl (J2.ext hA) rfl).trans rfl)))
        ((with_reducible apply DW_x);(exact fun r w hA hH=>(z2j (size:=1) (s * Z+H) H H (s * Z+H) rfl rfl rfl rfl (by omega) (by omega) (by omega) (by omega) hH0 (by omega) (by omega)).trans rfl));(apply DW_x (fun r w hA hH=>(q0l (v:=.slice _ _ _) rfl).trans rfl);apply DW_x (fun r w hA hH=>(q0l (v:=.slice _ _ _) rfl).trans rfl));((with_reducible exact q1p);(exact rfl);(repeat (first | exact .inr (.inr (fun _ _=>by with_reducible rfl)) | (refine And.intro ?_ ?_) | exact .inr (.inl rfl) | exact .inl (by decide +kernel) | exact trivial | exact .inr (.inr (fun _ _=>rfl))));(try dsimp only [Nat.reduceAdd]));intro r0 w5 E5 _;have J1:=J1.ext E5;have J2:=J2.ext E5;have hMr:=hMr.ext_ E5;(refine q0c<|tn<|q0b<|q0a<|a_I rfl<|q0c<|tn<|q0b<|q0a<|m_S rfl<|Ls (q0f rfl)<|m_I rfl<|q0c<|tn<|q0h ?_);refine q1k (fun q f w'=>∃ r,q=H - r∧r≤H∧f 2=.pointer (some ⟨g2,0,none⟩)∧f 4=.int .i64 (Z:Nat)∧f 5=kv (root (i+1))∧f 6=.int .i64 (H:Nat)∧f 7=.int .i64 ((s * Z:Nat):Int)∧f 8=.slice (some ⟨g,s * Z,none⟩) H H∧f 9=.slice (some ⟨g,s * Z+H,none⟩) H H∧f 10=kv (pw (root (i+1)) r)∧f 52=.int .i64 (H:Nat)∧f 53=.int .i64 (r:Nat)∧Mut (fun k=>k=g) x w'∧Blk w' g 29 (ints .u64 (tab n (cur a m i s r)))∧Blk w' g2 22 [.slice (some ⟨g,0,none⟩) n n]) H ?_ ?_
        · exact ⟨0,by omega,by omega,rfl,rfl,rfl,rfl,rfl,rfl,rfl,rfl,rfl,rfl,hMr,J1,J2⟩
        · clear J1 J2 hMr f2 f4 f5 f6 f7;rintro q f wr ⟨r,hq,hr,f2,f4,f5,f6,f7,f8,f9,f10,f52,f53,hMr,J1,J2⟩;rw [fold f2,fold f4,fold f5,fold f6,fold f7,fold f8,fold f9,fold f10,fold f52,fold f53];(refine q0b<|q0a<|Ls (q1w rfl rfl)<|q0c<|tn<|q0b ?_);refine q1b rfl (fun h=>?_) (fun h=>?_)
          · have hrH:r < H:=(by omega);(refine q0q<|tn<|q0b<|q0h<|q0b<|q0a<|m_I rfl<|a_I rfl<|q0c<|tn<|q0b ?_);obtain ⟨tw,htw⟩:∃ tw,pw (root (i+1)) r=tw:=⟨_,rfl⟩;rw [htw];obtain ⟨u,hu⟩:∃ u,u=cur a m i s r (s * Z+r):=⟨_,rfl⟩;obtain ⟨v,hv⟩:∃ v,v=cur a m i s r (s * Z+H+r):=⟨_,rfl⟩;have eu:(tab n (cur a m i s r)).getD (s * Z+r * 1) 0=u.val:=(by rw [Nat.mul_one,Fd.tab_get _ (by omega),hu]);have ev':(tab n (cur a m i s r)).getD (s * Z+H+r * 1) 0=v.val:=(by rw [Nat.mul_one,Fd.tab_get _ (by omega),hv]);apply q1h 12 (by kernel_rfl);(apply DW_x (fun r w hA hH=>(q0d (v:=.slice _ _ _) rfl).trans rfl);apply DW_x (fun r w hA hH=>(q0d (v:=.int _ _) rfl).trans rfl);apply DW_x (fun r w hA hH=>(q0n rfl rfl (by omega)).trans rfl));((with_reducible apply DW_x);(exact fun r w hA hH=>((q4k (k:=.u64) rfl (J1.ext hA) (by rw [Fd.tab_len];omega)).trans (by rw [eu])).trans rfl));(apply DW_x (fun r w hA hH=>(q0d (v:=.slice _ _ _) rfl).trans rfl);apply DW_x (fun r w hA hH=>(q0d (v:=.int _ _) rfl).trans rfl);apply DW_x (fun r w hA hH=>(q0n rfl rfl (by omega)).trans rfl));((with_reducible apply DW_x);(exact fun r w hA hH=>((q4k (k:=.u64) rfl (J1.ext hA) (by rw [Fd.tab_len];omega)).trans (by rw [ev'])).trans rfl));(apply DW_x (fun r w hA hH=>(q0d (v:=.int _ _) rfl).trans rfl));((with_reducible apply q1x);(exact fun _=>rfl);(exact fun _=>rfl);(exact fun r w hA hH=>gmul v (tw) w));(apply DW_x (fun r w hA hH=>(q0l (v:=.int _ _) rfl).trans rfl);apply DW_x (fun r w hA hH=>(q0l (v:=.int _ _) rfl).trans rfl));((with_reducible exact q1p);(exact rfl);(repeat (first | exact .inr (.inr (fun _ _=>by with_reducible rfl)) | (refine And.intro ?_ ?_) | exact .inr (.inl rfl) | exact .inl (by decide +kernel) | exact trivial | exact .inr (.inr (fun _ _=>rfl))));(try dsimp only [Nat.reduceAdd]));intro r1 w6 E6 _;have J1:=J1.ext E6;have J2:=J2.ext E6;have hMr:=hMr.ext_ E6;(refine q0c<|tn<|q0b<|q0a<|m_S rfl<|m_I rfl<|m_S rfl<|m_I rfl<|m_I rfl<|m_I rfl ?_);refine L_fv rfl (gadd u (v * tw) w6) ?_;intro w7 E7;(refine m_I rfl<|m_I rfl ?_);refine L_fv rfl (gsub u (v * tw) w7) ?_;intro w8 E8;have E78:=E7.trans E8;(refine Ls (q0n rfl rfl (by omega)) ?_);refine q1m (v:=kv (u+v * tw)) rfl rfl rfl (J1.ext E78) (by rw [q0o,Fd.tab_len];omega) ?_;intro w9 B9 hg9 _;have hM9:=(hMr.ext_ E78).trans (Mut.store (J1.ext E78) hg9 rfl);have K2:=(J2.ext E78).grown hg9 (by simp;omega);(refine Ls (q0n rfl rfl (by omega)) ?_);refine q1m (v:=kv (u - v * tw)) rfl rfl rfl B9 (by rw [List.length_set,q0o,Fd.tab_len];omega) ?_;intro w10 B10 hg10 _;have hM10:=hM9.trans (Mut.store B9 hg10 rfl);have K3:=K2.grown hg10 (by simp;omega);(refine q0c<|tn<|q0a<|m_I rfl<|m_I rfl ?_);refine L_fv rfl (gmul (tw) (root (i+1)) w10) ?_;intro w11 E11;(refine a_I rfl<|q0c<|bn<|tn<|q0a<|Ls (q1e rfl rfl (by omega))<|m_I rfl<|q0c<|tn ?_);refine ⟨H - (r+1),by omega,r+1,rfl,by omega,rfl,rfl,rfl,rfl,rfl,rfl,rfl,by rw [show pw (root (i+1)) (r+1)=tw * root (i+1) by rw [← htw];rfl];rfl,rfl,rfl,hM10.ext_ E11,?_,K3.ext E11⟩;rw [pair_cells] at B10;rw [show tab n (cur a m i s (r+1))=_ from Fd.tab_congr fun j _=>by
              rw [Fd.cur_step a (by omega) (by omega) (by rw [← hH];exact hrH),← hZ,← hH,← hu,← hv,htw]]
            have e2:(tab n fun j=>if j=s * Z+r then u+v * tw else if j=s * Z+H+r then u - v * tw else cur a m i s r j)=tab n fun j=>if j=s * Z+H+r * 1 then u - v * tw else if j=s * Z+r * 1 then u+v * tw else cur a m i s r j:=Fd.tab_congr fun j _=>by
              rw [Nat.mul_one];by_cases q1:j=s * Z+r
              · rw [if_pos q1,if_neg (by omega),if_pos q1]
              · rw [if_neg q1,if_neg q1]
            rw [e2];exact B10.ext E11
          · have hrH:r=H:=(by omega);rw [hrH] at J1;(refine q1j<|te<|te<|bx<|bn<|tn<|q0a<|m_I rfl<|m_I rfl<|Ls (q1e rfl rfl (by omega))<|a_I rfl<|q0c<|tn ?_);refine ⟨C - (s+1),by omega,s+1,rfl,by omega,rfl,rfl,rfl,rfl,?_,hMr,?_,J2⟩
            · rw [Nat.succ_mul];rfl
            · rw [show tab n (cur a m i (s+1) 0)=tab n (cur a m i s H) from Fd.tab_congr fun j _=>by rw [hH];exact (Fd.cur_block a m i s j).symm];exact J1
      · have hsC:s=C:=by
          have:¬ s < C:=fun hlt=>by
            have:s * Z < C * Z:=Nat.mul_lt_mul_of_pos_right hlt (by omega);rw [← hn'] at this;omega
          omega
        rw [hsC,hC] at J1;(refine q1j<|te<|te<|bx<|bn ?_);refine ⟨hMr,?_,J2,by omega⟩;rw [show tab n (cur a m (i+1) 0 0)=tab n (cur a m i (2 ^ (m - (i+1))) 0) from Fd.tab_congr fun j hj=>(Fd.cur_stage a (by omega) (by rw [← hn];exact hj)).symm];exact J1
  · obtain ⟨i,hfin,I1,I2,him⟩:∃ i,i=m∧Blk b g 29 (ints .u64 (tab n (cur a m i 0 0)))∧Blk b g2 22 [.slice (some ⟨g,0,none⟩) n n]∧i≤m:=hdn.elim id False.elim;rw [hfin] at I1;refine endQ_marksE w.heap.size [D] rfl rfl (by simp) (fun D' h=>?_) (fun w' hc=>⟨.nil,rfl,?_,hc.blk I1⟩)
    · rw [List.mem_singleton.1 h];exact ⟨by omega,hbD⟩
    · exact hc.toGrown (q1o (q1o (q1o (E2.row _) G3 (fun g h=>.inl h)) E4 (fun _ h=>by cases h)) hM.toGrown (fun g h=>.inl h)) (Nat.le_refl _)
theorem gpot {a n:Nat} (ha:a≤16) (hn:n=2 ^ a) (w:World) :
    Calls Tryz.prog 152 #[.int .i64 (n:Nat)] w fun e w'=>e=.returned (.bool true)∧Ext w w':=by
  obtain ⟨h1,h2,h3⟩:=q6n ha hn;refine q0k Tryz.func152 rfl Tryz.ntmps152 rfl ?_;(refine q0b<|q0a<|a_B rfl<|q0c<|tn<|q0b<|q0a<|m_I rfl<|Ls (q4q rfl rfl (by omega))<|m_B rfl<|Lg2 rfl rfl rfl (q0d (v:=.int _ _) rfl)<|Lg2 rfl rfl rfl (q0d (v:=.int _ _) rfl)<|Lg2 rfl rfl rfl (q2d rfl rfl (by omega))<|Lg2 rfl rfl rfl (q5m rfl rfl)<|Lg2 rfl rfl rfl (q2b rfl rfl (by omega))<|Ls (q0v (v:=.bool _) rfl rfl)<|a_B rfl<|q0c<|tn<|q0r ?_);refine q0e rfl rfl (v:=.bool _) rfl ⟨rfl,Ext.refl w⟩
theorem gvalidLen {a n:Nat} (ha:a≤16) (hn:n=2 ^ a) (w:World) :
    Calls Tryz.prog 151 #[.int .i64 (n:Nat)] w fun e w'=>e=.returned (.bool true)∧Ext w w':=by
  obtain ⟨h1,h2,h3⟩:=q6n ha hn;refine q0k Tryz.func151 rfl Tryz.ntmps151 rfl ?_;(refine q0b<|q0a<|a_B rfl<|q0c<|tn<|q0b<|q0a<|m_I rfl ?_);refine L_fv rfl (gpot ha hn w) ?_;intro w1 E1;(refine m_B rfl<|Lg2 rfl rfl rfl (q0d (v:=.int _ _) rfl)<|Lg2 rfl rfl rfl (q7o rfl rfl (by omega))<|Ls (q0v (v:=.bool _) rfl rfl)<|a_B rfl<|q0c<|tn<|q0r ?_);refine q0e rfl rfl (v:=.bool _) rfl ⟨rfl,E1⟩
theorem pad_cells (l:List K) {n c:Nat} (hl:l.length=c) (hc:c≤n) :
    (List.replicate n [Value.int .u64 0]).flatten.take 0++ints .u64 (vals l)++(List.replicate n [Value.int .u64 0]).flatten.drop (0+c)=ints .u64 (tab n fun t=>l.getD t 0):=by
  have h0:(List.replicate n [Value.int .u64 0]).flatten=ints .u64 (List.replicate n 0):=q4u .u64 n 0;rw [h0,z1w,z1x,← q2u,← q2u,List.take_zero,List.nil_append,Nat.zero_add,List.drop_replicate];congr 1;apply List.ext_getElem?;intro j;unfold tab;by_cases hj:j < c
  · have hv:j < (vals l).length:=(by rw [q2e,hl];exact hj);rw [List.getElem?_append_left hv,List.getElem?_map,List.getElem?_range (by omega)];unfold vals;rw [List.getElem?_map];show _=some (l.getD j 0).val;rw [List.getD_eq_getElem?_getD,List.getElem?_eq_getElem (by omega)];rfl
  · rw [List.getElem?_append_right (by rw [q2e,hl];omega),q2e,hl,List.getElem?_replicate,List.getElem?_map];by_cases hn:j < n
    · rw [if_pos (by omega),List.getElem?_range hn];show _=some (l.getD j 0).val;rw [List.getD_eq_getElem?_getD,List.getElem?_eq_none (by omega)];rfl
    · rw [if_neg (by omega),List.getElem?_eq_none (l:=List.range n) (by simp;omega)];rfl
set_option maxRecDepth 100000 in
set_option maxHeartbeats 1000000 in
theorem gextend {a b c m:Nat} (h1:1≤b) (h4:b≤4) (hab:a+b≤16) (hc:c=2 ^ a) (hm:m=2 ^ b) (lo hi':Nat) (v:Value) (l:List K) (hl:l.length=c) (w:World) (hw:Tb w) (hr:Row w lo hi' 1 v c (ints .u64 (vals l))) :
    Calls Tryz.prog 105 #[v,.int .i64 (m:Nat)] w fun e w'=>∃ q,e=.returned (.tuple #[q,.int .i64 0])∧Ext w w'∧w'.ownsRow w.heap.size 29 1 q (m * c) (ints .u64 (vals (Fd.enc l (a+b)))):=by
  obtain ⟨h5,h6,_⟩:=q6n (a:=a) (by omega) hc;obtain ⟨h7,h8⟩:=z1l hab hc hm;obtain ⟨h2,h3⟩:=q8j h1 h4 hm;obtain ⟨bA,oA,cA,rfl,hcA,_,_,hR⟩:=hr.at (k:=0) (by omega);have hq:¬ ((65536:Int) / (c:Int) < (m:Int)):=by
    have:m≤65536 / c:=(Nat.le_div_iff_mul_le (by omega)).2 h8;have e:((65536 / c:Nat):Int)=(65536:Int) / (c:Int):=rfl;omega
  have e8:(m:Int) * (c:Int)=((m * c:Nat):Int):=(Int.natCast_mul m c).symm;have hcz:c≤m * c:=Nat.le_mul_of_pos_left _ (by omega);refine q0k Tryz.func105 rfl Tryz.ntmps105 rfl ?_;(refine q0b<|q0a<|a_S rfl<|a_I rfl<|q0c<|tn<|q0b<|q0b<|q0a<|m_S rfl<|Ls (q0f rfl) ?_);refine L_fv rfl (gvalidLen (a:=a) (by omega) hc w) ?_;intro w1 E1;(refine Ls (q1s rfl)<|m_B rfl<|Lg2 rfl rfl rfl (q0d (v:=.int _ _) rfl) ?_);refine q1z rfl rfl rfl ?_;refine L_fv rfl (gpot (a:=b) (by omega) hm w1) ?_;intro w2 E2;(refine Lg2 rfl rfl rfl (q1s rfl)<|Ls (q0s (v:=.bool _) rfl rfl)<|m_B rfl<|Lg2 rfl rfl rfl (q0d (v:=.int _ _) rfl)<|Lg2 rfl rfl rfl (q0d (v:=.slice _ _ _) rfl)<|Lg2 rfl rfl rfl (q0f rfl)<|Lg2 rfl rfl rfl (z2k rfl rfl (by omega))<|Lg2 rfl rfl rfl (q3a rfl rfl (by omega))<|Ls (q0s (v:=.bool _) rfl rfl)<|q0c<|tn<|q0x rfl<|q0q<|tn<|q0b<|q0a<|m_I rfl<|m_S rfl<|Ls (q0f rfl)<|Ls (q2a rfl rfl (by omega)) ?_);generalize hz:m * c=z at *;rw [e8];refine L_make (z:=[.int .u64 0]) z z rfl rfl rfl rfl (Nat.le_refl _) (by omega) (by omega) ?_;intro g w3 B3 hg E3 hs3;(refine a_S rfl<|q0c<|tn<|q0b<|q0a<|m_S rfl<|m_S rfl ?_);have E13:=E1.trans (E2.trans E3);refine L_copy (m:=c) (cs:=ints .u64 (vals l)) rfl rfl B3 (Nat.min_eq_left hcz).symm (by rw [q0o,q2e,hl]) (E13.range hR) (by rw [show (List.replicate z [Value.int .u64 0]).flatten=ints .u64 (List.replicate z 0) from q4u .u64 z 0,q0o,List.length_replicate];omega) q1c ?_;intro w4 B4 hg4 _;rw [pad_cells l hl hcz] at B4;have Ea:Ext w w4:=E13.then hg4 (fun g h=>by cases h;have:=E1.size;have:=E2.size;omega);(refine q0c<|tn<|q0b<|q0a<|m_S rfl ?_);refine L_fo (F:=fun v w'=>v=.tuple #[]∧w4.grownBy w' (some g)∧Blk w' g 29 _) rfl ((gtransform hab h7 g _ w4 (hw.ext Ea) B4).mono fun e w' h=>⟨_,h.1,rfl,h.2⟩) ?_;rintro _ w5 ⟨rfl,G5,B5⟩;(refine q0c<|tn<|q0b<|q0a<|m_S rfl<|a_S rfl<|a_I rfl<|q0c<|tn<|q0r ?_);have Eb:Ext w w5:=Ea.then G5 (fun g h=>by cases h;have:=E1.size;have:=E2.size;omega);refine q2z rfl rfl (v:=.slice _ _ _) (x:=.int _ _) rfl rfl ?_;refine ⟨_,rfl,Eb,q5a B5 (by have:=E1.size;have:=E2.size;omega) (Nat.le_refl _) (by unfold maxLen;omega) (by rw [q0o,Fd.tab_len,Nat.mul_one]) ?_⟩;rw [h7,List.take_of_length_le (by rw [q0o,Fd.tab_len,Nat.mul_one];exact Nat.le_refl _),Fd.tab_enc l (by omega)];rfl
set_option maxHeartbeats 1000000 in
theorem gencode {a b c m:Nat} (h1:1≤b) (h4:b≤4) (hab:a+b≤16) (hc:c=2 ^ a) (hm:m=2 ^ b) (lo hi':Nat) (v:Value) (l:List K) (hl:l.length=c) (w:World) (hw:Tb w) (hr:Row w lo hi' 1 v c (ints .u64 (vals l))) :
    Calls Tryz.prog 51 #[v,.int .i64 (m:Nat)] w fun e w'=>∃ q,e=.returned (.tuple #[q,.int .i64 0])∧Ext w w'∧w'.ownsRow w.heap.size 29 1 q (m * c) (ints .u64 (vals (Fd.enc l (a+b)))):=by
  obtain ⟨A,cA,rfl⟩:∃ A cA,v=.slice A c cA:=by
    obtain ⟨_,A,c',rfl,_⟩:=hr;exact ⟨A,c',rfl⟩
  refine q0k Tryz.func51 rfl Tryz.ntmps51 rfl ?_;(refine q0b<|q0a<|a_S rfl<|a_I rfl<|q0c<|tn<|q0b<|q0b<|q0a<|m_S rfl<|Ls (q0f rfl)<|m_I rfl ?_);refine L_fv rfl (gvalidRow h1 h4 hab hc hm w) ?_;intro w1 E1;(refine Ls (q1s rfl)<|q0c<|tn<|q0x rfl<|q0q<|tn<|q0b<|q0a<|m_S rfl<|m_I rfl ?_);refine L_fo (F:=fun v w'=>∃ q,v=.tuple #[q,.int .i64 0]∧Ext w1 w'∧w'.ownsRow w1.heap.size 29 1 q (m * c) (ints .u64 (vals (Fd.enc l (a+b))))) rfl ((gextend h1 h4 hab hc hm lo hi' _ l hl w1 (hw.ext E1) (hr.ext E1)).mono fun e w' ⟨q,h1,h2,h3⟩=>⟨_,h1,q,rfl,h2,h3⟩) ?_;rintro _ w2 ⟨q,rfl,E2,o2⟩;(refine Ls (q0t rfl rfl)<|Ls (q0t rfl rfl)<|Ls (q0l (v:=q) rfl)<|a_I rfl<|q0c<|tn<|q0r ?_);exact q2z rfl rfl (v:=q) (x:=.int _ _) rfl rfl ⟨q,rfl,E1.trans E2,q1l o2 E1.size⟩
end Go.Proofs.YtpohjepbmgeplaaGreatDoor
namespace Go.Proofs.YtpohjepbmgeplaaGreatDoor
open Go.RowKit Go.Proofs.K
open _root_.Fd (K E pw root tab)
set_option maxHeartbeats 1000000 in
theorem cloneE (lo hi:Nat) (v:Value) (a:List (Nat × Nat)) (hl:a.length≤1000000000) (w:World) (hr:Row w lo hi 2 v a.length (exs a)) :
    Calls Tryz.prog 90 #[v] w fun e w'=>∃ q,e=.returned q∧Ext w w'∧w'.ownsRow w.heap.size 31 2 q a.length (exs a):=by
  refine q0k Tryz.func90 rfl Tryz.ntmps90 rfl ?_;have hr':=hr;obtain ⟨hl0,A,c,rfl,hc,hcm,hn⟩:=hr';(refine q0b<|q0a<|a_S rfl<|q0c<|tn<|q0b<|q0b<|q0a<|m_S rfl ?_);refine Ls (X_eqlNil rfl rfl) ?_;(refine q0c<|tn ?_);refine z0w rfl (fun h=>?_) (fun h=>?_)
  · have hA:A=none:=(by simpa using h);subst hA;have h0:a=[]:=by
      rcases Nat.eq_zero_or_pos a.length with h0 | h0
      · exact List.eq_nil_of_length_eq_zero h0
      · obtain ⟨b,o,hb,_⟩:=hn h0;cases hb
    subst h0;(refine q0b<|q0a<|a_S rfl<|q0c<|tn<|q0r<|tr ?_);refine q0e rfl rfl (v:=.slice _ _ _) rfl ?_;exact ⟨_,rfl,Ext.refl w,⟨rfl,.inl ⟨rfl,rfl⟩⟩⟩
  · (refine q0q<|tn<|q0b<|q0a ?_);refine q3r (size:=2) ?_;intro q1 w1 E1 hs1 o1;(refine m_S rfl ?_);refine q1n (v:=q1) (u:=.slice _ _ _) rfl rfl o1 (hr.ext E1) z4h (by omega) (by omega) (by omega) ?_;intro q2 w2 o2 hg2 _;(refine Ls (q0l (v:=q2) rfl)<|q0c<|tn<|q0r ?_);refine q0e rfl rfl (v:=q2) rfl ?_;refine ⟨q2,rfl,E1.then hg2 (fun g h=>(o1.lt g h).1),?_⟩;rw [Nat.zero_add,List.nil_append] at o2;exact o2
theorem exs_set (l:List (Nat × Nat)) {i:Nat} (p:Nat × Nat) (hi:i < l.length):(exs l).take (i * 2)++exC p.1 p.2++(exs l).drop (i * 2+2)=exs (l.set i p):=by
  have h1:l=l.take i++[l[i]]++l.drop (i+1):=by
    rw [List.append_assoc,List.singleton_append,← List.drop_eq_getElem_cons hi,List.take_append_drop]
  have h2:l.set i p=l.take i++[p]++l.drop (i+1):=by
    rw [List.set_eq_take_append_cons_drop,if_pos hi,List.append_assoc];rfl
  have hk:(exs (l.take i)).length=i * 2:=by rw [q5w,List.length_take,Nat.min_eq_left (by omega)]
  have hm:(exs [l[i]]).length=2:=q5w _;rw [h2,q3k,q3k,z0d];congr 1
  · congr 1;conv=>lhs;rw [h1,q3k,q3k,List.append_assoc]
    rw [← hk,List.take_left]
  · conv=>lhs;rw [h1,q3k,q3k]
    rw [show i * 2+2=(exs (l.take i)++exs [l[i]]).length by rw [List.length_append,hk,hm],List.drop_left]
theorem raw_set (l:List E) (i:Nat) (x:E):raw (l.set i x)=(raw l).set i (x.a.val,x.b.val):=by unfold raw;rw [List.map_set]
def tabE (n:Nat) (g:Nat→E):List E:=(List.range n).map g
theorem q8r (n:Nat) (g:Nat→E):(tabE n g).length=n:=by unfold tabE;simp
theorem tabE_get {n:Nat} (g:Nat→E) {j:Nat} (h:j < n):(tabE n g)[j]?=some (g j):=by
  unfold tabE;rw [List.getElem?_map,List.getElem?_range h];rfl
theorem q3t {n:Nat} {g h:Nat→E} (e:∀ j,j < n→g j=h j):tabE n g=tabE n h:=by
  unfold tabE;exact List.map_congr_left fun j hj=>e j (List.mem_range.1 hj)
theorem tabE_set (n:Nat) (g:Nat→E) (i:Nat) (x:E):(tabE n g).set i x=tabE n fun j=>if j=i then x else g j:=by
  apply List.ext_getElem?;intro j;unfold tabE;rw [List.getElem?_set,List.getElem?_map,List.getElem?_map];by_cases h:j < n
  · rw [List.getElem?_range h];by_cases e:i=j
    · subst e;simp [h]
    · rw [if_neg e];simp [show ¬ j=i from fun h=>e h.symm]
  · rw [List.getElem?_eq_none (l:=List.range n) (by simp;omega)];by_cases e:i=j
    · subst e;simp [h]
    · rw [if_neg e];rfl
theorem tabE_self (l:List E):tabE l.length (fun j=>l.getD j 0)=l:=by
  apply List.ext_getElem?;intro j;by_cases h:j < l.length
  · rw [tabE_get _ h,List.getD_eq_getElem?_getD,List.getElem?_eq_getElem h];rfl
  · rw [List.getElem?_eq_none (by rw [q8r];omega),List.getElem?_eq_none (by omega)]
theorem q9r (n:Nat) (g:Nat→E) {i:Nat} (x:E) (hi:i < n):(exs (raw (tabE n g))).take (i * 2)++xc x++(exs (raw (tabE n g))).drop (i * 2+2)=exs (raw (tabE n fun j=>if j=i then x else g j)):=by
  rw [← tabE_set,raw_set,← exs_set _ _ (by rw [q1q,q8r];exact hi)]
theorem tabE_zero (n:Nat):(List.replicate n [Value.int .u64 0,.int .u64 0]).flatten=exs (raw (tabE n fun _=>0)):=by
  have h:(List.range n).map (fun _=>exC 0 0)=List.replicate n (exC 0 0):=List.eq_replicate_iff.2 ⟨by simp,fun b hb=>by obtain ⟨_,_,rfl⟩:=List.mem_map.1 hb;rfl⟩;unfold exs raw tabE;rw [List.map_map,List.map_map];show _=((List.range n).map fun _=>exC 0 0).flatten;rw [h];rfl
set_option maxHeartbeats 1000000 in
theorem gblend (x y z:E) (w:World) :
    Calls Tryz.prog 142 #[.agg (xc x).toArray,.agg (xc y).toArray,.agg (xc z).toArray] w fun e w'=>e=.returned (.agg (xc (x+z * (y - x))).toArray)∧Ext w w':=by
  refine q0k Tryz.func142 rfl Tryz.ntmps142 rfl ?_;(refine q0b<|q0a ?_);refine q1t rfl ?_;intro g1 w1 B1 hg1 E1 hs1;refine q1t rfl ?_;intro g2 w2 B2 hg2 E2 hs2;refine q1t rfl ?_;intro g3 w3 B3 hg3 E3 hs3;refine q0w ?_;intro g4 w4 B4 hg4 E4 hs4;have C1:=B1.ext (E2.trans (E3.trans E4));have C2:=B2.ext (E3.trans E4);have C3:=B3.ext E4;(refine q0c<|tn<|q0b ?_);apply q1h 6 (by kernel_rfl);(apply DW_x (fun r w hA hH=>(q1a rfl (C1.ext hA) rfl).trans rfl);apply DW_x (fun r w hA hH=>(q1a rfl (C3.ext hA) rfl).trans rfl);apply DW_x (fun r w hA hH=>(q1a rfl (C2.ext hA) rfl).trans rfl);apply DW_x (fun r w hA hH=>(q1a rfl (C1.ext hA) rfl).trans rfl));((with_reducible apply q1x);(exact fun _=>rfl);(exact fun _=>rfl);(exact fun r w hA hH=>gexsub y x w));((with_reducible apply q1x);(exact fun _=>rfl);(exact fun _=>rfl);(exact fun r w hA hH=>gexmul z (y - x) w));((with_reducible exact q1p);(exact rfl);(repeat (first | exact .inr (.inr (fun _ _=>by with_reducible rfl)) | (refine And.intro ?_ ?_) | exact .inr (.inl rfl) | exact .inl (by decide +kernel) | exact trivial | exact .inr (.inr (fun _ _=>rfl))));(try dsimp only [Nat.reduceAdd]));intro r0 w5 E5 _;refine L_fv rfl (gexadd x (z * (y - x)) w5) ?_;intro w6 E6;refine q0j rfl rfl rfl q1d (B4.ext (E5.trans E6)) rfl ?_;intro wz Bz hgz _;(refine q0c<|tn<|q0r ?_);refine q0y rfl rfl (Res.cellA inferInstance rfl (Bz.range (fun j u h=>by simpa using h)) rfl .nil) ?_;exact ⟨rfl,(E1.trans (E2.trans (E3.trans (E4.trans (E5.trans E6))))).then hgz (fun g h=>by cases h;omega)⟩
theorem own_ex {w:World} {base g m c i o:Nat} {T:TypeId} {gf:Nat→E} (h:w.ownsRow base T 2 (.slice (some ⟨g,0,none⟩) m c) m (exs (raw (tabE m gf)))) (hi:i < m) (ho:o=i * 2):w.rangeAt g o (xc (gf i)):=by
  subst ho;intro j v hv;have hg:=exs_get (q4l (tabE_get gf hi));have hR:=q4o h;have hj:j=0∨j=1:=by
    have:j < (xc (gf i)).length:=(List.getElem?_eq_some_iff.1 hv).1;have:j < 2:=this;omega
  rcases hj with rfl | rfl
  · cases hv;have:=hR _ _ hg.1;rwa [Nat.zero_add] at this
  · cases hv;have:=hR _ _ hg.2;rwa [Nat.zero_add] at this
def bnd (l:List E) (r:E) (j:Nat):E:=l.getD (2 * j) 0+r * (l.getD (2 * j+1) 0 - l.getD (2 * j) 0)
theorem bindT_tab (l:List E) (r:E):Fd.bindT l r=tabE (l.length / 2) (bnd l r):=rfl
theorem z3v (l:List E) (k:Nat):(exs (raw l)).take (k * 2)=exs (raw (l.take k)):=by
  have h:raw l=raw (l.take k)++raw (l.drop k):=by unfold raw;rw [← List.map_append,List.take_append_drop]
  rcases Nat.le_total k l.length with hk | hk
  · have hl:(exs (raw (l.take k))).length=k * 2:=(by rw [q5w,q1q,List.length_take,Nat.min_eq_left hk]);rw [h,q3k,← hl,List.take_left]
  · rw [List.take_of_length_le (by rw [q5w,q1q];omega),List.take_of_length_le hk]
theorem tabE_take (n k:Nat) (g:Nat→E) (h:k≤n):(tabE n g).take k=tabE k g:=by
  unfold tabE;rw [← List.map_take,List.take_range,Nat.min_eq_left h]
set_option maxRecDepth 100000 in
set_option maxHeartbeats 2000000 in
theorem gbind (base g m c:Nat) (l:List E) (z:E) (hl:l.length=m) (hm:m≤1000000) (w:World) (ho:w.ownsRow base 31 2 (.slice (some ⟨g,0,none⟩) m c) m (exs (raw l))) :
    Calls Tryz.prog 91 #[.slice (some ⟨g,0,none⟩) m c,.agg (xc z).toArray] w fun e w'=>e=.returned (.slice (some ⟨g,0,none⟩) (m / 2) c)∧w.grownBy w' (some g)∧w'.ownsRow base 31 2 (.slice (some ⟨g,0,none⟩) (m / 2) c) (m / 2) (exs (raw (Fd.bindT l z))):=by
  refine q0k Tryz.func91 rfl Tryz.ntmps91 rfl ?_;have hlt:=(ho.lt g rfl).2;have hmc:m≤c:=by
    rcases ho.2 with ⟨h,_⟩ | ⟨_,_,_,h,_,_,h2,_⟩
    · cases h
    · cases h;exact h2
  (refine q0b<|q0a ?_);refine q1t rfl ?_;intro g1 w1 B1 hg1 E1 hs1;(refine a_S rfl<|q0c<|tn<|q0b<|q0a<|m_S rfl<|Ls (q0f rfl)<|Ls (z2k rfl rfl (by omega))<|a_I rfl<|q0c<|tn<|q0b<|q0b<|q0a<|m_I rfl<|m_I rfl<|q0c<|tn<|q0h ?_);refine q1k (fun q f w'=>∃ i,q=m / 2 - i∧i≤m / 2∧f 0=.slice (some ⟨g,0,none⟩) m c∧f 3=.pointer (some ⟨g1,0,none⟩)∧f 5=.int .i64 ((m:Int) / 2)∧f 10=.int .i64 ((m:Int) / 2)∧f 11=.int .i64 (i:Nat)∧w.grownBy w' (some g)∧Blk w' g1 31 (xc z)∧w'.ownsRow base 31 2 (.slice (some ⟨g,0,none⟩) m c) m (exs (raw (tabE m fun j=>if j < i then bnd l z j else l.getD j 0)))) (m / 2) ?_ ?_
  · refine ⟨0,rfl,by omega,rfl,rfl,rfl,rfl,rfl,E1.row _,B1,?_⟩;rw [show tabE m (fun j=>if j < 0 then bnd l z j else l.getD j 0)=l from (q3t fun j _=>by rw [if_neg (by omega)]).trans (by rw [← hl];exact tabE_self l)];exact q0p ho E1
  · rintro q f wr ⟨i,hq,hi,f0,f3,f5,f10,f11,hG,C1,o1⟩;rw [fold f0,fold f3,fold f5,fold f10,fold f11];(refine q0b<|q0a<|Ls (q1w rfl rfl)<|q0c<|tn<|q0b ?_);refine q1b rfl (fun h=>?_) (fun h=>?_)
    · have hlt2:i < m / 2:=(by omega);have a1:∀ w,Ext wr w→w.rangeAt g (0+(2 * (i:Int)).toNat * 2) (xc (l.getD (2 * i) 0)):=fun w E=>by
        have h:=own_ex (q0p o1 E) (i:=2 * i) (o:=0+(2 * (i:Int)).toNat * 2) (by omega) (by omega);rwa [if_neg (by omega)] at h
      have a2:∀ w,Ext wr w→w.rangeAt g (0+(2 * (i:Int)+1).toNat * 2) (xc (l.getD (2 * i+1) 0)):=fun w E=>by
        have h:=own_ex (q0p o1 E) (i:=2 * i+1) (o:=0+(2 * (i:Int)+1).toNat * 2) (by omega) (by omega);rwa [if_neg (by omega)] at h
      (refine q0q<|tn<|q0b<|q0h<|q0b<|q0a<|m_I rfl<|a_I rfl<|q0c<|tn ?_);apply q1h 15 (by kernel_rfl);repeat (first | ((with_reducible apply q2h);(first | apply DW_x (fun r w hA hH=>(q0d (v:=.int _ _) rfl).trans rfl) | apply DW_x (fun r w hA hH=>(q0d (v:=.slice _ _ _) rfl).trans rfl))) | ((with_reducible apply z2r);apply DW_x (fun r w hA hH=>(q1e rfl rfl (by omega)).trans rfl)) | ((with_reducible apply d_mul);apply DW_x (fun r w hA hH=>(q2a rfl rfl (by omega)).trans rfl)) | ((with_reducible apply q2j);(first | apply DW_x (fun r w hA hH=>(q2q (size:=2) (cs:=xc _) rfl (a1 w hA) rfl).trans rfl) | apply DW_x (fun r w hA hH=>(q2q (size:=2) (cs:=xc _) rfl (a2 w hA) rfl).trans rfl) | apply DW_x (fun r w hA hH=>(q1a rfl (C1.ext hA) rfl).trans rfl))) | ((with_reducible apply q3x);apply DW_x (fun r w hA hH=>(q4n rfl rfl (by omega)).trans rfl)))
      ((with_reducible apply q1x);(exact fun _=>rfl);(exact fun _=>rfl);(exact fun r w hA hH=>gblend (l.getD (2 * i) 0) (l.getD (2 * i+1) 0) z w));((with_reducible exact q1p);(exact rfl);(repeat (first | exact .inr (.inr (fun _ _=>by with_reducible rfl)) | (refine And.intro ?_ ?_) | exact .inr (.inl rfl) | exact .inl (by decide +kernel) | exact trivial | exact .inr (.inr (fun _ _=>rfl))));(try dsimp only [Nat.reduceAdd]));intro r0 w2 E2 _;(refine Ls (q0n rfl rfl (by omega)) ?_);refine q5d (i:=i) (l:=xc (bnd l z i)) (q0p o1 E2) rfl rfl (by omega) rfl q1d (by omega) ?_;intro w3 o3 hg3 _;(refine q0c<|bn<|tn<|q0a<|Ls (q1e rfl rfl (by omega))<|m_I rfl<|q0c<|tn ?_);refine ⟨m / 2 - (i+1),by omega,i+1,rfl,by omega,rfl,rfl,rfl,rfl,rfl,q1o (q1o hG E2 (fun _ h=>by cases h)) hg3 (fun g h=>.inl h),(C1.ext E2).grown hg3 (by simp;omega),?_⟩;rw [q9r _ _ _ (show i < m by omega)] at o3;rw [show (tabE m fun j=>if j < i+1 then bnd l z j else l.getD j 0)=tabE m fun j=>if j=i then bnd l z i else if j < i then bnd l z j else l.getD j 0 from q3t fun j _=>by
        by_cases e1:j=i
        · rw [if_pos (by omega),if_pos e1,e1]
        · rw [if_neg e1]
          by_cases e2:j < i
          · rw [if_pos e2,if_pos (by omega)]
          · rw [if_neg e2,if_neg (by omega)]]
      exact o3
    · have hil:i=m / 2:=(by omega);rw [hil] at o1;(refine q1j<|te<|te<|bx<|tn<|q0b<|q0a<|m_S rfl<|m_I rfl ?_);refine Ls (z2h (m / 2) rfl rfl (by omega) (by omega)) ?_;(refine a_S rfl<|q0c<|tn<|q0r ?_);refine q0e rfl rfl (v:=.slice _ _ _) rfl ⟨rfl,hG,?_⟩;have:=own_cut o1 (h:=m / 2) (by omega);rw [z3v,tabE_take _ _ _ (by omega),show (tabE (m / 2) fun j=>if j < m / 2 then bnd l z j else l.getD j 0)=Fd.bindT l z from by rw [bindT_tab,hl];exact q3t fun j hj=>by rw [if_pos hj]] at this;exact this
set_option maxRecDepth 100000 in
set_option maxHeartbeats 2000000 in
theorem gmle (lo hi lo2 hi2:Nat) (v u:Value) (t p:List E) (hp:p.length≤16) (ht:t.length=2 ^ p.length) (w:World) (hr:Row w lo hi 2 v t.length (exs (raw t))) (hr2:Row w lo2 hi2 2 u p.length (exs (raw p))) :
    Calls Tryz.prog 33 #[v,u] w fun e w'=>e=.returned (.agg (xc (Fd.mleS t p)).toArray)∧Ext w w':=by
  have hpw:=q1f hp;obtain ⟨A2,c2,rfl⟩:∃ A2 c2,u=.slice A2 p.length c2:=by
    obtain ⟨_,A,c,rfl,_⟩:=hr2;exact ⟨A,c,rfl⟩
  have hv:v.oneCell'=true:=by obtain ⟨_,_,_,rfl,_⟩:=hr;rfl
  refine q0k Tryz.func33 rfl Tryz.ntmps33 rfl ?_;(refine q0b<|q0a ?_);refine q0w ?_;intro g1 w1 B1 hg1 E1 hs1;have hr':=hr.ext E1;rw [← q1q t] at hr';(refine q0c<|tn<|q0b<|q0a<|Ls (q0d (v:=v) rfl) ?_);refine L_fo rfl (cloneE lo hi v (raw t) (by rw [q1q];omega) w1 hr') ?_;rintro q w2 ⟨E2,o2⟩;rw [q1q] at o2;obtain ⟨g,c,rfl,hgb,hglt,hmc,_⟩:=q7x o2 (by omega);(refine a_S rfl<|q0c<|tn<|q0b<|q0b<|q0a<|m_S rfl<|Ls (q0f rfl)<|m_I rfl<|q0c<|tn<|q0h ?_);have hsz:=E1.size;have hsz2:=E2.size;refine q1k (fun q f w'=>∃ k s,q=p.length - k∧k≤p.length∧s.length=2 ^ (p.length - k)∧Fd.mleB s (p.drop k)=Fd.mleB t p∧f 4=.pointer (some ⟨g1,0,none⟩)∧f 5=.slice (some ⟨g,0,none⟩) s.length c∧f 10=.slice A2 p.length c2∧f 11=.int .i64 (p.length:Nat)∧f 12=.int .i64 (k:Nat)∧Ext w1 w'∧w'.ownsRow w1.heap.size 31 2 (.slice (some ⟨g,0,none⟩) s.length c) s.length (exs (raw s))) p.length ?_ ?_
  · exact ⟨0,t,rfl,by omega,ht,rfl,rfl,rfl,rfl,rfl,rfl,E2,o2⟩
  · rintro q f wr ⟨k,s,hq,hk,hs,hm,f4,f5,f10,f11,f12,hE,ho⟩;rw [fold f4,fold f5,fold f10,fold f11,fold f12];(refine q0b<|q0a<|Ls (q1w rfl rfl)<|q0c<|tn<|q0b ?_);refine q1b rfl (fun h=>?_) (fun h=>?_)
    · have hlt:k < p.length:=(by omega);obtain ⟨z,hz⟩:∃ z,p[k]?=some z:=⟨p[k],List.getElem?_eq_getElem hlt⟩;have hr3:=(hr2.ext (E1.trans hE));rw [← q1q p] at hr3;obtain ⟨b,o,hA,_,_,_,_,_,hR⟩:=q8f hr3 (q4l hz);cases hA
      have hs16:s.length≤65536:=by
        rw [hs];exact (q1f (a:=p.length - k) (by omega)).2
      (refine q0q<|tn<|q0b<|q0h<|q0b<|q0a<|Ls (q0n rfl rfl (by omega))<|Ls (q2q (size:=2) (cs:=xc z) rfl hR rfl) ?_);refine q0w ?_;intro g7 w3 B3 hg3 E3 hs3;refine q0j rfl rfl rfl q1d B3 rfl ?_;intro w4 B4 hg4 hs4;have E4:Ext wr w4:=E3.then hg4 (fun g h=>by cases h;omega);(refine q0c<|tn<|q0a<|m_S rfl<|Ls (q1a rfl B4 rfl) ?_);refine L_fo (F:=fun v w'=>v=.slice (some ⟨g,0,none⟩) (s.length / 2) c∧w4.grownBy w' (some g)∧w'.ownsRow w1.heap.size 31 2 (.slice (some ⟨g,0,none⟩) (s.length / 2) c) (s.length / 2) (exs (raw (Fd.bindT s z)))) rfl ((gbind w1.heap.size g s.length c s z rfl (by omega) w4 (q0p ho E4)).mono fun e w' h=>⟨_,h.1,rfl,h.2⟩) ?_;rintro _ w5 ⟨rfl,G5,o5⟩;(refine a_S rfl<|q0c<|bn<|tn<|q0a<|Ls (q1e rfl rfl (by omega))<|m_I rfl<|q0c<|tn ?_);refine ⟨p.length - (k+1),by omega,k+1,Fd.bindT s z,rfl,by omega,?_,?_,rfl,by rw [Fd.bindT_len];rfl,rfl,rfl,rfl,(hE.trans E4).then G5 (fun g h=>by cases h;omega),by rw [Fd.bindT_len];exact o5⟩
      · rw [Fd.bindT_len,hs,show p.length - k=p.length - (k+1)+1 by omega,Nat.pow_succ,Nat.mul_div_cancel _ (by decide)]
      · rw [← hm,List.drop_eq_getElem_cons hlt];have e:p[k]=z:=(by rw [List.getElem?_eq_getElem hlt] at hz;exact Option.some.inj hz);rw [e];rfl
    · have hkl:k=p.length:=(by omega);subst hkl;rw [Nat.sub_self,Nat.pow_zero] at hs;rw [List.drop_length] at hm;have h0:∀ w,Ext wr w→w.rangeAt g (0+0 * 2) (xc (s.getD 0 0)):=fun w E=>by
        have ho':=q0p ho E;rw [← tabE_self s] at ho';rw [q8r] at ho';exact own_ex ho' (i:=0) (by omega) (by omega)
      (refine q1j<|te<|te<|bx<|tn<|q0b<|q0a<|m_S rfl<|Ls (q0n (i:=0) rfl rfl (by omega))<|Ls (q2q (size:=2) (cs:=xc (s.getD 0 0)) rfl (h0 wr (Ext.refl _)) rfl) ?_);refine q0j rfl rfl rfl q1d (B1.ext hE) rfl ?_;intro wz Bz hgz _;(refine q0c<|tn<|q0r ?_);refine q0y rfl rfl (Res.cellA inferInstance rfl (Bz.range (fun j u h=>by simpa using h)) rfl .nil) ?_;have hv:s.getD 0 0=Fd.mleS t p:=(by rw [← Fd.mle_eq p t ht,← hm];rfl);exact ⟨by rw [← hv];rfl,(E1.trans hE).then hgz (fun g h=>by cases h;omega)⟩
def PreWt (p:List E) (i:Nat) (vs:List Value) (_:World):Prop:=∃ x,p[i]?=some x∧vs=[.agg (xc (1 - x)).toArray,.agg (xc x).toArray]
set_option maxHeartbeats 1000000 in
theorem gweights (S:Nat→Prop) (b lo hi c:Nat) (A:Option Addr) (p:List E) (hl:p.length≤1000000) (w:World) (hw:Tb w) (hB:Blk w b 23 [.slice A p.length c]) (hr:Row w lo hi 2 (.slice A p.length c) p.length (exs (raw p)))
    (h1:¬ S b) (h2:∀ k,lo≤k→k < hi→¬ S k) (h3:¬ S 1) :
    z0k Tryz.prog 192 #[.pointer (some ⟨b,0,none⟩)] w S (PreWt p) (fun i=>i=p.length):=by
  intro lp J Jx w1 E1 hJ hJx hY h0;refine q0k Tryz.func192 rfl Tryz.ntmps192 rfl ?_;have hB1:=hB.ext E1;(refine q0b<|q0a<|Ls (X_ld rfl hB1 rfl)<|Ls (q0f rfl)<|m_I rfl<|q0c<|tn<|q0h ?_);refine q1k (fun q f w'=>∃ i,q=p.length - i∧i≤p.length∧f 0=q3o lp∧f 1=.pointer (some ⟨b,0,none⟩)∧f 5=.slice A p.length c∧f 6=.int .i64 (p.length:Nat)∧f 7=.int .i64 (i:Nat)∧J i w'∧Row w' lo hi 2 (.slice A p.length c) p.length (exs (raw p))∧Rng w' 1 (xc 1)) p.length ?_ ?_
  · exact ⟨0,rfl,by omega,rfl,rfl,rfl,rfl,rfl,h0,hr.ext E1,hw.one.ext E1⟩
  · rintro q f wr ⟨i,hq,hi,f0,f1,f5,f6,f7,hj,hr',ho⟩;rw [fold f0,fold f1,fold f5,fold f6,fold f7];(refine q0b<|q0a<|Ls (q1w rfl rfl)<|q0c<|tn<|q0b ?_);refine q1b rfl (fun h=>?_) (fun h=>?_)
    · have hlt:i < p.length:=(by omega);obtain ⟨z,hz⟩:∃ z,p[i]?=some z:=⟨p[i],List.getElem?_eq_getElem hlt⟩;have hr3:=hr';rw [← q1q p] at hr3;obtain ⟨b2,o2,hA,_,_,_,_,_,hR⟩:=q8f hr3 (q4l hz);cases hA
      (refine q0q<|tn<|q0b<|q0h<|q0b<|q0a<|Ls (q0n rfl rfl (by omega))<|Ls (q2q (size:=2) (cs:=xc z) rfl hR rfl) ?_);refine q0w ?_;intro g4 w3 B3 hg3 E3 hs3;refine q0j rfl rfl rfl q1d B3 rfl ?_;intro w4 B4 hg4 hs4;have E4:Ext wr w4:=E3.then hg4 (fun g h=>by cases h;omega);(refine q0c<|tn<|q0b ?_);apply q1h 5 (by kernel_rfl);(apply DW_x (fun r w hA hH=>(q0d (v:=.func _ _ _) rfl).trans rfl);apply DW_x (fun r w hA hH=>(z0v rfl ((ho.ext E4).ext hA) rfl).trans rfl);apply DW_x (fun r w hA hH=>(q1a rfl (B4.ext hA) rfl).trans rfl));((with_reducible apply q1x);(exact fun _=>rfl);(exact fun _=>rfl);(exact fun r w hA hH=>gexsub 1 z w));(apply DW_x (fun r w hA hH=>(q1a rfl (B4.ext hA) rfl).trans rfl));((with_reducible exact q1p);(exact rfl);(repeat (first | exact .inr (.inr (fun _ _=>by with_reducible rfl)) | (refine And.intro ?_ ?_) | exact .inr (.inl rfl) | exact .inl (by decide +kernel) | exact trivial | exact .inr (.inr (fun _ _=>rfl))));(try dsimp only [Nat.reduceAdd]));intro r5 w5 E5 _;have E45:=E4.trans E5;refine q7q rfl rfl rfl (hY i [.agg (xc (1 - z)).toArray,.agg (xc z).toArray] w5 (hJ _ _ _ hj E45) ⟨z,hz,rfl⟩) ?_;rintro e w6 (⟨rfl,hj2,hk2⟩ | ⟨rfl,hjx⟩)
      · refine ⟨.bool true,rfl,?_⟩;(refine Ls (q1s rfl)<|q0c<|tn<|q0x rfl<|q0q<|bn<|tn<|q0a<|Ls (q1e rfl rfl (by omega))<|m_I rfl<|q0c<|tn ?_);exact ⟨p.length - (i+1),by omega,i+1,rfl,by omega,rfl,rfl,rfl,rfl,rfl,hj2,hk2.row (hr'.ext E45) h2,hk2.rng (ho.ext E45) h3⟩
      · refine ⟨.bool false,rfl,?_⟩;(refine Ls (q1s rfl)<|q0c<|tn<|q0z rfl<|q0r<|br<|tr<|tr<|br ?_);refine q4g rfl rfl ?_;exact ⟨⟨_,rfl⟩,.inr hjx⟩
    · have hil:i=p.length:=(by omega);(refine q1j<|te<|te<|bx ?_);refine q4h rfl rfl ?_;exact ⟨⟨_,rfl⟩,.inl ⟨_,hil,hj⟩⟩
theorem gweightsMk (v:Value) (hv:v.oneCell'=true) (w:World) :
    Calls Tryz.prog 166 #[v] w fun e w'=>∃ q,e=.returned q∧∃ b,q=.func (.func 192) #[] #[.pointer (some ⟨b,0,none⟩)]∧Ext w w'∧Blk w' b 23 [v]∧w.heap.size=b:=by
  refine q0k Tryz.func166 rfl Tryz.ntmps166 rfl ?_;(refine q0b<|q0a ?_);refine q4r rfl hv ?_;intro g1 w1 B1 hg1 E1 hs1;(refine Ls (q0l (v:=Value.nilFunc) rfl)<|q0c<|tn<|q0b<|q0a ?_);refine Ls (q3l (vf:=[]) (vc:=[.pointer (some ⟨g1,0,none⟩)]) rfl rfl) ?_;(refine Ls (q0l (v:=.func _ _ _) rfl)<|q0c<|tn<|q0r ?_);refine q0e rfl rfl (v:=.func _ _ _) rfl ⟨_,rfl,g1,rfl,E1,B1,hg1⟩
def eqS (p:List E) (k i:Nat):List E:=tabE (2 ^ k+i) fun j=>if j < i∨2 ^ k≤j then Fd.eqI (p.take (k+1)) j else Fd.eqI (p.take k) j
theorem z1d {p:List E} {k:Nat} (h:k≤p.length):(p.take k).length=k:=by rw [List.length_take];omega
theorem z4i {p:List E} {k:Nat} (h:k≤p.length):eqS p k 0=Fd.eqT (p.take k):=by
  unfold eqS Fd.eqT;rw [z1d h];exact q3t fun j hj=>by rw [if_neg (by omega)]
theorem eqS_end {p:List E} {k:Nat} (h:k+1≤p.length):eqS p k (2 ^ k)=eqS p (k+1) 0:=by
  rw [z4i h];unfold eqS Fd.eqT;rw [z1d h,Nat.pow_succ,Nat.mul_two];exact q3t fun j hj=>by rw [if_pos (by omega)]
theorem tabE_snoc (n:Nat) (g:Nat→E):tabE n g++[g n]=tabE (n+1) g:=by unfold tabE;rw [List.range_succ,List.map_append];rfl
theorem q9x (a b:List E):raw (a++b)=raw a++raw b:=by unfold raw;rw [List.map_append]
theorem z1o (x:E):exs (raw [x])=xc x:=by unfold raw exs;simp
theorem eqS_snoc {p:List E} {k i:Nat} {x:E} (hx:p[k]?=some x) (hi:i < 2 ^ k) :
    exs (raw (eqS p k i))++xc (Fd.eqI (p.take k) i * x)=exs (raw (tabE (2 ^ k+i+1) fun j=>if j < i∨2 ^ k≤j then Fd.eqI (p.take (k+1)) j else Fd.eqI (p.take k) j)):=by
  have hk:k < p.length:=(List.getElem?_eq_some_iff.1 hx).1;have hl:=z1d (p:=p) (k:=k) (by omega);have e:Fd.eqI (p.take (k+1)) (2 ^ k+i)=Fd.eqI (p.take k) i * x:=by
    have:=Fd.eqI_high (p.take k) x (i:=i) (by rw [hl];exact hi);rw [hl,Nat.add_comm] at this;rw [List.take_add_one,hx];exact this
  rw [← tabE_snoc,q9x,q3k,z1o];congr 2;rw [if_pos (by omega),e]
theorem eqS_step {p:List E} {k i:Nat} {x:E} (hx:p[k]?=some x) (hi:i < 2 ^ k) :
    (tabE (2 ^ k+i+1) fun j=>if j=i then Fd.eqI (p.take k) i - Fd.eqI (p.take k) i * x else if j < i∨2 ^ k≤j then Fd.eqI (p.take (k+1)) j else Fd.eqI (p.take k) j)=eqS p k (i+1):=by
  have hk:k < p.length:=(List.getElem?_eq_some_iff.1 hx).1;have hl:=z1d (p:=p) (k:=k) (by omega);have e:Fd.eqI (p.take (k+1)) i=Fd.eqI (p.take k) i - Fd.eqI (p.take k) i * x:=by
    have:=Fd.eqI_low (p.take k) x (i:=i) (by rw [hl];exact hi);rw [List.take_add_one,hx];exact this
  unfold eqS;rw [← Nat.add_assoc];refine q3t fun j hj=>?_;by_cases h1:j=i
  · subst h1;rw [if_pos rfl,if_pos (by omega),e]
  · rw [if_neg h1];by_cases h2:j < i∨2 ^ k≤j
    · rw [if_pos h2,if_pos (by omega)]
    · rw [if_neg h2,if_neg (by omega)]
theorem Blk.inj1 {w:World} {g:Nat} {t:TypeId} {u v:Value} (h:Blk w g t [u]) (k:Blk w g t [v]):u=v:=by
  have:=(h.cell 0).symm.trans (k.cell 0);simpa using this
set_option maxRecDepth 100000 in
set_option maxHeartbeats 4000000 in
theorem geqt (lo hi':Nat) (v:Value) (p:List E) (hl:p.length≤16) (w:World) (hw:Tb w) (hr:Row w lo hi' 2 v p.length (exs (raw p))) :
    Calls Tryz.prog 117 #[v] w fun e w'=>∃ q,e=.returned q∧Ext w w'∧w'.ownsRow w.heap.size 31 2 q (2 ^ p.length) (exs (raw (Fd.eqT p))):=by
  have hp:=q1f hl;obtain ⟨A,cA,rfl⟩:∃ A cA,v=.slice A p.length cA:=by
    obtain ⟨_,A,c',rfl,_⟩:=hr;exact ⟨A,c',rfl⟩
  refine q6s Tryz.func117 rfl Tryz.ntmps117 rfl ?_;refine q4v ?_;(refine q0a<|a_S rfl<|q0c<|tn ?_);refine q4v ?_;(refine q0a<|m_S rfl<|Ls (q0f rfl)<|Ls (q5x rfl rfl (by omega)) ?_);rw [q6k (by omega)];refine L_make (z:=[.int .u64 0,.int .u64 0]) 1 (2 ^ p.length) rfl rfl rfl rfl (by omega) (by omega) (by omega) ?_;intro g w1 B1 hg1 E1 hs1;refine q0w ?_;intro g3 w2 B2 hg2 E2 hs2;refine q1m (v:=.slice (some ⟨g,0,none⟩) 1 (2 ^ p.length)) rfl rfl rfl B2 (by simp) ?_;intro w3 B3 hg3 hs3;have E3:Ext w w3:=(E1.trans E2).then hg3 (fun g h=>by cases h;omega);have B1':=(B1.ext E2).grown hg3 (by simp;omega);have o3:w3.ownsRow w.heap.size 31 2 (.slice (some ⟨g,0,none⟩) 1 (2 ^ p.length)) 1 [.int .u64 0,.int .u64 0]:=q5a B1' (by omega) (by omega) (by unfold maxLen;omega) (by simp) (by
    obtain ⟨q,hq⟩:∃ q,2 ^ p.length=q+1:=⟨2 ^ p.length - 1,by omega⟩
    rw [hq,List.replicate_succ];rfl)
  (refine q0c<|tn ?_);refine q4v ?_;(refine q0a<|Ls (X_ld rfl B3 rfl)<|Ls (z0v rfl (hw.one.ext E3) rfl)<|Ls (q0n (i:=0) rfl rfl (by omega)) ?_);refine q5d (i:=0) (l:=xc 1) o3 rfl rfl (by omega) rfl q1d (by omega) ?_;intro w4 o4 hg4 hs4;have B4:=B3.grown hg4 (by simp;omega);have E4:Ext w w4:=E3.then hg4 (fun g h=>by cases h;omega);(refine q0c<|tn ?_);refine z0x ?_;(refine q0a<|m_S rfl ?_);refine L_fo rfl (gweightsMk (.slice A p.length cA) rfl w4) ?_;rintro q w5 ⟨b,rfl,E5,hBb,hb⟩;(refine q0c<|tn ?_);have Ea:=E4.trans E5;have hsz5:=E5.size;have hr5:=(hr.tightN (by decide)).ext Ea;have hlt:b < w5.heap.size:=hBb.lt;have hlt1:=(hw.one.lt (by decide));refine q9l (ps:=[18,19]) (fun k=>w.heap.size≤k∧k ≠ b) rfl (enters_of Tryz.func192 (by kernel_rfl) rfl) (fun i vs a h=>by obtain ⟨_,_,rfl⟩:=h;rfl) (gweights (fun k=>w.heap.size≤k∧k ≠ b) b lo w.heap.size cA A p (by omega) w5 (hw.ext Ea) hBb hr5 (by omega) (by intro k _ _;omega) (by omega))
    (fun i y=>∃ v,Blk y g3 23 [v]∧y.ownsRow w.heap.size 31 2 v (2 ^ i) (exs (raw (eqS p i 0)))∧(∀ q,v.ownBlock=some q→q ≠ b∧q ≠ g3)∧i≤p.length) (fun _=>False)
    (fun i x y h C=>by obtain ⟨v,h1,h2,h3,h4⟩:=h;exact ⟨v,C.blk h1,C.own h2,h3,h4⟩) (fun _ _ h _=>h) ⟨_,B4.ext E5,?_,?_,by omega⟩
    (fun i vs a f' y=>∃ x g5,p[i]?=some x∧Ext a y∧Blk y g5 31 (xc x)∧a.heap.size≤g5∧(∃ v0,Blk a g3 23 [v0]∧∀ q,v0.ownBlock=some q→q < a.heap.size)∧f' 3=.pointer (some ⟨g3,0,none⟩)∧f' 5=.pointer (some ⟨g5,0,none⟩)) (fun i vs a f' b h=>by obtain ⟨_,_,_,h,_⟩:=h;exact h) (fun lp vs i x hi hM hp=>?_) (fun lp i vs y f' z x hi hM hp hga hac hbc=>?_) (fun D y hD hdn hM hbD=>?_)
  · have:exs (raw (eqS p 0 0))=xc 1:=by
      rw [z4i (by omega)];rfl
    rw [this];exact q0p o4 E5
  · intro q hq;obtain rfl:g=q:=Option.some.inj hq;omega
  · obtain ⟨z,hz,rfl⟩:=hp;(refine q0a ?_);refine q0w ?_;intro g5 a1 C5 hg5 F5 hs5;refine q0j rfl rfl rfl q1d C5 rfl ?_;intro a2 C6 hg6 hs6;(refine q0c ?_);exact ⟨rfl,z,g5,hz,F5.then hg6 (fun g h=>by cases h;omega),C6,by omega,by
      obtain ⟨v0,I1,I2,_⟩:=hi
      exact ⟨v0,I1,fun q hq=>(I2.lt q hq).2⟩,rfl,rfl⟩
  · obtain ⟨v,I1,I2,I3,I4⟩:=hi;obtain ⟨s,g5,hs,hE5,hB5,hg5,⟨v0,hv0,hv0q⟩,h3,h5⟩:=hga;obtain rfl:v=v0:=Blk.inj1 I1 (hac.blk hv0);have hip:i < p.length:=(List.getElem?_eq_some_iff.1 hs).1;have hq16:=q1f (a:=i) (by omega);have hyM:=hM.size;have hacs:=hac.size;have hD5:=hbc.blk hB5;obtain ⟨N2,hN2⟩:∃ N2,N2=2 ^ i:=⟨_,rfl⟩;rw [← hN2] at I2 hq16;rw [fold h3,fold h5];(refine q0h<|q0b<|q0a<|Ls (X_ld rfl I1 rfl)<|Ls (q3q (v:=v) rfl (Row.of_own I2))<|a_I rfl<|q0c<|tn<|q0b<|q0a<|m_I rfl<|m_I rfl<|q0c<|tn<|q0h ?_);refine q1k (fun q f w'=>∃ j v,q=N2 - j∧j≤N2∧f 3=.pointer (some ⟨g3,0,none⟩)∧f 5=.pointer (some ⟨g5,0,none⟩)∧f 22=.int .i64 (N2:Nat)∧f 23=.int .i64 (j:Nat)∧Mut (fun k=>w.heap.size≤k∧k ≠ b) x w'∧Blk w' g3 23 [v]∧Blk w' g5 31 (xc s)∧w'.ownsRow w.heap.size 31 2 v (N2+j) (exs (raw (eqS p i j)))∧(∀ q,v.ownBlock=some q→q ≠ b∧q ≠ g3∧q ≠ g5)) N2 ?_ ?_
    · refine ⟨0,v,rfl,by omega,rfl,rfl,rfl,rfl,Mut.refl _,I1,hD5,I2,fun q hq=>⟨(I3 q hq).1,(I3 q hq).2,fun e=>?_⟩⟩;have:=hv0q q hq;omega
    · rintro q f wr ⟨j,v,hq,hj,f3,f5,f22,f23,hMr,J1,J5,J2,J3⟩;rw [fold f3,fold f5,fold f22,fold f23];have hMs:=hMr.size;have hMs0:=hM.size;have hsub:∀ y,Ext wr y→w.heap.size≤y.heap.size:=fun y E=>(by have:=E.size;omega);(refine q0b<|q0a<|Ls (q1w rfl rfl)<|q0c<|tn<|q0b ?_);refine q1b rfl (fun h=>?_) (fun h=>?_)
      · have hlt2:j < N2:=(by omega);obtain ⟨gv,cv,rfl,hgv1,hgv2,hgv3,_⟩:=q7x J2 (by omega);have J2t:wr.ownsRow w.heap.size 31 2 (.slice (some ⟨gv,0,none⟩) (N2+j) cv) (N2+j) (exs (raw (tabE (N2+j) fun t=>if t < j∨N2≤t then Fd.eqI (p.take (i+1)) t else Fd.eqI (p.take i) t))):=by
          have:=J2;unfold eqS at this;rw [← hN2] at this;exact this
        have hel:∀ y,Ext wr y→y.rangeAt gv (0+j * 2) (xc (Fd.eqI (p.take i) j)):=fun y E=>by
          have h:=own_ex (q0p J2t E) (i:=j) (o:=0+j * 2) (by omega) (by omega);rwa [if_neg (by omega)] at h
        (refine q0q<|tn<|q0b<|q0h<|q0b<|q0a<|m_I rfl<|a_I rfl<|q0c<|tn<|q0b ?_);apply q1h 7 (by kernel_rfl);(apply DW_x (fun r w hA hH=>(X_ld rfl (J1.ext hA) rfl).trans rfl);apply DW_x (fun r w hA hH=>(q0d (v:=.int _ _) rfl).trans rfl);apply DW_x (fun r w hA hH=>(q0n rfl rfl (by omega)).trans rfl);apply DW_x (fun r w hA hH=>(q2q (size:=2) (cs:=xc _) rfl (hel w hA) rfl).trans rfl);apply DW_x (fun r w hA hH=>(q1a rfl (J5.ext hA) rfl).trans rfl));((with_reducible apply q1x);(exact fun _=>rfl);(exact fun _=>rfl);(exact fun r w hA hH=>gexmul (Fd.eqI (p.take i) j) s w));apply q8c (w0:=wr) (fun w hA=>hA.size);((with_reducible exact q1p);(exact rfl);(repeat (first | exact .inr (.inr (fun _ _=>by with_reducible rfl)) | (refine And.intro ?_ ?_) | exact .inr (.inl rfl) | exact .inl (by decide +kernel) | exact trivial | exact .inr (.inr (fun _ _=>rfl))));(try dsimp only [Nat.reduceAdd]));intro r6 w6 E6 H6;obtain ⟨g8,e8,hg8,C8⟩:NewF wr _ _ (r6 6) w6:=H6 6;rw [e8];refine q0j (l:=xc (Fd.eqI (p.take i) j * s)) rfl rfl rfl q1d C8 rfl ?_;intro w7 C7 hg7 hs7;have E7:Ext wr w7:=E6.then hg7 (fun g h=>by cases h;omega);have hl3:=J1.lt;have hl5:=J5.lt;have J1:=J1.ext E7;have J5:=J5.ext E7;have J2:=q0p J2 E7;have hMr:=hMr.ext_ E7;have hsz7:=E7.size;(refine q0c<|tn<|q0b<|q0a<|Ls (X_ld rfl J1 rfl)<|Ls (q1a rfl C7 rfl) ?_);refine q9m (z:=[.int .u64 0,.int .u64 0]) (l:=xc (Fd.eqI (p.take i) j * s)) rfl rfl rfl ?_;intro u8 w8 r8 E8 hs8;have hgvq:=J3 gv rfl;refine q1n (v:=.slice (some ⟨gv,0,none⟩) (N2+j) cv) (u:=u8) rfl rfl (q0p J2 E8) r8 q1d (by omega) (by omega) (by omega) ?_;intro v9 w9 o9 hg9 hb9;have hMr:=(hMr.ext_ E8).trans (Mut.app (q0p J2 E8) hg9 (fun q hq=>by
          obtain rfl:gv=q:=Option.some.inj hq
          exact ⟨hgv1,hgvq.1⟩))
        have hlt9:b < wr.heap.size∧g3 < wr.heap.size∧g5 < wr.heap.size:=⟨by omega,hl3,hl5⟩;have hq9:∀ q,v9.ownBlock=some q→q ≠ b∧q ≠ g3∧q ≠ g5∧q ≠ g8:=fun q hq=>by
          rcases hb9 with h | h
          · rw [h] at hq;obtain ⟨q1,q2,q3⟩:=J3 q hq;refine ⟨q1,q2,q3,?_⟩;obtain rfl:gv=q:=Option.some.inj hq;omega
          · rw [h] at hq;have:=Option.some.inj hq;have:=C8.lt;omega
        have hn3:some gv ≠ some g3:=fun h=>hgvq.2.1 (Option.some.inj h);have hn5:some gv ≠ some g5:=fun h=>hgvq.2.2 (Option.some.inj h);have hn8:some gv ≠ some g8:=fun h=>(by have:=Option.some.inj h;omega);have J1:=(J1.ext E8).grown hg9 hn3;have J5:=(J5.ext E8).grown hg9 hn5;have C9:=(C7.ext E8).grown hg9 hn8;have hv9:v9.oneCell'=true:=by
          obtain ⟨_,_,_,rfl,_⟩:=Row.of_own o9;rfl
        skip;refine q1m (v:=v9) rfl rfl hv9 J1 (by simp) ?_;intro w10 J1' hg10 hs10;have hMr:=hMr.trans (Mut.store J1 hg10 (by omega));have J5:=J5.grown hg10 (by intro h;have:=Option.some.inj h;exact (J1.ne_ J5 (by decide)) this);have C9:=C9.grown hg10 (by intro h;have:=Option.some.inj h;omega);have o10:=q1i o9 hg10 (fun q hq h=>(hq9 q hq).2.1 (Option.some.inj h).symm);rw [eqS_snoc hs (by omega)] at o10;have en:N2+j+1=2 ^ i+j+1:=(by omega);rw [en] at o10;obtain ⟨gw,cw,rfl,hgw1,hgw2,hgw3,_⟩:=q7x o10 (by omega);have hel2:∀ y,Ext w10 y→y.rangeAt gw (0+j * 2) (xc (Fd.eqI (p.take i) j)):=fun y E=>by
          have h:=own_ex (q0p o10 E) (i:=j) (o:=0+j * 2) (by omega) (by omega);rwa [if_neg (by omega)] at h
        (refine q0c<|tn ?_);apply q1h 8 (by kernel_rfl);(apply DW_x (fun r w hA hH=>(X_ld rfl (J1'.ext hA) rfl).trans rfl);apply DW_x (fun r w hA hH=>(q0d (v:=.int _ _) rfl).trans rfl);apply DW_x (fun r w hA hH=>(X_ld rfl (J1'.ext hA) rfl).trans rfl);apply DW_x (fun r w hA hH=>(q0d (v:=.int _ _) rfl).trans rfl);apply DW_x (fun r w hA hH=>(q0n rfl rfl (by omega)).trans rfl);apply DW_x (fun r w hA hH=>(q2q (size:=2) (cs:=xc _) rfl (hel2 w hA) rfl).trans rfl);apply DW_x (fun r w hA hH=>(q1a rfl (C9.ext hA) rfl).trans rfl));((with_reducible apply q1x);(exact fun _=>rfl);(exact fun _=>rfl);(exact fun r w hA hH=>gexsub (Fd.eqI (p.take i) j) (Fd.eqI (p.take i) j * s) w));((with_reducible exact q1p);(exact rfl);(repeat (first | exact .inr (.inr (fun _ _=>by with_reducible rfl)) | (refine And.intro ?_ ?_) | exact .inr (.inl rfl) | exact .inl (by decide +kernel) | exact trivial | exact .inr (.inr (fun _ _=>rfl))));(try dsimp only [Nat.reduceAdd]));intro r11 w11 E11 _;(refine Ls (q0n rfl rfl (by omega)) ?_);have hwq:=hq9 gw rfl;refine q5d (i:=j) (l:=xc (Fd.eqI (p.take i) j - Fd.eqI (p.take i) j * s)) (q0p o10 E11) rfl rfl (by omega) rfl q1d (by omega) ?_;intro w12 o12 hg12 hs12;have hMr:=(hMr.ext_ E11).trans (Mut.app (q0p o10 E11) hg12 (fun q hq=>by
          obtain rfl:gw=q:=Option.some.inj hq
          exact ⟨hgw1,hwq.1⟩))
        (refine q0c<|bn<|tn<|q0a<|Ls (q1e rfl rfl (by omega))<|m_I rfl<|q0c<|tn ?_);refine ⟨N2 - (j+1),by omega,j+1,_,rfl,by omega,rfl,rfl,rfl,rfl,hMr,(J1'.ext E11).grown hg12 (fun h=>hwq.2.1 (Option.some.inj h)),(J5.ext E11).grown hg12 (fun h=>hwq.2.2.1 (Option.some.inj h)),?_,fun q hq=>?_⟩
        · rw [q9r _ _ _ (show j < 2 ^ i+j+1 by omega),eqS_step hs (by omega)] at o12;rw [show N2+(j+1)=2 ^ i+j+1 by omega];exact o12
        · obtain rfl:gw=q:=Option.some.inj hq;exact ⟨hwq.1,hwq.2.1,hwq.2.2.1⟩
      · have hjN:j=N2:=(by omega);subst hjN;(refine q1j<|te<|te<|bx<|bn ?_);refine ⟨hMr,v,J1,?_,fun q hq=>⟨(J3 q hq).1,(J3 q hq).2.1⟩,by omega⟩;have J2':=J2;rw [hN2,eqS_end (by omega)] at J2';rw [Nat.pow_succ,Nat.mul_two];exact J2'
  · obtain ⟨i,hfin,v,I1,I2,I3,I4⟩:∃ i,i=p.length∧∃ v,Blk y g3 23 [v]∧y.ownsRow w.heap.size 31 2 v (2 ^ i) (exs (raw (eqS p i 0)))∧(∀ q,v.ownBlock=some q→q ≠ b∧q ≠ g3)∧i≤p.length:=hdn.elim id False.elim;subst hfin;rw [z4i (Nat.le_refl _),List.take_length] at I2;refine z0y ?_;(refine q0b<|q0a<|Ls (X_ld rfl I1 rfl)<|Ls (q0l (v:=v) rfl)<|q0c<|tn<|q0r ?_);refine q5c w5.heap.size [D] rfl rfl (by simp) (fun D' h=>?_) (fun w' hc=>⟨Res.tmp (v:=v) rfl .nil,v,rfl,?_,hc.own I2⟩)
    · rw [List.mem_singleton.1 h];exact ⟨by omega,hbD⟩
    · exact hc.toExt (hM.toExt Ea (fun k h=>h.1)) (by omega)
end Go.Proofs.YtpohjepbmgeplaaGreatDoor
namespace Mk
variable (lf:List Nat→List Nat) (pr:List Nat→List Nat→List Nat)
def spl (n:Nat):Nat:=2 ^ Nat.log2 (n - 1)
theorem q2s (n:Nat):0 < spl n:=Nat.pow_pos (by decide)
theorem q3m {n:Nat} (h:2≤n):spl n < n:=by
  have:=Nat.log2_self_le (n:=n - 1) (by omega);unfold spl;omega
def fold:Nat→List (List Nat)→List Nat
  | 0,_=>[]
  | f+1,l=>bif Nat.ble l.length 1 then l.headD [] else pr (fold f (l.take (spl l.length))) (fold f (l.drop (spl l.length)))
theorem q8z:∀ (f g:Nat) (l:List (List Nat)),l.length≤f→l.length≤g→0 < f→0 < g→fold pr f l=fold pr g l
  | 0,_,_,_,_,h,_=>by omega
  | _+1,0,_,_,_,_,h=>by omega
  | f+1,g+1,l,hf,hg,_,_=>by
    unfold fold;by_cases h:l.length≤1
    · rw [Nat.ble_eq_true_of_le h];rfl
    · have hb:Nat.ble l.length 1=false:=by
        cases hb:Nat.ble l.length 1
        · rfl
        · exact (h (Nat.le_of_ble_eq_true hb)).elim
      have h1:=q3m (n:=l.length) (by omega);have h2:=q2s l.length;rw [hb,q8z f g (l.take (spl l.length)) (by rw [List.length_take];omega) (by rw [List.length_take];omega) (by omega) (by omega),
        q8z f g (l.drop (spl l.length)) (by rw [List.length_drop];omega) (by rw [List.length_drop];omega) (by omega) (by omega)]
def tree (l:List (List Nat)):List Nat:=fold pr (l.length+1) l
theorem q8q (d:List Nat):tree pr [d]=d:=rfl
theorem q6g {l:List (List Nat)} (h:2≤l.length):tree pr l=pr (tree pr (l.take (spl l.length))) (tree pr (l.drop (spl l.length))):=by
  have hb:Nat.ble l.length 1=false:=by
    cases hb:Nat.ble l.length 1
    · rfl
    · have:=Nat.le_of_ble_eq_true hb;omega
  have h1:=q3m h;have h2:=q2s l.length;conv=>lhs;unfold tree fold
  rw [hb];show pr (fold pr l.length (l.take (spl l.length))) (fold pr l.length (l.drop (spl l.length)))=_;unfold tree;rw [q8z pr l.length ((l.take (spl l.length)).length+1) (l.take (spl l.length)) (by rw [List.length_take];omega) (by omega) (by omega) (by omega),
    q8z pr l.length ((l.drop (spl l.length)).length+1) (l.drop (spl l.length)) (by rw [List.length_drop];omega) (by omega) (by omega) (by omega)]
def hashes (l:List (List Nat)):List (List Nat):=l.map lf
def root (l:List (List Nat)):List Nat:=tree pr (hashes lf l)
def q8h:Nat→Nat→Nat→List Nat→List (Nat × Nat)
  | 0,_,_,_=>[]
  | f+1,lo,hi,idx=>bif idx.isEmpty then [(lo,hi)] else bif Nat.ble (hi - lo) 1 then [] else
      q8h f lo (lo+spl (hi - lo)) (idx.filter fun i=>Nat.blt i (lo+spl (hi - lo)))++q8h f (lo+spl (hi - lo)) hi (idx.filter fun i=>Nat.ble (lo+spl (hi - lo)) i)
theorem q6q:∀ (f g lo hi:Nat) (idx:List Nat),hi - lo≤f→hi - lo≤g→0 < f→0 < g→q8h f lo hi idx=q8h g lo hi idx
  | 0,_,_,_,_,_,_,h,_=>by omega
  | _+1,0,_,_,_,_,_,_,h=>by omega
  | f+1,g+1,lo,hi,idx,hf,hg,_,_=>by
    unfold q8h;cases idx.isEmpty
    · by_cases h:hi - lo≤1
      · rw [Nat.ble_eq_true_of_le h];rfl
      · have hb:Nat.ble (hi - lo) 1=false:=by
          cases hb:Nat.ble (hi - lo) 1
          · rfl
          · exact (h (Nat.le_of_ble_eq_true hb)).elim
        have h1:=q3m (n:=hi - lo) (by omega);have h2:=q2s (hi - lo);rw [hb,q6q f g lo (lo+spl (hi - lo)) _ (by omega) (by omega) (by omega) (by omega),q6q f g (lo+spl (hi - lo)) hi _ (by omega) (by omega) (by omega) (by omega)]
    · rfl
def cls (lo hi:Nat) (idx:List Nat):List (Nat × Nat):=q8h (hi - lo+1) lo hi idx
theorem q5j (lo hi:Nat):cls lo hi []=[(lo,hi)]:=rfl
theorem q5i {lo hi:Nat} {idx:List Nat} (h:hi - lo≤1) (hi':idx ≠ []):cls lo hi idx=[]:=by
  unfold cls q8h;have e:idx.isEmpty=false:=by cases idx <;> simp_all
  rw [e,Nat.ble_eq_true_of_le h];rfl
theorem q4p {lo hi:Nat} {idx:List Nat} (h:2≤hi - lo) (hi':idx ≠ []):cls lo hi idx =
    cls lo (lo+spl (hi - lo)) (idx.filter fun i=>Nat.blt i (lo+spl (hi - lo)))++cls (lo+spl (hi - lo)) hi (idx.filter fun i=>Nat.ble (lo+spl (hi - lo)) i):=by
  have e:idx.isEmpty=false:=by cases idx <;> simp_all
  have hb:Nat.ble (hi - lo) 1=false:=by
    cases hb:Nat.ble (hi - lo) 1
    · rfl
    · have:=Nat.le_of_ble_eq_true hb;omega
  have h1:=q3m h;have h2:=q2s (hi - lo);conv=>lhs;unfold cls q8h
  rw [e,hb];show q8h (hi - lo) lo (lo+spl (hi - lo)) _++q8h (hi - lo) (lo+spl (hi - lo)) hi _=_;unfold cls;rw [q6q (hi - lo) (lo+spl (hi - lo) - lo+1) lo (lo+spl (hi - lo)) _ (by omega) (by omega) (by omega) (by omega),q6q (hi - lo) (hi - (lo+spl (hi - lo))+1) (lo+spl (hi - lo)) hi _ (by omega) (by omega) (by omega) (by omega)]
def opening (l:List (List Nat)) (idx:List Nat):List (List Nat):=(cls 0 l.length idx).map fun p=>tree pr (((hashes lf l).drop p.1).take (p.2 - p.1))
def reb:Nat→Nat→Nat→List Nat→List (List Nat)→List (List Nat)→List Nat × List (List Nat) × List (List Nat) × Bool
  | 0,_,_,_,ns,bs=>([],ns,bs,true)
  | f+1,lo,hi,idx,ns,bs=>bif idx.isEmpty then (match ns with
      | []=>(List.replicate 32 0,[],bs,false)
      | d :: r=>(d,r,bs,true))
    else bif Nat.ble (hi - lo) 1 then (lf (bs.headD []),ns,bs.tail,true)
    else
      let a:=reb f lo (lo+spl (hi - lo)) (idx.filter fun i=>Nat.blt i (lo+spl (hi - lo))) ns bs
      let b:=reb f (lo+spl (hi - lo)) hi (idx.filter fun i=>Nat.ble (lo+spl (hi - lo)) i) a.2.1 a.2.2.1
      (pr a.1 b.1,b.2.1,b.2.2.1,a.2.2.2 && b.2.2.2)
theorem q9v (f lo hi:Nat) (ns bs:List (List Nat)):reb lf pr (f+1) lo hi [] ns bs=match ns with
    | []=>(List.replicate 32 0,[],bs,false)
    | d :: r=>(d,r,bs,true):=rfl
theorem q9u {f lo hi:Nat} {idx:List Nat} (h:hi - lo≤1) (hi':idx ≠ []) (ns bs:List (List Nat)):reb lf pr (f+1) lo hi idx ns bs=(lf (bs.headD []),ns,bs.tail,true):=by
  have e:idx.isEmpty=false:=by cases idx <;> simp_all
  unfold reb;rw [e,Nat.ble_eq_true_of_le h];rfl
theorem q9t {f lo hi:Nat} {idx:List Nat} (h:2≤hi - lo) (hi':idx ≠ []) (ns bs:List (List Nat)):reb lf pr (f+1) lo hi idx ns bs =
    (let a:=reb lf pr f lo (lo+spl (hi - lo)) (idx.filter fun i=>Nat.blt i (lo+spl (hi - lo))) ns bs
     let b:=reb lf pr f (lo+spl (hi - lo)) hi (idx.filter fun i=>Nat.ble (lo+spl (hi - lo)) i) a.2.1 a.2.2.1
     (pr a.1 b.1,b.2.1,b.2.2.1,a.2.2.2 && b.2.2.2)):=by
  have e:idx.isEmpty=false:=by cases idx <;> simp_all
  have hb:Nat.ble (hi - lo) 1=false:=by
    cases hb:Nat.ble (hi - lo) 1
    · rfl
    · have:=Nat.le_of_ble_eq_true hb;omega
  conv=>lhs;unfold reb
  rw [e,hb];rfl
theorem q9w (l:List (List Nat)):∀ (f lo hi:Nat) (idx:List Nat) (ns bs:List (List Nat)),hi - lo < f→lo < hi→hi≤l.length→(∀ i∈idx,lo≤i∧i < hi)→idx.Pairwise (· < ·) →
    reb lf pr f lo hi idx ((cls lo hi idx).map (fun p=>tree pr (((hashes lf l).drop p.1).take (p.2 - p.1)))++ns) (idx.map (fun i=>l.getD i [])++bs)=(tree pr (((hashes lf l).drop lo).take (hi - lo)),ns,bs,true)
  | 0,_,_,_,_,_,h,_,_,_,_=>by omega
  | f+1,lo,hi,idx,ns,bs,hf,hlo,hhi,hin,hp=>by
    by_cases h0:idx=[]
    · subst h0;rw [q5j,q9v];rfl
    · by_cases h1:hi - lo≤1
      · obtain ⟨i,r,rfl⟩:∃ i r,idx=i :: r:=(by cases idx with | nil=>exact (h0 rfl).elim | cons i r=>exact ⟨i,r,rfl⟩);have hi1:=hin i (by simp);have hr:r=[]:=by
          cases r with
          | nil=>rfl
          | cons j r =>
            have hj:=hin j (by simp);have:=(List.pairwise_cons.1 hp).1 j (by simp);omega
        subst hr;rw [q9u lf pr h1 h0,q5i h1 h0];obtain rfl:i=lo:=(by omega);have e1:hi - i=1:=(by omega);have hl:i < l.length:=(by omega);have e2:((hashes lf l).drop i).take (hi - i)=[lf (l.getD i [])]:=by
          rw [e1,List.take_one,List.head?_drop];unfold hashes;rw [List.getElem?_map,List.getElem?_eq_getElem hl,List.getD_eq_getElem?_getD,List.getElem?_eq_getElem hl];rfl
        rw [e2,q8q];rfl
      · have h2:2≤hi - lo:=(by omega);have hs1:=q3m h2;have hs2:=q2s (hi - lo);obtain ⟨k,hk⟩:∃ k,k=lo+spl (hi - lo):=⟨_,rfl⟩;have hsplit:∀ idx:List Nat,idx.Pairwise (· < ·)→idx=(idx.filter fun i=>Nat.blt i k)++(idx.filter fun i=>Nat.ble k i):=by
          intro idx;induction idx with
          | nil=>intro _;rfl
          | cons i r ih =>
            intro hp;obtain ⟨ha,hb⟩:=List.pairwise_cons.1 hp;by_cases hik:i < k
            · have e1:Nat.blt i k=true:=(by rw [Nat.blt_eq];exact hik);have e2:Nat.ble k i=false:=by
                cases hc:Nat.ble k i
                · rfl
                · have:=Nat.le_of_ble_eq_true hc;omega
              rw [List.filter_cons_of_pos (by simpa using e1),List.filter_cons_of_neg (by simp [e2]),List.cons_append,← ih hb]
            · have hall:∀ j∈i :: r,k≤j:=fun j hj=>by
                rcases List.mem_cons.1 hj with rfl | hj
                · omega
                · have:=ha j hj;omega
              have f1:(i :: r).filter (fun i=>Nat.blt i k)=[]:=List.filter_eq_nil_iff.2 fun j hj=>by
                have:=hall j hj;rw [Nat.blt_eq];omega
              have f2:(i :: r).filter (fun i=>Nat.ble k i)=i :: r:=List.filter_eq_self.2 fun j hj=>Nat.ble_eq_true_of_le (hall j hj);rw [f1,f2];rfl
        have hidx:=hsplit idx hp;obtain ⟨A,hA⟩:∃ A,A=idx.filter fun i=>Nat.blt i k:=⟨_,rfl⟩;obtain ⟨B,hB⟩:∃ B,B=idx.filter fun i=>Nat.ble k i:=⟨_,rfl⟩;have hAin:∀ i∈A,lo≤i∧i < k:=fun i hi'=>by
          rw [hA] at hi';obtain ⟨q1,q2⟩:=List.mem_filter.1 hi';have:=hin i q1;rw [Nat.blt_eq] at q2;omega
        have hBin:∀ i∈B,k≤i∧i < hi:=fun i hi'=>by
          rw [hB] at hi';obtain ⟨q1,q2⟩:=List.mem_filter.1 hi';have:=hin i q1;have:=Nat.le_of_ble_eq_true q2;omega
        have ihA:=q9w l f lo k A ((cls k hi B).map (fun p=>tree pr (((hashes lf l).drop p.1).take (p.2 - p.1)))++ns) (B.map (fun i=>l.getD i [])++bs) (by omega) (by omega) (by omega) hAin (by rw [hA];exact hp.filter _);have ihB:=q9w l f k hi B ns bs (by omega) (by omega) hhi hBin (by rw [hB];exact hp.filter _);rw [q9t lf pr h2 h0,q4p h2 h0,← hk,← hA,← hB,List.map_append,List.append_assoc];rw [show idx.map (fun i=>l.getD i [])++bs=A.map (fun i=>l.getD i [])++(B.map (fun i=>l.getD i [])++bs) by rw [hidx,← hA,← hB,List.map_append,List.append_assoc]];simp only [ihA,ihB];have hlen:(((hashes lf l).drop lo).take (hi - lo)).length=hi - lo:=by
          rw [List.length_take,List.length_drop];unfold hashes;rw [List.length_map];omega
        have ht:=q6g pr (l:=((hashes lf l).drop lo).take (hi - lo)) (by rw [hlen];exact h2);rw [hlen,List.take_take,Nat.min_eq_left (by omega),List.drop_take,List.drop_drop,show hi - lo - spl (hi - lo)=hi - k by omega,← hk,show spl (hi - lo)=k - lo by omega] at ht;rw [ht];rfl
end Mk
namespace Mk
variable (lf:List Nat→List Nat) (pr:List Nat→List Nat→List Nat)
def posOf (c:List (Nat × Nat)) (p:Nat × Nat):Option Nat:=c.findIdx? fun q=>q.1 == p.1 && q.2 == p.2
def rref (c:List (Nat × Nat)) (ns:List (List Nat)) (idx:List Nat) (bs:List (List Nat)):Nat→Nat→Nat→List Nat
  | 0,_,_=>[]
  | f+1,lo,hi=>match posOf c (lo,hi) with
    | some i=>ns.getD i []
    | none=>bif Nat.ble (hi - lo) 1 then lf (bs.getD (idx.filter fun i=>Nat.blt i lo).length []) else pr (rref c ns idx bs f lo (lo+spl (hi - lo))) (rref c ns idx bs f (lo+spl (hi - lo)) hi)
theorem cls_in:∀ (f lo hi:Nat) (idx:List Nat),hi - lo < f→lo < hi→∀ p∈cls lo hi idx,lo≤p.1∧p.1 < p.2∧p.2≤hi
  | 0,_,_,_,h,_=>by omega
  | f+1,lo,hi,idx,hf,hlo=>by
    intro p hp;by_cases h0:idx=[]
    · subst h0;rw [q5j] at hp;simp at hp;rw [hp];exact ⟨Nat.le_refl _,hlo,Nat.le_refl _⟩
    · by_cases h1:hi - lo≤1
      · rw [q5i h1 h0] at hp;cases hp
      · have h2:2≤hi - lo:=(by omega);have hs1:=q3m h2;have hs2:=q2s (hi - lo);rw [q4p h2 h0] at hp;rcases List.mem_append.1 hp with hp | hp
        · have:=cls_in f _ _ _ (by omega) (by omega) p hp;omega
        · have:=cls_in f _ _ _ (by omega) (by omega) p hp;omega
theorem z3y {c:List (Nat × Nat)} {p:Nat × Nat} (h:p ∉ c):posOf c p=none:=by
  unfold posOf;rw [List.findIdx?_eq_none_iff];intro q hq;cases hb:(q.1 == p.1 && q.2 == p.2)
  · rfl
  · rw [Bool.and_eq_true,beq_iff_eq,beq_iff_eq] at hb;exact (h (by rw [show p=q from Prod.ext hb.1.symm hb.2.symm];exact hq)).elim
theorem pos_some {a b:List (Nat × Nat)} {p:Nat × Nat} (h:p ∉ a):posOf (a++p :: b) p=some a.length:=by
  unfold posOf;rw [List.findIdx?_append];have:=z3y h;unfold posOf at this;rw [this];simp [List.findIdx?_cons]
theorem z2e (lo hi:Nat) (hlo:lo < hi):∀ all:List Nat,(all.filter fun i=>Nat.blt i hi).length=(all.filter fun i=>Nat.blt i lo).length+(all.filter fun i=>Nat.ble lo i && Nat.blt i hi).length
  | []=>rfl
  | i :: r=>by
    have ih:=z2e lo hi hlo r;rw [List.filter_cons (p:=fun i=>Nat.blt i hi),List.filter_cons (p:=fun i=>Nat.blt i lo),List.filter_cons (p:=fun i=>Nat.ble lo i && Nat.blt i hi)];by_cases h1:i < lo
    · have e1:Nat.blt i lo=true:=(by rw [Nat.blt_eq];exact h1);have e2:Nat.blt i hi=true:=(by rw [Nat.blt_eq];omega);have e3:Nat.ble lo i=false:=by
        cases hc:Nat.ble lo i
        · rfl
        · have:=Nat.le_of_ble_eq_true hc;omega
      simp only [e1,e2,e3,Bool.false_and,Bool.false_eq_true,if_true,if_false,List.length_cons];omega
    · have e1:Nat.blt i lo=false:=by
        cases hc:Nat.blt i lo
        · rfl
        · rw [Nat.blt_eq] at hc;omega
      have e3:Nat.ble lo i=true:=Nat.ble_eq_true_of_le (by omega);cases Nat.blt i hi <;> simp only [e1,e3,Bool.true_and,Bool.false_eq_true,if_true,if_false,List.length_cons] <;> omega
theorem rref_eq (c:List (Nat × Nat)) (ns:List (List Nat)) (all:List Nat) (bs:List (List Nat)) (hn:ns.length=c.length) :
    ∀ (f lo hi:Nat) (idx:List Nat) (a b:List (Nat × Nat)),hi - lo < f→lo < hi→c=a++cls lo hi idx++b→(∀ p∈a,p.2≤lo∧p.1 < p.2)→(∀ p∈b,hi≤p.1∧p.1 < p.2) →
      idx=(all.filter fun i=>Nat.ble lo i && Nat.blt i hi)→all.Pairwise (· < ·)→bs.length=all.length →
      reb lf pr f lo hi idx (ns.drop a.length) (bs.drop (all.filter fun i=>Nat.blt i lo).length) =
        (rref lf pr c ns all bs f lo hi,ns.drop (a.length+(cls lo hi idx).length),bs.drop (all.filter fun i=>Nat.blt i hi).length,true)
  | 0,_,_,_,_,_,h,_,_,_,_,_,_,_=>by omega
  | f+1,lo,hi,idx,a,b,hf,hlo,hc,ha,hb,hidx,hall,hbl=>by
    have hna:(lo,hi) ∉ a:=fun h=>(by have:=ha _ h;dsimp only at this;omega);have hnb:(lo,hi) ∉ b:=fun h=>(by have:=hb _ h;dsimp only at this;omega)
    -- the leaves below hi are those below lo and idx
    have hcount:(all.filter fun i=>Nat.blt i hi).length=(all.filter fun i=>Nat.blt i lo).length+idx.length:=by
      rw [hidx];exact z2e lo hi hlo all
    by_cases h0:idx=[]
    · have hcl:cls lo hi idx=[(lo,hi)]:=(by rw [h0,q5j]);have hpos:posOf c (lo,hi)=some a.length:=by
        rw [hc,hcl,List.append_assoc];exact pos_some hna
      have hlen:a.length < ns.length:=(by rw [hn,hc,hcl];simp);rw [hcount,hcl,h0];obtain ⟨d,hd⟩:∃ d,ns.drop a.length=d :: ns.drop (a.length+1):=⟨ns[a.length],List.drop_eq_getElem_cons hlen⟩;have hg:ns.getD a.length []=d:=by
        have:=congrArg List.head? hd;rw [List.head?_drop] at this;rw [List.getD_eq_getElem?_getD,this];rfl
      rw [q9v,hd];show (d,ns.drop (a.length+1),_,true)=(rref lf pr c ns all bs (f+1) lo hi,_,_,true);have:rref lf pr c ns all bs (f+1) lo hi=d:=by
        show (match posOf c (lo,hi) with | some i=>ns.getD i [] | none=>_)=d;rw [hpos];exact hg
      rw [this];rfl
    · by_cases h1:hi - lo≤1
      · have hcl:=q5i h1 h0;have hpos:posOf c (lo,hi)=none:=z3y (by rw [hc,hcl];simp [hna,hnb]);have hl1:idx.length=1:=by
          have hin:∀ i∈idx,i=lo:=fun i hi'=>by
            rw [hidx] at hi';have:=(List.mem_filter.1 hi').2;rw [Bool.and_eq_true,Nat.blt_eq] at this;have:=Nat.le_of_ble_eq_true this.1;omega
          have hp:idx.Pairwise (· < ·):=(by rw [hidx];exact hall.filter _);match idx,h0,hin,hp with
          | [_],_,_,_=>rfl
          | i :: j :: r,_,hin,hp =>
            have:=(List.pairwise_cons.1 hp).1 j (by simp);have:=hin i (by simp);have:=hin j (by simp);omega
        rw [q9u lf pr h1 h0,hcl,hcount,hl1];have:rref lf pr c ns all bs (f+1) lo hi=lf (bs.getD (all.filter fun i=>Nat.blt i lo).length []):=by
          show (match posOf c (lo,hi) with | some i=>ns.getD i [] | none=>_)=_;rw [hpos];show (bif Nat.ble (hi - lo) 1 then _ else _)=_;rw [Nat.ble_eq_true_of_le h1];rfl
        rw [this,List.tail_drop];congr 2;rw [List.headD_eq_head?_getD,List.head?_drop,List.getD_eq_getElem?_getD]
      · have h2:2≤hi - lo:=(by omega);have hs1:=q3m h2;have hs2:=q2s (hi - lo);obtain ⟨k,hk⟩:∃ k,k=lo+spl (hi - lo):=⟨_,rfl⟩;have hcl:=q4p h2 h0;have hA:(idx.filter fun i=>Nat.blt i k)=all.filter fun i=>Nat.ble lo i && Nat.blt i k:=by
          rw [hidx,List.filter_filter];refine List.filter_congr fun i _=>?_;rw [Bool.eq_iff_iff];simp only [Bool.and_eq_true,Nat.blt_eq,Nat.ble_eq];omega
        have hB:(idx.filter fun i=>Nat.ble k i)=all.filter fun i=>Nat.ble k i && Nat.blt i hi:=by
          rw [hidx,List.filter_filter];refine List.filter_congr fun i _=>?_;rw [Bool.eq_iff_iff];simp only [Bool.and_eq_true,Nat.blt_eq,Nat.ble_eq];omega
        rw [← hk] at hcl;obtain ⟨cA,hcA⟩:∃ cA,cA=cls lo k (idx.filter fun i=>Nat.blt i k):=⟨_,rfl⟩;obtain ⟨cB,hcB⟩:∃ cB,cB=cls k hi (idx.filter fun i=>Nat.ble k i):=⟨_,rfl⟩;have inA:=cls_in f lo k (idx.filter fun i=>Nat.blt i k) (by omega) (by omega);have inB:=cls_in f k hi (idx.filter fun i=>Nat.ble k i) (by omega) (by omega);rw [← hcA] at inA;rw [← hcB] at inB;have hpos:posOf c (lo,hi)=none:=z3y (by
          rw [hc,hcl,← hcA,← hcB]
          simp only [List.mem_append,not_or]
          refine ⟨⟨hna,fun h=>?_,fun h=>?_⟩,hnb⟩
          · have:=inA _ h;dsimp only at this;omega
          · have:=inB _ h;dsimp only at this;omega)
        have ihA:=rref_eq c ns all bs hn f lo k (idx.filter fun i=>Nat.blt i k) a (cB++b) (by omega) (by omega) (by rw [hc,hcl,← hcB,← hcA];simp) ha (fun p hp=>by
          rcases List.mem_append.1 hp with hp | hp
          · have:=inB p hp;omega
          · have:=hb p hp;omega) hA hall hbl
        have ihB:=rref_eq c ns all bs hn f k hi (idx.filter fun i=>Nat.ble k i) (a++cA) b (by omega) (by omega) (by rw [hc,hcl,← hcB,← hcA];simp) (fun p hp=>by
          rcases List.mem_append.1 hp with hp | hp
          · have:=ha p hp;omega
          · have:=inA p hp;omega) hb hB hall hbl
        rw [List.length_append] at ihB;rw [← hcA] at ihA;rw [q9t lf pr h2 h0,← hk];simp only [ihA,ihB];have:rref lf pr c ns all bs (f+1) lo hi=pr (rref lf pr c ns all bs f lo k) (rref lf pr c ns all bs f k hi):=by
          show (match posOf c (lo,hi) with | some i=>ns.getD i [] | none=>_)=_;rw [hpos];show (bif Nat.ble (hi - lo) 1 then _ else _)=_;have hb1:Nat.ble (hi - lo) 1=false:=by
            cases hb1:Nat.ble (hi - lo) 1
            · rfl
            · exact (h1 (Nat.le_of_ble_eq_true hb1)).elim
          rw [hb1,← hk];rfl
        rw [this,hcl,List.length_append,← hcA,← hcB,Nat.add_assoc];rfl
end Mk
namespace Fd
theorem es_mulr (c:E) (f:Nat→E) (n:Nat):es n (fun i=>f i * c)=es n f * c:=by
  rw [E.mul_comm (es n f) c,← es_mul];exact q4b n fun i _=>E.mul_comm _ _
theorem of_sm (f:Nat→K):∀ n,E.of (sm n f)=es n fun i=>E.of (f i)
  | 0=>rfl
  | n+1=>by
    show E.of (sm n f+f n)=es n _+E.of (f n);rw [E.of_add,of_sm f n]
theorem es_prod (f:Nat→E) (C:Nat):∀ R,es (C * R) f=es R fun r=>es C fun c=>f (c+C * r)
  | 0=>rfl
  | R+1=>by
    rw [Nat.mul_succ,es_split,es_prod f C R];show _=es R _+es C fun c=>f (c+C * R);congr 1;exact q4b C fun c _=>by rw [Nat.add_comm]
theorem eqI_app:∀ (p q:List E) (i:Nat),eqI (p++q) i=eqI p i * eqI q (i / 2 ^ p.length)
  | [],q,i=>by
    show eqI q i=1 * eqI q (i / 1);rw [E.one_mul,Nat.div_one]
  | x :: p,q,i=>by
    show (bif i % 2 == 1 then x else 1 - x) * eqI (p++q) (i / 2)=(bif i % 2 == 1 then x else 1 - x) * eqI p (i / 2) * eqI q (i / 2 ^ (p.length+1));rw [eqI_app p q (i / 2),E.mul_assoc,Nat.div_div_eq_div_mul,Nat.pow_succ,Nat.mul_comm (2 ^ p.length) 2]
theorem eqI_two (p q:List E) {c:Nat} (r:Nat) (hc:c < 2 ^ p.length):eqI (p++q) (c+2 ^ p.length * r)=eqI p c * eqI q r:=by
  rw [eqI_app,eqI_mod,Nat.add_mul_div_left _ _ (Nat.pow_pos (by decide)),Nat.div_eq_of_lt hc,Nat.zero_add]
def trow (t:List K) (C r:Nat):List K:=(List.range C).map fun c=>t.getD (c+C * r) 0
def tcol (t:List K) (R C c:Nat):List K:=(List.range R).map fun r=>t.getD (c+C * r) 0
def q5o (w:List E) (t:List K) (R C:Nat):List E:=(List.range C).map fun c=>comb w (tcol t R C c)
def ccol (t:List K) (R C m j:Nat):List K:=(List.range R).map fun r=>sym (trow t C r) m j
theorem rng_getD {α:Type} (g:Nat→α) (d:α) {n i:Nat} (h:i < n):((List.range n).map g).getD i d=g i:=by
  rw [List.getD_eq_getElem?_getD,List.getElem?_map,List.getElem?_range h];rfl
theorem trow_len (t:List K) (C r:Nat):(trow t C r).length=C:=by unfold trow;simp
theorem tcol_len (t:List K) (R C c:Nat):(tcol t R C c).length=R:=by unfold tcol;simp
theorem combR_len (w:List E) (t:List K) (R C:Nat):(q5o w t R C).length=C:=by unfold q5o;simp
theorem ccol_len (t:List K) (R C m j:Nat):(ccol t R C m j).length=R:=by unfold ccol;simp
theorem combR_get (w:List E) (t:List K) (R C:Nat) {c:Nat} (h:c < C):(q5o w t R C).getD c 0=comb w (tcol t R C c):=rng_getD _ _ h
theorem comb_tcol (w:List E) (t:List K) (R C c:Nat):comb w (tcol t R C c)=es R fun r=>w.getD r 0 * E.of (t.getD (c+C * r) 0):=by
  unfold comb;rw [tcol_len];exact q4b R fun r hr=>by unfold tcol;rw [rng_getD _ _ hr]
theorem comb_code (w:List E) (t:List K) (R C m j:Nat):ev (q5o w t R C) (pw (root m) j)=comb w (ccol t R C m j):=by
  rw [ev_es,combR_len];have h1:(es C fun c=>(q5o w t R C).getD c 0 * E.of (pw (pw (root m) j) c))=es C fun c=>es R fun r=>w.getD r 0 * E.of (t.getD (c+C * r) 0) * E.of (pw (pw (root m) j) c) :=
    q4b C fun c hc=>by rw [combR_get _ _ _ _ hc,comb_tcol,← es_mulr]
  rw [h1,es_swap];unfold comb;rw [ccol_len];refine q4b R fun r hr=>?_;unfold ccol;rw [rng_getD _ _ hr];unfold sym;rw [evK_sm,trow_len,of_sm,← es_mul];refine q4b C fun c hc=>?_;unfold trow;rw [rng_getD _ _ hc,E.of_mul,E.mul_assoc]
theorem comb_mle (t:List K) (p:List E) {R C b:Nat} (hb:b≤p.length) (hC:C=2 ^ b) (hR:R=2 ^ (p.length - b)) (ht:t.length=R * C) :
    mleS (q5o (eqT (p.drop b)) t R C) (p.take b)=mleS (t.map E.of) p:=by
  unfold mleS;rw [combR_len,List.length_map,ht,Nat.mul_comm R C,es_prod];have h1:(es C fun c=>(q5o (eqT (p.drop b)) t R C).getD c 0 * eqI (p.take b) c)=es C fun c=>es R fun r=>(eqT (p.drop b)).getD r 0 * E.of (t.getD (c+C * r) 0) * eqI (p.take b) c :=
    q4b C fun c hc=>by rw [combR_get _ _ _ _ hc,comb_tcol,← es_mulr]
  rw [h1,es_swap];refine q4b R fun r hr=>q4b C fun c hc=>?_;have hl:(p.take b).length=b:=by rw [List.length_take];omega
  have h2:=eqI_two (p.take b) (p.drop b) (c:=c) r (by rw [hl,← hC];exact hc);rw [List.take_append_drop,hl,← hC] at h2;rw [h2,List.getD_eq_getElem?_getD,eqT_get _ (by rw [List.length_drop,← hR];exact hr)];have hin:c+C * r < t.length:=by
    rw [ht];have:C * r+C≤R * C:=(by rw [← Nat.mul_succ,Nat.mul_comm];exact Nat.mul_le_mul_right _ hr);omega
  rw [List.getD_eq_getElem?_getD (l:=t.map E.of),List.getElem?_map,List.getElem?_eq_getElem hin,List.getD_eq_getElem?_getD,List.getElem?_eq_getElem hin];show eqI (p.drop b) r * E.of t[c+C * r] * eqI (p.take b) c=E.of t[c+C * r] * (eqI (p.take b) c * eqI (p.drop b) r);generalize eqI (p.drop b) r=x;generalize eqI (p.take b) c=y;generalize E.of t[c+C * r]=z;(apply E.eq <;> simp only [E.defs] <;> grind)
end Fd
namespace Mk
variable (lf:List Nat→List Nat) (pr:List Nat→List Nat→List Nat)
theorem reb_len:∀ (f lo hi:Nat) (idx:List Nat) (ns bs:List (List Nat)),hi - lo < f→lo < hi →
    (reb lf pr f lo hi idx ns bs).2.1=ns.drop (cls lo hi idx).length∧((reb lf pr f lo hi idx ns bs).2.2.2=true↔(cls lo hi idx).length≤ns.length)
  | 0,_,_,_,_,_,h,_=>by omega
  | f+1,lo,hi,idx,ns,bs,hf,hlo=>by
    by_cases h0:idx=[]
    · subst h0;rw [q5j,q9v];cases ns with
      | nil=>simp
      | cons d r=>simp
    · by_cases h1:hi - lo≤1
      · rw [q9u lf pr h1 h0,q5i h1 h0];simp
      · have h2:2≤hi - lo:=(by omega);have hs1:=q3m h2;have hs2:=q2s (hi - lo);rw [q9t lf pr h2 h0,q4p h2 h0];obtain ⟨a1,a2⟩:=reb_len f lo (lo+spl (hi - lo)) (idx.filter fun i=>Nat.blt i (lo+spl (hi - lo))) ns bs (by omega) (by omega);generalize ha:reb lf pr f lo (lo+spl (hi - lo)) (idx.filter fun i=>Nat.blt i (lo+spl (hi - lo))) ns bs=a at a1 a2;obtain ⟨b1,b2⟩:=reb_len f (lo+spl (hi - lo)) hi (idx.filter fun i=>Nat.ble (lo+spl (hi - lo)) i) a.2.1 a.2.2.1 (by omega) (by omega);generalize hb:reb lf pr f (lo+spl (hi - lo)) hi (idx.filter fun i=>Nat.ble (lo+spl (hi - lo)) i) a.2.1 a.2.2.1=b at b1 b2;dsimp only;rw [hb,List.length_append];refine ⟨by rw [b1,a1,List.drop_drop],?_⟩;rw [Bool.and_eq_true,a2,b2,a1,List.length_drop];omega
def okP (n:Nat) (idx:List Nat) (bs ns:List (List Nat)) (rt:List Nat):Prop :=
  (reb lf pr (n+1) 0 n idx ns bs).2.1=[]∧(reb lf pr (n+1) 0 n idx ns bs).2.2.2=true∧(reb lf pr (n+1) 0 n idx ns bs).1=rt
def okR (n:Nat) (idx:List Nat) (bs ns:List (List Nat)) (rt:List Nat):Prop :=
  ns.length=(cls 0 n idx).length∧rref lf pr (cls 0 n idx) ns idx bs (n+1) 0 n=rt
theorem filt_all {idx:List Nat} {n:Nat} (hi:∀ i∈idx,i < n):(idx.filter fun i=>Nat.ble 0 i && Nat.blt i n)=idx :=
  List.filter_eq_self.2 fun i h=>by
    rw [Bool.and_eq_true,Nat.blt_eq];exact ⟨Nat.ble_eq_true_of_le (Nat.zero_le _),hi i h⟩
theorem ok_iff {n:Nat} (hn:0 < n) {idx:List Nat} (hi:∀ i∈idx,i < n) (hp:idx.Pairwise (· < ·)) (bs ns:List (List Nat)) (hb:bs.length=idx.length) (rt:List Nat):okP lf pr n idx bs ns rt↔okR lf pr n idx bs ns rt:=by
  obtain ⟨h1,h2⟩:=reb_len lf pr (n+1) 0 n idx ns bs (by omega) hn;unfold okP okR;rw [h1,h2,List.drop_eq_nil_iff];by_cases he:ns.length=(cls 0 n idx).length
  · have h3:=rref_eq lf pr (cls 0 n idx) ns idx bs he (n+1) 0 n idx [] [] (by omega) hn (by simp) (fun _ h=>by cases h) (fun _ h=>by cases h) (filt_all hi).symm hp hb;have h4:(idx.filter fun i=>Nat.blt i 0)=[]:=List.filter_eq_nil_iff.2 fun i _=>(by rw [Nat.blt_eq];omega);rw [h4,List.length_nil,List.length_nil,List.drop_zero,List.drop_zero] at h3;rw [h3];exact ⟨fun h=>⟨he,h.2.2⟩,fun h=>⟨by omega,by omega,h.2⟩⟩
  · exact ⟨fun h=>absurd (Nat.le_antisymm h.1 h.2.1) he,fun h=>absurd h.1 he⟩
theorem ok_honest (l:List (List Nat)) (hl:0 < l.length) {idx:List Nat} (hi:∀ i∈idx,i < l.length) (hp:idx.Pairwise (· < ·)):okP lf pr l.length idx (idx.map fun i=>l.getD i []) (opening lf pr l idx) (root lf pr l):=by
  have h:=q9w lf pr l (l.length+1) 0 l.length idx [] [] (by omega) hl (Nat.le_refl _) (fun i h=>⟨Nat.zero_le _,hi i h⟩) hp;rw [List.append_nil,List.append_nil] at h;have e:((hashes lf l).drop 0).take (l.length - 0)=hashes lf l:=by
    rw [List.drop_zero,Nat.sub_zero,List.take_of_length_le (by unfold hashes;rw [List.length_map];exact Nat.le_refl _)]
  rw [e] at h;unfold okP opening;rw [h];exact ⟨rfl,rfl,rfl⟩
end Mk
namespace Cm
open Fd
structure Sh where
  a:Nat
  c:Nat
  b:Nat
  t:Nat
structure Sh.Ok (s:Sh):Prop where
  ac:s.a+s.c≤16
  b1:1≤s.b
  b4:s.b≤4
  cb:s.c+s.b≤16
  t1:1≤s.t
  t64:s.t≤64
  tn:s.t≤2 ^ (s.c+s.b)
def Sh.R (s:Sh):Nat:=2 ^ s.a
def Sh.C (s:Sh):Nat:=2 ^ s.c
def Sh.B (s:Sh):Nat:=2 ^ s.b
def Sh.m (s:Sh):Nat:=s.c+s.b
def Sh.n (s:Sh):Nat:=2 ^ (s.c+s.b)
theorem Sh.BC (s:Sh):s.B * s.C=s.n:=by unfold Sh.B Sh.C Sh.n;rw [← Nat.pow_add,Nat.add_comm]
theorem Sh.RC (s:Sh):s.R * s.C=2 ^ (s.a+s.c):=by unfold Sh.R Sh.C;rw [← Nat.pow_add]
def pwE (x:E):Nat→E
  | 0=>1
  | n+1=>pwE x n * x
def pws (x:E) (n:Nat):List E:=(List.range n).map (pwE x)
variable (lf:List Nat→List Nat) (pr:List Nat→List Nat→List Nat) (by8:List K→List Nat)
def lv (t:List K) (s:Sh):List (List Nat):=(List.range s.n).map fun j=>by8 (ccol t s.R s.C s.m j)
def rt (t:List K) (s:Sh):List Nat:=Mk.root lf pr (lv by8 t s)
theorem lv_len (t:List K) (s:Sh):(lv by8 t s).length=s.n:=by unfold lv;simp
theorem lv_get (t:List K) (s:Sh) {j:Nat} (h:j < s.n):(lv by8 t s).getD j []=by8 (ccol t s.R s.C s.m j):=rng_getD _ _ h
def colOk (s:Sh) (I:List Nat) (P:List E) (rho:E) (row rnd:List E) (cols:List (List K)):Prop :=
  ∀ i,i < I.length→ev row (pw (root s.m) (I.getD i 0))=comb (eqT (P.drop s.c)) (cols.getD i [])∧ev rnd (pw (root s.m) (I.getD i 0))=comb (pws rho s.R) (cols.getD i [])
instance (s:Sh) (I:List Nat) (P:List E) (rho:E) (row rnd:List E) (cols:List (List K)):Decidable (colOk s I P rho row rnd cols):=by unfold colOk;exact Nat.decidableBallLT _ _
instance (n:Nat) (I:List Nat) (bs ns:List (List Nat)) (r:List Nat):Decidable (Mk.okR lf pr n I bs ns r):=by unfold Mk.okR;exact inferInstance
def verC (s:Sh) (r:List Nat) (I:List Nat) (P:List E) (rho v:E) (row rnd:List E) (cols:List (List K)) (ns:List (List Nat)):Nat :=
  if Mk.okR lf pr s.n I (cols.map by8) ns r then if colOk s I P rho row rnd cols then if mleS row (P.take s.c)=v then 0 else 111 else 110 else 80
def rowH (t:List K) (s:Sh) (P:List E):List E:=q5o (eqT (P.drop s.c)) t s.R s.C
def rndH (t:List K) (s:Sh) (rho:E):List E:=q5o (pws rho s.R) t s.R s.C
def q3n (t:List K) (s:Sh) (I:List Nat):List (List K):=I.map (ccol t s.R s.C s.m)
def q3j (t:List K) (s:Sh) (I:List Nat):List (List Nat):=Mk.opening lf pr (lv by8 t s) I
theorem colsH_get (t:List K) (s:Sh) (I:List Nat) {i:Nat} (h:i < I.length):(q3n t s I).getD i []=ccol t s.R s.C s.m (I.getD i 0):=by
  unfold q3n;rw [List.getD_eq_getElem?_getD,List.getElem?_map,List.getElem?_eq_getElem h,List.getD_eq_getElem?_getD,List.getElem?_eq_getElem h];rfl
theorem path_honest (t:List K) (s:Sh) {I:List Nat} (hI:∀ i∈I,i < s.n) (hp:I.Pairwise (· < ·)):Mk.okR lf pr s.n I ((q3n t s I).map by8) (q3j lf pr by8 t s I) (rt lf pr by8 t s):=by
  have hn:0 < s.n:=Nat.pow_pos (by decide);have h:=Mk.ok_honest lf pr (lv by8 t s) (by rw [lv_len];exact hn) (idx:=I) (by rw [lv_len];exact hI) hp;rw [lv_len] at h;have e:(I.map fun i=>(lv by8 t s).getD i [])=(q3n t s I).map by8:=by
    unfold q3n;rw [List.map_map];exact List.map_congr_left fun i hi=>lv_get by8 t s (hI i hi)
  rw [e] at h;exact (Mk.ok_iff lf pr hn hI hp _ _ (by unfold q3n;simp) _).1 h
theorem row_ok (t:List K) (s:Sh) (P:List E) (j:Nat):ev (rowH t s P) (pw (root s.m) j)=comb (eqT (P.drop s.c)) (ccol t s.R s.C s.m j):=comb_code _ _ _ _ _ _
theorem rnd_ok (t:List K) (s:Sh) (rho:E) (j:Nat):ev (rndH t s rho) (pw (root s.m) j)=comb (pws rho s.R) (ccol t s.R s.C s.m j):=comb_code _ _ _ _ _ _
theorem col_honest (t:List K) (s:Sh) (I:List Nat) (P:List E) (rho:E):colOk s I P rho (rowH t s P) (rndH t s rho) (q3n t s I):=by
  intro i hi;rw [colsH_get t s I hi];exact ⟨row_ok t s P _,rnd_ok t s rho _⟩
theorem val_honest (t:List K) (s:Sh) {P:List E} (hP:P.length=s.a+s.c) (ht:t.length=s.R * s.C):mleS (rowH t s P) (P.take s.c)=mleS (t.map E.of) P :=
  comb_mle t P (by omega) rfl (by unfold Sh.R;rw [hP];congr 1;omega) ht
theorem ver_honest (t:List K) (s:Sh) {I:List Nat} (hI:∀ i∈I,i < s.n) (hp:I.Pairwise (· < ·)) (P:List E) (rho v:E) (row rnd:List E) :
    verC lf pr by8 s (rt lf pr by8 t s) I P rho v row rnd (q3n t s I) (q3j lf pr by8 t s I)=if colOk s I P rho row rnd (q3n t s I) then if mleS row (P.take s.c)=v then 0 else 111 else 110:=by
  unfold verC;rw [if_pos (path_honest lf pr by8 t s hI hp)]
theorem ver_complete (t:List K) (s:Sh) {I:List Nat} (hI:∀ i∈I,i < s.n) (hp:I.Pairwise (· < ·)) {P:List E} (hP:P.length=s.a+s.c) (ht:t.length=s.R * s.C) (rho v:E) :
    verC lf pr by8 s (rt lf pr by8 t s) I P rho v (rowH t s P) (rndH t s rho) (q3n t s I) (q3j lf pr by8 t s I)=if mleS (t.map E.of) P=v then 0 else 111:=by
  rw [ver_honest lf pr by8 t s hI hp,if_pos (col_honest t s I P rho),val_honest t s hP ht]
end Cm
namespace Go.Proofs.YtpohjepbmgeplaaGreatDoor
open Go.RowKit Go.Proofs.K
open _root_.Mk (spl q2s q3m tree q8q q6g)
theorem z3d {x:Nat} (h0:x ≠ 0) (h:x < 2 ^ 64):Lib.bitLen x=Nat.log2 x+1:=by
  obtain ⟨h1,h2,h3⟩:=Lib.bitLenAux_bounds 64 x h h0;have:Nat.log2 x=Lib.bitLenAux 64 x - 1:=(Nat.log2_eq_iff h0).2 ⟨h2,by rw [show Lib.bitLenAux 64 x - 1+1=Lib.bitLenAux 64 x by omega];exact h3⟩;unfold Lib.bitLen;omega
theorem gsplit {n:Nat} (h2:2≤n) (hn:n≤65536) (w:World) :
    Calls Tryz.prog 157 #[.int .i64 (n:Nat)] w fun e w'=>e=.returned (.int .i64 ((spl n:Nat):Int))∧Ext w w':=by
  refine q0k Tryz.func157 rfl Tryz.ntmps157 rfl ?_;have hlt:=q3m h2;have hlog:Nat.log2 (n - 1) < 62:=(Nat.log2_lt (by omega)).2 (Nat.lt_of_lt_of_le (show n - 1 < 2 ^ 16 by omega) (Nat.pow_le_pow_right (by decide) (by decide)));(refine q0b<|q0a<|a_I rfl<|q0c<|tn<|q0b<|q0a<|m_I rfl<|Ls (q2d rfl rfl (by omega))<|Ls (q2y rfl) ?_);rw [show IntKind.u64.wrap ((n:Int) - 1)=((n - 1:Nat):Int) by rw [IntKind.wrap_u64];omega];refine L_fv rfl ((Tryz.bits_Len ((n - 1:Nat):Int) w (by omega) (by omega)).mono fun _ _ q=>⟨q.1,q.2 ▸ Ext.refl _⟩) ?_;intro w1 E1;rw [Int.toNat_natCast,z3d (by omega) (by omega)];(refine Ls (q2d rfl rfl (by omega))<|Ls (q5x rfl rfl (by omega))<|a_I rfl<|q0c<|tn<|q0r ?_);rw [show (((Nat.log2 (n - 1)+1:Nat):Int) - 1)=((Nat.log2 (n - 1):Nat):Int) by omega];skip;refine q0e rfl rfl (v:=.int _ _) rfl ⟨?_,E1⟩;rw [q6k (by omega)];rfl
def dgs (l:List (List Nat)):List Value:=(l.map (ints .u8)).flatten
def DgOk (l:List (List Nat)):Prop:=∀ d∈l,d.length=32∧Sha.bytesOk d
theorem z2b {l:List (List Nat)} (h:DgOk l):(dgs l).length=l.length * 32:=by
  unfold dgs;induction l with
  | nil=>rfl
  | cons d l ih =>
    rw [List.map_cons,List.flatten_cons,List.length_append,ih fun x hx=>h x (by simp [hx]),q0o,(h d (by simp)).1,List.length_cons];omega
theorem z2d (a b:List (List Nat)):dgs (a++b)=dgs a++dgs b:=by unfold dgs;rw [List.map_append,List.flatten_append]
theorem z4k (d:List Nat):dgs [d]=ints .u8 d:=by unfold dgs;simp
theorem DgOk.take {l:List (List Nat)} (h:DgOk l) (k:Nat):DgOk (l.take k):=fun d hd=>h d (List.mem_of_mem_take hd)
theorem DgOk.drop {l:List (List Nat)} (h:DgOk l) (k:Nat):DgOk (l.drop k):=fun d hd=>h d (List.mem_of_mem_drop hd)
theorem z2c {l:List (List Nat)} (h:DgOk l) {k:Nat} (hk:k≤l.length):dgs l=dgs (l.take k)++dgs (l.drop k)∧(dgs (l.take k)).length=k * 32:=by
  refine ⟨by rw [← z2d,List.take_append_drop],?_⟩;rw [z2b (h.take k),List.length_take,Nat.min_eq_left hk]
theorem q6l {w:World} {b o j:Nat} {xs ys:List Value} (h:w.rangeAt b o xs) (hy:∀ i u,ys[i]?=some u→xs[j+i]?=some u):w.rangeAt b (o+j) ys:=by
  intro i u hu;have:=h (j+i) u (hy i u hu);rwa [← Nat.add_assoc] at this
theorem z4j {w:World} {lo hi b o m c:Nat} {l:List (List Nat)} (h:DgOk l) (hl:l.length=m) (hb:lo≤b∧b < hi) (hR:w.rangeAt b o (dgs l)) (hmc:m≤c) (hc:c≤maxLen) (i j c':Nat) (hij:i≤j) (hj:j≤m) (hc':j - i≤c'∧c'≤maxLen) :
    Row w lo hi 32 (.slice (some ⟨b,o+i * 32,none⟩) (j - i) c') (j - i) (dgs ((l.drop i).take (j - i))):=by
  have hlen:((l.drop i).take (j - i)).length=j - i:=by rw [List.length_take,List.length_drop];omega
  refine ⟨by rw [z2b ((h.drop i).take _),hlen],_,c',rfl,hc'.1,hc'.2,fun _=>⟨b,_,rfl,hb.1,hb.2,q6l hR fun q u hu=>?_⟩⟩;obtain ⟨h1,h2⟩:=z2c h (k:=i) (by omega);obtain ⟨h3,h4⟩:=z2c (h.drop i) (k:=j - i) (by rw [List.length_drop];omega);rw [h1,List.getElem?_append_right (by omega),h2,show i * 32+q - i * 32=q by omega,h3,List.getElem?_append_left (List.getElem?_eq_some_iff.1 hu).1];exact hu
theorem q3p (l:List (List Nat)) (h:DgOk l) (h1:1≤l.length):(tree nd l).length=32∧Sha.bytesOk (tree nd l):=by
  rcases Nat.lt_or_ge l.length 2 with h2 | h2
  · obtain ⟨d,rfl⟩:=List.length_eq_one_iff.1 (show l.length=1 by omega);rw [q8q];exact h d (by simp)
  · rw [q6g nd h2];exact ⟨q5z _ _,nd_ok _ _⟩
set_option maxRecDepth 100000 in
set_option maxHeartbeats 2000000 in
theorem gfold:∀ (N lo hi:Nat) (v:Value) (l:List (List Nat)) (_:l.length≤N) (_:1≤l.length) (_:l.length≤65536) (_:DgOk l) (w:World) (_:Tb w) (_:Row w lo hi 32 v l.length (dgs l)),
    Calls Tryz.prog 110 #[v] w fun e w'=>e=.returned (.agg (ints .u8 (tree nd l)).toArray)∧Ext w w'
  | 0,_,_,_,_,h,h1,_,_,_,_,_=>by omega
  | N+1,lo,hi,v,l,hN,h1,hl,hd,w,hw,hr=>by
    obtain ⟨b,o,c,rfl,hmc,hb1,hb2,hR⟩:=hr.at (k:=0) (by omega);have hcm:c≤maxLen:=by
      obtain ⟨_,A,c',e,_,h,_⟩:=hr;cases e;exact h
    refine q0k Tryz.func110 rfl Tryz.ntmps110 rfl ?_;(refine q0b<|q0a ?_);refine q0w ?_;intro g1 w1 B1 hg1 E1 hs1;by_cases h2:l.length=1
    · obtain ⟨d,rfl⟩:=List.length_eq_one_iff.1 h2;have hR':w1.rangeAt b (o+0 * 32) (ints .u8 d):=(by rw [Nat.zero_mul,Nat.add_zero,← z4k];exact E1.range hR);(refine q0c<|tn<|q0b<|q0b<|q0a<|m_S rfl<|Ls (q0f rfl)<|Ls (q2b rfl rfl (by omega))<|q0c<|tn<|q0z rfl<|q0b<|q0a<|m_S rfl<|Ls (q0n (i:=0) rfl rfl (by omega))<|Ls (q2q (size:=32) rfl hR' (by rw [q0o];exact (hd d (by simp)).1)) ?_);refine q0j (size:=32) rfl rfl (by rw [q0o];exact (hd d (by simp)).1) q1c B1 rfl ?_;intro w8 B8 hg8 _;(refine q0c<|tn<|q0r<|tr ?_);refine q0y rfl rfl (Res.cellA inferInstance rfl (B8.range (fun j u h=>by simpa using h)) (by rw [q0o];exact (hd d (by simp)).1) .nil) ?_;exact ⟨rfl,E1.then hg8 (fun g h=>by cases h;omega)⟩
    · have hs1':=q3m (n:=l.length) (by omega);have hs0:=q2s l.length;(refine q0c<|tn<|q0b<|q0b<|q0a<|m_S rfl<|Ls (q0f rfl)<|Ls (q2g rfl rfl (by omega))<|q0c<|tn<|q0x rfl<|q0q<|tn<|q0b<|q0a<|m_S rfl<|Ls (q0f rfl) ?_);refine L_fv rfl (gsplit (n:=l.length) (by omega) hl w1) ?_;intro w2 E2;(refine a_I rfl<|q0c<|tn<|q0b ?_);have E12:=E1.trans E2;have hA0:∀ y,Ext w2 y→Ext w y:=fun y E=>E12.trans E;have hlt:(l.take (spl l.length)).length=spl l.length:=(by rw [List.length_take];omega);have hld:(l.drop (spl l.length)).length=l.length - spl l.length:=(by rw [List.length_drop]);have ra:∀ y,Ext w2 y→Row y lo hi 32 (.slice (some ⟨b,o,none⟩) (spl l.length) c) (l.take (spl l.length)).length (dgs (l.take (spl l.length))):=fun y E=>by
        have:=z4j hd rfl ⟨hb1,hb2⟩ ((hA0 y E).range hR) hmc hcm 0 (spl l.length) c (by omega) (by omega) ⟨by omega,hcm⟩;rw [Nat.zero_mul,Nat.add_zero,List.drop_zero,Nat.sub_zero] at this;rw [hlt];exact this
      have rb:∀ y,Ext w2 y→Row y lo hi 32 (.slice (some ⟨b,o+spl l.length * 32,none⟩) (l.length - spl l.length) (c - spl l.length)) (l.drop (spl l.length)).length (dgs (l.drop (spl l.length))):=fun y E=>by
        have:=z4j hd rfl ⟨hb1,hb2⟩ ((hA0 y E).range hR) hmc hcm (spl l.length) l.length (c - spl l.length) (by omega) (by omega) ⟨by omega,by omega⟩;rw [List.take_of_length_le (by rw [hld];exact Nat.le_refl _)] at this;rw [hld];exact this
      have ta:=q3p (l.take (spl l.length)) (hd.take _) (by omega);have tb:=q3p (l.drop (spl l.length)) (hd.drop _) (by omega);apply q1h 9 (by kernel_rfl);(apply DW_x (fun r w hA hH=>(q0d (v:=.slice _ _ _) rfl).trans rfl);apply DW_x (fun r w hA hH=>(q0d (v:=.int _ _) rfl).trans rfl));((with_reducible apply DW_x);(exact fun r w hA hH=>(z2h (size:=32) (spl l.length) rfl rfl rfl (by omega)).trans rfl));((with_reducible apply q1x);(exact fun _=>rfl);(exact fun _=>rfl);(exact fun r w hA hH=>gfold N lo hi _ (l.take (spl l.length)) (by omega) (by omega) (by omega) (hd.take _) w (hw.ext (hA0 w hA)) (ra w hA)));(apply DW_x (fun r w hA hH=>(q0d (v:=.slice _ _ _) rfl).trans rfl);apply DW_x (fun r w hA hH=>(q0d (v:=.int _ _) rfl).trans rfl));((with_reducible apply DW_x);(exact fun r w hA hH=>(z2i (size:=32) (spl l.length) rfl rfl rfl (by omega) hmc (by omega)).trans rfl));((with_reducible apply q1x);(exact fun _=>rfl);(exact fun _=>rfl);(exact fun r w hA hH=>gfold N lo hi _ (l.drop (spl l.length)) (by omega) (by omega) (by omega) (hd.drop _) w (hw.ext (hA0 w hA)) (rb w hA)));((with_reducible apply q1x);(exact fun _=>rfl);(exact fun _=>rfl);(exact fun r w hA hH=>gpair _ _ ta.2 tb.2 ta.1 tb.1 w (hw.ext (hA0 w hA))));((with_reducible exact q1p);(exact rfl);(repeat (first | exact .inr (.inr (fun _ _=>by with_reducible rfl)) | (refine And.intro ?_ ?_) | exact .inr (.inl rfl) | exact .inl (by decide +kernel) | exact trivial | exact .inr (.inr (fun _ _=>rfl))));(try dsimp only [Nat.reduceAdd]));intro r w3 E3 _;refine q0j (size:=32) rfl rfl (by rw [q0o];exact q5z _ _) q1c (B1.ext (E2.trans E3)) rfl ?_;intro w8 B8 hg8 _;(refine q0c<|tn<|q0r ?_);refine q0y rfl rfl (Res.cellA inferInstance rfl (B8.range (fun j u h=>by simpa using h)) (by rw [q0o];exact q5z _ _) .nil) ?_;refine ⟨?_,(E12.trans E3).then hg8 (fun g h=>by cases h;omega)⟩;rw [q6g nd (l:=l) (by omega)];rfl
theorem dgs_set {l:List (List Nat)} (h:DgOk l) {i:Nat} {d:List Nat} (hi:i < l.length) (hd:d.length=32):(dgs l).take (i * 32)++ints .u8 d++(dgs l).drop (i * 32+32)=dgs (l.set i d):=by
  obtain ⟨h1,h2⟩:=z2c h (k:=i) (by omega);obtain ⟨h3,h4⟩:=z2c h (k:=i+1) (by omega);have e1:(dgs l).take (i * 32)=dgs (l.take i):=by rw [h1,← h2,List.take_left]
  have e2:(dgs l).drop (i * 32+32)=dgs (l.drop (i+1)):=by rw [h3,show i * 32+32=(i+1) * 32 by omega,← h4,List.drop_left]
  rw [e1,e2,← z4k,← z2d,← z2d,List.set_eq_take_append_cons_drop,if_pos hi,List.append_assoc];rfl
theorem dgs_zero (n:Nat):(List.replicate n (List.replicate 32 (Value.int .u8 0))).flatten=dgs (List.replicate n (List.replicate 32 0)):=by
  unfold dgs;rw [List.map_replicate];rfl
def part (a b:List (List Nat)) (i:Nat):List (List Nat):=a.take i++b.drop i
theorem part_set {a b:List (List Nat)} (h:a.length=b.length) {i:Nat} {d:List Nat} (hd:a[i]?=some d):(part a b i).set i d=part a b (i+1):=by
  have hi:i < a.length:=(List.getElem?_eq_some_iff.1 hd).1;unfold part;rw [List.set_append,if_neg (by rw [List.length_take];omega),List.length_take,Nat.min_eq_left (by omega),Nat.sub_self,List.take_add_one,hd,List.append_assoc];congr 1;rw [List.drop_eq_getElem_cons (by omega)];rfl
theorem part_len {a b:List (List Nat)} (h:a.length=b.length) {i:Nat} (hi:i≤a.length):(part a b i).length=a.length:=by
  unfold part;rw [List.length_append,List.length_take,List.length_drop];omega
theorem part_ok {a b:List (List Nat)} (ha:DgOk a) (hb:DgOk b) (i:Nat):DgOk (part a b i):=fun d hd=>by
  rcases List.mem_append.1 hd with h | h
  · exact ha d (List.mem_of_mem_take h)
  · exact hb d (List.mem_of_mem_drop h)
theorem z1g (n:Nat):DgOk (List.replicate n (List.replicate 32 0)):=fun d hd=>by
  obtain ⟨_,rfl⟩:=List.mem_replicate.1 hd;exact ⟨by simp,fun x hx=>by obtain ⟨_,rfl⟩:=List.mem_replicate.1 hx;omega⟩
theorem q3w (M:List (List Nat)):DgOk (M.map lf):=fun d hd=>by
  obtain ⟨b,_,rfl⟩:=List.mem_map.1 hd;exact ⟨q7g b,lf_ok b⟩
set_option maxRecDepth 100000 in
set_option maxHeartbeats 2000000 in
theorem ghashes (N:Nat→Prop) (v:Value) (M:List (List Nat)) (hM:M.length≤65536) (hM8:∀ b∈M,Sha.bytesOk b∧b.length≤100000000) (w:World) (hw:Tb w) (hr:q2f N w .u8 v M) :
    Calls Tryz.prog 111 #[v] w fun e w'=>∃ q,e=.returned q∧Ext w w'∧w'.ownsRow w.heap.size 43 32 q M.length (dgs (M.map lf)):=by
  obtain ⟨A,c,rfl,hmc,hcm⟩:=hr.form;obtain ⟨vs,hvl,hvr,hve⟩:=hr;refine q0k Tryz.func111 rfl Tryz.ntmps111 rfl ?_;(refine q0b<|q0a<|a_S rfl<|q0c<|tn<|q0b<|q0a<|m_S rfl<|Ls (q0f rfl) ?_);refine L_make (z:=List.replicate 32 (Value.int .u8 0)) M.length M.length rfl rfl rfl rfl (Nat.le_refl _) (by omega) (by omega) ?_;intro g w3 B3 hg E3 hs3;rw [dgs_zero] at B3;have hml:(M.map lf).length=(List.replicate M.length (List.replicate 32 0)).length:=by simp
  have hml':(M.map lf).length=M.length:=by simp
  (refine a_S rfl<|q0c<|tn<|q0b<|q0b<|q0a<|m_S rfl<|Ls (q0f rfl)<|m_I rfl<|q0c<|tn<|q0h ?_);refine q1k (fun q f w'=>∃ i,q=M.length - i∧i≤M.length∧f 3=.slice (some ⟨g,0,none⟩) M.length M.length∧f 9=.slice A M.length c∧f 10=.int .i64 (M.length:Nat)∧f 11=.int .i64 (i:Nat)∧Ext w w'∧w'.ownsRow w.heap.size 43 32 (.slice (some ⟨g,0,none⟩) M.length M.length) M.length (dgs (part (M.map lf) (List.replicate M.length (List.replicate 32 0)) i))) M.length ?_ ?_
  · refine ⟨0,rfl,by omega,rfl,rfl,rfl,rfl,E3,q5a B3 (by omega) (Nat.le_refl _) (by unfold maxLen;omega) (by rw [z2b (z1g _)];simp) ?_⟩;rw [List.take_of_length_le (by rw [z2b (z1g _)];simp)];rfl
  · rintro q f wr ⟨i,hq,hi,f3,f9,f10,f11,hE,ho⟩;rw [fold f3,fold f9,fold f10,fold f11];(refine q0b<|q0a<|Ls (q1w rfl rfl)<|q0c<|tn<|q0b ?_);refine q1b rfl (fun h=>?_) (fun h=>?_)
    · have hlt:i < M.length:=(by omega);obtain ⟨b,hb⟩:∃ b,M[i]?=some b:=⟨M[i],List.getElem?_eq_getElem hlt⟩;obtain ⟨x,hx⟩:∃ x,vs[i]?=some x:=⟨vs[i]'(by omega),List.getElem?_eq_getElem (by omega)⟩;obtain ⟨b0,o0,c0,hA,_,_,_,hc0⟩:=hvr.at hlt;cases hA
      obtain ⟨lo,hi2,_,rx⟩:=hve i x b hx hb;have hbm:=hM8 b (List.mem_of_getElem? hb);have hx1:x.oneCell'=true:=(by obtain ⟨_,_,_,rfl,_⟩:=rx;rfl);(refine q0q<|tn<|q0b<|q0h<|q0b<|q0a<|m_I rfl<|Ls (q0n rfl rfl (by omega))<|Ls (q1v rfl (hE.range hc0) (by omega) (show vs[i * 1]?=some x by rw [Nat.mul_one];exact hx))<|a_I rfl<|Ls (q0l (v:=x) rfl)<|q0c<|tn<|q0a<|m_S rfl<|m_I rfl<|Ls (q0d (v:=x) rfl) ?_);refine L_fv rfl (gleaf lo hi2 x b hbm.1 hbm.2 wr (hw.ext hE) (rx.ext hE)) ?_;intro w4 E4;(refine Ls (q0n rfl rfl (by omega)) ?_);refine q5d (i:=i) (l:=ints .u8 (lf b)) (q0p ho E4) rfl rfl (by omega) (by rw [q0o];exact q7g _) q1c hlt ?_;intro w5 o5 hg5 _;(refine q0c<|bn<|tn<|q0a<|Ls (q1e rfl rfl (by omega))<|m_I rfl<|q0c<|tn ?_);refine ⟨M.length - (i+1),by omega,i+1,rfl,by omega,rfl,rfl,rfl,rfl,(hE.trans E4).then hg5 (fun g h=>by cases h;omega),?_⟩;rw [dgs_set (part_ok (q3w M) (z1g _) i) (by rw [part_len hml (by omega)];omega) (q7g b),part_set hml (by rw [List.getElem?_map,hb];rfl)] at o5;exact o5
    · have hil:i=M.length:=(by omega);rw [hil] at ho;(refine q1j<|te<|te<|bx<|tn<|q0b<|q0a<|m_S rfl<|a_S rfl<|q0c<|tn<|q0r ?_);refine q0e rfl rfl (v:=.slice _ _ _) rfl ⟨_,rfl,hE,?_⟩;have e:part (M.map lf) (List.replicate M.length (List.replicate 32 0)) M.length=M.map lf:=by
        unfold part;rw [List.take_of_length_le (by omega),List.drop_of_length_le (by simp),List.append_nil]
      rw [e] at ho;exact ho
set_option maxHeartbeats 2000000 in
theorem gmroot (N:Nat→Prop) (v:Value) (M:List (List Nat)) (h1:1≤M.length) (hM:M.length≤65536) (hM8:∀ b∈M,Sha.bytesOk b∧b.length≤100000000) (w:World) (hw:Tb w) (hr:q2f N w .u8 v M) :
    Calls Tryz.prog 54 #[v] w fun e w'=>e=.returned (.tuple #[.agg (ints .u8 (Mk.root lf nd M)).toArray,.int .i64 0])∧Ext w w':=by
  have hroot:(Mk.root lf nd M).length=32:=(q3p (M.map lf) (q3w M) (by simpa using h1)).1;obtain ⟨A,c,rfl,hmc,hcm⟩:=hr.form;refine q0k Tryz.func54 rfl Tryz.ntmps54 rfl ?_;(refine q0b<|q0a ?_);refine q0w ?_;intro g1 w1 B1 hg1 E1 hs1;(refine a_I rfl<|q0c<|tn<|q0b<|q0b<|q0a<|m_S rfl<|Ls (q0f rfl)<|a_I rfl<|q0c<|tn<|q0h<|q0b<|q0a<|m_I rfl<|Ls (q2i rfl rfl (by omega))<|a_B rfl<|q0c<|tn<|q0x rfl<|q0b<|q0a<|m_I rfl<|Ls (q3a rfl rfl (by omega))<|a_B rfl<|q0c<|tn<|q0x rfl<|q0q<|bn<|tn<|q0b<|q0a<|m_S rfl ?_);refine L_fo rfl (ghashes N _ M hM hM8 w1 (hw.ext E1) (hr.ext E1)) ?_;rintro q w2 ⟨E2,o2⟩;have ro:=Row.of_own o2;refine L_fv rfl (gfold (M.map lf).length _ _ q (M.map lf) (Nat.le_refl _) (by simpa using h1) (by simpa using hM) (q3w M) w2 (hw.ext (E1.trans E2)) (ro.re (by simp) rfl)) ?_;intro w3 E3;refine q0j (size:=32) (l:=ints .u8 (Mk.root lf nd M)) rfl rfl (by rw [q0o];exact hroot) q1c (B1.ext (E2.trans E3)) rfl ?_;intro w8 B8 hg8 _;(refine a_I rfl<|q0c<|tn<|q0r ?_);refine q0y rfl rfl (Res.cellA inferInstance rfl (B8.range (fun j u h=>by simpa using h)) (by rw [q0o];exact hroot) (Res.tmp rfl .nil)) ?_;exact ⟨rfl,(E1.trans (E2.trans E3)).then hg8 (fun g h=>by cases h;omega)⟩
end Go.Proofs.YtpohjepbmgeplaaGreatDoor
namespace Go.Proofs.K
open Go.RowKit
variable {P:Program} {n:NN} {Q:Exit→Fr→World→Prop} {f:Fr} {w:World} {ops:Array Oper} {rest:List Oper}
structure KeepTy (B g:Nat) (T:TypeId) (a b:World):Prop where
  size:a.heap.size≤b.heap.size
  same:∀ k c t fz,k ≠ g→(k < B∨t ≠ T)→a.heap[k]?=some (.cells c t fz)→b.heap[k]?=some (.cells c t fz)
section
variable {B g:Nat} {T:TypeId} {a b c:World}
theorem KeepTy.trans (h:KeepTy B g T a b) (k:KeepTy B g T b c):KeepTy B g T a c:=⟨Nat.le_trans h.size k.size,fun i cs t fz hi ht e=>k.same i cs t fz hi ht (h.same i cs t fz hi ht e)⟩
theorem KeepTy.of_ext (E:Ext a b):KeepTy B g T a b:=⟨E.size,fun _ _ _ _ _ _ e=>E.heap e⟩
theorem KeepTy.put {l:Nat} {o:Obj} (o':Obj) (h:a.heap[l]?=some o) (hc:o.isCells=false):KeepTy B g T a (a.putObj l o') :=
  ⟨by simp [World.putObj],fun k cs t fz _ _ e=>by
    have hne:k ≠ l:=by rintro rfl;rw [h] at e;cases e;cases hc
    rw [show (a.putObj l o').heap[k]?=a.heap[k]? from by simp [World.putObj,Array.getElem?_setIfInBounds,Ne.symm hne]];exact e⟩
theorem KeepTy.of_grown {row:Option Nat} (G:a.grownBy b row) (h:∀ q,row=some q→q=g∨(B≤q∧∃ cs fz,a.heap[q]?=some (.cells cs T fz))):KeepTy B g T a b :=
  ⟨G.size,fun k cs t fz hk ht e=>by
    refine (G.block k (q3c e) fun hr=>?_).trans e
    rcases h k hr.symm with rfl | ⟨hB,cs',fz',e'⟩
    · exact hk rfl
    · rw [e] at e'
      cases e'
      rcases ht with ht | ht
      · omega
      · exact ht rfl⟩
theorem KeepTy.blk {k:Nat} {t:TypeId} {cs:List Value} (h:KeepTy B g T a b) (hB:Blk a k t cs) (hk:k ≠ g) (ht:k < B∨t ≠ T):Blk b k t cs:=h.same k _ t _ hk ht hB
theorem KeepTy.cell {p:Addr} {v:Value} (h:KeepTy B g T a b) (hp:p.block ≠ g) (hB:p.block < B) (hv:a.cell? p=some v):b.cell? p=some v:=by
  obtain ⟨c,t,fz,e⟩:=q3u hv;have e':=h.same p.block c t fz hp (.inl hB) e;have:b.cell? p=a.cell? p:=by
    unfold World.cell?;rw [e,e']
  rw [this];exact hv
theorem KeepTy.row {lo hi size m:Nat} {v:Value} {xs:List Value} (h:KeepTy B g T a b) (hr:Row a lo hi size v m xs) (hg:¬ (lo≤g∧g < hi)) (hB:hi≤B):Row b lo hi size v m xs:=by
  obtain ⟨hl,A,c,rfl,hc,hm,hn⟩:=hr;refine ⟨hl,A,c,rfl,hc,hm,fun h0=>?_⟩;obtain ⟨b0,o,rfl,h1,h2,h3⟩:=hn h0;exact ⟨b0,o,rfl,h1,h2,fun j u hu=>h.cell (by dsimp only;intro e;exact hg ⟨by omega,by omega⟩) (by dsimp only;omega) (h3 j u hu)⟩
theorem q1g {base e size m:Nat} {v:Value} {xs:List Value} (h:a.ownsRow base e size v m xs):∀ q,v.ownBlock=some q→base≤q∧∃ cs fz,a.heap[q]?=some (.cells cs e fz):=by
  intro q hq;rcases h.2 with ⟨rfl,_⟩ | ⟨g',cap,cur,rfl,hb,hg,_⟩
  · cases hq
  · obtain rfl:g'=q:=Option.some.inj hq;exact ⟨hb,_,_,hg⟩
theorem KeepsFrom.of_ext {B:Nat} (E:Ext a b):KeepsFrom B a b:=⟨E.size,fun _ _ _ hk _=>E.heap hk⟩
end
section
variable {d:Option Tmp} {t ty e:TypeId} {pos:String} {af:Array Edge} {x:Operand} {g:Option (Nat × Bool)} {w0:World}
theorem X_litA {z l:List Value} [TSlice P ty e] [TZero P e z] (hx:ev n f x=.agg l.toArray) (hl:l.length=z.length) (hz:Nat.ble (1 * z.length) 65536=true) (h0:w0.heap.size≤w.heap.size) :
    ∃ v w',X P n ⟨d,.buildSlice ty 1 #[(0,x)],t,pos,af,g⟩ f w=.ok (.value v) w'∧Ext w w'∧RowF w0 z.length v 1 l w' :=
  ⟨_,_,z2l (r:=[(0,x)]) (zs':=[l]) (cs:=l) (Parts.cons (c:=l) (z:=z) hx rfl rfl hl (Parts.nil _)) hz (by simp),q1u _ _,_,_,h0,Row.lit w e z.length 1 l (by omega) (by unfold maxLen;omega)⟩
end
section
variable {d:Option Tmp} {t ty e:TypeId} {pos:String} {af:Array Edge} {x y:Operand} {g:Option (Nat × Bool)} {w0:World}
theorem X_makeD {z:List Value} {size bytes:Nat} [ht:TSlice P ty e] [hz:TZero P e z] [he:TElem P e size bytes] {kl kc:IntKind} {l c:Int} (m q:Nat) (hx:ev n f x=.int kl l) (hy:ev n f y=.int kc c) (hl:l=(m:Int)) (hc:c=(q:Int)) (hmq:m≤q) (hb:bytes * q≤281474976710656) (hq:q≤1000000000000) (h0:w0.heap.size≤w.heap.size) :
    ∃ v w',X P n ⟨d,.makeSlice ty x y,t,pos,af,g⟩ f w=.ok (.value v) w'∧Ext w w'∧∃ k,v=.slice (some ⟨k,0,none⟩) m q∧w0.heap.size≤k∧Blk w' k e (List.replicate q z).flatten:=by
  subst hl;subst hc;obtain ⟨v,hv,hcs⟩:=hz.h;have hsz:=hz.s;obtain ⟨z',hi',_,_⟩:=he.h;cases hi:P.info? e with
  | none=>simp [hi] at hsz
  | some i =>
    have hzero:i.zero=some v:=(by simpa [hi] using hv);have hsize:i.size=z.length:=(by simpa [hi] using hsz);have hbytes:i.bytes=bytes:=(by simp [hi] at hi';exact hi'.2.2);have hbi:(i.bytes:Int) * (q:Int)≤281474976710656:=by
      rw [hbytes,← Int.natCast_mul];omega
    have hr:=run_make (P:=P) w ty e i v ht.h hi hzero kl kc (m:Int) (q:Int) (by omega) (by omega) hbi (by omega);simp only [Int.toNat_natCast] at hr;have hm:madeCells v.cells (q * i.size)=(List.replicate q z).flatten.toArray:=by
      unfold madeCells;rw [hcs,hsize];exact q7s z q
    rw [hm] at hr;refine ⟨.slice (some ⟨w.heap.size,0,none⟩) m q,w.alloc (.cells (List.replicate q z).flatten.toArray e),?_,q1u _ _,_,rfl,h0,Blk.new w e _⟩;simp only [X,execOp,hx,hy,Sem.run_bind,hr,Result.andThen_ok,Sem.run_pure]
end
theorem Mut.old {S:Nat→Prop} {a b:World} (h:Mut (fun k=>S k∨a.heap.size≤k) a b):Mut S a b :=
  ⟨h.os,h.tape,h.output,h.size,fun k o hk ho=>h.same k o hk (ho.imp id fun hS hk'=>hk'.elim hS fun hge=>by have:=q3c hk;omega)⟩
theorem Mut.new {S:Nat→Prop} {a b c:World} {g:Nat} {T:TypeId} {cs:List Value} (h:Mut S a b) (hB:Blk b g T cs) (hg:b.grownBy c (some g)) (hn:a.heap.size≤g):Mut S a c :=
  Mut.old ((h.mono fun _ h=>.inl h).trans (Mut.store hB hg (.inr hn)))
def RMt (k0:Nat) (S:Nat→Prop):Nat→World→World→Prop:=fun i a b=>Ext a b∨(i=k0∧Mut S a b)
instance {k0:Nat} {S:Nat→Prop}:ExtR (RMt k0 S):=⟨fun _ _ _ h=>.inl h⟩
theorem RMt.mut {k0 i:Nat} {S:Nat→Prop} {a b:World} (h:RMt k0 S i a b):Mut S a b:=h.elim (fun e=>Mut.of_ext e) (fun h=>h.2)
theorem RMt.other {k0 i:Nat} {S:Nat→Prop} {a b:World} (h:RMt k0 S i a b) (hi:i ≠ k0):Ext a b:=h.elim id fun h=>absurd h.1 hi
structure AMt (ops:Array Oper) (k0:Nat) (S:Nat→Prop) (Pre:World→Prop) (w0:World) (k:Nat) (w:World):Prop where
  g:Mut S w0 w
  pre:k=k0∨td ops k0 k=true→Pre w
theorem W_dagM {id:Nat} [TMixed P] {l:List Oper} (k0:Nat) (S:Nat→Prop) (Pre:World→Prop) (m:Nat) (hok:z4l l.toArray m=true) (h0:Pre w.drew) (hPre:∀ a b,Ext a b→Pre a→Pre b)
    {E:List Ent} {T:List Oper} {G:Rho→Fr} {HF:Rho→Nat→World→Prop}
    (hw:DW (RMt k0 S) P n l.toArray (AMt l.toArray k0 S Pre w) (fun t g' H'=>t=T∧g'=G∧H'=HF) l 0 E (fun _=>f) (fun _ _ _=>True)) (hm:E.length=m) (hins:q6d l.toArray E E 0)
    (hfin:∀ r w',Mut S w w'→(∀ j,HF r j w')→L P n l.toArray Q T (G r) w'):W P n (.region id l.toArray true) Q f w:=by
  refine W_dagL m (fun L w'=>Mut S w w'∧(L k0=false→Pre w')) (AMt l.toArray k0 S Pre w) (fun w'=>Mut S w w') hm hok hins (fun _ w=>.inl (Ext.refl w)) ?_ ?_ ?_ ?_ (hw.imp fun t g' H' ⟨e1,e2,e3⟩=>by subst e1;subst e2;subst e3;exact hfin)
  · exact fun L hL=>⟨Mut.of_ext (Ext.drew w),fun _=>h0⟩
  · rintro L k w' hk hLk hin hout ⟨hg,h2⟩;refine ⟨hg,fun h=>?_⟩;rcases h with rfl | h
    · exact h2 hLk
    · exact h2 (hout _ h)
  · rintro L k w' w'' hk hLk hin hout hr ⟨hg,h2⟩;refine ⟨hg.trans hr.mut,fun h=>?_⟩;unfold Done1 at h;by_cases hkk:k0=k
    · rw [if_pos hkk] at h;cases h
    · rw [if_neg hkk] at h;exact hPre _ _ (hr.other fun e=>hkk e.symm) (h2 h)
  · rintro L w' hall ⟨hg,_⟩;exact hg
section
variable {R:Nat→World→World→Prop} {A:Nat→World→Prop} {Fin:List Oper→(Rho→Fr)→(Rho→Nat→World→Prop)→Prop} {k:Nat} {E:List Ent} {g:Rho→Fr} {H:Rho→Nat→World→Prop} {d:Tmp} {t:TypeId} {pos:String} {af:Array Edge}
theorem DW_frc {F:Value→World→Prop} {id:FuncId} [TFun P id] {x:Operand} {l:List Operand} {vl:Rho→List Value} {tys:Array TypeId} {first cap:Array Value} (hx:∀ r,ev n (g r) x=.func (.func id) first cap) (ha:∀ r,l.map (ev n (g r))=vl r)
    (hc:∀ r w,A k w→(∀ j,td ops k j=true→H r j w)→Calls P id (first++(vl r).toArray++cap) w fun e w'=>∃ v,e=.returned v∧R k w w'∧F v w') (hF:∀ i v w w',i ≠ k→td ops k i=false→R i w w'→F v w→F v w')
    (hr:DW R P n ops A Fin rest (k+1) E (fun r=>upd (g r) d (r k)) (fun r j w=>bif Nat.beq j k then F (r k) w else H r j w)):DW R P n ops A Fin (⟨some d,.call ⟨.value x,l.toArray,tys⟩,t,pos,af,none⟩ :: rest) k (.op (fun r w=>F (r k) w) :: E) g H :=
  .op (fun r w hA hH=>⟨q4c rfl,q6v (X_clo (hx r) (ha r)) (hc r w hA hH) fun e w' ⟨v,he,hE,hv⟩=>⟨v,he,hE,by rw [q5y];exact hv⟩⟩) (fun i r w w' h1 h2 hE h=>hF i _ _ _ h1 h2 hE h) hr
theorem DW_storeD {k0 q:Nat} {ty:TypeId} {x y:Operand} {w0:World} {Pre:World→Prop} {F:Rho→World→Prop}
    (hX:∀ r w,AG ops k0 q Pre w0 k0 w→(∀ j,td ops k0 j=true→H r j w)→∃ w',X P n ⟨none,.store ty x y,t,pos,af,none⟩ (g r) w=.ok .skip w'∧w.grownBy w' (some q)∧F r w')
    (hF:∀ r w w',Ext w w'→F r w→F r w') (hi:∀ r v,F (rset r k0 v)=F r)
    (hr:DW (RG k0 q) P n ops (AG ops k0 q Pre w0) Fin rest (k0+1) E g (fun r i w=>bif Nat.beq i k0 then F r w else H r i w)) :
    DW (RG k0 q) P n ops (AG ops k0 q Pre w0) Fin (⟨none,.store ty x y,t,pos,af,none⟩ :: rest) k0 (.op (fun r w=>F r w) :: E) g H:=by
  refine .op (fun r w hA hH=>⟨rfl,?_⟩) (fun i r w w' h1 h2 hR h=>hF r w w' (hR.other h1) h) hr;obtain ⟨w',h1,h2,h3⟩:=hX r w hA hH;exact q4w h1 ⟨.inr ⟨rfl,h2⟩,by rw [hi];exact h3⟩
end
end Go.Proofs.K
namespace Go.Proofs.YtpohjepbmgeplaaGreatDoor
open Go.RowKit Go.Proofs.K
open _root_.Mk (spl q2s q3m tree q8q q6g cls q5j q5i q4p)
set_option maxRecDepth 100000 in
set_option maxHeartbeats 1000000 in
theorem gcheck {n:Nat} (h1:1≤n) (hn:n≤65536) (lo hi:Nat) (v:Value) (I:List Nat) (hI:∀ i∈I,i < n) (hp:I.Pairwise (· < ·)) (hl:I.length≤65536) (w:World) (hr:Row w lo hi 1 v I.length (ints .i64 I)) :
    Calls Tryz.prog 121 #[.int .i64 (n:Nat),v] w fun e w'=>e=.returned (.int .i64 0)∧Ext w w':=by
  obtain ⟨A,c,rfl⟩:∃ A c,v=.slice A I.length c:=by
    obtain ⟨_,A,c,rfl,_⟩:=hr;exact ⟨A,c,rfl⟩
  refine q0k Tryz.func121 rfl Tryz.ntmps121 rfl ?_;(refine q0b<|q0a<|a_I rfl<|q0c<|tn<|q0b<|q0a<|a_I rfl<|q0c<|tn<|q0b<|q0b<|q0a<|m_S rfl<|Ls (q0f rfl)<|m_I rfl<|q0c<|tn<|q0h ?_);refine q1k (fun q f w'=>∃ (i:Nat) (z:Int),q=I.length - i∧i≤I.length∧f 0=.int .i64 (n:Nat)∧f 5=.int .i64 z∧f 8=.slice A I.length c∧f 9=.int .i64 (I.length:Nat)∧f 10=.int .i64 (i:Nat)∧(∀ x,I[i]?=some x→z < (x:Int))∧w'=w) I.length ?_ ?_
  · exact ⟨0,-1,rfl,by omega,rfl,rfl,rfl,rfl,rfl,fun x _=>by omega,rfl⟩
  · rintro q f wr ⟨i,z,hq,hi,f0,f5,f8,f9,f10,hz,rfl⟩;rw [fold f0,fold f5,fold f8,fold f9,fold f10];(refine q0b<|q0a<|Ls (q1w rfl rfl)<|q0c<|tn<|q0b ?_);refine q1b rfl (fun h=>?_) (fun h=>?_)
    · have hlt:i < I.length:=(by omega);obtain ⟨x,hx⟩:∃ x,I[i]?=some x:=⟨I[i],List.getElem?_eq_getElem hlt⟩;have hxn:=hI x (List.mem_of_getElem? hx);have hzx:=hz x hx;obtain ⟨b,o,c',hA,_,_,_,hR⟩:=hr.at hlt;cases hA
      have hg:I.getD i 0=x:=(by rw [List.getD_eq_getElem?_getD,hx];rfl);(refine q0q<|tn<|q0b<|q0h<|q0b<|q0a<|Ls (q0n rfl rfl (by omega))<|Ls ((z3h rfl hR hlt).trans (by rw [hg]))<|a_I rfl<|q0c<|tn<|q0b<|q0b<|q0a<|m_I rfl<|m_I rfl<|Ls (z3g rfl rfl (by omega))<|m_B rfl<|Lg2 rfl rfl rfl (q0d (v:=.int _ _) rfl)<|Lg2 rfl rfl rfl (q0d (v:=.int _ _) rfl)<|Lg2 rfl rfl rfl (q6w rfl rfl (by omega))<|Ls (q0s (v:=.bool _) rfl rfl)<|q0c<|tn<|q0x rfl<|q0q<|tn<|q0a<|m_I rfl<|a_I rfl<|q0c<|bn<|tn<|q0a<|Ls (q1e rfl rfl (by omega))<|m_I rfl<|q0c<|tn ?_);refine ⟨I.length - (i+1),by omega,i+1,(x:Int),rfl,by omega,rfl,rfl,rfl,rfl,rfl,fun y hy=>?_,rfl⟩;have:=List.pairwise_iff_getElem.1 hp i (i+1) hlt (List.getElem?_eq_some_iff.1 hy).1 (by omega);rw [List.getElem?_eq_getElem hlt] at hx;obtain ⟨h2,h3⟩:=List.getElem?_eq_some_iff.1 hy;rw [h3,Option.some.inj hx] at this;omega
    · (refine q1j<|te<|te<|bx<|tn<|q0b<|q0h<|q0b<|q0a<|m_I rfl<|Ls (q2i rfl rfl (by omega))<|a_B rfl<|q0c<|tn<|q0x rfl<|q0b<|q0a<|m_I rfl<|Ls (q3a rfl rfl (by omega))<|a_B rfl<|q0c<|tn<|q0x rfl<|q0q<|bn<|tn<|q0b<|q0a<|a_I rfl<|q0c<|tn<|q0r ?_);refine q0e rfl rfl (v:=.int _ _) rfl ⟨rfl,Ext.refl _⟩
theorem q7b (k:Nat):∀ I:List Nat,I.Pairwise (· < ·)→I=(I.filter fun i=>Nat.blt i k)++(I.filter fun i=>Nat.ble k i)
  | [],_=>rfl
  | i :: r,hp=>by
    obtain ⟨ha,hb⟩:=List.pairwise_cons.1 hp;by_cases hik:i < k
    · have e1:Nat.blt i k=true:=(by rw [Nat.blt_eq];exact hik);have e2:Nat.ble k i=false:=by
        cases hc:Nat.ble k i
        · rfl
        · have:=Nat.le_of_ble_eq_true hc;omega
      rw [List.filter_cons_of_pos (by simpa using e1),List.filter_cons_of_neg (by simp [e2]),List.cons_append,← q7b k r hb]
    · have hall:∀ j∈i :: r,k≤j:=fun j hj=>by
        rcases List.mem_cons.1 hj with rfl | hj
        · omega
        · have:=ha j hj;omega
      have f1:(i :: r).filter (fun i=>Nat.blt i k)=[]:=List.filter_eq_nil_iff.2 fun j hj=>by
        have:=hall j hj;rw [Nat.blt_eq];omega
      have f2:(i :: r).filter (fun i=>Nat.ble k i)=i :: r:=List.filter_eq_self.2 fun j hj=>Nat.ble_eq_true_of_le (hall j hj);rw [f1,f2];rfl
def bel (I:List Nat) (k:Nat):Nat:=(I.filter fun i=>Nat.blt i k).length
theorem bel_le (I:List Nat) (k:Nat):bel I k≤I.length:=List.length_filter_le _ _
theorem bel_take {I:List Nat} (hp:I.Pairwise (· < ·)) (k:Nat):I.take (bel I k)=I.filter (fun i=>Nat.blt i k)∧I.drop (bel I k)=I.filter fun i=>Nat.ble k i:=by
  have h:=q7b k I hp;unfold bel;exact ⟨(congrArg (List.take _) h).trans (List.take_left' rfl),(congrArg (List.drop _) h).trans (List.drop_left' rfl)⟩
theorem ints_int (k:IntKind) (I:List Nat) (j:Nat):(ints k I)[j]?=((I.map Int.ofNat)[j]?).map (Value.int k):=by
  unfold ints;rw [List.getElem?_map,List.getElem?_map,Option.map_map];rfl
theorem gbs (lo hi:Nat) (v:Value) (I:List Nat) (hp:I.Pairwise (· < ·)) (hl:I.length≤65536) (x:Nat) (w:World) (hr:Row w lo hi 1 v I.length (ints .i64 I)) :
    Calls Tryz.prog 63 #[v,.int .i64 (x:Nat)] w fun e w'=>e=.returned (.tuple #[.int .i64 ((bel I x:Nat):Int),.bool (decide (x∈I))])∧Ext w w':=by
  rcases Nat.eq_zero_or_pos I.length with h0 | h0
  · have e:I=[]:=List.eq_nil_of_length_eq_zero h0;subst e;obtain ⟨_,A,c,rfl,_⟩:=hr;refine (Tryz.slices_BinarySearch_int_empty A c (x:Nat) w).mono fun _ _ ⟨h1,h2⟩=>⟨by rw [h1];rfl,by rw [h2];exact Ext.refl _⟩
  · obtain ⟨b,o,c,rfl,_,_,_,hR⟩:=hr.at h0;have hlen:(I.map Int.ofNat).length=I.length:=(by simp);have h:=Tryz.slices_BinarySearch_int b o I.length c (I.map Int.ofNat) (x:Nat) w (by omega) (by omega) (fun j hj=>by
      have:=hR j (.int .i64 ((I.map Int.ofNat).getD j 0)) (by rw [ints_int,List.getD_eq_getElem?_getD,List.getElem?_eq_getElem hj];rfl)
      exact this) (by
      rw [List.take_of_length_le (by omega),List.pairwise_map]
      exact hp.imp fun h=>by simp only [Int.ofNat_eq_natCast];omega)
    refine h.mono fun e w' ⟨h1,q,h2⟩=>⟨?_,by rw [h2];exact ⟨rfl,rfl,rfl,Nat.le_refl _,fun _ _ _=>rfl⟩⟩;rw [h1,List.take_of_length_le (by omega),List.countP_map];have e1:(List.countP ((fun y:Int=>decide (y < (x:Int))) ∘ Int.ofNat) I)=bel I x:=by
      unfold bel;rw [List.countP_eq_length_filter];congr 1;refine List.filter_congr fun i _=>?_;rw [Bool.eq_iff_iff];simp [Nat.blt_eq]
    have e2:(I.map Int.ofNat).contains (x:Int)=decide (x∈I):=by
      rw [Bool.eq_iff_iff];simp only [List.contains_iff_mem,List.mem_map,decide_eq_true_eq];exact ⟨fun ⟨a,h,e⟩=>by have:a=x:=Int.ofNat.inj e;rwa [← this],fun h=>⟨x,h,rfl⟩⟩
    rw [e1,e2]
def sub (lo hi:Nat) (v:Value):List Value:=[.int .i64 (lo:Nat),.int .i64 (hi:Nat),v]
theorem q6i {lo hi:Nat} {v:Value} (h:v.oneCell'=true):∀ x∈sub lo hi v,x.oneCell'=true:=by
  intro x hx;rcases List.mem_cons.1 hx with rfl | hx
  · rfl
  · rcases List.mem_cons.1 hx with rfl | hx
    · rfl
    · rcases List.mem_cons.1 hx with rfl | hx
      · exact h
      · cases hx
theorem one_cells {v:Value} (h:v.oneCell'=true):v.cells=[v].toArray:=by cases v <;> first | rfl | cases h
section
variable {n:NN} {f:Fr} {w:World} {d:Option Tmp} {t:TypeId} {pos:String} {af:Array Edge} {g:Option (Nat × Bool)} {x y z:Operand}
theorem z4q {a b:Nat} {v:Value} (hv:v.oneCell'=true) (hx:ev n f x=.int .i64 (a:Nat)) (hy:ev n f y=.int .i64 (b:Nat)) (hz:ev n f z=v) :
    X Tryz.prog n ⟨d,.build 163 #[(0,x),(1,y),(2,z)],t,pos,af,g⟩ f w=.ok (.value (.agg (sub a b v).toArray)) w:=by
  have:=q3d (P:=Tryz.prog) (ty:=163) (n:=n) (f:=f) (w:=w) (d:=d) (t:=t) (pos:=pos) (af:=af) (g:=g) (Parts.cons (i:=0) (c:=[.int .i64 (a:Nat)]) (z:=[.int .i64 0]) hx rfl rfl rfl (Parts.cons (i:=1) (c:=[.int .i64 (b:Nat)]) (z:=[.int .i64 0]) hy rfl rfl rfl (Parts.cons (i:=2) (c:=[v]) (z:=[.slice none 0 0]) hz (one_cells hv) rfl rfl (Parts.nil _))));exact this
end
theorem q0g {w:World} {lo hi size m:Nat} {v:Value} {xs:List Value} (h:Row w lo hi size v m xs):v.oneCell'=true:=by obtain ⟨_,_,_,rfl,_⟩:=h;rfl
theorem row_cut {w:World} {lo hi m c:Nat} {A:Option Addr} {I:List Nat} (h:Row w lo hi 1 (.slice A m c) m (ints .i64 I)) (hl:I.length=m) {i j:Nat} (hij:i≤j) (hj:j≤m) :
    Row w lo hi 1 (.slice (if c=i then A else A.map (·.add (i * 1))) (j - i) (c - i)) (j - i) (ints .i64 ((I.drop i).take (j - i))):=by
  have:=h.slice rfl hij hj;simp only [Nat.mul_one] at this ⊢;rw [z1x,z1w] at this;exact this
set_option maxRecDepth 100000 in
set_option maxHeartbeats 2000000 in
theorem gparts {lo hi:Nat} (h2:2≤hi - lo) (hh:hi≤65536) (bl bh:Nat) (v:Value) (I:List Nat) (hp:I.Pairwise (· < ·)) (hl:I.length≤65536) (w:World) (hr:Row w bl bh 1 v I.length (ints .i64 I)) :
    Calls Tryz.prog 135 #[.agg (sub lo hi v).toArray] w fun e w'=>∃ x y,e=.returned (.tuple #[.agg (sub lo (lo+spl (hi - lo)) x).toArray,.agg (sub (lo+spl (hi - lo)) hi y).toArray])∧Ext w w' ∧
      Row w' bl bh 1 x (I.filter fun i=>Nat.blt i (lo+spl (hi - lo))).length (ints .i64 (I.filter fun i=>Nat.blt i (lo+spl (hi - lo))))∧Row w' bl bh 1 y (I.filter fun i=>Nat.ble (lo+spl (hi - lo)) i).length (ints .i64 (I.filter fun i=>Nat.ble (lo+spl (hi - lo)) i)):=by
  have hs1:=q3m h2;have hs0:=q2s (hi - lo);obtain ⟨k,hk⟩:∃ k,k=lo+spl (hi - lo):=⟨_,rfl⟩;rw [← hk];obtain ⟨A,c,rfl,hmc⟩:∃ A c,v=.slice A I.length c∧I.length≤c:=by
    obtain ⟨_,A,c,rfl,h,_⟩:=hr;exact ⟨A,c,rfl,h⟩
  have hb:=bel_le I k;obtain ⟨ht,hd⟩:=bel_take hp k;refine q0k Tryz.func135 rfl Tryz.ntmps135 rfl ?_;(refine q0b<|q0a ?_);refine q1t rfl ?_;intro g1 w1 B1 hg1 E1 hs1';refine q0w ?_;intro g2 w2 B2 hg2 E2 hs2';refine q0w ?_;intro g3 w3 B3 hg3 E3 hs3';have C1:=B1.ext (E2.trans E3);have C2:=B2.ext E3;(refine q0c<|tn<|q0b ?_);apply q1h 8 (by kernel_rfl);(apply DW_x (fun r w hA hH=>(q0i rfl).trans rfl);apply DW_x (fun r w hA hH=>(X_ld rfl (C1.ext hA) rfl).trans rfl);apply DW_x (fun r w hA hH=>(q0i rfl).trans rfl);apply DW_x (fun r w hA hH=>(X_ld rfl (C1.ext hA) rfl).trans rfl);apply DW_x (fun r w hA hH=>(q0i rfl).trans rfl);apply DW_x (fun r w hA hH=>(X_ld rfl (C1.ext hA) rfl).trans rfl);apply DW_x (fun r w hA hH=>(X_subn rfl rfl ⟨by omega,by omega⟩).trans rfl));((with_reducible apply q1x);(exact fun _=>rfl);(exact fun _=>rfl);(exact fun r w hA hH=>gsplit h2 (by omega) w));((with_reducible exact q1p);(exact rfl);(repeat (first | exact .inr (.inr (fun _ _=>by with_reducible rfl)) | (refine And.intro ?_ ?_) | exact .inr (.inl rfl) | exact .inl (by decide +kernel) | exact trivial | exact .inr (.inr (fun _ _=>rfl))));(try dsimp only [Nat.reduceAdd]));intro r w4 E4 _;have C1:=C1.ext E4;(refine Ls (X_addn rfl rfl (by omega))<|a_I rfl<|q0c<|tn<|q0b<|q0a<|Ls (q0i rfl)<|Ls (X_ld rfl C1 rfl)<|m_I rfl ?_);rw [← hk];skip;have Ea:=E1.trans (E2.trans (E3.trans E4));refine L_fv rfl (gbs bl bh _ I hp hl k w4 (hr.ext Ea)) ?_;intro w5 E5;(refine m_T rfl<|Ls (q0t rfl rfl)<|Ls (q0t rfl rfl)<|a_I rfl<|a_B rfl<|q0c<|tn<|q0b ?_);have C1:=C1.ext E5;have C2:=C2.ext (E4.trans E5);have C3:=B3.ext (E4.trans E5);obtain ⟨x,hx⟩:∃ x:Value,x=.slice (if c=0 then A else A.map (·.add (0 * 1))) (bel I k - 0) (c - 0):=⟨_,rfl⟩;obtain ⟨y,hy⟩:∃ y:Value,y=.slice (if c=bel I k then A else A.map (·.add (bel I k * 1))) (I.length - bel I k) (c - bel I k):=⟨_,rfl⟩;have hx1:x.oneCell'=true:=by rw [hx];rfl
  have hy1:y.oneCell'=true:=by rw [hy];rfl
  apply z3i (R:=RB g2 163 _ _) (AB g2 163 _ (sub lo k x) w5) 17 (by kernel_rfl) (RB.refl _ _ _ _) (AB.new C2) AB.step;(apply DW_x (fun r w hA hH=>(q0i rfl).trans rfl);apply DW_x (fun r w hA hH=>(X_ld rfl (C1.grown hA.1 (by simp;omega)) rfl).trans rfl);apply DW_x (fun r w hA hH=>(q0d (v:=.int _ _) rfl).trans rfl);apply DW_x (fun r w hA hH=>(q0i rfl).trans rfl);apply DW_x (fun r w hA hH=>(X_ld rfl (C1.grown hA.1 (by simp;omega)) rfl).trans rfl);apply DW_x (fun r w hA hH=>(q0d (v:=.int _ _) rfl).trans rfl));((with_reducible apply DW_x);(exact fun r w hA hH=>((q5l (size:=1) (i:=0) (j:=bel I k) rfl (by exact rfl) (by exact ⟨_,rfl⟩) (by omega) (by omega)).trans (by rw [← hx])).trans rfl));((with_reducible apply DW_x);(exact fun r w hA hH=>(z4q hx1 rfl rfl rfl).trans rfl));(apply DW_x (fun r w hA hH=>(q0d (v:=.int _ _) rfl).trans rfl);apply DW_x (fun r w hA hH=>(q0i rfl).trans rfl);apply DW_x (fun r w hA hH=>(X_ld rfl (C1.grown hA.1 (by simp;omega)) rfl).trans rfl);apply DW_x (fun r w hA hH=>(q0i rfl).trans rfl);apply DW_x (fun r w hA hH=>(X_ld rfl (C1.grown hA.1 (by simp;omega)) rfl).trans rfl);apply DW_x (fun r w hA hH=>(q0d (v:=.int _ _) rfl).trans rfl));((with_reducible apply DW_x);(exact fun r w hA hH=>((q5l (size:=1) (i:=bel I k) (j:=I.length) rfl (by exact ⟨_,rfl⟩) (by exact rfl) hb hmc).trans (by rw [← hy])).trans rfl));((with_reducible apply DW_x);(exact fun r w hA hH=>(z4q hy1 rfl rfl rfl).trans rfl));apply DW_store (o:=[[Value.int .i64 0],[Value.int .i64 0],[Value.slice none 0 0]].flatten) (l:=sub lo k x) (fun _=>rfl) (fun _=>rfl) rfl rfl (q6i hx1);((with_reducible exact q1p);(exact rfl);(repeat (first | exact .inr (.inr (fun _ _=>by with_reducible rfl)) | (refine And.intro ?_ ?_) | exact .inr (.inl rfl) | exact .inl (by decide +kernel) | exact trivial | exact .inr (.inr (fun _ _=>rfl))));(try dsimp only [Nat.reduceAdd]));intro r w6 A6 H6;have C2':Blk w6 g2 163 (sub lo k x):=H6 16;refine q0j (l:=sub k hi y) rfl rfl rfl (q6i hy1) (C3.grown A6.1 (by simp;omega)) rfl ?_;intro w7 D3 hg7 hs7;have D2:=C2'.grown hg7 (by simp;omega);(refine q0c<|tn<|q0r ?_);have hz5:w.heap.size≤w5.heap.size:=(Ea.trans E5).size;have E7:Ext w w7:=((Ea.trans E5).then A6.1 (fun g h=>by cases h;omega)).then hg7 (fun g h=>by cases h;omega);refine q0y rfl rfl (Res.cellA inferInstance rfl (D2.range (fun j u h=>by simpa using h)) rfl (Res.cellA inferInstance rfl (D3.range (fun j u h=>by simpa using h)) rfl .nil)) ?_;have rx:=row_cut (hr.ext E7) rfl (i:=0) (j:=bel I k) (by omega) hb;have ry:=row_cut (hr.ext E7) rfl (i:=bel I k) (j:=I.length) hb (Nat.le_refl _);rw [← hx,List.drop_zero,Nat.sub_zero,ht] at rx;rw [← hy,List.take_of_length_le (by rw [List.length_drop];exact Nat.le_refl _),hd] at ry;refine ⟨x,y,rfl,E7,rx,?_⟩;rw [← hd,List.length_drop,hd];exact ry
def PreCl (all:List (Nat × Nat)) (i:Nat) (vs:List Value) (_:World):Prop:=∃ p q,all[i]?=some p∧q.oneCell'=true∧vs=[.agg (sub p.1 p.2 q).toArray]
theorem filt_in {I:List Nat} {lo k hi:Nat} (h:∀ i∈I,lo≤i∧i < hi):(∀ i∈I.filter (fun i=>Nat.blt i k),lo≤i∧i < k)∧(∀ i∈I.filter (fun i=>Nat.ble k i),k≤i∧i < hi):=by
  constructor
  · intro i hi';obtain ⟨q1,q2⟩:=List.mem_filter.1 hi';rw [Nat.blt_eq] at q2;exact ⟨(h i q1).1,q2⟩
  · intro i hi';obtain ⟨q1,q2⟩:=List.mem_filter.1 hi';exact ⟨Nat.le_of_ble_eq_true q2,(h i q1).2⟩
theorem q4z {I:List Nat} {lo hi:Nat} (hp:I.Pairwise (· < ·)) (h:∀ i∈I,lo≤i∧i < hi):I.length≤hi - lo:=by
  induction I generalizing lo with
  | nil=>simp
  | cons i r ih =>
    obtain ⟨ha,hb⟩:=List.pairwise_cons.1 hp;have h1:=h i (by simp);have:=ih (lo:=i+1) hb fun j hj=>⟨ha j hj,(h j (by simp [hj])).2⟩;rw [List.length_cons];omega
set_option maxRecDepth 100000 in
set_option maxHeartbeats 4000000 in
theorem gwalk (g B lp:Nat) (all:List (Nat × Nat)) (J:Nat→World→Prop) (Jx:World→Prop) (hJ:∀ i a b,J i a→Ext a b→J i b) (hJx:∀ a b,Jx a→Ext a b→Jx b)
    (hY:∀ i v a,J i a→PreCl all i v a→YieldAt Fence.wide 8 Tryz.prog lp v.toArray a fun e b=>(e=.returned (.bool true)∧J (i+1) b∧KeepTy B g 43 a b)∨(e=.returned (.bool false)∧Jx b)) :
    ∀ (fu lo hi bl bh cnt:Nat) (v:Value) (I:List Nat) (_:hi - lo < fu) (_:lo < hi) (_:hi≤65536) (_:I.Pairwise (· < ·)) (_:∀ i∈I,lo≤i∧i < hi) (_:bh≤B) (_:¬ (bl≤g∧g < bh))
      (_:∀ i p,(cls lo hi I)[i]?=some p→all[cnt+i]?=some p) (w:World) (_:g < w.heap.size) (_:Row w bl bh 1 v I.length (ints .i64 I)) (_:J cnt w),
    Calls Tryz.prog 170 #[.agg (sub lo hi v).toArray,q3o lp] w fun e b=>(e=.returned (.bool true)∧J (cnt+(cls lo hi I).length) b∧KeepTy B g 43 w b)∨(e=.returned (.bool false)∧Jx b)
  | 0,_,_,_,_,_,_,_,h,_,_,_,_,_,_,_,_,_,_,_=>by omega
  | fu+1,lo,hi,bl,bh,cnt,v,I,hf,hlo,hh,hp,hin,hbB,hgb,hall,w,hgw,hr,hj=>by
    have hv1:=q0g hr;have hIl:I.length≤65536:=by
      have:I.length≤hi - lo:=q4z hp hin;omega
    refine q0k Tryz.func170 rfl Tryz.ntmps170 rfl ?_;(refine q0b<|q0a ?_);refine q1t rfl ?_;intro g2 w2 B2 hg2 E2 hs2;by_cases h0:I=[]
    · subst h0;(refine a_B rfl<|q0c<|tn<|q0b<|q0h<|q0b<|q0a<|Ls (q0i rfl)<|Ls (X_ld rfl B2 rfl)<|Ls (q3q (v:=v) rfl hr)<|Ls (z2m rfl rfl)<|a_B rfl<|q0c<|tn<|q0z rfl<|q0b<|q0a<|Ls (q0d (v:=.func _ _ _) rfl) ?_);(refine Ls (q1a rfl B2 rfl) ?_);refine q7q rfl rfl rfl (hY cnt [.agg (sub lo hi v).toArray] w2 (hJ _ _ _ hj E2) ⟨(lo,hi),v,hall 0 _ rfl,hv1,rfl⟩) ?_;rintro e w4 (⟨rfl,hj2,hk2⟩ | ⟨rfl,hjx⟩)
      · refine ⟨.bool true,rfl,?_⟩;(refine a_B rfl<|q0c<|tn<|q0r<|br<|tr ?_);exact q0e rfl rfl (v:=.bool _) rfl (.inl ⟨rfl,hj2,(KeepTy.of_ext E2).trans hk2⟩)
      · refine ⟨.bool false,rfl,?_⟩;(refine a_B rfl<|q0c<|tn<|q0r<|br<|tr ?_);exact q0e rfl rfl (v:=.bool _) rfl (.inr ⟨rfl,hjx⟩)
    · have hI0:0 < I.length:=List.length_pos_iff.2 h0;by_cases h1:hi - lo≤1
      · have hcl:=q5i h1 h0;(refine a_B rfl<|q0c<|tn<|q0b<|q0h<|q0b<|q0a<|Ls (q0i rfl)<|Ls (X_ld rfl B2 rfl)<|Ls (q3q (v:=v) rfl hr)<|Ls (q2g rfl rfl (by omega))<|a_B rfl<|q0c<|tn<|q0x rfl<|q0b<|q0a<|Ls (q0i rfl)<|Ls (X_ld rfl B2 rfl)<|Ls (q0i rfl)<|Ls (X_ld rfl B2 rfl)<|Ls (q2d rfl rfl (by omega))<|Ls (q2b rfl rfl (by omega))<|a_B rfl<|q0c<|tn<|q0z rfl<|q0b<|q0a<|a_B rfl<|q0c<|tn<|q0r<|br<|tr ?_);refine q0e rfl rfl (v:=.bool _) rfl (.inl ⟨rfl,?_,KeepTy.of_ext E2⟩);rw [hcl];exact hJ _ _ _ hj E2
      · have h2:2≤hi - lo:=(by omega);have hs1:=q3m h2;have hs0:=q2s (hi - lo);have hcl:=q4p h2 h0;obtain ⟨k,hk⟩:∃ k,k=lo+spl (hi - lo):=⟨_,rfl⟩;have hgp:=gparts h2 hh bl bh v I hp hIl w2 (hr.ext E2);obtain ⟨fa,fb⟩:=filt_in (k:=k) hin;rw [← hk] at hcl hgp;obtain ⟨Ia,hIa⟩:∃ Ia,Ia=I.filter fun i=>Nat.blt i k:=⟨_,rfl⟩;obtain ⟨Ib,hIb⟩:∃ Ib,Ib=I.filter fun i=>Nat.ble k i:=⟨_,rfl⟩;have pa:Ia.Pairwise (· < ·):=(by rw [hIa];exact hp.filter _);have pb:Ib.Pairwise (· < ·):=(by rw [hIb];exact hp.filter _);rw [← hIa,← hIb] at hcl hgp;rw [← hIa] at fa;rw [← hIb] at fb;(refine a_B rfl<|q0c<|tn<|q0b<|q0h<|q0b<|q0a<|Ls (q0i rfl)<|Ls (X_ld rfl B2 rfl)<|Ls (q3q (v:=v) rfl hr)<|Ls (q2g rfl rfl (by omega))<|a_B rfl<|q0c<|tn<|q0x rfl<|q0b<|q0a<|Ls (q0i rfl)<|Ls (X_ld rfl B2 rfl)<|Ls (q0i rfl)<|Ls (X_ld rfl B2 rfl)<|Ls (q2d rfl rfl (by omega))<|Ls (q2g rfl rfl (by omega))<|a_B rfl<|q0c<|tn<|q0x rfl<|q0q<|bn<|tn<|q0b<|q0a<|Ls (q1a rfl B2 rfl) ?_);refine L_fo (F:=fun u w'=>∃ x y,u=.tuple #[.agg (sub lo k x).toArray,.agg (sub k hi y).toArray]∧Ext w2 w'∧Row w' bl bh 1 x Ia.length (ints .i64 Ia)∧Row w' bl bh 1 y Ib.length (ints .i64 Ib)) rfl (hgp.mono fun e w' ⟨x,y,h1,h2⟩=>⟨_,h1,x,y,rfl,h2⟩) ?_;rintro _ w3 ⟨x,y,rfl,E3,rx,ry⟩;have hx1:=q0g rx;have hy1:=q0g ry;(refine m_T rfl<|Ls (q0t rfl rfl)<|Ls (q0t rfl rfl) ?_);refine q0w ?_;intro g5 w4 B5 hg5 E4 hs5;refine q0w ?_;intro g6 w5 B6 hg6 E5 hs6;refine q0j (l:=sub lo k x) rfl rfl rfl (q6i hx1) (B5.ext E5) rfl ?_;intro w6 C5 hg6' hs6';refine q0j (l:=sub k hi y) rfl rfl rfl (q6i hy1) (B6.grown hg6' (by simp;omega)) rfl ?_;intro w7 C6 hg7 hs7;have C5:=C5.grown hg7 (by simp;omega);have hz3:=(E2.trans E3).size;have E7:Ext w w7:=((((E2.trans E3).trans E4).trans E5).then hg6' (fun g h=>by cases h;omega)).then hg7 (fun g h=>by cases h;omega);have E37:Ext w3 w7:=((E4.trans E5).then hg6' (fun g h=>by cases h;omega)).then hg7 (fun g h=>by cases h;omega);have hca:∀ i p,(cls lo k Ia)[i]?=some p→all[cnt+i]?=some p:=fun i p h=>hall i p (by rw [hcl,List.getElem?_append_left (List.getElem?_eq_some_iff.1 h).1];exact h);have hcb:∀ i p,(cls k hi Ib)[i]?=some p→all[cnt+(cls lo k Ia).length+i]?=some p:=fun i p h=>by
          rw [Nat.add_assoc];exact hall _ p (by rw [hcl,List.getElem?_append_right (by omega),Nat.add_sub_cancel_left];exact h)
        have hgw7:g < w7.heap.size:=Nat.lt_of_lt_of_le hgw E7.size;(refine q0c<|tn<|q0b<|q0a<|Ls (q1a rfl C5 rfl)<|Ls (q0d (v:=.func _ _ _) rfl) ?_);refine L_fn (gwalk g B lp all J Jx hJ hJx hY fu lo k bl bh cnt x Ia (by omega) (by omega) (by omega) pa fa hbB hgb hca w7 hgw7 (rx.ext E37) (hJ _ _ _ hj E7)) rfl ?_;rintro e w8 (⟨rfl,hj2,hk2⟩ | ⟨rfl,hjx⟩)
        · have D6:=hk2.blk C6 (by omega) (.inr (by decide));refine ⟨.bool true,rfl,?_⟩;(refine m_B rfl ?_);refine q1z rfl rfl rfl ?_;(refine Ls (q1a rfl D6 rfl)<|Lg2 rfl rfl rfl (q0d (v:=.func _ _ _) rfl) ?_);refine q1z rfl rfl rfl ?_;refine L_fn (gwalk g B lp all J Jx hJ hJx hY fu k hi bl bh (cnt+(cls lo k Ia).length) y Ib (by omega) (by omega) hh pb fb hbB hgb hcb w8 (Nat.lt_of_lt_of_le hgw7 hk2.size) (hk2.row (ry.ext E37) hgb hbB) hj2) rfl ?_;rintro e w9 (⟨rfl,hj3,hk3⟩ | ⟨rfl,hjx⟩)
          · refine ⟨.bool true,rfl,?_⟩;(refine Ls (q0v (v:=.bool _) rfl rfl)<|a_B rfl<|q0c<|tn<|q0r ?_);refine q0e rfl rfl (v:=.bool _) rfl (.inl ⟨rfl,?_,((KeepTy.of_ext E7).trans hk2).trans hk3⟩);rw [hcl,List.length_append,← Nat.add_assoc];exact hj3
          · refine ⟨.bool false,rfl,?_⟩;(refine Ls (q0v (v:=.bool _) rfl rfl)<|a_B rfl<|q0c<|tn<|q0r ?_);exact q0e rfl rfl (v:=.bool _) rfl (.inr ⟨rfl,hjx⟩)
        · refine ⟨.bool false,rfl,?_⟩;(refine m_B rfl<|Lo2 rfl rfl rfl rfl<|Lo2 rfl rfl rfl rfl<|Lo2 rfl rfl rfl rfl<|Ls (q0s (v:=.bool _) rfl rfl)<|a_B rfl<|q0c<|tn<|q0r ?_);exact q0e rfl rfl (v:=.bool _) rfl (.inr ⟨rfl,hjx⟩)
section
variable {P:Program} {n:NN} {f:Fr} {w:World} {d:Option Tmp} {t ty e:TypeId} {pos:String} {af:Array Edge} {g:Option (Nat × Bool)} {x y z:Operand}
theorem X_slice2p {size m c b o:Nat} [TSlice P ty e] [TSz P e size] {ky kz:IntKind} {iy iz:Int} (i j:Nat) (hx:ev n f x=.slice (some ⟨b,o,none⟩) m c) (hy:ev n f y=.int ky iy) (hz:ev n f z=.int kz iz) (hi:iy=(i:Int)) (hj:iz=(j:Int)) (hij:i≤j) (hjc:j≤c) (hic:i < c) :
    X P n ⟨d,.slice ty x (some y) (some z) none,t,pos,af,g⟩ f w=.ok (.value (.slice (some ⟨b,o+i * size,none⟩) (j - i) (c - i))) w:=by
  subst hi;subst hj;have h:=q5l (P:=P) (n:=n) (f:=f) (w:=w) (d:=d) (t:=t) (ty:=ty) (pos:=pos) (af:=af) (g:=g) (x:=x) (size:=size) (lo:=some y) (hi:=some z) (i:=i) (j:=j) hx ⟨_,hy⟩ ⟨_,hz⟩ hij hjc;rw [if_neg (show ¬ c=i by omega),Option.map_some,z1f] at h;exact h
end
set_option maxHeartbeats 1000000 in
theorem gclosed (g B bq hi bl bh:Nat) (v:Value) (I:List Nat) (hlo:0 < hi) (hh:hi≤65536) (hp:I.Pairwise (· < ·)) (hin:∀ i∈I,i < hi) (hbB:bh≤B) (hgb:¬ (bl≤g∧g < bh)) (w:World) (hg:g < w.heap.size) (hB:Blk w bq 163 (sub 0 hi v)) (hr:Row w bl bh 1 v I.length (ints .i64 I)) :
    IterL Tryz.prog 169 #[.pointer (some ⟨bq,0,none⟩)] w (PreCl (cls 0 hi I)) (KeepTy B g 43) Ext Ext (fun i _=>i=(cls 0 hi I).length):=by
  intro lp J Jx w1 E1 hJ hJx hY h0;refine q0k Tryz.func169 rfl Tryz.ntmps169 rfl ?_;have hB1:=hB.ext E1;(refine q0a<|Ls (q1a rfl hB1 rfl)<|Ls (q0d (v:=.func _ _ _) rfl) ?_);refine L_fn (gwalk g B lp (cls 0 hi I) J Jx hJ hJx hY (hi+1) 0 hi bl bh 0 v I (by omega) hlo hh hp (fun i h=>⟨Nat.zero_le _,hin i h⟩) hbB hgb (fun i p h=>by rw [Nat.zero_add];exact h) w1 (Nat.lt_of_lt_of_le hg E1.size) (hr.ext E1) h0) rfl ?_;rintro e w2 (⟨rfl,hj,_⟩ | ⟨rfl,hjx⟩)
  · refine ⟨.bool true,rfl,?_⟩;(refine q0c ?_);refine q4h rfl rfl ?_;rw [Nat.zero_add] at hj;exact ⟨⟨_,rfl⟩,.inl ⟨_,rfl,hj⟩⟩
  · refine ⟨.bool false,rfl,?_⟩;(refine q0c ?_);refine q4h rfl rfl ?_;exact ⟨⟨_,rfl⟩,.inr hjx⟩
theorem gclosedMk (lo hi:Nat) (v:Value) (hv:v.oneCell'=true) (w:World) :
    Calls Tryz.prog 122 #[.agg (sub lo hi v).toArray] w fun e w'=>∃ q,e=.returned q∧∃ b,q=.func (.func 169) #[] #[.pointer (some ⟨b,0,none⟩)]∧Ext w w'∧Blk w' b 163 (sub lo hi v)∧w.heap.size=b:=by
  refine q0k Tryz.func122 rfl Tryz.ntmps122 rfl ?_;(refine q0b<|q0a ?_);refine q1t rfl ?_;intro g1 w1 B1 hg1 E1 hs1;(refine Ls (q0l (v:=Value.nilFunc) rfl)<|q0c<|tn<|q0b<|q0a ?_);refine Ls (q3l (vf:=[]) (vc:=[.pointer (some ⟨g1,0,none⟩)]) rfl rfl) ?_;(refine Ls (q0l (v:=.func _ _ _) rfl)<|q0c<|tn<|q0r ?_);refine q0e rfl rfl (v:=.func _ _ _) rfl ⟨_,rfl,g1,rfl,E1,B1,hg1⟩
theorem q2p {w:World} {g:Nat} {t t':TypeId} {cs:List Value} {cs':Array Value} {fz:Nat × Nat} (h:Blk w g t cs) (e:w.heap[g]?=some (.cells cs' t' fz)) (hne:t ≠ t'):False:=by
  unfold Blk at h;rw [h] at e;cases e
  exact hne rfl
theorem cls_count:∀ (n:Nat) (I:List Nat),0 < n→n≤65536→(cls 0 n I).length≤65536:=by
  have key:∀ (f lo hi:Nat) (I:List Nat),hi - lo < f→lo < hi→(cls lo hi I).length≤hi - lo:=by
    intro f;induction f with
    | zero=>intro lo hi I h;omega
    | succ f ih =>
      intro lo hi I hf hlo;by_cases h0:I=[]
      · subst h0;rw [q5j];simp;omega
      · by_cases h1:hi - lo≤1
        · rw [q5i h1 h0];simp
        · have h2:2≤hi - lo:=(by omega);have hs1:=q3m h2;have hs0:=q2s (hi - lo);rw [q4p h2 h0,List.length_append];have:=ih lo (lo+spl (hi - lo)) (I.filter fun i=>Nat.blt i (lo+spl (hi - lo))) (by omega) (by omega);have:=ih (lo+spl (hi - lo)) hi (I.filter fun i=>Nat.ble (lo+spl (hi - lo)) i) (by omega) (by omega);omega
  intro n I h0 hn;have:=key (n+1) 0 n I (by omega) h0;omega
def OpInv (w0:World) (g4 g7 g8 gd c8 m:Nat) (D:List (List Nat)) (nodes:List (List Nat)) (i:Nat) (y:World):Prop :=
  ∃ v,Blk y g7 48 [v]∧y.ownsRow w0.heap.size 43 32 v i (dgs (nodes.take i))∧(∀ q,v.ownBlock=some q→q ≠ gd)∧i≤nodes.length ∧
    Blk y g8 46 [.slice (some ⟨gd,0,none⟩) m c8]∧y.ownsRow w0.heap.size 43 32 (.slice (some ⟨gd,0,none⟩) m c8) m (dgs D)∧Ext w0 y∧Blk y g4 48 [.slice none 0 0]
theorem OpInv.calm {w0:World} {g4 g7 g8 gd c8 m B i:Nat} {D nodes:List (List Nat)} {x y:World} (h:OpInv w0 g4 g7 g8 gd c8 m D nodes i x) (C:K.Calm B x y) (hB:w0.heap.size≤B):OpInv w0 g4 g7 g8 gd c8 m D nodes i y:=by
  obtain ⟨v,h1,h2,h3,h4,h5,h6,h7,h8⟩:=h;exact ⟨v,C.blk h1,C.own h2,h3,h4,C.blk h5,C.own h6,C.toExt h7 hB,C.blk h8⟩
theorem opening_ok (M:List (List Nat)) {I:List Nat} (h0:0 < M.length) (hI:∀ p∈cls 0 M.length I,p.1 < p.2∧p.2≤M.length):DgOk (Mk.opening lf nd M I):=by
  intro d hd;obtain ⟨p,hp,rfl⟩:=List.mem_map.1 hd;obtain ⟨h1,h2⟩:=hI p hp;exact q3p _ (((q3w M).drop _).take _) (by unfold Mk.hashes;rw [List.length_take,List.length_drop,List.length_map];omega)
theorem node_ok (M:List (List Nat)) {p:Nat × Nat} (h1:p.1 < p.2) (h2:p.2≤M.length):(tree nd (((M.map lf).drop p.1).take (p.2 - p.1))).length=32 :=
  (q3p _ (((q3w M).drop _).take _) (by rw [List.length_take,List.length_drop,List.length_map];omega)).1
set_option maxRecDepth 100000 in
set_option maxHeartbeats 4000000 in
theorem gmopen (N:Nat→Prop) (v:Value) (M:List (List Nat)) (h1:1≤M.length) (hM:M.length≤65536) (hM8:∀ b∈M,Sha.bytesOk b∧b.length≤100000000) (lo hi':Nat) (u:Value) (I:List Nat) (hp:I.Pairwise (· < ·)) (hin:∀ i∈I,i < M.length) (w:World) (hw:Tb w) (hr:q2f N w .u8 v M) (hru:Row w lo hi' 1 u I.length (ints .i64 I)) :
    Calls Tryz.prog 64 #[v,u] w fun e w'=>∃ q,e=.returned (.tuple #[.agg #[q],.int .i64 0])∧Ext w w'∧w'.ownsRow w.heap.size 43 32 q (Mk.opening lf nd M I).length (dgs (Mk.opening lf nd M I)):=by
  have hIl:I.length≤65536:=by
    have:=q4z hp (lo:=0) (hi:=M.length) fun i h=>⟨Nat.zero_le _,hin i h⟩;omega
  have hcl:=Mk.cls_in (M.length+1) 0 M.length I (by omega) (by omega);have hml:(M.map lf).length=M.length:=by simp
  obtain ⟨A,c,rfl,hmc,hcm⟩:=hr.form;have hu1:=q0g hru;have hru:=hru.tightN (by decide);refine q6s Tryz.func64 rfl Tryz.ntmps64 rfl ?_;refine q4v ?_;(refine q0a ?_);refine q0w ?_;intro g4 w1 B4 hg4 E1 hs1;(refine a_I rfl<|q0c<|tn ?_);refine q4v ?_;(refine q0b<|q0a<|m_S rfl<|Ls (q0f rfl)<|Ls (q0d (v:=u) rfl) ?_);refine L_fv rfl (gcheck h1 hM lo _ u I hin hp hIl w1 (hru.ext E1)) ?_;intro w2 E2;(refine a_I rfl<|q0c<|tn<|q0b<|q0a<|m_I rfl<|Ls (z2s rfl rfl)<|q0c<|tn ?_);refine q0x rfl ?_;(refine q0q<|tn ?_);refine q4v ?_;(refine q0a ?_);refine q0w ?_;intro g7 w3 B7 hg7 E3 hs3;(refine q0c<|tn ?_);refine q4v ?_;(refine q0a<|m_S rfl ?_);have E13:=E1.trans (E2.trans E3);refine L_fo rfl (ghashes N _ M hM hM8 w3 (hw.ext E13) (hr.ext E13)) ?_;rintro q8 w4 ⟨E4,o4⟩;obtain ⟨gd,c8,rfl,hgd1,hgd2,hgd3,hgd4⟩:=q7x o4 h1;refine q0w ?_;intro g8 w5 B8 hg8 E5 hs5;refine q1m (v:=.slice (some ⟨gd,0,none⟩) M.length c8) rfl rfl rfl B8 (by simp) ?_;intro w6 B8' hg8' hs6;have E6:Ext w3 w6:=(E4.trans E5).then hg8' (fun g h=>by cases h;have:=E4.size;omega);have o6:=(q0p o4 E5);have o6:=q1i o6 hg8' (fun q hq h=>by
    obtain rfl:gd=q:=Option.some.inj hq
    have:=Option.some.inj h
    omega)
  have C7:=B7.ext E6;have E06:=E13.trans E6;(refine q0c<|tn ?_);refine z0x ?_;(refine q0a<|m_S rfl<|Ls (q0f rfl)<|Ls (q0d (v:=u) rfl) ?_);refine Ls (z4q (a:=0) (b:=M.length) hu1 rfl rfl rfl) ?_;refine L_fo rfl (gclosedMk 0 M.length u hu1 w6) ?_;rintro q7 w7 ⟨bq,rfl,E7,Bq,hbq⟩;(refine q0c<|tn ?_);have E07:=E06.trans E7;have hz1:=E1.size;have hz2:=E2.size;have hz4:=E4.size;have hz6:=E6.size;have hz7:=E7.size;have hB7:g7 < w7.heap.size:=(C7.ext E7).lt;obtain ⟨nodes,hnodes⟩:∃ nodes,nodes=Mk.opening lf nd M I:=⟨_,rfl⟩;have hnl:nodes.length=(cls 0 M.length I).length:=by rw [hnodes];unfold Mk.opening;simp
  have hnl2:nodes.length≤65536:=by
    rw [hnl];exact cls_count M.length I (by omega) hM
  rw [← hnodes];have hcb:∀ i x y,OpInv w g4 g7 g8 gd c8 M.length (M.map lf) nodes i x→K.Calm w7.heap.size x y→OpInv w g4 g7 g8 gd c8 M.length (M.map lf) nodes i y:=fun i x y h C=>h.calm C (by omega);refine T_rangeL (ps:=[25]) (Kp:=KeepTy w.heap.size g7 43) (It:=Ext) (Ix:=Ext) rfl (enters_of Tryz.func169 (by kernel_rfl) rfl) (fun i vs a h=>by obtain ⟨_,_,_,_,rfl⟩:=h;rfl)
    (gclosed g7 w.heap.size bq M.length lo w.heap.size u I (by omega) hM hp hin (Nat.le_refl _) (by omega) w7 hB7 Bq (hru.ext E07)) (fun _ _ _ h k=>h.trans k) (fun _ _ _ o' _ h hc=>KeepTy.put o' h hc)
    (fun _ _ E=>KeepsFrom.of_ext E) (fun _ _ E=>KeepsFrom.of_ext E) (OpInv w g4 g7 g8 gd c8 M.length (M.map lf) nodes) (fun _=>False)
    (fun i x y h E=>hcb i x y h (K.Calm.of_ext E)) (fun i x y h hb=>hcb i x y h (K.Calm.of_book hb)) (fun _ _ h _=>h) (fun _ _ h _=>h) (fun _ _ _ h _=>h) ⟨.slice none 0 0,C7.ext E7,⟨rfl,.inl ⟨rfl,rfl⟩⟩,(fun _ h=>by cases h),by omega,B8'.ext E7,q1l (q0p o6 E7) (by omega),E07,B4.ext (E2.trans (E3.trans (E6.trans E7)))⟩
    (fun i vs a f' y=>∃ p q g9,(cls 0 M.length I)[i]?=some p∧Ext a y∧Blk y g9 163 (sub p.1 p.2 q)∧f' 7=.pointer (some ⟨g7,0,none⟩)∧f' 8=.pointer (some ⟨g8,0,none⟩)∧f' 9=.pointer (some ⟨g9,0,none⟩)) (fun i vs a f' b h=>by obtain ⟨_,_,_,_,h,_⟩:=h;exact h) (fun a b E=>KeepTy.of_ext E) (fun lp vs i x hi hp=>?_) (fun lp i vs x f' y z hi hp hga hbk=>?_) (fun D y hD hdn hyD=>?_)
  · obtain ⟨p,q,hp1,hq1,rfl⟩:=hp;(refine q0a ?_);refine q0w ?_;intro g9 a1 C9 hg9 F9 hs9;refine q0j (l:=sub p.1 p.2 q) rfl rfl rfl (q6i hq1) C9 rfl ?_;intro a2 C10 hg10 hs10;(refine q0c ?_);exact ⟨rfl,p,q,g9,hp1,F9.then hg10 (fun g h=>by cases h;omega),C10,rfl,rfl,rfl⟩
  · obtain ⟨p,q,g9,hp1,hxy,D9,f7,f8,f9⟩:=hga;have hiz:=hcb _ _ _ (hcb _ _ _ hi (K.Calm.of_ext hxy)) (K.Calm.of_book hbk);obtain ⟨v,I1,I2,I3,I4,I5,I6,I7,I8⟩:=hiz;have D9:=(K.Calm.of_book hbk).blk D9;obtain ⟨p1,p2,p3⟩:=hcl p (List.mem_of_getElem? hp1);rw [fold f7,fold f8,fold f9];have hv1:=q0g (Row.of_own I2);have hIr:=q4o I6;have hnd:nodes[i]?=some (tree nd (((M.map lf).drop p.1).take (p.2 - p.1))):=(by rw [hnodes];unfold Mk.opening;rw [List.getElem?_map,hp1];rfl);have hni:i < nodes.length:=(List.getElem?_eq_some_iff.1 hnd).1;obtain ⟨d,hd⟩:∃ d,d=tree nd (((M.map lf).drop p.1).take (p.2 - p.1)):=⟨_,rfl⟩;have hd32:d.length=32:=(by rw [hd];exact node_ok M p2 p3);have hrow:∀ y,Ext z y→Row y w.heap.size y.heap.size 32 (.slice (some ⟨gd,0+p.1 * 32,none⟩) (p.2 - p.1) (c8 - p.1)) (((M.map lf).drop p.1).take (p.2 - p.1)).length (dgs (((M.map lf).drop p.1).take (p.2 - p.1))):=fun y E=>by
      have h:=z4j (q3w M) hml ⟨by omega,by have:=E.size;have:=(I6.lt gd rfl).2;omega⟩ (E.range hIr) hgd3 hgd4 p.1 p.2 (c8 - p.1) (by omega) (by omega) ⟨by omega,by omega⟩ (lo:=w.heap.size) (hi:=y.heap.size);rw [show (((M.map lf).drop p.1).take (p.2 - p.1)).length=p.2 - p.1 by rw [List.length_take,List.length_drop];omega];exact h
    (refine q0h ?_);apply q1h 10 (by kernel_rfl);(apply DW_x (fun r w hA hH=>(q0i rfl).trans rfl);apply DW_x (fun r w hA hH=>(X_ld rfl (I1.ext hA) rfl).trans rfl);apply DW_x (fun r w hA hH=>(X_ld rfl (I5.ext hA) rfl).trans rfl);apply DW_x (fun r w hA hH=>(q0i rfl).trans rfl);apply DW_x (fun r w hA hH=>(X_ld rfl (D9.ext hA) rfl).trans rfl);apply DW_x (fun r w hA hH=>(q0i rfl).trans rfl);apply DW_x (fun r w hA hH=>(X_ld rfl (D9.ext hA) rfl).trans rfl));((with_reducible apply DW_x);(exact fun r w hA hH=>(X_slice2p (size:=32) p.1 p.2 rfl rfl rfl rfl rfl (by omega) (by omega) (by omega)).trans rfl))
    ((with_reducible apply q1x);(exact fun _=>rfl);(exact fun _=>rfl);(exact fun r w hA hH=>(by
      have h:=gfold (((M.map lf).drop p.1).take (p.2 - p.1)).length _ _ _ (((M.map lf).drop p.1).take (p.2 - p.1)) (Nat.le_refl _) (by rw [List.length_take,List.length_drop];omega) (by rw [List.length_take,List.length_drop];omega) (((q3w M).drop _).take _) w (hw.ext (I7.trans hA)) (hrow w hA)
      rw [← hd] at h
      exact h)))
    ((with_reducible apply DW_d (F:=fun r v w=>RowF z 32 v 1 (ints .u8 d) w));(exact fun r w hA hH=>X_litA (z:=List.replicate 32 (.int .u8 0)) rfl (by rw [q0o,hd32];rfl) rfl hA.size);(exact fun _ _ u w w' _ _ hR h=>RowF.ext hR h);(exact fun _ _=>rfl));((with_reducible exact q1p);(exact rfl);(repeat (first | exact .inr (.inr (fun _ _=>by with_reducible rfl)) | (refine And.intro ?_ ?_) | exact .inr (.inl rfl) | exact .inl (by decide +kernel) | exact trivial | exact .inr (.inr (fun _ _=>rfl))));(try dsimp only [Nat.reduceAdd]));intro r z1 F1 H1;obtain ⟨l9,h9,hl9,r9⟩:RowF z 32 (r 9) 1 (ints .u8 d) z1:=H1 9;refine q1n (v:=v) (u:=r 9) rfl rfl (q0p I2 F1) r9 q1c (by omega) (by omega) (by have:=I7.size;have:=F1.size;omega) ?_;intro v2 z2 o2 hg2 hb2;have hMut:Mut (fun _=>True) z z2:=(Mut.of_ext F1).trans (Mut.app (q0p I2 F1) hg2 (fun _ _=>trivial));have hv7:∀ q,v.ownBlock=some q→q ≠ g7∧q ≠ g8:=fun q hq=>by
      obtain ⟨_,cs,fz,e⟩:=q1g I2 q hq;constructor
      · rintro rfl;exact q2p I1 e (by decide)
      · rintro rfl;exact q2p I5 e (by decide)
    have G7:=(I1.ext F1).grown hg2 (fun h=>(hv7 g7 h).1 rfl);have G8:=(I5.ext F1).grown hg2 (fun h=>(hv7 g8 h).2 rfl);have G6:=q1i (q0p I6 F1) hg2 (fun q hq h=>I3 q h (Option.some.inj hq).symm);have hv2:=q0g (Row.of_own o2);have hK1:KeepTy w.heap.size g7 43 z z2:=(KeepTy.of_ext F1).trans (KeepTy.of_grown hg2 (fun q hq=>.inr (q1g (q0p I2 F1) q hq)));have hE2:Ext w z2:=(I7.trans F1).then hg2 (fun q hq=>(q1g I2 q hq).1);(refine Ls (q0i rfl) ?_);refine q1m (v:=v2) rfl rfl hv2 G7 (by simp) ?_;intro z3 G7' hg3 hs3;(refine q0c<|bn ?_);have hgd8:(gd:Nat) < w5.heap.size:=(by have:=(q0p o4 E5).lt gd rfl;omega);refine ⟨(hMut.trans (Mut.store G7 hg3 trivial)).keeps,hK1.trans (KeepTy.of_grown hg3 (fun q hq=>.inl (Option.some.inj hq).symm)),v2,G7',?_,fun q hq=>?_,by omega,G8.grown hg3 (by simp;omega),q1i G6 hg3 (fun q hq h=>?_),hE2.then hg3 (fun g h=>by cases h;omega),((I8.ext F1).grown hg2 (fun h=>by
      obtain ⟨_,cs,fz,e⟩:=q1g I2 g4 h
      exact q2p I8 e (by decide))).grown hg3 (by simp;omega)⟩
    · rw [List.take_add_one,hnd,← hd];have:=q1i o2 hg3 (fun q hq h=>by
        obtain rfl:g7=q:=Option.some.inj h
        obtain ⟨_,cs,fz,e⟩:=q1g o2 g7 hq
        exact q2p G7 e (by decide))
      rw [show nodes.take i++(some d).toList=nodes.take i++[d] from rfl,z2d,z4k];exact this
    · rcases hb2 with h | h
      · rw [h] at hq;exact I3 q hq
      · rw [h] at hq;have:=Option.some.inj hq;have:=(q0p I6 F1).lt gd rfl;omega
    · obtain rfl:gd=q:=Option.some.inj hq;obtain ⟨_,cs,fz,e⟩:=q1g G6 gd rfl;obtain rfl:g7=gd:=Option.some.inj h;exact q2p G7 e (by decide)
  · obtain ⟨i,hfin,v,I1,I2,I3,I4,I5,I6,I7,D4⟩:∃ i,i=(cls 0 M.length I).length∧OpInv w g4 g7 g8 gd c8 M.length (M.map lf) nodes i y:=hdn.elim id False.elim;rw [hfin,← hnl,List.take_length] at I2;have hv1:=q0g (Row.of_own I2);refine z0y ?_;(refine q0b<|q0a<|Ls (q1a (cs:=[v]) rfl I1 rfl) ?_);refine q0j (l:=[v]) rfl rfl rfl (fun x hx=>by rw [List.mem_singleton.1 hx];exact hv1) D4 rfl ?_;intro y2 D4' hg4' hs4';(refine a_I rfl<|q0c<|tn<|q0r ?_);refine q5c w7.heap.size [D] rfl rfl (by simp) (fun D' h=>?_) (fun w' hc=>⟨Res.cellA inferInstance rfl ((hc.blk D4').range (fun j u h=>by simpa using h)) rfl (Res.tmp rfl .nil),v,rfl,?_,?_⟩)
    · rw [List.mem_singleton.1 h];exact ⟨by omega,(hg4'.block D (Array.getElem?_eq_some_iff.1 hyD).1 (by simp;omega)).trans hyD⟩
    · exact hc.toExt (I7.then hg4' (fun g h=>by cases h;omega)) (by omega)
    · refine hc.own (q1i I2 hg4' (fun q hq h=>?_));obtain rfl:g4=q:=Option.some.inj h;obtain ⟨_,cs,fz,e⟩:=q1g I2 g4 hq;exact q2p D4 e (by decide)
end Go.Proofs.YtpohjepbmgeplaaGreatDoor
namespace Go.Proofs.YtpohjepbmgeplaaGreatDoor
open Go.RowKit Go.Proofs.K
open _root_.Mk (spl q2s q3m reb q9v q9u q9t)
structure VS (NN:Nat→Prop) (gc gN gL:Nat) (cb:Bool) (ns bs:List (List Nat)) (w:World):Prop where
  c:Blk w gc 4 [.bool cb]
  n:∃ v,Blk w gN 46 [v]∧RowN NN w 32 v ns.length (dgs ns)
  l:∃ v,Blk w gL 102 [v]∧q2f NN w .u8 v bs
def VSs (gc gN gL:Nat) (k:Nat):Prop:=k=gc∨k=gN∨k=gL
theorem VS.ext {NN:Nat→Prop} {gc gN gL:Nat} {cb:Bool} {ns bs:List (List Nat)} {w w':World} (h:VS NN gc gN gL cb ns bs w) (E:Ext w w'):VS NN gc gN gL cb ns bs w':=by
  obtain ⟨h1,⟨v,h2,h3⟩,u,h4,h5⟩:=h;exact ⟨h1.ext E,⟨v,h2.ext E,h3.ext E⟩,u,h4.ext E,h5.ext E⟩
structure VP (NN:Nat→Prop) (gc gN gL:Nat):Prop where
  c:¬ NN gc
  n:¬ NN gN
  l:¬ NN gL
  cn:gc ≠ gN
  cl:gc ≠ gL
  nl:gN ≠ gL
theorem VP.out {NN:Nat→Prop} {gc gN gL:Nat} (h:VP NN gc gN gL):∀ k,NN k→¬ VSs gc gN gL k:=by
  rintro k hk (rfl | rfl | rfl)
  · exact h.c hk
  · exact h.n hk
  · exact h.l hk
theorem rowN_tail {NN:Nat→Prop} {w:World} {b o m c:Nat} {d:List Nat} {r:List (List Nat)} (hd:d.length=32) (hok:DgOk r) (h:RowN NN w 32 (.slice (some ⟨b,o,none⟩) m c) (r.length+1) (dgs (d :: r))) :
    ∃ A,(if c=1 then (some ⟨b,o,none⟩:Option Addr) else (some ⟨b,o,none⟩:Option Addr).map (·.add (1 * 32)))=A∧RowN NN w 32 (.slice A (m - 1) (c - 1)) r.length (dgs r)∧m=r.length+1∧m≤c:=by
  obtain ⟨lo,hi,hN,hr⟩:=h;have hm:m=r.length+1∧m≤c:=by
    obtain ⟨_,A,c',e,h1,_⟩:=hr;cases e
    exact ⟨rfl,h1⟩
  have:=hr.slice (i:=1) (j:=m) (by rw [hm.1]) (by omega) (by omega);refine ⟨_,rfl,⟨lo,hi,hN,?_⟩,hm⟩;have e:((dgs (d :: r)).drop (1 * 32)).take ((m - 1) * 32)=dgs r:=by
    have e1:dgs (d :: r)=ints .u8 d++dgs r:=rfl;rw [e1,show 1 * 32=(ints .u8 d).length by rw [q0o,hd],List.drop_left,List.take_of_length_le (by rw [z2b hok];omega)]
  rw [e] at this;rw [show m - 1=r.length by omega] at this ⊢;exact this
theorem z3w {w w':World} {b o g:Nat} {cs:List Value} (h:w.rangeAt b o cs) (hg:w.grownBy w' (some g)) (hb:g ≠ b):w'.rangeAt b o cs:=fun j u hu=>World.grownBy.cell hg (h j u hu) (fun e=>hb (Option.some.inj e).symm)
set_option maxRecDepth 100000 in
set_option maxHeartbeats 2000000 in
theorem gsrcN {NN:Nat→Prop} {gc gN gL:Nat} (hP:VP NN gc gN gL) (cb:Bool) (ns bs:List (List Nat)) (hn:ns.length≤1000000) (hok:DgOk ns) (w:World) (hV:VS NN gc gN gL cb ns bs w) :
    Calls Tryz.prog 177 #[.pointer (some ⟨gN,0,none⟩)] w fun e w'=>e=.returned (.tuple #[.agg (ints .u8 (ns.headD (List.replicate 32 0))).toArray,.bool (!ns.isEmpty)])∧Mut (VSs gc gN gL) w w'∧VS NN gc gN gL cb ns.tail bs w':=by
  obtain ⟨hVc,⟨v,hVn,hVr⟩,u,hVl,hVp⟩:=hV;obtain ⟨A,c,rfl,hmc,hcm⟩:=hVr.form;have hlN:=hVn.lt;refine q0k Tryz.func177 rfl Tryz.ntmps177 rfl ?_;(refine q0b<|q0a ?_);refine q0w ?_;intro g1 w1 B1 hg1 E1 hs1;have C:=hVn.ext E1;cases ns with
  | nil =>
    (refine a_B rfl<|q0c<|tn<|q0b<|q0b<|q0a<|Ls (X_ld rfl C rfl)<|Ls (q0f rfl)<|Ls (z2u rfl rfl)<|q0c<|tn ?_);refine q0x rfl ?_;(refine q0q<|tn<|q0b<|q0a<|Ls (q1a rfl B1 rfl)<|m_B rfl ?_);refine q0j (l:=ints .u8 (List.replicate 32 0)) (size:=32) rfl rfl rfl q1c B1 rfl ?_;intro w2 B2 hg2 hs2;(refine a_B rfl<|q0c<|tn<|q0r ?_);refine q0y rfl rfl (Res.cellA inferInstance rfl (B2.range (fun j u h=>by simpa using h)) rfl (Res.tmp rfl .nil)) ?_;have E2:Ext w w2:=E1.then hg2 (fun g h=>by cases h;omega);exact ⟨rfl,Mut.of_ext E2,(VS.mk hVc ⟨_,hVn,hVr⟩ ⟨_,hVl,hVp⟩:VS NN gc gN gL cb [] bs w).ext E2⟩
  | cons d rs =>
    have hd:=hok d (by simp);obtain ⟨b,o,c',e,hbc,hNb,hR⟩:∃ b o c',(Value.slice A (rs.length+1) c)=.slice (some ⟨b,o,none⟩) (rs.length+1) c'∧b < w.heap.size∧rs.length+1≤c'∧w.rangeAt b o (dgs (d :: rs)):=by
      obtain ⟨b,o,c',h1,h2,_,h4,h5⟩:=(hVr.tight (by decide)).at (k:=0) (by simp);exact ⟨b,o,c',h1,h4.2,h2,h5⟩
    cases e
    obtain ⟨A',hA',hT,_,_⟩:=rowN_tail hd.1 (fun x hx=>hok x (by simp [hx])) hVr;have hR':w1.rangeAt b (o+0 * 32) (ints .u8 d):=by
      rw [Nat.zero_mul,Nat.add_zero];intro j u hu;refine (E1.range hR) j u ?_;rw [show dgs (d :: rs)=ints .u8 d++dgs rs from rfl,List.getElem?_append_left (List.getElem?_eq_some_iff.1 hu).1];exact hu
    (refine a_B rfl<|q0c<|tn<|q0b<|q0b<|q0a<|Ls (X_ld rfl C rfl)<|Ls (q0f rfl)<|Ls (z2u rfl rfl)<|q0c<|tn ?_);refine q1b rfl (fun _=>?_) (fun h=>(h (by simp)).elim);skip;apply z3i (R:=RB g1 43 _ _) (AB g1 43 _ (ints .u8 d) w1) 7 (by kernel_rfl) (RB.refl _ _ _ _) (AB.new B1) AB.step;(apply DW_x (fun r w hA hH=>(X_ld rfl (C.grown hA.1 (by simp;omega)) rfl).trans rfl);apply DW_x (fun r w hA hH=>(q0n (i:=0) rfl rfl (by simp)).trans rfl);apply DW_x (fun r w hA hH=>(q2q (size:=32) (cs:=ints .u8 d) rfl (z3w hR' hA.1 (by omega)) (by rw [q0o];exact hd.1)).trans rfl);apply DW_x (fun r w hA hH=>(X_ld rfl (C.grown hA.1 (by simp;omega)) rfl).trans rfl));((with_reducible apply DW_x);(exact fun r w hA hH=>((q5l (size:=32) (i:=1) (j:=rs.length+1) rfl (by exact ⟨_,rfl⟩) (by exact rfl) (by omega) (by omega)).trans (by rw [hA'])).trans rfl));apply DW_store (o:=List.replicate 32 (Value.int .u8 0)) (l:=ints .u8 d) (fun _=>rfl) (fun _=>rfl) rfl (by rw [q0o];exact hd.1) q1c;(apply DW_x (fun r w hA hH=>(q0l (v:=.bool _) rfl).trans rfl));((with_reducible exact q1p);(exact rfl);(repeat (first | exact .inr (.inr (fun _ _=>by with_reducible rfl)) | (refine And.intro ?_ ?_) | exact .inr (.inl rfl) | exact .inl (by decide +kernel) | exact trivial | exact .inr (.inr (fun _ _=>rfl))));(try dsimp only [Nat.reduceAdd]));intro q w2 A2 H2;have B2:Blk w2 g1 43 (ints .u8 d):=H2 5;have C2:=C.grown A2.1 (by simp;omega);refine q1m (v:=.slice _ _ _) rfl rfl rfl C2 (by simp) ?_;intro w3 C3 hg3 hs3;have B3:=B2.grown hg3 (by simp;omega);(refine q0c<|tn<|q0b<|q0a<|Ls (q1a rfl B3 (by rw [q0o];exact hd.1))<|m_B rfl ?_);refine q0j (l:=ints .u8 d) (size:=32) rfl rfl (by rw [q0o];exact hd.1) q1c B3 (by rw [q0o];exact hd.1) ?_;intro w4 B4 hg4 hs4;have C4:=C3.grown hg4 (by simp;omega);(refine a_B rfl<|q0c<|tn<|q0r ?_);refine q0y rfl rfl (Res.cellA inferInstance rfl (B4.range (fun j u h=>by simpa using h)) (by rw [q0o];exact hd.1) (Res.tmp rfl .nil)) ?_;have E2:Ext w w2:=E1.then A2.1 (fun g h=>by cases h;omega);have M3:Mut (VSs gc gN gL) w w3:=(Mut.of_ext E2).trans (Mut.store C2 hg3 (.inr (.inl rfl)));have M4:Mut (VSs gc gN gL) w w4:=M3.new B3 hg4 (by omega);have hC4:=((((hVc.ext E1).grown A2.1 (by have:=hVc.lt;simp;omega)).grown hg3 (by have:=hP.cn;simp;omega)).grown hg4 (by have:=hVc.lt;simp;omega));have hL4:=((((hVl.ext E1).grown A2.1 (by have:=hVl.lt;simp;omega)).grown hg3 (by have:=hP.nl;simp;omega)).grown hg4 (by have:=hVl.lt;simp;omega));exact ⟨rfl,M4,hC4,⟨_,C4,hT.mut M4 hP.out⟩,u,hL4,hVp.mut M4 hP.out⟩
theorem partN_tail {NN:Nat→Prop} {w:World} {b o m c:Nat} {d:List Nat} {r:List (List Nat)} (h:q2f NN w .u8 (.slice (some ⟨b,o,none⟩) m c) (d :: r)) :
    ∃ A x,(if c=1 then (some ⟨b,o,none⟩:Option Addr) else (some ⟨b,o,none⟩:Option Addr).map (·.add (1 * 1)))=A∧q2f NN w .u8 (.slice A (m - 1) (c - 1)) r∧m=r.length+1∧m≤c∧w.cell? ⟨b,o,none⟩=some x∧x.oneCell'=true∧RowN NN w 1 x d.length (ints .u8 d):=by
  obtain ⟨vs,hvl,⟨lo,hi,hN,hr⟩,he⟩:=h;have hm:m=r.length+1∧m≤c:=by
    obtain ⟨_,A,c',e,h1,_⟩:=hr;cases e
    exact ⟨rfl,h1⟩
  cases vs with
  | nil=>simp at hvl
  | cons x vs =>
    have hx:=he 0 x d rfl rfl;have hc:w.cell? ⟨b,o,none⟩=some x:=by
      obtain ⟨b',o',c',e,_,_,_,h5⟩:=hr.at (k:=0) (by simp);cases e
      have:=h5 0 x rfl;exact this
    have:=hr.slice (i:=1) (j:=m) (by rw [hm.1];rfl) (by omega) (by rw [hm.1];simp);refine ⟨_,x,rfl,⟨vs,by simpa using hvl,⟨lo,hi,hN,?_⟩,fun i y z h1 h2=>he (i+1) y z h1 h2⟩,hm.1,hm.2,hc,hx.cell1,hx⟩;have e:((x :: vs).drop (1 * 1)).take ((m - 1) * 1)=vs:=by
      rw [show ((x :: vs).drop (1 * 1))=vs from rfl,List.take_of_length_le (by simp at hvl;omega)]
    rw [e] at this;rw [show m - 1=r.length by omega] at this ⊢;exact this
set_option maxRecDepth 100000 in
set_option maxHeartbeats 2000000 in
theorem gsrcL {NN:Nat→Prop} {gc gN gL:Nat} (hP:VP NN gc gN gL) (cb:Bool) (ns bs:List (List Nat)) (hn:bs.length≤1000000) (w:World) (hV:VS NN gc gN gL cb ns bs w) :
    Calls Tryz.prog 176 #[.pointer (some ⟨gL,0,none⟩)] w fun e w'=>∃ q,e=.returned (.tuple #[q,.bool (!bs.isEmpty)])∧RowN NN w' 1 q (bs.headD []).length (ints .u8 (bs.headD []))∧Mut (VSs gc gN gL) w w'∧VS NN gc gN gL cb ns bs.tail w':=by
  obtain ⟨hVc,⟨v,hVn,hVr⟩,u,hVl,hVp⟩:=hV;obtain ⟨A,c,rfl,hmc,hcm⟩:=hVp.form;refine q0k Tryz.func176 rfl Tryz.ntmps176 rfl ?_;(refine q0b<|q0a<|a_S rfl<|a_B rfl<|q0c<|tn<|q0b<|q0b<|q0a ?_);cases bs with
  | nil =>
    (refine Ls (X_ld rfl hVl rfl)<|Ls (q0f rfl)<|Ls (z2u rfl rfl)<|q0c<|tn ?_);refine q0x rfl ?_;(refine q0q<|tn<|q0b<|q0a<|m_S rfl<|m_B rfl<|a_S rfl<|a_B rfl<|q0c<|tn<|q0r ?_);refine q2z rfl rfl (v:=.slice none 0 0) (x:=.bool _) rfl rfl ⟨_,rfl,⟨0,0,fun k h1 h2=>by omega,Row.nil _ _ _ _⟩,Mut.refl _,hVc,⟨_,hVn,hVr⟩,_,hVl,hVp⟩
  | cons d rs =>
    obtain ⟨b,o,c',e,hbc⟩:∃ b o c',(Value.slice A (rs.length+1) c)=.slice (some ⟨b,o,none⟩) (rs.length+1) c'∧rs.length+1≤c':=by
      obtain ⟨vs,hvl,hvr,_⟩:=hVp;obtain ⟨b,o,c',h1,h2,_⟩:=hvr.at (k:=0) (by simp);exact ⟨b,o,c',h1,h2⟩
    cases e
    obtain ⟨A',x,hA',hT,_,_,hx,hx1,hxr⟩:=partN_tail hVp;have hx':∀ w',Ext w w'→w'.cell? ⟨b,o+0 * 1,none⟩=some x:=fun w' E=>(by rw [Nat.zero_mul,Nat.add_zero];exact E.cell hx);(refine Ls (X_ld rfl hVl rfl)<|Ls (q0f rfl)<|Ls (z2u rfl rfl)<|q0c<|tn ?_);refine q1b rfl (fun _=>?_) (fun h=>(h (by simp)).elim);skip;apply q1h 7 (by kernel_rfl);(apply DW_x (fun r w hA hH=>(X_ld rfl (hVl.ext hA) rfl).trans rfl);apply DW_x (fun r w hA hH=>(q0n (i:=0) rfl rfl (by simp)).trans rfl);apply DW_x (fun r w hA hH=>(q7n rfl (hx' w hA)).trans rfl);apply DW_x (fun r w hA hH=>(X_ld rfl (hVl.ext hA) rfl).trans rfl));((with_reducible apply DW_x);(exact fun r w hA hH=>((q5l (size:=1) (i:=1) (j:=rs.length+1) rfl (by exact ⟨_,rfl⟩) (by exact rfl) (by omega) (by omega)).trans (by rw [hA'])).trans rfl));(apply DW_x (fun r w hA hH=>(q0l (v:=x) rfl).trans rfl);apply DW_x (fun r w hA hH=>(q0l (v:=.bool _) rfl).trans rfl));((with_reducible exact q1p);(exact rfl);(repeat (first | exact .inr (.inr (fun _ _=>by with_reducible rfl)) | (refine And.intro ?_ ?_) | exact .inr (.inl rfl) | exact .inl (by decide +kernel) | exact trivial | exact .inr (.inr (fun _ _=>rfl))));(try dsimp only [Nat.reduceAdd]));intro q w2 E2 _;refine q1m (v:=.slice _ _ _) rfl rfl rfl (hVl.ext E2) (by simp) ?_;intro w3 C3 hg3 hs3;(refine q0c<|tn<|q0b<|q0a<|Ls (q0d (v:=x) rfl)<|m_B rfl<|Ls (q0l (v:=x) rfl)<|a_B rfl<|q0c<|tn<|q0r ?_);have M3:Mut (VSs gc gN gL) w w3:=(Mut.of_ext E2).trans (Mut.store (hVl.ext E2) hg3 (.inr (.inr rfl)));refine q2z rfl rfl (v:=x) (x:=.bool _) rfl rfl ⟨_,rfl,hxr.mut M3 hP.out,M3,(hVc.ext E2).grown hg3 (by have:=hP.cl;simp;omega),⟨_,(hVn.ext E2).grown hg3 (by have:=hP.nl;simp;omega),hVr.mut M3 hP.out⟩,_,C3,hT.mut M3 hP.out⟩
structure TbB (B:Nat):Prop where
  k:3 < B
  i:2 < B
  d:5 < B
  one:1 < B
  mix:0 < B
theorem Tb.below {w:World} (h:Tb w):TbB w.heap.size:=⟨h.k.lt (by decide),h.i.lt (by decide),h.d.lt (by decide),h.one.lt (by decide),h.mix.lt (by decide)⟩
theorem Tb.mut {S:Nat→Prop} {B:Nat} {a b:World} (h:Tb a) (m:Mut S a b) (hB:TbB B) (hS:∀ k,k < B→¬ S k):Tb b :=
  ⟨m.rng h.k (hS _ hB.k),m.rng h.i (hS _ hB.i),m.rng h.d (hS _ hB.d),m.rng h.one (hS _ hB.one),m.rng h.mix (hS _ hB.mix)⟩
structure Fx (gn gl gr gc gN gL:Nat) (w:World):Prop where
  n:Blk w gn 175 [.func (.func 177) #[] #[.pointer (some ⟨gN,0,none⟩)]]
  l:Blk w gl 173 [.func (.func 176) #[] #[.pointer (some ⟨gL,0,none⟩)]]
  r:Blk w gr 177 [.func (.func 133) #[] #[.pointer (some ⟨gn,0,none⟩),.pointer (some ⟨gc,0,none⟩),.pointer (some ⟨gl,0,none⟩),.pointer (some ⟨gr,0,none⟩)]]
theorem Fx.ext {gn gl gr gc gN gL:Nat} {w w':World} (h:Fx gn gl gr gc gN gL w) (E:Ext w w'):Fx gn gl gr gc gN gL w':=⟨h.n.ext E,h.l.ext E,h.r.ext E⟩
theorem Fx.mut {gn gl gr gc gN gL:Nat} {w w':World} (h:Fx gn gl gr gc gN gL w) (m:Mut (VSs gc gN gL) w w') (h1:¬ VSs gc gN gL gn) (h2:¬ VSs gc gN gL gl) (h3:¬ VSs gc gN gL gr):Fx gn gl gr gc gN gL w':=⟨m.blk h.n h1,m.blk h.l h2,m.blk h.r h3⟩
theorem ok_head {ns:List (List Nat)} (h:DgOk ns):(ns.headD (List.replicate 32 0)).length=32∧Sha.bytesOk (ns.headD (List.replicate 32 0)):=by
  cases ns with
  | nil=>exact z1g 1 _ (by simp)
  | cons d r=>exact h d (by simp)
theorem VS.other {B gc gN gL g:Nat} {cb:Bool} {ns bs:List (List Nat)} {w w':World} (h:VS (fun k=>k < B) gc gN gL cb ns bs w) (hG:w.grownBy w' (some g)) (hg:¬ VSs gc gN gL g) (hB:B≤g):VS (fun k=>k < B) gc gN gL cb ns bs w':=by
  obtain ⟨h1,⟨v,h2,h3⟩,u,h4,h5⟩:=h;have hM:KeepS (fun k=>k=g) w w':=⟨hG.size,fun k o hk _ hne=>(hG.block k (q3c hk) (fun e=>hne (Option.some.inj e))).trans hk⟩;exact ⟨h1.grown hG (fun e=>hg (.inl (Option.some.inj e))),⟨v,h2.grown hG (fun e=>hg (.inr (.inl (Option.some.inj e)))),h3.keepS hM (fun k hk e=>by have:k < B:=hk;omega)⟩,u,h4.grown hG (fun e=>hg (.inr (.inr (Option.some.inj e)))),h5.keepS hM (fun k hk e=>by have:k < B:=hk;omega)⟩
theorem VS.setc {B gc gN gL:Nat} {cb cb':Bool} {ns bs:List (List Nat)} {w w':World} (hP:VP (fun k=>k < B) gc gN gL) (h:VS (fun k=>k < B) gc gN gL cb ns bs w) (hG:w.grownBy w' (some gc)) (hc:Blk w' gc 4 [.bool cb']):VS (fun k=>k < B) gc gN gL cb' ns bs w':=by
  obtain ⟨h1,⟨v,h2,h3⟩,u,h4,h5⟩:=h;have hM:KeepS (fun k=>k=gc) w w':=⟨hG.size,fun k o hk _ hne=>(hG.block k (q3c hk) (fun e=>hne (Option.some.inj e))).trans hk⟩;have hc':=hP.c;exact ⟨hc,⟨v,h2.grown hG (by have:=hP.cn;simp;omega),h3.keepS hM (fun k hk e=>by have:k < B:=hk;subst e;exact hc' this)⟩,u,h4.grown hG (by have:=hP.cl;simp;omega),h5.keepS hM (fun k hk e=>by have:k < B:=hk;subst e;exact hc' this)⟩
def BsOk (bs:List (List Nat)):Prop:=∀ b∈bs,Sha.bytesOk b∧b.length≤100000000
theorem bs_head {bs:List (List Nat)} (h:BsOk bs):Sha.bytesOk (bs.headD [])∧(bs.headD []).length≤100000000:=by
  cases bs with
  | nil=>exact ⟨(fun x hx=>by cases hx),by simp⟩
  | cons d r=>exact h d (by simp)
theorem tail_ok {ns:List (List Nat)} (h:DgOk ns):DgOk ns.tail:=fun d hd=>h d (List.mem_of_mem_tail hd)
theorem tail_bs {ns:List (List Nat)} (h:BsOk ns):BsOk ns.tail:=fun d hd=>h d (List.mem_of_mem_tail hd)
theorem reb_ok:∀ (fu lo hi:Nat) (I:List Nat) (ns bs:List (List Nat)),hi - lo < fu→lo < hi→DgOk ns→BsOk bs→ns.length≤1000000→bs.length≤1000000 →
    ((reb lf nd fu lo hi I ns bs).1.length=32∧Sha.bytesOk (reb lf nd fu lo hi I ns bs).1)∧DgOk (reb lf nd fu lo hi I ns bs).2.1∧BsOk (reb lf nd fu lo hi I ns bs).2.2.1∧(reb lf nd fu lo hi I ns bs).2.1.length≤1000000∧(reb lf nd fu lo hi I ns bs).2.2.1.length≤1000000
  | 0,_,_,_,_,_,h,_,_,_,_,_=>by omega
  | fu+1,lo,hi,I,ns,bs,hf,hlo,hn,hb,hnl,hbl=>by
    by_cases h0:I=[]
    · subst h0;rw [q9v];cases ns with
      | nil=>exact ⟨z1g 1 _ (by simp),hn,hb,hnl,hbl⟩
      | cons d r=>exact ⟨hn d (by simp),tail_ok hn,hb,by simp at hnl ⊢;omega,hbl⟩
    · by_cases h1:hi - lo≤1
      · rw [q9u lf nd h1 h0];exact ⟨⟨q7g _,lf_ok _⟩,hn,tail_bs hb,hnl,by rw [List.length_tail];omega⟩
      · have h2:2≤hi - lo:=(by omega);have hs1:=q3m h2;have hs2:=q2s (hi - lo);rw [q9t lf nd h2 h0];obtain ⟨a1,a2,a3,a4,a5⟩:=reb_ok fu lo (lo+spl (hi - lo)) (I.filter fun i=>Nat.blt i (lo+spl (hi - lo))) ns bs (by omega) (by omega) hn hb hnl hbl;obtain ⟨b1,b2,b3,b4,b5⟩:=reb_ok fu (lo+spl (hi - lo)) hi (I.filter fun i=>Nat.ble (lo+spl (hi - lo)) i) _ _ (by omega) (by omega) a2 a3 a4 a5;exact ⟨⟨q5z _ _,nd_ok _ _⟩,b2,b3,b4,b5⟩
set_option maxRecDepth 100000 in
set_option maxHeartbeats 4000000 in
theorem z4d {B gc gN gL gn gl gr:Nat} (hP:VP (fun k=>k < B) gc gN gL) (hgn:¬ VSs gc gN gL gn) (hgl:¬ VSs gc gN gL gl) (hgr:¬ VSs gc gN gL gr) (hTB:TbB B) :
    ∀ (fu lo hi bl bh:Nat) (v:Value) (I:List Nat) (cb:Bool) (ns bs:List (List Nat)) (_:hi - lo < fu) (_:lo < hi) (_:hi≤65536) (_:I.Pairwise (· < ·)) (_:∀ i∈I,lo≤i∧i < hi) (_:bh≤B)
      (_:DgOk ns) (_:BsOk bs) (_:ns.length≤1000000) (_:bs.length≤1000000) (w:World) (_:Tb w) (_:Row w bl bh 1 v I.length (ints .i64 I)) (_:Fx gn gl gr gc gN gL w) (_:VS (fun k=>k < B) gc gN gL cb ns bs w),
    Calls Tryz.prog 133 #[.agg (sub lo hi v).toArray,.pointer (some ⟨gn,0,none⟩),.pointer (some ⟨gc,0,none⟩),.pointer (some ⟨gl,0,none⟩),.pointer (some ⟨gr,0,none⟩)] w fun e w' =>
      e=.returned (.agg (ints .u8 (reb lf nd fu lo hi I ns bs).1).toArray)∧Mut (VSs gc gN gL) w w'∧VS (fun k=>k < B) gc gN gL (cb && (reb lf nd fu lo hi I ns bs).2.2.2) (reb lf nd fu lo hi I ns bs).2.1 (reb lf nd fu lo hi I ns bs).2.2.1 w'
  | 0,_,_,_,_,_,_,_,_,_,h,_,_,_,_,_,_,_,_,_,_,_,_,_,_=>by omega
  | fu+1,lo,hi,bl,bh,v,I,cb,ns,bs,hf,hlo,hh,hp,hin,hbB,hn,hb,hnl,hbl,w,hw,hr,hF,hV=>by
    have hv1:=q0g hr;have hIl:I.length≤65536:=by
      have:I.length≤hi - lo:=q4z hp hin;omega
    have hbS:∀ k,bl≤k→k < bh→¬ VSs gc gN gL k:=fun k _ hk=>hP.out k (by show k < B;omega);refine q0k Tryz.func133 rfl Tryz.ntmps133 rfl ?_;(refine q0b<|q0a ?_);refine q1t rfl ?_;intro g5 w1 B5 hg5 E1 hs1;refine q0w ?_;intro g6 w2 B6 hg6 E2 hs2;have E12:=E1.trans E2;have C5:=B5.ext E2;have F2:=hF.ext E12;have V2:=hV.ext E12;have hcl:gc < w.heap.size:=hV.c.lt;have hnl':gN < w.heap.size:=(by obtain ⟨_,h,_⟩:=hV.n;exact h.lt);have hll':gL < w.heap.size:=(by obtain ⟨_,h,_⟩:=hV.l;exact h.lt);have hnw:∀ k,w.heap.size≤k→¬ VSs gc gN gL k:=by
      rintro k hk (rfl | rfl | rfl) <;> omega
    by_cases h0:I=[]
    · subst h0;(refine q0c<|tn<|q0b<|q0h<|q0b<|q0a<|Ls (q0i rfl)<|Ls (X_ld rfl C5 rfl)<|Ls (q3q (v:=v) rfl hr)<|Ls (z2m rfl rfl)<|a_B rfl<|q0c<|tn<|q0z rfl<|q0b<|q0a ?_);(refine Ls (X_ld rfl F2.n rfl) ?_);refine q6y (vl:=[]) rfl (gsrcN hP cb ns bs hnl hn w2 V2) rfl ?_;rintro e w3 ⟨rfl,M3,V3⟩;refine ⟨_,rfl,?_⟩;have hd:=ok_head hn;have hres:(reb lf nd (fu+1) lo hi [] ns bs)=(ns.headD (List.replicate 32 0),ns.tail,bs,!ns.isEmpty):=by
        rw [q9v];cases ns <;> rfl
      rw [hres];clear hres;generalize ns.headD (List.replicate 32 0)=D0 at hd ⊢;(refine m_T rfl<|Ls (q0t rfl rfl)<|Ls (q0t rfl rfl) ?_);refine q0w ?_;intro g7 w4 B7 hg7 E4 hs4;have hz3:=M3.size;refine q0j (size:=32) (l:=ints .u8 (D0)) rfl rfl (by rw [q0o];exact hd.1) q1c B7 rfl ?_;intro w5 B7' hg7' hs5;have E35:Ext w3 w5:=E4.then hg7' (fun g h=>by cases h;omega);have V5:=V3.ext E35;have C6:Blk w5 g6 43 _:=(M3.blk B6 (hnw _ (by omega))).ext E35;have M5:Mut (VSs gc gN gL) w w5:=((Mut.of_ext E12).trans M3).ext_ E35;have hfin:∀ (w6 w7:World),w5.grownBy w6 (some gc)→Blk w6 gc 4 [.bool (cb && !ns.isEmpty)]→w6.grownBy w7 (some g6)→Mut (VSs gc gN gL) w w7∧VS (fun k=>k < B) gc gN gL (cb && !ns.isEmpty) ns.tail bs w7:=by
        intro w6 w7 hG hc hG7;have M6:Mut (VSs gc gN gL) w w6:=M5.trans (Mut.store V5.c hG (.inl rfl));have D6:=C6.grown hG (by have:=hnw g6 (by omega);intro h;exact this (.inl (Option.some.inj h).symm));have hBg:B≤g6:=by
          have h1:¬ gc < B:=hP.c;omega
        exact ⟨M6.new D6 hG7 (by omega),(V5.setc hP hG hc).other hG7 (hnw g6 (by omega)) hBg⟩
      have hn6:some gc ≠ some g6:=(by simp;omega);have hn7:some gc ≠ some g7:=(by simp;omega);cases cb with
      | false =>
        (refine a_B rfl<|q0c<|tn<|q0b<|q0a<|Ls (X_ld rfl V5.c rfl)<|m_B rfl<|Lo2 rfl rfl rfl rfl<|Ls (q0s (v:=.bool _) rfl rfl) ?_);refine q1m (v:=.bool false) rfl rfl rfl V5.c (by simp) ?_;intro w6 D gG hs6;(refine q0c<|tn<|q0b<|q0a<|Ls (q1a rfl (B7'.grown gG hn7) (by rw [q0o];exact hd.1)) ?_);refine q0j (size:=32) (l:=ints .u8 (D0)) rfl rfl (by rw [q0o];exact hd.1) q1c (C6.grown gG hn6) rfl ?_;intro w7 D7 hg7 hs7;(refine q0c<|tn<|q0r<|br<|tr ?_);refine q0y rfl rfl (Res.cellA inferInstance rfl (D7.range (fun j u h=>by simpa using h)) (by rw [q0o];exact hd.1) .nil) ?_;exact ⟨rfl,hfin w6 w7 gG D hg7⟩
      | true =>
        (refine a_B rfl<|q0c<|tn<|q0b<|q0a<|Ls (X_ld rfl V5.c rfl)<|m_B rfl<|Lg2 rfl rfl rfl (q0d (v:=.bool _) rfl)<|Ls (q0v (v:=.bool _) rfl rfl) ?_);refine q1m (v:=.bool (!ns.isEmpty)) rfl rfl rfl V5.c (by simp) ?_;intro w6 D gG hs6;(refine q0c<|tn<|q0b<|q0a<|Ls (q1a rfl (B7'.grown gG hn7) (by rw [q0o];exact hd.1)) ?_);refine q0j (size:=32) (l:=ints .u8 (D0)) rfl rfl (by rw [q0o];exact hd.1) q1c (C6.grown gG hn6) rfl ?_;intro w7 D7 hg7 hs7;(refine q0c<|tn<|q0r<|br<|tr ?_);refine q0y rfl rfl (Res.cellA inferInstance rfl (D7.range (fun j u h=>by simpa using h)) (by rw [q0o];exact hd.1) .nil) ?_;exact ⟨rfl,hfin w6 w7 gG (by rw [Bool.true_and];exact D) hg7⟩
    · have hI0:0 < I.length:=List.length_pos_iff.2 h0;have hBg:B≤g6:=by
        have h1:¬ gc < B:=hP.c;omega
      by_cases h1:hi - lo≤1
      · (refine q0c<|tn<|q0b<|q0h<|q0b<|q0a<|Ls (q0i rfl)<|Ls (X_ld rfl C5 rfl)<|Ls (q3q (v:=v) rfl hr)<|Ls (q2g rfl rfl (by omega))<|a_B rfl<|q0c<|tn<|q0x rfl<|q0b<|q0a<|Ls (q0i rfl)<|Ls (X_ld rfl C5 rfl)<|Ls (q0i rfl)<|Ls (X_ld rfl C5 rfl)<|Ls (q2d rfl rfl (by omega))<|Ls (q2b rfl rfl (by omega))<|a_B rfl<|q0c<|tn<|q0z rfl<|q0b<|q0a ?_);(refine Ls (X_ld rfl F2.l rfl) ?_);refine q6y (vl:=[]) rfl (gsrcL hP cb ns bs hbl w2 V2) rfl ?_;rintro e w3 ⟨q,rfl,⟨ql,qh,hqN,rq⟩,M3,V3⟩;refine ⟨_,rfl,?_⟩;have hd:=bs_head hb;have hq1:=q0g rq;rw [q9u lf nd h1 h0];have hw3:=(hw.ext E12).mut M3 hTB (fun k hk=>hP.out k hk);(refine m_T rfl<|Ls (q0t rfl rfl)<|Ls (q0t rfl rfl)<|Ls (q0l (v:=q) rfl)<|a_B rfl<|q0c<|tn<|q0b<|q0a<|Ls (q0d (v:=q) rfl) ?_);refine L_fv rfl (gleaf ql qh q (bs.headD []) hd.1 hd.2 w3 hw3 rq) ?_;intro w4 E4;have hz3:=M3.size;have C6:Blk w4 g6 43 _:=(M3.blk B6 (hnw _ (by omega))).ext E4;have M4:Mut (VSs gc gN gL) w w4:=((Mut.of_ext E12).trans M3).ext_ E4;generalize bs.headD []=D0 at hd ⊢;refine q0j (size:=32) (l:=ints .u8 (lf D0)) rfl rfl (by rw [q0o];exact q7g _) q1c C6 rfl ?_;intro w7 D7 hg7 hs7;(refine q0c<|tn<|q0r<|br<|tr ?_);refine q0y rfl rfl (Res.cellA inferInstance rfl (D7.range (fun j u h=>by simpa using h)) (by rw [q0o];exact q7g _) .nil) ?_;refine ⟨rfl,M4.new C6 hg7 (by omega),?_⟩;rw [Bool.and_true];exact (V3.ext E4).other hg7 (hnw g6 (by omega)) hBg
      · have h2:2≤hi - lo:=(by omega);have hs1':=q3m h2;have hs0:=q2s (hi - lo);obtain ⟨k,hk⟩:∃ k,k=lo+spl (hi - lo):=⟨_,rfl⟩;have hgp:=gparts h2 hh bl bh v I hp hIl w2 (hr.ext E12);obtain ⟨fa,fb⟩:=filt_in (k:=k) hin;have hrb:=q9t (f:=fu) lf nd h2 h0 ns bs;rw [← hk] at hgp hrb;obtain ⟨Ia,hIa⟩:∃ Ia,Ia=I.filter fun i=>Nat.blt i k:=⟨_,rfl⟩;obtain ⟨Ib,hIb⟩:∃ Ib,Ib=I.filter fun i=>Nat.ble k i:=⟨_,rfl⟩;have pa:Ia.Pairwise (· < ·):=(by rw [hIa];exact hp.filter _);have pb:Ib.Pairwise (· < ·):=(by rw [hIb];exact hp.filter _);rw [← hIa,← hIb] at hgp hrb;rw [← hIa] at fa;rw [← hIb] at fb;obtain ⟨a1,a2,a3,a4,a5⟩:=reb_ok fu lo k Ia ns bs (by omega) (by omega) hn hb hnl hbl;obtain ⟨ra,hra⟩:∃ ra,ra=reb lf nd fu lo k Ia ns bs:=⟨_,rfl⟩;obtain ⟨rb,hrb'⟩:∃ rb,rb=reb lf nd fu k hi Ib ra.2.1 ra.2.2.1:=⟨_,rfl⟩;rw [← hra] at a1 a2 a3 a4 a5 hrb;have b1:=(reb_ok fu k hi Ib ra.2.1 ra.2.2.1 (by omega) (by omega) a2 a3 a4 a5).1;dsimp only at hrb;rw [← hrb'] at hrb b1;rw [hrb];(refine q0c<|tn<|q0b<|q0h<|q0b<|q0a<|Ls (q0i rfl)<|Ls (X_ld rfl C5 rfl)<|Ls (q3q (v:=v) rfl hr)<|Ls (q2g rfl rfl (by omega))<|a_B rfl<|q0c<|tn<|q0x rfl<|q0b<|q0a<|Ls (q0i rfl)<|Ls (X_ld rfl C5 rfl)<|Ls (q0i rfl)<|Ls (X_ld rfl C5 rfl)<|Ls (q2d rfl rfl (by omega))<|Ls (q2g rfl rfl (by omega))<|a_B rfl<|q0c<|tn<|q0x rfl<|q0q<|bn<|tn<|q0b<|q0a<|Ls (q1a rfl C5 rfl) ?_);refine L_fo (F:=fun u w'=>∃ x y,u=.tuple #[.agg (sub lo k x).toArray,.agg (sub k hi y).toArray]∧Ext w2 w'∧Row w' bl bh 1 x Ia.length (ints .i64 Ia)∧Row w' bl bh 1 y Ib.length (ints .i64 Ib)) rfl (hgp.mono fun e w' ⟨x,y,h1,h2⟩=>⟨_,h1,x,y,rfl,h2⟩) ?_;rintro _ w3 ⟨x,y,rfl,E3,rx,ry⟩;have hx1:=q0g rx;have hy1:=q0g ry;(refine m_T rfl<|Ls (q0t rfl rfl)<|Ls (q0t rfl rfl) ?_);refine q0w ?_;intro g11 w4 B11 hg11 E4 hs11;refine q0w ?_;intro g12 w5 B12 hg12 E5 hs12;refine q0j (l:=sub lo k x) rfl rfl rfl (q6i hx1) (B11.ext E5) rfl ?_;intro w6 C11 hg6' hs6';refine q0j (l:=sub k hi y) rfl rfl rfl (q6i hy1) (B12.grown hg6' (by simp;omega)) rfl ?_;intro w7 C12 hg7 hs7;have C11:=C11.grown hg7 (by simp;omega);have hz3:=(E12.trans E3).size;have E7:Ext w w7:=((((E12.trans E3).trans E4).trans E5).then hg6' (fun g h=>by cases h;omega)).then hg7 (fun g h=>by cases h;omega);have E37:Ext w3 w7:=((E4.trans E5).then hg6' (fun g h=>by cases h;omega)).then hg7 (fun g h=>by cases h;omega);have E27:=E3.trans E37;have F7:=F2.ext E27;(refine q0c<|tn<|q0b<|q0a<|Ls (X_ld rfl F7.r rfl)<|Ls (q1a rfl C11 rfl) ?_);refine q6y (vl:=[.agg (sub lo k x).toArray]) rfl (z4d hP hgn hgl hgr hTB fu lo k bl bh x Ia cb ns bs (by omega) (by omega) (by omega) pa fa hbB hn hb hnl hbl w7 (hw.ext E7) (rx.ext E37) F7 (V2.ext E27)) rfl ?_;rintro e w8 ⟨rfl,M8,V8⟩;rw [← hra] at V8 ⊢;refine ⟨_,rfl,?_⟩;skip;refine q0w ?_;intro g13 w9 B13 hg13 E9 hs13;refine q0j (size:=32) (l:=ints .u8 ra.1) rfl rfl (by rw [q0o];exact a1.1) q1c B13 rfl ?_;intro w10 C13 hg10 hs10;have hz7:=E7.size;have hz8:=M8.size;have E810:Ext w8 w10:=E9.then hg10 (fun g h=>by cases h;omega);have D12:Blk w10 g12 163 (sub k hi y):=(M8.blk C12 (hnw _ (by omega))).ext E810;have D6:Blk w10 g6 43 _:=(M8.blk (B6.ext E27) (hnw _ (by omega))).ext E810;have F10:=(F7.mut M8 hgn hgl hgr).ext E810;have V10:=V8.ext E810;have hw10:=((hw.ext E7).mut M8 hTB (fun k hk=>hP.out k hk)).ext E810;have ry10:=(M8.row (ry.ext E37) hbS).ext E810;have hVo:¬ VSs gc gN gL g13:=hnw _ (by omega);have hVo12:¬ VSs gc gN gL g12:=hnw _ (by omega);(refine q0c<|tn<|q0b ?_);apply W_dagM 3 (VSs gc gN gL) (fun w'=>Ext w10 w') 4 (by kernel_rfl) (Ext.drew _) (fun _ _ E h=>h.trans E);(apply DW_x (fun r w hA hH=>(q1a rfl (hA.g.blk C13 hVo) (by rw [q0o];exact a1.1)).trans rfl);apply DW_x (fun r w hA hH=>(X_ld rfl (F10.mut hA.g hgn hgl hgr).r rfl).trans rfl);apply DW_x (fun r w hA hH=>(q1a rfl (hA.g.blk D12 hVo12) rfl).trans rfl));apply DW_frc (F:=fun v w'=>v=.agg (ints .u8 rb.1).toArray∧VS (fun k=>k < B) gc gN gL ((cb && ra.2.2.2) && rb.2.2.2) rb.2.1 rb.2.2.1 w') (first:=#[]) (cap:=#[.pointer (some ⟨gn,0,none⟩),.pointer (some ⟨gc,0,none⟩),.pointer (some ⟨gl,0,none⟩),.pointer (some ⟨gr,0,none⟩)]) (vl:=fun _=>[.agg (sub k hi y).toArray]) (fun _=>rfl) (fun _=>rfl) (fun r w hA hH=>by
          have hE:=hA.pre (.inl rfl)
          have h:=z4d hP hgn hgl hgr hTB fu k hi bl bh y Ib (cb && ra.2.2.2) ra.2.1 ra.2.2.1 (by omega) (by omega) hh pb fb hbB a2 a3 a4 a5 w (hw10.ext hE) (ry10.ext hE) (F10.ext hE) (V10.ext hE)
          rw [← hrb'] at h
          exact h.mono fun e w' ⟨h1,h2,h3⟩=>⟨_,h1,.inr ⟨rfl,h2⟩,rfl,h3⟩) (fun i v w w' hi' _ hR h=>⟨h.1,h.2.ext (hR.other hi')⟩)
        ((with_reducible exact q1p);(exact rfl);(repeat (first | exact .inr (.inr (fun _ _=>by with_reducible rfl)) | (refine And.intro ?_ ?_) | exact .inr (.inl rfl) | exact .inl (by decide +kernel) | exact trivial | exact .inr (.inr (fun _ _=>rfl))));(try dsimp only [Nat.reduceAdd]));intro r w11 M11 H11;obtain ⟨hr3,V11⟩:r 3=.agg (ints .u8 rb.1).toArray∧VS (fun k=>k < B) gc gN gL ((cb && ra.2.2.2) && rb.2.2.2) rb.2.1 rb.2.2.1 w11:=H11 3;rw [hr3];have hw11:=hw10.mut M11 hTB (fun k hk=>hP.out k hk);refine L_fv rfl (gpair ra.1 rb.1 a1.2 b1.2 a1.1 b1.1 w11 hw11) ?_;intro w12 E12';have G6:=(M11.blk D6 (hnw _ (by omega))).ext E12';refine q0j (size:=32) (l:=ints .u8 (nd ra.1 rb.1)) rfl rfl (by rw [q0o];exact q5z _ _) q1c G6 rfl ?_;intro w13 G13 hg13' hs13';(refine q0c<|tn<|q0r ?_);refine q0y rfl rfl (Res.cellA inferInstance rfl (G13.range (fun j u h=>by simpa using h)) (by rw [q0o];exact q5z _ _) .nil) ?_;have MM:Mut (VSs gc gN gL) w w12:=((((Mut.of_ext E7).trans M8).ext_ E810).trans M11).ext_ E12';refine ⟨rfl,MM.new G6 hg13' (by omega),?_⟩;rw [← Bool.and_assoc];exact (V11.ext E12').other hg13' (hnw g6 (by omega)) hBg
end Go.Proofs.YtpohjepbmgeplaaGreatDoor
namespace Go.Proofs.YtpohjepbmgeplaaGreatDoor
open Go.RowKit Go.Proofs.K
open _root_.Mk (reb okP okR)
instance (n:Nat) (I:List Nat) (bs ns:List (List Nat)) (r:List Nat):Decidable (okP lf nd n I bs ns r):=by unfold Mk.okP;exact inferInstance
theorem gsrcNMk (v:Value) (hv:v.oneCell'=true) (w:World) :
    Calls Tryz.prog 132 #[v] w fun e w'=>∃ q,e=.returned q∧Ext w w'∧∃ b,q=.func (.func 177) #[] #[.pointer (some ⟨b,0,none⟩)]∧w.heap.size≤b∧Blk w' b 46 [v]:=by
  refine q0k Tryz.func132 rfl Tryz.ntmps132 rfl ?_;(refine q0b<|q0a ?_);refine q4r rfl hv ?_;intro g1 w1 B1 hg1 E1 hs1;(refine Ls (q0l (v:=Value.nilFunc) rfl)<|q0c<|tn<|q0b<|q0a ?_);refine Ls (q3l (vf:=[]) (vc:=[.pointer (some ⟨g1,0,none⟩)]) rfl rfl) ?_;(refine Ls (q0l (v:=.func _ _ _) rfl)<|q0c<|tn<|q0r ?_);refine q0e rfl rfl (v:=.func _ _ _) rfl ⟨_,rfl,E1,g1,rfl,by omega,B1⟩
theorem gsrcLMk (v:Value) (hv:v.oneCell'=true) (w:World) :
    Calls Tryz.prog 131 #[v] w fun e w'=>∃ q,e=.returned q∧Ext w w'∧∃ b,q=.func (.func 176) #[] #[.pointer (some ⟨b,0,none⟩)]∧w.heap.size≤b∧Blk w' b 102 [v]:=by
  refine q0k Tryz.func131 rfl Tryz.ntmps131 rfl ?_;(refine q0b<|q0a ?_);refine q4r rfl hv ?_;intro g1 w1 B1 hg1 E1 hs1;(refine Ls (q0l (v:=Value.nilFunc) rfl)<|q0c<|tn<|q0b<|q0a ?_);refine Ls (q3l (vf:=[]) (vc:=[.pointer (some ⟨g1,0,none⟩)]) rfl rfl) ?_;(refine Ls (q0l (v:=.func _ _ _) rfl)<|q0c<|tn<|q0r ?_);refine q0e rfl rfl (v:=.func _ _ _) rfl ⟨_,rfl,E1,g1,rfl,by omega,B1⟩
theorem infF0:(Tryz.prog.info? 173).map (fun i=>(i.zero,i.size,i.bytes))=some (some Value.nilFunc,1,8):=by kernel_rfl
instance:TZero Tryz.prog 173 [Value.nilFunc]:=q2k infF0 (by rfl)
theorem infF1:(Tryz.prog.info? 175).map (fun i=>(i.zero,i.size,i.bytes))=some (some Value.nilFunc,1,8):=by kernel_rfl
instance:TZero Tryz.prog 175 [Value.nilFunc]:=q2k infF1 (by rfl)
theorem infF2:(Tryz.prog.info? 177).map (fun i=>(i.zero,i.size,i.bytes))=some (some Value.nilFunc,1,8):=by kernel_rfl
instance:TZero Tryz.prog 177 [Value.nilFunc]:=q2k infF2 (by rfl)
set_option maxRecDepth 100000 in
set_option maxHeartbeats 4000000 in
theorem gmverify {n:Nat} (h1:1≤n) (hn:n≤65536) (rt:List Nat) (hrt:rt.length=32) (hrt8:Sha.bytesOk rt) (bl bh:Nat) (iv bv nv:Value) (I:List Nat) (bs ns:List (List Nat)) (hp:I.Pairwise (· < ·)) (hin:∀ i∈I,i < n) (hbl:bs.length=I.length) (hb:BsOk bs) (hnk:DgOk ns) (hnl:ns.length≤1000000)
    (w:World) (hw:Tb w) (hri:Row w bl bh 1 iv I.length (ints .i64 I)) (hrb:q2f (fun _=>True) w .u8 bv bs) (hrn:RowN (fun _=>True) w 32 nv ns.length (dgs ns)) :
    Calls Tryz.prog 80 #[.agg (ints .u8 rt).toArray,.int .i64 (n:Nat),.agg #[iv,bv],.agg #[nv]] w fun e w'=>e=.returned (.int .i64 (if okP lf nd n I bs ns rt then 0 else 80))∧Ext w w':=by
  have hIl:I.length≤65536:=by
    have:=q4z hp (lo:=0) (hi:=n) fun i h=>⟨Nat.zero_le _,hin i h⟩;omega
  have hri:=hri.tightN (by decide);have hrb:=(hrb.tight).mono (N':=fun k=>k < w.heap.size) fun k h=>h.2;have hrn:=(hrn.tight (by decide)).mono (N':=fun k=>k < w.heap.size) fun k h=>h.2;have hTB:=hw.below;obtain ⟨Ai,ci,rfl⟩:∃ A c,iv=.slice A I.length c:=by
    obtain ⟨_,A,c,rfl,_⟩:=hri;exact ⟨A,c,rfl⟩
  obtain ⟨Ab,cb,rfl,_⟩:=hrb.form;obtain ⟨An,cn,rfl,_⟩:=hrn.form;refine q0k Tryz.func80 rfl Tryz.ntmps80 rfl ?_;(refine q0b<|q0a ?_);refine q1t rfl ?_;intro g4 w1 B4 hg4 E1 hs1;refine q1t (l:=[.slice Ai I.length ci,.slice Ab bs.length cb]) rfl ?_;intro g6 w2 B6 hg6 E2 hs2;refine q1t (l:=[.slice An ns.length cn]) rfl ?_;intro g7 w3 B7 hg7 E3 hs3;have C4:=B4.ext (E2.trans E3);have C6:=B6.ext E3;have E13:=E1.trans (E2.trans E3);(refine a_I rfl<|q0c<|tn<|q0b<|q0a<|m_I rfl<|Ls (q0i rfl)<|Ls (X_ld rfl C6 rfl) ?_);refine L_fv rfl (gcheck h1 hn bl _ _ I hin hp hIl w3 (hri.ext E13)) ?_;intro w4 E4;have C4:=C4.ext E4;have C6:=C6.ext E4;have C7:=B7.ext E4;(refine a_I rfl<|q0c<|tn<|q0b<|q0b<|q0a<|m_I rfl<|Ls (q2i rfl rfl (by omega))<|m_B rfl<|Lg2 rfl rfl rfl (q0i rfl)<|Lg2 rfl rfl rfl (X_ld rfl C6 rfl)<|Lg2 rfl rfl rfl (q0f rfl)<|Lg2 rfl rfl rfl (q0i rfl)<|Lg2 rfl rfl rfl (X_ld rfl C6 rfl)<|Lg2 rfl rfl rfl (q0f rfl)<|Lg2 rfl rfl rfl (q2l rfl rfl (by omega))<|Ls (q0s (v:=.bool _) rfl rfl)<|q0c<|tn<|q0x rfl<|q0q<|tn<|q0b<|q0b<|q0a<|m_I rfl<|Ls (q2l rfl rfl (by omega))<|q0c<|tn<|q0x rfl<|q0q<|tn<|q0b ?_);apply q1h 8 (by kernel_rfl);(apply DW_x (fun r w hA hH=>(q0i rfl).trans rfl);apply DW_x (fun r w hA hH=>(X_ld rfl (C6.ext hA) rfl).trans rfl));((with_reducible apply q4y (F:=fun q w'=>∃ b,q=.func (.func 176) #[] #[.pointer (some ⟨b,0,none⟩)]∧w4.heap.size≤b∧Blk w' b 102 [.slice Ab bs.length cb]));(exact fun _=>rfl);(exact fun _=>rfl);(exact fun r w hA hH=>(gsrcLMk (.slice Ab bs.length cb) rfl w).mono fun e w' ⟨q,h1,h2,b,h3,h4,h5⟩=>⟨q,h1,h2,b,h3,Nat.le_trans hA.size h4,h5⟩);(exact fun i u w w' hi ht hR h=>(let ⟨b,h3,h4,h5⟩:=h;⟨b,h3,h4,h5.ext hR⟩)));(apply DW_x (fun r w hA hH=>(q0i rfl).trans rfl);apply DW_x (fun r w hA hH=>(X_ld rfl (C7.ext hA) rfl).trans rfl));((with_reducible apply q4y (F:=fun q w'=>∃ b,q=.func (.func 177) #[] #[.pointer (some ⟨b,0,none⟩)]∧w4.heap.size≤b∧Blk w' b 46 [.slice An ns.length cn]));(exact fun _=>rfl);(exact fun _=>rfl);(exact fun r w hA hH=>(gsrcNMk (.slice An ns.length cn) rfl w).mono fun e w' ⟨q,h1,h2,b,h3,h4,h5⟩=>⟨q,h1,h2,b,h3,Nat.le_trans hA.size h4,h5⟩);(exact fun i u w w' hi ht hR h=>(let ⟨b,h3,h4,h5⟩:=h;⟨b,h3,h4,h5.ext hR⟩)));apply q8c (w0:=w4) (fun w hA=>hA.size);apply q8c (w0:=w4) (fun w hA=>hA.size);((with_reducible exact q1p);(exact rfl);(repeat (first | exact .inr (.inr (fun _ _=>by with_reducible rfl)) | (refine And.intro ?_ ?_) | exact .inr (.inl rfl) | exact .inl (by decide +kernel) | exact trivial | exact .inr (.inr (fun _ _=>rfl))));(try dsimp only [Nat.reduceAdd]));intro r w5 E5 H5;obtain ⟨gL,hr2,hgL,BL⟩:∃ b,r 2=.func (.func 176) #[] #[.pointer (some ⟨b,0,none⟩)]∧w4.heap.size≤b∧Blk w5 b 102 [.slice Ab bs.length cb]:=H5 2;obtain ⟨gN,hr5,hgN,BN⟩:∃ b,r 5=.func (.func 177) #[] #[.pointer (some ⟨b,0,none⟩)]∧w4.heap.size≤b∧Blk w5 b 46 [.slice An ns.length cn]:=H5 5;obtain ⟨gl,hr6,hgl,Bl⟩:NewF w4 _ _ (r 6) w5:=H5 6;obtain ⟨gn,hr7,hgn,Bn⟩:NewF w4 _ _ (r 7) w5:=H5 7;rw [hr2,hr5,hr6,hr7];have n1:gL ≠ gN:=BL.ne_ BN (by decide);have n2:gL ≠ gl:=BL.ne_ Bl (by decide);have n3:gL ≠ gn:=BL.ne_ Bn (by decide);have n4:gN ≠ gl:=BN.ne_ Bl (by decide);have n5:gN ≠ gn:=BN.ne_ Bn (by decide);have n6:gl ≠ gn:=Bl.ne_ Bn (by decide);refine q1m (v:=.func _ _ _) rfl rfl rfl Bl (by simp) ?_;intro w6 Dl hg6' hs6;refine q1m (v:=.func _ _ _) rfl rfl rfl (Bn.grown hg6' (by simp;omega)) (by simp) ?_;intro w7 Dn hg7' hs7;have Dl:=Dl.grown hg7' (by simp;omega);have DL:=(BL.grown hg6' (by simp;omega)).grown hg7' (by simp;omega);have DN:=(BN.grown hg6' (by simp;omega)).grown hg7' (by simp;omega);have hzL:=BL.lt;have hzN:=BN.lt;have hzl:=Bl.lt;have hzn:=Bn.lt;have hz4:w.heap.size≤w4.heap.size:=(E13.trans E4).size;have hl4:=B4.lt;have hz14:w1.heap.size≤w4.heap.size:=(E2.trans (E3.trans E4)).size;have E47:Ext w4 w7:=(E5.then hg6' (fun g h=>by cases h;omega)).then hg7' (fun g h=>by cases h;omega);(refine q0c<|tn<|q0b<|q0a ?_);refine q0w ?_;intro gc w8 Bc hgc E8 hs8;refine q1m (v:=.bool true) rfl rfl rfl Bc (by simp) ?_;intro w9 Dc hg9 hs9;have E79:Ext w7 w9:=E8.then hg9 (fun g h=>by cases h;omega);(refine q0c<|tn<|q0b<|q0a ?_);refine q0w ?_;intro gr w10 Br hgr E10 hs10;(refine q0c<|tn<|q0b<|q0a ?_);refine Ls (q3l (vf:=[]) (vc:=[.pointer (some ⟨gn,0,none⟩),.pointer (some ⟨gc,0,none⟩),.pointer (some ⟨gl,0,none⟩),.pointer (some ⟨gr,0,none⟩)]) rfl rfl) ?_;refine q1m (v:=.func _ _ _) rfl rfl rfl Br (by simp) ?_;intro w11 Dr hg11 hs11;have E911:Ext w9 w11:=E10.then hg11 (fun g h=>by cases h;omega);have E711:=E79.trans E911;have E411:=E47.trans E711;have E11:Ext w w11:=(E13.trans E4).trans E411;have F11:Fx gn gl gr gc gN gL w11:=⟨Dn.ext E711,Dl.ext E711,Dr⟩;have C6':=C6.ext E411;have V11:VS (fun k=>k < w.heap.size) gc gN gL true ns bs w11:=⟨Dc.ext E911,⟨_,DN.ext E711,hrn.ext E11⟩,_,DL.ext E711,hrb.ext E11⟩;have hP:VP (fun k=>k < w.heap.size) gc gN gL:=⟨(by show ¬ (gc < w.heap.size);omega),(by show ¬ (gN < w.heap.size);omega),(by show ¬ (gL < w.heap.size);omega),by omega,by omega,n1.symm⟩;have sn:¬ VSs gc gN gL gn:=by rintro (h | h | h) <;> omega
  have sl:¬ VSs gc gN gL gl:=by rintro (h | h | h) <;> omega
  have sr:¬ VSs gc gN gL gr:=by rintro (h | h | h) <;> omega
  obtain ⟨ra,hra⟩:∃ ra,ra=reb lf nd (n+1) 0 n I ns bs:=⟨_,rfl⟩;obtain ⟨a1,a2,a3,a4,a5⟩:=reb_ok (n+1) 0 n I ns bs (by omega) (by omega) hnk hb hnl (by omega);have hreb:=z4d hP sn sl sr hTB (n+1) 0 n bl w.heap.size (.slice Ai I.length ci) I true ns bs (by omega) (by omega) hn hp (fun i h=>⟨Nat.zero_le _,hin i h⟩) (Nat.le_refl _) hnk hb hnl (by omega) w11 (hw.ext E11) (hri.ext E11) F11 V11;rw [← hra] at hreb a1 a2 a3 a4 a5;have hok:okP lf nd n I bs ns rt↔ra.2.1=[]∧ra.2.2.2=true∧ra.1=rt:=by unfold Mk.okP;rw [← hra]
  (refine q0c<|tn<|q0b<|q0a<|Ls (X_ld rfl Dr rfl)<|m_I rfl<|Ls (q0i rfl)<|Ls (X_ld rfl C6' rfl) ?_);refine Ls (z4q (a:=0) (b:=n) rfl rfl rfl rfl) ?_;refine q6y (vl:=[.agg (sub 0 n (.slice Ai I.length ci)).toArray]) rfl hreb rfl ?_;rintro e w12 ⟨rfl,M12,V12⟩;refine ⟨_,rfl,?_⟩;skip;refine q0w ?_;intro g14 w13 B14 hg14 E13' hs13;refine q0j (size:=32) (l:=ints .u8 ra.1) rfl rfl (by rw [q0o];exact a1.1) q1c B14 rfl ?_;intro w14 D14 hg14' hs14;have E1214:Ext w12 w14:=E13'.then hg14' (fun g h=>by cases h;omega);have F14:=(F11.mut M12 sn sl sr).ext E1214;have hz12:=M12.size;have D4:Blk w14 g4 43 (ints .u8 rt):=(M12.blk (C4.ext E411) (by rintro (h | h | h) <;> omega)).ext E1214;have V14:=V12.ext E1214;rw [Bool.true_and] at V14;(refine q0c<|tn<|q0b<|q0b<|q0a<|Ls (X_ld rfl F14.n rfl) ?_);refine q6y (vl:=[]) rfl (gsrcN hP ra.2.2.2 ra.2.1 ra.2.2.1 a4 a2 w14 V14) rfl ?_;rintro e w15 ⟨rfl,M15,V15⟩;refine ⟨_,rfl,?_⟩;have hdh:=ok_head a2;(refine m_T rfl<|Ls (q0t rfl rfl)<|Ls (q0t rfl rfl) ?_);refine q0w ?_;intro g15 w16 B15 hg15 E16 hs16;refine q0j (size:=32) (l:=ints .u8 (ra.2.1.headD (List.replicate 32 0))) rfl rfl (by rw [q0o];exact hdh.1) q1c B15 rfl ?_;intro w17 D15 hg15' hs17;have E1517:Ext w15 w17:=E16.then hg15' (fun g h=>by cases h;omega);have hz15:=M15.size;have Dc':=(V15.ext E1517).c;have D14':Blk w17 g14 43 (ints .u8 ra.1):=(M15.blk D14 (by rintro (h | h | h) <;> omega)).ext E1517;have D4':Blk w17 g4 43 (ints .u8 rt):=(M15.blk D4 (by rintro (h | h | h) <;> omega)).ext E1517;have MM:Mut (VSs gc gN gL) w11 w17:=((M12.ext_ E1214).trans M15).ext_ E1517;have EE:Ext w w17:=MM.toExt E11 (by rintro k (rfl | rfl | rfl) <;> omega);cases hmore:ra.2.1.isEmpty with
  | false =>
    have hno:¬ okP lf nd n I bs ns rt:=fun h=>by
      rw [(hok.1 h).1] at hmore;cases hmore
    rw [if_neg hno];(refine a_B rfl<|q0c<|tn<|q0b<|q0a<|m_B rfl<|m_B rfl<|Lo2 rfl rfl rfl rfl<|Lo2 rfl rfl rfl rfl<|Ls (q0v (v:=.bool _) rfl rfl)<|m_B rfl<|Lo2 rfl rfl rfl rfl<|Lo2 rfl rfl rfl rfl<|Lo2 rfl rfl rfl rfl<|Ls (q0v (v:=.bool _) rfl rfl)<|q0c<|tn<|q0z rfl<|q0b<|q0a<|a_I rfl<|q0c<|tn<|q0r<|tr ?_);exact q0e rfl rfl (v:=.int _ _) rfl ⟨rfl,EE⟩
  | true =>
    have he:ra.2.1=[]:=List.isEmpty_iff.1 hmore;cases hcm:ra.2.2.2 with
    | false =>
      have hno:¬ okP lf nd n I bs ns rt:=fun h=>by
        have:=(hok.1 h).2.1;rw [hcm] at this;cases this
      rw [if_neg hno];rw [hcm] at Dc';(refine a_B rfl<|q0c<|tn<|q0b<|q0a<|m_B rfl<|m_B rfl<|Lg2 rfl rfl rfl (X_ld rfl Dc' rfl)<|Lg2 rfl rfl rfl (q1s rfl)<|Ls (q0s (v:=.bool _) rfl rfl)<|m_B rfl<|Lo2 rfl rfl rfl rfl<|Lo2 rfl rfl rfl rfl<|Lo2 rfl rfl rfl rfl<|Ls (q0v (v:=.bool _) rfl rfl)<|q0c<|tn<|q0z rfl<|q0b<|q0a<|a_I rfl<|q0c<|tn<|q0r<|tr ?_);exact q0e rfl rfl (v:=.int _ _) rfl ⟨rfl,EE⟩
    | true =>
      rw [hcm] at Dc';by_cases hrr:ra.1=rt
      · rw [if_pos (hok.2 ⟨he,hcm,hrr⟩)];(refine a_B rfl<|q0c<|tn<|q0b<|q0a<|m_B rfl<|m_B rfl<|Lg2 rfl rfl rfl (X_ld rfl Dc' rfl)<|Lg2 rfl rfl rfl (q1s rfl)<|Ls (q0s (v:=.bool _) rfl rfl)<|m_B rfl<|Lg2 rfl rfl rfl (q1a rfl D14' (by rw [q0o];exact a1.1))<|Lg2 rfl rfl rfl (q1a rfl D4' (by rw [q0o];exact hrt))<|Lg2 rfl rfl rfl ((X_neqD a1.1 hrt a1.2 hrt8 rfl rfl).trans (by rw [decide_eq_false (fun h=>h hrr)]))<|Ls (q0s (v:=.bool _) rfl rfl)<|q0c<|tn<|q0x rfl<|q0q<|tn<|q0b<|q0a<|a_I rfl<|q0c<|tn<|q0r ?_);exact q0e rfl rfl (v:=.int _ _) rfl ⟨rfl,EE⟩
      · rw [if_neg (fun h=>hrr (hok.1 h).2.2)];(refine a_B rfl<|q0c<|tn<|q0b<|q0a<|m_B rfl<|m_B rfl<|Lg2 rfl rfl rfl (X_ld rfl Dc' rfl)<|Lg2 rfl rfl rfl (q1s rfl)<|Ls (q0s (v:=.bool _) rfl rfl)<|m_B rfl<|Lg2 rfl rfl rfl (q1a rfl D14' (by rw [q0o];exact a1.1))<|Lg2 rfl rfl rfl (q1a rfl D4' (by rw [q0o];exact hrt))<|Lg2 rfl rfl rfl ((X_neqD a1.1 hrt a1.2 hrt8 rfl rfl).trans (by rw [decide_eq_true hrr]))<|Ls (q0s (v:=.bool _) rfl rfl)<|q0c<|tn<|q0z rfl<|q0b<|q0a<|a_I rfl<|q0c<|tn<|q0r<|tr ?_);exact q0e rfl rfl (v:=.int _ _) rfl ⟨rfl,EE⟩
end Go.Proofs.YtpohjepbmgeplaaGreatDoor
