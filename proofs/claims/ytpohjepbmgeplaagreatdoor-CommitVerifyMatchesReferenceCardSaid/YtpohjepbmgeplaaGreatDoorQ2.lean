/- T, KV, SO, F, N1, E1, E2, E3, E4, E5, E6, FA, FB, KU, FC, FD, FE, FF, FG, KW, FH, FI, FJ, FK, FL, FM, FN, FO, FP, FQ. -/
import Derived.Test.YtpohjepbmgeplaaGreatDoorQ1
import Derived.Test.YtpohjepbmgeplaaGreatDoorProg
import Derived.Shelf.Spec.BitsCarry
import Derived.Shelf.Small.Bits
import Derived.Shelf.Small.Wraps
import Derived.Shelf.Strconv.Itoa0
import Derived.Shelf.Bits.Mul64
import Derived.Shelf.Slices.Turned
import Derived.Ground.Names2Prog
import Derived.Shelf.Slices.SearchI
import Derived.Shelf.Slices.Empties
namespace Go.Proofs.YtpohjepbmgeplaaGreatDoor
open Go.Proofs.K
set_option maxRecDepth 100000
instance:TMixed Tryz.prog:=⟨by kernel_rfl⟩
instance:TInt Tryz.prog 2 .i64:=⟨Tryz.underlying2⟩
theorem inf2:(Tryz.prog.info? 2).map (fun i=>(i.zero,i.size,i.bytes))=some (some (.int .i64 0),1,8):=by kernel_rfl
instance:TZero Tryz.prog 2 [.int .i64 0]:=q2k inf2 (by rfl)
instance:TSz Tryz.prog 2 1:=⟨q3b inf2⟩
instance:TOne Tryz.prog 2:=⟨⟨_,Tryz.underlying2,rfl⟩,q3b inf2⟩
instance:TInt Tryz.prog 3 .i64:=⟨Tryz.underlying3⟩
theorem inf3:(Tryz.prog.info? 3).map (fun i=>(i.zero,i.size,i.bytes))=some (some (.int .i64 0),1,8):=by kernel_rfl
instance:TZero Tryz.prog 3 [.int .i64 0]:=q2k inf3 (by rfl)
instance:TSz Tryz.prog 3 1:=⟨q3b inf3⟩
instance:TElem Tryz.prog 3 1 8:=⟨_,inf3,rfl,by decide⟩
instance:TOne Tryz.prog 3:=⟨⟨_,Tryz.underlying3,rfl⟩,q3b inf3⟩
theorem inf4:(Tryz.prog.info? 4).map (fun i=>(i.zero,i.size,i.bytes))=some (some (.bool false),1,1):=by kernel_rfl
instance:TZero Tryz.prog 4 [.bool false]:=q2k inf4 (by rfl)
instance:TSz Tryz.prog 4 1:=⟨q3b inf4⟩
instance:TElem Tryz.prog 4 1 1:=⟨_,inf4,rfl,by decide⟩
instance:TOne Tryz.prog 4:=⟨⟨_,Tryz.underlying4,rfl⟩,q3b inf4⟩
instance:TInt Tryz.prog 5 .u8:=⟨Tryz.underlying5⟩
theorem inf5:(Tryz.prog.info? 5).map (fun i=>(i.zero,i.size,i.bytes))=some (some (.int .u8 0),1,1):=by kernel_rfl
instance:TInfo Tryz.prog 5 1 1 (.int .u8 0):=⟨inf5⟩
instance:TZero Tryz.prog 5 [.int .u8 0]:=q2k inf5 (by rfl)
instance:TSz Tryz.prog 5 1:=⟨q3b inf5⟩
instance:TElem Tryz.prog 5 1 1:=⟨_,inf5,rfl,by decide⟩
instance:TOne Tryz.prog 5:=⟨⟨_,Tryz.underlying5,rfl⟩,q3b inf5⟩
instance:TSlice Tryz.prog 22 29:=⟨Tryz.underlying22⟩
theorem inf22:(Tryz.prog.info? 22).map (fun i=>(i.zero,i.size,i.bytes))=some (some (.slice none 0 0),1,24):=by kernel_rfl
instance:TZero Tryz.prog 22 [.slice none 0 0]:=q2k inf22 (by rfl)
instance:TSz Tryz.prog 22 1:=⟨q3b inf22⟩
instance:TElem Tryz.prog 22 1 24:=⟨_,inf22,rfl,by decide⟩
instance:TOne Tryz.prog 22:=⟨⟨_,Tryz.underlying22,rfl⟩,q3b inf22⟩
instance:TSlice Tryz.prog 23 31:=⟨Tryz.underlying23⟩
theorem inf23:(Tryz.prog.info? 23).map (fun i=>(i.zero,i.size,i.bytes))=some (some (.slice none 0 0),1,24):=by kernel_rfl
instance:TZero Tryz.prog 23 [.slice none 0 0]:=q2k inf23 (by rfl)
instance:TOne Tryz.prog 23:=⟨⟨_,Tryz.underlying23,rfl⟩,q3b inf23⟩
instance:TInt Tryz.prog 24 .u16:=⟨Tryz.underlying24⟩
theorem inf24:(Tryz.prog.info? 24).map (fun i=>(i.zero,i.size,i.bytes))=some (some (.int .u16 0),1,2):=by kernel_rfl
instance:TOne Tryz.prog 24:=⟨⟨_,Tryz.underlying24,rfl⟩,q3b inf24⟩
theorem inf26:(Tryz.prog.info? 26).map (fun i=>(i.zero,i.size,i.bytes))=some (some (.agg ([[.slice none 0 0],[.slice none 0 0],[.int .u8 0],[.int .u16 0],[.int .u16 0]].flatten).toArray),5,56):=by kernel_rfl
instance:TAgg Tryz.prog 26 5:=⟨⟨_,Tryz.underlying26,rfl⟩,q3b inf26⟩
instance:TFld Tryz.prog 26 0 0 22:=⟨⟨_,_,Tryz.underlying26,rfl,rfl,rfl⟩,q3e (k:=0) (by kernel_rfl)⟩
instance:TFld Tryz.prog 26 1 1 23:=⟨⟨_,_,Tryz.underlying26,rfl,rfl,rfl⟩,q3e (k:=0) (by kernel_rfl)⟩
instance:TFld Tryz.prog 26 2 2 5:=⟨⟨_,_,Tryz.underlying26,rfl,rfl,rfl⟩,q3e (k:=0) (by kernel_rfl)⟩
instance:TFld Tryz.prog 26 3 3 24:=⟨⟨_,_,Tryz.underlying26,rfl,rfl,rfl⟩,q3e (k:=0) (by kernel_rfl)⟩
instance:TFld Tryz.prog 26 4 4 24:=⟨⟨_,_,Tryz.underlying26,rfl,rfl,rfl⟩,q3e (k:=0) (by kernel_rfl)⟩
theorem inf28:(Tryz.prog.info? 28).map (fun i=>(i.zero,i.size,i.bytes))=some (some (.agg ([[.int .i64 0],[.int .i64 0],[.int .i64 0],[.int .i64 0]].flatten).toArray),4,32):=by kernel_rfl
instance:TZero Tryz.prog 28 [[.int .i64 0],[.int .i64 0],[.int .i64 0],[.int .i64 0]].flatten:=q2k inf28 (by rfl)
instance:TAgg Tryz.prog 28 4:=⟨⟨_,Tryz.underlying28,rfl⟩,q3b inf28⟩
instance:TFld Tryz.prog 28 0 0 3:=⟨⟨_,_,Tryz.underlying28,rfl,rfl,rfl⟩,q3e (k:=0) (by kernel_rfl)⟩
instance:TFld Tryz.prog 28 1 1 3:=⟨⟨_,_,Tryz.underlying28,rfl,rfl,rfl⟩,q3e (k:=0) (by kernel_rfl)⟩
instance:TFld Tryz.prog 28 2 2 3:=⟨⟨_,_,Tryz.underlying28,rfl,rfl,rfl⟩,q3e (k:=0) (by kernel_rfl)⟩
instance:TFld Tryz.prog 28 3 3 3:=⟨⟨_,_,Tryz.underlying28,rfl,rfl,rfl⟩,q3e (k:=0) (by kernel_rfl)⟩
instance:TSegs Tryz.prog 28 [[.int .i64 0],[.int .i64 0],[.int .i64 0],[.int .i64 0]]:=q5v Tryz.underlying28 (by kernel_rfl) (by kernel_rfl)
instance:TInt Tryz.prog 29 .u64:=⟨Tryz.underlying29⟩
theorem inf29:(Tryz.prog.info? 29).map (fun i=>(i.zero,i.size,i.bytes))=some (some (.int .u64 0),1,8):=by kernel_rfl
instance:TZero Tryz.prog 29 [.int .u64 0]:=q2k inf29 (by rfl)
instance:TSz Tryz.prog 29 1:=⟨q3b inf29⟩
instance:TElem Tryz.prog 29 1 8:=⟨_,inf29,rfl,by decide⟩
instance:TOne Tryz.prog 29:=⟨⟨_,Tryz.underlying29,rfl⟩,q3b inf29⟩
theorem inf31:(Tryz.prog.info? 31).map (fun i=>(i.zero,i.size,i.bytes))=some (some (.agg ([[.int .u64 0],[.int .u64 0]].flatten).toArray),2,16):=by kernel_rfl
instance:TZero Tryz.prog 31 [[.int .u64 0],[.int .u64 0]].flatten:=q2k inf31 (by rfl)
instance:TSz Tryz.prog 31 2:=⟨q3b inf31⟩
instance:TElem Tryz.prog 31 2 16:=⟨_,inf31,rfl,by decide⟩
instance:TAgg Tryz.prog 31 2:=⟨⟨_,Tryz.underlying31,rfl⟩,q3b inf31⟩
instance:TFld Tryz.prog 31 0 0 29:=⟨⟨_,_,Tryz.underlying31,rfl,rfl,rfl⟩,q3e (k:=0) (by kernel_rfl)⟩
instance:TFld Tryz.prog 31 1 1 29:=⟨⟨_,_,Tryz.underlying31,rfl,rfl,rfl⟩,q3e (k:=0) (by kernel_rfl)⟩
instance:TSegs Tryz.prog 31 [[.int .u64 0],[.int .u64 0]]:=q5v Tryz.underlying31 (by kernel_rfl) (by kernel_rfl)
instance:TSlice Tryz.prog 32 3:=⟨Tryz.underlying32⟩
theorem inf32:(Tryz.prog.info? 32).map (fun i=>(i.zero,i.size,i.bytes))=some (some (.slice none 0 0),1,24):=by kernel_rfl
instance:TOne Tryz.prog 32:=⟨⟨_,Tryz.underlying32,rfl⟩,q3b inf32⟩
theorem inf34:(Tryz.prog.info? 34).map (fun i=>(i.zero,i.size,i.bytes))=some (some (.agg ([[.slice none 0 0],([.int .u64 0]++[.int .u64 0]),[.slice none 0 0]].flatten).toArray),4,64):=by kernel_rfl
instance:TZero Tryz.prog 34 [[.slice none 0 0],([.int .u64 0]++[.int .u64 0]),[.slice none 0 0]].flatten:=q2k inf34 (by rfl)
instance:TAgg Tryz.prog 34 4:=⟨⟨_,Tryz.underlying34,rfl⟩,q3b inf34⟩
instance:TFld Tryz.prog 34 0 0 23:=⟨⟨_,_,Tryz.underlying34,rfl,rfl,rfl⟩,q3e (k:=0) (by kernel_rfl)⟩
instance:TFld Tryz.prog 34 1 1 31:=⟨⟨_,_,Tryz.underlying34,rfl,rfl,rfl⟩,q3e (k:=1) (by kernel_rfl)⟩
instance:TFld Tryz.prog 34 2 3 32:=⟨⟨_,_,Tryz.underlying34,rfl,rfl,rfl⟩,q3e (k:=0) (by kernel_rfl)⟩
instance:TSegs Tryz.prog 34 [[.slice none 0 0],([.int .u64 0]++[.int .u64 0]),[.slice none 0 0]]:=q5v Tryz.underlying34 (by kernel_rfl) (by kernel_rfl)
instance:TSlice Tryz.prog 38 22:=⟨Tryz.underlying38⟩
theorem inf38:(Tryz.prog.info? 38).map (fun i=>(i.zero,i.size,i.bytes))=some (some (.slice none 0 0),1,24):=by kernel_rfl
instance:TOne Tryz.prog 38:=⟨⟨_,Tryz.underlying38,rfl⟩,q3b inf38⟩
instance:TArr Tryz.prog 43 32 5:=⟨Tryz.underlying43⟩
theorem inf43:(Tryz.prog.info? 43).map (fun i=>(i.zero,i.size,i.bytes))=some (some (.agg ((List.replicate 32 [.int .u8 0]).flatten).toArray),32,32):=by kernel_rfl
instance:TZero Tryz.prog 43 (List.replicate 32 [.int .u8 0]).flatten:=q2k inf43 (by rfl)
instance:TSz Tryz.prog 43 32:=⟨q3b inf43⟩
instance:TElem Tryz.prog 43 32 32:=⟨_,inf43,rfl,by decide⟩
instance:TAgg Tryz.prog 43 32:=⟨⟨_,Tryz.underlying43,rfl⟩,q3b inf43⟩
instance:TSlice Tryz.prog 46 43:=⟨Tryz.underlying46⟩
theorem inf46:(Tryz.prog.info? 46).map (fun i=>(i.zero,i.size,i.bytes))=some (some (.slice none 0 0),1,24):=by kernel_rfl
instance:TZero Tryz.prog 46 [.slice none 0 0]:=q2k inf46 (by rfl)
instance:TOne Tryz.prog 46:=⟨⟨_,Tryz.underlying46,rfl⟩,q3b inf46⟩
theorem inf48:(Tryz.prog.info? 48).map (fun i=>(i.zero,i.size,i.bytes))=some (some (.agg ([[.slice none 0 0]].flatten).toArray),1,24):=by kernel_rfl
instance:TZero Tryz.prog 48 [[.slice none 0 0]].flatten:=q2k inf48 (by rfl)
instance:TAgg Tryz.prog 48 1:=⟨⟨_,Tryz.underlying48,rfl⟩,q3b inf48⟩
instance:TFld Tryz.prog 48 0 0 46:=⟨⟨_,_,Tryz.underlying48,rfl,rfl,rfl⟩,q3e (k:=0) (by kernel_rfl)⟩
instance:TSegs Tryz.prog 48 [[.slice none 0 0]]:=q5v Tryz.underlying48 (by kernel_rfl) (by kernel_rfl)
theorem inf50:(Tryz.prog.info? 50).map (fun i=>(i.zero,i.size,i.bytes))=some (some (.agg ([[.slice none 0 0],[.slice none 0 0],[.slice none 0 0],([.slice none 0 0])].flatten).toArray),4,96):=by kernel_rfl
instance:TZero Tryz.prog 50 [[.slice none 0 0],[.slice none 0 0],[.slice none 0 0],([.slice none 0 0])].flatten:=q2k inf50 (by rfl)
instance:TAgg Tryz.prog 50 4:=⟨⟨_,Tryz.underlying50,rfl⟩,q3b inf50⟩
instance:TFld Tryz.prog 50 0 0 23:=⟨⟨_,_,Tryz.underlying50,rfl,rfl,rfl⟩,q3e (k:=0) (by kernel_rfl)⟩
instance:TFld Tryz.prog 50 1 1 23:=⟨⟨_,_,Tryz.underlying50,rfl,rfl,rfl⟩,q3e (k:=0) (by kernel_rfl)⟩
instance:TFld Tryz.prog 50 2 2 38:=⟨⟨_,_,Tryz.underlying50,rfl,rfl,rfl⟩,q3e (k:=0) (by kernel_rfl)⟩
instance:TFld Tryz.prog 50 3 3 48:=⟨⟨_,_,Tryz.underlying50,rfl,rfl,rfl⟩,q3e (k:=0) (by kernel_rfl)⟩
instance:TSegs Tryz.prog 50 [[.slice none 0 0],[.slice none 0 0],[.slice none 0 0],([.slice none 0 0])]:=q5v Tryz.underlying50 (by kernel_rfl) (by kernel_rfl)
theorem inf58:(Tryz.prog.info? 58).map (fun i=>(i.zero,i.size,i.bytes))=some (some (.agg ([[.int .u8 0],[.int .u16 0],[.int .u64 0]].flatten).toArray),3,16):=by kernel_rfl
instance:TSz Tryz.prog 58 3:=⟨q3b inf58⟩
instance:TAgg Tryz.prog 58 3:=⟨⟨_,Tryz.underlying58,rfl⟩,q3b inf58⟩
instance:TFld Tryz.prog 58 0 0 5:=⟨⟨_,_,Tryz.underlying58,rfl,rfl,rfl⟩,q3e (k:=0) (by kernel_rfl)⟩
instance:TFld Tryz.prog 58 1 1 24:=⟨⟨_,_,Tryz.underlying58,rfl,rfl,rfl⟩,q3e (k:=0) (by kernel_rfl)⟩
instance:TFld Tryz.prog 58 2 2 29:=⟨⟨_,_,Tryz.underlying58,rfl,rfl,rfl⟩,q3e (k:=0) (by kernel_rfl)⟩
instance:TArr Tryz.prog 59 2 58:=⟨Tryz.underlying59⟩
theorem inf61:(Tryz.prog.info? 61).map (fun i=>(i.zero,i.size,i.bytes))=some (some (.agg ([([.slice none 0 0]++([.int .u64 0]++[.int .u64 0])++[.slice none 0 0]),[.int .i64 0],([.int .u64 0]++[.int .u64 0]),([.slice none 0 0]++[.slice none 0 0]++[.slice none 0 0]++([.slice none 0 0]))].flatten).toArray),11,184):=by kernel_rfl
instance:TZero Tryz.prog 61 [([.slice none 0 0]++([.int .u64 0]++[.int .u64 0])++[.slice none 0 0]),[.int .i64 0],([.int .u64 0]++[.int .u64 0]),([.slice none 0 0]++[.slice none 0 0]++[.slice none 0 0]++([.slice none 0 0]))].flatten:=q2k inf61 (by rfl)
instance:TAgg Tryz.prog 61 11:=⟨⟨_,Tryz.underlying61,rfl⟩,q3b inf61⟩
instance:TFld Tryz.prog 61 0 0 34:=⟨⟨_,_,Tryz.underlying61,rfl,rfl,rfl⟩,q3e (k:=3) (by kernel_rfl)⟩
instance:TFld Tryz.prog 61 1 4 3:=⟨⟨_,_,Tryz.underlying61,rfl,rfl,rfl⟩,q3e (k:=0) (by kernel_rfl)⟩
instance:TFld Tryz.prog 61 2 5 31:=⟨⟨_,_,Tryz.underlying61,rfl,rfl,rfl⟩,q3e (k:=1) (by kernel_rfl)⟩
instance:TFld Tryz.prog 61 3 7 50:=⟨⟨_,_,Tryz.underlying61,rfl,rfl,rfl⟩,q3e (k:=3) (by kernel_rfl)⟩
instance:TSegs Tryz.prog 61 [([.slice none 0 0]++([.int .u64 0]++[.int .u64 0])++[.slice none 0 0]),[.int .i64 0],([.int .u64 0]++[.int .u64 0]),([.slice none 0 0]++[.slice none 0 0]++[.slice none 0 0]++([.slice none 0 0]))]:=q5v Tryz.underlying61 (by kernel_rfl) (by kernel_rfl)
instance:TOne Tryz.prog 72:=⟨⟨_,Tryz.underlying72,rfl⟩,by kernel_rfl⟩
instance:TOne Tryz.prog 80:=⟨⟨_,Tryz.underlying80,rfl⟩,by kernel_rfl⟩
instance:TOne Tryz.prog 86:=⟨⟨_,Tryz.underlying86,rfl⟩,by kernel_rfl⟩
instance:TSlice Tryz.prog 91 2:=⟨Tryz.underlying91⟩
instance:TOne Tryz.prog 100:=⟨⟨_,Tryz.underlying100,rfl⟩,by kernel_rfl⟩
instance:TSlice Tryz.prog 102 129:=⟨Tryz.underlying102⟩
theorem inf102:(Tryz.prog.info? 102).map (fun i=>(i.zero,i.size,i.bytes))=some (some (.slice none 0 0),1,24):=by kernel_rfl
instance:TZero Tryz.prog 102 [.slice none 0 0]:=q2k inf102 (by rfl)
instance:TOne Tryz.prog 102:=⟨⟨_,Tryz.underlying102,rfl⟩,q3b inf102⟩
instance:TOne Tryz.prog 110:=⟨⟨_,Tryz.underlying110,rfl⟩,by kernel_rfl⟩
instance:TAgg Tryz.prog 112 2:=⟨⟨_,Tryz.underlying112,rfl⟩,by kernel_rfl⟩
instance:TFld Tryz.prog 112 0 0 72:=⟨⟨_,_,Tryz.underlying112,rfl,rfl,rfl⟩,q3e (k:=0) (by kernel_rfl)⟩
instance:TFld Tryz.prog 112 1 1 110:=⟨⟨_,_,Tryz.underlying112,rfl,rfl,rfl⟩,q3e (k:=0) (by kernel_rfl)⟩
theorem inf128:(Tryz.prog.info? 128).map (fun i=>(i.zero,i.size,i.bytes))=some (some (.agg ([[.slice none 0 0],[.slice none 0 0]].flatten).toArray),2,48):=by kernel_rfl
instance:TZero Tryz.prog 128 [[.slice none 0 0],[.slice none 0 0]].flatten:=q2k inf128 (by rfl)
instance:TAgg Tryz.prog 128 2:=⟨⟨_,Tryz.underlying128,rfl⟩,q3b inf128⟩
instance:TFld Tryz.prog 128 0 0 32:=⟨⟨_,_,Tryz.underlying128,rfl,rfl,rfl⟩,q3e (k:=0) (by kernel_rfl)⟩
instance:TFld Tryz.prog 128 1 1 102:=⟨⟨_,_,Tryz.underlying128,rfl,rfl,rfl⟩,q3e (k:=0) (by kernel_rfl)⟩
instance:TSegs Tryz.prog 128 [[.slice none 0 0],[.slice none 0 0]]:=q5v Tryz.underlying128 (by kernel_rfl) (by kernel_rfl)
instance:TSlice Tryz.prog 129 5:=⟨Tryz.underlying129⟩
theorem inf129:(Tryz.prog.info? 129).map (fun i=>(i.zero,i.size,i.bytes))=some (some (.slice none 0 0),1,24):=by kernel_rfl
instance:TZero Tryz.prog 129 [.slice none 0 0]:=q2k inf129 (by rfl)
instance:TSz Tryz.prog 129 1:=⟨q3b inf129⟩
instance:TElem Tryz.prog 129 1 24:=⟨_,inf129,rfl,by decide⟩
instance:TOne Tryz.prog 129:=⟨⟨_,Tryz.underlying129,rfl⟩,q3b inf129⟩
instance:TInt Tryz.prog 140 .u64:=⟨Tryz.underlying140⟩
instance:TSlice Tryz.prog 142 4:=⟨Tryz.underlying142⟩
instance:TOne Tryz.prog 144:=⟨⟨_,Tryz.underlying144,rfl⟩,by kernel_rfl⟩
theorem inf163:(Tryz.prog.info? 163).map (fun i=>(i.zero,i.size,i.bytes))=some (some (.agg ([[.int .i64 0],[.int .i64 0],[.slice none 0 0]].flatten).toArray),3,40):=by kernel_rfl
instance:TZero Tryz.prog 163 [[.int .i64 0],[.int .i64 0],[.slice none 0 0]].flatten:=q2k inf163 (by rfl)
instance:TAgg Tryz.prog 163 3:=⟨⟨_,Tryz.underlying163,rfl⟩,q3b inf163⟩
instance:TFld Tryz.prog 163 0 0 3:=⟨⟨_,_,Tryz.underlying163,rfl,rfl,rfl⟩,q3e (k:=0) (by kernel_rfl)⟩
instance:TFld Tryz.prog 163 1 1 3:=⟨⟨_,_,Tryz.underlying163,rfl,rfl,rfl⟩,q3e (k:=0) (by kernel_rfl)⟩
instance:TFld Tryz.prog 163 2 2 32:=⟨⟨_,_,Tryz.underlying163,rfl,rfl,rfl⟩,q3e (k:=0) (by kernel_rfl)⟩
instance:TSegs Tryz.prog 163 [[.int .i64 0],[.int .i64 0],[.slice none 0 0]]:=q5v Tryz.underlying163 (by kernel_rfl) (by kernel_rfl)
instance:TSlice Tryz.prog 165 168:=⟨Tryz.underlying165⟩
theorem inf165:(Tryz.prog.info? 165).map (fun i=>(i.zero,i.size,i.bytes))=some (some (.slice none 0 0),1,24):=by kernel_rfl
instance:TOne Tryz.prog 165:=⟨⟨_,Tryz.underlying165,rfl⟩,q3b inf165⟩
theorem inf168:(Tryz.prog.info? 168).map (fun i=>(i.zero,i.size,i.bytes))=some (some (.agg ([[.int .i64 0],[.int .i64 0]].flatten).toArray),2,16):=by kernel_rfl
instance:TZero Tryz.prog 168 [[.int .i64 0],[.int .i64 0]].flatten:=q2k inf168 (by rfl)
instance:TSz Tryz.prog 168 2:=⟨q3b inf168⟩
instance:TElem Tryz.prog 168 2 16:=⟨_,inf168,rfl,by decide⟩
instance:TFld Tryz.prog 168 0 0 3:=⟨⟨_,_,Tryz.underlying168,rfl,rfl,rfl⟩,q3e (k:=0) (by kernel_rfl)⟩
instance:TFld Tryz.prog 168 1 1 3:=⟨⟨_,_,Tryz.underlying168,rfl,rfl,rfl⟩,q3e (k:=0) (by kernel_rfl)⟩
instance:TSegs Tryz.prog 168 [[.int .i64 0],[.int .i64 0]]:=q5v Tryz.underlying168 (by kernel_rfl) (by kernel_rfl)
instance:TOne Tryz.prog 173:=⟨⟨_,Tryz.underlying173,rfl⟩,by kernel_rfl⟩
instance:TOne Tryz.prog 175:=⟨⟨_,Tryz.underlying175,rfl⟩,by kernel_rfl⟩
instance:TOne Tryz.prog 177:=⟨⟨_,Tryz.underlying177,rfl⟩,by kernel_rfl⟩
theorem inf189:(Tryz.prog.info? 189).map (fun i=>(i.zero,i.size,i.bytes))=some (some (.agg ([([.slice none 0 0]++[.slice none 0 0]),([.slice none 0 0]),[.slice none 0 0]].flatten).toArray),4,96):=by kernel_rfl
instance:TAgg Tryz.prog 189 4:=⟨⟨_,Tryz.underlying189,rfl⟩,q3b inf189⟩
instance:TFld Tryz.prog 189 0 0 128:=⟨⟨_,_,Tryz.underlying189,rfl,rfl,rfl⟩,q3e (k:=1) (by kernel_rfl)⟩
instance:TFld Tryz.prog 189 1 2 48:=⟨⟨_,_,Tryz.underlying189,rfl,rfl,rfl⟩,q3e (k:=0) (by kernel_rfl)⟩
instance:TFld Tryz.prog 189 2 3 165:=⟨⟨_,_,Tryz.underlying189,rfl,rfl,rfl⟩,q3e (k:=0) (by kernel_rfl)⟩
instance:TSegs Tryz.prog 189 [([.slice none 0 0]++[.slice none 0 0]),([.slice none 0 0]),[.slice none 0 0]]:=q5v Tryz.underlying189 (by kernel_rfl) (by kernel_rfl)
instance:TInt Tryz.prog 196 .u32:=⟨Tryz.underlying196⟩
theorem inf196:(Tryz.prog.info? 196).map (fun i=>(i.zero,i.size,i.bytes))=some (some (.int .u32 0),1,4):=by kernel_rfl
instance:TZero Tryz.prog 196 [.int .u32 0]:=q2k inf196 (by rfl)
instance:TSz Tryz.prog 196 1:=⟨q3b inf196⟩
instance:TOne Tryz.prog 196:=⟨⟨_,Tryz.underlying196,rfl⟩,q3b inf196⟩
instance:TFld Tryz.prog 198 0 0 29:=⟨⟨_,_,Tryz.underlying198,rfl,rfl,rfl⟩,q3e (k:=0) (by kernel_rfl)⟩
instance:TFld Tryz.prog 198 1 1 29:=⟨⟨_,_,Tryz.underlying198,rfl,rfl,rfl⟩,q3e (k:=0) (by kernel_rfl)⟩
instance:TArr Tryz.prog 220 8 196:=⟨Tryz.underlying220⟩
theorem inf220:(Tryz.prog.info? 220).map (fun i=>(i.zero,i.size,i.bytes))=some (some (.agg ((List.replicate 8 [.int .u32 0]).flatten).toArray),8,32):=by kernel_rfl
instance:TZero Tryz.prog 220 (List.replicate 8 [.int .u32 0]).flatten:=q2k inf220 (by rfl)
instance:TAgg Tryz.prog 220 8:=⟨⟨_,Tryz.underlying220,rfl⟩,q3b inf220⟩
instance:TArr Tryz.prog 221 8 196:=⟨Tryz.underlying221⟩
theorem inf221:(Tryz.prog.info? 221).map (fun i=>(i.zero,i.size,i.bytes))=some (some (.agg ((List.replicate 8 [.int .u32 0]).flatten).toArray),8,32):=by kernel_rfl
instance:TZero Tryz.prog 221 (List.replicate 8 [.int .u32 0]).flatten:=q2k inf221 (by rfl)
instance:TAgg Tryz.prog 221 8:=⟨⟨_,Tryz.underlying221,rfl⟩,q3b inf221⟩
instance:TArr Tryz.prog 236 64 196:=⟨Tryz.underlying236⟩
theorem inf236:(Tryz.prog.info? 236).map (fun i=>(i.zero,i.size,i.bytes))=some (some (.agg ((List.replicate 64 [.int .u32 0]).flatten).toArray),64,256):=by kernel_rfl
instance:TZero Tryz.prog 236 (List.replicate 64 [.int .u32 0]).flatten:=q2k inf236 (by rfl)
instance:TAgg Tryz.prog 236 64:=⟨⟨_,Tryz.underlying236,rfl⟩,q3b inf236⟩
instance:TSlice Tryz.prog 239 196:=⟨Tryz.underlying239⟩
instance:TArr Tryz.prog 241 64 5:=⟨Tryz.underlying241⟩
end Go.Proofs.YtpohjepbmgeplaaGreatDoor
namespace Go.Proofs.K
open Go.RowKit
variable {P:Program} {n:NN} {f:Fr} {w:World}
variable {d:Tmp} {t:TypeId} {pos:String} {af:Array Edge} {g:Option (Nat × Bool)}
theorem X_ext {dd:Option Tmp} {id:FuncId} {l:List Operand} {vl:List Value} {tys:Array TypeId} {v:Value} (ha:l.map (ev n f)=vl) (h:(callFunc id vl.toArray).run P w=.ok (.value v) w) :
    X P n ⟨dd,.call ⟨.value (.func id),l.toArray,tys⟩,t,pos,af,g⟩ f w=.ok (.value v) w:=by
  subst ha;simp [X,execOp,resolve,ev,Deferred.ofValue,invoke,h]
theorem add64 (x y:Nat) (w:World):(callFunc 144 #[.int .u64 x,.int .u64 y,.int .u64 0]).run Tryz.prog w =
    .ok (.value (.tuple #[.int .u64 (((x+y) % 18446744073709551616:Nat):Int),.int .u64 (((x+y) / 18446744073709551616:Nat):Int)])) w:=by
  rw [run_callFunc_extern Tryz.func144 (by kernel_rfl) (by kernel_rfl) (by kernel_rfl) (e:=add64Entry) (by kernel_rfl)];rw [run_add64 x y 0 (by omega) (by omega) (by omega) (by omega) w];simp only [Result.andThen];congr 5 <;> omega
theorem sub64 (x y:Nat) (w:World):(callFunc 205 #[.int .u64 x,.int .u64 y,.int .u64 0]).run Tryz.prog w =
    .ok (.value (.tuple #[.int .u64 (((x+18446744073709551616 - y) % 18446744073709551616:Nat):Int),.int .u64 ((if x < y then 1 else 0:Nat):Int)])) w:=by
  rw [run_callFunc_extern Tryz.func205 (by kernel_rfl) (by kernel_rfl) (by kernel_rfl) (e:=sub64Entry) (by kernel_rfl)];have h:=run_sub64 (P:=Tryz.prog) x y 0 (by omega) w;rw [show ((0:Nat):Int)=0 from rfl] at h;rw [h];rfl
end Go.Proofs.K
namespace Go.Proofs.K
section
variable {R:Nat→World→World→Prop} {P:Program} {n:NN} {Q:Exit→Fr→World→Prop} {f:Fr} {w:World} {ops:Array Oper} {A:Nat→World→Prop} {Fin:List Oper→(Rho→Fr)→(Rho→Nat→World→Prop)→Prop} {rest:List Oper} {k:Nat} {E:List Ent} {g:Rho→Fr} {H:Rho→Nat→World→Prop}
variable {d:Tmp} {t:TypeId} {pos:String} {af:Array Edge}
theorem DW_fc [ExtR R] {V:Rho→Value} {id:FuncId} [TFun P id] {x:Operand} {l:List Operand} {vl:Rho→List Value} {tys:Array TypeId} {first cap:Array Value} (hx:∀ r,ev n (g r) x=.func (.func id) first cap)
    (ha:∀ r,l.map (ev n (g r))=vl r) (hc:∀ r w,A k w→(∀ j,td ops k j=true→H r j w)→Calls P id (first++(vl r).toArray++cap) w fun e w'=>e=.returned (V r)∧Ext w w')
    (hr:DW R P n ops A Fin rest (k+1) E (fun r=>upd (g r) d (V r)) H):DW R P n ops A Fin (⟨some d,.call ⟨.value x,l.toArray,tys⟩,t,pos,af,none⟩ :: rest) k (.st V :: E) g H :=
  .st (fun r w hA hH=>⟨fun _=>q6v (X_clo (hx r) (ha r)) (hc r w hA hH) fun e w' ⟨he,hE⟩=>⟨_,he,rfl,ExtR.h _ _ _ hE⟩,fun hw=>by rw [q4c rfl] at hw;cases hw⟩) hr
end
end Go.Proofs.K
namespace Go.Proofs
open Go.Shelf
def Tryz.lays125_ren:Go.Shelf.Ren:=⟨fun | 125=>115 | 128=>163 | 129=>164 | n=>n,fun | 46=>140 | 3=>3 | 51=>196 | 53=>29 | 4=>4 | 5=>5 | 9=>9 | n=>n,fun | n=>n⟩
theorem Tryz.lays125:Go.Proofs.Lays.n125 Tryz.prog Tryz.lays125_ren:={
  mixed:=by kernel_rfl
  f125:=Tryz.func115.trans (congrArg some (by kernel_rfl))
  f128:=Tryz.func163.trans (congrArg some (by kernel_rfl))
  f129:=Tryz.func164.trans (congrArg some (by kernel_rfl))
  t3:=Tryz.underlying3
  a3:=Tryz.isAgg3
  z3:=Tryz.sizeOf3
  v3:=Tryz.zeroValue3
  t4:=Tryz.underlying4
  a4:=Tryz.isAgg4
  z4:=Tryz.sizeOf4
  v4:=Tryz.zeroValue4
  t5:=Tryz.underlying5
  a5:=Tryz.isAgg5
  z5:=Tryz.sizeOf5
  v5:=Tryz.zeroValue5
  t9:=Tryz.underlying9
  a9:=Tryz.isAgg9
  z9:=Tryz.sizeOf9
  v9:=Tryz.zeroValue9
  t46:=Tryz.underlying140
  a46:=Tryz.isAgg140
  z46:=Tryz.sizeOf140
  v46:=Tryz.zeroValue140
  t51:=Tryz.underlying196
  a51:=Tryz.isAgg196
  z51:=Tryz.sizeOf196
  v51:=Tryz.zeroValue196
  t53:=Tryz.underlying29
  a53:=Tryz.isAgg29
  z53:=Tryz.sizeOf29
  v53:=Tryz.zeroValue29 }
theorem Tryz.bits_Len (x:Int) (w:World) (h0:0≤x) (h1:x≤18446744073709551615) :
    Calls Tryz.prog 115 #[.int .u64 x] w fun e w'=>e=.returned (.int .i64 (Lib.bitLen x.toNat))∧w'=w:=Any.bits_Len Tryz.lays125 x w h0 h1
def Tryz.lays264_ren:Go.Shelf.Ren:=⟨fun | 264=>199 | n=>n,fun | 53=>29 | 46=>140 | n=>n,fun | n=>n⟩
theorem Tryz.lays264:Go.Proofs.Lays.n264 Tryz.prog Tryz.lays264_ren:={
  mixed:=by kernel_rfl
  f264:=Tryz.func199.trans (congrArg some (by kernel_rfl))
  t46:=Tryz.underlying140
  a46:=Tryz.isAgg140
  z46:=Tryz.sizeOf140
  v46:=Tryz.zeroValue140
  t53:=Tryz.underlying29
  a53:=Tryz.isAgg29
  z53:=Tryz.sizeOf29
  v53:=Tryz.zeroValue29 }
open Go.RowKit Go.Lib in
theorem Tryz.bits_Mul64 (x y:Nat) (hx:x < 18446744073709551616) (hy:y < 18446744073709551616) (w:World) :
    Calls Tryz.prog 199 #[.int .u64 x,.int .u64 y] w fun e w'=>e=.returned (.tuple #[.int .u64 ((x * y / 18446744073709551616:Nat):Int),.int .u64 ((x * y % 18446744073709551616:Nat):Int)])∧w'=w:=Any.bits_Mul64 Tryz.lays264 x y hx hy w
def Tryz.lays107_ren:Go.Shelf.Ren:=⟨fun | 107=>71 | 108=>127 | n=>n,fun | 28=>32 | 3=>3 | 4=>4 | 0=>0 | n=>n,fun | n=>n⟩
theorem Tryz.lays107:Go.Proofs.Lays.n107 Tryz.prog Tryz.lays107_ren:={
  mixed:=by kernel_rfl
  f107:=Tryz.func71.trans (congrArg some (by kernel_rfl))
  f108:=Tryz.func127.trans (congrArg some (by kernel_rfl))
  t0:=Tryz.underlying0
  a0:=Tryz.isAgg0
  z0:=Tryz.sizeOf0
  v0:=Tryz.zeroValue0
  t3:=Tryz.underlying3
  a3:=Tryz.isAgg3
  z3:=Tryz.sizeOf3
  v3:=Tryz.zeroValue3
  t4:=Tryz.underlying4
  a4:=Tryz.isAgg4
  z4:=Tryz.sizeOf4
  v4:=Tryz.zeroValue4
  t28:=Tryz.underlying32
  a28:=Tryz.isAgg32
  z28:=Tryz.sizeOf32
  v28:=Tryz.zeroValue32 }
open Go.Lib in
theorem Tryz.slices_Contains_int (b off n c:Nat) (zs:List Int) (x:Int) (w:World) (hz:n≤zs.length) (hbig:n≤9223372036854775807) (hc:∀ j,j < zs.length→w.cell? ⟨b,off+j,none⟩=some (.int .i64 (zs.getD j 0))) :
    Calls Tryz.prog 71 #[.slice (some ⟨b,off,none⟩) n c,.int .i64 x] w fun e w'=>e=.returned (.bool ((zs.take n).contains x))∧w'=w:=Any.slices_Contains_int Tryz.lays107 b off n c zs x w hz hbig hc
def Tryz.laysNm225_ren:Go.Shelf.Ren:=⟨fun | 25=>63 | 31=>119 | 32=>120 | 37=>168 | n=>n,fun | 22=>32 | 3=>3 | 4=>4 | 40=>140 | 0=>0 | n=>n,fun | n=>n⟩
theorem Tryz.laysNm225:Go.Proofs.Lays2.n25 Tryz.prog Tryz.laysNm225_ren:={
  mixed:=by kernel_rfl
  f25:=Tryz.func63.trans (congrArg some (by kernel_rfl))
  f31:=Tryz.func119.trans (congrArg some (by kernel_rfl))
  f32:=Tryz.func120.trans (congrArg some (by kernel_rfl))
  f37:=Tryz.func168.trans (congrArg some (by kernel_rfl))
  t0:=Tryz.underlying0
  a0:=Tryz.isAgg0
  z0:=Tryz.sizeOf0
  v0:=Tryz.zeroValue0
  t3:=Tryz.underlying3
  a3:=Tryz.isAgg3
  z3:=Tryz.sizeOf3
  v3:=Tryz.zeroValue3
  t4:=Tryz.underlying4
  a4:=Tryz.isAgg4
  z4:=Tryz.sizeOf4
  v4:=Tryz.zeroValue4
  t22:=Tryz.underlying32
  a22:=Tryz.isAgg32
  z22:=Tryz.sizeOf32
  v22:=Tryz.zeroValue32
  t40:=Tryz.underlying140
  a40:=Tryz.isAgg140
  z40:=Tryz.sizeOf140
  v40:=Tryz.zeroValue140 }
open Go.RowKit Go.Lib in
theorem Tryz.slices_BinarySearch_int (b off n c:Nat) (zs:List Int) (x:Int) (w:World) (hz:n≤zs.length) (hbig:n < 4611686018427387904) (hc:∀ j,j < zs.length→w.cell? ⟨b,off+j,none⟩=some (.int .i64 (zs.getD j 0))) (hs:(zs.take n).Pairwise (·≤·)) :
    Calls Tryz.prog 63 #[.slice (some ⟨b,off,none⟩) n c,.int .i64 x] w fun e w'=>e=.returned (.tuple #[.int .i64 ((zs.take n).countP (· < x):Nat),.bool ((zs.take n).contains x)])∧∃ q,w'=w.drewN q:=Any.slices_BinarySearch_int Tryz.laysNm225 b off n c zs x w hz hbig hc hs
open Go.RowKit Go.Lib in
theorem Tryz.slices_BinarySearch_int_empty (a:Option Addr) (c:Nat) (x:Int) (w:World) :
    Calls Tryz.prog 63 #[.slice a 0 c,.int .i64 x] w fun e w'=>e=.returned (.tuple #[.int .i64 0,.bool false])∧w'=w:=Any.slices_BinarySearch_int_empty Tryz.laysNm225 a c x w
end Go.Proofs
namespace Go.Proofs.YtpohjepbmgeplaaGreatDoor
open Go.Proofs.K
instance:TFun Tryz.prog 10:=q0u Tryz.func10 (by kernel_rfl) (by kernel_rfl)
instance:TFun Tryz.prog 11:=q0u Tryz.func11 (by kernel_rfl) (by kernel_rfl)
instance:TFun Tryz.prog 12:=q0u Tryz.func12 (by kernel_rfl) (by kernel_rfl)
instance:TFun Tryz.prog 13:=q0u Tryz.func13 (by kernel_rfl) (by kernel_rfl)
instance:TFun Tryz.prog 14:=q0u Tryz.func14 (by kernel_rfl) (by kernel_rfl)
instance:TFun Tryz.prog 15:=q0u Tryz.func15 (by kernel_rfl) (by kernel_rfl)
instance:TFun Tryz.prog 16:=q0u Tryz.func16 (by kernel_rfl) (by kernel_rfl)
instance:TFun Tryz.prog 17:=q0u Tryz.func17 (by kernel_rfl) (by kernel_rfl)
instance:TFun Tryz.prog 20:=q0u Tryz.func20 (by kernel_rfl) (by kernel_rfl)
instance:TFun Tryz.prog 21:=q0u Tryz.func21 (by kernel_rfl) (by kernel_rfl)
instance:TFun Tryz.prog 22:=q0u Tryz.func22 (by kernel_rfl) (by kernel_rfl)
instance:TFun Tryz.prog 23:=q0u Tryz.func23 (by kernel_rfl) (by kernel_rfl)
instance:TFun Tryz.prog 24:=q0u Tryz.func24 (by kernel_rfl) (by kernel_rfl)
instance:TFun Tryz.prog 25:=q0u Tryz.func25 (by kernel_rfl) (by kernel_rfl)
instance:TFun Tryz.prog 27:=q0u Tryz.func27 (by kernel_rfl) (by kernel_rfl)
instance:TFun Tryz.prog 28:=q0u Tryz.func28 (by kernel_rfl) (by kernel_rfl)
instance:TFun Tryz.prog 29:=q0u Tryz.func29 (by kernel_rfl) (by kernel_rfl)
instance:TFun Tryz.prog 30:=q0u Tryz.func30 (by kernel_rfl) (by kernel_rfl)
instance:TFun Tryz.prog 31:=q0u Tryz.func31 (by kernel_rfl) (by kernel_rfl)
instance:TFun Tryz.prog 32:=q0u Tryz.func32 (by kernel_rfl) (by kernel_rfl)
instance:TFun Tryz.prog 33:=q0u Tryz.func33 (by kernel_rfl) (by kernel_rfl)
instance:TFun Tryz.prog 34:=q0u Tryz.func34 (by kernel_rfl) (by kernel_rfl)
instance:TFun Tryz.prog 35:=q0u Tryz.func35 (by kernel_rfl) (by kernel_rfl)
instance:TFun Tryz.prog 36:=q0u Tryz.func36 (by kernel_rfl) (by kernel_rfl)
instance:TFun Tryz.prog 37:=q0u Tryz.func37 (by kernel_rfl) (by kernel_rfl)
instance:TFun Tryz.prog 38:=q0u Tryz.func38 (by kernel_rfl) (by kernel_rfl)
instance:TFun Tryz.prog 39:=q0u Tryz.func39 (by kernel_rfl) (by kernel_rfl)
instance:TFun Tryz.prog 40:=q0u Tryz.func40 (by kernel_rfl) (by kernel_rfl)
instance:TFun Tryz.prog 41:=q0u Tryz.func41 (by kernel_rfl) (by kernel_rfl)
instance:TFun Tryz.prog 44:=q0u Tryz.func44 (by kernel_rfl) (by kernel_rfl)
instance:TFun Tryz.prog 45:=q0u Tryz.func45 (by kernel_rfl) (by kernel_rfl)
instance:TFun Tryz.prog 46:=q0u Tryz.func46 (by kernel_rfl) (by kernel_rfl)
instance:TFun Tryz.prog 47:=q0u Tryz.func47 (by kernel_rfl) (by kernel_rfl)
instance:TFun Tryz.prog 48:=q0u Tryz.func48 (by kernel_rfl) (by kernel_rfl)
instance:TFun Tryz.prog 49:=q0u Tryz.func49 (by kernel_rfl) (by kernel_rfl)
instance:TFun Tryz.prog 50:=q0u Tryz.func50 (by kernel_rfl) (by kernel_rfl)
instance:TFun Tryz.prog 51:=q0u Tryz.func51 (by kernel_rfl) (by kernel_rfl)
instance:TFun Tryz.prog 52:=q0u Tryz.func52 (by kernel_rfl) (by kernel_rfl)
instance:TFun Tryz.prog 53:=q0u Tryz.func53 (by kernel_rfl) (by kernel_rfl)
instance:TFun Tryz.prog 54:=q0u Tryz.func54 (by kernel_rfl) (by kernel_rfl)
instance:TFun Tryz.prog 55:=q0u Tryz.func55 (by kernel_rfl) (by kernel_rfl)
instance:TFun Tryz.prog 56:=q0u Tryz.func56 (by kernel_rfl) (by kernel_rfl)
instance:TFun Tryz.prog 57:=q0u Tryz.func57 (by kernel_rfl) (by kernel_rfl)
instance:TFun Tryz.prog 58:=q0u Tryz.func58 (by kernel_rfl) (by kernel_rfl)
instance:TFun Tryz.prog 59:=q0u Tryz.func59 (by kernel_rfl) (by kernel_rfl)
instance:TFun Tryz.prog 60:=q0u Tryz.func60 (by kernel_rfl) (by kernel_rfl)
instance:TFun Tryz.prog 61:=q0u Tryz.func61 (by kernel_rfl) (by kernel_rfl)
instance:TFun Tryz.prog 62:=q0u Tryz.func62 (by kernel_rfl) (by kernel_rfl)
instance:TFun Tryz.prog 63:=q0u Tryz.func63 (by kernel_rfl) (by kernel_rfl)
instance:TFun Tryz.prog 64:=q0u Tryz.func64 (by kernel_rfl) (by kernel_rfl)
instance:TFun Tryz.prog 65:=q0u Tryz.func65 (by kernel_rfl) (by kernel_rfl)
instance:TFun Tryz.prog 66:=q0u Tryz.func66 (by kernel_rfl) (by kernel_rfl)
instance:TFun Tryz.prog 67:=q0u Tryz.func67 (by kernel_rfl) (by kernel_rfl)
instance:TFun Tryz.prog 68:=q0u Tryz.func68 (by kernel_rfl) (by kernel_rfl)
instance:TFun Tryz.prog 71:=q0u Tryz.func71 (by kernel_rfl) (by kernel_rfl)
instance:TFun Tryz.prog 72:=q0u Tryz.func72 (by kernel_rfl) (by kernel_rfl)
instance:TFun Tryz.prog 73:=q0u Tryz.func73 (by kernel_rfl) (by kernel_rfl)
instance:TFun Tryz.prog 74:=q0u Tryz.func74 (by kernel_rfl) (by kernel_rfl)
instance:TFun Tryz.prog 75:=q0u Tryz.func75 (by kernel_rfl) (by kernel_rfl)
instance:TFun Tryz.prog 76:=q0u Tryz.func76 (by kernel_rfl) (by kernel_rfl)
instance:TFun Tryz.prog 77:=q0u Tryz.func77 (by kernel_rfl) (by kernel_rfl)
instance:TFun Tryz.prog 78:=q0u Tryz.func78 (by kernel_rfl) (by kernel_rfl)
instance:TFun Tryz.prog 79:=q0u Tryz.func79 (by kernel_rfl) (by kernel_rfl)
instance:TFun Tryz.prog 80:=q0u Tryz.func80 (by kernel_rfl) (by kernel_rfl)
instance:TFun Tryz.prog 81:=q0u Tryz.func81 (by kernel_rfl) (by kernel_rfl)
instance:TFun Tryz.prog 82:=q0u Tryz.func82 (by kernel_rfl) (by kernel_rfl)
instance:TFun Tryz.prog 83:=q0u Tryz.func83 (by kernel_rfl) (by kernel_rfl)
instance:TFun Tryz.prog 84:=q0u Tryz.func84 (by kernel_rfl) (by kernel_rfl)
instance:TFun Tryz.prog 85:=q0u Tryz.func85 (by kernel_rfl) (by kernel_rfl)
instance:TFun Tryz.prog 86:=q0u Tryz.func86 (by kernel_rfl) (by kernel_rfl)
instance:TFun Tryz.prog 87:=q0u Tryz.func87 (by kernel_rfl) (by kernel_rfl)
instance:TFun Tryz.prog 88:=q0u Tryz.func88 (by kernel_rfl) (by kernel_rfl)
instance:TFun Tryz.prog 89:=q0u Tryz.func89 (by kernel_rfl) (by kernel_rfl)
instance:TFun Tryz.prog 90:=q0u Tryz.func90 (by kernel_rfl) (by kernel_rfl)
instance:TFun Tryz.prog 91:=q0u Tryz.func91 (by kernel_rfl) (by kernel_rfl)
instance:TFun Tryz.prog 92:=q0u Tryz.func92 (by kernel_rfl) (by kernel_rfl)
instance:TFun Tryz.prog 93:=q0u Tryz.func93 (by kernel_rfl) (by kernel_rfl)
instance:TFun Tryz.prog 94:=q0u Tryz.func94 (by kernel_rfl) (by kernel_rfl)
instance:TFun Tryz.prog 95:=q0u Tryz.func95 (by kernel_rfl) (by kernel_rfl)
instance:TFun Tryz.prog 97:=q0u Tryz.func97 (by kernel_rfl) (by kernel_rfl)
instance:TFun Tryz.prog 98:=q0u Tryz.func98 (by kernel_rfl) (by kernel_rfl)
instance:TFun Tryz.prog 99:=q0u Tryz.func99 (by kernel_rfl) (by kernel_rfl)
instance:TFun Tryz.prog 100:=q0u Tryz.func100 (by kernel_rfl) (by kernel_rfl)
instance:TFun Tryz.prog 101:=q0u Tryz.func101 (by kernel_rfl) (by kernel_rfl)
instance:TFun Tryz.prog 102:=q0u Tryz.func102 (by kernel_rfl) (by kernel_rfl)
instance:TFun Tryz.prog 103:=q0u Tryz.func103 (by kernel_rfl) (by kernel_rfl)
instance:TFun Tryz.prog 104:=q0u Tryz.func104 (by kernel_rfl) (by kernel_rfl)
instance:TFun Tryz.prog 105:=q0u Tryz.func105 (by kernel_rfl) (by kernel_rfl)
instance:TFun Tryz.prog 106:=q0u Tryz.func106 (by kernel_rfl) (by kernel_rfl)
instance:TFun Tryz.prog 107:=q0u Tryz.func107 (by kernel_rfl) (by kernel_rfl)
instance:TFun Tryz.prog 108:=q0u Tryz.func108 (by kernel_rfl) (by kernel_rfl)
instance:TFun Tryz.prog 109:=q0u Tryz.func109 (by kernel_rfl) (by kernel_rfl)
instance:TFun Tryz.prog 110:=q0u Tryz.func110 (by kernel_rfl) (by kernel_rfl)
instance:TFun Tryz.prog 111:=q0u Tryz.func111 (by kernel_rfl) (by kernel_rfl)
instance:TFun Tryz.prog 112:=q0u Tryz.func112 (by kernel_rfl) (by kernel_rfl)
instance:TFun Tryz.prog 113:=q0u Tryz.func113 (by kernel_rfl) (by kernel_rfl)
instance:TFun Tryz.prog 114:=q0u Tryz.func114 (by kernel_rfl) (by kernel_rfl)
instance:TFun Tryz.prog 115:=q0u Tryz.func115 (by kernel_rfl) (by kernel_rfl)
instance:TFun Tryz.prog 116:=q0u Tryz.func116 (by kernel_rfl) (by kernel_rfl)
instance:TFun Tryz.prog 117:=q0u Tryz.func117 (by kernel_rfl) (by kernel_rfl)
instance:TFun Tryz.prog 121:=q0u Tryz.func121 (by kernel_rfl) (by kernel_rfl)
instance:TFun Tryz.prog 122:=q0u Tryz.func122 (by kernel_rfl) (by kernel_rfl)
instance:TFun Tryz.prog 123:=q0u Tryz.func123 (by kernel_rfl) (by kernel_rfl)
instance:TFun Tryz.prog 124:=q0u Tryz.func124 (by kernel_rfl) (by kernel_rfl)
instance:TFun Tryz.prog 125:=q0u Tryz.func125 (by kernel_rfl) (by kernel_rfl)
instance:TFun Tryz.prog 128:=q0u Tryz.func128 (by kernel_rfl) (by kernel_rfl)
instance:TFun Tryz.prog 129:=q0u Tryz.func129 (by kernel_rfl) (by kernel_rfl)
instance:TFun Tryz.prog 130:=q0u Tryz.func130 (by kernel_rfl) (by kernel_rfl)
instance:TFun Tryz.prog 131:=q0u Tryz.func131 (by kernel_rfl) (by kernel_rfl)
instance:TFun Tryz.prog 132:=q0u Tryz.func132 (by kernel_rfl) (by kernel_rfl)
instance:TFun Tryz.prog 133:=q0u Tryz.func133 (by kernel_rfl) (by kernel_rfl)
instance:TFun Tryz.prog 134:=q0u Tryz.func134 (by kernel_rfl) (by kernel_rfl)
instance:TFun Tryz.prog 135:=q0u Tryz.func135 (by kernel_rfl) (by kernel_rfl)
instance:TFun Tryz.prog 136:=q0u Tryz.func136 (by kernel_rfl) (by kernel_rfl)
instance:TFun Tryz.prog 137:=q0u Tryz.func137 (by kernel_rfl) (by kernel_rfl)
instance:TFun Tryz.prog 138:=q0u Tryz.func138 (by kernel_rfl) (by kernel_rfl)
instance:TFun Tryz.prog 139:=q0u Tryz.func139 (by kernel_rfl) (by kernel_rfl)
instance:TFun Tryz.prog 140:=q0u Tryz.func140 (by kernel_rfl) (by kernel_rfl)
instance:TFun Tryz.prog 141:=q0u Tryz.func141 (by kernel_rfl) (by kernel_rfl)
instance:TFun Tryz.prog 142:=q0u Tryz.func142 (by kernel_rfl) (by kernel_rfl)
instance:TFun Tryz.prog 143:=q0u Tryz.func143 (by kernel_rfl) (by kernel_rfl)
instance:TFun Tryz.prog 145:=q0u Tryz.func145 (by kernel_rfl) (by kernel_rfl)
instance:TFun Tryz.prog 146:=q0u Tryz.func146 (by kernel_rfl) (by kernel_rfl)
instance:TFun Tryz.prog 147:=q0u Tryz.func147 (by kernel_rfl) (by kernel_rfl)
instance:TFun Tryz.prog 149:=q0u Tryz.func149 (by kernel_rfl) (by kernel_rfl)
instance:TFun Tryz.prog 150:=q0u Tryz.func150 (by kernel_rfl) (by kernel_rfl)
instance:TFun Tryz.prog 151:=q0u Tryz.func151 (by kernel_rfl) (by kernel_rfl)
instance:TFun Tryz.prog 152:=q0u Tryz.func152 (by kernel_rfl) (by kernel_rfl)
instance:TFun Tryz.prog 153:=q0u Tryz.func153 (by kernel_rfl) (by kernel_rfl)
instance:TFun Tryz.prog 154:=q0u Tryz.func154 (by kernel_rfl) (by kernel_rfl)
instance:TFun Tryz.prog 155:=q0u Tryz.func155 (by kernel_rfl) (by kernel_rfl)
instance:TFun Tryz.prog 156:=q0u Tryz.func156 (by kernel_rfl) (by kernel_rfl)
instance:TFun Tryz.prog 157:=q0u Tryz.func157 (by kernel_rfl) (by kernel_rfl)
instance:TFun Tryz.prog 158:=q0u Tryz.func158 (by kernel_rfl) (by kernel_rfl)
instance:TFun Tryz.prog 159:=q0u Tryz.func159 (by kernel_rfl) (by kernel_rfl)
instance:TFun Tryz.prog 160:=q0u Tryz.func160 (by kernel_rfl) (by kernel_rfl)
instance:TFun Tryz.prog 161:=q0u Tryz.func161 (by kernel_rfl) (by kernel_rfl)
instance:TFun Tryz.prog 162:=q0u Tryz.func162 (by kernel_rfl) (by kernel_rfl)
instance:TFun Tryz.prog 165:=q0u Tryz.func165 (by kernel_rfl) (by kernel_rfl)
instance:TFun Tryz.prog 166:=q0u Tryz.func166 (by kernel_rfl) (by kernel_rfl)
instance:TFun Tryz.prog 167:=q0u Tryz.func167 (by kernel_rfl) (by kernel_rfl)
instance:TFun Tryz.prog 170:=q0u Tryz.func170 (by kernel_rfl) (by kernel_rfl)
instance:TFun Tryz.prog 171:=q0u Tryz.func171 (by kernel_rfl) (by kernel_rfl)
instance:TFun Tryz.prog 172:=q0u Tryz.func172 (by kernel_rfl) (by kernel_rfl)
instance:TFun Tryz.prog 173:=q0u Tryz.func173 (by kernel_rfl) (by kernel_rfl)
instance:TFun Tryz.prog 174:=q0u Tryz.func174 (by kernel_rfl) (by kernel_rfl)
instance:TFun Tryz.prog 175:=q0u Tryz.func175 (by kernel_rfl) (by kernel_rfl)
instance:TFun Tryz.prog 176:=q0u Tryz.func176 (by kernel_rfl) (by kernel_rfl)
instance:TFun Tryz.prog 177:=q0u Tryz.func177 (by kernel_rfl) (by kernel_rfl)
instance:TFun Tryz.prog 178:=q0u Tryz.func178 (by kernel_rfl) (by kernel_rfl)
instance:TFun Tryz.prog 179:=q0u Tryz.func179 (by kernel_rfl) (by kernel_rfl)
instance:TFun Tryz.prog 180:=q0u Tryz.func180 (by kernel_rfl) (by kernel_rfl)
instance:TFun Tryz.prog 181:=q0u Tryz.func181 (by kernel_rfl) (by kernel_rfl)
instance:TFun Tryz.prog 182:=q0u Tryz.func182 (by kernel_rfl) (by kernel_rfl)
instance:TFun Tryz.prog 183:=q0u Tryz.func183 (by kernel_rfl) (by kernel_rfl)
instance:TFun Tryz.prog 184:=q0u Tryz.func184 (by kernel_rfl) (by kernel_rfl)
instance:TFun Tryz.prog 185:=q0u Tryz.func185 (by kernel_rfl) (by kernel_rfl)
instance:TFun Tryz.prog 186:=q0u Tryz.func186 (by kernel_rfl) (by kernel_rfl)
instance:TFun Tryz.prog 187:=q0u Tryz.func187 (by kernel_rfl) (by kernel_rfl)
instance:TFun Tryz.prog 188:=q0u Tryz.func188 (by kernel_rfl) (by kernel_rfl)
instance:TFun Tryz.prog 189:=q0u Tryz.func189 (by kernel_rfl) (by kernel_rfl)
instance:TFun Tryz.prog 190:=q0u Tryz.func190 (by kernel_rfl) (by kernel_rfl)
instance:TFun Tryz.prog 191:=q0u Tryz.func191 (by kernel_rfl) (by kernel_rfl)
instance:TFun Tryz.prog 193:=q0u Tryz.func193 (by kernel_rfl) (by kernel_rfl)
instance:TFun Tryz.prog 194:=q0u Tryz.func194 (by kernel_rfl) (by kernel_rfl)
instance:TFun Tryz.prog 195:=q0u Tryz.func195 (by kernel_rfl) (by kernel_rfl)
instance:TFun Tryz.prog 196:=q0u Tryz.func196 (by kernel_rfl) (by kernel_rfl)
instance:TFun Tryz.prog 197:=q0u Tryz.func197 (by kernel_rfl) (by kernel_rfl)
instance:TFun Tryz.prog 199:=q0u Tryz.func199 (by kernel_rfl) (by kernel_rfl)
instance:TFun Tryz.prog 200:=q0u Tryz.func200 (by kernel_rfl) (by kernel_rfl)
instance:TFun Tryz.prog 201:=q0u Tryz.func201 (by kernel_rfl) (by kernel_rfl)
instance:TFun Tryz.prog 202:=q0u Tryz.func202 (by kernel_rfl) (by kernel_rfl)
instance:TFun Tryz.prog 206:=q0u Tryz.func206 (by kernel_rfl) (by kernel_rfl)
instance:TFun Tryz.prog 207:=q0u Tryz.func207 (by kernel_rfl) (by kernel_rfl)
instance:TFun Tryz.prog 208:=q0u Tryz.func208 (by kernel_rfl) (by kernel_rfl)
instance:TFun Tryz.prog 209:=q0u Tryz.func209 (by kernel_rfl) (by kernel_rfl)
instance:TFun Tryz.prog 210:=q0u Tryz.func210 (by kernel_rfl) (by kernel_rfl)
instance:TFun Tryz.prog 212:=q0u Tryz.func212 (by kernel_rfl) (by kernel_rfl)
instance:TFun Tryz.prog 213:=q0u Tryz.func213 (by kernel_rfl) (by kernel_rfl)
instance:TFun Tryz.prog 214:=q0u Tryz.func214 (by kernel_rfl) (by kernel_rfl)
instance:TFun Tryz.prog 215:=q0u Tryz.func215 (by kernel_rfl) (by kernel_rfl)
instance:TFun Tryz.prog 216:=q0u Tryz.func216 (by kernel_rfl) (by kernel_rfl)
instance:TFun Tryz.prog 217:=q0u Tryz.func217 (by kernel_rfl) (by kernel_rfl)
instance:TFun Tryz.prog 218:=q0u Tryz.func218 (by kernel_rfl) (by kernel_rfl)
instance:TFun Tryz.prog 219:=q0u Tryz.func219 (by kernel_rfl) (by kernel_rfl)
instance:TFun Tryz.prog 220:=q0u Tryz.func220 (by kernel_rfl) (by kernel_rfl)
instance:TFun Tryz.prog 222:=q0u Tryz.func222 (by kernel_rfl) (by kernel_rfl)
instance:TFun Tryz.prog 241:=q0u Tryz.func241 (by kernel_rfl) (by kernel_rfl)
instance:TFun Tryz.prog 242:=q0u Tryz.func242 (by kernel_rfl) (by kernel_rfl)
end Go.Proofs.YtpohjepbmgeplaaGreatDoor
namespace Go.Proofs.K
open Go.RowKit
theorem q5u (x:Nat) (m:Int) (h:0≤m∧m≤64):(x:Int).fdiv (2 ^ (min m.toNat 64))=((x / 2 ^ m.toNat:Nat):Int):=by
  rw [Nat.min_eq_left (by omega),Int.fdiv_eq_ediv_of_nonneg _ (by exact Int.le_of_lt (Int.pow_pos (by omega)))];simp
theorem u8_nat (x:Nat):IntKind.u8.wrap (x:Int)=((x % 256:Nat):Int):=by rw [IntKind.wrap_u8];omega
theorem q9o (x:Nat):IntKind.u64.wrap (x:Int)=((x % 18446744073709551616:Nat):Int):=by rw [IntKind.wrap_u64];omega
def byteAt (x k:Nat):Nat:=x / 256 ^ k % 256
def word (x k:Nat):List Nat:=(List.range k).map (byteAt x)
theorem word_succ (x k:Nat):word x (k+1)=word x k++[byteAt x k]:=by simp [word,List.range_succ]
theorem word_len (x k:Nat):(word x k).length=k:=by simp [word]
theorem shr_byte (x k:Nat) (hk:k≤7):IntKind.u8.wrap ((x:Int).fdiv (2 ^ min ((8:Int) * (k:Nat)).toNat IntKind.u64.bits))=((byteAt x k:Nat):Int):=by
  have e:IntKind.u64.bits=64:=rfl;rw [e,q5u x _ (by omega),u8_nat];have:((8:Int) * (k:Nat)).toNat=8 * k:=by omega
  rw [this,byteAt,show (256:Nat)=2 ^ 8 from rfl,← Nat.pow_mul]
end Go.Proofs.K
namespace Fd
abbrev pr:Nat:=18446744069414584321
instance:NeZero pr:=⟨by decide⟩
abbrev K:=Fin pr
def k (n:Nat):K:=Fin.ofNat pr n
theorem k_val (n:Nat):(k n).val=n % pr:=rfl
theorem val_k (x:K):k x.val=x:=Fin.ext (Nat.mod_eq_of_lt x.isLt)
theorem k_of {n:Nat} (h:n < pr):(k n).val=n:=Nat.mod_eq_of_lt h
theorem add_val (x y:K):(x+y).val=(x.val+y.val) % pr:=rfl
theorem mul_val (x y:K):(x * y).val=x.val * y.val % pr:=rfl
theorem sub_val (x y:K):(x - y).val=(pr - y.val+x.val) % pr:=rfl
theorem k_add (a b:Nat):k (a+b)=k a+k b:=Fin.ext (by rw [add_val,k_val,k_val,k_val,← Nat.add_mod])
theorem k_mul (a b:Nat):k (a * b)=k a * k b:=Fin.ext (by rw [mul_val,k_val,k_val,k_val,← Nat.mul_mod])
theorem K.ext {x y:K} (h:x.val=y.val):x=y:=Fin.ext h
section
variable {R:Type} [One R] [Mul R]
def pw (x:R):Nat→R
  | 0=>1
  | n+1=>pw x n * x
end
theorem one_mul' (x:K):1 * x=x:=by grind
theorem z2z (x:K) (a:Nat):∀ b,pw x (a+b)=pw x a * pw x b
  | 0=>by show pw x a=pw x a * 1;grind
  | b+1=>by
    show pw x (a+b) * x=pw x a * (pw x b * x);rw [z2z x a b];grind
theorem pw_mul (x:K) (a:Nat):∀ b,pw x (a * b)=pw (pw x a) b
  | 0=>rfl
  | b+1=>by
    rw [Nat.mul_succ,z2z,pw_mul x a b];rfl
theorem pw_one (x:K):pw x 1=x:=one_mul' x
theorem pw_two (x:K):pw x 2=x * x:=by show 1 * x * x=x * x;grind
theorem one_pw:∀ n,pw (1:K) n=1
  | 0=>rfl
  | n+1=>by show pw (1:K) n * 1=1;rw [one_pw n];grind
def pwB:Nat→K→K→Nat→K
  | 0,acc,_,_=>acc
  | m+1,acc,x,n=>bif Nat.beq n 0 then acc else pwB m (bif Nat.beq (n % 2) 1 then acc * x else acc) (x * x) (n / 2)
theorem pwB_eq:∀ (m:Nat) (acc x:K) (n:Nat),n < 2 ^ m→pwB m acc x n=acc * pw x n
  | 0,acc,x,n,h=>by
    have:n=0:=(by simpa using h);subst this;show acc=acc * 1;grind
  | m+1,acc,x,n,h=>by
    unfold pwB;by_cases h0:n=0
    · subst h0;show acc=acc * 1;grind
    · have e:Nat.beq n 0=false:=by
        cases hb:Nat.beq n 0
        · rfl
        · exact (h0 (Nat.eq_of_beq_eq_true hb)).elim
      rw [e];have h2:n / 2 < 2 ^ m:=(by rw [Nat.pow_succ] at h;omega);have ih:=pwB_eq m;have hp:pw x n=pw x (n % 2) * pw (x * x) (n / 2):=by
        rw [← pw_two,← pw_mul,← z2z];congr 1;omega
      show pwB m _ (x * x) (n / 2)=_;rw [ih _ _ _ h2,hp];have h01:n % 2=0∨n % 2=1:=(by omega);rcases h01 with h0 | h0 <;> rw [h0]
      · show acc * _=acc * (1 * _);grind
      · show acc * x * _=acc * (1 * x * _);grind
def root (j:Nat):K:=pw 7 ((pr - 1) / 2 ^ j)
theorem z3q {j:Nat} (h:j < 32):root (j+1) * root (j+1)=root j:=by
  unfold root;rw [← pw_two,← pw_mul];congr 1;have hd:(pr - 1)=2 ^ 32 * 4294967295:=by decide
  rw [hd,show 32=(j+1)+(32 - (j+1)) by omega,Nat.pow_add,Nat.mul_assoc,Nat.mul_div_cancel_left _ (Nat.pow_pos (by decide))];rw [show 2 ^ (j+1) * (2 ^ (32 - (j+1)) * 4294967295)=2 ^ j * (2 ^ (32 - (j+1)) * 4294967295 * 2) by rw [Nat.pow_succ];simp only [Nat.mul_assoc,Nat.mul_comm,Nat.mul_left_comm]];rw [Nat.mul_div_cancel_left _ (Nat.pow_pos (by decide))]
theorem root_one:root 1=-1:=by
  have h:=pwB_eq 64 1 7 ((pr - 1) / 2 ^ 1) (by decide);have e:pwB 64 1 7 ((pr - 1) / 2 ^ 1)=-1:=by decide +kernel
  unfold root;rw [← one_mul' (pw 7 _),← h,e]
theorem root_zero:root 0=1:=by
  rw [← z3q (by decide),root_one];grind
theorem z3r:∀ (i j:Nat),i+j≤32→pw (root (i+j)) (2 ^ i)=root j
  | 0,j,_=>by rw [Nat.zero_add];exact pw_one _
  | i+1,j,h=>by
    rw [Nat.pow_succ,Nat.mul_comm,pw_mul,pw_two,show i+1+j=(i+j)+1 by omega,z3q (by omega)];exact z3r i j (by omega)
theorem root_order {j:Nat} (h:j≤32):pw (root j) (2 ^ j)=1:=by
  have:=z3r j 0 (by omega);rwa [root_zero] at this
theorem root_half {j:Nat} (h:j+1≤32):pw (root (j+1)) (2 ^ j)=-1:=by rw [z3r j 1 h,root_one]
structure E where
  a:K
  b:K
theorem E.eq {x y:E} (h:x.a=y.a) (h2:x.b=y.b):x=y:=by cases x;cases y;simp_all
instance:DecidableEq E:=fun x y=>decidable_of_iff (x.a=y.a∧x.b=y.b) ⟨fun h=>E.eq h.1 h.2,fun h=>by subst h;exact ⟨rfl,rfl⟩⟩
instance:Zero E:=⟨⟨0,0⟩⟩
instance:One E:=⟨⟨1,0⟩⟩
instance:Add E:=⟨fun x y=>⟨x.a+y.a,x.b+y.b⟩⟩
instance:Neg E:=⟨fun x=>⟨-x.a,-x.b⟩⟩
instance:Sub E:=⟨fun x y=>⟨x.a - y.a,x.b - y.b⟩⟩
instance:Mul E:=⟨fun x y=>⟨x.a * y.a+7 * (x.b * y.b),x.a * y.b+x.b * y.a⟩⟩
def E.of (x:K):E:=⟨x,0⟩
theorem E.defs:(∀ x y:E,(x+y).a=x.a+y.a)∧(∀ x y:E,(x+y).b=x.b+y.b)∧(∀ x y:E,(x - y).a=x.a - y.a)∧(∀ x y:E,(x - y).b=x.b - y.b)∧(∀ x:E,(-x).a=-x.a)∧(∀ x:E,(-x).b=-x.b)∧(∀ x y:E,(x * y).a=x.a * y.a+7 * (x.b * y.b))∧(∀ x y:E,(x * y).b=x.a * y.b+x.b * y.a)∧(0:E).a=0∧(0:E).b=0∧(1:E).a=1∧(1:E).b=0 :=
  ⟨fun _ _=>rfl,fun _ _=>rfl,fun _ _=>rfl,fun _ _=>rfl,fun _=>rfl,fun _=>rfl,fun _ _=>rfl,fun _ _=>rfl,rfl,rfl,rfl,rfl⟩
def sm:Nat→(Nat→K)→K
  | 0,_=>0
  | n+1,f=>sm n f+f n
theorem q6j:∀ (n:Nat) {f g:Nat→K},(∀ i,i < n→f i=g i)→sm n f=sm n g
  | 0,_,_,_=>rfl
  | n+1,f,g,h=>by
    show sm n f+f n=sm n g+g n;rw [q6j n fun i hi=>h i (by omega),h n (by omega)]
theorem sm_mul (c:K) (f:Nat→K):∀ n,sm n (fun i=>f i * c)=sm n f * c
  | 0=>by show (0:K)=0 * c;grind
  | n+1=>by
    show sm n _+f n * c=(sm n f+f n) * c;rw [sm_mul c f n];grind
theorem sm_two (f:Nat→K):∀ n,sm (2 * n) f=sm n (fun i=>f (2 * i))+sm n (fun i=>f (2 * i+1))
  | 0=>by show (0:K)=0+0;grind
  | n+1=>by
    show sm (2 * n) f+f (2 * n)+f (2 * n+1)=sm n _+f (2 * n)+(sm n _+f (2 * n+1));rw [sm_two f n];grind
def rev:Nat→Nat→Nat
  | 0,_=>0
  | m+1,b=>(b % 2) * 2 ^ m+rev m (b / 2)
theorem rev_even (m b:Nat):rev (m+1) (2 * b)=rev m b:=by
  show (2 * b % 2) * 2 ^ m+rev m (2 * b / 2)=rev m b;rw [show 2 * b % 2=0 by omega,show 2 * b / 2=b by omega,Nat.zero_mul,Nat.zero_add]
theorem rev_odd (m b:Nat):rev (m+1) (2 * b+1)=2 ^ m+rev m b:=by
  show ((2 * b+1) % 2) * 2 ^ m+rev m ((2 * b+1) / 2)=2 ^ m+rev m b;rw [show (2 * b+1) % 2=1 by omega,show (2 * b+1) / 2=b by omega,Nat.one_mul]
theorem rev_lt:∀ m b,rev m b < 2 ^ m
  | 0,_=>by show 0 < 2 ^ 0;decide
  | m+1,b=>by
    show (b % 2) * 2 ^ m+rev m (b / 2) < 2 ^ (m+1);have:=rev_lt m (b / 2);have h2:b % 2=0∨b % 2=1:=(by omega);rw [Nat.pow_succ];rcases h2 with h | h <;> rw [h] <;> omega
def stv (a:Nat→K) (m k b r:Nat):K:=sm (2 ^ k) fun t=>a (t * 2 ^ (m - k)+rev (m - k) b) * pw (root k) (r * t)
theorem stv_zero (a:Nat→K) (m b:Nat):stv a m 0 b 0=a (rev m b):=by
  show (0:K)+a (0 * 2 ^ (m - 0)+rev (m - 0) b) * pw (root 0) (0 * 0)=_;rw [Nat.zero_mul,Nat.zero_add,Nat.sub_zero];show (0:K)+a (rev m b) * 1=_;grind
theorem stv_full (a:Nat→K) (m r:Nat):stv a m m 0 r=sm (2 ^ m) fun t=>a t * pw (root m) (r * t):=by
  unfold stv;refine q6j _ fun t _=>?_;rw [Nat.sub_self,Nat.pow_zero,Nat.mul_one];rfl
theorem z3a {k m:Nat} (h:k+1≤m):2 ^ (m - k)=2 * 2 ^ (m - (k+1)):=by
  rw [show m - k=(m - (k+1))+1 by omega,Nat.pow_succ,Nat.mul_comm]
theorem stv_even (a:Nat→K) {m k:Nat} (h:k+1≤m) (hk:k+1≤32) (b r:Nat) :
    sm (2 ^ k) (fun t=>a (2 * t * 2 ^ (m - (k+1))+rev (m - (k+1)) b) * pw (root (k+1)) (r * (2 * t)))=stv a m k (2 * b) r:=by
  unfold stv;refine q6j _ fun t _=>?_;rw [z3a h,show m - k=(m - (k+1))+1 by omega,rev_even,← z3q (j:=k) (by omega),← pw_two,← pw_mul];rw [show 2 * t * 2 ^ (m - (k+1))=t * (2 * 2 ^ (m - (k+1))) by simp only [Nat.mul_assoc,Nat.mul_comm],show r * (2 * t)=2 * (r * t) by simp only [Nat.mul_assoc,Nat.mul_comm]]
theorem stv_odd (a:Nat→K) {m k:Nat} (h:k+1≤m) (hk:k+1≤32) (b r:Nat) :
    sm (2 ^ k) (fun t=>a ((2 * t+1) * 2 ^ (m - (k+1))+rev (m - (k+1)) b) * pw (root (k+1)) (r * (2 * t+1)))=stv a m k (2 * b+1) r * pw (root (k+1)) r:=by
  unfold stv;rw [← sm_mul];refine q6j _ fun t _=>?_;rw [z3a h,show m - k=(m - (k+1))+1 by omega,rev_odd,← z3q (j:=k) (by omega),← pw_two,← pw_mul];rw [show (2 * t+1) * 2 ^ (m - (k+1))+rev (m - (k+1)) b=t * (2 * 2 ^ (m - (k+1)))+(2 ^ (m - (k+1))+rev (m - (k+1)) b) by rw [Nat.add_mul,Nat.one_mul,← Nat.add_assoc];congr 2;simp only [Nat.mul_assoc,Nat.mul_comm]];rw [show r * (2 * t+1)=2 * (r * t)+r by rw [Nat.mul_add,Nat.mul_one];congr 1;simp only [Nat.mul_assoc,Nat.mul_comm],z2z];grind
theorem stv_low (a:Nat→K) {m k:Nat} (h:k+1≤m) (hk:k+1≤32) (b r:Nat) :
    stv a m (k+1) b r=stv a m k (2 * b) r+stv a m k (2 * b+1) r * pw (root (k+1)) r:=by
  rw [← stv_even a h hk,← stv_odd a h hk];conv=>lhs;unfold stv
  rw [show 2 ^ (k+1)=2 * 2 ^ k by rw [Nat.pow_succ,Nat.mul_comm],sm_two]
theorem stv_per (a:Nat→K) {m k:Nat} (hk:k≤32) (b r:Nat):stv a m k b (r+2 ^ k)=stv a m k b r:=by
  unfold stv;refine q6j _ fun t _=>?_;rw [Nat.add_mul,z2z,pw_mul (root k) (2 ^ k) t,root_order hk,one_pw];grind
theorem stv_high (a:Nat→K) {m k:Nat} (h:k+1≤m) (hk:k+1≤32) (b r:Nat) :
    stv a m (k+1) b (r+2 ^ k)=stv a m k (2 * b) r - stv a m k (2 * b+1) r * pw (root (k+1)) r:=by
  rw [stv_low a h hk,stv_per a (by omega),stv_per a (by omega),z2z,root_half (by omega)];grind
theorem E.add_comm (x y:E):x+y=y+x:=by (apply E.eq <;> simp only [E.defs] <;> grind)
theorem E.add_assoc (x y z:E):x+y+z=x+(y+z):=by (apply E.eq <;> simp only [E.defs] <;> grind)
theorem E.mul_comm (x y:E):x * y=y * x:=by (apply E.eq <;> simp only [E.defs] <;> grind)
theorem E.mul_assoc (x y z:E):x * y * z=x * (y * z):=by (apply E.eq <;> simp only [E.defs] <;> grind)
theorem E.mul_add (x y z:E):x * (y+z)=x * y+x * z:=by (apply E.eq <;> simp only [E.defs] <;> grind)
theorem E.mul_sub (x y z:E):x * (y - z)=x * y - x * z:=by (apply E.eq <;> simp only [E.defs] <;> grind)
theorem E.zero_add (x:E):0+x=x:=by (apply E.eq <;> simp only [E.defs] <;> grind)
theorem E.add_zero (x:E):x+0=x:=by (apply E.eq <;> simp only [E.defs] <;> grind)
theorem E.one_mul (x:E):1 * x=x:=by (apply E.eq <;> simp only [E.defs] <;> grind)
theorem E.mul_one (x:E):x * 1=x:=by (apply E.eq <;> simp only [E.defs] <;> grind)
theorem E.mul_zero (x:E):x * 0=0:=by (apply E.eq <;> simp only [E.defs] <;> grind)
theorem E.of_add (x y:K):E.of (x+y)=E.of x+E.of y:=by
  refine E.eq rfl ?_;show (0:K)=0+0;grind
theorem E.of_mul (x y:K):E.of (x * y)=E.of x * E.of y:=by
  refine E.eq ?_ ?_
  · show x * y=x * y+7 * (0 * 0);grind
  · show (0:K)=x * 0+0 * y;grind
theorem E.mul_of (x:E) (c:K):x * E.of c=⟨x.a * c,x.b * c⟩:=by
  refine E.eq ?_ ?_
  · show x.a * c+7 * (x.b * 0)=x.a * c;grind
  · show x.a * 0+x.b * c=x.b * c;grind
theorem E.of_one:E.of 1=1:=rfl
theorem E.mul_kara (x y:E):x * y=⟨x.a * y.a+7 * (x.b * y.b),(x.a+x.b) * (y.a+y.b) - x.a * y.a - x.b * y.b⟩:=by
  refine E.eq rfl ?_;show x.a * y.b+x.b * y.a=(x.a+x.b) * (y.a+y.b) - x.a * y.a - x.b * y.b;grind
def eqI:List E→Nat→E
  | [],_=>1
  | x :: r,i=>(bif i % 2 == 1 then x else 1 - x) * eqI r (i / 2)
theorem eqI_snoc:∀ (l:List E) (x:E) (i:Nat),eqI (l++[x]) i=eqI l i * (bif (i / 2 ^ l.length) % 2 == 1 then x else 1 - x)
  | [],x,i=>by
    show (bif i % 2 == 1 then x else 1 - x) * 1=1 * (bif (i / 1) % 2 == 1 then x else 1 - x);rw [Nat.div_one,E.mul_comm]
  | y :: l,x,i=>by
    show (bif i % 2 == 1 then y else 1 - y) * eqI (l++[x]) (i / 2)=(bif i % 2 == 1 then y else 1 - y) * eqI l (i / 2) * _;rw [eqI_snoc l x (i / 2),E.mul_assoc,List.length_cons,Nat.pow_succ,Nat.mul_comm (2 ^ l.length) 2,Nat.div_div_eq_div_mul]
theorem eqI_mod:∀ (l:List E) (i j:Nat),eqI l (i+2 ^ l.length * j)=eqI l i
  | [],_,_=>rfl
  | y :: l,i,j=>by
    show (bif (i+2 ^ (l.length+1) * j) % 2 == 1 then y else 1 - y) * eqI l ((i+2 ^ (l.length+1) * j) / 2)=(bif i % 2 == 1 then y else 1 - y) * eqI l (i / 2);rw [show 2 ^ (l.length+1) * j=2 * (2 ^ l.length * j) by rw [Nat.pow_succ,Nat.mul_comm (2 ^ l.length) 2,Nat.mul_assoc]];rw [show (i+2 * (2 ^ l.length * j)) % 2=i % 2 by omega,show (i+2 * (2 ^ l.length * j)) / 2=i / 2+2 ^ l.length * j by omega,eqI_mod l]
def eqT (l:List E):List E:=(List.range (2 ^ l.length)).map (eqI l)
theorem eqT_len (l:List E):(eqT l).length=2 ^ l.length:=by simp [eqT]
theorem eqT_get (l:List E) {i:Nat} (h:i < 2 ^ l.length):(eqT l)[i]?=some (eqI l i):=by simp [eqT,h]
theorem eqI_low (l:List E) (x:E) {i:Nat} (h:i < 2 ^ l.length):eqI (l++[x]) i=eqI l i - eqI l i * x:=by
  rw [eqI_snoc,Nat.div_eq_of_lt h];show eqI l i * (1 - x)=_;rw [E.mul_sub,E.mul_one]
theorem eqI_high (l:List E) (x:E) {i:Nat} (h:i < 2 ^ l.length):eqI (l++[x]) (i+2 ^ l.length)=eqI l i * x:=by
  have hp:0 < 2 ^ l.length:=Nat.pow_pos (by decide);rw [eqI_snoc,Nat.add_div_right _ hp,Nat.div_eq_of_lt h];have:=eqI_mod l i 1;rw [Nat.mul_one] at this;rw [this];rfl
def es:Nat→(Nat→E)→E
  | 0,_=>0
  | n+1,f=>es n f+f n
theorem q4b:∀ (n:Nat) {f g:Nat→E},(∀ i,i < n→f i=g i)→es n f=es n g
  | 0,_,_,_=>rfl
  | n+1,f,g,h=>by
    show es n f+f n=es n g+g n;rw [q4b n fun i hi=>h i (by omega),h n (by omega)]
theorem es_add (f g:Nat→E):∀ n,es n (fun i=>f i+g i)=es n f+es n g
  | 0=>(E.zero_add 0).symm
  | n+1=>by
    show es n _+(f n+g n)=es n f+f n+(es n g+g n);rw [es_add f g n];(apply E.eq <;> simp only [E.defs] <;> grind)
theorem es_mul (c:E) (f:Nat→E):∀ n,es n (fun i=>c * f i)=c * es n f
  | 0=>(E.mul_zero c).symm
  | n+1=>by
    show es n _+c * f n=c * (es n f+f n);rw [es_mul c f n,E.mul_add]
theorem es_two (f:Nat→E):∀ n,es (2 * n) f=es n (fun i=>f (2 * i)+f (2 * i+1))
  | 0=>rfl
  | n+1=>by
    show es (2 * n) f+f (2 * n)+f (2 * n+1)=es n _+(f (2 * n)+f (2 * n+1));rw [es_two f n,E.add_assoc]
theorem es_zero:∀ n,es n (fun _=>0)=0
  | 0=>rfl
  | n+1=>by
    show es n _+0=0;rw [es_zero n];rfl
theorem es_split (f:Nat→E) (m:Nat):∀ n,es (m+n) f=es m f+es n (fun i=>f (m+i))
  | 0=>(E.add_zero _).symm
  | n+1=>by
    show es (m+n) f+f (m+n)=es m f+(es n _+f (m+n));rw [es_split f m n,E.add_assoc]
def bindT (t:List E) (r:E):List E:=(List.range (t.length / 2)).map fun i=>t.getD (2 * i) 0+r * (t.getD (2 * i+1) 0 - t.getD (2 * i) 0)
theorem bindT_len (t:List E) (r:E):(bindT t r).length=t.length / 2:=by simp [bindT]
theorem bindT_get (t:List E) (r:E) {i:Nat} (h:i < t.length / 2):(bindT t r).getD i 0=t.getD (2 * i) 0+r * (t.getD (2 * i+1) 0 - t.getD (2 * i) 0):=by
  rw [List.getD_eq_getElem?_getD];simp [bindT,h]
def mleB:List E→List E→E
  | t,[]=>t.getD 0 0
  | t,r :: p=>mleB (bindT t r) p
def mleS (t p:List E):E:=es t.length fun i=>t.getD i 0 * eqI p i
theorem mle_eq:∀ (p t:List E),t.length=2 ^ p.length→mleB t p=mleS t p
  | [],t,h=>by
    unfold mleS;rw [h];show t.getD 0 0=0+t.getD 0 0 * 1;rw [E.zero_add,E.mul_one]
  | r :: p,t,h=>by
    have hl:t.length / 2=2 ^ p.length:=(by rw [h,List.length_cons,Nat.pow_succ];omega);show mleB (bindT t r) p=_;rw [mle_eq p (bindT t r) (by rw [bindT_len,hl])];unfold mleS;rw [bindT_len,hl,h,List.length_cons,Nat.pow_succ,Nat.mul_comm (2 ^ p.length) 2,es_two];refine q4b _ fun i hi=>?_;rw [bindT_get t r (by omega)];have e0:eqI (r :: p) (2 * i)=(1 - r) * eqI p i:=by
      show (bif 2 * i % 2 == 1 then r else 1 - r) * eqI p (2 * i / 2)=_;rw [show 2 * i % 2=0 by omega,show 2 * i / 2=i by omega];rfl
    have e1:eqI (r :: p) (2 * i+1)=r * eqI p i:=by
      show (bif (2 * i+1) % 2 == 1 then r else 1 - r) * eqI p ((2 * i+1) / 2)=_;rw [show (2 * i+1) % 2=1 by omega,show (2 * i+1) / 2=i by omega];rfl
    rw [e0,e1];generalize t.getD (2 * i) 0=a;generalize t.getD (2 * i+1) 0=b;generalize eqI p i=c;(apply E.eq <;> simp only [E.defs] <;> grind)
def swp (m s x:Nat):Nat:=(x >>> s &&& m) ||| ((x &&& m) <<< s)
theorem swp_bit {m s x i:Nat}:(swp m s x).testBit i=((x.testBit (s+i) && m.testBit i) || (decide (s≤i) && (x.testBit (i - s) && m.testBit (i - s)))):=by
  unfold swp;simp [Nat.testBit_or,Nat.testBit_and,Nat.testBit_shiftRight,Nat.testBit_shiftLeft]
def z2o (m s:Nat):Prop:=∀ i,m.testBit i=(decide (i < 64) && (i / s % 2 == 0))
theorem z1s {m s:Nat} (hm:m < 2 ^ 64) (h:∀ i:Fin 64,m.testBit i.1=(i.1 / s % 2 == 0)):z2o m s:=by
  intro i;by_cases hi:i < 64
  · rw [h ⟨i,hi⟩];simp [hi]
  · rw [Nat.testBit_lt_two_pow (Nat.lt_of_lt_of_le hm (Nat.pow_le_pow_right (by decide) (by omega)))];simp [hi]
def flip (s i:Nat):Nat:=if i / s % 2=0 then i+s else i - s
theorem q8s {m s x:Nat} (hm:z2o m s) (hs:s∈[1,2,4,8,16]) {i:Nat} (hi:i < 64):(swp m s x).testBit i=x.testBit (flip s i):=by
  rw [swp_bit,hm,hm];unfold flip;by_cases h:i / s % 2=0
  · rw [if_pos h,Nat.add_comm s i];have h2:¬ (s≤i∧(i - s) / s % 2=0):=by
      rintro ⟨h1,h2⟩;simp at hs;rcases hs with rfl | rfl | rfl | rfl | rfl <;> omega
    by_cases h3:s≤i
    · have:¬ ((i - s) / s % 2=0):=fun h4=>h2 ⟨h3,h4⟩;simp [hi,h,h3,this]
    · simp [hi,h,h3]
  · rw [if_neg h];have h1:s≤i:=by
      apply Classical.byContradiction;intro hc;rw [Nat.div_eq_of_lt (by omega)] at h;exact h rfl
    have h2:(i - s) / s % 2=0:=by
      simp at hs;rcases hs with rfl | rfl | rfl | rfl | rfl <;> omega
    have h3:i - s < 64:=(by omega);simp [h,h1,h2,h3]
theorem swp_lt {m s x:Nat} (hm:m < 2 ^ (64 - s)) (hs:s≤64) (hm2:m < 2 ^ 64):swp m s x < 2 ^ 64:=by
  unfold swp;apply Nat.or_lt_two_pow
  · exact Nat.lt_of_le_of_lt Nat.and_le_right hm2
  · rw [Nat.shiftLeft_eq];have:x &&& m < 2 ^ (64 - s):=Nat.lt_of_le_of_lt Nat.and_le_right hm;calc (x &&& m) * 2 ^ s < 2 ^ (64 - s) * 2 ^ s:=Nat.mul_lt_mul_of_pos_right this (Nat.pow_pos (by decide))
      _=2 ^ 64:=by rw [← Nat.pow_add];congr 1;omega
end Fd
namespace Fd
def m0:Nat:=0x5555555555555555
def m1:Nat:=0x3333333333333333
def m2:Nat:=0x0F0F0F0F0F0F0F0F
def m3:Nat:=0x00FF00FF00FF00FF
def m4:Nat:=0x0000FFFF0000FFFF
def rev64 (x:Nat):Nat :=
  let y:=swp m4 16 (swp m3 8 (swp m2 4 (swp m1 2 (swp m0 1 x))))
  (y >>> 32) ||| ((y <<< 32) % 2 ^ 64)
theorem rev64_bit (x:Nat) {i:Nat} (hi:i < 64):(rev64 x).testBit i=x.testBit (63 - i):=by
  have k0:z2o m0 1:=z1s (by decide) (by decide +kernel);have k1:z2o m1 2:=z1s (by decide) (by decide +kernel);have k2:z2o m2 4:=z1s (by decide) (by decide +kernel);have k3:z2o m3 8:=z1s (by decide) (by decide +kernel);have k4:z2o m4 16:=z1s (by decide) (by decide +kernel);have fl:∀ s∈[1,2,4,8,16],∀ j:Fin 64,flip s j.1 < 64:=by decide +kernel
  have cmp:∀ j:Fin 64,flip 1 (flip 2 (flip 4 (flip 8 (flip 16 (if j.1 < 32 then j.1+32 else j.1 - 32)))))=63 - j.1:=by decide +kernel
  have hy:∀ j,j < 64→(swp m4 16 (swp m3 8 (swp m2 4 (swp m1 2 (swp m0 1 x))))).testBit j=x.testBit (flip 1 (flip 2 (flip 4 (flip 8 (flip 16 j))))):=fun j hj=>by
    have f4:=fl 16 (by decide) ⟨j,hj⟩;have f3:=fl 8 (by decide) ⟨_,f4⟩;have f2:=fl 4 (by decide) ⟨_,f3⟩;have f1:=fl 2 (by decide) ⟨_,f2⟩;rw [q8s k4 (by decide) hj,q8s k3 (by decide) f4,q8s k2 (by decide) f3,q8s k1 (by decide) f2,q8s k0 (by decide) f1]
  have:=cmp ⟨i,hi⟩;dsimp only at this;unfold rev64;rw [Nat.testBit_or,Nat.testBit_shiftRight,Nat.testBit_mod_two_pow,Nat.testBit_shiftLeft];by_cases h:i < 32
  · rw [if_pos h] at this;rw [hy _ (by omega),Nat.add_comm 32 i,this];simp;omega
  · rw [if_neg h] at this;have hz:(swp m4 16 (swp m3 8 (swp m2 4 (swp m1 2 (swp m0 1 x))))).testBit (32+i)=false:=by
      refine Nat.testBit_lt_two_pow (Nat.lt_of_lt_of_le (swp_lt (by decide) (by decide) (by decide)) (Nat.pow_le_pow_right (by decide) (by omega)))
    rw [hz,hy _ (by omega),this];simp [hi];omega
theorem rev64_lt (x:Nat):rev64 x < 2 ^ 64:=by
  unfold rev64;apply Nat.or_lt_two_pow
  · refine Nat.lt_of_le_of_lt (Nat.shiftRight_le _ _) (swp_lt (by decide) (by decide) (by decide))
  · exact Nat.mod_lt _ (by decide)
theorem z3s:∀ (m b:Nat) {i:Nat},i < m→(rev m b).testBit i=b.testBit (m - 1 - i)
  | 0,_,_,h=>by omega
  | m+1,b,i,h=>by
    show ((b % 2) * 2 ^ m+rev m (b / 2)).testBit i=_;rw [Nat.mul_comm];by_cases hi:i=m
    · subst hi;rw [Nat.testBit_two_pow_mul_add _ (rev_lt _ _),if_neg (by omega),Nat.sub_self,show i+1 - 1 - i=0 by omega];rw [Nat.testBit_zero,Nat.testBit_zero,Nat.mod_mod]
    · rw [Nat.testBit_two_pow_mul_add _ (rev_lt _ _),if_pos (by omega),z3s m (b / 2) (by omega),Nat.testBit_div_two,show m - 1 - i+1=m+1 - 1 - i by omega]
theorem rev_rev64 {m b:Nat} (hm:m≤64):rev64 b >>> (64 - m)=rev m b:=by
  apply Nat.eq_of_testBit_eq;intro i;rw [Nat.testBit_shiftRight];by_cases h:i < m
  · rw [rev64_bit b (by omega),z3s m b h];congr 1;omega
  · rw [Nat.testBit_lt_two_pow (Nat.lt_of_lt_of_le (rev64_lt b) (Nat.pow_le_pow_right (by decide) (by omega))),Nat.testBit_lt_two_pow (Nat.lt_of_lt_of_le (rev_lt m b) (Nat.pow_le_pow_right (by decide) (by omega)))]
theorem rev_invol {m b:Nat} (h:b < 2 ^ m):rev m (rev m b)=b:=by
  apply Nat.eq_of_testBit_eq;intro i;by_cases hi:i < m
  · rw [z3s m _ hi,z3s m _ (by omega)];congr 1;omega
  · rw [Nat.testBit_lt_two_pow (Nat.lt_of_lt_of_le (rev_lt m _) (Nat.pow_le_pow_right (by decide) (by omega))),Nat.testBit_lt_two_pow (Nat.lt_of_lt_of_le h (Nat.pow_le_pow_right (by decide) (by omega)))]
def ev:List E→K→E
  | [],_=>0
  | c :: l,x=>c+ev l x * E.of x
def evK:List K→K→K
  | [],_=>0
  | c :: l,x=>c+evK l x * x
theorem sm_shift (f:Nat→K):∀ n,sm (n+1) f=f 0+sm n (fun i=>f (i+1))
  | 0=>by show 0+f 0=f 0+0;grind
  | n+1=>by
    show sm (n+1) f+f (n+1)=f 0+(sm n _+f (n+1));rw [sm_shift f n];grind
theorem evK_sm (x:K):∀ l:List K,evK l x=sm l.length fun t=>l.getD t 0 * pw x t
  | []=>rfl
  | c :: l=>by
    rw [List.length_cons,sm_shift];show c+evK l x * x=c * 1+sm l.length fun t=>l.getD t 0 * (pw x t * x);rw [evK_sm x l,← sm_mul];have:(sm l.length fun i=>l.getD i 0 * pw x i * x)=sm l.length fun t=>l.getD t 0 * (pw x t * x):=q6j _ fun i _=>(by grind);rw [this];grind
theorem sm_pad (f:Nat→K) {a:Nat}:∀ b,(∀ i,a≤i→f i=0)→sm (a+b) f=sm a f
  | 0,_=>rfl
  | b+1,h=>by
    show sm (a+b) f+f (a+b)=sm a f;rw [sm_pad f b h,h (a+b) (by omega)];grind
def sym (l:List K) (m i:Nat):K:=evK l (pw (root m) i)
def enc (l:List K) (m:Nat):List K:=(List.range (2 ^ m)).map (sym l m)
theorem enc_len (l:List K) (m:Nat):(enc l m).length=2 ^ m:=by simp [enc]
theorem enc_get (l:List K) {m i:Nat} (h:i < 2 ^ m):(enc l m)[i]?=some (sym l m i):=by simp [enc,h]
theorem stv_sym (l:List K) {m r:Nat} (h:l.length≤2 ^ m):stv (fun t=>l.getD t 0) m m 0 r=sym l m r:=by
  rw [stv_full];unfold sym;rw [evK_sm];obtain ⟨b,hb⟩:∃ b,2 ^ m=l.length+b:=⟨2 ^ m - l.length,by omega⟩;rw [hb,sm_pad _ b fun i hi=>by rw [List.getD_eq_getElem?_getD,List.getElem?_eq_none hi];show (0:K) * _=0;grind];exact q6j _ fun t _=>by rw [pw_mul]
def comb (w:List E) (l:List K):E:=es l.length fun i=>w.getD i 0 * E.of (l.getD i 0)
theorem ev_es (x:K):∀ l:List E,ev l x=es l.length fun t=>l.getD t 0 * E.of (pw x t)
  | []=>rfl
  | c :: l=>by
    have hs:∀ (f:Nat→E) n,es (n+1) f=f 0+es n (fun i=>f (i+1)):=by
      intro f n;induction n with
      | zero=>show 0+f 0=f 0+0;rw [E.zero_add,E.add_zero]
      | succ n ih =>
        show es (n+1) f+f (n+1)=f 0+(es n _+f (n+1));rw [ih,E.add_assoc]
    rw [List.length_cons,hs];show c+ev l x * E.of x=c * E.of 1+es l.length fun t=>l.getD t 0 * E.of (pw x t * x);rw [ev_es x l,E.of_one,E.mul_one,E.mul_comm _ (E.of x),← es_mul];congr 1;refine q4b _ fun t _=>?_;rw [E.of_mul];generalize l.getD t 0=p;generalize E.of (pw x t)=q;generalize E.of x=y;(apply E.eq <;> simp only [E.defs] <;> grind)
theorem es_swap (f:Nat→Nat→E) (n:Nat):∀ m,es m (fun i=>es n (f i))=es n (fun j=>es m fun i=>f i j)
  | 0=>by
    show (0:E)=es n fun _=>0;rw [es_zero]
  | m+1=>by
    show es m _+es n (f m)=es n fun j=>es m (fun i=>f i j)+f m j;rw [es_swap f n m,← es_add]
end Fd
namespace Go.Proofs.YtpohjepbmgeplaaGreatDoor
open Go.RowKit Go.Proofs.K
open _root_.Fd (pr)
@[reducible] def kv (x:Fd.K):Value:=.int .u64 (x.val:Nat)
theorem klt (x:Fd.K):x.val < 18446744069414584321:=x.isLt
theorem gvalid (x:Nat) (w:World) :
    Calls Tryz.prog 101 #[.int .u64 (x:Nat)] w fun e w'=>e=.returned (.bool (decide (x < pr)))∧Ext w w':=by
  refine q0k Tryz.func101 rfl Tryz.ntmps101 rfl ?_;(refine q0b<|q0a<|a_B rfl<|q0c<|tn<|q0b<|q0a<|m_I rfl<|Ls (q1w rfl rfl)<|a_B rfl<|q0c<|tn<|q0r ?_);refine q0e rfl rfl (v:=.bool _) rfl ?_;refine ⟨?_,Ext.refl w⟩;have e:decide ((x:Int) < 18446744069414584321)=decide (x < pr):=decide_eq_decide.2 (by unfold Fd.pr;omega);rw [e]
theorem greduce (x:Nat) (hx:x < 18446744073709551616) (w:World) :
    Calls Tryz.prog 200 #[.int .u64 (x:Nat)] w fun e w'=>e=.returned (kv (Fd.k x))∧Ext w w':=by
  refine q0k Tryz.func200 rfl Tryz.ntmps200 rfl ?_;(refine q0b<|q0a<|a_I rfl<|q0c<|tn<|q0b<|q0b<|q0a<|m_I rfl<|Ls (z1b rfl rfl)<|q0c<|tn ?_);refine q1b rfl (fun h=>?_) (fun h=>?_)
  · (refine q0a<|m_I rfl<|Ls (z0g rfl rfl)<|a_I rfl<|q0c<|tn<|q0b<|q0a<|m_I rfl<|a_I rfl<|q0c<|tn<|q0r ?_);refine q0e rfl rfl (v:=.int _ _) rfl ?_;refine ⟨?_,Ext.refl w⟩;have e:(x:Int) - 18446744069414584321=((x - 18446744069414584321:Nat):Int):=(by omega);have e2:(Fd.k x).val=x - 18446744069414584321:=(by rw [Fd.k_val];unfold Fd.pr;omega);unfold kv;rw [e,q9o,Nat.mod_eq_of_lt (by omega),e2]
  · (refine q0q<|tn<|q0b<|q0a<|m_I rfl<|a_I rfl<|q0c<|tn<|q0r ?_);refine q0e rfl rfl (v:=.int _ _) rfl ?_;have e2:(Fd.k x).val=x:=(by rw [Fd.k_val];unfold Fd.pr;omega);unfold kv;rw [e2];exact ⟨rfl,Ext.refl w⟩
theorem gadd (x y:Fd.K) (w:World) :
    Calls Tryz.prog 95 #[kv x,kv y] w fun e w'=>e=.returned (kv (x+y))∧Ext w w':=by
  have hx:=klt x;have hy:=klt y;refine q0k Tryz.func95 rfl Tryz.ntmps95 rfl ?_;(refine q0b<|q0a<|a_I rfl<|q0c<|tn<|q0b<|q0a<|m_I rfl<|m_I rfl ?_);have h:=add64 x.val y.val w;obtain ⟨s,hs⟩:∃ s,s=(x.val+y.val) % 18446744073709551616:=⟨_,rfl⟩;obtain ⟨c,hc⟩:∃ c,c=(x.val+y.val) / 18446744073709551616:=⟨_,rfl⟩;rw [← hs,← hc] at h;refine Ls (X_ext (vl:=[kv x,kv y,.int .u64 0]) rfl h) ?_;have e0:(x+y).val=(x.val+y.val) % 18446744069414584321:=rfl;by_cases h0:c=0
  · subst h0;by_cases h1:s < 18446744069414584321
    · (refine m_T rfl<|Ls (q0t rfl rfl)<|Ls (q0t rfl rfl)<|a_I rfl<|a_I rfl<|q0c<|tn<|q0b<|q0b<|q0a<|m_I rfl<|Ls (q3a rfl rfl (by omega))<|m_B rfl<|Lg2 rfl rfl rfl (q0d (v:=.int _ _) rfl)<|Lg2 rfl rfl rfl (q6w rfl rfl (by omega))<|Ls (q0s (v:=.bool _) rfl rfl)<|q0c<|tn<|q0x rfl<|q0q<|tn<|q0b<|q0a<|m_I rfl<|a_I rfl<|q0c<|tn<|q0r ?_);refine q0e rfl rfl (v:=.int _ _) rfl ⟨?_,Ext.refl w⟩;rw [show s=(x+y).val by omega]
    · (refine m_T rfl<|Ls (q0t rfl rfl)<|Ls (q0t rfl rfl)<|a_I rfl<|a_I rfl<|q0c<|tn<|q0b<|q0b<|q0a<|m_I rfl<|Ls (q3a rfl rfl (by omega))<|m_B rfl<|Lg2 rfl rfl rfl (q0d (v:=.int _ _) rfl)<|Lg2 rfl rfl rfl (q6c rfl rfl (by omega))<|Ls (q0s (v:=.bool _) rfl rfl)<|q0c<|tn<|q0z rfl<|q0a<|m_I rfl<|Ls (z0g rfl rfl)<|a_I rfl<|q0c<|tn<|q0b<|q0a<|m_I rfl<|a_I rfl<|q0c<|tn<|q0r ?_);refine q0e rfl rfl (v:=.int _ _) rfl ⟨?_,Ext.refl w⟩;rw [show (s:Int) - 18446744069414584321=(((x+y).val:Nat):Int) by omega,q9o,Nat.mod_eq_of_lt (by omega)]
  · obtain rfl:c=1:=(by omega);(refine m_T rfl<|Ls (q0t rfl rfl)<|Ls (q0t rfl rfl)<|a_I rfl<|a_I rfl<|q0c<|tn<|q0b<|q0b<|q0a<|m_I rfl<|Ls (q4q rfl rfl (by omega))<|m_B rfl<|Lo2 rfl rfl rfl rfl<|Lo2 rfl rfl rfl rfl<|Ls (q0v (v:=.bool _) rfl rfl)<|q0c<|tn<|q0z rfl<|q0a<|m_I rfl<|Ls (z0g rfl rfl)<|a_I rfl<|q0c<|tn<|q0b<|q0a<|m_I rfl<|a_I rfl<|q0c<|tn<|q0r ?_);refine q0e rfl rfl (v:=.int _ _) rfl ⟨?_,Ext.refl w⟩;have e:IntKind.u64.wrap ((s:Int) - 18446744069414584321)=(((x+y).val:Nat):Int):=(by rw [IntKind.wrap_u64];omega);rw [e]
theorem gsub (x y:Fd.K) (w:World) :
    Calls Tryz.prog 187 #[kv x,kv y] w fun e w'=>e=.returned (kv (x - y))∧Ext w w':=by
  have hx:=klt x;have hy:=klt y;refine q0k Tryz.func187 rfl Tryz.ntmps187 rfl ?_;(refine q0b<|q0a<|a_I rfl<|q0c<|tn<|q0b<|q0a<|m_I rfl<|m_I rfl ?_);have h:=sub64 x.val y.val w;obtain ⟨s,hs⟩:∃ s,s=(x.val+18446744073709551616 - y.val) % 18446744073709551616:=⟨_,rfl⟩;have e0:(x - y).val=(18446744069414584321 - y.val+x.val) % 18446744069414584321:=rfl;by_cases hc:x.val < y.val
  · rw [← hs,if_pos hc] at h;refine Ls (X_ext (vl:=[kv x,kv y,.int .u64 0]) rfl h) ?_;(refine m_T rfl<|Ls (q0t rfl rfl)<|Ls (q0t rfl rfl)<|a_I rfl<|a_I rfl<|q0c<|tn<|q0b<|q0b<|q0a<|m_I rfl<|Ls (q4q rfl rfl (by omega))<|q0c<|tn<|q0z rfl<|q0a<|m_I rfl<|Ls (q7p rfl rfl)<|a_I rfl<|q0c<|tn<|q0b<|q0a<|m_I rfl<|a_I rfl<|q0c<|tn<|q0r ?_);refine q0e rfl rfl (v:=.int _ _) rfl ⟨?_,Ext.refl w⟩;have e:IntKind.u64.wrap ((s:Int)+18446744069414584321)=(((x - y).val:Nat):Int):=(by rw [IntKind.wrap_u64];omega);rw [e]
  · rw [← hs,if_neg hc] at h;refine Ls (X_ext (vl:=[kv x,kv y,.int .u64 0]) rfl h) ?_;(refine m_T rfl<|Ls (q0t rfl rfl)<|Ls (q0t rfl rfl)<|a_I rfl<|a_I rfl<|q0c<|tn<|q0b<|q0b<|q0a<|m_I rfl<|Ls (q3a rfl rfl (by omega))<|q0c<|tn<|q0x rfl<|q0q<|tn<|q0b<|q0a<|m_I rfl<|a_I rfl<|q0c<|tn<|q0r ?_);refine q0e rfl rfl (v:=.int _ _) rfl ⟨?_,Ext.refl w⟩;rw [show s=(x - y).val by omega]
theorem red_eq (x y:Fd.K) {hi lo:Nat} (hhi:hi=x.val * y.val / 18446744073709551616) (hlo:lo=x.val * y.val % 18446744073709551616) :
    Fd.k lo - Fd.k (hi / 4294967296)+Fd.k (hi % 4294967296 * 4294967295)=x * y:=by
  have hx:=klt x;have hy:=klt y;have hb:x.val * y.val < 18446744069414584321 * 18446744069414584321:=Nat.mul_lt_mul'' hx hy;apply Fd.K.ext;rw [Fd.add_val,Fd.sub_val,Fd.mul_val,Fd.k_val,Fd.k_val,Fd.k_val];generalize x.val * y.val=N at *;show ((18446744069414584321 - hi / 4294967296 % 18446744069414584321+lo % 18446744069414584321) % 18446744069414584321+hi % 4294967296 * 4294967295 % 18446744069414584321) % 18446744069414584321=N % 18446744069414584321;omega
theorem gmul (x y:Fd.K) (w:World) :
    Calls Tryz.prog 183 #[kv x,kv y] w fun e w'=>e=.returned (kv (x * y))∧Ext w w':=by
  have hx:=klt x;have hy:=klt y;refine q0k Tryz.func183 rfl Tryz.ntmps183 rfl ?_;(refine q0b<|q0a<|a_I rfl<|q0c<|tn<|q0b<|q0a<|m_I rfl<|m_I rfl ?_);have h:=Tryz.bits_Mul64 x.val y.val (by omega) (by omega) w;obtain ⟨hi,hhi⟩:∃ hi,hi=x.val * y.val / 18446744073709551616:=⟨_,rfl⟩;obtain ⟨lo,hlo⟩:∃ lo,lo=x.val * y.val % 18446744073709551616:=⟨_,rfl⟩;have hb:x.val * y.val < 18446744069414584321 * 18446744069414584321:=Nat.mul_lt_mul'' hx hy;have hh:hi < 18446744069414584321:=by omega
  rw [← hhi,← hlo] at h;refine L_fv (vl:=[kv x,kv y]) rfl (h.mono fun _ _ q=>⟨q.1,q.2 ▸ Ext.refl _⟩) fun w1 E1=>?_;(refine m_T rfl<|Ls (q0t rfl rfl)<|Ls (q0t rfl rfl)<|a_I rfl<|a_I rfl<|q0c<|tn<|q0b<|q0a<|m_I rfl ?_);refine L_fv rfl (greduce lo (by omega) w1) ?_;intro w2 E2;(refine m_I rfl<|Ls (q4m rfl rfl (by omega)) ?_);have e1:(hi:Int).fdiv (2 ^ (min (32:Int).toNat IntKind.u64.bits))=(((Fd.k (hi / 4294967296)).val:Nat):Int):=by
    rw [show IntKind.u64.bits=64 from rfl,q5u hi 32 (by omega),Fd.k_of (by unfold Fd.pr;omega)];rfl
  rw [e1];refine L_fv rfl (gsub (Fd.k lo) (Fd.k (hi / 4294967296)) w2) ?_;intro w3 E3;(refine a_I rfl<|q0c<|tn<|q0b<|q0a<|m_I rfl<|m_I rfl<|Ls (q5m rfl rfl)<|Ls (z2t rfl rfl) ?_);obtain ⟨m,hm⟩:∃ m,m=hi % 4294967296 * 4294967295:=⟨_,rfl⟩;have e2:IntKind.u64.wrap (bits .and .u64 (hi:Int) 4294967295 * 4294967295)=(m:Int):=by
    rw [Mul64.maskN hi (by omega),IntKind.wrap_u64];omega
  rw [e2];refine L_fv rfl (greduce m (by omega) w3) ?_;intro w4 E4;skip;refine L_fv rfl (gadd (Fd.k lo - Fd.k (hi / 4294967296)) (Fd.k m) w4) ?_;intro w5 E5;(refine a_I rfl<|q0c<|tn<|q0r ?_);refine q0e rfl rfl (v:=.int _ _) rfl ⟨?_,E1.trans (E2.trans (E3.trans (E4.trans E5)))⟩;rw [hm,red_eq x y hhi hlo]
theorem rvalid (x:Nat) (w:World) :
    Calls Tryz.prog 106 #[.int .u64 (x:Nat)] w fun e w'=>e=.returned (.bool (decide (x < pr)))∧Ext w w':=by
  refine q0k Tryz.func106 rfl Tryz.ntmps106 rfl ?_;(refine q0b<|q0a<|a_B rfl<|q0c<|tn<|q0b<|q0a<|m_I rfl<|Ls (q1w rfl rfl)<|a_B rfl<|q0c<|tn<|q0r ?_);refine q0e rfl rfl (v:=.bool _) rfl ?_;refine ⟨?_,Ext.refl w⟩;have e:decide ((x:Int) < 18446744069414584321)=decide (x < pr):=decide_eq_decide.2 (by unfold Fd.pr;omega);rw [e]
theorem q7d (x:Nat) (hx:x < 18446744073709551616) (w:World) :
    Calls Tryz.prog 36 #[.int .u64 (x:Nat)] w fun e w'=>e=.returned (kv (Fd.k x))∧Ext w w':=by
  refine q0k Tryz.func36 rfl Tryz.ntmps36 rfl ?_;(refine q0b<|q0a<|a_I rfl<|q0c<|tn<|q0b<|q0a<|m_I rfl<|Ls (q4d rfl rfl (by omega))<|a_I rfl<|q0c<|tn<|q0r ?_);refine q0e rfl rfl (v:=.int _ _) rfl ?_;have e:(x:Int) % 18446744069414584321=(((Fd.k x).val:Nat):Int):=by rw [Fd.k_val];unfold Fd.pr;omega
  rw [e];exact ⟨rfl,Ext.refl w⟩
theorem radd (x y:Fd.K) (w:World) :
    Calls Tryz.prog 37 #[kv x,kv y] w fun e w'=>e=.returned (kv (x+y))∧Ext w w':=by
  have hx:=klt x;have hy:=klt y;have e0:(x+y).val=(x.val+y.val) % 18446744069414584321:=rfl;refine q0k Tryz.func37 rfl Tryz.ntmps37 rfl ?_;have e1:IntKind.u64.wrap (18446744069414584321 - (y.val:Int))=((18446744069414584321 - y.val:Nat):Int):=by rw [IntKind.wrap_u64];omega
  (refine q0b<|q0a<|a_I rfl<|q0c<|tn<|q0b<|q0b<|q0a<|m_I rfl<|m_I rfl<|Ls (z0g rfl rfl)<|Ls (z1b rfl rfl)<|q0c<|tn ?_);rw [e1];refine q1b rfl (fun h=>?_) (fun h=>?_)
  · (refine q0b<|q0a<|m_I rfl<|m_I rfl<|Ls (z0g rfl rfl)<|Ls (z0g rfl rfl)<|a_I rfl<|q0c<|tn<|q0r<|tr ?_);refine q0e rfl rfl (v:=.int _ _) rfl ⟨?_,Ext.refl w⟩;have e:IntKind.u64.wrap ((x.val:Int) - IntKind.u64.wrap (18446744069414584321 - (y.val:Int)))=(((x+y).val:Nat):Int):=(by rw [e1,IntKind.wrap_u64];omega);rw [e]
  · (refine q0q<|tn<|q0b<|q0a<|m_I rfl<|m_I rfl<|Ls (q7p rfl rfl)<|a_I rfl<|q0c<|tn<|q0r ?_);refine q0e rfl rfl (v:=.int _ _) rfl ⟨?_,Ext.refl w⟩;have e:IntKind.u64.wrap ((x.val:Int)+(y.val:Int))=(((x+y).val:Nat):Int):=(by rw [IntKind.wrap_u64];omega);rw [e]
theorem rneg (x:Fd.K) (w:World) :
    Calls Tryz.prog 46 #[kv x] w fun e w'=>e=.returned (kv (-x))∧Ext w w':=by
  have hx:=klt x;have e0:(-x).val=(18446744069414584321 - x.val) % 18446744069414584321:=rfl;refine q0k Tryz.func46 rfl Tryz.ntmps46 rfl ?_;by_cases h:x.val=0
  · (refine q0b<|q0a<|a_I rfl<|q0c<|tn<|q0b<|q0b<|q0a<|m_I rfl<|Ls (q2b rfl rfl (by omega))<|q0c<|tn<|q0z rfl<|q0b<|q0a<|a_I rfl<|q0c<|tn<|q0r<|tr ?_);refine q0e rfl rfl (v:=.int _ _) rfl ⟨?_,Ext.refl w⟩;rw [show (0:Int)=(((-x).val:Nat):Int) by omega]
  · (refine q0b<|q0a<|a_I rfl<|q0c<|tn<|q0b<|q0b<|q0a<|m_I rfl<|Ls (q2g rfl rfl (by omega))<|q0c<|tn<|q0x rfl<|q0q<|tn<|q0b<|q0a<|m_I rfl<|Ls (z0g rfl rfl)<|a_I rfl<|q0c<|tn<|q0r ?_);refine q0e rfl rfl (v:=.int _ _) rfl ⟨?_,Ext.refl w⟩;have e:IntKind.u64.wrap (18446744069414584321 - (x.val:Int))=(((-x).val:Nat):Int):=(by rw [IntKind.wrap_u64];omega);rw [e]
def p32:Fd.K:=Fd.k 4294967296
theorem shift_eq (x:Fd.K):Fd.k (x.val % 4294967296 * 4294967296)+Fd.k (x.val / 4294967296 * 4294967295)=x * p32:=by
  have hx:=klt x;apply Fd.K.ext;rw [Fd.add_val,Fd.mul_val,Fd.k_val,Fd.k_val];show (x.val % 4294967296 * 4294967296 % 18446744069414584321+x.val / 4294967296 * 4294967295 % 18446744069414584321) % 18446744069414584321=x.val * (4294967296 % 18446744069414584321) % 18446744069414584321;omega
theorem rshift (x:Fd.K) (w:World) :
    Calls Tryz.prog 93 #[kv x] w fun e w'=>e=.returned (kv (x * p32))∧Ext w w':=by
  have hx:=klt x;refine q0k Tryz.func93 rfl Tryz.ntmps93 rfl ?_;obtain ⟨l,hl⟩:∃ l,l=x.val % 4294967296 * 4294967296:=⟨_,rfl⟩;obtain ⟨m,hm⟩:∃ m,m=x.val / 4294967296 * 4294967295:=⟨_,rfl⟩;have e1:IntKind.u64.wrap ((x.val:Int) % 4294967296 * 4294967296)=(l:Int):=by rw [IntKind.wrap_u64];omega
  have e2:IntKind.u64.wrap ((x.val:Int) / 4294967296 * 4294967295)=(m:Int):=by rw [IntKind.wrap_u64];omega
  (refine q0b<|q0a<|a_I rfl<|q0c<|tn<|q0b<|q0a<|m_I rfl<|Ls (z3e rfl rfl (by omega))<|m_I rfl<|Ls (q4d rfl rfl (by omega))<|a_I rfl<|a_I rfl<|q0c<|tn<|q0b<|q0a<|m_I rfl<|Ls (z2t rfl rfl) ?_);rw [e1];refine L_fv rfl (q7d l (by omega) w) ?_;intro w2 E2;(refine m_I rfl<|Ls (z2t rfl rfl) ?_);rw [e2];refine L_fv rfl (q7d m (by omega) w2) ?_;intro w3 E3;skip;refine L_fv rfl (radd (Fd.k l) (Fd.k m) w3) ?_;intro w4 E4;(refine a_I rfl<|q0c<|tn<|q0r ?_);refine q0e rfl rfl (v:=.int _ _) rfl ⟨?_,E2.trans (E3.trans E4)⟩;rw [hl,hm,shift_eq x]
theorem half_eq (x:Fd.K) (b:Nat):Fd.k (x.val % 4294967296 * b)+Fd.k (x.val / 4294967296 * b) * p32=x * Fd.k b:=by
  unfold p32;rw [← Fd.k_mul,← Fd.k_add];conv=>rhs;rw [← Fd.val_k x,← Fd.k_mul]
  congr 1;rw [Nat.mul_right_comm,← Nat.add_mul];congr 1;omega
theorem rhalf (x:Fd.K) (b:Nat) (hb:b < 4294967296) (w:World) :
    Calls Tryz.prog 92 #[kv x,.int .u64 (b:Nat)] w fun e w'=>e=.returned (kv (x * Fd.k b))∧Ext w w':=by
  have hx:=klt x;refine q0k Tryz.func92 rfl Tryz.ntmps92 rfl ?_;have b1:x.val % 4294967296 * b≤4294967295 * 4294967295:=Nat.mul_le_mul (by omega) (by omega);have b2:x.val / 4294967296 * b≤4294967295 * 4294967295:=Nat.mul_le_mul (by omega) (by omega);obtain ⟨l,hl⟩:∃ l,l=x.val % 4294967296 * b:=⟨_,rfl⟩;obtain ⟨m,hm⟩:∃ m,m=x.val / 4294967296 * b:=⟨_,rfl⟩;have e1:IntKind.u64.wrap ((x.val:Int) % 4294967296 * (b:Int))=(l:Int):=by
    rw [show (x.val:Int) % 4294967296 * (b:Int)=(l:Int) by rw [hl];simp,IntKind.wrap_u64];omega
  have e2:IntKind.u64.wrap ((x.val:Int) / 4294967296 * (b:Int))=(m:Int):=by
    rw [show (x.val:Int) / 4294967296 * (b:Int)=(m:Int) by rw [hm];simp,IntKind.wrap_u64];omega
  (refine q0b<|q0a<|a_I rfl<|q0c<|tn<|q0b<|q0a<|m_I rfl<|Ls (q4d rfl rfl (by omega))<|m_I rfl<|Ls (z2t rfl rfl) ?_);rw [e1];refine L_fv rfl (q7d l (by omega) w) ?_;intro w2 E2;(refine m_I rfl<|Ls (z3e rfl rfl (by omega))<|m_I rfl<|Ls (z2t rfl rfl) ?_);rw [e2];refine L_fv rfl (q7d m (by omega) w2) ?_;intro w3 E3;skip;refine L_fv rfl (rshift (Fd.k m) w3) ?_;intro w4 E4;skip;refine L_fv rfl (radd (Fd.k l) (Fd.k m * p32) w4) ?_;intro w5 E5;(refine a_I rfl<|q0c<|tn<|q0r ?_);refine q0e rfl rfl (v:=.int _ _) rfl ⟨?_,E2.trans (E3.trans (E4.trans E5))⟩;rw [hl,hm,half_eq x]
theorem rmul (x y:Fd.K) (w:World) :
    Calls Tryz.prog 38 #[kv x,kv y] w fun e w'=>e=.returned (kv (x * y))∧Ext w w':=by
  have hx:=klt x;have hy:=klt y;refine q0k Tryz.func38 rfl Tryz.ntmps38 rfl ?_;have e1:(y.val:Int) % 4294967296=((y.val % 4294967296:Nat):Int):=by omega
  have e2:(y.val:Int) / 4294967296=((y.val / 4294967296:Nat):Int):=by omega
  (refine q0b<|q0a<|a_I rfl<|q0c<|tn<|q0b<|q0a<|m_I rfl<|m_I rfl<|Ls (q4d rfl rfl (by omega)) ?_);rw [e1];refine L_fv rfl (rhalf x (y.val % 4294967296) (by omega) w) ?_;intro w2 E2;(refine m_I rfl<|m_I rfl<|Ls (z3e rfl rfl (by omega)) ?_);rw [e2];refine L_fv rfl (rhalf x (y.val / 4294967296) (by omega) w2) ?_;intro w3 E3;skip;refine L_fv rfl (rshift (x * Fd.k (y.val / 4294967296)) w3) ?_;intro w4 E4;skip;refine L_fv rfl (radd (x * Fd.k (y.val % 4294967296)) (x * Fd.k (y.val / 4294967296) * p32) w4) ?_;intro w5 E5;(refine a_I rfl<|q0c<|tn<|q0r ?_);refine q0e rfl rfl (v:=.int _ _) rfl ⟨?_,E2.trans (E3.trans (E4.trans E5))⟩;have e3:Fd.k (y.val % 4294967296)+Fd.k (y.val / 4294967296) * p32=y:=by
    unfold p32;rw [← Fd.k_mul,← Fd.k_add,show y.val % 4294967296+y.val / 4294967296 * 4294967296=y.val by omega,Fd.val_k]
  rw [show x * Fd.k (y.val % 4294967296)+x * Fd.k (y.val / 4294967296) * p32=x * (Fd.k (y.val % 4294967296)+Fd.k (y.val / 4294967296) * p32) by grind,e3]
end Go.Proofs.YtpohjepbmgeplaaGreatDoor
namespace Go.Proofs.YtpohjepbmgeplaaGreatDoor
open Go.RowKit Go.Proofs.K
def exC (a b:Nat):List Value:=[.int .u64 (a:Nat),.int .u64 (b:Nat)]
theorem q1d {a b:Nat}:∀ v∈exC a b,v.oneCell'=true:=by
  intro v hv;simp only [exC,List.mem_cons,List.not_mem_nil,or_false] at hv;rcases hv with rfl | rfl <;> rfl
instance:TEq Tryz.prog 43:=⟨by kernel_rfl,by kernel_rfl,.inr ⟨_,_,Tryz.underlying43⟩⟩
instance:TEq Tryz.prog 31:=⟨by kernel_rfl,by kernel_rfl,.inl ⟨_,Tryz.underlying31⟩⟩
def litsD (l:List Nat):List Lit:=l.map fun x:Nat=>.int .u8 (x:Int)
theorem kl_dig {l:List Nat} (h:l.length=32) (h8:∀ x∈l,x < 256):(Tryz.prog).keyLits 2 43 (ints .u8 l)=some (litsD l) :=
  Go.Proofs.K.keyLits_arr 0 (by kernel_rfl) (by kernel_rfl) h fun x hx=>wf_u8 (h8 x hx)
theorem kl_ex {a b:Nat} (ha:a < 18446744073709551616) (hb:b < 18446744073709551616):(Tryz.prog).keyLits 3 31 (exC a b)=some ([.int .u64 (a:Nat)]++[.int .u64 (b:Nat)]):=by
  refine keyLits_two (D:=2) Tryz.underlying31 (by decide) (by decide) (by kernel_rfl) ?_ ?_
  · rw [show (Tryz.prog).cellsOf 29=1 by kernel_rfl];exact Go.Proofs.K.keyLits_int 1 (z1h ha)
  · rw [show (Tryz.prog).cellsOf 29=1 by kernel_rfl];exact Go.Proofs.K.keyLits_int 1 (z1h hb)
theorem litsD_inj {a b:List Nat}:litsD a=litsD b↔a=b:=lits_inj
theorem lits_ex {a b c d:Nat}:[Lit.int .u64 (a:Nat)]++[Lit.int .u64 (b:Nat)]=[Lit.int .u64 (c:Nat)]++[Lit.int .u64 (d:Nat)]↔a=c∧b=d:=by
  constructor
  · intro h;simp at h;omega
  · rintro ⟨rfl,rfl⟩;rfl
section
variable {n:NN} {f:Fr} {w:World} {d:Option Tmp} {t:TypeId} {pos:String} {af:Array Edge} {g:Option (Nat × Bool)} {x y:Operand}
theorem X_neqD {a b:List Nat} (ha:a.length=32) (hb:b.length=32) (ha8:∀ x∈a,x < 256) (hb8:∀ x∈b,x < 256) (hx:ev n f x=.agg (ints .u8 a).toArray) (hy:ev n f y=.agg (ints .u8 b).toArray) :
    X Tryz.prog n ⟨d,.binOp .neq 43 x y 43,t,pos,af,g⟩ f w=.ok (.value (.bool (decide (a ≠ b)))) w :=
  X_neqK hx hy (by rw [q0o,ha];kernel_rfl) (by rw [q0o,hb];kernel_rfl) (kl_dig ha ha8) (kl_dig hb hb8) (decide_eq_true_iff.trans (not_congr litsD_inj.symm))
theorem X_eqlEx {a b a' b':Nat} (ha:a < 18446744073709551616) (hb:b < 18446744073709551616) (ha':a' < 18446744073709551616) (hb':b' < 18446744073709551616) (hx:ev n f x=.agg (exC a b).toArray) (hy:ev n f y=.agg (exC a' b').toArray) :
    X Tryz.prog n ⟨d,.binOp .eql 31 x y 31,t,pos,af,g⟩ f w=.ok (.value (.bool (decide (a=a'∧b=b')))) w :=
  X_eqlK hx hy (by kernel_rfl) (by kernel_rfl) (kl_ex ha hb) (kl_ex ha' hb') (by rw [lits_ex];simp)
theorem X_neqEx {a b a' b':Nat} (ha:a < 18446744073709551616) (hb:b < 18446744073709551616) (ha':a' < 18446744073709551616) (hb':b' < 18446744073709551616) (hx:ev n f x=.agg (exC a b).toArray) (hy:ev n f y=.agg (exC a' b').toArray) :
    X Tryz.prog n ⟨d,.binOp .neq 31 x y 31,t,pos,af,g⟩ f w=.ok (.value (.bool (decide (¬ (a=a'∧b=b'))))) w :=
  X_neqK hx hy (by kernel_rfl) (by kernel_rfl) (kl_ex ha hb) (kl_ex ha' hb') (decide_eq_true_iff.trans (not_congr lits_ex.symm))
end
section
variable {n:NN} {f:Fr} {w:World} {d:Option Tmp} {t:TypeId} {pos:String} {af:Array Edge} {g:Option (Nat × Bool)} {x y:Operand}
theorem z0u {a b:Nat} (hx:ev n f x=.int .u64 (a:Nat)) (hy:ev n f y=.int .u64 (b:Nat)) :
    X Tryz.prog n ⟨d,.build 31 #[(0,x),(1,y)],t,pos,af,g⟩ f w=.ok (.value (.agg (exC a b).toArray)) w:=by
  have:=q3d (P:=Tryz.prog) (ty:=31) (n:=n) (f:=f) (w:=w) (d:=d) (t:=t) (pos:=pos) (af:=af) (g:=g) (Parts.cons (i:=0) (c:=[.int .u64 (a:Nat)]) (z:=[.int .u64 0]) hx rfl rfl rfl (Parts.cons (i:=1) (c:=[.int .u64 (b:Nat)]) (z:=[.int .u64 0]) hy rfl rfl rfl (Parts.nil _)));simpa [exC] using this
end
end Go.Proofs.YtpohjepbmgeplaaGreatDoor
namespace Go.Proofs.YtpohjepbmgeplaaGreatDoor
open Go.RowKit Go.Proofs.K
open _root_.Fd (pr)
@[reducible] def xc (x:Fd.E):List Value:=exC x.a.val x.b.val
theorem xc_cell (x:Fd.E):∀ v∈xc x,v.oneCell'=true:=q1d
theorem r2add (x y:Fd.E) (w:World) :
    Calls Tryz.prog 30 #[.agg (xc x).toArray,.agg (xc y).toArray] w fun e w'=>e=.returned (.agg (xc (x+y)).toArray)∧Ext w w':=by
  refine q0k Tryz.func30 rfl Tryz.ntmps30 rfl ?_;(refine q0b<|q0a ?_);refine q1t rfl ?_;intro g1 w1 B1 hg1 E1 hs1;refine q1t rfl ?_;intro g2 w2 B2 hg2 E2 hs2;refine q0w ?_;intro g3 w3 B3 hg3 E3 hs3;have Ea:=E1.trans (E2.trans E3);have C1:=B1.ext (E2.trans E3);have C2:=B2.ext E3;(refine q0c<|tn<|q0b ?_);apply q1h 9 (by kernel_rfl);(apply DW_x (fun r w hA hH=>(q0i rfl).trans rfl);apply DW_x (fun r w hA hH=>(X_ld rfl (C1.ext hA) rfl).trans rfl);apply DW_x (fun r w hA hH=>(q0i rfl).trans rfl);apply DW_x (fun r w hA hH=>(X_ld rfl (C2.ext hA) rfl).trans rfl));((with_reducible apply q1x);(exact fun _=>rfl);(exact fun _=>rfl);(exact fun r w hA hH=>radd x.a y.a w));(apply DW_x (fun r w hA hH=>(q0i rfl).trans rfl);apply DW_x (fun r w hA hH=>(X_ld rfl (C1.ext hA) rfl).trans rfl);apply DW_x (fun r w hA hH=>(q0i rfl).trans rfl);apply DW_x (fun r w hA hH=>(X_ld rfl (C2.ext hA) rfl).trans rfl));((with_reducible exact q1p);(exact rfl);(repeat (first | exact .inr (.inr (fun _ _=>by with_reducible rfl)) | (refine And.intro ?_ ?_) | exact .inr (.inl rfl) | exact .inl (by decide +kernel) | exact trivial | exact .inr (.inr (fun _ _=>rfl))));(try dsimp only [Nat.reduceAdd]));intro r w4 E4 H4;refine L_fv rfl (radd x.b y.b w4) ?_;intro w5 E5;refine Ls (z0u (a:=(x+y).a.val) (b:=(x+y).b.val) rfl rfl) ?_;refine q0j rfl rfl rfl q1d (B3.ext (E4.trans E5)) rfl ?_;intro w6 B6 hg6 _;(refine q0c<|tn<|q0r ?_);refine q0y rfl rfl (Res.cellA inferInstance rfl (B6.range (fun j u h=>by simpa using h)) rfl .nil) ?_;exact ⟨rfl,(Ea.trans (E4.trans E5)).then hg6 (fun g h=>by cases h;have:=E1.size;have:=E2.size;omega)⟩
set_option maxHeartbeats 1000000 in
theorem r2mul (x y:Fd.E) (w:World) :
    Calls Tryz.prog 88 #[.agg (xc x).toArray,.agg (xc y).toArray] w fun e w'=>e=.returned (.agg (xc (x * y)).toArray)∧Ext w w':=by
  refine q0k Tryz.func88 rfl Tryz.ntmps88 rfl ?_;(refine q0b<|q0a ?_);refine q1t rfl ?_;intro g1 w1 B1 hg1 E1 hs1;refine q1t rfl ?_;intro g2 w2 B2 hg2 E2 hs2;refine q0w ?_;intro g3 w3 B3 hg3 E3 hs3;have Ea:=E1.trans (E2.trans E3);have C1:=B1.ext (E2.trans E3);have C2:=B2.ext E3;(refine q0c<|tn<|q0b ?_);apply q1h 21 (by kernel_rfl);(apply DW_x (fun r w hA hH=>(q0i rfl).trans rfl);apply DW_x (fun r w hA hH=>(X_ld rfl (C1.ext hA) rfl).trans rfl);apply DW_x (fun r w hA hH=>(q0i rfl).trans rfl);apply DW_x (fun r w hA hH=>(X_ld rfl (C2.ext hA) rfl).trans rfl));((with_reducible apply q1x);(exact fun _=>rfl);(exact fun _=>rfl);(exact fun r w hA hH=>rmul x.a y.a w));(apply DW_x (fun r w hA hH=>(q0i rfl).trans rfl);apply DW_x (fun r w hA hH=>(X_ld rfl (C1.ext hA) rfl).trans rfl);apply DW_x (fun r w hA hH=>(q0i rfl).trans rfl);apply DW_x (fun r w hA hH=>(X_ld rfl (C2.ext hA) rfl).trans rfl));((with_reducible apply q1x);(exact fun _=>rfl);(exact fun _=>rfl);(exact fun r w hA hH=>rmul x.b y.b w));((with_reducible apply q1x);(exact fun _=>rfl);(exact fun _=>rfl);(exact fun r w hA hH=>rmul 7 (x.b * y.b) w));((with_reducible apply q1x);(exact fun _=>rfl);(exact fun _=>rfl);(exact fun r w hA hH=>radd (x.a * y.a) (7 * (x.b * y.b)) w));(apply DW_x (fun r w hA hH=>(q0i rfl).trans rfl);apply DW_x (fun r w hA hH=>(X_ld rfl (C1.ext hA) rfl).trans rfl);apply DW_x (fun r w hA hH=>(q0i rfl).trans rfl);apply DW_x (fun r w hA hH=>(X_ld rfl (C2.ext hA) rfl).trans rfl));((with_reducible apply q1x);(exact fun _=>rfl);(exact fun _=>rfl);(exact fun r w hA hH=>rmul x.a y.b w));(apply DW_x (fun r w hA hH=>(q0i rfl).trans rfl);apply DW_x (fun r w hA hH=>(X_ld rfl (C1.ext hA) rfl).trans rfl);apply DW_x (fun r w hA hH=>(q0i rfl).trans rfl);apply DW_x (fun r w hA hH=>(X_ld rfl (C2.ext hA) rfl).trans rfl));((with_reducible exact q1p);(exact rfl);(repeat (first | exact .inr (.inr (fun _ _=>by with_reducible rfl)) | (refine And.intro ?_ ?_) | exact .inr (.inl rfl) | exact .inl (by decide +kernel) | exact trivial | exact .inr (.inr (fun _ _=>rfl))));(try dsimp only [Nat.reduceAdd]));intro r w4 E4 H4;refine L_fv rfl (rmul x.b y.a w4) ?_;intro w5 E5;refine L_fv rfl (radd (x.a * y.b) (x.b * y.a) w5) ?_;intro w6 E6;have E7:=E4.trans (E5.trans E6);refine Ls (z0u (a:=(x * y).a.val) (b:=(x * y).b.val) rfl rfl) ?_;refine q0j rfl rfl rfl q1d (B3.ext E7) rfl ?_;intro wz Bz hgz _;(refine q0c<|tn<|q0r ?_);refine q0y rfl rfl (Res.cellA inferInstance rfl (Bz.range (fun j u h=>by simpa using h)) rfl .nil) ?_;exact ⟨rfl,(Ea.trans E7).then hgz (fun g h=>by cases h;have:=E1.size;have:=E2.size;omega)⟩
section
variable {n:NN} {f:Fr} {w:World} {d:Option Tmp} {t:TypeId} {pos:String} {af:Array Edge} {g:Option (Nat × Bool)} {x:Operand}
theorem z4r {a:Nat} (hx:ev n f x=.int .u64 (a:Nat)) :
    X Tryz.prog n ⟨d,.build 31 #[(0,x)],t,pos,af,g⟩ f w=.ok (.value (.agg (exC a 0).toArray)) w:=by
  have:=q3d (P:=Tryz.prog) (ty:=31) (n:=n) (f:=f) (w:=w) (d:=d) (t:=t) (pos:=pos) (af:=af) (g:=g) (Parts.cons (i:=0) (c:=[.int .u64 (a:Nat)]) (z:=[.int .u64 0]) hx rfl rfl rfl (Parts.nil _));simpa [exC] using this
theorem X_mkEx0 :
    X Tryz.prog n ⟨d,.build 31 #[],t,pos,af,g⟩ f w=.ok (.value (.agg (exC 0 0).toArray)) w:=by
  have:=q3d (P:=Tryz.prog) (ty:=31) (n:=n) (f:=f) (w:=w) (d:=d) (t:=t) (pos:=pos) (af:=af) (g:=g) (Parts.nil _);simpa [exC] using this
end
theorem r2base (x:Fd.K) (w:World) :
    Calls Tryz.prog 76 #[kv x] w fun e w'=>e=.returned (.agg (xc (Fd.E.of x)).toArray)∧Ext w w':=by
  refine q0k Tryz.func76 rfl Tryz.ntmps76 rfl ?_;(refine q0b<|q0a ?_);refine q0w ?_;intro g1 w1 B1 hg1 E1 hs1;(refine q0c<|tn<|q0b<|q0a<|m_I rfl ?_);refine Ls (z4r (a:=x.val) rfl) ?_;refine q0j rfl rfl rfl q1d (B1) rfl ?_;intro wz Bz hgz _;(refine q0c<|tn<|q0r ?_);refine q0y rfl rfl (Res.cellA inferInstance rfl (Bz.range (fun j u h=>by simpa using h)) rfl .nil) ?_;exact ⟨rfl,(E1).then hgz (fun g h=>by cases h;omega)⟩
theorem r2one (w:World) :
    Calls Tryz.prog 87 #[] w fun e w'=>e=.returned (.agg (xc 1).toArray)∧Ext w w':=by
  refine q0k Tryz.func87 rfl Tryz.ntmps87 rfl ?_;(refine q0b<|q0a ?_);refine q0w ?_;intro g1 w1 B1 hg1 E1 hs1;(refine q0c<|tn<|q0b<|q0a ?_);refine Ls (z4r (a:=1) rfl) ?_;refine q0j rfl rfl rfl q1d (B1) rfl ?_;intro wz Bz hgz _;(refine q0c<|tn<|q0r ?_);refine q0y rfl rfl (Res.cellA inferInstance rfl (Bz.range (fun j u h=>by simpa using h)) rfl .nil) ?_;exact ⟨rfl,(E1).then hgz (fun g h=>by cases h;omega)⟩
theorem rint (x:Nat) (hx:x < 9223372036854775807) (w:World) :
    Calls Tryz.prog 98 #[.int .i64 (x:Nat)] w fun e w'=>e=.returned (.int .u64 (x:Nat))∧Ext w w':=by
  refine q0k Tryz.func98 rfl Tryz.ntmps98 rfl ?_;have e:IntKind.u64.wrap (x:Int)=(x:Int):=by rw [IntKind.wrap_u64];omega
  (refine q0b<|q0a<|a_I rfl<|q0c<|tn<|q0b<|q0b<|q0a<|m_I rfl<|Ls (q6c rfl rfl (by omega))<|q0c<|tn<|q0z rfl<|q0b<|q0a<|m_I rfl<|Ls (q2y rfl)<|a_I rfl<|q0c<|tn<|q0r<|tr ?_);rw [e];skip;refine q0e rfl rfl (v:=.int _ _) rfl ⟨?_,Ext.refl w⟩;rfl
theorem r2int (x:Nat) (hx:x < pr) (hs:x < 9223372036854775807) (w:World) :
    Calls Tryz.prog 45 #[.int .i64 (x:Nat)] w fun e w'=>e=.returned (.agg (xc (Fd.E.of (Fd.k x))).toArray)∧Ext w w':=by
  have hp:x < 18446744069414584321:=hx;obtain ⟨y,rfl⟩:∃ y:Fd.K,x=y.val:=⟨Fd.k x,(Fd.k_of hx).symm⟩;rw [Fd.val_k];refine q0k Tryz.func45 rfl Tryz.ntmps45 rfl ?_;(refine q0b<|q0a ?_);refine q0w ?_;intro g1 w1 B1 hg1 E1 hs1;(refine q0c<|tn<|q0b<|q0a<|m_I rfl ?_);refine L_fv rfl (rint y.val hs w1) ?_;intro w2 E2;skip;refine Ls (z4r (a:=y.val) rfl) ?_;refine q0j rfl rfl rfl q1d (B1.ext E2) rfl ?_;intro wz Bz hgz _;(refine q0c<|tn<|q0r ?_);refine q0y rfl rfl (Res.cellA inferInstance rfl (Bz.range (fun j u h=>by simpa using h)) rfl .nil) ?_;exact ⟨rfl,(E1.trans E2).then hgz (fun g h=>by cases h;omega)⟩
theorem r2neg (x:Fd.E) (w:World) :
    Calls Tryz.prog 220 #[.agg (xc x).toArray] w fun e w'=>e=.returned (.agg (xc (-x)).toArray)∧Ext w w':=by
  refine q0k Tryz.func220 rfl Tryz.ntmps220 rfl ?_;(refine q0b<|q0a ?_);refine q1t rfl ?_;intro g1 w1 B1 hg1 E1 hs1;refine q0w ?_;intro g3 w3 B3 hg3 E3 hs3;have Ea:=E1.trans E3;have C1:=B1.ext E3;(refine q0c<|tn<|q0b ?_);apply q1h 5 (by kernel_rfl);(apply DW_x (fun r w hA hH=>(q0i rfl).trans rfl);apply DW_x (fun r w hA hH=>(X_ld rfl (C1.ext hA) rfl).trans rfl));((with_reducible apply q1x);(exact fun _=>rfl);(exact fun _=>rfl);(exact fun r w hA hH=>rneg x.a w));(apply DW_x (fun r w hA hH=>(q0i rfl).trans rfl);apply DW_x (fun r w hA hH=>(X_ld rfl (C1.ext hA) rfl).trans rfl));((with_reducible exact q1p);(exact rfl);(repeat (first | exact .inr (.inr (fun _ _=>by with_reducible rfl)) | (refine And.intro ?_ ?_) | exact .inr (.inl rfl) | exact .inl (by decide +kernel) | exact trivial | exact .inr (.inr (fun _ _=>rfl))));(try dsimp only [Nat.reduceAdd]));intro r w4 E4 H4;refine L_fv rfl (rneg x.b w4) ?_;intro w5 E5;have E7:=E4.trans E5;refine Ls (z0u (a:=(-x).a.val) (b:=(-x).b.val) rfl rfl) ?_;refine q0j rfl rfl rfl q1d (B3.ext E7) rfl ?_;intro wz Bz hgz _;(refine q0c<|tn<|q0r ?_);refine q0y rfl rfl (Res.cellA inferInstance rfl (Bz.range (fun j u h=>by simpa using h)) rfl .nil) ?_;exact ⟨rfl,(Ea.trans E7).then hgz (fun g h=>by cases h;have:=E1.size;omega)⟩
theorem r2made (a b:Nat) (ha:a < 18446744073709551616) (hb:b < 18446744073709551616) (w:World) :
    Calls Tryz.prog 29 #[.agg (exC a b).toArray] w fun e w'=>e=.returned (.agg (xc ⟨Fd.k a,Fd.k b⟩).toArray)∧Ext w w':=by
  refine q0k Tryz.func29 rfl Tryz.ntmps29 rfl ?_;(refine q0b<|q0a ?_);refine q1t rfl ?_;intro g1 w1 B1 hg1 E1 hs1;refine q0w ?_;intro g3 w3 B3 hg3 E3 hs3;have Ea:=E1.trans E3;have C1:=B1.ext E3;(refine q0c<|tn<|q0b ?_);apply q1h 5 (by kernel_rfl);(apply DW_x (fun r w hA hH=>(q0i rfl).trans rfl);apply DW_x (fun r w hA hH=>(X_ld rfl (C1.ext hA) rfl).trans rfl));((with_reducible apply q1x);(exact fun _=>rfl);(exact fun _=>rfl);(exact fun r w hA hH=>q7d a ha w));(apply DW_x (fun r w hA hH=>(q0i rfl).trans rfl);apply DW_x (fun r w hA hH=>(X_ld rfl (C1.ext hA) rfl).trans rfl));((with_reducible exact q1p);(exact rfl);(repeat (first | exact .inr (.inr (fun _ _=>by with_reducible rfl)) | (refine And.intro ?_ ?_) | exact .inr (.inl rfl) | exact .inl (by decide +kernel) | exact trivial | exact .inr (.inr (fun _ _=>rfl))));(try dsimp only [Nat.reduceAdd]));intro r w4 E4 H4;refine L_fv rfl (q7d b hb w4) ?_;intro w5 E5;have E7:=E4.trans E5;refine Ls (z0u (a:=(Fd.k a).val) (b:=(Fd.k b).val) rfl rfl) ?_;refine q0j rfl rfl rfl q1d (B3.ext E7) rfl ?_;intro wz Bz hgz _;(refine q0c<|tn<|q0r ?_);refine q0y rfl rfl (Res.cellA inferInstance rfl (Bz.range (fun j u h=>by simpa using h)) rfl .nil) ?_;exact ⟨rfl,(Ea.trans E7).then hgz (fun g h=>by cases h;have:=E1.size;omega)⟩
theorem sub_neg (x y:Fd.E):x+-y=x - y:=by
  apply Fd.E.eq <;> simp only [Fd.E.defs] <;> grind
theorem r2sub (x y:Fd.E) (w:World) :
    Calls Tryz.prog 210 #[.agg (xc x).toArray,.agg (xc y).toArray] w fun e w'=>e=.returned (.agg (xc (x - y)).toArray)∧Ext w w':=by
  refine q0k Tryz.func210 rfl Tryz.ntmps210 rfl ?_;(refine q0b<|q0a ?_);refine q1t rfl ?_;intro g1 w1 B1 hg1 E1 hs1;refine q1t rfl ?_;intro g2 w2 B2 hg2 E2 hs2;refine q0w ?_;intro g3 w3 B3 hg3 E3 hs3;have Ea:=E1.trans (E2.trans E3);have C1:=B1.ext (E2.trans E3);have C2:=B2.ext E3;(refine q0c<|tn<|q0b ?_);apply q1h 3 (by kernel_rfl);(apply DW_x (fun r w hA hH=>(q1a rfl (C1.ext hA) rfl).trans rfl);apply DW_x (fun r w hA hH=>(q1a rfl (C2.ext hA) rfl).trans rfl));((with_reducible apply q1x);(exact fun _=>rfl);(exact fun _=>rfl);(exact fun r w hA hH=>r2neg y w));skip;((with_reducible exact q1p);(exact rfl);(repeat (first | exact .inr (.inr (fun _ _=>by with_reducible rfl)) | (refine And.intro ?_ ?_) | exact .inr (.inl rfl) | exact .inl (by decide +kernel) | exact trivial | exact .inr (.inr (fun _ _=>rfl))));(try dsimp only [Nat.reduceAdd]));intro r w4 E4 H4;refine L_fv rfl (r2add x (-y) w4) ?_;intro w5 E5;have E7:=E4.trans E5;rw [sub_neg];refine q0j rfl rfl rfl q1d (B3.ext E7) rfl ?_;intro wz Bz hgz _;(refine q0c<|tn<|q0r ?_);refine q0y rfl rfl (Res.cellA inferInstance rfl (Bz.range (fun j u h=>by simpa using h)) rfl .nil) ?_;exact ⟨rfl,(Ea.trans E7).then hgz (fun g h=>by cases h;have:=E1.size;have:=E2.size;omega)⟩
theorem r2mulb (x:Fd.E) (y:Fd.K) (w:World) :
    Calls Tryz.prog 39 #[.agg (xc x).toArray,kv y] w fun e w'=>e=.returned (.agg (xc (x * Fd.E.of y)).toArray)∧Ext w w':=by
  refine q0k Tryz.func39 rfl Tryz.ntmps39 rfl ?_;(refine q0b<|q0a ?_);refine q1t rfl ?_;intro g1 w1 B1 hg1 E1 hs1;refine q0w ?_;intro g3 w3 B3 hg3 E3 hs3;have Ea:=E1.trans E3;have C1:=B1.ext E3;(refine q0c<|tn<|q0b ?_);apply q1h 3 (by kernel_rfl);(apply DW_x (fun r w hA hH=>(q1a rfl (C1.ext hA) rfl).trans rfl);apply DW_x (fun r w hA hH=>(q0d (v:=.int _ _) rfl).trans rfl));((with_reducible apply q1x);(exact fun _=>rfl);(exact fun _=>rfl);(exact fun r w hA hH=>r2base y w));skip;((with_reducible exact q1p);(exact rfl);(repeat (first | exact .inr (.inr (fun _ _=>by with_reducible rfl)) | (refine And.intro ?_ ?_) | exact .inr (.inl rfl) | exact .inl (by decide +kernel) | exact trivial | exact .inr (.inr (fun _ _=>rfl))));(try dsimp only [Nat.reduceAdd]));intro r w4 E4 H4;refine L_fv rfl (r2mul x (Fd.E.of y) w4) ?_;intro w5 E5;have E7:=E4.trans E5;refine q0j rfl rfl rfl q1d (B3.ext E7) rfl ?_;intro wz Bz hgz _;(refine q0c<|tn<|q0r ?_);refine q0y rfl rfl (Res.cellA inferInstance rfl (Bz.range (fun j u h=>by simpa using h)) rfl .nil) ?_;exact ⟨rfl,(Ea.trans E7).then hgz (fun g h=>by cases h;have:=E1.size;omega)⟩
theorem r2valid (a b:Nat) (w:World) :
    Calls Tryz.prog 82 #[.agg (exC a b).toArray] w fun e w'=>e=.returned (.bool (decide (a < pr) && decide (b < pr)))∧Ext w w':=by
  refine q0k Tryz.func82 rfl Tryz.ntmps82 rfl ?_;(refine q0b<|q0a ?_);refine q1t rfl ?_;intro g1 w1 B1 hg1 E1 hs1;(refine a_B rfl<|q0c<|tn<|q0b<|q0a<|Ls (q0i rfl)<|Ls (X_ld rfl B1 rfl) ?_);have h1:=rvalid a w1;cases hd:decide (a < pr)
  · rw [hd] at h1;refine L_fv rfl (h1) ?_;intro w2 E2;(refine m_B rfl<|Lo2 rfl rfl rfl rfl<|Lo2 rfl rfl rfl rfl<|Lo2 rfl rfl rfl rfl<|Ls (q0s (v:=.bool _) rfl rfl)<|a_B rfl<|q0c<|tn<|q0r ?_);refine q0e rfl rfl (v:=.bool _) rfl ⟨rfl,E1.trans E2⟩
  · rw [hd] at h1;refine L_fv rfl (h1) ?_;intro w2 E2;(refine m_B rfl<|Lg2 rfl rfl rfl (q0i rfl)<|Lg2 rfl rfl rfl (X_ld rfl (B1.ext E2) rfl) ?_);refine q1z rfl rfl rfl ?_;refine L_fv rfl (rvalid b w2) ?_;intro w3 E3;(refine Ls (q0v (v:=.bool _) rfl rfl)<|a_B rfl<|q0c<|tn<|q0r ?_);refine q0e rfl rfl (v:=.bool _) rfl ⟨?_,E1.trans (E2.trans E3)⟩;rw [Bool.true_and]
end Go.Proofs.YtpohjepbmgeplaaGreatDoor
namespace Go.Proofs.YtpohjepbmgeplaaGreatDoor
open Go.RowKit Go.Proofs.K
open _root_.Fd (pr K pw root)
theorem pw_odd (a o:K) {q:Nat} (h:q % 2=1):o * a * pw (a * a) (q / 2)=o * pw a q:=by
  have e:pw a q=pw a (2 * (q / 2)) * a:=by
    show pw a q=pw a (2 * (q / 2)+1);rw [show 2 * (q / 2)+1=q by omega]
  rw [e,Fd.pw_mul,Fd.pw_two];grind
theorem pw_even (a o:K) {q:Nat} (h:q % 2 ≠ 1):o * pw (a * a) (q / 2)=o * pw a q:=by
  have e:pw a q=pw a (2 * (q / 2)):=by rw [show 2 * (q / 2)=q by omega]
  rw [e,Fd.pw_mul,Fd.pw_two]
set_option maxHeartbeats 1000000 in
theorem rpow (x:K) (m:Nat) (hm:m < 18446744073709551616) (w:World) :
    Calls Tryz.prog 156 #[kv x,.int .u64 (m:Nat)] w fun e w'=>e=.returned (kv (pw x m))∧Ext w w':=by
  refine q0k Tryz.func156 rfl Tryz.ntmps156 rfl ?_;(refine q0b<|q0a<|a_I rfl<|q0c<|tn<|q0b<|q0a<|a_I rfl<|q0c<|tn<|q0b<|q0h ?_);refine q1k (fun q f w'=>∃ a o:K,f 0=kv a∧f 1=.int .u64 (q:Nat)∧f 5=kv o∧o * pw a q=pw x m∧q < 18446744073709551616∧Ext w w') m ?_ ?_
  · exact ⟨x,1,rfl,rfl,rfl,by grind,hm,Ext.refl w⟩
  · rintro q f wr ⟨a,o,h0,h1,h5,hq,hlt,E⟩;rw [fold h0,fold h1,fold h5];(refine q0b<|q0b<|q0a<|m_I rfl<|Ls (z2u rfl rfl)<|q0c<|tn ?_);refine q1b rfl (fun h=>?_) (fun h=>?_)
    · (refine q0q<|tn<|q0h<|q0b<|q0b<|q0a<|m_I rfl<|Ls (q4d rfl rfl (by omega))<|Ls (z2m rfl rfl)<|q0c<|tn ?_);refine q1b rfl (fun h2=>?_) (fun h2=>?_)
      · (refine q0a<|m_I rfl<|m_I rfl ?_);refine L_fv rfl (rmul o a wr) ?_;intro w2 E2;(refine a_I rfl<|q0c<|tn<|q0b<|q0a<|m_I rfl<|m_I rfl ?_);refine L_fv rfl (rmul a a w2) ?_;intro w3 E3;(refine a_I rfl<|q0c<|tn<|q0a<|m_I rfl<|Ls (z3e rfl rfl (by omega))<|a_I rfl<|q0c<|bn<|tn ?_);exact ⟨q / 2,by omega,a * a,o * a,rfl,rfl,rfl,(pw_odd a o (by omega)).trans hq,by omega,E.trans (E2.trans E3)⟩
      · (refine q0q<|tn<|q0b<|q0a<|m_I rfl<|m_I rfl ?_);refine L_fv rfl (rmul a a wr) ?_;intro w3 E3;(refine a_I rfl<|q0c<|tn<|q0a<|m_I rfl<|Ls (z3e rfl rfl (by omega))<|a_I rfl<|q0c<|bn<|tn ?_);exact ⟨q / 2,by omega,a * a,o,rfl,rfl,rfl,(pw_even a o (by omega)).trans hq,by omega,E.trans E3⟩
    · obtain rfl:q=0:=(by omega);(refine q1j<|te<|te<|bx<|tn<|q0b<|q0a<|m_I rfl<|a_I rfl<|q0c<|tn<|q0r ?_);refine q0e rfl rfl (v:=.int _ _) rfl ⟨?_,E⟩;rw [← hq,show o * pw a 0=o by show o * 1=o;grind]
theorem gpowm (x y:K) (w:World) :
    Calls Tryz.prog 182 #[kv x,kv y] w fun e w'=>e=.returned (kv (x * y))∧Ext w w':=by
  refine q0k Tryz.func182 rfl Tryz.ntmps182 rfl ?_;(refine q0b<|q0a<|a_I rfl<|q0c<|tn<|q0b<|q0a<|m_I rfl<|m_I rfl ?_);refine L_fv rfl (gmul x y w) ?_;intro w2 E2;(refine a_I rfl<|q0c<|tn<|q0r ?_);refine q0e rfl rfl (v:=.int _ _) rfl ⟨rfl,E2⟩
set_option maxHeartbeats 1000000 in
theorem gpower (x:K) (m:Nat) (hm:m < 18446744073709551616) (w:World) :
    Calls Tryz.prog 181 #[kv x,kv 1,.int .u64 (m:Nat),.func (.func 182) #[] #[]] w fun e w'=>e=.returned (kv (pw x m))∧Ext w w':=by
  refine q0k Tryz.func181 rfl Tryz.ntmps181 rfl ?_;(refine q0b<|q0a<|a_I rfl<|q0c<|tn<|q0b<|q0a<|m_I rfl<|a_I rfl<|q0c<|tn<|q0b<|q0h ?_);refine q1k (fun q f w'=>∃ a o:K,f 0=kv a∧f 2=.int .u64 (q:Nat)∧f 3=.func (.func 182) #[] #[]∧f 9=kv o∧o * pw a q=pw x m∧q < 18446744073709551616∧Ext w w') m ?_ ?_
  · exact ⟨x,1,rfl,rfl,rfl,rfl,by grind,hm,Ext.refl w⟩
  · rintro q f wr ⟨a,o,h0,h1,h3,h5,hq,hlt,E⟩;rw [fold h0,fold h1,fold h3,fold h5];have e1:bits .and .u64 (q:Int) 1=((q % 2:Nat):Int):=by
      have h:=bits_and_u64_nat q 1 hlt (by omega);rw [Nat.and_one_is_mod] at h;exact h
    (refine q0b<|q0b<|q0a<|m_I rfl<|Ls (z2u rfl rfl)<|q0c<|tn ?_);refine q1b rfl (fun h=>?_) (fun h=>?_)
    · (refine q0q<|tn<|q0b<|q0h<|q0b<|q0b<|q0a<|m_I rfl<|Ls (q5m rfl rfl)<|Ls (z2m rfl rfl)<|q0c<|tn ?_);rw [e1];skip;refine q1b rfl (fun h2=>?_) (fun h2=>?_)
      · (refine q0a<|Ls (q0d (v:=.func _ _ _) rfl)<|m_I rfl<|m_I rfl ?_);refine q6y (vl:=[kv o,kv a]) rfl (gpowm o a wr) rfl (fun e w2 hq2=>⟨_,hq2.1,?_⟩);have E2:=hq2.2;(refine a_I rfl<|q0c<|tn<|q0a<|Ls (q0d (v:=.func _ _ _) rfl)<|m_I rfl<|m_I rfl ?_);refine q6y (vl:=[kv a,kv a]) rfl (gpowm a a w2) rfl (fun e w3 hq3=>⟨_,hq3.1,?_⟩);have E3:=hq3.2;(refine a_I rfl<|q0c<|bn<|tn<|q0a<|m_I rfl<|Ls (q4m rfl rfl (by omega))<|a_I rfl<|q0c<|tn ?_);exact ⟨q / 2,by omega,a * a,o * a,rfl,congrArg (Value.int .u64) (q5u q 1 (by omega)),rfl,rfl,(pw_odd a o (by omega)).trans hq,by omega,E.trans (E2.trans E3)⟩
      · (refine q0q<|tn<|q0a<|Ls (q0d (v:=.func _ _ _) rfl)<|m_I rfl<|m_I rfl ?_);refine q6y (vl:=[kv a,kv a]) rfl (gpowm a a wr) rfl (fun e w3 hq3=>⟨_,hq3.1,?_⟩);have E3:=hq3.2;(refine a_I rfl<|q0c<|bn<|tn<|q0a<|m_I rfl<|Ls (q4m rfl rfl (by omega))<|a_I rfl<|q0c<|tn ?_);exact ⟨q / 2,by omega,a * a,o,rfl,congrArg (Value.int .u64) (q5u q 1 (by omega)),rfl,rfl,(pw_even a o (by omega)).trans hq,by omega,E.trans E3⟩
    · obtain rfl:q=0:=(by omega);(refine q1j<|te<|te<|bx<|tn<|q0b<|q0a<|m_I rfl<|a_I rfl<|q0c<|tn<|q0r ?_);refine q0e rfl rfl (v:=.int _ _) rfl ⟨?_,E⟩;rw [← hq,show o * pw a 0=o by show o * 1=o;grind]
theorem gpow (x:K) (m:Nat) (hm:m < 18446744073709551616) (w:World) :
    Calls Tryz.prog 139 #[kv x,.int .u64 (m:Nat)] w fun e w'=>e=.returned (kv (pw x m))∧Ext w w':=by
  refine q0k Tryz.func139 rfl Tryz.ntmps139 rfl ?_;(refine q0b<|q0a<|a_I rfl<|q0c<|tn<|q0b<|q0a<|m_I rfl<|m_I rfl ?_);refine L_fv rfl (gpower x m hm w) ?_;intro w2 E2;(refine a_I rfl<|q0c<|tn<|q0r ?_);refine q0e rfl rfl (v:=.int _ _) rfl ⟨rfl,E2⟩
theorem root_exp {j:Nat} (h:j≤32):(18446744069414584320:Int).fdiv (2 ^ (min (j:Int).toNat IntKind.u64.bits))=((18446744069414584320 / 2 ^ j:Nat):Int):=by
  exact q5u 18446744069414584320 j (by omega)
theorem groot (j:Nat) (h:j≤32) (w:World) :
    Calls Tryz.prog 137 #[.int .i64 (j:Nat)] w fun e w'=>e=.returned (.tuple #[kv (root j),.int .i64 0])∧Ext w w':=by
  refine q0k Tryz.func137 rfl Tryz.ntmps137 rfl ?_;(refine q0b<|q0a<|a_I rfl<|a_I rfl<|q0c<|tn<|q0b<|q0b<|q0a<|m_I rfl<|Ls (q2i rfl rfl (by omega))<|m_B rfl<|Lg2 rfl rfl rfl (q0d (v:=.int _ _) rfl)<|Lg2 rfl rfl rfl (q3a rfl rfl (by omega))<|Ls (q0s (v:=.bool _) rfl rfl)<|q0c<|tn<|q0x rfl<|q0q<|tn<|q0b<|q0a<|m_I rfl<|Ls (q4m rfl rfl (by omega)) ?_);have hb:18446744069414584320 / 2 ^ j < 18446744073709551616:=Nat.lt_of_le_of_lt (Nat.div_le_self _ _) (by decide);rw [root_exp h];generalize hz:18446744069414584320 / 2 ^ j=z at hb;refine L_fv rfl (gpow 7 z hb w) ?_;intro w2 E2;(refine a_I rfl<|a_I rfl<|q0c<|tn<|q0r ?_);refine q2z rfl rfl (v:=.int _ _) (x:=.int _ _) rfl rfl ?_;rw [← hz];exact ⟨rfl,E2⟩
theorem rroot (j:Nat) (h:j≤32) (w:World) :
    Calls Tryz.prog 154 #[.int .i64 (j:Nat)] w fun e w'=>e=.returned (.tuple #[kv (root j),.int .i64 0])∧Ext w w':=by
  refine q0k Tryz.func154 rfl Tryz.ntmps154 rfl ?_;(refine q0b<|q0a<|a_I rfl<|a_I rfl<|q0c<|tn<|q0b<|q0b<|q0a<|m_I rfl<|Ls (q2i rfl rfl (by omega))<|m_B rfl<|Lg2 rfl rfl rfl (q0d (v:=.int _ _) rfl)<|Lg2 rfl rfl rfl (q3a rfl rfl (by omega))<|Ls (q0s (v:=.bool _) rfl rfl)<|q0c<|tn<|q0x rfl<|q0q<|tn<|q0b<|q0a<|a_I rfl<|q0c<|tn<|q0b<|q0b<|q0a<|a_I rfl<|q0c<|tn<|q0h ?_);refine q1k (fun q f w'=>∃ i,q=j - i∧i≤j∧f 0=.int .i64 (j:Nat)∧f 4=.int .u64 ((18446744069414584320 / 2 ^ i:Nat):Int)∧f 5=.int .i64 (i:Nat)∧Ext w w') j ?_ ?_
  · exact ⟨0,rfl,by omega,rfl,rfl,rfl,Ext.refl w⟩
  · rintro q f wr ⟨i,hq,hi,h0,h4,h5,E⟩;rw [fold h0,fold h4,fold h5];have hb:18446744069414584320 / 2 ^ i < 18446744073709551616:=Nat.lt_of_le_of_lt (Nat.div_le_self _ _) (by decide);generalize hz:18446744069414584320 / 2 ^ i=z at hb;(refine q0b<|q0b<|q0a<|m_I rfl<|m_I rfl<|Ls (q1w rfl rfl)<|q0c<|tn ?_);refine q1b rfl (fun h=>?_) (fun h=>?_)
    · (refine q0q<|tn<|q0b<|q0h<|q0a<|m_I rfl<|Ls (z3e rfl rfl (by omega))<|a_I rfl<|q0c<|bn<|tn<|q0a<|m_I rfl<|Ls (q1e rfl rfl (by omega))<|a_I rfl<|q0c<|tn ?_);exact ⟨j - (i+1),by omega,i+1,rfl,by omega,rfl,congrArg (Value.int .u64) (by rw [Nat.pow_succ,← Nat.div_div_eq_div_mul,hz];omega),rfl,E⟩
    · obtain rfl:i=j:=(by omega);(refine q1j<|te<|te<|bx<|tn<|q0b<|q0a<|m_I rfl ?_);refine L_fv rfl (rpow 7 z hb wr) ?_;intro w2 E2;(refine a_I rfl<|a_I rfl<|q0c<|tn<|q0r ?_);refine q2z rfl rfl (v:=.int _ _) (x:=.int _ _) rfl rfl ?_;rw [← hz];exact ⟨rfl,E.trans E2⟩
end Go.Proofs.YtpohjepbmgeplaaGreatDoor
namespace Go.Proofs.YtpohjepbmgeplaaGreatDoor
open Go.RowKit Go.Proofs.K
open _root_.Fd (pr K E pw root)
theorem gbase (x:Fd.K) (w:World) :
    Calls Tryz.prog 97 #[kv x] w fun e w'=>e=.returned (.agg (xc (Fd.E.of x)).toArray)∧Ext w w':=by
  refine q0k Tryz.func97 rfl Tryz.ntmps97 rfl ?_;(refine q0b<|q0a ?_);refine q0w ?_;intro g1 w1 B1 hg1 E1 hs1;(refine q0c<|tn<|q0b<|q0a<|m_I rfl ?_);refine Ls (z4r (a:=x.val) rfl) ?_;refine q0j rfl rfl rfl q1d (B1) rfl ?_;intro wz Bz hgz _;(refine q0c<|tn<|q0r ?_);refine q0y rfl rfl (Res.cellA inferInstance rfl (Bz.range (fun j u h=>by simpa using h)) rfl .nil) ?_;exact ⟨rfl,(E1).then hgz (fun g h=>by cases h;omega)⟩
theorem z4e (a b:Nat) (w:World) :
    Calls Tryz.prog 77 #[.agg (exC a b).toArray] w fun e w'=>e=.returned (.bool (decide (a < pr) && decide (b < pr)))∧Ext w w':=by
  refine q0k Tryz.func77 rfl Tryz.ntmps77 rfl ?_;(refine q0b<|q0a ?_);refine q1t rfl ?_;intro g1 w1 B1 hg1 E1 hs1;(refine a_B rfl<|q0c<|tn<|q0b<|q0a<|Ls (q0i rfl)<|Ls (X_ld rfl B1 rfl) ?_);have h1:=gvalid a w1;cases hd:decide (a < pr)
  · rw [hd] at h1;refine L_fv rfl (h1) ?_;intro w2 E2;(refine m_B rfl<|Lo2 rfl rfl rfl rfl<|Lo2 rfl rfl rfl rfl<|Lo2 rfl rfl rfl rfl<|Ls (q0s (v:=.bool _) rfl rfl)<|a_B rfl<|q0c<|tn<|q0r ?_);refine q0e rfl rfl (v:=.bool _) rfl ⟨rfl,E1.trans E2⟩
  · rw [hd] at h1;refine L_fv rfl (h1) ?_;intro w2 E2;(refine m_B rfl<|Lg2 rfl rfl rfl (q0i rfl)<|Lg2 rfl rfl rfl (X_ld rfl (B1.ext E2) rfl) ?_);refine q1z rfl rfl rfl ?_;refine L_fv rfl (gvalid b w2) ?_;intro w3 E3;(refine Ls (q0v (v:=.bool _) rfl rfl)<|a_B rfl<|q0c<|tn<|q0r ?_);refine q0e rfl rfl (v:=.bool _) rfl ⟨?_,E1.trans (E2.trans E3)⟩;rw [Bool.true_and]
theorem gcomp (id:FuncId) [TFun Tryz.prog id] (op:K→K→K) (hop:∀ (x y:K) (w:World),Calls Tryz.prog id #[kv x,kv y] w fun e w'=>e=.returned (kv (op x y))∧Ext w w')
    (x y:E) (b:Nat) (w:World) (hB:Blk w b 80 [.func (.func id) #[] #[]]) :
    Calls Tryz.prog 143 #[.agg (xc x).toArray,.agg (xc y).toArray,.pointer (some ⟨b,0,none⟩)] w fun e w'=>e=.returned (.agg (exC (op x.a y.a).val (op x.b y.b).val).toArray)∧Ext w w':=by
  refine q0k Tryz.func143 rfl Tryz.ntmps143 rfl ?_;(refine q0b<|q0a ?_);refine q1t rfl ?_;intro g1 w1 B1 hg1 E1 hs1;refine q1t rfl ?_;intro g2 w2 B2 hg2 E2 hs2;refine q0w ?_;intro g3 w3 B3 hg3 E3 hs3;have Ea:=E1.trans (E2.trans E3);have C1:=B1.ext (E2.trans E3);have C2:=B2.ext E3;have C0:=hB.ext Ea;(refine q0c<|tn<|q0b ?_);apply q1h 11 (by kernel_rfl);(apply DW_x (fun r w hA hH=>(X_ld rfl (C0.ext hA) rfl).trans rfl);apply DW_x (fun r w hA hH=>(q0i rfl).trans rfl);apply DW_x (fun r w hA hH=>(X_ld rfl (C1.ext hA) rfl).trans rfl);apply DW_x (fun r w hA hH=>(q0i rfl).trans rfl);apply DW_x (fun r w hA hH=>(X_ld rfl (C2.ext hA) rfl).trans rfl));apply DW_fc (first:=#[]) (cap:=#[]) (vl:=fun _=>[kv x.a,kv y.a]) (fun _=>rfl) (fun _=>rfl) (fun r w hA hH=>hop x.a y.a w);(apply DW_x (fun r w hA hH=>(X_ld rfl (C0.ext hA) rfl).trans rfl);apply DW_x (fun r w hA hH=>(q0i rfl).trans rfl);apply DW_x (fun r w hA hH=>(X_ld rfl (C1.ext hA) rfl).trans rfl);apply DW_x (fun r w hA hH=>(q0i rfl).trans rfl);apply DW_x (fun r w hA hH=>(X_ld rfl (C2.ext hA) rfl).trans rfl));((with_reducible exact q1p);(exact rfl);(repeat (first | exact .inr (.inr (fun _ _=>by with_reducible rfl)) | (refine And.intro ?_ ?_) | exact .inr (.inl rfl) | exact .inl (by decide +kernel) | exact trivial | exact .inr (.inr (fun _ _=>rfl))));(try dsimp only [Nat.reduceAdd]));intro r w4 E4 H4;refine q6y (vl:=[kv x.b,kv y.b]) rfl (hop x.b y.b w4) rfl (fun e w5 hq=>⟨_,hq.1,?_⟩);have E5:=hq.2;refine Ls (z0u (a:=(op x.a y.a).val) (b:=(op x.b y.b).val) rfl rfl) ?_;refine q0j rfl rfl rfl q1d (B3.ext (E4.trans E5)) rfl ?_;intro wz Bz hgz _;(refine q0c<|tn<|q0r ?_);refine q0y rfl rfl (Res.cellA inferInstance rfl (Bz.range (fun j u h=>by simpa using h)) rfl .nil) ?_;exact ⟨rfl,(Ea.trans (E4.trans E5)).then hgz (fun g h=>by cases h;have:=E1.size;have:=E2.size;omega)⟩
def CwF (id:FuncId) (v:Value) (w:World):Prop:=∃ b,v=.func (.func 143) #[] #[.pointer (some ⟨b,0,none⟩)]∧Blk w b 80 [.func (.func id) #[] #[]]
theorem CwF.ext {id:FuncId} {v:Value} {w w':World} (h:CwF id v w) (E:Ext w w'):CwF id v w':=by
  obtain ⟨b,h1,h2⟩:=h;exact ⟨b,h1,h2.ext E⟩
theorem gcw (id:FuncId) (w:World) :
    Calls Tryz.prog 94 #[.func (.func id) #[] #[]] w fun e w'=>∃ v,e=.returned v∧Ext w w'∧CwF id v w':=by
  refine q0k Tryz.func94 rfl Tryz.ntmps94 rfl ?_;(refine q0b<|q0a ?_);refine q4r (v:=.func (.func id) #[] #[]) rfl rfl ?_;intro g1 w1 B1 hg1 E1 hs1;(refine Ls (q0l (v:=Value.nilFunc) rfl)<|q0c<|tn<|q0b<|q0a ?_);refine Ls (q3l (vf:=[]) (vc:=[.pointer (some ⟨g1,0,none⟩)]) rfl rfl) ?_;(refine Ls (q0l (v:=.func _ _ _) rfl)<|q0c<|tn<|q0r ?_);refine q0e rfl rfl (v:=.func _ _ _) rfl ⟨_,rfl,E1,g1,rfl,B1⟩
theorem gexadd (x y:E) (w:World) :
    Calls Tryz.prog 41 #[.agg (xc x).toArray,.agg (xc y).toArray] w fun e w'=>e=.returned (.agg (xc (x+y)).toArray)∧Ext w w':=by
  refine q0k Tryz.func41 rfl Tryz.ntmps41 rfl ?_;(refine q0b<|q0a ?_);refine q1t rfl ?_;intro g1 w1 B1 hg1 E1 hs1;refine q1t rfl ?_;intro g2 w2 B2 hg2 E2 hs2;refine q0w ?_;intro g3 w3 B3 hg3 E3 hs3;have Ea:=E1.trans (E2.trans E3);have C1:=B1.ext (E2.trans E3);have C2:=B2.ext E3;(refine q0c<|tn<|q0b ?_);apply q1h 3 (by kernel_rfl);((with_reducible apply q4y (F:=CwF 95));(exact fun _=>rfl);(exact fun _=>rfl);(exact fun r w hA hH=>gcw _ w);(exact fun i u w w' hi ht hR h=>h.ext hR));(apply DW_x (fun r w hA hH=>(q1a rfl (C1.ext hA) rfl).trans rfl);apply DW_x (fun r w hA hH=>(q1a rfl (C2.ext hA) rfl).trans rfl));((with_reducible exact q1p);(exact rfl);(repeat (first | exact .inr (.inr (fun _ _=>by with_reducible rfl)) | (refine And.intro ?_ ?_) | exact .inr (.inl rfl) | exact .inl (by decide +kernel) | exact trivial | exact .inr (.inr (fun _ _=>rfl))));(try dsimp only [Nat.reduceAdd]));intro r w4 E4 H4;obtain ⟨b,hb,hB⟩:CwF _ (r 0) w4:=H4 0;refine q6y (vl:=[.agg (xc x).toArray,.agg (xc y).toArray]) (show _=_ from hb) (gcomp 95 (·+·) gadd x y b w4 hB) rfl (fun e w5 hq=>⟨_,hq.1,?_⟩);have E5:=hq.2;refine q0j rfl rfl rfl q1d (B3.ext (E4.trans E5)) rfl ?_;intro wz Bz hgz _;(refine q0c<|tn<|q0r ?_);refine q0y rfl rfl (Res.cellA inferInstance rfl (Bz.range (fun j u h=>by simpa using h)) rfl .nil) ?_;exact ⟨rfl,(Ea.trans (E4.trans E5)).then hgz (fun g h=>by cases h;have:=E1.size;have:=E2.size;omega)⟩
theorem gexsub (x y:E) (w:World) :
    Calls Tryz.prog 167 #[.agg (xc x).toArray,.agg (xc y).toArray] w fun e w'=>e=.returned (.agg (xc (x - y)).toArray)∧Ext w w':=by
  refine q0k Tryz.func167 rfl Tryz.ntmps167 rfl ?_;(refine q0b<|q0a ?_);refine q1t rfl ?_;intro g1 w1 B1 hg1 E1 hs1;refine q1t rfl ?_;intro g2 w2 B2 hg2 E2 hs2;refine q0w ?_;intro g3 w3 B3 hg3 E3 hs3;have Ea:=E1.trans (E2.trans E3);have C1:=B1.ext (E2.trans E3);have C2:=B2.ext E3;(refine q0c<|tn<|q0b ?_);apply q1h 3 (by kernel_rfl);((with_reducible apply q4y (F:=CwF 187));(exact fun _=>rfl);(exact fun _=>rfl);(exact fun r w hA hH=>gcw _ w);(exact fun i u w w' hi ht hR h=>h.ext hR));(apply DW_x (fun r w hA hH=>(q1a rfl (C1.ext hA) rfl).trans rfl);apply DW_x (fun r w hA hH=>(q1a rfl (C2.ext hA) rfl).trans rfl));((with_reducible exact q1p);(exact rfl);(repeat (first | exact .inr (.inr (fun _ _=>by with_reducible rfl)) | (refine And.intro ?_ ?_) | exact .inr (.inl rfl) | exact .inl (by decide +kernel) | exact trivial | exact .inr (.inr (fun _ _=>rfl))));(try dsimp only [Nat.reduceAdd]));intro r w4 E4 H4;obtain ⟨b,hb,hB⟩:CwF _ (r 0) w4:=H4 0;refine q6y (vl:=[.agg (xc x).toArray,.agg (xc y).toArray]) (show _=_ from hb) (gcomp 187 (· - ·) gsub x y b w4 hB) rfl (fun e w5 hq=>⟨_,hq.1,?_⟩);have E5:=hq.2;refine q0j rfl rfl rfl q1d (B3.ext (E4.trans E5)) rfl ?_;intro wz Bz hgz _;(refine q0c<|tn<|q0r ?_);refine q0y rfl rfl (Res.cellA inferInstance rfl (Bz.range (fun j u h=>by simpa using h)) rfl .nil) ?_;exact ⟨rfl,(Ea.trans (E4.trans E5)).then hgz (fun g h=>by cases h;have:=E1.size;have:=E2.size;omega)⟩
set_option maxHeartbeats 1000000 in
theorem gtimes (x y:E) (w:World) :
    Calls Tryz.prog 165 #[.agg (xc x).toArray,.agg (xc y).toArray] w fun e w'=>e=.returned (.agg (xc (x * y)).toArray)∧Ext w w':=by
  refine q0k Tryz.func165 rfl Tryz.ntmps165 rfl ?_;(refine q0b<|q0a ?_);refine q1t rfl ?_;intro g1 w1 B1 hg1 E1 hs1;refine q1t rfl ?_;intro g2 w2 B2 hg2 E2 hs2;refine q0w ?_;intro g3 w3 B3 hg3 E3 hs3;have Ea:=E1.trans (E2.trans E3);have C1:=B1.ext (E2.trans E3);have C2:=B2.ext E3;(refine q0c<|tn<|q0b ?_);apply q1h 9 (by kernel_rfl);(apply DW_x (fun r w hA hH=>(q0i rfl).trans rfl);apply DW_x (fun r w hA hH=>(X_ld rfl (C1.ext hA) rfl).trans rfl);apply DW_x (fun r w hA hH=>(q0i rfl).trans rfl);apply DW_x (fun r w hA hH=>(X_ld rfl (C2.ext hA) rfl).trans rfl));((with_reducible apply q1x);(exact fun _=>rfl);(exact fun _=>rfl);(exact fun r w hA hH=>gmul x.a y.a w));(apply DW_x (fun r w hA hH=>(q0i rfl).trans rfl);apply DW_x (fun r w hA hH=>(X_ld rfl (C1.ext hA) rfl).trans rfl);apply DW_x (fun r w hA hH=>(q0i rfl).trans rfl);apply DW_x (fun r w hA hH=>(X_ld rfl (C2.ext hA) rfl).trans rfl));((with_reducible exact q1p);(exact rfl);(repeat (first | exact .inr (.inr (fun _ _=>by with_reducible rfl)) | (refine And.intro ?_ ?_) | exact .inr (.inl rfl) | exact .inl (by decide +kernel) | exact trivial | exact .inr (.inr (fun _ _=>rfl))));(try dsimp only [Nat.reduceAdd]));intro r w4 E4 H4;refine L_fv rfl (gmul x.b y.b w4) ?_;intro w5 E5;have E45:=E4.trans E5;(refine a_I rfl<|a_I rfl<|q0c<|tn<|q0b ?_);apply q1h 9 (by kernel_rfl);(apply DW_x (fun r w hA hH=>(q0i rfl).trans rfl);apply DW_x (fun r w hA hH=>(X_ld rfl (C1.ext (E45.trans hA)) rfl).trans rfl);apply DW_x (fun r w hA hH=>(q0i rfl).trans rfl);apply DW_x (fun r w hA hH=>(X_ld rfl (C1.ext (E45.trans hA)) rfl).trans rfl));((with_reducible apply q1x);(exact fun _=>rfl);(exact fun _=>rfl);(exact fun r w hA hH=>gadd x.a x.b w));(apply DW_x (fun r w hA hH=>(q0i rfl).trans rfl);apply DW_x (fun r w hA hH=>(X_ld rfl (C2.ext (E45.trans hA)) rfl).trans rfl);apply DW_x (fun r w hA hH=>(q0i rfl).trans rfl);apply DW_x (fun r w hA hH=>(X_ld rfl (C2.ext (E45.trans hA)) rfl).trans rfl));((with_reducible exact q1p);(exact rfl);(repeat (first | exact .inr (.inr (fun _ _=>by with_reducible rfl)) | (refine And.intro ?_ ?_) | exact .inr (.inl rfl) | exact .inl (by decide +kernel) | exact trivial | exact .inr (.inr (fun _ _=>rfl))));(try dsimp only [Nat.reduceAdd]));intro r w6 E6 H6;refine L_fv rfl (gadd y.a y.b w6) ?_;intro w7 E7;skip;refine L_fv rfl (gmul (x.a+x.b) (y.a+y.b) w7) ?_;intro w8 E8;(refine a_I rfl<|q0c<|tn<|q0b<|q0a<|m_I rfl<|m_I rfl ?_);refine L_fv rfl (gmul 7 (x.b * y.b) w8) ?_;intro w9 E9;skip;refine L_fv rfl (gadd (x.a * y.a) (7 * (x.b * y.b)) w9) ?_;intro w10 E10;(refine m_I rfl<|m_I rfl ?_);refine L_fv rfl (gsub ((x.a+x.b) * (y.a+y.b)) (x.a * y.a) w10) ?_;intro w11 E11;(refine m_I rfl ?_);refine L_fv rfl (gsub ((x.a+x.b) * (y.a+y.b) - x.a * y.a) (x.b * y.b) w11) ?_;intro w12 E12;have E13:=E45.trans (E6.trans (E7.trans (E8.trans (E9.trans (E10.trans (E11.trans E12))))));refine Ls (z0u (a:=(x.a * y.a+7 * (x.b * y.b)).val) (b:=((x.a+x.b) * (y.a+y.b) - x.a * y.a - x.b * y.b).val) rfl rfl) ?_;rw [Fd.E.mul_kara x y];refine q0j rfl rfl rfl q1d (B3.ext E13) rfl ?_;intro wz Bz hgz _;(refine q0c<|tn<|q0r ?_);refine q0y rfl rfl (Res.cellA inferInstance rfl (Bz.range (fun j u h=>by simpa using h)) rfl .nil) ?_;exact ⟨rfl,(Ea.trans E13).then hgz (fun g h=>by cases h;have:=E1.size;have:=E2.size;omega)⟩
theorem gexmul (x y:E) (w:World) :
    Calls Tryz.prog 116 #[.agg (xc x).toArray,.agg (xc y).toArray] w fun e w'=>e=.returned (.agg (xc (x * y)).toArray)∧Ext w w':=by
  refine q0k Tryz.func116 rfl Tryz.ntmps116 rfl ?_;(refine q0b<|q0a ?_);refine q1t rfl ?_;intro g1 w1 B1 hg1 E1 hs1;refine q1t rfl ?_;intro g2 w2 B2 hg2 E2 hs2;refine q0w ?_;intro g3 w3 B3 hg3 E3 hs3;have Ea:=E1.trans (E2.trans E3);have C1:=B1.ext (E2.trans E3);have C2:=B2.ext E3;(refine q0c<|tn<|q0b<|q0a<|Ls (q1a rfl C1 rfl)<|Ls (q1a rfl C2 rfl) ?_);refine L_fv rfl (gtimes x y w3) ?_;intro w4 E4;refine q0j rfl rfl rfl q1d (B3.ext E4) rfl ?_;intro wz Bz hgz _;(refine q0c<|tn<|q0r ?_);refine q0y rfl rfl (Res.cellA inferInstance rfl (Bz.range (fun j u h=>by simpa using h)) rfl .nil) ?_;exact ⟨rfl,(Ea.trans E4).then hgz (fun g h=>by cases h;have:=E1.size;have:=E2.size;omega)⟩
theorem gexmulb (x:E) (y:K) (w:World) :
    Calls Tryz.prog 242 #[.agg (xc x).toArray,kv y] w fun e w'=>e=.returned (.agg (xc (x * Fd.E.of y)).toArray)∧Ext w w':=by
  refine q0k Tryz.func242 rfl Tryz.ntmps242 rfl ?_;(refine q0b<|q0a ?_);refine q1t rfl ?_;intro g1 w1 B1 hg1 E1 hs1;refine q0w ?_;intro g3 w3 B3 hg3 E3 hs3;have Ea:=E1.trans E3;have C1:=B1.ext E3;(refine q0c<|tn<|q0b ?_);apply q1h 7 (by kernel_rfl);(apply DW_x (fun r w hA hH=>(q0i rfl).trans rfl);apply DW_x (fun r w hA hH=>(X_ld rfl (C1.ext hA) rfl).trans rfl);apply DW_x (fun r w hA hH=>(q0d (v:=.int _ _) rfl).trans rfl));((with_reducible apply q1x);(exact fun _=>rfl);(exact fun _=>rfl);(exact fun r w hA hH=>gmul x.a y w));(apply DW_x (fun r w hA hH=>(q0i rfl).trans rfl);apply DW_x (fun r w hA hH=>(X_ld rfl (C1.ext hA) rfl).trans rfl);apply DW_x (fun r w hA hH=>(q0d (v:=.int _ _) rfl).trans rfl));((with_reducible exact q1p);(exact rfl);(repeat (first | exact .inr (.inr (fun _ _=>by with_reducible rfl)) | (refine And.intro ?_ ?_) | exact .inr (.inl rfl) | exact .inl (by decide +kernel) | exact trivial | exact .inr (.inr (fun _ _=>rfl))));(try dsimp only [Nat.reduceAdd]));intro r w4 E4 H4;refine L_fv rfl (gmul x.b y w4) ?_;intro w5 E5;have E7:=E4.trans E5;refine Ls (z0u (a:=(x.a * y).val) (b:=(x.b * y).val) rfl rfl) ?_;rw [Fd.E.mul_of];refine q0j rfl rfl rfl q1d (B3.ext E7) rfl ?_;intro wz Bz hgz _;(refine q0c<|tn<|q0r ?_);refine q0y rfl rfl (Res.cellA inferInstance rfl (Bz.range (fun j u h=>by simpa using h)) rfl .nil) ?_;exact ⟨rfl,(Ea.trans E7).then hgz (fun g h=>by cases h;have:=E1.size;omega)⟩
theorem gmixed (x:E) (y:K) (w:World) :
    Calls Tryz.prog 241 #[kv y,.agg (xc x).toArray] w fun e w'=>e=.returned (.agg (xc (x * Fd.E.of y)).toArray)∧Ext w w':=by
  refine q0k Tryz.func241 rfl Tryz.ntmps241 rfl ?_;(refine q0b<|q0a ?_);refine q1t rfl ?_;intro g1 w1 B1 hg1 E1 hs1;refine q0w ?_;intro g3 w3 B3 hg3 E3 hs3;have Ea:=E1.trans E3;have C1:=B1.ext E3;(refine q0c<|tn<|q0b<|q0a<|Ls (q1a rfl C1 rfl)<|m_I rfl ?_);refine L_fv rfl (gexmulb x y w3) ?_;intro w4 E4;refine q0j rfl rfl rfl q1d (B3.ext E4) rfl ?_;intro wz Bz hgz _;(refine q0c<|tn<|q0r ?_);refine q0y rfl rfl (Res.cellA inferInstance rfl (Bz.range (fun j u h=>by simpa using h)) rfl .nil) ?_;exact ⟨rfl,(Ea.trans E4).then hgz (fun g h=>by cases h;have:=E1.size;omega)⟩
def exs (l:List (Nat × Nat)):List Value:=(l.map fun p=>exC p.1 p.2).flatten
theorem q5w (l:List (Nat × Nat)):(exs l).length=l.length * 2:=by
  induction l with
  | nil=>rfl
  | cons p l ih=>simp only [exs,List.map_cons,List.flatten_cons,List.length_append,List.length_cons] at ih ⊢;rw [ih];simp [exC];omega
theorem q3k (a b:List (Nat × Nat)):exs (a++b)=exs a++exs b:=by simp [exs]
theorem z4h {l:List (Nat × Nat)}:∀ v∈exs l,v.oneCell'=true:=by
  intro v hv;obtain ⟨c,hc,hv⟩:=List.mem_flatten.1 hv;obtain ⟨p,_,rfl⟩:=List.mem_map.1 hc;exact q1d v hv
theorem exs_get {l:List (Nat × Nat)} {i:Nat} {p:Nat × Nat} (h:l[i]?=some p):(exs l)[i * 2]?=some (.int .u64 (p.1:Nat))∧(exs l)[i * 2+1]?=some (.int .u64 (p.2:Nat)):=by
  induction l generalizing i with
  | nil=>simp at h
  | cons q l ih =>
    have e:exs (q :: l)=[.int .u64 (q.1:Nat),.int .u64 (q.2:Nat)]++exs l:=(by simp [exs,exC]);cases i with
    | zero=>simp at h;subst h;rw [e];exact ⟨rfl,rfl⟩
    | succ i =>
      have:=ih (i:=i) (by simpa using h);rw [e,List.getElem?_append_right (by simp;omega),List.getElem?_append_right (by simp;omega)];simp only [List.length_cons,List.length_nil];rw [show (i+1) * 2 - (0+1+1)=i * 2 by omega,show (i+1) * 2+1 - (0+1+1)=i * 2+1 by omega];exact this
def raw (l:List E):List (Nat × Nat):=l.map fun e=>(e.a.val,e.b.val)
theorem q1q (l:List E):(raw l).length=l.length:=by unfold raw;rw [List.length_map]
theorem q4l {l:List E} {i:Nat} {e:E} (h:l[i]?=some e):(raw l)[i]?=some (e.a.val,e.b.val):=by unfold raw;rw [List.getElem?_map,h];rfl
theorem q8f {w:World} {lo hi n:Nat} {A:Option Addr} {c:Nat} {l:List (Nat × Nat)} (hr:Row w lo hi 2 (.slice A n c) l.length (exs l)) {i:Nat} {p:Nat × Nat} (h:l[i]?=some p) :
    ∃ b o,A=some ⟨b,o,none⟩∧n=l.length∧i < l.length∧l.length≤c∧lo≤b∧b < hi∧w.rangeAt b (o+i * 2) (exC p.1 p.2):=by
  have hi':=(List.getElem?_eq_some_iff.1 h).1;obtain ⟨hl0,A',c',he,hc,hcm,hnn⟩:=hr;cases he
  obtain ⟨b,o,rfl,hb1,hb2,hcell⟩:=hnn (by omega);obtain ⟨hx1,hx2⟩:=exs_get h;refine ⟨b,o,rfl,rfl,hi',hc,hb1,hb2,?_⟩;intro j u hu;have hj2:j < 2:=(List.getElem?_eq_some_iff.1 hu).1;rcases (show j=0∨j=1 by omega) with rfl | rfl
  · rw [show u=.int .u64 (p.1:Nat) from (Option.some.inj hu).symm];exact hcell _ _ hx1
  · rw [show u=.int .u64 (p.2:Nat) from (Option.some.inj hu).symm];have:=hcell _ _ hx2;rwa [← Nat.add_assoc] at this
def hor (x:E):List E→E
  | []=>0
  | c :: l=>hor x l * x+c
theorem hor_ev (x:K):∀ l,hor (E.of x) l=Fd.ev l x
  | []=>rfl
  | c :: l=>by
    show hor (E.of x) l * E.of x+c=c+Fd.ev l x * E.of x;rw [hor_ev x l,Fd.E.add_comm]
theorem hor_drop (x:E) {l:List E} {k:Nat} {c:E} (h:l[k]?=some c):hor x (l.drop k)=hor x (l.drop (k+1)) * x+c:=by
  obtain ⟨hk,rfl⟩:=List.getElem?_eq_some_iff.1 h;rw [List.drop_eq_getElem_cons hk];rfl
set_option maxHeartbeats 1000000 in
theorem r3eval (lo hi:Nat) (v:Value) (l:List E) (x:E) (hl:l.length≤1000000) (w:World) (hr:Row w lo hi 2 v l.length (exs (raw l))) :
    Calls Tryz.prog 141 #[v,.agg (xc x).toArray] w fun e w'=>e=.returned (.agg (xc (hor x l)).toArray)∧Ext w w':=by
  refine q0k Tryz.func141 rfl Tryz.ntmps141 rfl ?_;(refine q0b<|q0a ?_);refine q1t rfl ?_;intro g1 w1 B1 hg1 E1 hs1;refine q0w ?_;intro g2 w2 B2 hg2 E2 hs2;(refine q0c<|tn<|q0b<|q0a ?_);refine Ls X_mkEx0 ?_;refine q0w ?_;intro g3 w3 B3 hg3 E3 hs3;refine q0j rfl rfl rfl q1d B3 rfl ?_;intro w4 B4 hg4 hs4;have Ea:=(E1.trans (E2.trans E3)).then hg4 (fun g h=>by cases h;have:=E1.size;have:=E2.size;omega);have C1:=(B1.ext (E2.trans E3)).grown hg4 (by simp;have:=E2.size;omega);have C2:=(B2.ext E3).grown hg4 (by simp;omega);obtain ⟨A,c,rfl⟩:∃ A c,v=.slice A l.length c:=by
    obtain ⟨_,A,c,rfl,_⟩:=hr;exact ⟨A,c,rfl⟩
  (refine q0c<|tn<|q0b<|q0b<|q0a<|m_S rfl<|Ls (q0f rfl)<|Ls (q2d rfl rfl (by omega))<|a_I rfl<|q0c<|tn<|q0h ?_);refine q1k (fun q f w'=>q≤l.length∧f 0=.slice A l.length c∧f 3=.pointer (some ⟨g1,0,none⟩)∧f 4=.pointer (some ⟨g2,0,none⟩)∧f 5=.pointer (some ⟨g3,0,none⟩)∧f 6=.int .i64 ((q:Int) - 1)∧Blk w' g1 31 (xc x)∧Blk w' g2 31 (exC 0 0)∧Blk w' g3 31 (xc (hor x (l.drop q)))∧Ext w w') l.length ?_ ?_
  · refine ⟨Nat.le_refl _,rfl,rfl,rfl,rfl,rfl,C1,C2,?_,Ea⟩;rw [List.drop_length];exact B4
  · rintro q f wr ⟨hq,h0,h3,h4,h5,h6,D1,D2,D3,E⟩;rw [fold h0,fold h3,fold h4,fold h5,fold h6];(refine q0b<|q0b<|q0a<|m_I rfl<|Ls (z1b rfl rfl)<|q0c<|tn ?_);refine q1b rfl (fun h=>?_) (fun h=>?_)
    · obtain ⟨k,rfl⟩:∃ k,q=k+1:=⟨q - 1,by omega⟩;obtain ⟨z,hz⟩:∃ z,l[k]?=some z:=⟨l[k],List.getElem?_eq_getElem (by omega)⟩;rw [← q1q l] at hr;obtain ⟨b,o,rfl,_,_,hlc,_,_,hR⟩:=q8f (hr.ext E) (q4l hz);rw [q1q] at hlc;have e6:(((k+1:Nat):Int) - 1)=((k:Nat):Int):=(by omega);rw [e6];(refine q0q<|tn<|q0b<|q0h ?_);apply q1h 7 (by kernel_rfl);(apply DW_x (fun r w hA hH=>(q1a rfl (D3.ext hA) rfl).trans rfl);apply DW_x (fun r w hA hH=>(q1a rfl (D1.ext hA) rfl).trans rfl));((with_reducible apply q1x);(exact fun _=>rfl);(exact fun _=>rfl);(exact fun r w hA hH=>r2mul (hor x (l.drop (k+1))) x w));(apply DW_x (fun r w hA hH=>(q0d (v:=.slice _ _ _) rfl).trans rfl);apply DW_x (fun r w hA hH=>(q0d (v:=.int _ _) rfl).trans rfl);apply DW_x (fun r w hA hH=>(q0n rfl rfl (by omega)).trans rfl);apply DW_x (fun r w hA hH=>(q2q (size:=2) (cs:=exC z.a.val z.b.val) rfl (hA.range hR) rfl).trans rfl));((with_reducible exact q1p);(exact rfl);(repeat (first | exact .inr (.inr (fun _ _=>by with_reducible rfl)) | (refine And.intro ?_ ?_) | exact .inr (.inl rfl) | exact .inl (by decide +kernel) | exact trivial | exact .inr (.inr (fun _ _=>rfl))));(try dsimp only [Nat.reduceAdd]));intro r w5 E5 H5;refine L_fv rfl (r2add (hor x (l.drop (k+1)) * x) z w5) ?_;intro w6 E6;have E56:=E5.trans E6;refine q0j rfl rfl rfl q1d (D3.ext E56) rfl ?_;intro w7 B7 hg7 hs7;(refine q0c<|bn<|tn<|q0a<|m_I rfl<|Ls (q2d rfl rfl (by omega))<|a_I rfl<|q0c<|tn ?_);refine ⟨k,by omega,by omega,rfl,rfl,rfl,rfl,rfl,(D1.ext E56).grown hg7 (by simp;omega),(D2.ext E56).grown hg7 (by simp;omega),?_,(E.trans E56).then hg7 (fun g h=>by cases h;have:=E1.size;have:=E2.size;omega)⟩;rw [hor_drop x hz];exact B7
    · obtain rfl:q=0:=(by omega);(refine q1j<|te<|te<|bx<|tn<|q0b<|q0a<|Ls (q1a rfl D3 rfl) ?_);refine q0j rfl rfl rfl q1d D2 rfl ?_;intro wz Bz hgz _;(refine q0c<|tn<|q0r ?_);refine q0y rfl rfl (Res.cellA inferInstance rfl (Bz.range (fun j u h=>by simpa using h)) rfl .nil) ?_;exact ⟨rfl,E.then hgz (fun g h=>by cases h;have:=E1.size;omega)⟩
end Go.Proofs.YtpohjepbmgeplaaGreatDoor
namespace Go.Proofs.K
open Go.RowKit Go.Shelf
variable {P:Program} {n:NN} {Q:Exit→Fr→World→Prop} {f:Fr} {w:World} {ops:Array Oper} {rest:List Oper}
theorem Row.tightN {size:Nat} (hs:0 < size) {w:World} {lo hi m:Nat} {v:Value} {xs:List Value} (h:Row w lo hi size v m xs):Row w lo w.heap.size size v m xs:=by
  obtain ⟨hl,A,c,he,hc,hcm,hn⟩:=h;refine ⟨hl,A,c,he,hc,hcm,fun h0=>?_⟩;obtain ⟨q,o,hA,h1,h2,h3⟩:=hn h0;refine ⟨q,o,hA,h1,?_,h3⟩;have hx:0 < xs.length:=by rw [hl];exact Nat.mul_pos h0 hs
  obtain ⟨c,t,fz,hcc⟩:=q3u (h3 0 xs[0] (List.getElem?_eq_getElem hx));exact (Array.getElem?_eq_some_iff.1 hcc).1
def updL (f:Fr):List Tmp→List Value→Fr
  | p :: ps,v :: vs=>updL (upd f p v) ps vs
  | _,_=>f
theorem arr_updL' {k:Nat} {ro:Option Nat}:∀ (ps:List Tmp) (vs:List Value) (f:Fr),(ps.zip vs).foldl (fun (t:Array Value) (x:Tmp × Value)=>t.setIfInBounds x.1 x.2) (arr ⟨k,[],none⟩ f)=arr ⟨k,[],ro⟩ (updL f ps vs)
  | [],_,_=>rfl
  | _ :: _,[],_=>rfl
  | p :: ps,v :: vs,f=>by
    have:=arr_updL' (k:=k) (ro:=ro) ps vs (upd f p v);rw [← arr_upd] at this;exact this
theorem arr_updL {k:Nat} {ro:Option Nat} (ps:List Tmp) (vs:List Value) (f:Fr):(ps.toArray.zip vs.toArray).foldl (fun (t:Array Value) (q,a)=>t.setIfInBounds q a) (arr ⟨k,[],none⟩ f)=arr ⟨k,[],ro⟩ (updL f ps vs):=by
  rw [List.zip_toArray,← arr_updL' ps vs f];exact List.foldl_toArray ..
def IterL (P:Program) (gf:FuncId) (lb:Array Value) (w:World) (Pre:Nat→List Value→World→Prop) (Kp It Ix:World→World→Prop) (Fin:Nat→World→Prop):Prop :=
  ∀ (l:Nat) (J:Nat→World→Prop) (Jx:World→Prop) (w1:World),Ext w w1 →
    (∀ i a b,J i a→It a b→J i b)→(∀ a b,Jx a→Ix a b→Jx b) →
    (∀ i v a,J i a→Pre i v a→YieldAt Fence.wide 8 P l v.toArray a fun e b=>(e=.returned (.bool true)∧J (i+1) b∧Kp a b)∨(e=.returned (.bool false)∧Jx b)) →
    J 0 w1→Calls P gf (#[q3o l]++lb) w1 fun e b=>(∃ v,e=.returned v)∧((∃ i,Fin i b∧J i b)∨Jx b)
theorem T_rangeL {k id:Nat} {fn:Func} {R:Ending→World→Prop} {g:Operand} {ps:List Tmp} {assign body d:Code} {gf:FuncId} {lb:Array Value}
    (hg:ev ⟨k,[],none⟩ f g=.func (.func gf) #[] lb) (he:Enters P gf)
    {Pre:Nat→List Value→World→Prop} {Kp It Ix:World→World→Prop} {Fin:Nat→World→Prop} (hlen:∀ i vs a,Pre i vs a→vs.length=ps.length) (hit:IterL P gf lb w Pre Kp It Ix Fin)
    (hKt:∀ a b c,Kp a b→Kp b c→Kp a c) (hKb:∀ a l o o',w.heap.size≤l→a.heap[l]?=some o→o.isCells=false→Kp a (a.putObj l o'))
    (hIt:∀ a b,It a b→KeepsFrom w.heap.size a b) (hIx:∀ a b,Ix a b→KeepsFrom w.heap.size a b)
    (Inv:Nat→World→Prop) (Stop:World→Prop) (hI:∀ i a b,Inv i a→It a b→Inv i b) (hIb:∀ i a b,Inv i a→Book w.heap.size a b→Inv i b)
    (hS:∀ a b,Stop a→Ix a b→Stop b) (hSb:∀ a b,Stop a→Book w.heap.size a b→Stop b) (hFb:∀ i a b,Fin i a→Book w.heap.size a b→Fin i b)
    (h0:Inv 0 w) (GA:Nat→List Value→World→Fr→World→Prop) (hGA:∀ i v a f' b,GA i v a f' b→Ext a b) (hKE:∀ a b,Ext a b→Kp a b)
    (hassign:∀ l v i a,Inv i a→Pre i v a→W P ⟨k,[],some l⟩ assign (fun e f' b=>e=.normal∧GA i v a f' b) (updL f ps v) a)
    (hbody:∀ l i v a f' b c,Inv i a→Pre i v a→GA i v a f' b→Book w.heap.size b c→W P ⟨k,[],some l⟩ body (roundQ id w.heap.size (fun b=>Kp c b∧Inv (i+1) b) Stop c) f' c)
    (hdone:∀ D b,w.heap.size≤D→((∃ i,Fin i b∧Inv i b)∨Stop b)→b.heap[D]?=some (.deferred (some []))→T P ⟨k,[{ target:=.collected D,args:=#[] }],none⟩ fn R d f b) :
    TB P ⟨k,[],none⟩ fn R (.block id (.rangeFunc g ps.toArray assign body)) d f w:=by
  refine wpIn_block (wpIn_rangeFunc fun fn' hfn=>?_);obtain ⟨rec,hrec⟩:∃ rec:LoopState→Option Code→Loop,rec=fun st pe=>{ state:=st,pending:=pe,fn:=fn',tmps:=arr ⟨k,[],none⟩ f,params:=ps.toArray,assign,body,defers:=w.heap.size }:=⟨_,rfl⟩;obtain ⟨wl,hwl⟩:∃ wl,(w.alloc (.deferred (some []))).alloc (.loop (rec .ready none))=wl:=⟨_,rfl⟩;have hL1:wl.heap[w.heap.size+1]?=some (.loop (rec .ready none)):=by
    rw [← hwl];have:=World.alloc_heap_new (w.alloc (.deferred (some []))) (.loop (rec .ready none));rwa [World.size_alloc] at this
  have hK1:wl.heap[w.heap.size]?=some (.deferred (some [])):=by
    rw [← hwl];exact (Below.heap_alloc _ _ _ (by simp)).trans (World.alloc_heap_new w _)
  have hE1:Ext w wl:=by rw [← hwl];exact (q1u w _).trans (q1u _ _)
  have hI1:Inv 0 wl:=by rw [← hwl];exact hIb _ _ _ (hIb _ _ _ h0 (Book.alloc _ _)) (Book.alloc _ _)
  refine ⟨w.heap.size+1,[{ target:=.collected w.heap.size,args:=#[] }],wl,{ target:=.fn (.func gf) lb,args:=#[q3o (w.heap.size+1)] },wl,gf,#[q3o (w.heap.size+1)]++lb,wl,?_,?_,?_,?_,fun _=>by omega,?_⟩
  · rw [← hwl,hrec];exact run_enterLoop_outer _ _ _ _ _
  · rw [q9f];simp only [resolve,hg];simp [q3o,ev,go_sem]
  · exact fun _ _=>trivial
  · exact he _ _
  · have heq:∀ st pe,(rec st pe).fn=fn'∧(rec st pe).tmps=arr ⟨k,[],none⟩ f∧(rec st pe).params=ps.toArray∧(rec st pe).assign=assign∧(rec st pe).body=body∧(rec st pe).state=st∧(rec st pe).pending=pe:=fun st pe=>(by rw [hrec];exact ⟨rfl,rfl,rfl,rfl,rfl,rfl,rfl⟩);have hst:∀ st pe st',({ rec st pe with state:=st' }:Loop)=rec st' pe:=fun st pe st'=>(by rw [hrec]);have hst2:∀ st pe st' pe',({ rec st pe with state:=st',pending:=pe' }:Loop)=rec st' pe':=fun st pe st' pe'=>(by rw [hrec]);have hlb:w.heap.size≤w.heap.size+1:=(by omega);refine n9.1 ((hit (w.heap.size+1)
      (fun i a=>Inv i a∧a.heap[w.heap.size+1]?=some (.loop (rec .ready none))∧a.heap[w.heap.size]?=some (.deferred (some [])))
      (fun a=>Stop a∧a.heap[w.heap.size+1]?=some (.loop (rec .done (some (.exit id))))∧a.heap[w.heap.size]?=some (.deferred (some [])))
      wl hE1
      (fun i a b h hi=>⟨hI i a b h.1 hi,(hIt a b hi).same _ _ hlb h.2.1 rfl,(hIt a b hi).same _ _ (Nat.le_refl _) h.2.2 rfl⟩)
      (fun a b h hi=>⟨hS a b h.1 hi,(hIx a b hi).same _ _ hlb h.2.1 rfl,(hIx a b hi).same _ _ (Nat.le_refl _) h.2.2 rfl⟩)
      ?_ ⟨hI1,hL1,hK1⟩).mono ?_)
    · rintro i v a ⟨hi, hl, hk⟩ hp; have hlt : w.heap.size + 1 < a.heap.size := (Array.getElem?_eq_some_iff.1 hl).1; have hy := run_yield (P := P) (args := v.toArray) hl (by rw [(heq _ _).2.2.1]; simp [hlen i v a hp]); rw [(heq _ _).1, (heq _ _).2.1, (heq _ _).2.2.1, (heq _ _).2.2.2.1, (heq _ _).2.2.2.2.1] at hy; refine ⟨fn', _, assign, body, hy, roundIn_of_wpIn hfn ?_⟩; have htm : (ps.toArray.zip v.toArray).foldl (fun (t : Array Value) (q, a) => t.setIfInBounds q a) (arr ⟨k, [], none⟩ f) = arr ⟨k, [], some (w.heap.size + 1)⟩ (updL f ps v) := arr_updL ps v f; rw [htm]; refine q7t (m := 9) rfl (wpIn_mono (hassign (w.heap.size + 1) v i a hi hp) ?_); rintro e a1 w1 ⟨f', rfl, rfl, hga⟩; have hE := hGA _ _ _ _ _ hga; have hl := (hE.block _ (Array.getElem?_eq_some_iff.1 hl).1 (by simp)).trans hl; have hk := (hE.block _ (Array.getElem?_eq_some_iff.1 hk).1 (by simp)).trans hk; have hlt : w.heap.size + 1 < w1.heap.size := (Array.getElem?_eq_some_iff.1 hl).1; refine ⟨_, run_beginRound hl (heq _ _).2.2.2.2.2.1, ?_⟩; rw [hst]; have hbk : Book w.heap.size w1 (w1.putObj (w.heap.size + 1) (.loop (rec .busy none))) := Book.put _ hlb hl rfl; have hl2 : (w1.putObj (w.heap.size + 1) (.loop (rec .busy none))).heap[w.heap.size + 1]? = some (.loop (rec .busy none)) := World.putObj_heap_same hlt; have hk2 : (w1.putObj (w.heap.size + 1) (.loop (rec .busy none))).heap[w.heap.size]? = some (.deferred (some [])) := (World.putObj_heap_other (by omega)).trans hk; have hw2 := hKb w1 (w.heap.size + 1) _ (.loop (rec .busy none)) hlb hl rfl; refine q7t (m := 9) rfl (wpIn_mono (hbody (w.heap.size + 1) i v a f' w1 _ hi hp hga hbk) ?_); have fin : ∀ (jump : Option Code) (c : World), KeepsFrom w.heap.size (w1.putObj (w.heap.size + 1) (.loop (rec .busy none))) c →
          (Instr.endRound (w.heap.size+1) jump).run P c=.ok (.bool jump.isNone) (c.putObj (w.heap.size+1) (.loop (rec (if jump.isNone then .ready else .done) jump))) ∧
          c.heap[w.heap.size+1]?=some (.loop (rec .busy none)) ∧
          (c.putObj (w.heap.size+1) (.loop (rec (if jump.isNone then .ready else .done) jump))).heap[w.heap.size+1]?=some (.loop (rec (if jump.isNone then .ready else .done) jump)) ∧
          (c.putObj (w.heap.size+1) (.loop (rec (if jump.isNone then .ready else .done) jump))).heap[w.heap.size]?=some (.deferred (some [])):=fun jump c hc=>by
        have hl3:=hc.same _ _ hlb hl2 rfl;have:=run_endRound (P:=P) jump hl3;rw [hst2] at this;exact ⟨this,hl3,World.putObj_heap_same (Array.getElem?_eq_some_iff.1 hl3).1,(World.putObj_heap_other (by omega)).trans (hc.same _ _ (Nat.le_refl _) hk2 rfl)⟩
      rintro e a3 w3 ⟨f3,rfl,hq⟩;cases e with
      | normal =>
        obtain ⟨hc,hkp,hi3⟩:=hq;obtain ⟨hr,hl3,hl4,hk4⟩:=fin none w3 hc;exact ⟨_,_,hr,.inl ⟨rfl,⟨hIb _ _ _ hi3 (Book.put _ hlb hl3 rfl),hl4,hk4⟩,hKt _ _ _ (hKE _ _ hE) (hKt _ _ _ (hKt _ _ _ hw2 hkp) (hKb _ _ _ _ hlb hl3 rfl))⟩⟩
      | exit id' =>
        obtain ⟨rfl,hc,hs3⟩:=hq;obtain ⟨hr,hl3,hl4,hk4⟩:=fin (some (.exit id')) w3 hc;exact ⟨_,_,hr,.inr ⟨rfl,hSb _ _ hs3 (Book.put _ hlb hl3 rfl),hl4,hk4⟩⟩
      | ret=>exact hq.elim
      | goto t=>exact hq.elim
      | panic ch=>exact hq.elim
      | outgrown=>exact hq.elim
    · rintro e b ⟨⟨v,rfl⟩,h⟩;rcases h with ⟨i,hf,hi,hl,hk⟩ | ⟨hs,hl,hk⟩
      · refine ⟨none,_,by have:=run_endLoop (P:=P) hl (by rw [(heq _ _).2.2.2.2.2.1];simp);rw [hst,(heq _ _).2.2.2.2.2.2] at this;exact this,?_⟩;have hbk:Book w.heap.size b (b.putObj (w.heap.size+1) (.loop (rec .exhausted none))):=Book.put _ hlb hl rfl;exact hdone w.heap.size _ (Nat.le_refl _) (.inl ⟨i,hFb _ _ _ hf hbk,hIb _ _ _ hi hbk⟩) ((World.putObj_heap_other (by omega)).trans hk)
      · refine ⟨some (.exit id),_,by have:=run_endLoop (P:=P) hl (by rw [(heq _ _).2.2.2.2.2.1];simp);rw [hst,(heq _ _).2.2.2.2.2.2] at this;exact this,?_⟩;have hbk:Book w.heap.size b (b.putObj (w.heap.size+1) (.loop (rec .exhausted (some (.exit id))))):=Book.put _ hlb hl rfl;refine wpIn_exit ?_;simp only [Exit.inBlock,if_true];exact hdone w.heap.size _ (Nat.le_refl _) (.inr (hSb _ _ hs hbk)) ((World.putObj_heap_other (by omega)).trans hk)
section
variable {d:Tmp} {t ty e:TypeId} {pos:String} {af:Array Edge} {x:Operand}
theorem q9m {z l:List Value} [TSlice P ty e] [TZero P e z] (hx:ev n f x=.agg l.toArray) (hl:l.length=z.length) (hz:Nat.ble (1 * z.length) 65536=true)
    (h:∀ u w',Row w' w.heap.size (w.heap.size+1) z.length u 1 l→Ext w w'→w'.heap.size=w.heap.size+1→L P n ops Q rest (upd f d u) w') :
    L P n ops Q (⟨some d,.buildSlice ty 1 #[(0,x)],t,pos,af,none⟩ :: rest) f w :=
  Ls (z2l (r:=[(0,x)]) (zs':=[l]) (cs:=l) (Parts.cons (c:=l) (z:=z) hx rfl rfl hl (Parts.nil _)) hz (by simp)) (h _ _ (Row.lit w e z.length 1 l (by omega) (by unfold maxLen;omega)) (q1u _ _) (by simp))
end
end Go.Proofs.K
namespace Go.Proofs.YtpohjepbmgeplaaGreatDoor
open Go.RowKit Go.Proofs.K
open _root_.Fd (pr K E pw root)
def PreBk (l:List E) (i:Nat) (vs:List Value) (_:World):Prop:=∃ e,i < l.length∧l[l.length - 1 - i]?=some e∧vs=[.int .i64 ((l.length - 1 - i:Nat):Int),.agg (xc e).toArray]
set_option maxHeartbeats 1000000 in
theorem gback (g g1 lo hi:Nat) (v:Value) (l:List E) (hl:l.length≤1000000) (w:World) (hr:Row w lo hi 2 v l.length (exs (raw l))) (hg:¬ (lo≤g∧g < hi)) (hB:Blk w g1 23 [v]) (hg1:g1 ≠ g) :
    IterL Tryz.prog 198 #[.pointer (some ⟨g1,0,none⟩)] w (PreBk l) (KeepBut g) Ext Ext (fun i _=>i=l.length):=by
  intro lp J Jx w1 E1 hJ hJx hY h0;refine q0k Tryz.func198 rfl Tryz.ntmps198 rfl ?_;have hr1:=hr.ext E1;have hB1:=hB.ext E1;obtain ⟨A,c,rfl⟩:∃ A c,v=.slice A l.length c:=by
    obtain ⟨_,A,c,rfl,_⟩:=hr;exact ⟨A,c,rfl⟩
  (refine q0b<|q0a<|Ls (X_ld rfl hB1 rfl)<|Ls (q0f rfl)<|Ls (q2d rfl rfl (by omega))<|a_I rfl<|q0c<|tn<|q0h ?_);refine q1k (fun q f w'=>q≤l.length∧f 0=q3o lp∧f 1=.pointer (some ⟨g1,0,none⟩)∧f 3=.int .i64 ((q:Int) - 1)∧J (l.length - q) w'∧Blk w' g1 23 [.slice A l.length c]∧Row w' lo hi 2 (.slice A l.length c) l.length (exs (raw l))) l.length ?_ ?_
  · exact ⟨Nat.le_refl _,rfl,rfl,rfl,by rw [Nat.sub_self];exact h0,hB1,hr1⟩
  · clear hB1 hr1 h0 hr hB;rintro q f wr ⟨hq,h0,h1,h3,hj,hB,hr⟩;rw [fold h0,fold h1,fold h3];(refine q0b<|q0b<|q0a<|m_I rfl<|Ls (z1b rfl rfl)<|q0c<|tn ?_);refine q1b rfl (fun h=>?_) (fun h=>?_)
    · obtain ⟨k,rfl⟩:∃ k,q=k+1:=⟨q - 1,by omega⟩;obtain ⟨z,hz⟩:∃ z,l[k]?=some z:=⟨l[k],List.getElem?_eq_getElem (by omega)⟩;have hr0:=hr;rw [← q1q l] at hr;obtain ⟨b,o,rfl,_,_,hlc,_,_,hR⟩:=q8f hr (q4l hz);rw [q1q] at hlc;have e6:(((k+1:Nat):Int) - 1)=((k:Nat):Int):=(by omega);rw [e6];(refine q0q<|tn<|q0b<|q0h<|q0b<|q0a<|Ls (q0d (v:=.func _ _ _) rfl)<|m_I rfl<|Ls (X_ld rfl hB rfl)<|m_I rfl<|Ls (q0n rfl rfl (by omega))<|Ls (q2q (size:=2) (cs:=exC z.a.val z.b.val) rfl hR rfl) ?_);have ek:l.length - 1 - (l.length - (k+1))=k:=(by omega);refine q7q rfl rfl rfl (hY (l.length - (k+1)) [.int .i64 (k:Nat),.agg (xc z).toArray] wr hj ⟨z,by omega,by rw [ek];exact hz,by rw [ek]⟩) ?_;rintro e w2 (⟨rfl,hj2,hk2⟩ | ⟨rfl,hjx⟩)
      · refine ⟨.bool true,rfl,?_⟩;(refine Ls (q1s rfl)<|q0c<|tn<|q0x rfl<|q0q<|bn<|tn<|q0a<|m_I rfl<|Ls (q2d rfl rfl (by omega))<|a_I rfl<|q0c<|tn ?_);refine ⟨k,by omega,by omega,rfl,rfl,rfl,?_,hk2.blk hB hg1,hk2.row hr0 hg⟩;rw [show l.length - k=l.length - (k+1)+1 by omega];exact hj2
      · refine ⟨.bool false,rfl,?_⟩;(refine Ls (q1s rfl)<|q0c<|tn<|q0z rfl<|q0r<|br<|tr<|tr<|br ?_);refine q4g rfl rfl ?_;exact ⟨⟨_,rfl⟩,.inr hjx⟩
    · obtain rfl:q=0:=(by omega);(refine q1j<|te<|te<|bx ?_);refine q4g rfl rfl ?_;exact ⟨⟨_,rfl⟩,.inl ⟨_,rfl,hj⟩⟩
theorem gbackMk (v:Value) (hv:v.oneCell'=true) (w:World) :
    Calls Tryz.prog 180 #[v] w fun e w'=>∃ q,e=.returned q∧∃ g,q=.func (.func 198) #[] #[.pointer (some ⟨g,0,none⟩)]∧Ext w w'∧Blk w' g 23 [v]∧w.heap.size≤g:=by
  refine q0k Tryz.func180 rfl Tryz.ntmps180 rfl ?_;(refine q0b<|q0a ?_);refine q4r rfl hv ?_;intro g1 w1 B1 hg1 E1 hs1;(refine Ls (q0l (v:=Value.nilFunc) rfl)<|q0c<|tn<|q0b<|q0a ?_);refine Ls (q3l (vf:=[]) (vc:=[.pointer (some ⟨g1,0,none⟩)]) rfl rfl) ?_;(refine Ls (q0l (v:=.func _ _ _) rfl)<|q0c<|tn<|q0r ?_);refine q0e rfl rfl (v:=.func _ _ _) rfl ⟨_,rfl,g1,rfl,E1,B1,by omega⟩
set_option maxHeartbeats 1000000 in
theorem geval (lo hi:Nat) (v:Value) (l:List E) (x:E) (hl:l.length≤1000000) (w:World) (hr:Row w lo hi 2 v l.length (exs (raw l))) :
    Calls Tryz.prog 138 #[v,.agg (xc x).toArray] w fun e w'=>e=.returned (.agg (xc (hor x l)).toArray)∧Ext w w':=by
  refine q6s Tryz.func138 rfl Tryz.ntmps138 rfl ?_;refine q4v ?_;(refine q0a ?_);refine q1t rfl ?_;intro g1 w1 B1 hg1 E1 hs1;refine q0w ?_;intro g2 w2 B2 hg2 E2 hs2;(refine q0c<|tn ?_);refine q4v ?_;(refine q0a ?_);refine q0w ?_;intro g3 w3 B3 hg3 E3 hs3;have hv:v.oneCell'=true:=by obtain ⟨_,_,_,rfl,_⟩:=hr;rfl
  (refine q0c<|tn ?_);refine z0x ?_;(refine q0a<|Ls (q0d (v:=v) rfl) ?_);refine L_fo rfl (gbackMk v hv w3) ?_;rintro q w4 ⟨g4,rfl,E4,hB4,hg4⟩;(refine q0c<|tn ?_);have hz1:=E1.size;have hz2:=E2.size;have hz3:=E3.size;have hz4:=E4.size;have Ea:Ext w w4:=E1.trans (E2.trans (E3.trans E4));have C1:=B1.ext (E2.trans (E3.trans E4));have C2:=B2.ext (E3.trans E4);have C3:=B3.ext E4;have hr4:=(hr.tightN (by decide)).ext Ea;have hlt4:g4 < w4.heap.size:=hB4.lt;have hlt3:g3 < w4.heap.size:=C3.lt;have hkf:∀ a b,Ext a b→KeepsFrom w4.heap.size a b:=fun _ _ E=>⟨E.size,fun k o _ hk _=>(E.block k (Array.getElem?_eq_some_iff.1 hk).1 (by simp)).trans hk⟩;refine T_rangeL (ps:=[10,11]) (Kp:=KeepBut g3) (It:=Ext) (Ix:=Ext) rfl (enters_of Tryz.func198 (by kernel_rfl) rfl) (fun i vs a h=>by obtain ⟨_,_,_,rfl⟩:=h;rfl) (gback g3 g4 lo w.heap.size v l hl w4 hr4 (by omega) hB4 (by omega)) (fun _ _ _ h k=>h.trans k) (fun _ _ _ o' _ h hc=>KeepBut.put o' h hc)
    hkf hkf (fun i b=>Blk b g3 31 (xc (hor x (l.drop (l.length - i))))∧w4.grownBy b (some g3)) (fun _=>False)
    (fun i x y h E=>⟨h.1.ext E,q1o h.2 E (fun _ h=>by cases h)⟩) (fun i x y h hb=>⟨(hb.keep (g:=g3+1)).blk h.1 (by omega),?_⟩) (fun _ _ h _=>h) (fun _ _ h _=>h)
    (fun _ _ _ h _=>h) ⟨?_,⟨rfl,rfl,rfl,Nat.le_refl _,fun _ _ _=>rfl⟩⟩
    (fun i vs a f' b=>∃ e g7,l[l.length - 1 - i]?=some e∧i < l.length∧Ext a b∧Blk b g7 31 (xc e)∧a.heap.size≤g7∧f' 3=.pointer (some ⟨g1,0,none⟩)∧f' 5=.pointer (some ⟨g3,0,none⟩)∧f' 7=.pointer (some ⟨g7,0,none⟩)) (fun i vs a f' b h=>by obtain ⟨_,_,_,_,h,_⟩:=h;exact h) (fun a b E=>KeepBut.of E (fun r e=>by cases e)) (fun lp vs i a hi hp=>?_) (fun lp i vs a f' b c hi hp hga hbk=>?_) (fun D b hD hdn hbD=>?_)
  · obtain ⟨row,hg,hrw⟩:=hb;exact q1o h.2 hg (fun r e=>.inr (hrw r e).1)
  · rw [Nat.sub_zero,List.drop_length];exact C3
  · obtain ⟨z,hi1,hz,rfl⟩:=hp;(refine q0a ?_);refine q0w ?_;intro g7 a1 B7 hg7 E7 hs7;refine q0j rfl rfl rfl q1d B7 rfl ?_;intro a2 B8 hg8 hs8;(refine q0c ?_);exact ⟨rfl,z,g7,hz,hi1,E7.then hg8 (fun g h=>by cases h;omega),B8,by omega,rfl,rfl,rfl⟩
  · obtain ⟨hiB,hig⟩:=hi;obtain ⟨z,g7,hz,hi1,hEb,hB7,hg7,h3,h5,h7⟩:=hga;rw [fold h3,fold h5,fold h7];have D1:Blk c g1 31 (xc x):=(hbk.keep (g:=g1+1)).blk (((C1.grown hig (by simp;omega)).ext hEb)) (by omega);have D3:Blk c g3 31 (xc (hor x (l.drop (l.length - i)))):=(hbk.keep (g:=g3+1)).blk (hiB.ext hEb) (by omega);have D7:Blk c g7 31 (xc z):=(hbk.keep (g:=g7+1)).blk hB7 (by omega);have hbc:w4.grownBy c (some g3):=by
      obtain ⟨row,hg,hrw⟩:=hbk;exact q1o (q1o hig hEb (fun _ h=>by cases h)) hg (fun r e=>.inr (hrw r e).1)
    (refine q0h ?_);apply q1h 4 (by kernel_rfl);(apply DW_x (fun r w hA hH=>(q1a rfl (D3.ext hA) rfl).trans rfl);apply DW_x (fun r w hA hH=>(q1a rfl (D1.ext hA) rfl).trans rfl));((with_reducible apply q1x);(exact fun _=>rfl);(exact fun _=>rfl);(exact fun r w hA hH=>gexmul (hor x (l.drop (l.length - i))) x w));(apply DW_x (fun r w hA hH=>(q1a rfl (D7.ext hA) rfl).trans rfl));((with_reducible exact q1p);(exact rfl);(repeat (first | exact .inr (.inr (fun _ _=>by with_reducible rfl)) | (refine And.intro ?_ ?_) | exact .inr (.inl rfl) | exact .inl (by decide +kernel) | exact trivial | exact .inr (.inr (fun _ _=>rfl))));(try dsimp only [Nat.reduceAdd]));intro r c5 E5 H5;refine L_fv rfl (gexadd (hor x (l.drop (l.length - i)) * x) z c5) ?_;intro c6 E6;have E56:=E5.trans E6;refine q0j rfl rfl rfl q1d (D3.ext E56) rfl ?_;intro c7 B7' hg7' hs7;(refine q0c<|bn ?_);have hd:=hor_drop x hz;rw [show l.length - 1 - i+1=l.length - i by omega] at hd;refine ⟨KeepsFrom.of_grownBy (q1o (q1o (⟨rfl,rfl,rfl,Nat.le_refl _,fun _ _ _=>rfl⟩:c.grownBy c (some g3)) E56 (fun _ h=>by cases h)) hg7' (fun r e=>by cases e;exact .inl rfl)) (fun j h=>by cases h;omega),(KeepBut.of E56 (fun r e=>by cases e)).trans (KeepBut.of hg7' (fun r e=>by cases e;exact .inl rfl)),?_,q1o (q1o hbc E56 (fun _ h=>by cases h)) hg7' (fun r e=>by cases e;exact .inl rfl)⟩;rw [show l.length - (i+1)=l.length - 1 - i by omega,hd];exact B7'
  · obtain ⟨i,rfl,hbB,hbg⟩:∃ i,i=l.length∧Blk b g3 31 (xc (hor x (l.drop (l.length - i))))∧w4.grownBy b (some g3):=hdn.elim id False.elim;have hDb:D < b.heap.size:=(Array.getElem?_eq_some_iff.1 hbD).1;rw [Nat.sub_self,List.drop_zero] at hbB;have C2':=C2.grown hbg (by simp;omega);refine z0y ?_;(refine q0b<|q0a<|Ls (q1a rfl hbB rfl) ?_);refine q0j rfl rfl rfl q1d C2' rfl ?_;intro wz Bz hgz _;(refine q0c<|tn<|q0r ?_);have hbz:=hbg.size;have hD8:wz.heap[D]?=some (.deferred (some [])):=(hgz.block D hDb (by simp;omega)).trans hbD;have B9:=(KeepBut.put (g:=g2+1) (.deferred none) hD8 rfl).blk Bz (by omega);refine endQ_resD rfl rfl hD8 (Res.cellA inferInstance rfl (B9.range (fun j u h=>by simpa using h)) rfl .nil) ?_;have hE8:Ext w wz:=(Ea.then hbg (fun g h=>by cases h;omega)).then hgz (fun g h=>by cases h;omega);exact ⟨rfl,hE8.then (grownBy_putObj' wz D _) (fun g h=>by cases h;omega)⟩
theorem q1f {a:Nat} (h:a≤16):1≤2 ^ a∧2 ^ a≤65536:=⟨Nat.pow_pos (by decide),Nat.pow_le_pow_right (n:=2) (by decide) h⟩
theorem q6n {a n:Nat} (ha:a≤16) (hn:n=2 ^ a):1≤n∧n≤65536∧bits .and .i64 (n:Int) ((n:Int) - 1)=0:=by
  have h:=q1f ha;refine ⟨by omega,by omega,?_⟩;have key:∀ a:Fin 17,bits .and .i64 ((2 ^ a.val:Nat):Int) (((2 ^ a.val:Nat):Int) - 1)=0:=by decide +kernel
  have:=key ⟨a,by omega⟩;rw [hn];exact this
theorem q8j {b m:Nat} (h1:1≤b) (h4:b≤4) (hm:m=2 ^ b):2≤m∧m≤16:=by
  rw [hm];exact ⟨Nat.pow_le_pow_right (n:=2) (by decide) h1,Nat.pow_le_pow_right (n:=2) (by decide) h4⟩
theorem r9power {a n:Nat} (ha:a≤16) (hn:n=2 ^ a) (w:World) :
    Calls Tryz.prog 108 #[.int .i64 (n:Nat)] w fun e w'=>e=.returned (.bool true)∧Ext w w':=by
  obtain ⟨h1,h2,h3⟩:=q6n ha hn;refine q0k Tryz.func108 rfl Tryz.ntmps108 rfl ?_;(refine q0b<|q0a<|a_B rfl<|q0c<|tn<|q0b<|q0a<|m_I rfl<|Ls (q6c rfl rfl (by omega))<|m_B rfl<|Lg2 rfl rfl rfl (q0d (v:=.int _ _) rfl)<|Lg2 rfl rfl rfl (q0d (v:=.int _ _) rfl)<|Lg2 rfl rfl rfl (q2d rfl rfl (by omega))<|Lg2 rfl rfl rfl (q5m rfl rfl)<|Lg2 rfl rfl rfl (q2b rfl rfl (by omega))<|Ls (q0v (v:=.bool _) rfl rfl)<|a_B rfl<|q0c<|tn<|q0r ?_);refine q0e rfl rfl (v:=.bool _) rfl ⟨rfl,Ext.refl w⟩
theorem gpower2 {a n:Nat} (ha:a≤16) (hn:n=2 ^ a) (w:World) :
    Calls Tryz.prog 150 #[.int .i64 (n:Nat)] w fun e w'=>e=.returned (.bool true)∧Ext w w':=by
  obtain ⟨h1,h2,h3⟩:=q6n ha hn;refine q0k Tryz.func150 rfl Tryz.ntmps150 rfl ?_;(refine q0b<|q0a<|a_B rfl<|q0c<|tn<|q0b<|q0a<|m_I rfl<|Ls (q6c rfl rfl (by omega))<|m_B rfl<|Lg2 rfl rfl rfl (q0d (v:=.int _ _) rfl)<|Lg2 rfl rfl rfl (q0d (v:=.int _ _) rfl)<|Lg2 rfl rfl rfl (q2d rfl rfl (by omega))<|Lg2 rfl rfl rfl (q5m rfl rfl)<|Lg2 rfl rfl rfl (q2b rfl rfl (by omega))<|Ls (q0v (v:=.bool _) rfl rfl)<|a_B rfl<|q0c<|tn<|q0r ?_);refine q0e rfl rfl (v:=.bool _) rfl ⟨rfl,Ext.refl w⟩
theorem r9rate {b m:Nat} (h1:1≤b) (h4:b≤4) (hm:m=2 ^ b) (w:World) :
    Calls Tryz.prog 107 #[.int .i64 (m:Nat)] w fun e w'=>e=.returned (.bool true)∧Ext w w':=by
  obtain ⟨h2,h3⟩:=q8j h1 h4 hm;refine q0k Tryz.func107 rfl Tryz.ntmps107 rfl ?_;(refine q0b<|q0a<|a_B rfl<|q0c<|tn<|q0b<|q0a<|m_I rfl<|Ls (q6c rfl rfl (by omega))<|m_B rfl<|Lg2 rfl rfl rfl (q0d (v:=.int _ _) rfl)<|Lg2 rfl rfl rfl (q7o rfl rfl (by omega))<|Ls (q0v (v:=.bool _) rfl rfl)<|m_B rfl<|Lg2 rfl rfl rfl (q0d (v:=.int _ _) rfl) ?_);refine q1z rfl rfl rfl ?_;refine L_fv rfl (r9power (a:=b) (by omega) hm w) ?_;intro w1 E1;(refine Ls (q0v (v:=.bool _) rfl rfl)<|a_B rfl<|q0c<|tn<|q0r ?_);refine q0e rfl rfl (v:=.bool _) rfl ⟨rfl,E1⟩
theorem grate {b m:Nat} (h1:1≤b) (h4:b≤4) (hm:m=2 ^ b) (w:World) :
    Calls Tryz.prog 149 #[.int .i64 (m:Nat)] w fun e w'=>e=.returned (.bool true)∧Ext w w':=by
  obtain ⟨h2,h3⟩:=q8j h1 h4 hm;refine q0k Tryz.func149 rfl Tryz.ntmps149 rfl ?_;(refine q0b<|q0a<|a_B rfl<|q0c<|tn<|q0b<|q0a<|m_I rfl<|Ls (q6c rfl rfl (by omega))<|m_B rfl<|Lg2 rfl rfl rfl (q0d (v:=.int _ _) rfl)<|Lg2 rfl rfl rfl (q7o rfl rfl (by omega))<|Ls (q0v (v:=.bool _) rfl rfl)<|m_B rfl<|Lg2 rfl rfl rfl (q0d (v:=.int _ _) rfl) ?_);refine q1z rfl rfl rfl ?_;refine L_fv rfl (gpower2 (a:=b) (by omega) hm w) ?_;intro w1 E1;(refine Ls (q0v (v:=.bool _) rfl rfl)<|a_B rfl<|q0c<|tn<|q0r ?_);refine q0e rfl rfl (v:=.bool _) rfl ⟨rfl,E1⟩
theorem z1l {a b c m:Nat} (hab:a+b≤16) (hc:c=2 ^ a) (hm:m=2 ^ b):m * c=2 ^ (a+b)∧m * c≤65536:=by
  have e:m * c=2 ^ (a+b):=by rw [hc,hm,Nat.pow_add,Nat.mul_comm]
  exact ⟨e,by rw [e];exact (q1f hab).2⟩
theorem gvalidRow {a b c m:Nat} (h1:1≤b) (h4:b≤4) (hab:a+b≤16) (hc:c=2 ^ a) (hm:m=2 ^ b) (w:World) :
    Calls Tryz.prog 104 #[.int .i64 (c:Nat),.int .i64 (m:Nat)] w fun e w'=>e=.returned (.bool true)∧Ext w w':=by
  obtain ⟨h2,h3⟩:=q8j h1 h4 hm;obtain ⟨h5,h6,_⟩:=q6n (a:=a) (by omega) hc;obtain ⟨h7,h8⟩:=z1l hab hc hm;refine q0k Tryz.func104 rfl Tryz.ntmps104 rfl ?_;(refine q0b<|q0a<|a_B rfl<|q0c<|tn<|q0b<|q0a<|m_I rfl ?_);refine L_fv rfl (grate h1 h4 hm w) ?_;intro w1 E1;(refine m_B rfl<|Lg2 rfl rfl rfl (q0d (v:=.int _ _) rfl) ?_);refine q1z rfl rfl rfl ?_;refine L_fv rfl (gpower2 (a:=a) (by omega) hc w1) ?_;intro w2 E2;have e8:(m:Int) * (c:Int)=((m * c:Nat):Int):=(Int.natCast_mul m c).symm;generalize m * c=z at *;(refine Ls (q0v (v:=.bool _) rfl rfl)<|m_B rfl<|Lg2 rfl rfl rfl (q0d (v:=.int _ _) rfl)<|Lg2 rfl rfl rfl (q7o rfl rfl (by omega))<|Ls (q0v (v:=.bool _) rfl rfl)<|m_B rfl<|Lg2 rfl rfl rfl (q0d (v:=.int _ _) rfl)<|Lg2 rfl rfl rfl (q0d (v:=.int _ _) rfl)<|Lg2 rfl rfl rfl (q2a rfl rfl (by omega))<|Lg2 rfl rfl rfl (q7o rfl rfl (by omega))<|Ls (q0v (v:=.bool _) rfl rfl)<|a_B rfl<|q0c<|tn<|q0r ?_);refine q0e rfl rfl (v:=.bool _) rfl ⟨rfl,E1.trans E2⟩
theorem rlog {a n:Nat} (ha:a≤16) (hn:n=2 ^ a) (w:World) :
    Calls Tryz.prog 155 #[.int .i64 (n:Nat)] w fun e w'=>e=.returned (.int .i64 (a:Nat))∧Ext w w':=by
  refine q0k Tryz.func155 rfl Tryz.ntmps155 rfl ?_;(refine q0b<|q0a<|a_I rfl<|q0c<|tn<|q0b<|q0a<|a_I rfl<|q0c<|tn<|q0b<|q0h ?_);refine q1k (fun q f w'=>∃ i,q=a - i∧i≤a∧f 0=.int .i64 (n:Nat)∧f 3=.int .i64 (i:Nat)∧Ext w w') a ?_ ?_
  · exact ⟨0,rfl,by omega,rfl,rfl,Ext.refl w⟩
  · rintro q f wr ⟨i,hq,hi,h0,h3,E⟩;rw [fold h0,fold h3];have hp:=q1f (a:=i) (by omega);have e1:IntKind.i64.wrap (1 * 2 ^ (min (i:Int).toNat IntKind.i64.bits))=((2 ^ i:Nat):Int):=by
      rw [show IntKind.i64.bits=64 from rfl,Int.toNat_natCast,Nat.min_eq_left (by omega),Int.one_mul,show (2:Int) ^ i=((2 ^ i:Nat):Int) by simp,IntKind.wrap_i64];generalize 2 ^ i=z at *;omega
    (refine q0b<|q0b<|q0a<|m_I rfl<|Ls (q5x rfl rfl (by omega))<|m_I rfl<|Ls (q1w rfl rfl)<|q0c<|tn ?_);rw [e1];skip;refine q1b rfl (fun h=>?_) (fun h=>?_)
    · have hlt:i < a:=by
        rcases Nat.lt_or_ge i a with h' | h'
        · exact h'
        · obtain rfl:i=a:=(by omega);omega
      (refine q0q<|tn<|q0h<|q0a<|m_I rfl<|Ls (q1e rfl rfl (by omega))<|a_I rfl<|q0c<|bn<|tn ?_);exact ⟨a - (i+1),by omega,i+1,rfl,by omega,rfl,rfl,E⟩
    · have:i=a:=by
        rcases Nat.lt_or_ge i a with h' | h'
        · have:=Nat.pow_lt_pow_right (a:=2) (by decide) h';omega
        · omega
      subst this;(refine q1j<|te<|te<|bx<|tn<|q0b<|q0a<|m_I rfl<|a_I rfl<|q0c<|tn<|q0r ?_);refine q0e rfl rfl (v:=.int _ _) rfl ⟨rfl,E⟩
theorem rpoint {m n i:Nat} (hm:m≤16) (hn:n=2 ^ m) (hi:i < 65536) (w:World) :
    Calls Tryz.prog 109 #[.int .i64 (n:Nat),.int .i64 (i:Nat)] w fun e w'=>e=.returned (kv (pw (root m) i))∧Ext w w':=by
  refine q0k Tryz.func109 rfl Tryz.ntmps109 rfl ?_;have e1:IntKind.u64.wrap (i:Int)=(i:Int):=by rw [IntKind.wrap_u64];omega
  (refine q0b<|q0a<|a_I rfl<|q0c<|tn<|q0b<|q0a<|m_I rfl ?_);refine L_fv rfl (rlog hm hn w) ?_;intro w1 E1;skip;refine L_fv rfl (rroot m (by omega) w1) ?_;intro w2 E2;(refine m_T rfl<|Ls (q0t rfl rfl)<|Ls (q0t rfl rfl)<|a_I rfl<|a_I rfl<|q0c<|tn<|q0b<|q0a<|m_I rfl<|m_I rfl<|Ls (q2y rfl) ?_);rw [e1];refine L_fv rfl (rpow (root m) i (by omega) w2) ?_;intro w3 E3;(refine a_I rfl<|q0c<|tn<|q0r ?_);refine q0e rfl rfl (v:=.int _ _) rfl ⟨rfl,E1.trans (E2.trans E3)⟩
set_option maxHeartbeats 1000000 in
theorem r9at {a b c m i:Nat} (h1:1≤b) (h4:b≤4) (hab:a+b≤16) (hc:c=2 ^ a) (hm:m=2 ^ b) (hi:i < m * c) (lo hi':Nat) (v:Value) (l:List E) (hl:l.length=c) (w:World) (hr:Row w lo hi' 2 v l.length (exs (raw l))) :
    Calls Tryz.prog 89 #[v,.int .i64 (m:Nat),.int .i64 (i:Nat)] w fun e w'=>e=.returned (.tuple #[.agg (xc (hor (E.of (pw (root (a+b)) i)) l)).toArray,.int .i64 0])∧Ext w w':=by
  obtain ⟨h2,h3⟩:=q8j h1 h4 hm;obtain ⟨h5,h6,_⟩:=q6n (a:=a) (by omega) hc;obtain ⟨h7,h8⟩:=z1l hab hc hm;obtain ⟨A,cc,rfl⟩:∃ A cc,v=.slice A l.length cc:=by
    obtain ⟨_,A,c,rfl,_⟩:=hr;exact ⟨A,c,rfl⟩
  rw [hl] at hr ⊢;refine q0k Tryz.func89 rfl Tryz.ntmps89 rfl ?_;have e8:(m:Int) * (c:Int)=((m * c:Nat):Int):=(Int.natCast_mul m c).symm;generalize m * c=z at *;have e9:IntKind.i64.wrap ((m:Int) * (c:Int))=(z:Int):=by rw [e8,IntKind.wrap_i64];omega
  (refine q0b<|q0a ?_);refine q0w ?_;intro g1 w1 B1 hg1 E1 hs1;(refine a_I rfl<|q0c<|tn<|q0b<|q0b<|q0a<|m_I rfl ?_);refine L_fv rfl (r9rate h1 h4 hm w1) ?_;intro w2 E2;(refine Ls (q1s rfl)<|m_B rfl<|Lg2 rfl rfl rfl (q0d (v:=.slice _ _ _) rfl)<|Lg2 rfl rfl rfl (q0f rfl) ?_);refine q1z rfl rfl rfl ?_;refine L_fv rfl (r9power (a:=a) (by omega) hc w2) ?_;intro w3 E3;(refine Lg2 rfl rfl rfl (q1s rfl)<|Ls (q0s (v:=.bool _) rfl rfl)<|m_B rfl<|Lg2 rfl rfl rfl (q0d (v:=.int _ _) rfl)<|Lg2 rfl rfl rfl (q0d (v:=.slice _ _ _) rfl)<|Lg2 rfl rfl rfl (q0f rfl)<|Lg2 rfl rfl rfl (q2a rfl rfl (by omega))<|Lg2 rfl rfl rfl (q3a rfl rfl (by omega))<|Ls (q0s (v:=.bool _) rfl rfl)<|m_B rfl<|Lg2 rfl rfl rfl (q0d (v:=.int _ _) rfl)<|Lg2 rfl rfl rfl (q2i rfl rfl (by omega))<|Ls (q0s (v:=.bool _) rfl rfl)<|m_B rfl<|Lg2 rfl rfl rfl (q0d (v:=.int _ _) rfl)<|Lg2 rfl rfl rfl (q0d (v:=.int _ _) rfl)<|Lg2 rfl rfl rfl (q0d (v:=.slice _ _ _) rfl)<|Lg2 rfl rfl rfl (q0f rfl)<|Lg2 rfl rfl rfl (q2a rfl rfl (by omega))<|Lg2 rfl rfl rfl (q6w rfl rfl (by omega))<|Ls (q0s (v:=.bool _) rfl rfl)<|q0c<|tn<|q0x rfl<|q0q<|tn<|q0b<|q0a<|m_S rfl<|m_I rfl<|m_S rfl<|Ls (q0f rfl)<|Ls (q2a rfl rfl (by omega))<|m_I rfl ?_);rw [e8];refine L_fv rfl (rpoint hab h7 (by omega) w3) ?_;intro w4 E4;skip;refine L_fv rfl (r2base (pw (root (a+b)) i) w4) ?_;intro w5 E5;have E15:=E2.trans (E3.trans (E4.trans E5));have hr5:Row w5 lo hi' 2 (.slice A c cc) l.length (exs (raw l)):=by rw [hl];exact hr.ext (E1.trans E15)
  skip;refine L_fv rfl (r3eval lo hi' _ l (E.of (pw (root (a+b)) i)) (by omega) w5 hr5) ?_;intro w6 E6;refine q0j rfl rfl rfl q1d (B1.ext (E15.trans E6)) rfl ?_;intro wz Bz hgz _;(refine a_I rfl<|q0c<|tn<|q0r ?_);refine q0y rfl rfl (Res.cellA inferInstance rfl (Bz.range (fun j u h=>by simpa using h)) rfl (Res.tmp rfl .nil)) ?_;exact ⟨rfl,(E1.trans (E15.trans E6)).then hgz (fun g h=>by cases h;omega)⟩
theorem glen {k z:Nat} (hk:k≤16) (hz:z=2 ^ k) (w:World) :
    Calls Tryz.prog 115 #[.int .u64 (z:Nat)] w fun e w'=>e=.returned (.int .i64 ((k+1:Nat):Int))∧Ext w w':=by
  have hb:=q1f hk;have key:∀ k:Fin 17,Lib.bitLen (2 ^ k.val)=k.val+1:=by decide +kernel
  have e:Lib.bitLen ((z:Int).toNat)=k+1:=by
    rw [Int.toNat_natCast,hz];exact key ⟨k,by omega⟩
  have h:=Tryz.bits_Len (z:Int) w (by omega) (by omega);rw [e] at h;exact h.mono fun _ _ q=>⟨q.1,q.2 ▸ Ext.refl _⟩
set_option maxHeartbeats 1000000 in
theorem gat {a b c m i:Nat} (h1:1≤b) (h4:b≤4) (hab:a+b≤16) (hc:c=2 ^ a) (hm:m=2 ^ b) (hi:i < m * c) (lo hi':Nat) (v:Value) (l:List E) (hl:l.length=c) (w:World) (hr:Row w lo hi' 2 v l.length (exs (raw l))) :
    Calls Tryz.prog 81 #[v,.int .i64 (m:Nat),.int .i64 (i:Nat)] w fun e w'=>e=.returned (.tuple #[.agg (xc (hor (E.of (pw (root (a+b)) i)) l)).toArray,.int .i64 0])∧Ext w w':=by
  obtain ⟨h2,h3⟩:=q8j h1 h4 hm;obtain ⟨h5,h6,_⟩:=q6n (a:=a) (by omega) hc;obtain ⟨h7,h8⟩:=z1l hab hc hm;obtain ⟨A,cc,rfl⟩:∃ A cc,v=.slice A l.length cc:=by
    obtain ⟨_,A,c,rfl,_⟩:=hr;exact ⟨A,c,rfl⟩
  rw [hl] at hr ⊢;refine q0k Tryz.func81 rfl Tryz.ntmps81 rfl ?_;have e8:(m:Int) * (c:Int)=((m * c:Nat):Int):=(Int.natCast_mul m c).symm;generalize m * c=z at *;have e7:IntKind.u64.wrap (z:Int)=(z:Int):=by rw [IntKind.wrap_u64];omega
  have e6:IntKind.u64.wrap (i:Int)=(i:Int):=by rw [IntKind.wrap_u64];omega
  (refine q0b<|q0a ?_);refine q0w ?_;intro g1 w1 B1 hg1 E1 hs1;(refine a_I rfl<|q0c<|tn<|q0b<|q0a<|m_I rfl<|m_S rfl<|Ls (q0f rfl)<|Ls (q2a rfl rfl (by omega))<|a_I rfl<|q0c<|tn<|q0b<|q0b<|q0a<|m_S rfl<|Ls (q0f rfl)<|m_I rfl ?_);rw [e8];skip;refine L_fv rfl (gvalidRow h1 h4 hab hc hm w1) ?_;intro w2 E2;(refine Ls (q1s rfl)<|m_B rfl<|Lg2 rfl rfl rfl (q0d (v:=.int _ _) rfl)<|Lg2 rfl rfl rfl (q2i rfl rfl (by omega))<|Ls (q0s (v:=.bool _) rfl rfl)<|m_B rfl<|Lg2 rfl rfl rfl (q0d (v:=.int _ _) rfl)<|Lg2 rfl rfl rfl (q0d (v:=.int _ _) rfl)<|Lg2 rfl rfl rfl (q6w rfl rfl (by omega))<|Ls (q0s (v:=.bool _) rfl rfl)<|q0c<|tn<|q0x rfl<|q0q<|tn<|q0b<|q0a<|m_I rfl<|Ls (q2y rfl) ?_);rw [e7];refine L_fv rfl (glen hab h7 w2) ?_;intro w3 E3;(refine Ls (q2d rfl rfl (by omega)) ?_);rw [show (((a+b+1:Nat):Int) - 1)=((a+b:Nat):Int) by omega];refine L_fv rfl (groot (a+b) (by omega) w3) ?_;intro w4 E4;(refine m_T rfl<|Ls (q0t rfl rfl)<|Ls (q0t rfl rfl)<|a_I rfl<|a_I rfl<|q0c<|tn<|q0b<|q0a<|m_S rfl<|m_I rfl<|m_I rfl<|Ls (q2y rfl) ?_);rw [e6];refine L_fv rfl (gpow (root (a+b)) i (by omega) w4) ?_;intro w5 E5;skip;refine L_fv rfl (gbase (pw (root (a+b)) i) w5) ?_;intro w6 E6;have E15:=E2.trans (E3.trans (E4.trans (E5.trans E6)));have hr5:Row w6 lo hi' 2 (.slice A c cc) l.length (exs (raw l)):=by rw [hl];exact hr.ext (E1.trans E15)
  skip;refine L_fv rfl (geval lo hi' _ l (E.of (pw (root (a+b)) i)) (by omega) w6 hr5) ?_;intro w7 E7;refine q0j rfl rfl rfl q1d (B1.ext (E15.trans E7)) rfl ?_;intro wz Bz hgz _;(refine a_I rfl<|q0c<|tn<|q0r ?_);refine q0y rfl rfl (Res.cellA inferInstance rfl (Bz.range (fun j u h=>by simpa using h)) rfl (Res.tmp rfl .nil)) ?_;exact ⟨rfl,(E1.trans (E15.trans E7)).then hgz (fun g h=>by cases h;omega)⟩
def vals (l:List K):List Nat:=l.map fun x=>x.val
theorem q2e (l:List K):(vals l).length=l.length:=by unfold vals;rw [List.length_map]
theorem vals_get {l:List K} {i:Nat} {x:K} (h:l[i]?=some x):(vals l).getD i 0=x.val:=by
  unfold vals;rw [List.getD_eq_getElem?_getD,List.getElem?_map,h];rfl
def horK (x:K):List K→K
  | []=>0
  | c :: l=>horK x l * x+c
theorem horK_ev (x:K):∀ l,horK x l=Fd.evK l x
  | []=>rfl
  | c :: l=>by
    show horK x l * x+c=c+Fd.evK l x * x;rw [horK_ev x l];grind
theorem horK_drop (x:K) {l:List K} {k:Nat} {c:K} (h:l[k]?=some c):horK x (l.drop k)=horK x (l.drop (k+1)) * x+c:=by
  obtain ⟨hk,rfl⟩:=List.getElem?_eq_some_iff.1 h;rw [List.drop_eq_getElem_cons hk];rfl
theorem enc_succ (l:List K) {m i:Nat} (h:i < 2 ^ m):vals ((Fd.enc l m).take (i+1))=vals ((Fd.enc l m).take i)++[(Fd.sym l m i).val]:=by
  have hg:=Fd.enc_get l h;rw [List.take_add_one,hg];simp [vals]
set_option maxHeartbeats 2000000 in
theorem r9encode {a b c m:Nat} (h1:1≤b) (h4:b≤4) (hab:a+b≤16) (hc:c=2 ^ a) (hm:m=2 ^ b) (lo hi':Nat) (v:Value) (l:List K) (hl:l.length=c) (w:World) (hr:Row w lo hi' 1 v c (ints .u64 (vals l))) :
    Calls Tryz.prog 53 #[v,.int .i64 (m:Nat)] w fun e w'=>∃ q,e=.returned (.tuple #[q,.int .i64 0])∧Ext w w'∧w'.ownsRow w.heap.size 29 1 q (m * c) (ints .u64 (vals (Fd.enc l (a+b)))):=by
  obtain ⟨h2,h3⟩:=q8j h1 h4 hm;obtain ⟨h5,h6,_⟩:=q6n (a:=a) (by omega) hc;obtain ⟨h7,h8⟩:=z1l hab hc hm;obtain ⟨b0,o0,cc,rfl,hcc,_,_,_⟩:=hr.at (k:=0) (by omega);refine q0k Tryz.func53 rfl Tryz.ntmps53 rfl ?_;have e8:(m:Int) * (c:Int)=((m * c:Nat):Int):=(Int.natCast_mul m c).symm;generalize m * c=z at *;(refine q0b<|q0a<|a_S rfl<|a_I rfl<|q0c<|tn<|q0b<|q0b<|q0a<|m_I rfl ?_);refine L_fv rfl (r9rate h1 h4 hm w) ?_;intro w2 E2;(refine Ls (q1s rfl)<|m_B rfl<|Lg2 rfl rfl rfl (q0d (v:=.slice _ _ _) rfl)<|Lg2 rfl rfl rfl (q0f rfl) ?_);refine q1z rfl rfl rfl ?_;refine L_fv rfl (r9power (a:=a) (by omega) hc w2) ?_;intro w3 E3;(refine Lg2 rfl rfl rfl (q1s rfl)<|Ls (q0s (v:=.bool _) rfl rfl)<|m_B rfl<|Lg2 rfl rfl rfl (q0d (v:=.int _ _) rfl)<|Lg2 rfl rfl rfl (q0d (v:=.slice _ _ _) rfl)<|Lg2 rfl rfl rfl (q0f rfl)<|Lg2 rfl rfl rfl (q2a rfl rfl (by omega))<|Lg2 rfl rfl rfl (q3a rfl rfl (by omega))<|Ls (q0s (v:=.bool _) rfl rfl)<|q0c<|tn<|q0x rfl<|q0q<|tn<|q0b<|q0a<|m_I rfl<|m_S rfl<|Ls (q0f rfl)<|Ls (q2a rfl rfl (by omega))<|a_I rfl<|q0c<|tn<|q0b<|q0a ?_);rw [e8];refine q3r ?_;intro q1 w4 E4 hs4 o4;have Ea:=E2.trans (E3.trans E4);(refine Ls (q0l (v:=q1) rfl)<|q0c<|tn<|q0b<|q0b<|q0a<|a_I rfl<|q0c<|tn<|q0h ?_);have hn:=Fd.enc_len l (a+b);refine q1k (fun q f w'=>∃ i v',q=z - i∧i≤z∧f 0=.slice (some ⟨b0,o0,none⟩) c cc∧f 6=.int .i64 (z:Nat)∧f 7=v'∧f 8=.int .i64 (i:Nat)∧w'.ownsRow w3.heap.size 29 1 v' i (ints .u64 (vals ((Fd.enc l (a+b)).take i)))∧Ext w w'∧w4.heap.size≤w'.heap.size) z ?_ ?_
  · exact ⟨0,q1,rfl,by omega,rfl,rfl,rfl,rfl,o4,Ea,Nat.le_refl _⟩
  · rintro q f wr ⟨i,v',hq,hi,f0,f6,f7,f8,ho,E,hsz⟩;rw [fold f0,fold f6,fold f7,fold f8];(refine q0b<|q0b<|q0a<|m_I rfl<|m_I rfl<|Ls (q1w rfl rfl)<|q0c<|tn ?_);refine q1b rfl (fun h=>?_) (fun h=>?_)
    · (refine q0q<|tn<|q0b<|q0h<|q0b<|q0a<|m_I rfl<|m_I rfl ?_);refine L_fv rfl (rpoint (n:=z) hab h7 (show i < 65536 by omega) wr) ?_;intro w5 E5;(refine a_I rfl<|q0c<|tn<|q0b<|q0a<|a_I rfl<|q0c<|tn<|q0b<|q0b<|q0a<|m_S rfl<|Ls (q0f rfl)<|Ls (q2d rfl rfl (by omega))<|a_I rfl<|q0c<|tn<|q0h ?_);refine q1k (fun q f w'=>q≤c∧f 0=.slice (some ⟨b0,o0,none⟩) c cc∧f 6=.int .i64 (z:Nat)∧f 7=v'∧f 8=.int .i64 (i:Nat)∧f 9=kv (pw (root (a+b)) i)∧f 10=kv (horK (pw (root (a+b)) i) (l.drop q))∧f 11=.int .i64 ((q:Int) - 1)∧Ext wr w') c ?_ ?_
      · refine ⟨Nat.le_refl _,rfl,rfl,rfl,rfl,rfl,?_,rfl,E5⟩;rw [← hl,List.drop_length];rfl
      · rintro q f wi ⟨hqc,f0,f6,f7,f8,f9,f10,f11,Ei⟩;rw [fold f0,fold f6,fold f7,fold f8,fold f9,fold f10,fold f11];(refine q0b<|q0b<|q0a<|m_I rfl<|Ls (z1b rfl rfl)<|q0c<|tn ?_);refine q1b rfl (fun h'=>?_) (fun h'=>?_)
        · obtain ⟨k,rfl⟩:∃ k,q=k+1:=⟨q - 1,by omega⟩;obtain ⟨y,hy⟩:∃ y,l[k]?=some y:=⟨l[k],List.getElem?_eq_getElem (by omega)⟩;obtain ⟨b1,o1,c1,he,_,_,_,hR⟩:=(hr.ext (E.trans Ei)).at (k:=k) (by omega);cases he
          have hv:=vals_get hy;have e6:(((k+1:Nat):Int) - 1)=((k:Nat):Int):=(by omega);rw [e6];(refine q0q<|tn<|q0b<|q0h ?_);apply q1h 7 (by kernel_rfl);(apply DW_x (fun r w hA hH=>(q0d (v:=.int _ _) rfl).trans rfl);apply DW_x (fun r w hA hH=>(q0d (v:=.int _ _) rfl).trans rfl));((with_reducible apply q1x);(exact fun _=>rfl);(exact fun _=>rfl);(exact fun r w hA hH=>rmul (horK (pw (root (a+b)) i) (l.drop (k+1))) (pw (root (a+b)) i) w));(apply DW_x (fun r w hA hH=>(q0d (v:=.slice _ _ _) rfl).trans rfl);apply DW_x (fun r w hA hH=>(q0d (v:=.int _ _) rfl).trans rfl);apply DW_x (fun r w hA hH=>(q0n rfl rfl (by omega)).trans rfl);apply DW_x (fun r w hA hH=>(z3h rfl (hA.range hR) (by rw [q2e];omega)).trans rfl));((with_reducible exact q1p);(exact rfl);(repeat (first | exact .inr (.inr (fun _ _=>by with_reducible rfl)) | (refine And.intro ?_ ?_) | exact .inr (.inl rfl) | exact .inl (by decide +kernel) | exact trivial | exact .inr (.inr (fun _ _=>rfl))));(try dsimp only [Nat.reduceAdd]));intro r w6 E6 H6;rw [hv];refine L_fv rfl (radd (horK (pw (root (a+b)) i) (l.drop (k+1)) * pw (root (a+b)) i) y w6) ?_;intro w7 E7;(refine a_I rfl<|q0c<|bn<|tn<|q0a<|m_I rfl<|Ls (q2d rfl rfl (by omega))<|a_I rfl<|q0c<|tn ?_);refine ⟨k,by omega,by omega,rfl,rfl,rfl,rfl,rfl,?_,rfl,Ei.trans (E6.trans E7)⟩;rw [horK_drop _ hy];rfl
        · obtain rfl:q=0:=(by omega);rw [List.drop_zero,horK_ev];(refine q1j<|te<|te<|bx<|tn<|q0a<|Ls (q0d (v:=v') rfl)<|m_I rfl ?_);refine q3v (v:=.int _ _) rfl rfl ?_;intro u w8 hru E8 _ _;refine q1n (v:=v') (u:=u) rfl rfl (q0p ho (Ei.trans E8)) hru (by simp [Value.oneCell']) (by omega) (by omega) (by have:=E2.size;have:=E3.size;have:=E4.size;have:=E.size;have:=Ei.size;have:=E8.size;omega) ?_;intro v2 w9 ho2 hg2 hb2;(refine Ls (q0l (v:=v2) rfl)<|q0c<|bn<|tn<|q0a<|m_I rfl<|Ls (q1e rfl rfl (by omega))<|a_I rfl<|q0c<|tn ?_);refine ⟨z - (i+1),by omega,i+1,v2,rfl,by omega,rfl,rfl,rfl,rfl,?_,(E.trans (Ei.trans E8)).then hg2 (fun g h=>by have:=(ho.lt g h).1;have:=E2.size;have:=E3.size;omega),by have:=Ei.size;have:=E8.size;have:=hg2.size;omega⟩;rw [enc_succ l (by omega),q2u];exact ho2
    · obtain rfl:i=z:=(by omega);rw [List.take_of_length_le (by omega)] at ho;(refine q1j<|te<|te<|bx<|tn<|q0b<|q0a<|Ls (q0d (v:=v') rfl)<|Ls (q0l (v:=v') rfl)<|a_I rfl<|q0c<|tn<|q0r ?_);refine q2z rfl rfl (v:=v') (x:=.int _ _) rfl rfl ?_;exact ⟨v',rfl,E,q1l ho (by have:=E2.size;have:=E3.size;omega)⟩
theorem z3m {i:Nat} (h:i≤16):IntKind.i64.wrap (1 * 2 ^ (min (i:Int).toNat IntKind.i64.bits))=((2 ^ i:Nat):Int):=by
  have hp:=q1f h;rw [show IntKind.i64.bits=64 from rfl,Int.toNat_natCast,Nat.min_eq_left (by omega),Int.one_mul,show (2:Int) ^ i=((2 ^ i:Nat):Int) by simp,IntKind.wrap_i64];generalize 2 ^ i=z at *;omega
theorem z2x {a n:Nat} (ha:a≤16) (hn:n=2 ^ a) (w:World) :
    Calls Tryz.prog 34 #[.int .i64 (n:Nat)] w fun e w'=>e=.returned (.int .i64 (a:Nat))∧Ext w w':=by
  refine q0k Tryz.func34 rfl Tryz.ntmps34 rfl ?_;(refine q0b<|q0a<|a_I rfl<|q0c<|tn<|q0b<|q0b<|q0a<|a_I rfl<|q0c<|tn<|q0h ?_);refine q1k (fun q f w'=>∃ i,q=a - i∧i≤a∧f 0=.int .i64 (n:Nat)∧f 3=.int .i64 (i:Nat)∧Ext w w') a ?_ ?_
  · exact ⟨0,rfl,by omega,rfl,rfl,Ext.refl w⟩
  · rintro q f wr ⟨i,hq,hi,h0,h3,E⟩;rw [fold h0,fold h3];have e1:=z3m (i:=i) (by omega);(refine q0b<|q0b<|q0a<|m_I rfl<|Ls (q7o rfl rfl (by omega))<|q0c<|tn<|q0z rfl<|q0q<|tn<|q0b<|q0h<|q0b<|q0a<|m_I rfl<|m_I rfl<|Ls (q5x rfl rfl (by omega))<|Ls (z2m rfl rfl)<|q0c<|tn ?_);rw [e1];skip;refine q1b rfl (fun h=>?_) (fun h=>?_)
    · have:i=a:=by
        rcases Nat.lt_or_ge i a with h' | h'
        · have:=Nat.pow_lt_pow_right (a:=2) (by decide) h';omega
        · omega
      subst this;(refine q0b<|q0a<|m_I rfl<|a_I rfl<|q0c<|tn<|q0r<|br<|tr<|tr<|br<|tr ?_);refine q0e rfl rfl (v:=.int _ _) rfl ⟨rfl,E⟩
    · have hlt:i < a:=by
        rcases Nat.lt_or_ge i a with h' | h'
        · exact h'
        · obtain rfl:i=a:=(by omega);omega
      (refine q0q<|bn<|tn<|q0a<|m_I rfl<|Ls (q1e rfl rfl (by omega))<|a_I rfl<|q0c<|tn ?_);exact ⟨a - (i+1),by omega,i+1,rfl,by omega,rfl,rfl,E⟩
def z1a (l:List Nat) (a:Nat):List K:=(List.range (2 ^ a)).map fun i=>Fd.k (l.getD i 0)
theorem z1t (l:List Nat) (a:Nat):(z1a l a).length=2 ^ a:=by unfold z1a;simp
theorem z3b (l:List Nat) {a i:Nat} (h:i < 2 ^ a):vals ((z1a l a).take (i+1))=vals ((z1a l a).take i)++[(Fd.k (l.getD i 0)).val]:=by
  have hg:(z1a l a)[i]?=some (Fd.k (l.getD i 0)):=by unfold z1a;rw [List.getElem?_map,List.getElem?_range h];rfl
  rw [List.take_add_one,hg];simp [vals]
set_option maxHeartbeats 1000000 in
theorem r9made {a:Nat} (ha:a≤16) (lo hi':Nat) (v:Value) (l:List Nat) (hl8:∀ x∈l,x < 18446744073709551616) (hl:l.length≤9223372036854775807) (w:World) (hr:Row w lo hi' 1 v l.length (ints .u64 l)) :
    Calls Tryz.prog 35 #[v,.int .i64 (a:Nat)] w fun e w'=>∃ q,e=.returned q∧Ext w w'∧w'.ownsRow w.heap.size 29 1 q (2 ^ a) (ints .u64 (vals (z1a l a))):=by
  have hp:=q1f ha;have hn:=z1t l a;have e1:=z3m ha;obtain ⟨A,cc,rfl⟩:∃ A cc,v=.slice A l.length cc:=by
    obtain ⟨_,A,c,rfl,_⟩:=hr;exact ⟨A,c,rfl⟩
  refine q0k Tryz.func35 rfl Tryz.ntmps35 rfl ?_;(refine q0b<|q0a<|a_S rfl<|q0c<|tn<|q0b<|q0a ?_);refine q3r ?_;intro q1 w4 E4 hs4 o4;(refine Ls (q0l (v:=q1) rfl)<|q0c<|tn<|q0b<|q0b<|q0a<|a_I rfl<|q0c<|tn<|q0h ?_);refine q1k (fun q f w'=>∃ i v',q=2 ^ a - i∧i≤2 ^ a∧f 0=.slice A l.length cc∧f 1=.int .i64 (a:Nat)∧f 5=v'∧f 6=.int .i64 (i:Nat)∧w'.ownsRow w.heap.size 29 1 v' i (ints .u64 (vals ((z1a l a).take i)))∧Ext w w') (2 ^ a) ?_ ?_
  · exact ⟨0,q1,rfl,by omega,rfl,rfl,rfl,rfl,o4,E4⟩
  · rintro q f wr ⟨i,v',hq,hi,f0,f1,f5,f6,ho,E⟩;rw [fold f0,fold f1,fold f5,fold f6];have hsz:=E.size;(refine q0b<|q0b<|q0a<|m_I rfl<|m_I rfl<|Ls (q5x rfl rfl (by omega))<|Ls (q1w rfl rfl)<|q0c<|tn ?_);rw [e1];skip;refine q1b rfl (fun h=>?_) (fun h=>?_)
    · have hlt:i < 2 ^ a:=(by omega);(refine q0q<|tn<|q0b<|q0h<|q0b<|q0a<|a_I rfl<|q0c<|tn<|q0b<|q0b<|q0a<|m_I rfl<|m_S rfl<|Ls (q0f rfl)<|Ls (q1w rfl rfl)<|q0c<|tn ?_);refine q1b rfl (fun h2=>?_) (fun h2=>?_)
      · obtain ⟨b1,o1,c1,he,_,_,_,hR⟩:=(hr.ext E).at (k:=i) (by omega);cases he
        have hx8:l.getD i 0 < 18446744073709551616:=by
          rw [List.getD_eq_getElem?_getD,List.getElem?_eq_getElem (show i < l.length by omega)];exact hl8 _ (List.getElem_mem _)
        (refine q0a<|m_S rfl<|m_I rfl<|Ls (q0n rfl rfl (by omega))<|Ls (z3h rfl hR (by omega)) ?_);refine L_fv rfl (q7d (l.getD i 0) hx8 wr) ?_;intro w5 E5;(refine a_I rfl<|q0c<|tn<|q0a<|Ls (q0d (v:=v') rfl)<|m_I rfl ?_);refine q3v (v:=.int _ _) rfl rfl ?_;intro u w8 hru E8 _ _;refine q1n (v:=v') (u:=u) rfl rfl (q0p ho (E5.trans E8)) hru (by simp [Value.oneCell']) (by omega) (by omega) (by have:=E5.size;have:=E8.size;omega) ?_;intro v2 w9 ho2 hg2 hb2;(refine Ls (q0l (v:=v2) rfl)<|q0c<|bn<|tn<|q0a<|m_I rfl<|Ls (q1e rfl rfl (by omega))<|a_I rfl<|q0c<|tn ?_);refine ⟨2 ^ a - (i+1),by omega,i+1,v2,rfl,by omega,rfl,rfl,rfl,rfl,?_,(E.trans (E5.trans E8)).then hg2 (fun g h=>(ho.lt g h).1)⟩;rw [z3b l hlt,q2u];exact ho2
      · have hx:l.getD i 0=0:=(by rw [List.getD_eq_getElem?_getD,List.getElem?_eq_none (by omega)];rfl);(refine q0q<|tn<|q0a<|Ls (q0d (v:=v') rfl)<|m_I rfl ?_);refine q3v (v:=.int _ _) rfl rfl ?_;intro u w8 hru E8 _ _;refine q1n (v:=v') (u:=u) rfl rfl (q0p ho E8) hru (by simp [Value.oneCell']) (by omega) (by omega) (by have:=E8.size;omega) ?_;intro v2 w9 ho2 hg2 hb2;(refine Ls (q0l (v:=v2) rfl)<|q0c<|bn<|tn<|q0a<|m_I rfl<|Ls (q1e rfl rfl (by omega))<|a_I rfl<|q0c<|tn ?_);refine ⟨2 ^ a - (i+1),by omega,i+1,v2,rfl,by omega,rfl,rfl,rfl,rfl,?_,(E.trans E8).then hg2 (fun g h=>(ho.lt g h).1)⟩;rw [z3b l hlt,q2u,hx];exact ho2
    · obtain rfl:i=2 ^ a:=(by omega);rw [List.take_of_length_le (by omega)] at ho;(refine q1j<|te<|te<|bx<|tn<|q0b<|q0a<|Ls (q0d (v:=v') rfl)<|Ls (q0l (v:=v') rfl)<|q0c<|tn<|q0r ?_);refine q0e rfl rfl (v:=v') rfl ?_;exact ⟨v',rfl,E,ho⟩
theorem z0d (a b:Nat):exs [(a,b)]=exC a b:=by simp [exs]
theorem q8t {l:List E} {i:Nat} {e:E} (h:l[i]?=some e):raw (l.take (i+1))=raw (l.take i)++[(e.a.val,e.b.val)]:=by
  rw [List.take_add_one,h];simp [raw]
set_option maxHeartbeats 1000000 in
theorem r5lift (lo hi':Nat) (v:Value) (l:List K) (hl:l.length≤1000000) (w:World) (hr:Row w lo hi' 1 v l.length (ints .u64 (vals l))) :
    Calls Tryz.prog 74 #[v] w fun e w'=>∃ q,e=.returned q∧Ext w w'∧w'.ownsRow w.heap.size 31 2 q l.length (exs (raw (l.map Fd.E.of))):=by
  obtain ⟨A,cc,rfl⟩:∃ A cc,v=.slice A l.length cc:=by
    obtain ⟨_,A,c,rfl,_⟩:=hr;exact ⟨A,c,rfl⟩
  refine q0k Tryz.func74 rfl Tryz.ntmps74 rfl ?_;(refine q0b<|q0a<|a_S rfl<|q0c<|tn<|q0b<|q0a ?_);refine q3r (size:=2) ?_;intro q1 w4 E4 hs4 o4;(refine Ls (q0l (v:=q1) rfl)<|q0c<|tn<|q0b<|q0b<|q0a<|a_I rfl<|q0c<|tn<|q0h ?_);refine q1k (fun q f w'=>∃ i v',q=l.length - i∧i≤l.length∧f 0=.slice A l.length cc∧f 3=v'∧f 4=.int .i64 (i:Nat)∧w'.ownsRow w.heap.size 31 2 v' i (exs (raw ((l.map Fd.E.of).take i)))∧Ext w w') l.length ?_ ?_
  · exact ⟨0,q1,rfl,by omega,rfl,rfl,rfl,o4,E4⟩
  · rintro q f wr ⟨i,v',hq,hi,f0,f3,f4,ho,E⟩;rw [fold f0,fold f3,fold f4];have hsz:=E.size;(refine q0b<|q0b<|q0a<|m_I rfl<|m_S rfl<|Ls (q0f rfl)<|Ls (q1w rfl rfl)<|q0c<|tn ?_);refine q1b rfl (fun h=>?_) (fun h=>?_)
    · obtain ⟨y,hy⟩:∃ y,l[i]?=some y:=⟨l[i],List.getElem?_eq_getElem (by omega)⟩;have hy2:(l.map Fd.E.of)[i]?=some (Fd.E.of y):=(by rw [List.getElem?_map,hy];rfl);obtain ⟨b1,o1,c1,he,_,_,_,hR⟩:=(hr.ext E).at (k:=i) (by omega);cases he
      have hv:=vals_get hy;(refine q0q<|tn<|q0b<|q0h<|q0a<|Ls (q0d (v:=v') rfl)<|m_S rfl<|m_I rfl<|Ls (q0n rfl rfl (by omega))<|Ls (z3h rfl hR (by rw [q2e];omega)) ?_);rw [hv];refine L_fv rfl (r2base y wr) ?_;intro w5 E5;skip;refine q9m (z:=exC 0 0) rfl rfl rfl ?_;intro u w8 hru E8 _;refine q1n (v:=v') (u:=u) rfl rfl (q0p ho (E5.trans E8)) hru q1d (by omega) (by omega) (by have:=E5.size;have:=E8.size;omega) ?_;intro v2 w9 ho2 hg2 hb2;(refine Ls (q0l (v:=v2) rfl)<|q0c<|bn<|tn<|q0a<|m_I rfl<|Ls (q1e rfl rfl (by omega))<|a_I rfl<|q0c<|tn ?_);refine ⟨l.length - (i+1),by omega,i+1,v2,rfl,by omega,rfl,rfl,rfl,?_,(E.trans (E5.trans E8)).then hg2 (fun g h=>(ho.lt g h).1)⟩;rw [q8t hy2,q3k,z0d];exact ho2
    · obtain rfl:i=l.length:=(by omega);rw [List.take_of_length_le (by rw [List.length_map];omega)] at ho;(refine q1j<|te<|te<|bx<|tn<|q0b<|q0a<|Ls (q0d (v:=v') rfl)<|Ls (q0l (v:=v') rfl)<|q0c<|tn<|q0r ?_);refine q0e rfl rfl (v:=v') rfl ?_;exact ⟨v',rfl,E,ho⟩
def fac (x y:E):E:=x * y+(1 - x) * (1 - y)
set_option maxHeartbeats 1000000 in
theorem r5factor (x y:E) (w:World) :
    Calls Tryz.prog 193 #[.agg (xc x).toArray,.agg (xc y).toArray] w fun e w'=>e=.returned (.agg (xc (fac x y)).toArray)∧Ext w w':=by
  refine q0k Tryz.func193 rfl Tryz.ntmps193 rfl ?_;(refine q0b<|q0a ?_);refine q1t rfl ?_;intro g1 w1 B1 hg1 E1 hs1;refine q1t rfl ?_;intro g2 w2 B2 hg2 E2 hs2;refine q0w ?_;intro g3 w3 B3 hg3 E3 hs3;(refine q0c<|tn<|q0b<|q0a ?_);refine L_fv rfl (r2one w3) ?_;intro w4 E4;refine q0w ?_;intro g5 w5 B5 hg5 E5 hs5;refine q0j rfl rfl rfl q1d B5 rfl ?_;intro w6 B6 hg6 hs6;have hz1:=E1.size;have hz2:=E2.size;have hz3:=E3.size;have hz4:=E4.size;have Ea:Ext w w6:=(E1.trans (E2.trans (E3.trans (E4.trans E5)))).then hg6 (fun g h=>by cases h;omega);have C1:=(B1.ext (E2.trans (E3.trans (E4.trans E5)))).grown hg6 (by simp;omega);have C2:=(B2.ext (E3.trans (E4.trans E5))).grown hg6 (by simp;omega);have C3:=(B3.ext (E4.trans E5)).grown hg6 (by simp;omega);(refine q0c<|tn<|q0b ?_);apply q1h 8 (by kernel_rfl);(apply DW_x (fun r w hA hH=>(q1a rfl (C1.ext hA) rfl).trans rfl);apply DW_x (fun r w hA hH=>(q1a rfl (C2.ext hA) rfl).trans rfl));((with_reducible apply q1x);(exact fun _=>rfl);(exact fun _=>rfl);(exact fun r w hA hH=>r2mul x y w));(apply DW_x (fun r w hA hH=>(q1a rfl (B6.ext hA) rfl).trans rfl);apply DW_x (fun r w hA hH=>(q1a rfl (C1.ext hA) rfl).trans rfl));((with_reducible apply q1x);(exact fun _=>rfl);(exact fun _=>rfl);(exact fun r w hA hH=>r2sub 1 x w));(apply DW_x (fun r w hA hH=>(q1a rfl (B6.ext hA) rfl).trans rfl);apply DW_x (fun r w hA hH=>(q1a rfl (C2.ext hA) rfl).trans rfl));((with_reducible exact q1p);(exact rfl);(repeat (first | exact .inr (.inr (fun _ _=>by with_reducible rfl)) | (refine And.intro ?_ ?_) | exact .inr (.inl rfl) | exact .inl (by decide +kernel) | exact trivial | exact .inr (.inr (fun _ _=>rfl))));(try dsimp only [Nat.reduceAdd]));intro r w7 E7 H7;refine L_fv rfl (r2sub 1 y w7) ?_;intro w8 E8;refine L_fv rfl (r2mul (1 - x) (1 - y) w8) ?_;intro w9 E9;refine L_fv rfl (r2add (x * y) ((1 - x) * (1 - y)) w9) ?_;intro w10 E10;have E11:=E7.trans (E8.trans (E9.trans E10));refine q0j rfl rfl rfl q1d (C3.ext E11) rfl ?_;intro wz Bz hgz _;(refine q0c<|tn<|q0r ?_);refine q0y rfl rfl (Res.cellA inferInstance rfl (Bz.range (fun j u h=>by simpa using h)) rfl .nil) ?_;exact ⟨rfl,(Ea.trans E11).then hgz (fun g h=>by cases h;omega)⟩
theorem and_i64 (a:Int) (k:Nat) (hk:k≤16):bits .and .i64 a ((2 ^ k - 1:Nat):Int)=(((a % 18446744073709551616).toNat % 2 ^ k:Nat):Int):=by
  have hp:2 ^ k≤2 ^ 16:=Nat.pow_le_pow_right (by omega) hk;have hl:(a % 18446744073709551616).toNat % 2 ^ k < 2 ^ k:=Nat.mod_lt _ (Nat.pow_pos (by omega));show IntKind.i64.wrap ((BitVec.ofInt 64 a &&& BitVec.ofInt 64 ((2 ^ k - 1:Nat):Int)).toNat:Int)=_;rw [BitVec.toNat_and,BitVec.ofInt_natCast,BitVec.toNat_ofNat,Nat.mod_eq_of_lt (a:=2 ^ k - 1) (by omega),Nat.and_two_pow_sub_one_eq_mod,BitVec.toNat_ofInt,IntKind.wrap_i64];have e:(2 ^ 64:Nat)=18446744073709551616:=by decide
  have e2:((2 ^ 64:Nat):Int)=18446744073709551616:=by decide
  rw [e2];omega
theorem and1 (x:Nat):bits .and .i64 (x:Int) 1=((x % 2:Nat):Int):=by
  have:=and_i64 (x:Int) 1 (by decide);rw [show ((2 ^ 1 - 1:Nat):Int)=1 from rfl] at this;rw [this];omega
def vtx (i n:Nat):List E:=(List.range n).map fun k=>Fd.E.of (Fd.k (i / 2 ^ k % 2))
theorem vtx_len (i n:Nat):(vtx i n).length=n:=by unfold vtx;simp
theorem vtx_get {i n k:Nat} (h:k < n):(vtx i n)[k]?=some (Fd.E.of (Fd.k (i / 2 ^ k % 2))):=by
  unfold vtx;rw [List.getElem?_map,List.getElem?_range h];rfl
set_option maxHeartbeats 1000000 in
theorem r5vertex {i n:Nat} (hn:n≤20) (w:World) :
    Calls Tryz.prog 173 #[.int .i64 (i:Nat),.int .i64 (n:Nat)] w fun e w'=>∃ q,e=.returned q∧Ext w w'∧w'.ownsRow w.heap.size 31 2 q n (exs (raw (vtx i n))):=by
  have hl:=vtx_len i n;refine q0k Tryz.func173 rfl Tryz.ntmps173 rfl ?_;(refine q0b<|q0a<|a_S rfl<|q0c<|tn<|q0b<|q0a ?_);refine q3r (size:=2) ?_;intro q1 w4 E4 hs4 o4;(refine Ls (q0l (v:=q1) rfl)<|q0c<|tn<|q0b<|q0b<|q0a<|a_I rfl<|q0c<|tn<|q0h ?_);refine q1k (fun q f w'=>∃ k v',q=n - k∧k≤n∧f 0=.int .i64 (i:Nat)∧f 1=.int .i64 (n:Nat)∧f 5=v'∧f 6=.int .i64 (k:Nat)∧w'.ownsRow w.heap.size 31 2 v' k (exs (raw ((vtx i n).take k)))∧Ext w w') n ?_ ?_
  · exact ⟨0,q1,rfl,by omega,rfl,rfl,rfl,rfl,o4,E4⟩
  · rintro q f wr ⟨k,v',hq,hk,f0,f1,f5,f6,ho,E⟩;rw [fold f0,fold f1,fold f5,fold f6];have hsz:=E.size;have e1:bits .and .i64 ((i:Int).fdiv (2 ^ (min (k:Int).toNat IntKind.i64.bits))) 1=((i / 2 ^ k % 2:Nat):Int):=by
      rw [show IntKind.i64.bits=64 from rfl,q5u i k (by omega)];exact and1 _
    (refine q0b<|q0b<|q0a<|m_I rfl<|m_I rfl<|Ls (q1w rfl rfl)<|q0c<|tn ?_);refine q1b rfl (fun h=>?_) (fun h=>?_)
    · have hlt:k < n:=(by omega);(refine q0q<|tn<|q0b<|q0h<|q0a<|Ls (q0d (v:=v') rfl)<|m_I rfl<|m_I rfl<|Ls (q4m rfl rfl (by omega))<|Ls (q5m rfl rfl) ?_);rw [e1];refine L_fv rfl (r2int (i / 2 ^ k % 2) (by unfold Fd.pr;omega) (by omega) wr) ?_;intro w5 E5;skip;refine q9m (z:=exC 0 0) rfl rfl rfl ?_;intro u w8 hru E8 _;refine q1n (v:=v') (u:=u) rfl rfl (q0p ho (E5.trans E8)) hru q1d (by omega) (by omega) (by have:=E5.size;have:=E8.size;omega) ?_;intro v2 w9 ho2 hg2 hb2;(refine Ls (q0l (v:=v2) rfl)<|q0c<|bn<|tn<|q0a<|m_I rfl<|Ls (q1e rfl rfl (by omega))<|a_I rfl<|q0c<|tn ?_);refine ⟨n - (k+1),by omega,k+1,v2,rfl,by omega,rfl,rfl,rfl,rfl,?_,(E.trans (E5.trans E8)).then hg2 (fun g h=>(ho.lt g h).1)⟩;rw [q8t (vtx_get hlt),q3k,z0d];exact ho2
    · obtain rfl:k=n:=(by omega);rw [List.take_of_length_le (by omega)] at ho;(refine q1j<|te<|te<|bx<|tn<|q0b<|q0a<|Ls (q0d (v:=v') rfl)<|Ls (q0l (v:=v') rfl)<|q0c<|tn<|q0r ?_);refine q0e rfl rfl (v:=v') rfl ?_;exact ⟨v',rfl,E,ho⟩
def eqP (a b:List E):Nat→E
  | 0=>1
  | k+1=>eqP a b k * fac (a.getD k 0) (b.getD k 0)
set_option maxHeartbeats 1000000 in
theorem r5eq (lo hi lo2 hi2:Nat) (v u:Value) (a b:List E) (hab:a.length=b.length) (hl:a.length≤1000000) (w:World) (hr:Row w lo hi 2 v a.length (exs (raw a))) (hr2:Row w lo2 hi2 2 u b.length (exs (raw b))) :
    Calls Tryz.prog 172 #[v,u] w fun e w'=>e=.returned (.agg (xc (eqP a b a.length)).toArray)∧Ext w w':=by
  obtain ⟨A,cc,rfl⟩:∃ A cc,v=.slice A a.length cc:=by
    obtain ⟨_,A,c,rfl,_⟩:=hr;exact ⟨A,c,rfl⟩
  obtain ⟨A2,cc2,rfl⟩:∃ A cc,u=.slice A b.length cc:=by
    obtain ⟨_,A,c,rfl,_⟩:=hr2;exact ⟨A,c,rfl⟩
  refine q0k Tryz.func172 rfl Tryz.ntmps172 rfl ?_;(refine q0b<|q0a ?_);refine q0w ?_;intro g2 w2 B2 hg2 E2 hs2;(refine q0c<|tn<|q0b<|q0a ?_);refine L_fv rfl (r2one w2) ?_;intro w3 E3;refine q0w ?_;intro g3 w4 B3 hg3 E4 hs3;refine q0j rfl rfl rfl q1d B3 rfl ?_;intro w5 B5 hg5 hs5;have hz2:=E2.size;have hz3:=E3.size;have Ea:Ext w w5:=(E2.trans (E3.trans E4)).then hg5 (fun g h=>by cases h;omega);have C2:=(B2.ext (E3.trans E4)).grown hg5 (by simp;omega);(refine q0c<|tn<|q0b<|q0b<|q0a<|a_I rfl<|q0c<|tn<|q0h ?_);refine q1k (fun q f w'=>∃ k,q=a.length - k∧k≤a.length∧f 0=.slice A a.length cc∧f 1=.slice A2 b.length cc2∧f 4=.pointer (some ⟨g2,0,none⟩)∧f 5=.pointer (some ⟨g3,0,none⟩)∧f 6=.int .i64 (k:Nat)∧Blk w' g2 31 (exC 0 0)∧Blk w' g3 31 (xc (eqP a b k))∧Ext w w') a.length ?_ ?_
  · exact ⟨0,rfl,by omega,rfl,rfl,rfl,rfl,rfl,C2,B5,Ea⟩
  · rintro q f wr ⟨k,hq,hk,f0,f1,f4,f5,f6,D2,D3,E⟩;rw [fold f0,fold f1,fold f4,fold f5,fold f6];(refine q0b<|q0b<|q0a<|m_I rfl<|m_S rfl<|Ls (q0f rfl)<|Ls (q1w rfl rfl)<|q0c<|tn ?_);refine q1b rfl (fun h=>?_) (fun h=>?_)
    · obtain ⟨x,hx⟩:∃ x,a[k]?=some x:=⟨a[k],List.getElem?_eq_getElem (by omega)⟩;obtain ⟨y,hy⟩:∃ y,b[k]?=some y:=⟨b[k],List.getElem?_eq_getElem (by omega)⟩;have ex:a.getD k 0=x:=(by rw [List.getD_eq_getElem?_getD,hx];rfl);have ey:b.getD k 0=y:=(by rw [List.getD_eq_getElem?_getD,hy];rfl);rw [← q1q a] at hr;rw [← q1q b] at hr2;obtain ⟨b1,o1,rfl,_,_,hc1,_,_,hR⟩:=q8f (hr.ext E) (q4l hx);obtain ⟨b2,o2,rfl,_,_,hc2,_,_,hR2⟩:=q8f (hr2.ext E) (q4l hy);rw [q1q] at hc1 hc2;(refine q0q<|tn<|q0b<|q0h ?_);apply q1h 10 (by kernel_rfl);repeat (first | ((with_reducible apply q2h);(first | apply DW_x (fun r w hA hH=>(q0d (v:=.int _ _) rfl).trans rfl) | apply DW_x (fun r w hA hH=>(q0d (v:=.slice _ _ _) rfl).trans rfl))) | ((with_reducible apply q2j);(first | apply DW_x (fun r w hA hH=>(q1a rfl (D3.ext hA) rfl).trans rfl) | apply DW_x (fun r w hA hH=>(q2q (size:=2) (b:=b1) (o:=o1+k * 2) (cs:=exC x.a.val x.b.val) rfl (hA.range hR) rfl).trans rfl) | apply DW_x (fun r w hA hH=>(q2q (size:=2) (b:=b2) (o:=o2+k * 2) (cs:=exC y.a.val y.b.val) rfl (hA.range hR2) rfl).trans rfl))) | ((with_reducible apply q3x);apply DW_x (fun r w hA hH=>(q0n rfl rfl (by omega)).trans rfl)))
      ((with_reducible apply q1x);(exact fun _=>rfl);(exact fun _=>rfl);(exact fun r w hA hH=>r5factor x y w));((with_reducible exact q1p);(exact rfl);(repeat (first | exact .inr (.inr (fun _ _=>by with_reducible rfl)) | (refine And.intro ?_ ?_) | exact .inr (.inl rfl) | exact .inl (by decide +kernel) | exact trivial | exact .inr (.inr (fun _ _=>rfl))));(try dsimp only [Nat.reduceAdd]));intro r w6 E6 H6;refine L_fv rfl (r2mul (eqP a b k) (fac x y) w6) ?_;intro w7 E7;refine q0j rfl rfl rfl q1d (D3.ext (E6.trans E7)) rfl ?_;intro w8 B8 hg8 hs8;(refine q0c<|bn<|tn<|q0a<|m_I rfl<|Ls (q1e rfl rfl (by omega))<|a_I rfl<|q0c<|tn ?_);refine ⟨a.length - (k+1),by omega,k+1,rfl,by omega,rfl,rfl,rfl,rfl,rfl,(D2.ext (E6.trans E7)).grown hg8 (by simp;omega),?_,(E.trans (E6.trans E7)).then hg8 (fun g h=>by cases h;omega)⟩;rw [show eqP a b (k+1)=eqP a b k * fac x y by rw [← ex,← ey];rfl];exact B8
    · obtain rfl:k=a.length:=(by omega);(refine q1j<|te<|te<|bx<|tn<|q0b<|q0a<|Ls (q1a rfl D3 rfl) ?_);refine q0j rfl rfl rfl q1d D2 rfl ?_;intro wz Bz hgz _;(refine q0c<|tn<|q0r ?_);refine q0y rfl rfl (Res.cellA inferInstance rfl (Bz.range (fun j u h=>by simpa using h)) rfl .nil) ?_;exact ⟨rfl,E.then hgz (fun g h=>by cases h;omega)⟩
theorem fac_bit (b:Nat) (hb:b < 2) (x:E):fac (E.of (Fd.k b)) x=bif b == 1 then x else 1 - x:=by
  rcases (show b=0∨b=1 by omega) with rfl | rfl
  · show fac 0 x=1 - x;unfold fac;apply Fd.E.eq <;> simp only [Fd.E.defs] <;> grind
  · show fac 1 x=x;unfold fac;apply Fd.E.eq <;> simp only [Fd.E.defs] <;> grind
theorem eqP_vtx (i:Nat) (p:List E):∀ k,k≤p.length→eqP (vtx i p.length) p k=Fd.eqI (p.take k) i
  | 0,_=>rfl
  | k+1,h=>by
    have hk:k < p.length:=(by omega);have e1:(vtx i p.length).getD k 0=E.of (Fd.k (i / 2 ^ k % 2)):=(by rw [List.getD_eq_getElem?_getD,vtx_get hk];rfl);have e2:p.getD k 0=p[k]:=(by rw [List.getD_eq_getElem?_getD,List.getElem?_eq_getElem hk];rfl);have e3:p.take (k+1)=p.take k++[p[k]]:=(by rw [List.take_add_one,List.getElem?_eq_getElem hk];rfl);show eqP (vtx i p.length) p k * fac _ _=_;rw [eqP_vtx i p k (by omega),e1,e2,e3,fac_bit _ (Nat.mod_lt _ (by omega)),Fd.eqI_snoc,List.length_take,Nat.min_eq_left (by omega)]
set_option maxHeartbeats 1000000 in
theorem r5eqi (i lo hi:Nat) (v:Value) (p:List E) (hl:p.length≤20) (w:World) (hr:Row w lo hi 2 v p.length (exs (raw p))) :
    Calls Tryz.prog 128 #[.int .i64 (i:Nat),v] w fun e w'=>e=.returned (.agg (xc (Fd.eqI p i)).toArray)∧Ext w w':=by
  obtain ⟨A,cc,rfl⟩:∃ A cc,v=.slice A p.length cc:=by
    obtain ⟨_,A,c,rfl,_⟩:=hr;exact ⟨A,c,rfl⟩
  refine q0k Tryz.func128 rfl Tryz.ntmps128 rfl ?_;(refine q0b<|q0a ?_);refine q0w ?_;intro g2 w2 B2 hg2 E2 hs2;(refine q0c<|tn<|q0b<|q0a<|m_I rfl<|m_S rfl<|Ls (q0f rfl) ?_);refine L_fo rfl (r5vertex (i:=i) (n:=p.length) hl w2) ?_;rintro q w3 ⟨E3,o3⟩;have hv:=vtx_len i p.length;have hr3:=Row.of_own o3;(refine m_S rfl ?_);refine L_fv rfl (r5eq _ _ lo hi q _ (vtx i p.length) p hv (by omega) w3 (hr3.re hv.symm rfl) (hr.ext (E2.trans E3))) ?_;intro w4 E4;rw [hv,eqP_vtx i p _ (Nat.le_refl _),List.take_length];refine q0j rfl rfl rfl q1d (B2.ext (E3.trans E4)) rfl ?_;intro wz Bz hgz _;(refine q0c<|tn<|q0r ?_);refine q0y rfl rfl (Res.cellA inferInstance rfl (Bz.range (fun j u h=>by simpa using h)) rfl .nil) ?_;exact ⟨rfl,(E2.trans (E3.trans E4)).then hgz (fun g h=>by cases h;omega)⟩
set_option maxHeartbeats 1000000 in
theorem r5eqt (lo hi':Nat) (v:Value) (p:List E) (hl:p.length≤16) (w:World) (hr:Row w lo hi' 2 v p.length (exs (raw p))) :
    Calls Tryz.prog 86 #[v] w fun e w'=>∃ q,e=.returned q∧Ext w w'∧w'.ownsRow w.heap.size 31 2 q (2 ^ p.length) (exs (raw (Fd.eqT p))):=by
  have hp:=q1f hl;have hn:=Fd.eqT_len p;have e1:=z3m hl;obtain ⟨A,cc,rfl⟩:∃ A cc,v=.slice A p.length cc:=by
    obtain ⟨_,A,c,rfl,_⟩:=hr;exact ⟨A,c,rfl⟩
  refine q0k Tryz.func86 rfl Tryz.ntmps86 rfl ?_;(refine q0b<|q0a<|a_S rfl<|q0c<|tn<|q0b<|q0a ?_);refine q3r (size:=2) ?_;intro q1 w4 E4 hs4 o4;(refine Ls (q0l (v:=q1) rfl)<|q0c<|tn<|q0b<|q0b<|q0a<|a_I rfl<|q0c<|tn<|q0h ?_);refine q1k (fun q f w'=>∃ i v',q=2 ^ p.length - i∧i≤2 ^ p.length∧f 0=.slice A p.length cc∧f 3=v'∧f 4=.int .i64 (i:Nat)∧w'.ownsRow w.heap.size 31 2 v' i (exs (raw ((Fd.eqT p).take i)))∧Ext w w') (2 ^ p.length) ?_ ?_
  · exact ⟨0,q1,rfl,by omega,rfl,rfl,rfl,o4,E4⟩
  · rintro q f wr ⟨i,v',hq,hi,f0,f3,f4,ho,E⟩;rw [fold f0,fold f3,fold f4];have hsz:=E.size;(refine q0b<|q0b<|q0a<|m_I rfl<|m_S rfl<|Ls (q0f rfl)<|Ls (q5x rfl rfl (by omega))<|Ls (q1w rfl rfl)<|q0c<|tn ?_);rw [e1];skip;refine q1b rfl (fun h=>?_) (fun h=>?_)
    · have hlt:i < 2 ^ p.length:=(by omega);(refine q0q<|tn<|q0b<|q0h<|q0a<|Ls (q0d (v:=v') rfl)<|m_I rfl<|m_S rfl ?_);refine L_fv rfl (r5eqi i lo hi' _ p (by omega) wr (hr.ext E)) ?_;intro w5 E5;skip;refine q9m (z:=exC 0 0) rfl rfl rfl ?_;intro u w8 hru E8 _;refine q1n (v:=v') (u:=u) rfl rfl (q0p ho (E5.trans E8)) hru q1d (by omega) (by omega) (by have:=E5.size;have:=E8.size;omega) ?_;intro v2 w9 ho2 hg2 hb2;(refine Ls (q0l (v:=v2) rfl)<|q0c<|bn<|tn<|q0a<|m_I rfl<|Ls (q1e rfl rfl (by omega))<|a_I rfl<|q0c<|tn ?_);refine ⟨2 ^ p.length - (i+1),by omega,i+1,v2,rfl,by omega,rfl,rfl,rfl,?_,(E.trans (E5.trans E8)).then hg2 (fun g h=>(ho.lt g h).1)⟩;rw [q8t (Fd.eqT_get p hlt),q3k,z0d];exact ho2
    · obtain rfl:i=2 ^ p.length:=(by omega);rw [List.take_of_length_le (by omega)] at ho;(refine q1j<|te<|te<|bx<|tn<|q0b<|q0a<|Ls (q0d (v:=v') rfl)<|Ls (q0l (v:=v') rfl)<|q0c<|tn<|q0r ?_);refine q0e rfl rfl (v:=v') rfl ?_;exact ⟨v',rfl,E,ho⟩
set_option maxHeartbeats 1000000 in
theorem r5eval (lo hi lo2 hi2:Nat) (v u:Value) (t p:List E) (hp:p.length≤20) (hl:t.length≤1000000) (w:World) (hr:Row w lo hi 2 v t.length (exs (raw t))) (hr2:Row w lo2 hi2 2 u p.length (exs (raw p))) :
    Calls Tryz.prog 73 #[v,u] w fun e w'=>e=.returned (.agg (xc (Fd.mleS t p)).toArray)∧Ext w w':=by
  obtain ⟨A,cc,rfl⟩:∃ A cc,v=.slice A t.length cc:=by
    obtain ⟨_,A,c,rfl,_⟩:=hr;exact ⟨A,c,rfl⟩
  obtain ⟨A2,cc2,rfl⟩:∃ A cc,u=.slice A p.length cc:=by
    obtain ⟨_,A,c,rfl,_⟩:=hr2;exact ⟨A,c,rfl⟩
  refine q0k Tryz.func73 rfl Tryz.ntmps73 rfl ?_;(refine q0b<|q0a ?_);refine q0w ?_;intro g2 w2 B2 hg2 E2 hs2;(refine q0c<|tn<|q0b<|q0a ?_);refine Ls X_mkEx0 ?_;refine q0w ?_;intro g3 w4 B3 hg3 E4 hs3;refine q0j rfl rfl rfl q1d B3 rfl ?_;intro w5 B5 hg5 hs5;have hz2:=E2.size;have Ea:Ext w w5:=(E2.trans E4).then hg5 (fun g h=>by cases h;omega);have C2:=(B2.ext E4).grown hg5 (by simp;omega);(refine q0c<|tn<|q0b<|q0b<|q0a<|a_I rfl<|q0c<|tn<|q0h ?_);refine q1k (fun q f w'=>∃ k,q=t.length - k∧k≤t.length∧f 0=.slice A t.length cc∧f 1=.slice A2 p.length cc2∧f 4=.pointer (some ⟨g2,0,none⟩)∧f 5=.pointer (some ⟨g3,0,none⟩)∧f 6=.int .i64 (k:Nat)∧Blk w' g2 31 (exC 0 0)∧Blk w' g3 31 (xc (Fd.es k fun i=>t.getD i 0 * Fd.eqI p i))∧Ext w w') t.length ?_ ?_
  · exact ⟨0,rfl,by omega,rfl,rfl,rfl,rfl,rfl,C2,B5,Ea⟩
  · rintro q f wr ⟨k,hq,hk,f0,f1,f4,f5,f6,D2,D3,E⟩;rw [fold f0,fold f1,fold f4,fold f5,fold f6];(refine q0b<|q0b<|q0a<|m_I rfl<|m_S rfl<|Ls (q0f rfl)<|Ls (q1w rfl rfl)<|q0c<|tn ?_);refine q1b rfl (fun h=>?_) (fun h=>?_)
    · obtain ⟨x,hx⟩:∃ x,t[k]?=some x:=⟨t[k],List.getElem?_eq_getElem (by omega)⟩;have ex:t.getD k 0=x:=(by rw [List.getD_eq_getElem?_getD,hx];rfl);rw [← q1q t] at hr;obtain ⟨b1,o1,rfl,_,_,hc1,_,_,hR⟩:=q8f (hr.ext E) (q4l hx);rw [q1q] at hc1;(refine q0q<|tn<|q0b<|q0h ?_);apply q1h 9 (by kernel_rfl);(apply DW_x (fun r w hA hH=>(q1a rfl (D3.ext hA) rfl).trans rfl);apply DW_x (fun r w hA hH=>(q0d (v:=.slice _ _ _) rfl).trans rfl);apply DW_x (fun r w hA hH=>(q0d (v:=.int _ _) rfl).trans rfl);apply DW_x (fun r w hA hH=>(q0n rfl rfl (by omega)).trans rfl);apply DW_x (fun r w hA hH=>(q2q (size:=2) (b:=b1) (o:=o1+k * 2) (cs:=exC x.a.val x.b.val) rfl (hA.range hR) rfl).trans rfl);apply DW_x (fun r w hA hH=>(q0d (v:=.int _ _) rfl).trans rfl);apply DW_x (fun r w hA hH=>(q0d (v:=.slice _ _ _) rfl).trans rfl));((with_reducible apply q1x);(exact fun _=>rfl);(exact fun _=>rfl);(exact fun r w hA hH=>r5eqi k lo2 hi2 _ p hp w (hr2.ext (E.trans hA))));((with_reducible apply q1x);(exact fun _=>rfl);(exact fun _=>rfl);(exact fun r w hA hH=>r2mul x (Fd.eqI p k) w));((with_reducible exact q1p);(exact rfl);(repeat (first | exact .inr (.inr (fun _ _=>by with_reducible rfl)) | (refine And.intro ?_ ?_) | exact .inr (.inl rfl) | exact .inl (by decide +kernel) | exact trivial | exact .inr (.inr (fun _ _=>rfl))));(try dsimp only [Nat.reduceAdd]));intro r w6 E6 H6;refine L_fv rfl (r2add (Fd.es k fun i=>t.getD i 0 * Fd.eqI p i) (x * Fd.eqI p k) w6) ?_;intro w7 E7;have E67:=E6.trans E7;refine q0j rfl rfl rfl q1d (D3.ext E67) rfl ?_;intro w8 B8 hg8 hs8;(refine q0c<|bn<|tn<|q0a<|m_I rfl<|Ls (q1e rfl rfl (by omega))<|a_I rfl<|q0c<|tn ?_);refine ⟨t.length - (k+1),by omega,k+1,rfl,by omega,rfl,rfl,rfl,rfl,rfl,(D2.ext E67).grown hg8 (by simp;omega),?_,(E.trans E67).then hg8 (fun g h=>by cases h;omega)⟩;rw [show (Fd.es (k+1) fun i=>t.getD i 0 * Fd.eqI p i)=(Fd.es k fun i=>t.getD i 0 * Fd.eqI p i)+x * Fd.eqI p k by rw [← ex];rfl];exact B8
    · obtain rfl:k=t.length:=(by omega);(refine q1j<|te<|te<|bx<|tn<|q0b<|q0a<|Ls (q1a rfl D3 rfl) ?_);refine q0j rfl rfl rfl q1d D2 rfl ?_;intro wz Bz hgz _;(refine q0c<|tn<|q0r ?_);refine q0y rfl rfl (Res.cellA inferInstance rfl (Bz.range (fun j u h=>by simpa using h)) rfl .nil) ?_;exact ⟨rfl,E.then hgz (fun g h=>by cases h;omega)⟩
def q8e (l:List (Nat × Nat)) (n:Nat):List E:=(List.range n).map fun i=>⟨Fd.k (l.getD i (0,0)).1,Fd.k (l.getD i (0,0)).2⟩
theorem z1u (l:List (Nat × Nat)) (n:Nat):(q8e l n).length=n:=by unfold q8e;simp
theorem madeE_get (l:List (Nat × Nat)) {n i:Nat} (h:i < n):(q8e l n)[i]?=some ⟨Fd.k (l.getD i (0,0)).1,Fd.k (l.getD i (0,0)).2⟩:=by
  unfold q8e;rw [List.getElem?_map,List.getElem?_range h];rfl
set_option maxHeartbeats 1000000 in
theorem r2madeAll (n lo hi':Nat) (v:Value) (l:List (Nat × Nat)) (hn:n≤1000000) (hl8:∀ p∈l,p.1 < 18446744073709551616∧p.2 < 18446744073709551616) (hl:l.length≤9223372036854775807) (w:World) (hr:Row w lo hi' 2 v l.length (exs l)) :
    Calls Tryz.prog 99 #[v,.int .i64 (n:Nat)] w fun e w'=>∃ q,e=.returned q∧Ext w w'∧w'.ownsRow w.heap.size 31 2 q n (exs (raw (q8e l n))):=by
  have hlen:=z1u l n;obtain ⟨A,cc,rfl⟩:∃ A cc,v=.slice A l.length cc:=by
    obtain ⟨_,A,c,rfl,_⟩:=hr;exact ⟨A,c,rfl⟩
  refine q0k Tryz.func99 rfl Tryz.ntmps99 rfl ?_;(refine q0b<|q0a<|a_S rfl<|q0c<|tn<|q0b<|q0a ?_);refine q3r (size:=2) ?_;intro q1 w4 E4 hs4 o4;(refine Ls (q0l (v:=q1) rfl)<|q0c<|tn<|q0b<|q0b<|q0a<|a_I rfl<|q0c<|tn<|q0h ?_);refine q1k (fun q f w'=>∃ i v',q=n - i∧i≤n∧f 0=.slice A l.length cc∧f 1=.int .i64 (n:Nat)∧f 5=v'∧f 6=.int .i64 (i:Nat)∧w'.ownsRow w.heap.size 31 2 v' i (exs (raw ((q8e l n).take i)))∧Ext w w') n ?_ ?_
  · exact ⟨0,q1,rfl,by omega,rfl,rfl,rfl,rfl,o4,E4⟩
  · rintro q f wr ⟨i,v',hq,hi,f0,f1,f5,f6,ho,E⟩;rw [fold f0,fold f1,fold f5,fold f6];have hsz:=E.size;(refine q0b<|q0b<|q0a<|m_I rfl<|m_I rfl<|Ls (q1w rfl rfl)<|q0c<|tn ?_);refine q1b rfl (fun h=>?_) (fun h=>?_)
    · have hlt:i < n:=(by omega);(refine q0q<|tn<|q0b<|q0h<|q0b<|q0a ?_);refine Ls X_mkEx0 ?_;refine q0w ?_;intro g7 w5 B5 hg5 E5 hs5;refine q0j rfl rfl rfl q1d B5 rfl ?_;intro w6 B6 hg6 hs6;have E6:Ext wr w6:=E5.then hg6 (fun g h=>by cases h;omega);(refine q0c<|tn<|q0b<|q0b<|q0a<|m_I rfl<|m_S rfl<|Ls (q0f rfl)<|Ls (q1w rfl rfl)<|q0c<|tn ?_);refine q1b rfl (fun h2=>?_) (fun h2=>?_)
      · obtain ⟨⟨xa,xb⟩,hp⟩:∃ p,l[i]?=some p:=⟨l[i],List.getElem?_eq_getElem (by omega)⟩;have hp0:l.getD i (0,0)=(xa,xb):=(by rw [List.getD_eq_getElem?_getD,hp];rfl);have h8:=hl8 _ (List.mem_of_getElem? hp);obtain ⟨b1,o1,rfl,_,_,hc1,_,_,hR⟩:=q8f (hr.ext (E.trans E6)) hp;(refine q0a<|m_S rfl<|m_I rfl<|Ls (q0n rfl rfl (by omega))<|Ls (q2q (size:=2) (cs:=exC xa xb) rfl hR rfl) ?_);refine L_fv rfl (r2made xa xb h8.1 h8.2 w6) ?_;intro w7 E7;refine q0j rfl rfl rfl q1d (B6.ext E7) rfl ?_;intro w7b B7 hg7' hs7;have E67:Ext wr w7b:=(E6.trans E7).then hg7' (fun g h=>by cases h;omega);(refine q0c<|tn<|q0a<|Ls (q0d (v:=v') rfl)<|Ls (q1a rfl B7 rfl) ?_);refine q9m (z:=exC 0 0) rfl rfl rfl ?_;intro u w8 hru E8 _;have EA:Ext wr w8:=E67.trans E8;refine q1n (v:=v') (u:=u) rfl rfl (q0p ho EA) hru q1d (by omega) (by omega) (by have:=EA.size;omega) ?_;intro v2 w9 ho2 hg2 hb2;(refine Ls (q0l (v:=v2) rfl)<|q0c<|bn<|tn<|q0a<|m_I rfl<|Ls (q1e rfl rfl (by omega))<|a_I rfl<|q0c<|tn ?_);refine ⟨n - (i+1),by omega,i+1,v2,rfl,by omega,rfl,rfl,rfl,rfl,?_,(E.trans EA).then hg2 (fun g h=>(ho.lt g h).1)⟩;rw [q8t (madeE_get l hlt),q3k,z0d,hp0];exact ho2
      · have hp0:l.getD i (0,0)=(0,0):=(by rw [List.getD_eq_getElem?_getD,List.getElem?_eq_none (by omega)];rfl);(refine q0q<|tn<|q0a<|Ls (q0d (v:=v') rfl)<|Ls (q1a rfl B6 rfl) ?_);refine q9m (z:=exC 0 0) rfl rfl rfl ?_;intro u w8 hru E8 _;have EA:Ext wr w8:=E6.trans E8;refine q1n (v:=v') (u:=u) rfl rfl (q0p ho EA) hru q1d (by omega) (by omega) (by have:=EA.size;omega) ?_;intro v2 w9 ho2 hg2 hb2;(refine Ls (q0l (v:=v2) rfl)<|q0c<|bn<|tn<|q0a<|m_I rfl<|Ls (q1e rfl rfl (by omega))<|a_I rfl<|q0c<|tn ?_);refine ⟨n - (i+1),by omega,i+1,v2,rfl,by omega,rfl,rfl,rfl,rfl,?_,(E.trans EA).then hg2 (fun g h=>(ho.lt g h).1)⟩;rw [q8t (madeE_get l hlt),q3k,z0d,hp0];exact ho2
    · obtain rfl:i=n:=(by omega);rw [List.take_of_length_le (by omega)] at ho;(refine q1j<|te<|te<|bx<|tn<|q0b<|q0a<|Ls (q0d (v:=v') rfl)<|Ls (q0l (v:=v') rfl)<|q0c<|tn<|q0r ?_);refine q0e rfl rfl (v:=v') rfl ?_;exact ⟨v',rfl,E,ho⟩
end Go.Proofs.YtpohjepbmgeplaaGreatDoor
