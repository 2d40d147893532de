/- T, KU, VA, VB, N1, VC, F, VD, VE, VF, VG, VH, VJ, VI, VK, VL, VM, VO. -/
import Derived.Test.YtadfjnnildflkaaGreatDoorQ1
import Derived.Test.YtadfjnnildflkaaGreatDoorProg
namespace Go.Proofs.YtadfjnnildflkaaGreatDoor
open Go.Proofs.K
set_option maxRecDepth 100000
instance:TMixed Tryz.prog:=⟨by kernel_rfl⟩
instance:TInt Tryz.prog 2 .i64:=⟨Tryz.underlying2⟩
theorem inf2:(Tryz.prog.info? 2).map (fun i=>(i.zero,i.size,i.bytes))=some (some (.int .i64 0),1,8):=by kernel_rfl
instance:TZero Tryz.prog 2 [.int .i64 0]:=q2f inf2 (by rfl)
instance:TSz Tryz.prog 2 1:=⟨q2e inf2⟩
instance:TElem Tryz.prog 2 1 8:=⟨_,inf2,rfl,by decide⟩
instance:TOne Tryz.prog 2:=⟨⟨_,Tryz.underlying2,rfl⟩,q2e inf2⟩
instance:TInt Tryz.prog 3 .i64:=⟨Tryz.underlying3⟩
theorem inf3:(Tryz.prog.info? 3).map (fun i=>(i.zero,i.size,i.bytes))=some (some (.int .i64 0),1,8):=by kernel_rfl
instance:TZero Tryz.prog 3 [.int .i64 0]:=q2f inf3 (by rfl)
instance:TSz Tryz.prog 3 1:=⟨q2e inf3⟩
instance:TOne Tryz.prog 3:=⟨⟨_,Tryz.underlying3,rfl⟩,q2e inf3⟩
theorem inf4:(Tryz.prog.info? 4).map (fun i=>(i.zero,i.size,i.bytes))=some (some (.bool false),1,1):=by kernel_rfl
instance:TZero Tryz.prog 4 [.bool false]:=q2f inf4 (by rfl)
instance:TOne Tryz.prog 4:=⟨⟨_,Tryz.underlying4,rfl⟩,q2e inf4⟩
instance:TInt Tryz.prog 5 .u8:=⟨Tryz.underlying5⟩
theorem inf5:(Tryz.prog.info? 5).map (fun i=>(i.zero,i.size,i.bytes))=some (some (.int .u8 0),1,1):=by kernel_rfl
instance:TZero Tryz.prog 5 [.int .u8 0]:=q2f inf5 (by rfl)
instance:TSz Tryz.prog 5 1:=⟨q2e inf5⟩
instance:TElem Tryz.prog 5 1 1:=⟨_,inf5,rfl,by decide⟩
instance:TOne Tryz.prog 5:=⟨⟨_,Tryz.underlying5,rfl⟩,q2e inf5⟩
instance:TStr Tryz.prog 9:=⟨Tryz.underlying9⟩
theorem inf9:(Tryz.prog.info? 9).map (fun i=>(i.zero,i.size,i.bytes))=some (some (.string ByteArray.empty),1,16):=by kernel_rfl
instance:TZero Tryz.prog 9 [.string ByteArray.empty]:=q2f inf9 (by rfl)
instance:TSz Tryz.prog 9 1:=⟨q2e inf9⟩
instance:TOne Tryz.prog 9:=⟨⟨_,Tryz.underlying9,rfl⟩,q2e inf9⟩
instance:TArr Tryz.prog 23 32 5:=⟨Tryz.underlying23⟩
theorem inf23:(Tryz.prog.info? 23).map (fun i=>(i.zero,i.size,i.bytes))=some (some (.agg ((List.replicate 32 [.int .u8 0]).flatten).toArray),32,32):=by kernel_rfl
instance:TZero Tryz.prog 23 (List.replicate 32 [.int .u8 0]).flatten:=q2f inf23 (by rfl)
instance:TSz Tryz.prog 23 32:=⟨q2e inf23⟩
instance:TElem Tryz.prog 23 32 32:=⟨_,inf23,rfl,by decide⟩
instance:TAgg Tryz.prog 23 32:=⟨⟨_,Tryz.underlying23,rfl⟩,q2e inf23⟩
theorem inf25:(Tryz.prog.info? 25).map (fun i=>(i.zero,i.size,i.bytes))=some (some (.agg ([[.int .i64 0],[.int .i64 0],[.int .i64 0],[.int .i64 0]].flatten).toArray),4,32):=by kernel_rfl
instance:TAgg Tryz.prog 25 4:=⟨⟨_,Tryz.underlying25,rfl⟩,q2e inf25⟩
instance:TFld Tryz.prog 25 0 0 3:=⟨⟨_,_,Tryz.underlying25,rfl,rfl,rfl⟩,q1w (k:=0) (by kernel_rfl)⟩
instance:TFld Tryz.prog 25 1 1 3:=⟨⟨_,_,Tryz.underlying25,rfl,rfl,rfl⟩,q1w (k:=0) (by kernel_rfl)⟩
instance:TFld Tryz.prog 25 2 2 3:=⟨⟨_,_,Tryz.underlying25,rfl,rfl,rfl⟩,q1w (k:=0) (by kernel_rfl)⟩
instance:TFld Tryz.prog 25 3 3 3:=⟨⟨_,_,Tryz.underlying25,rfl,rfl,rfl⟩,q1w (k:=0) (by kernel_rfl)⟩
instance:TSegs Tryz.prog 25 [[.int .i64 0],[.int .i64 0],[.int .i64 0],[.int .i64 0]]:=q2t Tryz.underlying25 (by kernel_rfl) (by kernel_rfl)
instance:TSlice Tryz.prog 26 2:=⟨Tryz.underlying26⟩
theorem inf26:(Tryz.prog.info? 26).map (fun i=>(i.zero,i.size,i.bytes))=some (some (.slice none 0 0),1,24):=by kernel_rfl
instance:TOne Tryz.prog 26:=⟨⟨_,Tryz.underlying26,rfl⟩,q2e inf26⟩
instance:TSlice Tryz.prog 27 35:=⟨Tryz.underlying27⟩
instance:TSlice Tryz.prog 28 35:=⟨Tryz.underlying28⟩
theorem inf28:(Tryz.prog.info? 28).map (fun i=>(i.zero,i.size,i.bytes))=some (some (.slice none 0 0),1,24):=by kernel_rfl
instance:TOne Tryz.prog 28:=⟨⟨_,Tryz.underlying28,rfl⟩,q2e inf28⟩
instance:TSlice Tryz.prog 29 84:=⟨Tryz.underlying29⟩
theorem inf29:(Tryz.prog.info? 29).map (fun i=>(i.zero,i.size,i.bytes))=some (some (.slice none 0 0),1,24):=by kernel_rfl
instance:TOne Tryz.prog 29:=⟨⟨_,Tryz.underlying29,rfl⟩,q2e inf29⟩
theorem inf31:(Tryz.prog.info? 31).map (fun i=>(i.zero,i.size,i.bytes))=some (some (.agg ([[.slice none 0 0],[.slice none 0 0],[.slice none 0 0]].flatten).toArray),3,72):=by kernel_rfl
instance:TAgg Tryz.prog 31 3:=⟨⟨_,Tryz.underlying31,rfl⟩,q2e inf31⟩
instance:TFld Tryz.prog 31 0 0 28:=⟨⟨_,_,Tryz.underlying31,rfl,rfl,rfl⟩,q1w (k:=0) (by kernel_rfl)⟩
instance:TFld Tryz.prog 31 1 1 29:=⟨⟨_,_,Tryz.underlying31,rfl,rfl,rfl⟩,q1w (k:=0) (by kernel_rfl)⟩
instance:TFld Tryz.prog 31 2 2 29:=⟨⟨_,_,Tryz.underlying31,rfl,rfl,rfl⟩,q1w (k:=0) (by kernel_rfl)⟩
instance:TSegs Tryz.prog 31 [[.slice none 0 0],[.slice none 0 0],[.slice none 0 0]]:=q2t Tryz.underlying31 (by kernel_rfl) (by kernel_rfl)
instance:TInt Tryz.prog 32 .u64:=⟨Tryz.underlying32⟩
theorem inf32:(Tryz.prog.info? 32).map (fun i=>(i.zero,i.size,i.bytes))=some (some (.int .u64 0),1,8):=by kernel_rfl
instance:TZero Tryz.prog 32 [.int .u64 0]:=q2f inf32 (by rfl)
instance:TSz Tryz.prog 32 1:=⟨q2e inf32⟩
instance:TElem Tryz.prog 32 1 8:=⟨_,inf32,rfl,by decide⟩
instance:TOne Tryz.prog 32:=⟨⟨_,Tryz.underlying32,rfl⟩,q2e inf32⟩
theorem inf34:(Tryz.prog.info? 34).map (fun i=>(i.zero,i.size,i.bytes))=some (some (.agg ([[.int .u64 0],[.int .u64 0]].flatten).toArray),2,16):=by kernel_rfl
instance:TZero Tryz.prog 34 [[.int .u64 0],[.int .u64 0]].flatten:=q2f inf34 (by rfl)
instance:TSz Tryz.prog 34 2:=⟨q2e inf34⟩
instance:TElem Tryz.prog 34 2 16:=⟨_,inf34,rfl,by decide⟩
instance:TAgg Tryz.prog 34 2:=⟨⟨_,Tryz.underlying34,rfl⟩,q2e inf34⟩
instance:TFld Tryz.prog 34 0 0 32:=⟨⟨_,_,Tryz.underlying34,rfl,rfl,rfl⟩,q1w (k:=0) (by kernel_rfl)⟩
instance:TFld Tryz.prog 34 1 1 32:=⟨⟨_,_,Tryz.underlying34,rfl,rfl,rfl⟩,q1w (k:=0) (by kernel_rfl)⟩
instance:TSegs Tryz.prog 34 [[.int .u64 0],[.int .u64 0]]:=q2t Tryz.underlying34 (by kernel_rfl) (by kernel_rfl)
instance:TSlice Tryz.prog 35 34:=⟨Tryz.underlying35⟩
theorem inf35:(Tryz.prog.info? 35).map (fun i=>(i.zero,i.size,i.bytes))=some (some (.slice none 0 0),1,24):=by kernel_rfl
instance:TZero Tryz.prog 35 [.slice none 0 0]:=q2f inf35 (by rfl)
instance:TSz Tryz.prog 35 1:=⟨q2e inf35⟩
instance:TElem Tryz.prog 35 1 24:=⟨_,inf35,rfl,by decide⟩
instance:TOne Tryz.prog 35:=⟨⟨_,Tryz.underlying35,rfl⟩,q2e inf35⟩
instance:TSlice Tryz.prog 36 68:=⟨Tryz.underlying36⟩
theorem inf36:(Tryz.prog.info? 36).map (fun i=>(i.zero,i.size,i.bytes))=some (some (.slice none 0 0),1,24):=by kernel_rfl
instance:TOne Tryz.prog 36:=⟨⟨_,Tryz.underlying36,rfl⟩,q2e inf36⟩
instance:TSlice Tryz.prog 37 23:=⟨Tryz.underlying37⟩
theorem inf37:(Tryz.prog.info? 37).map (fun i=>(i.zero,i.size,i.bytes))=some (some (.slice none 0 0),1,24):=by kernel_rfl
instance:TOne Tryz.prog 37:=⟨⟨_,Tryz.underlying37,rfl⟩,q2e inf37⟩
instance:TFld Tryz.prog 39 0 0 37:=⟨⟨_,_,Tryz.underlying39,rfl,rfl,rfl⟩,q1w (k:=0) (by kernel_rfl)⟩
theorem inf41:(Tryz.prog.info? 41).map (fun i=>(i.zero,i.size,i.bytes))=some (some (.agg ([[.slice none 0 0],[.slice none 0 0],[.slice none 0 0],([.slice none 0 0])].flatten).toArray),4,96):=by kernel_rfl
instance:TAgg Tryz.prog 41 4:=⟨⟨_,Tryz.underlying41,rfl⟩,q2e inf41⟩
instance:TFld Tryz.prog 41 0 0 35:=⟨⟨_,_,Tryz.underlying41,rfl,rfl,rfl⟩,q1w (k:=0) (by kernel_rfl)⟩
instance:TFld Tryz.prog 41 1 1 35:=⟨⟨_,_,Tryz.underlying41,rfl,rfl,rfl⟩,q1w (k:=0) (by kernel_rfl)⟩
instance:TFld Tryz.prog 41 2 2 36:=⟨⟨_,_,Tryz.underlying41,rfl,rfl,rfl⟩,q1w (k:=0) (by kernel_rfl)⟩
instance:TFld Tryz.prog 41 3 3 39:=⟨⟨_,_,Tryz.underlying41,rfl,rfl,rfl⟩,q1w (k:=0) (by kernel_rfl)⟩
instance:TSegs Tryz.prog 41 [[.slice none 0 0],[.slice none 0 0],[.slice none 0 0],([.slice none 0 0])]:=q2t Tryz.underlying41 (by kernel_rfl) (by kernel_rfl)
theorem inf43:(Tryz.prog.info? 43).map (fun i=>(i.zero,i.size,i.bytes))=some (some (.agg ([[.string ByteArray.empty],[.int .i64 0],(List.replicate 32 [.int .u8 0]).flatten,([.int .i64 0]++[.int .i64 0]++[.int .i64 0]++[.int .i64 0]),[.slice none 0 0],([.slice none 0 0]++[.slice none 0 0]++[.slice none 0 0]),[.slice none 0 0],([.int .u64 0]++[.int .u64 0]),([.slice none 0 0]++[.slice none 0 0]++[.slice none 0 0]++([.slice none 0 0]))].flatten).toArray),49,320):=by kernel_rfl
instance:TZero Tryz.prog 43 [[.string ByteArray.empty],[.int .i64 0],(List.replicate 32 [.int .u8 0]).flatten,([.int .i64 0]++[.int .i64 0]++[.int .i64 0]++[.int .i64 0]),[.slice none 0 0],([.slice none 0 0]++[.slice none 0 0]++[.slice none 0 0]),[.slice none 0 0],([.int .u64 0]++[.int .u64 0]),([.slice none 0 0]++[.slice none 0 0]++[.slice none 0 0]++([.slice none 0 0]))].flatten:=q2f inf43 (by rfl)
instance:TAgg Tryz.prog 43 49:=⟨⟨_,Tryz.underlying43,rfl⟩,q2e inf43⟩
instance:TFld Tryz.prog 43 0 0 9:=⟨⟨_,_,Tryz.underlying43,rfl,rfl,rfl⟩,q1w (k:=0) (by kernel_rfl)⟩
instance:TFld Tryz.prog 43 1 1 3:=⟨⟨_,_,Tryz.underlying43,rfl,rfl,rfl⟩,q1w (k:=0) (by kernel_rfl)⟩
instance:TFld Tryz.prog 43 2 2 23:=⟨⟨_,_,Tryz.underlying43,rfl,rfl,rfl⟩,q1w (k:=31) (by kernel_rfl)⟩
instance:TFld Tryz.prog 43 3 34 25:=⟨⟨_,_,Tryz.underlying43,rfl,rfl,rfl⟩,q1w (k:=3) (by kernel_rfl)⟩
instance:TFld Tryz.prog 43 4 38 26:=⟨⟨_,_,Tryz.underlying43,rfl,rfl,rfl⟩,q1w (k:=0) (by kernel_rfl)⟩
instance:TFld Tryz.prog 43 5 39 31:=⟨⟨_,_,Tryz.underlying43,rfl,rfl,rfl⟩,q1w (k:=2) (by kernel_rfl)⟩
instance:TFld Tryz.prog 43 6 42 28:=⟨⟨_,_,Tryz.underlying43,rfl,rfl,rfl⟩,q1w (k:=0) (by kernel_rfl)⟩
instance:TFld Tryz.prog 43 7 43 34:=⟨⟨_,_,Tryz.underlying43,rfl,rfl,rfl⟩,q1w (k:=1) (by kernel_rfl)⟩
instance:TFld Tryz.prog 43 8 45 41:=⟨⟨_,_,Tryz.underlying43,rfl,rfl,rfl⟩,q1w (k:=3) (by kernel_rfl)⟩
instance:TSegs Tryz.prog 43 [[.string ByteArray.empty],[.int .i64 0],(List.replicate 32 [.int .u8 0]).flatten,([.int .i64 0]++[.int .i64 0]++[.int .i64 0]++[.int .i64 0]),[.slice none 0 0],([.slice none 0 0]++[.slice none 0 0]++[.slice none 0 0]),[.slice none 0 0],([.int .u64 0]++[.int .u64 0]),([.slice none 0 0]++[.slice none 0 0]++[.slice none 0 0]++([.slice none 0 0]))]:=q2t Tryz.underlying43 (by kernel_rfl) (by kernel_rfl)
instance:TInt Tryz.prog 44 .u16:=⟨Tryz.underlying44⟩
instance:TSlice Tryz.prog 47 5:=⟨Tryz.underlying47⟩
theorem inf47:(Tryz.prog.info? 47).map (fun i=>(i.zero,i.size,i.bytes))=some (some (.slice none 0 0),1,24):=by kernel_rfl
instance:TOne Tryz.prog 47:=⟨⟨_,Tryz.underlying47,rfl⟩,q2e inf47⟩
instance:TInt Tryz.prog 49 .i64:=⟨Tryz.underlying49⟩
theorem inf49:(Tryz.prog.info? 49).map (fun i=>(i.zero,i.size,i.bytes))=some (some (.int .i64 0),1,8):=by kernel_rfl
instance:TZero Tryz.prog 49 [.int .i64 0]:=q2f inf49 (by rfl)
instance:TOne Tryz.prog 49:=⟨⟨_,Tryz.underlying49,rfl⟩,q2e inf49⟩
instance:TSlice Tryz.prog 59 268:=⟨Tryz.underlying59⟩
theorem inf59:(Tryz.prog.info? 59).map (fun i=>(i.zero,i.size,i.bytes))=some (some (.slice none 0 0),1,24):=by kernel_rfl
instance:TOne Tryz.prog 59:=⟨⟨_,Tryz.underlying59,rfl⟩,q2e inf59⟩
theorem inf62:(Tryz.prog.info? 62).map (fun i=>(i.zero,i.size,i.bytes))=some (some (.agg ([[.slice none 0 0],[.slice none 0 0]].flatten).toArray),2,48):=by kernel_rfl
instance:TAgg Tryz.prog 62 2:=⟨⟨_,Tryz.underlying62,rfl⟩,q2e inf62⟩
instance:TFld Tryz.prog 62 0 0 59:=⟨⟨_,_,Tryz.underlying62,rfl,rfl,rfl⟩,q1w (k:=0) (by kernel_rfl)⟩
instance:TSegs Tryz.prog 62 [[.slice none 0 0],[.slice none 0 0]]:=q2t Tryz.underlying62 (by kernel_rfl) (by kernel_rfl)
instance:TSlice Tryz.prog 68 32:=⟨Tryz.underlying68⟩
theorem inf68:(Tryz.prog.info? 68).map (fun i=>(i.zero,i.size,i.bytes))=some (some (.slice none 0 0),1,24):=by kernel_rfl
instance:TZero Tryz.prog 68 [.slice none 0 0]:=q2f inf68 (by rfl)
instance:TSz Tryz.prog 68 1:=⟨q2e inf68⟩
instance:TElem Tryz.prog 68 1 24:=⟨_,inf68,rfl,by decide⟩
instance:TOne Tryz.prog 68:=⟨⟨_,Tryz.underlying68,rfl⟩,q2e inf68⟩
instance:TFld Tryz.prog 72 0 0 47:=⟨⟨_,_,Tryz.underlying72,rfl,rfl,rfl⟩,q1w (k:=0) (by kernel_rfl)⟩
instance:TSegs Tryz.prog 72 [[.slice none 0 0]]:=q2t Tryz.underlying72 (by kernel_rfl) (by kernel_rfl)
instance:TSlice Tryz.prog 77 3:=⟨Tryz.underlying77⟩
theorem inf84:(Tryz.prog.info? 84).map (fun i=>(i.zero,i.size,i.bytes))=some (some (.agg ([[.slice none 0 0],([.int .u64 0]++[.int .u64 0]),([.int .u64 0]++[.int .u64 0]),[.slice none 0 0]].flatten).toArray),6,80):=by kernel_rfl
instance:TZero Tryz.prog 84 [[.slice none 0 0],([.int .u64 0]++[.int .u64 0]),([.int .u64 0]++[.int .u64 0]),[.slice none 0 0]].flatten:=q2f inf84 (by rfl)
instance:TSz Tryz.prog 84 6:=⟨q2e inf84⟩
instance:TElem Tryz.prog 84 6 80:=⟨_,inf84,rfl,by decide⟩
instance:TAgg Tryz.prog 84 6:=⟨⟨_,Tryz.underlying84,rfl⟩,q2e inf84⟩
instance:TFld Tryz.prog 84 0 0 28:=⟨⟨_,_,Tryz.underlying84,rfl,rfl,rfl⟩,q1w (k:=0) (by kernel_rfl)⟩
instance:TFld Tryz.prog 84 1 1 34:=⟨⟨_,_,Tryz.underlying84,rfl,rfl,rfl⟩,q1w (k:=1) (by kernel_rfl)⟩
instance:TFld Tryz.prog 84 2 3 34:=⟨⟨_,_,Tryz.underlying84,rfl,rfl,rfl⟩,q1w (k:=1) (by kernel_rfl)⟩
instance:TFld Tryz.prog 84 3 5 35:=⟨⟨_,_,Tryz.underlying84,rfl,rfl,rfl⟩,q1w (k:=0) (by kernel_rfl)⟩
instance:TSegs Tryz.prog 84 [[.slice none 0 0],([.int .u64 0]++[.int .u64 0]),([.int .u64 0]++[.int .u64 0]),[.slice none 0 0]]:=q2t Tryz.underlying84 (by kernel_rfl) (by kernel_rfl)
instance:TFld Tryz.prog 93 0 0 47:=⟨⟨_,_,Tryz.underlying93,rfl,rfl,rfl⟩,q1w (k:=0) (by kernel_rfl)⟩
instance:TSegs Tryz.prog 93 [[.slice none 0 0]]:=q2t Tryz.underlying93 (by kernel_rfl) (by kernel_rfl)
theorem inf102:(Tryz.prog.info? 102).map (fun i=>(i.zero,i.size,i.bytes))=some (some (.agg ([[.slice none 0 0],[.slice none 0 0],([.int .i64 0]++[.int .i64 0]++[.int .i64 0]++[.int .i64 0]),(List.replicate 32 [.int .u8 0]).flatten].flatten).toArray),38,112):=by kernel_rfl
instance:TZero Tryz.prog 102 [[.slice none 0 0],[.slice none 0 0],([.int .i64 0]++[.int .i64 0]++[.int .i64 0]++[.int .i64 0]),(List.replicate 32 [.int .u8 0]).flatten].flatten:=q2f inf102 (by rfl)
instance:TAgg Tryz.prog 102 38:=⟨⟨_,Tryz.underlying102,rfl⟩,q2e inf102⟩
instance:TFld Tryz.prog 102 3 6 23:=⟨⟨_,_,Tryz.underlying102,rfl,rfl,rfl⟩,q1w (k:=31) (by kernel_rfl)⟩
instance:TSegs Tryz.prog 102 [[.slice none 0 0],[.slice none 0 0],([.int .i64 0]++[.int .i64 0]++[.int .i64 0]++[.int .i64 0]),(List.replicate 32 [.int .u8 0]).flatten]:=q2t Tryz.underlying102 (by kernel_rfl) (by kernel_rfl)
theorem inf114:(Tryz.prog.info? 114).map (fun i=>(i.zero,i.size,i.bytes))=some (some (.pointer none),1,8):=by kernel_rfl
instance:TZero Tryz.prog 114 [.pointer none]:=q2f inf114 (by rfl)
instance:TSz Tryz.prog 114 1:=⟨q2e inf114⟩
instance:TOne Tryz.prog 114:=⟨⟨_,Tryz.underlying114,rfl⟩,q2e inf114⟩
instance:TSlice Tryz.prog 115 114:=⟨Tryz.underlying115⟩
instance:TSlice Tryz.prog 135 224:=⟨Tryz.underlying135⟩
theorem inf135:(Tryz.prog.info? 135).map (fun i=>(i.zero,i.size,i.bytes))=some (some (.slice none 0 0),1,24):=by kernel_rfl
instance:TOne Tryz.prog 135:=⟨⟨_,Tryz.underlying135,rfl⟩,q2e inf135⟩
theorem inf137:(Tryz.prog.info? 137).map (fun i=>(i.zero,i.size,i.bytes))=some (some (.agg ([[.int .i64 0],[.int .i64 0],[.int .i64 0],[.slice none 0 0]].flatten).toArray),4,48):=by kernel_rfl
instance:TZero Tryz.prog 137 [[.int .i64 0],[.int .i64 0],[.int .i64 0],[.slice none 0 0]].flatten:=q2f inf137 (by rfl)
instance:TAgg Tryz.prog 137 4:=⟨⟨_,Tryz.underlying137,rfl⟩,q2e inf137⟩
instance:TFld Tryz.prog 137 0 0 3:=⟨⟨_,_,Tryz.underlying137,rfl,rfl,rfl⟩,q1w (k:=0) (by kernel_rfl)⟩
instance:TFld Tryz.prog 137 1 1 3:=⟨⟨_,_,Tryz.underlying137,rfl,rfl,rfl⟩,q1w (k:=0) (by kernel_rfl)⟩
instance:TFld Tryz.prog 137 2 2 3:=⟨⟨_,_,Tryz.underlying137,rfl,rfl,rfl⟩,q1w (k:=0) (by kernel_rfl)⟩
instance:TFld Tryz.prog 137 3 3 135:=⟨⟨_,_,Tryz.underlying137,rfl,rfl,rfl⟩,q1w (k:=0) (by kernel_rfl)⟩
instance:TSegs Tryz.prog 137 [[.int .i64 0],[.int .i64 0],[.int .i64 0],[.slice none 0 0]]:=q2t Tryz.underlying137 (by kernel_rfl) (by kernel_rfl)
theorem inf141:(Tryz.prog.info? 141).map (fun i=>(i.zero,i.size,i.bytes))=some (some (.agg ([[.slice none 0 0]].flatten).toArray),1,24):=by kernel_rfl
instance:TZero Tryz.prog 141 [[.slice none 0 0]].flatten:=q2f inf141 (by rfl)
instance:TAgg Tryz.prog 141 1:=⟨⟨_,Tryz.underlying141,rfl⟩,q2e inf141⟩
instance:TSegs Tryz.prog 141 [[.slice none 0 0]]:=q2t Tryz.underlying141 (by kernel_rfl) (by kernel_rfl)
instance:TFld Tryz.prog 185 0 0 9:=⟨⟨_,_,Tryz.underlying185,rfl,rfl,rfl⟩,q1w (k:=0) (by kernel_rfl)⟩
instance:TFld Tryz.prog 185 1 1 3:=⟨⟨_,_,Tryz.underlying185,rfl,rfl,rfl⟩,q1w (k:=0) (by kernel_rfl)⟩
instance:TFld Tryz.prog 185 2 2 3:=⟨⟨_,_,Tryz.underlying185,rfl,rfl,rfl⟩,q1w (k:=0) (by kernel_rfl)⟩
instance:TFld Tryz.prog 185 3 3 49:=⟨⟨_,_,Tryz.underlying185,rfl,rfl,rfl⟩,q1w (k:=0) (by kernel_rfl)⟩
instance:TSegs Tryz.prog 185 [[.string ByteArray.empty],[.int .i64 0],[.int .i64 0],[.int .i64 0]]:=q2t Tryz.underlying185 (by kernel_rfl) (by kernel_rfl)
theorem inf188:(Tryz.prog.info? 188).map (fun i=>(i.zero,i.size,i.bytes))=some (some (.agg ([[.int .i64 0],[.string ByteArray.empty]].flatten).toArray),2,24):=by kernel_rfl
instance:TZero Tryz.prog 188 [[.int .i64 0],[.string ByteArray.empty]].flatten:=q2f inf188 (by rfl)
instance:TAgg Tryz.prog 188 2:=⟨⟨_,Tryz.underlying188,rfl⟩,q2e inf188⟩
instance:TFld Tryz.prog 188 0 0 3:=⟨⟨_,_,Tryz.underlying188,rfl,rfl,rfl⟩,q1w (k:=0) (by kernel_rfl)⟩
instance:TFld Tryz.prog 188 1 1 9:=⟨⟨_,_,Tryz.underlying188,rfl,rfl,rfl⟩,q1w (k:=0) (by kernel_rfl)⟩
instance:TSegs Tryz.prog 188 [[.int .i64 0],[.string ByteArray.empty]]:=q2t Tryz.underlying188 (by kernel_rfl) (by kernel_rfl)
instance:TOne Tryz.prog 191:=⟨⟨_,Tryz.underlying191,rfl⟩,by kernel_rfl⟩
instance:TAgg Tryz.prog 193 3:=⟨⟨_,Tryz.underlying193,rfl⟩,by kernel_rfl⟩
instance:TFld Tryz.prog 193 1 1 4:=⟨⟨_,_,Tryz.underlying193,rfl,rfl,rfl⟩,q1w (k:=0) (by kernel_rfl)⟩
instance:TFld Tryz.prog 193 2 2 191:=⟨⟨_,_,Tryz.underlying193,rfl,rfl,rfl⟩,q1w (k:=0) (by kernel_rfl)⟩
instance:TMap Tryz.prog 194 3 193:=⟨Tryz.underlying194⟩
instance:TOne Tryz.prog 216:=⟨⟨_,Tryz.underlying216,rfl⟩,by kernel_rfl⟩
theorem inf218:(Tryz.prog.info? 218).map (fun i=>(i.zero,i.size,i.bytes))=some (some (.agg ([[.string ByteArray.empty],[.bool false],[.int .i64 0],[.int .i64 0]].flatten).toArray),4,40):=by kernel_rfl
instance:TZero Tryz.prog 218 [[.string ByteArray.empty],[.bool false],[.int .i64 0],[.int .i64 0]].flatten:=q2f inf218 (by rfl)
instance:TAgg Tryz.prog 218 4:=⟨⟨_,Tryz.underlying218,rfl⟩,q2e inf218⟩
instance:TFld Tryz.prog 218 0 0 9:=⟨⟨_,_,Tryz.underlying218,rfl,rfl,rfl⟩,q1w (k:=0) (by kernel_rfl)⟩
instance:TFld Tryz.prog 218 1 1 4:=⟨⟨_,_,Tryz.underlying218,rfl,rfl,rfl⟩,q1w (k:=0) (by kernel_rfl)⟩
instance:TFld Tryz.prog 218 2 2 3:=⟨⟨_,_,Tryz.underlying218,rfl,rfl,rfl⟩,q1w (k:=0) (by kernel_rfl)⟩
instance:TFld Tryz.prog 218 3 3 3:=⟨⟨_,_,Tryz.underlying218,rfl,rfl,rfl⟩,q1w (k:=0) (by kernel_rfl)⟩
instance:TSegs Tryz.prog 218 [[.string ByteArray.empty],[.bool false],[.int .i64 0],[.int .i64 0]]:=q2t Tryz.underlying218 (by kernel_rfl) (by kernel_rfl)
instance:TMap Tryz.prog 219 3 218:=⟨Tryz.underlying219⟩
instance:TSlice Tryz.prog 221 9:=⟨Tryz.underlying221⟩
instance:TSlice Tryz.prog 224 226:=⟨Tryz.underlying224⟩
theorem inf224:(Tryz.prog.info? 224).map (fun i=>(i.zero,i.size,i.bytes))=some (some (.slice none 0 0),1,24):=by kernel_rfl
instance:TZero Tryz.prog 224 [.slice none 0 0]:=q2f inf224 (by rfl)
instance:TSz Tryz.prog 224 1:=⟨q2e inf224⟩
instance:TElem Tryz.prog 224 1 24:=⟨_,inf224,rfl,by decide⟩
instance:TOne Tryz.prog 224:=⟨⟨_,Tryz.underlying224,rfl⟩,q2e inf224⟩
theorem inf226:(Tryz.prog.info? 226).map (fun i=>(i.zero,i.size,i.bytes))=some (some (.agg ([[.int .i64 0],[.int .i64 0],[.int .i64 0]].flatten).toArray),3,24):=by kernel_rfl
instance:TZero Tryz.prog 226 [[.int .i64 0],[.int .i64 0],[.int .i64 0]].flatten:=q2f inf226 (by rfl)
instance:TSz Tryz.prog 226 3:=⟨q2e inf226⟩
instance:TElem Tryz.prog 226 3 24:=⟨_,inf226,rfl,by decide⟩
instance:TAgg Tryz.prog 226 3:=⟨⟨_,Tryz.underlying226,rfl⟩,q2e inf226⟩
instance:TFld Tryz.prog 226 0 0 3:=⟨⟨_,_,Tryz.underlying226,rfl,rfl,rfl⟩,q1w (k:=0) (by kernel_rfl)⟩
instance:TFld Tryz.prog 226 1 1 3:=⟨⟨_,_,Tryz.underlying226,rfl,rfl,rfl⟩,q1w (k:=0) (by kernel_rfl)⟩
instance:TFld Tryz.prog 226 2 2 3:=⟨⟨_,_,Tryz.underlying226,rfl,rfl,rfl⟩,q1w (k:=0) (by kernel_rfl)⟩
instance:TSegs Tryz.prog 226 [[.int .i64 0],[.int .i64 0],[.int .i64 0]]:=q2t Tryz.underlying226 (by kernel_rfl) (by kernel_rfl)
theorem inf295:(Tryz.prog.info? 295).map (fun i=>(i.zero,i.size,i.bytes))=some (some (.map none),1,8):=by kernel_rfl
instance:TOne Tryz.prog 295:=⟨⟨_,Tryz.underlying295,rfl⟩,q2e inf295⟩
theorem inf404:(Tryz.prog.info? 404).map (fun i=>(i.zero,i.size,i.bytes))=some (some (.agg ([[.int .i64 0],[.int .i64 0]].flatten).toArray),2,16):=by kernel_rfl
instance:TZero Tryz.prog 404 [[.int .i64 0],[.int .i64 0]].flatten:=q2f inf404 (by rfl)
instance:TAgg Tryz.prog 404 2:=⟨⟨_,Tryz.underlying404,rfl⟩,q2e inf404⟩
instance:TFld Tryz.prog 404 0 0 3:=⟨⟨_,_,Tryz.underlying404,rfl,rfl,rfl⟩,q1w (k:=0) (by kernel_rfl)⟩
instance:TFld Tryz.prog 404 1 1 3:=⟨⟨_,_,Tryz.underlying404,rfl,rfl,rfl⟩,q1w (k:=0) (by kernel_rfl)⟩
instance:TSegs Tryz.prog 404 [[.int .i64 0],[.int .i64 0]]:=q2t Tryz.underlying404 (by kernel_rfl) (by kernel_rfl)
end Go.Proofs.YtadfjnnildflkaaGreatDoor
namespace Go.Proofs.YtadfjnnildflkaaGreatDoor
open Go.RowKit Go.Proofs.K
def exC (a b:Nat):List Value:=[.int .u64 (a:Nat),.int .u64 (b:Nat)]
theorem q4t {a b:Nat}:∀ v∈exC a b,v.oneCell'=true:=by
  intro v hv;simp only [exC,List.mem_cons,List.not_mem_nil,or_false] at hv;rcases hv with rfl | rfl <;> rfl
instance:TEq Tryz.prog 23:=⟨by kernel_rfl,by kernel_rfl,.inr ⟨_,_,Tryz.underlying23⟩⟩
instance:TEq Tryz.prog 34:=⟨by kernel_rfl,by kernel_rfl,.inl ⟨_,Tryz.underlying34⟩⟩
def litsD (l:List Nat):List Lit:=l.map fun x:Nat=>.int .u8 (x:Int)
theorem kl_dig {l:List Nat} (h:l.length=32) (h8:∀ x∈l,x < 256):(Tryz.prog).keyLits 2 23 (ints .u8 l)=some (litsD l) :=
  Go.Proofs.K.keyLits_arr 0 (by kernel_rfl) (by kernel_rfl) h fun x hx=>wf_u8 (h8 x hx)
theorem kl_ex {a b:Nat} (ha:a < 18446744073709551616) (hb:b < 18446744073709551616):(Tryz.prog).keyLits 3 34 (exC a b)=some ([.int .u64 (a:Nat)]++[.int .u64 (b:Nat)]):=by
  refine q8i (D:=2) Tryz.underlying34 (by decide) (by decide) (by kernel_rfl) ?_ ?_
  · rw [show (Tryz.prog).cellsOf 32=1 by kernel_rfl];exact Go.Proofs.K.keyLits_int 1 (wf_u64 ha)
  · rw [show (Tryz.prog).cellsOf 32=1 by kernel_rfl];exact Go.Proofs.K.keyLits_int 1 (wf_u64 hb)
theorem litsD_inj {a b:List Nat}:litsD a=litsD b↔a=b:=lits_inj
theorem lits_ex {a b c d:Nat}:[Lit.int .u64 (a:Nat)]++[Lit.int .u64 (b:Nat)]=[Lit.int .u64 (c:Nat)]++[Lit.int .u64 (d:Nat)]↔a=c∧b=d:=by
  constructor
  · intro h;simp at h;omega
  · rintro ⟨rfl,rfl⟩;rfl
section
variable {n:NN} {f:Fr} {w:World} {d:Option Tmp} {t:TypeId} {pos:String} {af:Array Edge} {g:Option (Nat × Bool)} {x y:Operand}
theorem X_neqD {a b:List Nat} (ha:a.length=32) (hb:b.length=32) (ha8:∀ x∈a,x < 256) (hb8:∀ x∈b,x < 256) (hx:ev n f x=.agg (ints .u8 a).toArray) (hy:ev n f y=.agg (ints .u8 b).toArray) :
    X Tryz.prog n ⟨d,.binOp .neq 23 x y 23,t,pos,af,g⟩ f w=.ok (.value (.bool (decide (a ≠ b)))) w :=
  X_neqK hx hy (by rw [q1e,ha];kernel_rfl) (by rw [q1e,hb];kernel_rfl) (kl_dig ha ha8) (kl_dig hb hb8) (decide_eq_true_iff.trans (not_congr litsD_inj.symm))
theorem X_neqEx {a b a' b':Nat} (ha:a < 18446744073709551616) (hb:b < 18446744073709551616) (ha':a' < 18446744073709551616) (hb':b' < 18446744073709551616) (hx:ev n f x=.agg (exC a b).toArray) (hy:ev n f y=.agg (exC a' b').toArray) :
    X Tryz.prog n ⟨d,.binOp .neq 34 x y 34,t,pos,af,g⟩ f w=.ok (.value (.bool (decide (¬ (a=a'∧b=b'))))) w :=
  X_neqK hx hy (by kernel_rfl) (by kernel_rfl) (kl_ex ha hb) (kl_ex ha' hb') (decide_eq_true_iff.trans (not_congr lits_ex.symm))
end
section
variable {n:NN} {f:Fr} {w:World} {d:Option Tmp} {t:TypeId} {pos:String} {af:Array Edge} {g:Option (Nat × Bool)} {x y:Operand}
theorem X_mkEx {a b:Nat} (hx:ev n f x=.int .u64 (a:Nat)) (hy:ev n f y=.int .u64 (b:Nat)) :
    X Tryz.prog n ⟨d,.build 34 #[(0,x),(1,y)],t,pos,af,g⟩ f w=.ok (.value (.agg (exC a b).toArray)) w:=by
  have:=q1n (P:=Tryz.prog) (ty:=34) (n:=n) (f:=f) (w:=w) (d:=d) (t:=t) (pos:=pos) (af:=af) (g:=g) (Parts.cons (i:=0) (c:=[.int .u64 (a:Nat)]) (z:=[.int .u64 0]) hx rfl rfl rfl (Parts.cons (i:=1) (c:=[.int .u64 (b:Nat)]) (z:=[.int .u64 0]) hy rfl rfl rfl (Parts.nil _)));simpa [exC] using this
end
end Go.Proofs.YtadfjnnildflkaaGreatDoor
namespace Ce
abbrev EE:=Nat × Nat
abbrev pr:Nat:=18446744069414584321
def byN (n x:Nat):List Nat:=(List.range n).map fun i=>x / 256 ^ i % 256
def numN:List Nat→Nat
  | []=>0
  | b :: l=>b+256 * numN l
theorem byN_len (n x:Nat):(byN n x).length=n:=by simp [byN]
theorem byN_lt (n x:Nat):∀ b∈byN n x,b < 256:=fun b hb=>by
  obtain ⟨i,_,rfl⟩:=List.mem_map.1 hb;exact Nat.mod_lt _ (by decide)
theorem byN_succ (n x:Nat):byN (n+1) x=x % 256 :: byN n (x / 256):=by
  unfold byN;rw [List.range_succ_eq_map,List.map_cons,List.map_map,Nat.pow_zero,Nat.div_one];congr 1;apply List.map_congr_left;intro i _;show x / 256 ^ (i+1) % 256=x / 256 / 256 ^ i % 256;rw [Nat.pow_succ,Nat.mul_comm,Nat.div_div_eq_div_mul]
theorem num_by:∀ (n x:Nat),x < 256 ^ n→numN (byN n x)=x
  | 0,x,h=>by
    rw [Nat.pow_zero] at h;obtain rfl:x=0:=(by omega);rfl
  | n+1,x,h=>by
    rw [byN_succ];show x % 256+256 * numN (byN n (x / 256))=x;rw [num_by n (x / 256) (Nat.div_lt_of_lt_mul (by rw [Nat.pow_succ,Nat.mul_comm] at h;exact h))];have:=Nat.div_add_mod x 256;omega
theorem by_num:∀ (l:List Nat),(∀ b∈l,b < 256)→byN l.length (numN l)=l
  | [],_=>rfl
  | b :: l,h=>by
    have hb:=h b (List.mem_cons_self ..);rw [List.length_cons,byN_succ];show (b+256 * numN l) % 256 :: byN l.length ((b+256 * numN l) / 256)=b :: l;rw [show (b+256 * numN l) % 256=b by omega,show (b+256 * numN l) / 256=numN l by omega,by_num l fun x hx=>h x (List.mem_cons_of_mem _ hx)]
theorem num_lt:∀ (l:List Nat),(∀ b∈l,b < 256)→numN l < 256 ^ l.length
  | [],_=>by decide
  | b :: l,h=>by
    have hb:=h b (List.mem_cons_self ..);have:=num_lt l fun x hx=>h x (List.mem_cons_of_mem _ hx);rw [List.length_cons,Nat.pow_succ];show b+256 * numN l < _;omega
inductive Res (α:Type) where
  | err (e:Nat)
  | got (a:α) (r:List Nat)
abbrev Ps (α:Type):=List Nat→Res α
def Res.bind {α β:Type}:Res α→(α→Ps β)→Res β
  | .err e,_=>.err e
  | .got a r,f=>f a r
def Ps.bind {α β:Type} (p:Ps α) (f:α→Ps β):Ps β:=fun b=>(p b).bind f
def Ps.pure {α:Type} (a:α):Ps α:=fun b=>.got a b
def take (n:Nat):Ps (List Nat):=fun b=>if b.length < n then .err 6 else .got (b.take n) (b.drop n)
def num (n:Nat):Ps Nat:=(take n).bind fun l=>Ps.pure (numN l)
def chk {α:Type} (ok:α→Bool) (a:α):Ps α:=fun b=>if ok a then .got a b else .err 5
def rep {α:Type} (p:Ps α):Nat→Ps (List α)
  | 0=>Ps.pure []
  | n+1=>p.bind fun a=>(rep p n).bind fun l=>Ps.pure (a :: l)
def els {α:Type} (p:Ps α):Ps (List α):=(num 4).bind (rep p)
def mapP {α β:Type} (p:Ps α) (f:α→β):Ps β:=p.bind fun a=>Ps.pure (f a)
structure Cod (α:Type) where
  w:α→List Nat
  p:Ps α
  ok:α→Prop
structure Cod.Law {α:Type} (c:Cod α):Prop where
  back:∀ a,c.ok a→∀ r,c.p (c.w a++r)=.got a r
  inv:∀ b a r,(∀ y∈b,y < 256)→c.p b=.got a r→c.ok a∧b=c.w a++r
  short:∀ a,c.ok a→∀ t s,c.w a=t++s→s ≠ []→c.p t=.err 6
  byte:∀ a,c.ok a→∀ y∈c.w a,y < 256
def raw (n:Nat):Cod (List Nat):=⟨id,take n,fun l=>l.length=n∧∀ y∈l,y < 256⟩
theorem raw_law (n:Nat):(raw n).Law where
  back a h r:=by
    show take n (a++r)=_;unfold take;rw [if_neg (by rw [List.length_append,h.1];omega),← h.1,List.take_left,List.drop_left]
  inv b a r hb h:=by
    have h:take n b=.got a r:=h;unfold take at h;split at h
    · cases h
    · cases h
      refine ⟨⟨by rw [List.length_take];omega,fun y hy=>hb y (List.mem_of_mem_take hy)⟩,(List.take_append_drop n b).symm⟩
  short a h t s e hs:=by
    show take n t=_;have e:a=t++s:=e;have h1:a.length=t.length+s.length:=(by rw [e,List.length_append]);have h2:0 < s.length:=List.length_pos_iff.2 hs;have h3:=h.1;unfold take;rw [if_pos (by omega)]
  byte a h:=h.2
def Cod.iso {α β:Type} (c:Cod α) (f:α→β) (g:β→α):Cod β:=⟨fun b=>c.w (g b),mapP c.p f,fun b=>c.ok (g b)∧f (g b)=b⟩
theorem Cod.Law.iso {α β:Type} {c:Cod α} (h:c.Law) {f:α→β} {g:β→α} (hgf:∀ a,c.ok a→g (f a)=a):(c.iso f g).Law where
  back b hb r:=by
    show (c.p (c.w (g b)++r)).bind _=_;rw [h.back _ hb.1];show Res.got (f (g b)) r=_;rw [hb.2]
  inv b a r hb e:=by
    have e:(c.p b).bind (fun a=>Ps.pure (f a))=.got a r:=e;cases hp:c.p b with
    | err x=>rw [hp] at e;cases e
    | got x r' =>
      rw [hp] at e;obtain ⟨rfl,rfl⟩:=Res.got.inj e;obtain ⟨h1,h2⟩:=h.inv b x r' hb hp;refine ⟨⟨?_,?_⟩,?_⟩
      · show c.ok (g (f x));rw [hgf x h1];exact h1
      · show f (g (f x))=f x;rw [hgf x h1]
      · show b=c.w (g (f x))++r';rw [hgf x h1];exact h2
  short b hb t s e hs:=by
    show (c.p t).bind _=_;rw [h.short _ hb.1 t s e hs];rfl
  byte b hb:=h.byte _ hb.1
def Cod.test {α:Type} (c:Cod α) (f:α→Bool):Cod α:=⟨c.w,c.p.bind (chk f),fun a=>c.ok a∧f a=true⟩
theorem Cod.Law.test {α:Type} {c:Cod α} (h:c.Law) (f:α→Bool):(c.test f).Law where
  back a ha r:=by
    show (c.p (c.w a++r)).bind (chk f)=_;rw [h.back _ ha.1];show chk f a r=_;unfold chk;rw [if_pos ha.2]
  inv b a r hb e:=by
    have e:(c.p b).bind (chk f)=.got a r:=e;cases hp:c.p b with
    | err x=>rw [hp] at e;cases e
    | got x r' =>
      rw [hp] at e;have e:chk f x r'=.got a r:=e;unfold chk at e;split at e
      · rename_i hx;obtain ⟨rfl,rfl⟩:=Res.got.inj e;obtain ⟨h1,h2⟩:=h.inv b x r' hb hp;exact ⟨⟨h1,hx⟩,h2⟩
      · cases e
  short a ha t s e hs:=by
    show (c.p t).bind _=_;rw [h.short _ ha.1 t s e hs];rfl
  byte a ha:=h.byte _ ha.1
def Cod.seq {α β:Type} (c:Cod α) (d:Cod β):Cod (α × β):=⟨fun x=>c.w x.1++d.w x.2,c.p.bind fun a=>d.p.bind fun b=>Ps.pure (a,b),fun x=>c.ok x.1∧d.ok x.2⟩
theorem q5u {a b t s:List Nat} (e:a++b=t++s):(∃ u,u ≠ []∧a=t++u)∨∃ v,t=a++v∧b=v++s:=by
  rcases Nat.lt_or_ge t.length a.length with h | h
  · left;refine ⟨a.drop t.length,fun x=>?_,?_⟩
    · have:=congrArg List.length x;rw [List.length_drop] at this;simp at this;omega
    · have:t=a.take t.length:=by
        have h2:=congrArg (List.take t.length) e;rw [List.take_append_of_le_length (by omega),List.take_left] at h2;exact h2.symm
      conv=>lhs;rw [← List.take_append_drop t.length a]
      rw [← this]
  · right;refine ⟨t.drop a.length,?_,?_⟩
    · have:a=t.take a.length:=by
        have h2:=congrArg (List.take a.length) e;rw [List.take_append_of_le_length (l₂:=s) h,List.take_left] at h2;exact h2
      conv=>lhs;rw [← List.take_append_drop a.length t]
      rw [← this]
    · have h2:=congrArg (List.drop a.length) e;rw [List.drop_left,List.drop_append_of_le_length h] at h2;exact h2
theorem Cod.Law.seq {α β:Type} {c:Cod α} {d:Cod β} (h:c.Law) (k:d.Law):(c.seq d).Law where
  back x hx r:=by
    show (c.p (c.w x.1++d.w x.2++r)).bind _=_;rw [List.append_assoc,h.back _ hx.1];show (d.p (d.w x.2++r)).bind _=_;rw [k.back _ hx.2];rfl
  inv b x r hb e:=by
    have e:(c.p b).bind (fun a=>d.p.bind fun b=>Ps.pure (a,b))=.got x r:=e;cases hp:c.p b with
    | err y=>rw [hp] at e;cases e
    | got y r' =>
      rw [hp] at e;obtain ⟨h1,h2⟩:=h.inv b y r' hb hp;have e:(d.p r').bind (fun b=>Ps.pure (y,b))=.got x r:=e;cases hq:d.p r' with
      | err z=>rw [hq] at e;cases e
      | got z r'' =>
        rw [hq] at e;obtain ⟨rfl,rfl⟩:=Res.got.inj e;obtain ⟨h3,h4⟩:=k.inv r' z r'' (fun u hu=>hb u (by rw [h2];exact List.mem_append_right _ hu)) hq;exact ⟨⟨h1,h3⟩,by rw [h2,h4];exact (List.append_assoc ..).symm⟩
  short x hx t s e hs:=by
    have e:c.w x.1++d.w x.2=t++s:=e;show (c.p t).bind _=_;rcases q5u e with ⟨u,hu,e1⟩ | ⟨v,rfl,e2⟩
    · rw [h.short _ hx.1 t u e1 hu];rfl
    · rw [h.back _ hx.1];show (d.p v).bind _=_;rw [k.short _ hx.2 v s e2 hs];rfl
  byte x hx y hy:=(List.mem_append.1 hy).elim (h.byte _ hx.1 y) (k.byte _ hx.2 y)
def numC (n:Nat):Cod Nat:=(raw n).iso numN (byN n)
theorem q2v (n:Nat):(numC n).Law:=(raw_law n).iso fun a h=>by rw [← h.1];exact by_num a h.2
theorem q5v {n x:Nat} (h:x < 256 ^ n):(numC n).ok x:=⟨⟨byN_len n x,byN_lt n x⟩,num_by n x h⟩
theorem numC_lt {n x:Nat} (h:(numC n).ok x):x < 256 ^ n:=by
  have:=num_lt _ h.1.2;rw [h.2,h.1.1] at this;exact this
def repW {α:Type} (c:Cod α) (l:List α):List Nat:=l.flatMap c.w
theorem rep_back {α:Type} {c:Cod α} (h:c.Law):∀ (l:List α),(∀ a∈l,c.ok a)→∀ r,rep c.p l.length (repW c l++r)=.got l r
  | [],_,r=>rfl
  | a :: l,hl,r=>by
    show (c.p (c.w a++repW c l++r)).bind _=_;rw [List.append_assoc,h.back _ (hl a (List.mem_cons_self ..))];show (rep c.p l.length (repW c l++r)).bind _=_;rw [rep_back h l fun x hx=>hl x (List.mem_cons_of_mem _ hx)];rfl
theorem rep_inv {α:Type} {c:Cod α} (h:c.Law):∀ (n:Nat) (b:List Nat) (l:List α) (r:List Nat),(∀ y∈b,y < 256)→rep c.p n b=.got l r→l.length=n∧(∀ a∈l,c.ok a)∧b=repW c l++r
  | 0,b,l,r,_,e=>by
    cases e
    exact ⟨rfl,(fun _ h=>by cases h),rfl⟩
  | n+1,b,l,r,hb,e=>by
    have e:(c.p b).bind (fun a=>(rep c.p n).bind fun l=>Ps.pure (a :: l))=.got l r:=e;cases hp:c.p b with
    | err y=>rw [hp] at e;cases e
    | got y r' =>
      rw [hp] at e;obtain ⟨h1,h2⟩:=h.inv b y r' hb hp;have e:(rep c.p n r').bind (fun l=>Ps.pure (y :: l))=.got l r:=e;cases hq:rep c.p n r' with
      | err z=>rw [hq] at e;cases e
      | got z r'' =>
        rw [hq] at e;obtain ⟨rfl,rfl⟩:=Res.got.inj e;obtain ⟨h3,h4,h5⟩:=rep_inv h n r' z r'' (fun u hu=>hb u (by rw [h2];exact List.mem_append_right _ hu)) hq;refine ⟨by rw [List.length_cons,h3],fun a ha=>?_,?_⟩
        · rcases List.mem_cons.1 ha with rfl | ha
          · exact h1
          · exact h4 a ha
        · rw [h2,h5];show _=c.w y++repW c z++r'';rw [List.append_assoc]
theorem rep_short {α:Type} {c:Cod α} (h:c.Law):∀ (l:List α),(∀ a∈l,c.ok a)→∀ t s,repW c l=t++s→s ≠ []→rep c.p l.length t=.err 6
  | [],_,t,s,e,hs=>by
    have e:([]:List Nat)=t++s:=e;exact absurd (List.append_eq_nil_iff.1 e.symm).2 hs
  | a :: l,hl,t,s,e,hs=>by
    have e:c.w a++repW c l=t++s:=e;show (c.p t).bind _=_;have ha:=hl a (List.mem_cons_self ..);rcases q5u e with ⟨u,hu,e1⟩ | ⟨v,rfl,e2⟩
    · rw [h.short _ ha t u e1 hu];rfl
    · rw [h.back _ ha];show (rep c.p l.length v).bind _=_;rw [rep_short h l (fun x hx=>hl x (List.mem_cons_of_mem _ hx)) v s e2 hs];rfl
def lst {α:Type} (c:Cod α):Cod (List α):=⟨fun l=>byN 4 l.length++repW c l,els c.p,fun l=>l.length < 4294967296∧∀ a∈l,c.ok a⟩
theorem lst_law {α:Type} {c:Cod α} (h:c.Law):(lst c).Law where
  back l hl r:=by
    show ((num 4) (byN 4 l.length++repW c l++r)).bind _=_;rw [List.append_assoc,show (num 4) (byN 4 l.length++(repW c l++r))=.got l.length (repW c l++r) from (q2v 4).back _ (q5v (by have:=hl.1;omega)) _];exact rep_back h l hl.2 r
  inv b l r hb e:=by
    have e:((num 4) b).bind (rep c.p)=.got l r:=e;cases hp:(num 4) b with
    | err y=>rw [hp] at e;cases e
    | got n r' =>
      rw [hp] at e;obtain ⟨h1,h2⟩:=(q2v 4).inv b n r' hb hp;obtain ⟨h3,h4,h5⟩:=rep_inv h n r' l r (fun u hu=>hb u (by rw [h2];exact List.mem_append_right _ hu)) e;have h6:=numC_lt h1;refine ⟨⟨by rw [h3];omega,h4⟩,?_⟩;rw [h2,h5];show byN 4 n++_=byN 4 l.length++repW c l++r;rw [h3,List.append_assoc]
  short l hl t s e hs:=by
    have e:byN 4 l.length++repW c l=t++s:=e;show ((num 4) t).bind _=_;have hn:(numC 4).ok l.length:=q5v (by have:=hl.1;omega);rcases q5u e with ⟨u,hu,e1⟩ | ⟨v,rfl,e2⟩
    · rw [show (num 4) t=.err 6 from (q2v 4).short _ hn t u e1 hu];rfl
    · rw [show (num 4) (byN 4 l.length++v)=.got l.length v from (q2v 4).back _ hn v];exact rep_short h l hl.2 v s e2 hs
  byte l hl y hy:=by
    rcases List.mem_append.1 hy with hy | hy
    · exact byN_lt 4 _ y hy
    · obtain ⟨a,ha,hy⟩:=List.mem_flatMap.1 hy;exact h.byte a (hl.2 a ha) y hy
theorem rep_step {α:Type} (p:Ps α) (n:Nat) (b:List Nat):rep p (n+1) b=(p b).bind fun a r=>(rep p n r).bind fun l=>Ps.pure (a :: l):=rfl
structure LP where
  rounds:List (List EE)
  left:EE
  right:EE
  line:List EE
structure Cert where
  q:List Nat
  log:Nat
  root:List Nat
  sR:Nat
  sC:Nat
  sB:Nat
  sT:Nat
  sums:List Nat
  rows:List (List EE)
  ps:List LP
  pz:List LP
  batch:List (List EE)
  v:EE
  orow:List EE
  ornd:List EE
  cols:List (List Nat)
  nodes:List (List Nat)
def byteC:Cod Nat:=numC 1
def wordC:Cod Nat:=(numC 8).test fun x=>decide (x < pr)
def extC:Cod EE:=((numC 8).seq (numC 8)).test fun x=>decide (x.1 < pr) && decide (x.2 < pr)
def roundC:Cod (List EE):=lst extC
def lpT:Cod (List (List EE) × EE × EE × List EE):=(lst roundC).seq (extC.seq (extC.seq roundC))
def lpC:Cod LP:=lpT.iso (fun x=>⟨x.1,x.2.1,x.2.2.1,x.2.2.2⟩) fun x=>(x.rounds,x.left,x.right,x.line)
abbrev T17:=List Nat × Nat × List Nat × Nat × Nat × Nat × Nat × List Nat × List (List EE) × List LP × List LP × List (List EE) × EE × List EE × List EE × List (List Nat) × List (List Nat)
def certT:Cod T17 :=
  (lst byteC).seq ((numC 4).seq ((raw 32).seq ((numC 4).seq ((numC 4).seq ((numC 4).seq ((numC 4).seq ((lst (numC 8)).seq ((lst roundC).seq ((lst lpC).seq ((lst lpC).seq ((lst roundC).seq (extC.seq (roundC.seq (roundC.seq ((lst (lst wordC)).seq (lst (raw 32)))))))))))))))))
def ofT (x:T17):Cert :=
  ⟨x.1,x.2.1,x.2.2.1,x.2.2.2.1,x.2.2.2.2.1,x.2.2.2.2.2.1,x.2.2.2.2.2.2.1,x.2.2.2.2.2.2.2.1,x.2.2.2.2.2.2.2.2.1,x.2.2.2.2.2.2.2.2.2.1,x.2.2.2.2.2.2.2.2.2.2.1,x.2.2.2.2.2.2.2.2.2.2.2.1,x.2.2.2.2.2.2.2.2.2.2.2.2.1,x.2.2.2.2.2.2.2.2.2.2.2.2.2.1,x.2.2.2.2.2.2.2.2.2.2.2.2.2.2.1,x.2.2.2.2.2.2.2.2.2.2.2.2.2.2.2.1,x.2.2.2.2.2.2.2.2.2.2.2.2.2.2.2.2⟩
def toT (c:Cert):T17:=(c.q,c.log,c.root,c.sR,c.sC,c.sB,c.sT,c.sums,c.rows,c.ps,c.pz,c.batch,c.v,c.orow,c.ornd,c.cols,c.nodes)
def certC:Cod Cert:=certT.iso ofT toT
theorem byteC_law:byteC.Law:=q2v 1
theorem wordC_law:wordC.Law:=(q2v 8).test _
theorem q7z:extC.Law:=((q2v 8).seq (q2v 8)).test _
theorem q4f:roundC.Law:=lst_law q7z
theorem lpC_law:lpC.Law:=((lst_law q4f).seq (q7z.seq (q7z.seq q4f))).iso fun _ _=>rfl
theorem certT_law:certT.Law :=
  (lst_law byteC_law).seq ((q2v 4).seq ((raw_law 32).seq ((q2v 4).seq ((q2v 4).seq ((q2v 4).seq ((q2v 4).seq ((lst_law (q2v 8)).seq ((lst_law q4f).seq ((lst_law lpC_law).seq ((lst_law lpC_law).seq ((lst_law q4f).seq (q7z.seq (q4f.seq (q4f.seq ((lst_law (lst_law wordC_law)).seq (lst_law (raw_law 32)))))))))))))))))
theorem q6x:certC.Law:=certT_law.iso fun _ _=>rfl
inductive Ans where
  | err (e:Nat)
  | ok (c:Cert)
def decode (b:List Nat):Ans :=
  if 65536 < b.length then .err 2 else
  match certC.p b with
  | .err e=>.err e
  | .got c r=>if r=[] then .ok c else .err 5
theorem decode_encode {c:Cert} (h:certC.ok c) (hl:(certC.w c).length≤65536):decode (certC.w c)=.ok c:=by
  unfold decode;rw [if_neg (by omega)];have:=q6x.back c h [];rw [List.append_nil] at this;rw [this];rfl
theorem decode_prefix {c:Cert} (h:certC.ok c) (hl:(certC.w c).length≤65536) {n:Nat} (hn:n < (certC.w c).length):decode ((certC.w c).take n)=.err 6:=by
  unfold decode;rw [if_neg (by rw [List.length_take];omega),q6x.short c h _ _ (List.take_append_drop n _).symm (fun e=>by
    have:=congrArg List.length e
    rw [List.length_drop] at this
    simp at this
    omega)]
theorem decode_suffix {c:Cert} (h:certC.ok c) {s:List Nat} (hl:(certC.w c++s).length≤65536) (hs:s ≠ []):decode (certC.w c++s)=.err 5:=by
  unfold decode;rw [if_neg (by omega),q6x.back c h];dsimp only;rw [if_neg hs]
def Only {α:Type} (p:Ps α):Prop:=∀ b e,p b=.err e→e=5∨e=6
theorem q8g (n:Nat):Only (take n):=fun b e h=>by
  unfold take at h;split at h
  · cases h;exact .inr rfl
  · cases h
theorem q5b {α:Type} (a:α):Only (Ps.pure a):=fun b e h=>by cases h
theorem q3d {α β:Type} {p:Ps α} {f:α→Ps β} (h:Only p) (k:∀ a,Only (f a)):Only (p.bind f):=fun b e he=>by
  have he:(p b).bind f=.err e:=he;cases hp:p b with
  | err x=>rw [hp] at he;cases he;exact h b _ hp
  | got x r=>rw [hp] at he;exact k x r e he
theorem only_chk {α:Type} (f:α→Bool) (a:α):Only (chk f a):=fun b e h=>by
  unfold chk at h;split at h
  · cases h
  · cases h;exact .inl rfl
theorem only_rep {α:Type} {p:Ps α} (h:Only p):∀ n,Only (rep p n)
  | 0=>q5b _
  | n+1=>q3d h fun _=>q3d (only_rep h n) fun _=>q5b _
theorem q3j (n:Nat):Only (num n):=q3d (q8g n) fun _=>q5b _
theorem q3k {α:Type} {p:Ps α} (h:Only p):Only (els p):=q3d (q3j 4) (only_rep h)
theorem q1x {α β:Type} {c:Cod α} {d:Cod β} (h:Only c.p) (k:Only d.p):Only (c.seq d).p:=q3d h fun _=>q3d k fun _=>q5b _
theorem q7y:Only extC.p:=q3d (q1x (q3j 8) (q3j 8)) fun _=>only_chk _ _
theorem q4g:Only roundC.p:=q3k q7y
theorem only_lp:Only lpC.p:=q3d (q1x (d:=extC.seq (extC.seq roundC)) (q3k q4g) (q1x q7y (q1x q7y q4g))) fun _=>q5b _
theorem only_word:Only wordC.p:=q3d (q3j 8) fun _=>only_chk _ _
theorem only_cert:Only certC.p :=
  q3d (q1x (c:=lst byteC) (q3k (q3j 1)) (q1x (q3j 4) (q1x (q8g 32) (q1x (q3j 4) (q1x (q3j 4) (q1x (q3j 4) (q1x (q3j 4) (q1x (c:=lst (numC 8)) (q3k (q3j 8)) (q1x (c:=lst roundC) (q3k q4g) (q1x (c:=lst lpC) (q3k only_lp) (q1x (c:=lst lpC) (q3k only_lp) (q1x (c:=lst roundC) (q3k q4g) (q1x q7y (q1x q4g (q1x q4g (q1x (c:=lst (lst wordC)) (q3k (q3k only_word)) (q3k (q8g 32)))))))))))))))))) fun _=>q5b _
end Ce
namespace Go.Proofs.YtadfjnnildflkaaGreatDoor
open Go.RowKit Go.Proofs.K
theorem _root_.Go.Proofs.K.RowN.keep {N:Nat→Prop} {a b:World} {size m:Nat} {v:Value} {xs:List Value} {B g:Nat} {T:TypeId} (h:RowN N a size v m xs) (k:KeepTy B g T a b) (hN:∀ q,N q→q ≠ g∧q < B):RowN N b size v m xs:=by
  obtain ⟨lo,hi,h1,h2⟩:=h;refine ⟨lo,hi,h1,?_⟩;obtain ⟨hl,A,c,rfl,hc,hm,hn⟩:=h2;refine ⟨hl,A,c,rfl,hc,hm,fun h0=>?_⟩;obtain ⟨b0,o,rfl,k1,k2,k3⟩:=hn h0;have hb:=hN b0 (h1 b0 k1 k2);exact ⟨b0,o,rfl,k1,k2,fun j u hu=>k.cell (by dsimp only;exact hb.1) (by dsimp only;exact hb.2) (k3 j u hu)⟩
abbrev Rep (α:Type):=(Nat→Prop)→World→List Value→α→Prop
structure Rep.Ok {α:Type} (R:Rep α):Prop where
  mono:∀ {N N':Nat→Prop} {w:World} {x:List Value} {a:α},R N w x a→(∀ k,N k→N' k)→R N' w x a
  grown:∀ {N:Nat→Prop} {w w':World} {x:List Value} {a:α} {row:Option Nat},R N w x a→w.grownBy w' row→(∀ q,row=some q→¬ N q)→R N w' x a
  keep:∀ {N:Nat→Prop} {w w':World} {x:List Value} {a:α} {B g:Nat} {T:TypeId},R N w x a→KeepTy B g T w w'→(∀ q,N q→q ≠ g∧q < B)→R N w' x a
  tight:∀ {N:Nat→Prop} {w:World} {x:List Value} {a:α},R N w x a→R (fun k=>N k∧k < w.heap.size) w x a
  one:∀ {N:Nat→Prop} {w:World} {x:List Value} {a:α},R N w x a→∀ v∈x,v.oneCell'=true
theorem Rep.Ok.ext {α:Type} {R:Rep α} (h:R.Ok) {N:Nat→Prop} {w w':World} {x:List Value} {a:α} (hr:R N w x a) (E:Ext w w'):R N w' x a:=h.grown hr (E.row none) (fun _ h=>by cases h)
def numR (k:IntKind):Rep Nat:=fun _ _ x a=>x=[.int k (a:Nat)]
theorem q1k (k:IntKind):(numR k).Ok:=⟨fun h _=>h,fun h _ _=>h,fun h _ _=>h,fun h=>h,fun h v hv=>by
  have h:_=[_]:=h
  subst h
  simp at hv
  subst hv
  rfl⟩
def exR:Rep (Nat × Nat):=fun _ _ x p=>x=exC p.1 p.2
theorem q3f:exR.Ok:=⟨fun h _=>h,fun h _ _=>h,fun h _ _=>h,fun h=>h,fun h v hv=>by
  have h:_=exC _ _:=h
  subst h
  exact q4t v hv⟩
def byR (n:Nat):Rep (List Nat):=fun _ _ x l=>x=ints .u8 l∧l.length=n
theorem byR_ok (n:Nat):(byR n).Ok:=⟨fun h _=>h,fun h _ _=>h,fun h _ _=>h,fun h=>h,fun h v hv=>by
  obtain ⟨rfl,_⟩:=h
  exact q4j v hv⟩
def slR {α:Type} (size:Nat) (R:Rep α):Rep (List α):=fun N w x l =>
  ∃ v,x=[v]∧∃ ys:List (List Value),ys.length=l.length∧(∀ y∈ys,y.length=size)∧RowN N w size v l.length ys.flatten∧∀ (i:Nat) (y:List Value) (a:α),ys[i]?=some y→l[i]?=some a→R N w y a
theorem q0x {α:Type} {size:Nat} (hs:0 < size) {R:Rep α} (h:R.Ok):(slR size R).Ok where
  mono:=fun ⟨v,hx,ys,h1,h2,h3,h4⟩ hN=>⟨v,hx,ys,h1,h2,h3.mono hN,fun i y a hy ha=>h.mono (h4 i y a hy ha) hN⟩
  grown:=fun ⟨v,hx,ys,h1,h2,h3,h4⟩ hg hr=>⟨v,hx,ys,h1,h2,h3.grown hg hr,fun i y a hy ha=>h.grown (h4 i y a hy ha) hg hr⟩
  keep:=fun ⟨v,hx,ys,h1,h2,h3,h4⟩ hg hr=>⟨v,hx,ys,h1,h2,h3.keep hg hr,fun i y a hy ha=>h.keep (h4 i y a hy ha) hg hr⟩
  tight:=fun ⟨v,hx,ys,h1,h2,h3,h4⟩=>⟨v,hx,ys,h1,h2,h3.tight hs,fun i y a hy ha=>h.tight (h4 i y a hy ha)⟩
  one:=fun ⟨v,hx,ys,h1,h2,h3,h4⟩ u hu=>by
    subst hx;simp at hu;subst hu;exact h3.cell1
theorem flat_at {size:Nat}:∀ {ys:List (List Value)} (_:∀ y∈ys,y.length=size) {i:Nat} {y:List Value},ys[i]?=some y→∀ {j:Nat},j < size→ys.flatten[i * size+j]?=y[j]?
  | [],_,_,_,h,_,_=>by cases h
  | z :: ys,hl,0,y,h,j,hj=>by
    obtain rfl:z=y:=(by simpa using h);have:=hl z (List.mem_cons_self ..);rw [List.flatten_cons,Nat.zero_mul,Nat.zero_add,List.getElem?_append_left (by omega)]
  | z :: ys,hl,i+1,y,h,j,hj=>by
    have h1:=hl z (List.mem_cons_self ..);have h2:ys[i]?=some y:=(by simpa using h);rw [List.flatten_cons,Nat.succ_mul,List.getElem?_append_right (by omega),show i * size+size+j - z.length=i * size+j by omega];exact flat_at (fun y hy=>hl y (List.mem_cons_of_mem _ hy)) h2 hj
theorem q2h {α:Type} {size:Nat} {R:Rep α} {N:Nat→Prop} {w:World} {v:Value} {l:List α} (h:slR size R N w [v] l) {i:Nat} {a:α} (hi:l[i]?=some a) :
    ∃ b o c y,v=.slice (some ⟨b,o,none⟩) l.length c∧l.length≤c∧c≤maxLen∧y.length=size∧w.rangeAt b (o+i * size) y∧R N w y a:=by
  obtain ⟨v',hv,ys,h1,h2,h3,h4⟩:=h;obtain rfl:v=v':=by simpa using hv
  have hlt:=(List.getElem?_eq_some_iff.1 hi).1;obtain ⟨y,hy⟩:∃ y,ys[i]?=some y:=⟨_,List.getElem?_eq_getElem (by omega)⟩;obtain ⟨b,o,c,rfl,k1,k2,_,k3⟩:=h3.at hlt;have hyl:=h2 y (List.mem_of_getElem? hy);refine ⟨b,o,c,y,rfl,k1,k2,hyl,fun j u hu=>?_,h4 i y a hy hi⟩;have hj:=(List.getElem?_eq_some_iff.1 hu).1;have:=k3 (i * size+j) u (by rw [flat_at h2 hy (by omega)];exact hu);rw [Nat.add_assoc];exact this
theorem q1d {α:Type} {size:Nat} {R:Rep α} {N:Nat→Prop} {w:World} {x:List Value} {l:List α} (h:slR size R N w x l):∃ A c,x=[.slice A l.length c]∧l.length≤c∧c≤maxLen:=by
  obtain ⟨v,rfl,ys,h1,h2,h3,h4⟩:=h;obtain ⟨A,c,rfl,k1,k2⟩:=h3.form;exact ⟨A,c,rfl,k1,k2⟩
theorem q0z {α:Type} {size:Nat} {R:Rep α} {N:Nat→Prop} {w:World}:slR size R N w [.slice none 0 0] [] :=
  ⟨_,rfl,[],rfl,(fun _ h=>by cases h),⟨0,0,fun _ _ h=>absurd h (by omega),Row.nil _ _ _ _⟩,fun _ _ _ h=>by cases h⟩
theorem q9r {k:IntKind} {N:Nat→Prop} {w:World} {v:Value} {l:List Nat} (h:RowN N w 1 v l.length (ints k l)):slR 1 (numR k) N w [v] l:=by
  refine ⟨v,rfl,(ints k l).map fun u=>[u],by rw [List.length_map,q1e],fun y hy=>?_,?_,fun i y a hy ha=>?_⟩
  · obtain ⟨u,_,rfl⟩:=List.mem_map.1 hy;rfl
  · have:((ints k l).map fun u=>[u]).flatten=ints k l:=by
      induction ints k l with
      | nil=>rfl
      | cons a l ih=>rw [List.map_cons,List.flatten_cons,ih];rfl
    rw [this];exact h
  · rw [List.getElem?_map] at hy;obtain ⟨u,hu,rfl⟩:=Option.map_eq_some_iff.1 hy;have hlt:=(List.getElem?_eq_some_iff.1 ha).1;rw [ints_get hlt] at hu;obtain rfl:=Option.some.inj hu;show [_]=[_];rw [List.getD_eq_getElem?_getD,ha];rfl
def lpR:Rep Ce.LP:=fun N w x p=>∃ a b,x=[a,.int .u64 (p.left.1:Nat),.int .u64 (p.left.2:Nat),.int .u64 (p.right.1:Nat),.int .u64 (p.right.2:Nat),b]∧slR 1 (slR 2 exR) N w [a] p.rounds∧slR 2 exR N w [b] p.line
theorem q0w:(slR 2 exR).Ok:=q0x (by decide) q3f
theorem q0y:(slR 1 (slR 2 exR)).Ok:=q0x (by decide) q0w
theorem q5l:lpR.Ok where
  mono:=fun ⟨a,b,hx,h1,h2⟩ hN=>⟨a,b,hx,q0y.mono h1 hN,q0w.mono h2 hN⟩
  grown:=fun ⟨a,b,hx,h1,h2⟩ hg hr=>⟨a,b,hx,q0y.grown h1 hg hr,q0w.grown h2 hg hr⟩
  keep:=fun ⟨a,b,hx,h1,h2⟩ hg hr=>⟨a,b,hx,q0y.keep h1 hg hr,q0w.keep h2 hg hr⟩
  tight:=fun ⟨a,b,hx,h1,h2⟩=>⟨a,b,hx,q0y.tight h1,q0w.tight h2⟩
  one:=fun ⟨a,b,hx,h1,h2⟩ v hv=>by
    subst hx;have ha:=q0y.one h1 a (List.mem_singleton.2 rfl);have hb:=q0w.one h2 b (List.mem_singleton.2 rfl);simp at hv;rcases hv with rfl | rfl | rfl | rfl | rfl | rfl <;> first | rfl | assumption
theorem q1h:(slR 6 lpR).Ok:=q0x (by decide) q5l
theorem q3y:(slR 1 (slR 1 (numR .u64))).Ok:=q0x (by decide) (q0x (by decide) (q1k _))
theorem q3x:(slR 32 (byR 32)).Ok:=q0x (by decide) (byR_ok _)
end Go.Proofs.YtadfjnnildflkaaGreatDoor
namespace Go.Proofs.K
open Go.RowKit
theorem shr_nat (x:Nat) (m:Int) (h:0≤m∧m≤64):(x:Int).fdiv (2 ^ (min m.toNat 64))=((x / 2 ^ m.toNat:Nat):Int):=by
  rw [Nat.min_eq_left (by omega),Int.fdiv_eq_ediv_of_nonneg _ (by exact Int.le_of_lt (Int.pow_pos (by omega)))];simp
theorem u8_nat (x:Nat):IntKind.u8.wrap (x:Int)=((x % 256:Nat):Int):=by rw [IntKind.wrap_u8];omega
theorem u64_nat (x:Nat):IntKind.u64.wrap (x:Int)=((x % 18446744073709551616:Nat):Int):=by rw [IntKind.wrap_u64];omega
def byteAt (x k:Nat):Nat:=x / 256 ^ k % 256
theorem shr_byte (x k:Nat) (hk:k≤7):IntKind.u8.wrap ((x:Int).fdiv (2 ^ min ((8:Int) * (k:Nat)).toNat IntKind.u64.bits))=((byteAt x k:Nat):Int):=by
  have e:IntKind.u64.bits=64:=rfl;rw [e,shr_nat x _ (by omega),u8_nat];have:((8:Int) * (k:Nat)).toNat=8 * k:=by omega
  rw [this,byteAt,show (256:Nat)=2 ^ 8 from rfl,← Nat.pow_mul]
section
variable {R:Nat→World→World→Prop} {P:Program} {n:NN} {ops:Array Oper} {A:Nat→World→Prop} {Fin:List Oper→(Rho→Fr)→(Rho→Nat→World→Prop)→Prop} {rest:List Oper} {k:Nat} {E:List Ent} {g:Rho→Fr} {H:Rho→Nat→World→Prop} {d:Tmp} {op:Op} {t:TypeId} {pos:String} {af:Array Edge}
theorem DW_dr {F:Rho→Value→World→Prop} (hX:∀ r w,A k w→(∀ j,td ops k j=true→H r j w)→∃ v w',X P n ⟨some d,op,t,pos,af,none⟩ (g r) w=.ok (.value v) w'∧R k w w'∧F r v w') (hF:∀ i r v w w',i ≠ k→td ops k i=false→R i w w'→F r v w→F r v w')
    (hi:∀ r v,F (rset r k v)=F r)
    (hr:DW R P n ops A Fin rest (k+1) E (fun r=>upd (g r) d (r k)) (fun r j w=>bif Nat.beq j k then F r (r k) w else H r j w)):DW R P n ops A Fin (⟨some d,op,t,pos,af,none⟩ :: rest) k (.op (fun r w=>F r (r k) w) :: E) g H:=by
  refine .op (fun r w hA hH=>⟨rfl,?_⟩) (fun i r w w' h1 h2 hE h=>hF i _ _ _ _ h1 h2 hE h) hr;obtain ⟨v,w',h1,h2,h3⟩:=hX r w hA hH;exact q6l h1 ⟨h2,by rw [q4i,hi];exact h3⟩
theorem DW_app {w0:World} {bl:Option Nat} {size bytes m q base:Nat} {ty e:TypeId} {v:Value} {xs ys:List Value} {x y:Operand} {kx:Nat} [TSlice P ty e] [hz:TElem P e size bytes]
    (hx:∀ r,ev n (g r) x=v) (hy:∀ r,ev n (g r) y=r kx) (hk:td ops k kx=true) (hbl:v.ownBlock=bl) (hA:∀ w,A k w→w.ownsRow base e size v m xs∧base≤w.heap.size) (hrow:∀ r w,H r kx w→RowF w0 size (r kx) q ys w)
    (h1:∀ q∈ys,q.oneCell'=true) (hb:(m+q) * bytes≤140737488355328) (hm:m+q≤9223372036854775807)
    (hr:DW (RA k bl e size m) P n ops A Fin rest (k+1) E (fun r=>upd (g r) d (r k)) (fun r j w=>bif Nat.beq j k then w.ownsRow base e size (r k) (m+q) (xs++ys) else H r j w)) :
    DW (RA k bl e size m) P n ops A Fin (⟨some d,.call ⟨.builtin .append,#[x,y],#[ty,ty]⟩,t,pos,af,none⟩ :: rest) k (.op (fun r w=>w.ownsRow base e size (r k) (m+q) (xs++ys)) :: E) g H:=by
  obtain ⟨z,h0,hzs,hsz⟩:=hz.h;haveI:TInfo P e size bytes z:=⟨h0⟩;refine DW_dr (F:=fun _ u w=>w.ownsRow base e size u (m+q) (xs++ys)) ?_ ?_ (fun _ _=>rfl) hr
  · intro r w hAw hH;obtain ⟨lo,hi,_,hR⟩:=hrow r w (hH kx hk);obtain ⟨ho,hbs⟩:=hA w hAw;obtain ⟨v',w',hX,h2,h3,_,h5⟩:=q8e (P:=P) (ty:=t) (t:=ty) hzs hsz ho hR h1 hb hm hbs;exact ⟨v',w',X_of_run (hx r) (hy r) hX,.inr ⟨rfl,hbl ▸ h3,h5⟩,h2⟩
  · exact fun i r u w w' hi _ hR hF=>q2x hF (hR.other hi)
end
end Go.Proofs.K
namespace Go.Proofs.YtadfjnnildflkaaGreatDoor
open Go.RowKit Go.Proofs.K
structure EncAt (B p:Nat) (w:World) (l:List Nat):Prop where
  h:∃ v,Blk w p 72 [v]∧w.ownsRow B 5 1 v l.length (ints .u8 l)
structure EncK (B p:Nat) (w w':World):Prop where
  k:KeepTy B p 5 w w'
  e:∀ w0,Ext w0 w→w0.heap.size≤p→w0.heap.size≤B→Ext w0 w'
theorem EncK.refl (B p:Nat) (w:World):EncK B p w w:=⟨KeepTy.refl w,fun _ E _ _=>E⟩
theorem EncK.of_ext {B p:Nat} {w w':World} (E:Ext w w'):EncK B p w w':=⟨KeepTy.of_ext E,fun _ F _ _=>F.trans E⟩
theorem EncK.trans {B p:Nat} {a b c:World} (h:EncK B p a b) (k:EncK B p b c):EncK B p a c:=⟨h.k.trans k.k,fun w0 E h1 h2=>k.e w0 (h.e w0 E h1 h2) h1 h2⟩
theorem EncK.own {B p m:Nat} {v:Value} {xs:List Value} {w w':World} (ho:w.ownsRow B 5 1 v m xs) (G:w.grownBy w' v.ownBlock):EncK B p w w' :=
  ⟨KeepTy.of_grown G fun q hq=>.inr (q7h ho q hq),fun w0 E _ h2=>E.then G fun q hq=>Nat.le_trans h2 (q7h ho q hq).1⟩
theorem EncK.set {B p:Nat} {w w':World} (G:w.grownBy w' (some p)):EncK B p w w' :=
  ⟨KeepTy.of_grown G fun q hq=>.inl (Option.some.inj hq).symm,fun w0 E h1 _=>E.then G fun q hq=>by cases hq;exact h1⟩
theorem q6k {w:World} {lo hi size m:Nat} {v:Value} {xs:List Value} (h:Row w lo hi size v m xs):v.oneCell'=true:=by obtain ⟨_,_,_,rfl,_⟩:=h;rfl
theorem q9a {B p m:Nat} {v u:Value} {xs:List Value} {w:World} (ho:w.ownsRow B 5 1 v m xs) (hb:Blk w p 72 [u]):∀ q,v.ownBlock=some q→q ≠ p:=by
  rintro q hq rfl;obtain ⟨_,cs,fz,h⟩:=q7h ho q hq;have h':w.heap[q]?=some (.cells _ _ _):=hb;rw [h] at h';cases h'
theorem byN_snoc (n x:Nat):Ce.byN (n+1) x=Ce.byN n x++[x / 256 ^ n % 256]:=by
  unfold Ce.byN;rw [List.range_succ,List.map_append];rfl
set_option maxHeartbeats 1000000 in
theorem gfixed (B p n x:Nat) (l:List Nat) (w:World) (hx:x < 18446744073709551616) (hn:n≤8) (hl:l.length≤100000000) (hB:B≤w.heap.size) (he:EncAt B p w l) :
    Calls Tryz.prog 45 #[.pointer (some ⟨p,0,none⟩),.int .u64 (x:Nat),.int .i64 (n:Nat)] w fun e w'=>e=.returned (.tuple #[])∧EncAt B p w' (l++Ce.byN n x)∧EncK B p w w':=by
  refine q0j Tryz.func45 rfl Tryz.ntmps45 rfl ?_;(refine q0b<|q0a<|m_I rfl<|m_I rfl<|q0c<|tn<|q0l ?_);refine q1p (fun q f w'=>∃ k,q=n - k∧k≤n∧f 0=.pointer (some ⟨p,0,none⟩)∧f 1=.int .u64 (x:Nat)∧f 7=.int .i64 (n:Nat)∧f 8=.int .i64 (k:Nat)∧B≤w'.heap.size∧EncAt B p w' (l++Ce.byN k x)∧EncK B p w w') n ?_ ?_
  · exact ⟨0,rfl,by omega,rfl,rfl,rfl,rfl,hB,by rw [show Ce.byN 0 x=[] from rfl,List.append_nil];exact he,EncK.refl _ _ _⟩
  · rintro q f w1 ⟨k,hq,hk,f0,f1,f7,f8,hB1,⟨v,bv,ov⟩,hK⟩;rw [fold f0,fold f1,fold f7,fold f8];have hne:=q9a ov bv;(refine q0b<|q0a<|Ls (q2u rfl rfl)<|q0c<|tn<|q0b ?_);refine q1j rfl (fun h=>?_) (fun h=>?_)
    · have hk7:k≤7:=(by omega);have hlen:(l++Ce.byN k x).length+1≤100000100:=(by rw [List.length_append,Ce.byN_len];omega);(refine q0p<|tn<|q0b<|q0l<|q0b<|q0a<|m_I rfl<|a_I rfl<|q0c<|tn ?_);obtain ⟨xs,hxs⟩:∃ xs,xs=l++Ce.byN k x:=⟨_,rfl⟩;rw [← hxs] at ov hlen;have hv1:=q6k (Row.of_own ov);have BA:∀ {u:World},AA w1 v.ownBlock B 5 1 v xs.length (ints .u8 xs) u→Blk u p 72 [v]:=fun hA=>bv.grown hA.g (fun h=>hne _ h rfl);apply W_dagR (R:=RA 11 v.ownBlock 5 1 xs.length) (AA w1 v.ownBlock B 5 1 v xs.length (ints .u8 xs)) 12 (by kernel_rfl) (RA.refl _ _ _ _ _) (AA.new ov) AA.step;(apply DW_x (fun r w hA hH=>(q0e (v:=.pointer _) rfl).trans rfl);apply DW_x (fun r w hA hH=>(q0e (v:=.pointer _) rfl).trans rfl);apply DW_x (fun r w hA hH=>(q1r rfl).trans rfl);apply DW_x (fun r w hA hH=>(q0h rfl).trans rfl);apply DW_x (fun r w hA hH=>(X_ld rfl (BA hA) rfl).trans rfl);apply DW_x (fun r w hA hH=>(q0e (v:=.int _ _) rfl).trans rfl);apply DW_x (fun r w hA hH=>(q0e (v:=.int _ _) rfl).trans rfl);apply DW_x (fun r w hA hH=>(X_muli rfl rfl (by omega)).trans rfl);apply DW_x (fun r w hA hH=>(X_shr rfl rfl (by omega)).trans rfl);apply DW_x (fun r w hA hH=>((q6h rfl).trans (by rw [shr_byte x k hk7])).trans rfl));have hgl:∀ q,v.ownBlock=some q→q < w1.heap.size:=fun q hq=>by
        obtain ⟨_,cs,fz,h⟩:=q7h ov q hq;exact (Array.getElem?_eq_some_iff.1 h).1
      with_reducible apply DW_d (F:=fun _ u w'=>RowF w1 1 u 1 (ints .u8 [byteAt x k]) w')
      exact fun r u hA hH=>⟨_,_,X_lit1 rfl rfl,q1f _ _,RowF.lit u _ _ hA.g.size 1 rfl (by unfold maxLen;omega)⟩;exact fun i r u a b hi _ hR ⟨lo,hi,e1,e2⟩=>⟨lo,hi,e1,e2.grown hR.grown fun q hq=>.inl (Nat.lt_of_lt_of_le (hgl q hq) e1)⟩;exact fun r u=>rfl;with_reducible apply DW_app (w0:=w1) (v:=v) (kx:=10) (q:=1) (size:=1) (bytes:=1) (m:=xs.length) (base:=B) (xs:=ints .u8 xs) (ys:=ints .u8 [byteAt x k])
      exact fun r=>rfl;exact fun r=>rfl;kernel_rfl;rfl;exact fun u hA=>⟨hA.o,Nat.le_trans hB1 hA.g.size⟩;exact fun r u h=>h;exact fun q hq=>(by rw [List.mem_singleton.1 hq];rfl);omega;omega;((with_reducible exact q2n);(exact rfl);(repeat (first | exact .inr (.inr (fun _ _=>by with_reducible rfl)) | (refine And.intro ?_ ?_) | exact .inr (.inl rfl) | exact .inl (by decide +kernel) | exact trivial | exact .inr (.inr (fun _ _=>rfl))));(try dsimp only [Nat.reduceAdd]));intro r w2 hA H;have o2:w2.ownsRow B 5 1 (r 11) (xs.length+1) (ints .u8 xs++ints .u8 [byteAt x k]):=H 11;have b2:=BA hA;have hB2:=hA.g.size;have hK2:EncK B p w w2:=hK.trans (EncK.own ov hA.g);generalize r 11=v2 at *;have hv2:=q6k (Row.of_own o2);(refine Ls (q1r rfl)<|Ls (q0h rfl) ?_);refine q1b (v:=v2) rfl rfl hv2 b2 (by simp) ?_;intro w3 b3 hg3 _;have hne2:=q9a o2 b2;have o3:=q6n o2 hg3 fun q hq e=>hne2 q hq (Option.some.inj e).symm;(refine q0c<|bn<|tn<|q0a<|Ls (q1q rfl rfl (by omega))<|m_I rfl<|q0c<|tn ?_);refine ⟨n - (k+1),by omega,k+1,rfl,by omega,rfl,rfl,rfl,rfl,Nat.le_trans (Nat.le_trans hB1 hB2) hg3.size,⟨v2,b3,?_⟩,hK2.trans (EncK.set hg3)⟩;rw [byN_snoc,← List.append_assoc,← hxs,q6r,List.length_append];exact o3
    · have hk8:k=n:=(by omega);subst hk8;(refine q1l<|te<|te<|bx ?_);refine q1m rfl rfl ?_;exact ⟨rfl,⟨v,bv,ov⟩,hK⟩
end Go.Proofs.YtadfjnnildflkaaGreatDoor
namespace Go.Proofs.YtadfjnnildflkaaGreatDoor
open Go.Proofs.K
instance:TFun Tryz.prog 5:=q0u Tryz.func5 (by kernel_rfl) (by kernel_rfl)
instance:TFun Tryz.prog 6:=q0u Tryz.func6 (by kernel_rfl) (by kernel_rfl)
instance:TFun Tryz.prog 7:=q0u Tryz.func7 (by kernel_rfl) (by kernel_rfl)
instance:TFun Tryz.prog 8:=q0u Tryz.func8 (by kernel_rfl) (by kernel_rfl)
instance:TFun Tryz.prog 9:=q0u Tryz.func9 (by kernel_rfl) (by kernel_rfl)
instance:TFun Tryz.prog 10:=q0u Tryz.func10 (by kernel_rfl) (by kernel_rfl)
instance:TFun Tryz.prog 11:=q0u Tryz.func11 (by kernel_rfl) (by kernel_rfl)
instance:TFun Tryz.prog 12:=q0u Tryz.func12 (by kernel_rfl) (by kernel_rfl)
instance:TFun Tryz.prog 13:=q0u Tryz.func13 (by kernel_rfl) (by kernel_rfl)
instance:TFun Tryz.prog 14:=q0u Tryz.func14 (by kernel_rfl) (by kernel_rfl)
instance:TFun Tryz.prog 15:=q0u Tryz.func15 (by kernel_rfl) (by kernel_rfl)
instance:TFun Tryz.prog 16:=q0u Tryz.func16 (by kernel_rfl) (by kernel_rfl)
instance:TFun Tryz.prog 17:=q0u Tryz.func17 (by kernel_rfl) (by kernel_rfl)
instance:TFun Tryz.prog 18:=q0u Tryz.func18 (by kernel_rfl) (by kernel_rfl)
instance:TFun Tryz.prog 19:=q0u Tryz.func19 (by kernel_rfl) (by kernel_rfl)
instance:TFun Tryz.prog 20:=q0u Tryz.func20 (by kernel_rfl) (by kernel_rfl)
instance:TFun Tryz.prog 21:=q0u Tryz.func21 (by kernel_rfl) (by kernel_rfl)
instance:TFun Tryz.prog 22:=q0u Tryz.func22 (by kernel_rfl) (by kernel_rfl)
instance:TFun Tryz.prog 23:=q0u Tryz.func23 (by kernel_rfl) (by kernel_rfl)
instance:TFun Tryz.prog 24:=q0u Tryz.func24 (by kernel_rfl) (by kernel_rfl)
instance:TFun Tryz.prog 25:=q0u Tryz.func25 (by kernel_rfl) (by kernel_rfl)
instance:TFun Tryz.prog 26:=q0u Tryz.func26 (by kernel_rfl) (by kernel_rfl)
instance:TFun Tryz.prog 27:=q0u Tryz.func27 (by kernel_rfl) (by kernel_rfl)
instance:TFun Tryz.prog 28:=q0u Tryz.func28 (by kernel_rfl) (by kernel_rfl)
instance:TFun Tryz.prog 29:=q0u Tryz.func29 (by kernel_rfl) (by kernel_rfl)
instance:TFun Tryz.prog 30:=q0u Tryz.func30 (by kernel_rfl) (by kernel_rfl)
instance:TFun Tryz.prog 31:=q0u Tryz.func31 (by kernel_rfl) (by kernel_rfl)
instance:TFun Tryz.prog 32:=q0u Tryz.func32 (by kernel_rfl) (by kernel_rfl)
instance:TFun Tryz.prog 33:=q0u Tryz.func33 (by kernel_rfl) (by kernel_rfl)
instance:TFun Tryz.prog 34:=q0u Tryz.func34 (by kernel_rfl) (by kernel_rfl)
instance:TFun Tryz.prog 35:=q0u Tryz.func35 (by kernel_rfl) (by kernel_rfl)
instance:TFun Tryz.prog 36:=q0u Tryz.func36 (by kernel_rfl) (by kernel_rfl)
instance:TFun Tryz.prog 37:=q0u Tryz.func37 (by kernel_rfl) (by kernel_rfl)
instance:TFun Tryz.prog 38:=q0u Tryz.func38 (by kernel_rfl) (by kernel_rfl)
instance:TFun Tryz.prog 39:=q0u Tryz.func39 (by kernel_rfl) (by kernel_rfl)
instance:TFun Tryz.prog 40:=q0u Tryz.func40 (by kernel_rfl) (by kernel_rfl)
instance:TFun Tryz.prog 41:=q0u Tryz.func41 (by kernel_rfl) (by kernel_rfl)
instance:TFun Tryz.prog 42:=q0u Tryz.func42 (by kernel_rfl) (by kernel_rfl)
instance:TFun Tryz.prog 43:=q0u Tryz.func43 (by kernel_rfl) (by kernel_rfl)
instance:TFun Tryz.prog 44:=q0u Tryz.func44 (by kernel_rfl) (by kernel_rfl)
instance:TFun Tryz.prog 45:=q0u Tryz.func45 (by kernel_rfl) (by kernel_rfl)
instance:TFun Tryz.prog 46:=q0u Tryz.func46 (by kernel_rfl) (by kernel_rfl)
instance:TFun Tryz.prog 47:=q0u Tryz.func47 (by kernel_rfl) (by kernel_rfl)
instance:TFun Tryz.prog 48:=q0u Tryz.func48 (by kernel_rfl) (by kernel_rfl)
instance:TFun Tryz.prog 49:=q0u Tryz.func49 (by kernel_rfl) (by kernel_rfl)
instance:TFun Tryz.prog 50:=q0u Tryz.func50 (by kernel_rfl) (by kernel_rfl)
instance:TFun Tryz.prog 51:=q0u Tryz.func51 (by kernel_rfl) (by kernel_rfl)
instance:TFun Tryz.prog 52:=q0u Tryz.func52 (by kernel_rfl) (by kernel_rfl)
instance:TFun Tryz.prog 53:=q0u Tryz.func53 (by kernel_rfl) (by kernel_rfl)
instance:TFun Tryz.prog 54:=q0u Tryz.func54 (by kernel_rfl) (by kernel_rfl)
instance:TFun Tryz.prog 55:=q0u Tryz.func55 (by kernel_rfl) (by kernel_rfl)
instance:TFun Tryz.prog 56:=q0u Tryz.func56 (by kernel_rfl) (by kernel_rfl)
instance:TFun Tryz.prog 57:=q0u Tryz.func57 (by kernel_rfl) (by kernel_rfl)
instance:TFun Tryz.prog 58:=q0u Tryz.func58 (by kernel_rfl) (by kernel_rfl)
instance:TFun Tryz.prog 59:=q0u Tryz.func59 (by kernel_rfl) (by kernel_rfl)
instance:TFun Tryz.prog 60:=q0u Tryz.func60 (by kernel_rfl) (by kernel_rfl)
instance:TFun Tryz.prog 61:=q0u Tryz.func61 (by kernel_rfl) (by kernel_rfl)
instance:TFun Tryz.prog 62:=q0u Tryz.func62 (by kernel_rfl) (by kernel_rfl)
instance:TFun Tryz.prog 63:=q0u Tryz.func63 (by kernel_rfl) (by kernel_rfl)
instance:TFun Tryz.prog 64:=q0u Tryz.func64 (by kernel_rfl) (by kernel_rfl)
instance:TFun Tryz.prog 65:=q0u Tryz.func65 (by kernel_rfl) (by kernel_rfl)
instance:TFun Tryz.prog 70:=q0u Tryz.func70 (by kernel_rfl) (by kernel_rfl)
instance:TFun Tryz.prog 71:=q0u Tryz.func71 (by kernel_rfl) (by kernel_rfl)
instance:TFun Tryz.prog 83:=q0u Tryz.func83 (by kernel_rfl) (by kernel_rfl)
instance:TFun Tryz.prog 84:=q0u Tryz.func84 (by kernel_rfl) (by kernel_rfl)
instance:TFun Tryz.prog 85:=q0u Tryz.func85 (by kernel_rfl) (by kernel_rfl)
instance:TFun Tryz.prog 86:=q0u Tryz.func86 (by kernel_rfl) (by kernel_rfl)
instance:TFun Tryz.prog 87:=q0u Tryz.func87 (by kernel_rfl) (by kernel_rfl)
instance:TFun Tryz.prog 98:=q0u Tryz.func98 (by kernel_rfl) (by kernel_rfl)
instance:TFun Tryz.prog 99:=q0u Tryz.func99 (by kernel_rfl) (by kernel_rfl)
instance:TFun Tryz.prog 100:=q0u Tryz.func100 (by kernel_rfl) (by kernel_rfl)
instance:TFun Tryz.prog 101:=q0u Tryz.func101 (by kernel_rfl) (by kernel_rfl)
instance:TFun Tryz.prog 102:=q0u Tryz.func102 (by kernel_rfl) (by kernel_rfl)
instance:TFun Tryz.prog 103:=q0u Tryz.func103 (by kernel_rfl) (by kernel_rfl)
instance:TFun Tryz.prog 119:=q0u Tryz.func119 (by kernel_rfl) (by kernel_rfl)
instance:TFun Tryz.prog 120:=q0u Tryz.func120 (by kernel_rfl) (by kernel_rfl)
instance:TFun Tryz.prog 154:=q0u Tryz.func154 (by kernel_rfl) (by kernel_rfl)
instance:TFun Tryz.prog 155:=q0u Tryz.func155 (by kernel_rfl) (by kernel_rfl)
instance:TFun Tryz.prog 156:=q0u Tryz.func156 (by kernel_rfl) (by kernel_rfl)
instance:TFun Tryz.prog 157:=q0u Tryz.func157 (by kernel_rfl) (by kernel_rfl)
instance:TFun Tryz.prog 158:=q0u Tryz.func158 (by kernel_rfl) (by kernel_rfl)
instance:TFun Tryz.prog 159:=q0u Tryz.func159 (by kernel_rfl) (by kernel_rfl)
instance:TFun Tryz.prog 160:=q0u Tryz.func160 (by kernel_rfl) (by kernel_rfl)
instance:TFun Tryz.prog 161:=q0u Tryz.func161 (by kernel_rfl) (by kernel_rfl)
instance:TFun Tryz.prog 162:=q0u Tryz.func162 (by kernel_rfl) (by kernel_rfl)
instance:TFun Tryz.prog 163:=q0u Tryz.func163 (by kernel_rfl) (by kernel_rfl)
instance:TFun Tryz.prog 164:=q0u Tryz.func164 (by kernel_rfl) (by kernel_rfl)
instance:TFun Tryz.prog 165:=q0u Tryz.func165 (by kernel_rfl) (by kernel_rfl)
instance:TFun Tryz.prog 166:=q0u Tryz.func166 (by kernel_rfl) (by kernel_rfl)
instance:TFun Tryz.prog 167:=q0u Tryz.func167 (by kernel_rfl) (by kernel_rfl)
instance:TFun Tryz.prog 168:=q0u Tryz.func168 (by kernel_rfl) (by kernel_rfl)
instance:TFun Tryz.prog 260:=q0u Tryz.func260 (by kernel_rfl) (by kernel_rfl)
instance:TFun Tryz.prog 261:=q0u Tryz.func261 (by kernel_rfl) (by kernel_rfl)
instance:TFun Tryz.prog 264:=q0u Tryz.func264 (by kernel_rfl) (by kernel_rfl)
instance:TFun Tryz.prog 265:=q0u Tryz.func265 (by kernel_rfl) (by kernel_rfl)
instance:TFun Tryz.prog 266:=q0u Tryz.func266 (by kernel_rfl) (by kernel_rfl)
instance:TFun Tryz.prog 267:=q0u Tryz.func267 (by kernel_rfl) (by kernel_rfl)
instance:TFun Tryz.prog 268:=q0u Tryz.func268 (by kernel_rfl) (by kernel_rfl)
instance:TFun Tryz.prog 269:=q0u Tryz.func269 (by kernel_rfl) (by kernel_rfl)
instance:TFun Tryz.prog 336:=q0u Tryz.func336 (by kernel_rfl) (by kernel_rfl)
instance:TFun Tryz.prog 337:=q0u Tryz.func337 (by kernel_rfl) (by kernel_rfl)
instance:TFun Tryz.prog 338:=q0u Tryz.func338 (by kernel_rfl) (by kernel_rfl)
instance:TFun Tryz.prog 341:=q0u Tryz.func341 (by kernel_rfl) (by kernel_rfl)
instance:TFun Tryz.prog 403:=q0u Tryz.func403 (by kernel_rfl) (by kernel_rfl)
instance:TFun Tryz.prog 404:=q0u Tryz.func404 (by kernel_rfl) (by kernel_rfl)
end Go.Proofs.YtadfjnnildflkaaGreatDoor
namespace Go.Proofs.YtadfjnnildflkaaGreatDoor
open Go.RowKit Go.Proofs.K
def EncR (B p:Nat) (l bs:List Nat) (w:World) (e:Ending) (w':World):Prop:=e=.returned (.tuple #[])∧EncAt B p w' (l++bs)∧EncK B p w w'
set_option maxHeartbeats 1000000 in
theorem gint (B p x:Nat) (l:List Nat) (w:World) (hx:x < 4294967296) (hl:l.length≤100000000) (hB:B≤w.heap.size) (he:EncAt B p w l) :
    Calls Tryz.prog 21 #[.pointer (some ⟨p,0,none⟩),.int .i64 (x:Nat)] w (EncR B p l (Ce.byN 4 x) w):=by
  refine q0j Tryz.func21 rfl Tryz.ntmps21 rfl ?_;(refine q0a<|m_P rfl<|m_I rfl<|Ls ((q6h rfl).trans (by rw [u64_nat,Nat.mod_eq_of_lt (show x < 18446744073709551616 by omega)])) ?_);refine L_fn (gfixed B p 4 x l w (by omega) (by omega) hl hB he) rfl ?_;rintro e w2 ⟨rfl,h2,k2⟩;refine ⟨_,rfl,?_⟩;(refine q0c ?_);refine q1m rfl rfl ?_;exact ⟨rfl,h2,k2⟩
set_option maxHeartbeats 1000000 in
theorem gword (B p x:Nat) (l:List Nat) (w:World) (hx:x < 18446744073709551616) (hl:l.length≤100000000) (hB:B≤w.heap.size) (he:EncAt B p w l) :
    Calls Tryz.prog 46 #[.pointer (some ⟨p,0,none⟩),.int .u64 (x:Nat)] w (EncR B p l (Ce.byN 8 x) w):=by
  refine q0j Tryz.func46 rfl Tryz.ntmps46 rfl ?_;(refine q0a<|m_P rfl<|m_I rfl ?_);refine L_fn (gfixed B p 8 x l w (by omega) (by omega) hl hB he) rfl ?_;rintro e w2 ⟨rfl,h2,k2⟩;refine ⟨_,rfl,?_⟩;(refine q0c ?_);refine q1m rfl rfl ?_;exact ⟨rfl,h2,k2⟩
def u64v (x:Int):Nat:=(x % 18446744073709551616).toNat
theorem u64v_lt (x:Int):u64v x < 18446744073709551616:=by unfold u64v;omega
theorem u64v_wrap (x:Int):IntKind.u64.wrap x=((u64v x:Nat):Int):=by
  unfold u64v;rw [IntKind.wrap_u64];omega
set_option maxHeartbeats 1000000 in
theorem gsum (B p:Nat) (x:Int) (l:List Nat) (w:World) (hl:l.length≤100000000) (hB:B≤w.heap.size) (he:EncAt B p w l) :
    Calls Tryz.prog 24 #[.pointer (some ⟨p,0,none⟩),.int .i64 x] w (EncR B p l (Ce.byN 8 (u64v x)) w):=by
  refine q0j Tryz.func24 rfl Tryz.ntmps24 rfl ?_;(refine q0a<|m_P rfl<|m_I rfl<|Ls ((q6h rfl).trans (by rw [u64v_wrap])) ?_);refine L_fn (gfixed B p 8 (u64v x) l w (u64v_lt x) (by omega) hl hB he) rfl ?_;rintro e w2 ⟨rfl,h2,k2⟩;refine ⟨_,rfl,?_⟩;(refine q0c ?_);refine q1m rfl rfl ?_;exact ⟨rfl,h2,k2⟩
theorem EncAt.ext {B p:Nat} {l:List Nat} {w w':World} (h:EncAt B p w l) (E:Ext w w'):EncAt B p w' l:=by
  obtain ⟨v,b,o⟩:=h;exact ⟨v,b.ext E,q2x o E⟩
theorem EncAt.lt {B p:Nat} {l:List Nat} {w:World} (h:EncAt B p w l):p < w.heap.size:=by
  obtain ⟨v,b,o⟩:=h;exact q1y b
set_option maxHeartbeats 1000000 in
theorem gext (B p x y:Nat) (l:List Nat) (w:World) (hx:x < 18446744073709551616) (hy:y < 18446744073709551616) (hl:l.length≤99999992) (hB:B≤w.heap.size) (he:EncAt B p w l) :
    Calls Tryz.prog 29 #[.pointer (some ⟨p,0,none⟩),.agg (exC x y).toArray] w (EncR B p l (Ce.byN 8 x++Ce.byN 8 y) w):=by
  refine q0j Tryz.func29 rfl Tryz.ntmps29 rfl ?_;have hp:=he.lt;(refine q0b<|q0a ?_);refine q3r (l:=exC x y) rfl ?_;intro g2 w2 B2 hg2 E2 hs2;(refine q0c<|tn<|q0b<|q0a<|m_P rfl<|Ls (q0h rfl)<|Ls (X_ld rfl B2 rfl) ?_);refine L_fn (gword B p x l w2 hx (by omega) (Nat.le_trans hB E2.size) (he.ext E2)) rfl ?_;rintro e w3 ⟨rfl,h3,k3⟩;refine ⟨_,rfl,?_⟩;have B3:=k3.k.blk B2 (by omega) (.inr (by decide));have hl3:(l++Ce.byN 8 x).length≤100000000:=by rw [List.length_append,Ce.byN_len];omega
  (refine q0c<|tn<|q0a<|m_P rfl<|Ls (q0h rfl)<|Ls (X_ld rfl B3 rfl) ?_);refine L_fn (gword B p y (l++Ce.byN 8 x) w3 hy hl3 (Nat.le_trans (Nat.le_trans hB E2.size) k3.k.size) h3) rfl ?_;rintro e w4 ⟨rfl,h4,k4⟩;refine ⟨_,rfl,?_⟩;(refine q0c ?_);refine q1m rfl rfl ?_;refine ⟨rfl,?_,(EncK.of_ext E2).trans (k3.trans k4)⟩;rw [← List.append_assoc];exact h4
set_option maxHeartbeats 1000000 in
theorem gbyte (B p x:Nat) (l:List Nat) (w:World) (hl:l.length≤100000000) (hB:B≤w.heap.size) (he:EncAt B p w l) :
    Calls Tryz.prog 20 #[.pointer (some ⟨p,0,none⟩),.int .u8 (x:Nat)] w (EncR B p l [x] w):=by
  refine q0j Tryz.func20 rfl Tryz.ntmps20 rfl ?_;obtain ⟨v,bv,ov⟩:=he;have hv1:=q6k (Row.of_own ov);(refine q0a<|m_P rfl<|m_P rfl<|Ls (q1r rfl)<|Ls (q0h rfl)<|Ls (X_ld rfl bv rfl)<|m_I rfl ?_);refine q6i (v:=.int .u8 _) rfl rfl ?_;intro u2 w2 r2 E2 hs2 _;refine q2d (v:=v) (u:=u2) rfl rfl (q2x ov E2) r2 (fun q hq=>by rw [List.mem_singleton.1 hq];rfl) (by omega) (by omega) (by have:=E2.size;omega) ?_;intro v3 w3 o3 hg3 _;have o2:=q2x ov E2;have b3:=(bv.ext E2).grown hg3 fun h=>q9a o2 (bv.ext E2) _ h rfl;have hv3:=q6k (Row.of_own o3);(refine Ls (q1r rfl)<|Ls (q0h rfl) ?_);refine q1b (v:=v3) rfl rfl hv3 b3 (by simp) ?_;intro w4 b4 hg4 _;have hne:=q9a o3 b3;have o4:=q6n o3 hg4 fun q hq e=>hne q hq (Option.some.inj e).symm;(refine q0c ?_);refine q1m rfl rfl ?_;refine ⟨rfl,⟨v3,b4,?_⟩,(EncK.of_ext E2).trans ((EncK.own o2 hg3).trans (EncK.set hg4))⟩;rw [q6r,List.length_append];exact o4
def Far (N:Nat→Prop) (B p:Nat):Prop:=∀ q,N q→q ≠ p∧q < B
def q6d (id:FuncId) (first cap:Array Value) (B p:Nat) (N:Nat→Prop) {α:Type} (R:Rep α) (arg:List Value→Value) (bs:α→List Nat) (l:List α) (w0:World):Prop :=
  ∀ (i:Nat) (a:α),l[i]?=some a→∀ (w:World) (x:List Value) (l0:List Nat),EncK B p w0 w→R N w x a→l0.length+(bs a).length≤99999000→B≤w.heap.size→EncAt B p w l0→Calls Tryz.prog id (first++#[arg x]++cap) w (EncR B p l0 (bs a) w)
theorem q4s {α:Type} (bs:α→List Nat) (l:List α) (i:Nat) (a:α) (h:l[i]?=some a):((l.take i).flatMap bs).length+(bs a).length≤(l.flatMap bs).length:=by
  have e:l.flatMap bs=(l.take i).flatMap bs++(bs a++(l.drop (i+1)).flatMap bs):=by
    have hlt:=(List.getElem?_eq_some_iff.1 h).1;have ha:=(List.getElem?_eq_some_iff.1 h).2;conv=>lhs;rw [← List.take_append_drop i l]
    rw [List.flatMap_append,List.drop_eq_getElem_cons hlt,List.flatMap_cons,ha]
  rw [e,List.length_append,List.length_append];omega
theorem q3l {α:Type} (bs:α→List Nat) (l:List α) (i:Nat) (a:α) (h:l[i]?=some a):(l.take (i+1)).flatMap bs=(l.take i).flatMap bs++bs a:=by
  rw [List.take_add_one,h,List.flatMap_append];simp
set_option maxRecDepth 100000 in
set_option maxHeartbeats 1000000 in
theorem gslR {α:Type} {R:Rep α} (hR:R.Ok) (id:FuncId) [TFun Tryz.prog id] (first cap:Array Value) (B p:Nat) (N:Nat→Prop) (bs:α→List Nat) (l:List α) (v:Value) (l0:List Nat) (w:World) (hN:Far N B p)
    (hf:q6d id first cap B p N R (fun x=>x.headD .nilIface) bs l w) (hv:slR 1 R N w [v] l) (hl:l.length < 4294967296) (hb:l0.length+4+(l.flatMap bs).length≤99999000) (hB:B≤w.heap.size) (he:EncAt B p w l0) :
    Calls Tryz.prog 25 #[.pointer (some ⟨p,0,none⟩),v,.func (.func id) first cap] w (EncR B p l0 (Ce.byN 4 l.length++l.flatMap bs) w):=by
  refine q0j Tryz.func25 rfl Tryz.ntmps25 rfl ?_;obtain ⟨A,c,e,hc,hcm⟩:=q1d hv;obtain rfl:v=.slice A l.length c:=by simpa using e
  (refine q0b<|q0a<|m_P rfl<|m_S rfl<|Ls (q0g rfl) ?_);refine L_fn (gint B p l.length l0 w hl (by omega) hB he) rfl ?_;rintro e w2 ⟨rfl,h2,k2⟩;refine ⟨_,rfl,?_⟩;(refine q0c<|tn<|q0b<|q0a<|m_S rfl<|Ls (q0g rfl)<|m_I rfl<|q0c<|tn<|q0l ?_);refine q1p (fun q f w'=>∃ i,q=l.length - i∧i≤l.length∧f 2=.func (.func id) first cap∧f 12=.slice A l.length c∧f 13=.int .i64 (l.length:Nat)∧f 14=.int .i64 (i:Nat)∧EncAt B p w' (l0++Ce.byN 4 l.length++(l.take i).flatMap bs)∧EncK B p w w') l.length ?_ ?_
  · exact ⟨0,rfl,by omega,rfl,rfl,rfl,rfl,by simpa using h2,k2⟩
  · rintro q f w3 ⟨i,rfl,hi,f2,f12,f13,f14,h3,k3⟩;rw [fold f2,fold f12,fold f13,fold f14];(refine q0b<|q0a<|Ls (q2u rfl rfl)<|q0c<|tn<|q0b ?_);refine q1j rfl (fun h=>?_) (fun h=>?_)
    · have hi':i < l.length:=(by omega);obtain ⟨a,ha⟩:∃ a,l[i]?=some a:=⟨_,List.getElem?_eq_getElem hi'⟩;have hv3:=(q0x (by decide) hR).keep hv k3.k hN;obtain ⟨b,o,c',y,e,_,_,hy,hcell,hya⟩:=q2h hv3 ha;cases e
      have hfl:=q4s bs l i a ha;have hlen:(l0++Ce.byN 4 l.length++(l.take i).flatMap bs).length+(bs a).length≤99999000:=by
        rw [List.length_append,List.length_append,Ce.byN_len];omega
      have hB3:=Nat.le_trans hB k3.k.size;obtain ⟨u,rfl⟩:∃ u,y=[u]:=by
        match y,hy with
        | [u],_=>exact ⟨u,rfl⟩
      have hu1:=hR.one hya u (List.mem_singleton.2 rfl);(refine q0p<|tn<|q0b<|q0l<|q0b<|q0a<|Ls (q0o rfl rfl (by omega))<|Ls (q2c rfl hcell (j:=0) rfl rfl)<|Ls (q0i (v:=u) rfl)<|q0c<|tn<|q0a<|Ls (q0e (v:=.func _ _ _) rfl)<|Ls (q0e (v:=u) rfl) ?_);refine q4p (vl:=[u]) rfl (hf i a ha w3 [u] _ k3 hya hlen hB3 h3) rfl ?_;rintro e w5 ⟨rfl,h5,k5⟩;refine ⟨_,rfl,?_⟩;(refine q0c<|bn<|tn<|q0a<|Ls (q1q rfl rfl (by omega))<|m_I rfl<|q0c<|tn ?_);refine ⟨l.length - (i+1),by omega,i+1,rfl,by omega,rfl,rfl,rfl,rfl,?_,k3.trans k5⟩;rw [q3l bs l i a ha,← List.append_assoc];exact h5
    · obtain rfl:i=l.length:=(by omega);(refine q1l<|te<|te<|bx ?_);refine q1m rfl rfl ?_;refine ⟨rfl,?_,k3⟩;rw [List.take_length,List.append_assoc] at h3;exact h3
set_option maxRecDepth 100000 in
set_option maxHeartbeats 1000000 in
theorem gslB {α:Type} {R:Rep α} (hR:R.Ok) (id:FuncId) [TFun Tryz.prog id] (first cap:Array Value) (B p:Nat) (N:Nat→Prop) (bs:α→List Nat) (l:List α) (v:Value) (l0:List Nat) (w:World) (hN:Far N B p)
    (hf:q6d id first cap B p N R (fun x=>x.headD .nilIface) bs l w) (hv:slR 1 R N w [v] l) (hl:l.length < 4294967296) (hb:l0.length+4+(l.flatMap bs).length≤99999000) (hB:B≤w.heap.size) (he:EncAt B p w l0) :
    Calls Tryz.prog 19 #[.pointer (some ⟨p,0,none⟩),v,.func (.func id) first cap] w (EncR B p l0 (Ce.byN 4 l.length++l.flatMap bs) w):=by
  refine q0j Tryz.func19 rfl Tryz.ntmps19 rfl ?_;obtain ⟨A,c,e,hc,hcm⟩:=q1d hv;obtain rfl:v=.slice A l.length c:=by simpa using e
  (refine q0b<|q0a<|m_P rfl<|m_S rfl<|Ls (q0g rfl) ?_);refine L_fn (gint B p l.length l0 w hl (by omega) hB he) rfl ?_;rintro e w2 ⟨rfl,h2,k2⟩;refine ⟨_,rfl,?_⟩;(refine q0c<|tn<|q0b<|q0a<|m_S rfl<|Ls (q0g rfl)<|m_I rfl<|q0c<|tn<|q0l ?_);refine q1p (fun q f w'=>∃ i,q=l.length - i∧i≤l.length∧f 2=.func (.func id) first cap∧f 12=.slice A l.length c∧f 13=.int .i64 (l.length:Nat)∧f 14=.int .i64 (i:Nat)∧EncAt B p w' (l0++Ce.byN 4 l.length++(l.take i).flatMap bs)∧EncK B p w w') l.length ?_ ?_
  · exact ⟨0,rfl,by omega,rfl,rfl,rfl,rfl,by simpa using h2,k2⟩
  · rintro q f w3 ⟨i,rfl,hi,f2,f12,f13,f14,h3,k3⟩;rw [fold f2,fold f12,fold f13,fold f14];(refine q0b<|q0a<|Ls (q2u rfl rfl)<|q0c<|tn<|q0b ?_);refine q1j rfl (fun h=>?_) (fun h=>?_)
    · have hi':i < l.length:=(by omega);obtain ⟨a,ha⟩:∃ a,l[i]?=some a:=⟨_,List.getElem?_eq_getElem hi'⟩;have hv3:=(q0x (by decide) hR).keep hv k3.k hN;obtain ⟨b,o,c',y,e,_,_,hy,hcell,hya⟩:=q2h hv3 ha;cases e
      have hfl:=q4s bs l i a ha;have hlen:(l0++Ce.byN 4 l.length++(l.take i).flatMap bs).length+(bs a).length≤99999000:=by
        rw [List.length_append,List.length_append,Ce.byN_len];omega
      have hB3:=Nat.le_trans hB k3.k.size;obtain ⟨u,rfl⟩:∃ u,y=[u]:=by
        match y,hy with
        | [u],_=>exact ⟨u,rfl⟩
      have hu1:=hR.one hya u (List.mem_singleton.2 rfl);(refine q0p<|tn<|q0b<|q0l<|q0b<|q0a<|Ls (q0o rfl rfl (by omega))<|Ls (q2c rfl hcell (j:=0) rfl rfl)<|Ls (q0i (v:=u) rfl)<|q0c<|tn<|q0a<|Ls (q0e (v:=.func _ _ _) rfl)<|Ls (q0e (v:=u) rfl) ?_);refine q4p (vl:=[u]) rfl (hf i a ha w3 [u] _ k3 hya hlen hB3 h3) rfl ?_;rintro e w5 ⟨rfl,h5,k5⟩;refine ⟨_,rfl,?_⟩;(refine q0c<|bn<|tn<|q0a<|Ls (q1q rfl rfl (by omega))<|m_I rfl<|q0c<|tn ?_);refine ⟨l.length - (i+1),by omega,i+1,rfl,by omega,rfl,rfl,rfl,rfl,?_,k3.trans k5⟩;rw [q3l bs l i a ha,← List.append_assoc];exact h5
    · obtain rfl:i=l.length:=(by omega);(refine q1l<|te<|te<|bx ?_);refine q1m rfl rfl ?_;refine ⟨rfl,?_,k3⟩;rw [List.take_length,List.append_assoc] at h3;exact h3
set_option maxRecDepth 100000 in
set_option maxHeartbeats 1000000 in
theorem gslI {α:Type} {R:Rep α} (hR:R.Ok) (id:FuncId) [TFun Tryz.prog id] (first cap:Array Value) (B p:Nat) (N:Nat→Prop) (bs:α→List Nat) (l:List α) (v:Value) (l0:List Nat) (w:World) (hN:Far N B p)
    (hf:q6d id first cap B p N R (fun x=>x.headD .nilIface) bs l w) (hv:slR 1 R N w [v] l) (hl:l.length < 4294967296) (hb:l0.length+4+(l.flatMap bs).length≤99999000) (hB:B≤w.heap.size) (he:EncAt B p w l0) :
    Calls Tryz.prog 23 #[.pointer (some ⟨p,0,none⟩),v,.func (.func id) first cap] w (EncR B p l0 (Ce.byN 4 l.length++l.flatMap bs) w):=by
  refine q0j Tryz.func23 rfl Tryz.ntmps23 rfl ?_;obtain ⟨A,c,e,hc,hcm⟩:=q1d hv;obtain rfl:v=.slice A l.length c:=by simpa using e
  (refine q0b<|q0a<|m_P rfl<|m_S rfl<|Ls (q0g rfl) ?_);refine L_fn (gint B p l.length l0 w hl (by omega) hB he) rfl ?_;rintro e w2 ⟨rfl,h2,k2⟩;refine ⟨_,rfl,?_⟩;(refine q0c<|tn<|q0b<|q0a<|m_S rfl<|Ls (q0g rfl)<|m_I rfl<|q0c<|tn<|q0l ?_);refine q1p (fun q f w'=>∃ i,q=l.length - i∧i≤l.length∧f 2=.func (.func id) first cap∧f 12=.slice A l.length c∧f 13=.int .i64 (l.length:Nat)∧f 14=.int .i64 (i:Nat)∧EncAt B p w' (l0++Ce.byN 4 l.length++(l.take i).flatMap bs)∧EncK B p w w') l.length ?_ ?_
  · exact ⟨0,rfl,by omega,rfl,rfl,rfl,rfl,by simpa using h2,k2⟩
  · rintro q f w3 ⟨i,rfl,hi,f2,f12,f13,f14,h3,k3⟩;rw [fold f2,fold f12,fold f13,fold f14];(refine q0b<|q0a<|Ls (q2u rfl rfl)<|q0c<|tn<|q0b ?_);refine q1j rfl (fun h=>?_) (fun h=>?_)
    · have hi':i < l.length:=(by omega);obtain ⟨a,ha⟩:∃ a,l[i]?=some a:=⟨_,List.getElem?_eq_getElem hi'⟩;have hv3:=(q0x (by decide) hR).keep hv k3.k hN;obtain ⟨b,o,c',y,e,_,_,hy,hcell,hya⟩:=q2h hv3 ha;cases e
      have hfl:=q4s bs l i a ha;have hlen:(l0++Ce.byN 4 l.length++(l.take i).flatMap bs).length+(bs a).length≤99999000:=by
        rw [List.length_append,List.length_append,Ce.byN_len];omega
      have hB3:=Nat.le_trans hB k3.k.size;obtain ⟨u,rfl⟩:∃ u,y=[u]:=by
        match y,hy with
        | [u],_=>exact ⟨u,rfl⟩
      have hu1:=hR.one hya u (List.mem_singleton.2 rfl);(refine q0p<|tn<|q0b<|q0l<|q0b<|q0a<|Ls (q0o rfl rfl (by omega))<|Ls (q2c rfl hcell (j:=0) rfl rfl)<|Ls (q0i (v:=u) rfl)<|q0c<|tn<|q0a<|Ls (q0e (v:=.func _ _ _) rfl)<|Ls (q0e (v:=u) rfl) ?_);refine q4p (vl:=[u]) rfl (hf i a ha w3 [u] _ k3 hya hlen hB3 h3) rfl ?_;rintro e w5 ⟨rfl,h5,k5⟩;refine ⟨_,rfl,?_⟩;(refine q0c<|bn<|tn<|q0a<|Ls (q1q rfl rfl (by omega))<|m_I rfl<|q0c<|tn ?_);refine ⟨l.length - (i+1),by omega,i+1,rfl,by omega,rfl,rfl,rfl,rfl,?_,k3.trans k5⟩;rw [q3l bs l i a ha,← List.append_assoc];exact h5
    · obtain rfl:i=l.length:=(by omega);(refine q1l<|te<|te<|bx ?_);refine q1m rfl rfl ?_;refine ⟨rfl,?_,k3⟩;rw [List.take_length,List.append_assoc] at h3;exact h3
set_option maxRecDepth 100000 in
set_option maxHeartbeats 1000000 in
theorem gslC {α:Type} {R:Rep α} (hR:R.Ok) (id:FuncId) [TFun Tryz.prog id] (first cap:Array Value) (B p:Nat) (N:Nat→Prop) (bs:α→List Nat) (l:List α) (v:Value) (l0:List Nat) (w:World) (hN:Far N B p)
    (hf:q6d id first cap B p N R (fun x=>x.headD .nilIface) bs l w) (hv:slR 1 R N w [v] l) (hl:l.length < 4294967296) (hb:l0.length+4+(l.flatMap bs).length≤99999000) (hB:B≤w.heap.size) (he:EncAt B p w l0) :
    Calls Tryz.prog 31 #[.pointer (some ⟨p,0,none⟩),v,.func (.func id) first cap] w (EncR B p l0 (Ce.byN 4 l.length++l.flatMap bs) w):=by
  refine q0j Tryz.func31 rfl Tryz.ntmps31 rfl ?_;obtain ⟨A,c,e,hc,hcm⟩:=q1d hv;obtain rfl:v=.slice A l.length c:=by simpa using e
  (refine q0b<|q0a<|m_P rfl<|m_S rfl<|Ls (q0g rfl) ?_);refine L_fn (gint B p l.length l0 w hl (by omega) hB he) rfl ?_;rintro e w2 ⟨rfl,h2,k2⟩;refine ⟨_,rfl,?_⟩;(refine q0c<|tn<|q0b<|q0a<|m_S rfl<|Ls (q0g rfl)<|m_I rfl<|q0c<|tn<|q0l ?_);refine q1p (fun q f w'=>∃ i,q=l.length - i∧i≤l.length∧f 2=.func (.func id) first cap∧f 12=.slice A l.length c∧f 13=.int .i64 (l.length:Nat)∧f 14=.int .i64 (i:Nat)∧EncAt B p w' (l0++Ce.byN 4 l.length++(l.take i).flatMap bs)∧EncK B p w w') l.length ?_ ?_
  · exact ⟨0,rfl,by omega,rfl,rfl,rfl,rfl,by simpa using h2,k2⟩
  · rintro q f w3 ⟨i,rfl,hi,f2,f12,f13,f14,h3,k3⟩;rw [fold f2,fold f12,fold f13,fold f14];(refine q0b<|q0a<|Ls (q2u rfl rfl)<|q0c<|tn<|q0b ?_);refine q1j rfl (fun h=>?_) (fun h=>?_)
    · have hi':i < l.length:=(by omega);obtain ⟨a,ha⟩:∃ a,l[i]?=some a:=⟨_,List.getElem?_eq_getElem hi'⟩;have hv3:=(q0x (by decide) hR).keep hv k3.k hN;obtain ⟨b,o,c',y,e,_,_,hy,hcell,hya⟩:=q2h hv3 ha;cases e
      have hfl:=q4s bs l i a ha;have hlen:(l0++Ce.byN 4 l.length++(l.take i).flatMap bs).length+(bs a).length≤99999000:=by
        rw [List.length_append,List.length_append,Ce.byN_len];omega
      have hB3:=Nat.le_trans hB k3.k.size;obtain ⟨u,rfl⟩:∃ u,y=[u]:=by
        match y,hy with
        | [u],_=>exact ⟨u,rfl⟩
      have hu1:=hR.one hya u (List.mem_singleton.2 rfl);(refine q0p<|tn<|q0b<|q0l<|q0b<|q0a<|Ls (q0o rfl rfl (by omega))<|Ls (q2c rfl hcell (j:=0) rfl rfl)<|Ls (q0i (v:=u) rfl)<|q0c<|tn<|q0a<|Ls (q0e (v:=.func _ _ _) rfl)<|Ls (q0e (v:=u) rfl) ?_);refine q4p (vl:=[u]) rfl (hf i a ha w3 [u] _ k3 hya hlen hB3 h3) rfl ?_;rintro e w5 ⟨rfl,h5,k5⟩;refine ⟨_,rfl,?_⟩;(refine q0c<|bn<|tn<|q0a<|Ls (q1q rfl rfl (by omega))<|m_I rfl<|q0c<|tn ?_);refine ⟨l.length - (i+1),by omega,i+1,rfl,by omega,rfl,rfl,rfl,rfl,?_,k3.trans k5⟩;rw [q3l bs l i a ha,← List.append_assoc];exact h5
    · obtain rfl:i=l.length:=(by omega);(refine q1l<|te<|te<|bx ?_);refine q1m rfl rfl ?_;refine ⟨rfl,?_,k3⟩;rw [List.take_length,List.append_assoc] at h3;exact h3
set_option maxRecDepth 100000 in
set_option maxHeartbeats 1000000 in
theorem gslW {α:Type} {R:Rep α} (hR:R.Ok) (id:FuncId) [TFun Tryz.prog id] (first cap:Array Value) (B p:Nat) (N:Nat→Prop) (bs:α→List Nat) (l:List α) (v:Value) (l0:List Nat) (w:World) (hN:Far N B p)
    (hf:q6d id first cap B p N R (fun x=>x.headD .nilIface) bs l w) (hv:slR 1 R N w [v] l) (hl:l.length < 4294967296) (hb:l0.length+4+(l.flatMap bs).length≤99999000) (hB:B≤w.heap.size) (he:EncAt B p w l0) :
    Calls Tryz.prog 47 #[.pointer (some ⟨p,0,none⟩),v,.func (.func id) first cap] w (EncR B p l0 (Ce.byN 4 l.length++l.flatMap bs) w):=by
  refine q0j Tryz.func47 rfl Tryz.ntmps47 rfl ?_;obtain ⟨A,c,e,hc,hcm⟩:=q1d hv;obtain rfl:v=.slice A l.length c:=by simpa using e
  (refine q0b<|q0a<|m_P rfl<|m_S rfl<|Ls (q0g rfl) ?_);refine L_fn (gint B p l.length l0 w hl (by omega) hB he) rfl ?_;rintro e w2 ⟨rfl,h2,k2⟩;refine ⟨_,rfl,?_⟩;(refine q0c<|tn<|q0b<|q0a<|m_S rfl<|Ls (q0g rfl)<|m_I rfl<|q0c<|tn<|q0l ?_);refine q1p (fun q f w'=>∃ i,q=l.length - i∧i≤l.length∧f 2=.func (.func id) first cap∧f 12=.slice A l.length c∧f 13=.int .i64 (l.length:Nat)∧f 14=.int .i64 (i:Nat)∧EncAt B p w' (l0++Ce.byN 4 l.length++(l.take i).flatMap bs)∧EncK B p w w') l.length ?_ ?_
  · exact ⟨0,rfl,by omega,rfl,rfl,rfl,rfl,by simpa using h2,k2⟩
  · rintro q f w3 ⟨i,rfl,hi,f2,f12,f13,f14,h3,k3⟩;rw [fold f2,fold f12,fold f13,fold f14];(refine q0b<|q0a<|Ls (q2u rfl rfl)<|q0c<|tn<|q0b ?_);refine q1j rfl (fun h=>?_) (fun h=>?_)
    · have hi':i < l.length:=(by omega);obtain ⟨a,ha⟩:∃ a,l[i]?=some a:=⟨_,List.getElem?_eq_getElem hi'⟩;have hv3:=(q0x (by decide) hR).keep hv k3.k hN;obtain ⟨b,o,c',y,e,_,_,hy,hcell,hya⟩:=q2h hv3 ha;cases e
      have hfl:=q4s bs l i a ha;have hlen:(l0++Ce.byN 4 l.length++(l.take i).flatMap bs).length+(bs a).length≤99999000:=by
        rw [List.length_append,List.length_append,Ce.byN_len];omega
      have hB3:=Nat.le_trans hB k3.k.size;obtain ⟨u,rfl⟩:∃ u,y=[u]:=by
        match y,hy with
        | [u],_=>exact ⟨u,rfl⟩
      have hu1:=hR.one hya u (List.mem_singleton.2 rfl);(refine q0p<|tn<|q0b<|q0l<|q0b<|q0a<|Ls (q0o rfl rfl (by omega))<|Ls (q2c rfl hcell (j:=0) rfl rfl)<|Ls (q0i (v:=u) rfl)<|q0c<|tn<|q0a<|Ls (q0e (v:=.func _ _ _) rfl)<|Ls (q0e (v:=u) rfl) ?_);refine q4p (vl:=[u]) rfl (hf i a ha w3 [u] _ k3 hya hlen hB3 h3) rfl ?_;rintro e w5 ⟨rfl,h5,k5⟩;refine ⟨_,rfl,?_⟩;(refine q0c<|bn<|tn<|q0a<|Ls (q1q rfl rfl (by omega))<|m_I rfl<|q0c<|tn ?_);refine ⟨l.length - (i+1),by omega,i+1,rfl,by omega,rfl,rfl,rfl,rfl,?_,k3.trans k5⟩;rw [q3l bs l i a ha,← List.append_assoc];exact h5
    · obtain rfl:i=l.length:=(by omega);(refine q1l<|te<|te<|bx ?_);refine q1m rfl rfl ?_;refine ⟨rfl,?_,k3⟩;rw [List.take_length,List.append_assoc] at h3;exact h3
set_option maxRecDepth 100000 in
set_option maxHeartbeats 1000000 in
theorem gslE {α:Type} {R:Rep α} (hR:R.Ok) (id:FuncId) [TFun Tryz.prog id] (first cap:Array Value) (B p:Nat) (N:Nat→Prop) (bs:α→List Nat) (l:List α) (v:Value) (l0:List Nat) (w:World) (hN:Far N B p)
    (hf:q6d id first cap B p N R (fun x=>.agg x.toArray) bs l w) (hv:slR 2 R N w [v] l) (hl:l.length < 4294967296) (hb:l0.length+4+(l.flatMap bs).length≤99999000) (hB:B≤w.heap.size) (he:EncAt B p w l0) :
    Calls Tryz.prog 30 #[.pointer (some ⟨p,0,none⟩),v,.func (.func id) first cap] w (EncR B p l0 (Ce.byN 4 l.length++l.flatMap bs) w):=by
  refine q0j Tryz.func30 rfl Tryz.ntmps30 rfl ?_;obtain ⟨A,c,e,hc,hcm⟩:=q1d hv;obtain rfl:v=.slice A l.length c:=by simpa using e
  (refine q0b<|q0a<|m_P rfl<|m_S rfl<|Ls (q0g rfl) ?_);refine L_fn (gint B p l.length l0 w hl (by omega) hB he) rfl ?_;rintro e w2 ⟨rfl,h2,k2⟩;refine ⟨_,rfl,?_⟩;(refine q0c<|tn<|q0b<|q0a<|m_S rfl<|Ls (q0g rfl)<|m_I rfl<|q0c<|tn<|q0l ?_);refine q1p (fun q f w'=>∃ i,q=l.length - i∧i≤l.length∧f 2=.func (.func id) first cap∧f 12=.slice A l.length c∧f 13=.int .i64 (l.length:Nat)∧f 14=.int .i64 (i:Nat)∧EncAt B p w' (l0++Ce.byN 4 l.length++(l.take i).flatMap bs)∧EncK B p w w') l.length ?_ ?_
  · exact ⟨0,rfl,by omega,rfl,rfl,rfl,rfl,by simpa using h2,k2⟩
  · rintro q f w3 ⟨i,rfl,hi,f2,f12,f13,f14,h3,k3⟩;rw [fold f2,fold f12,fold f13,fold f14];(refine q0b<|q0a<|Ls (q2u rfl rfl)<|q0c<|tn<|q0b ?_);refine q1j rfl (fun h=>?_) (fun h=>?_)
    · have hi':i < l.length:=(by omega);obtain ⟨a,ha⟩:∃ a,l[i]?=some a:=⟨_,List.getElem?_eq_getElem hi'⟩;have hv3:=(q0x (by decide) hR).keep hv k3.k hN;obtain ⟨b,o,c',y,e,_,_,hy,hcell,hya⟩:=q2h hv3 ha;cases e
      have hfl:=q4s bs l i a ha;have hlen:(l0++Ce.byN 4 l.length++(l.take i).flatMap bs).length+(bs a).length≤99999000:=by
        rw [List.length_append,List.length_append,Ce.byN_len];omega
      have hB3:=Nat.le_trans hB k3.k.size;(refine q0p<|tn<|q0b<|q0l<|q0b<|q0a<|Ls (q0o rfl rfl (by omega)) ?_);refine Ls (q2b (size:=2) (cs:=y) rfl (fun j u hu=>hcell j u hu) hy) ?_;refine q1a ?_;intro g5 w4 B4 hg4 E4 hs4;refine q0s rfl rfl hy (hR.one hya) B4 rfl ?_;intro w5 B5 hg5 hs5;have E5:Ext w3 w5:=E4.then hg5 (fun g h=>by cases h;omega);have k4:=k3.trans (EncK.of_ext (B:=B) (p:=p) E5);(refine q0c<|tn<|q0a<|Ls (q0e (v:=.func _ _ _) rfl)<|Ls (q3h rfl B5 hy) ?_);refine q4p (vl:=[.agg y.toArray]) rfl (hf i a ha w5 y _ k4 (hR.ext hya E5) hlen (Nat.le_trans hB3 E5.size) (h3.ext E5)) rfl ?_;rintro e w5 ⟨rfl,h5,k5⟩;refine ⟨_,rfl,?_⟩;(refine q0c<|bn<|tn<|q0a<|Ls (q1q rfl rfl (by omega))<|m_I rfl<|q0c<|tn ?_);refine ⟨l.length - (i+1),by omega,i+1,rfl,by omega,rfl,rfl,rfl,rfl,?_,k4.trans k5⟩;rw [q3l bs l i a ha,← List.append_assoc];exact h5
    · obtain rfl:i=l.length:=(by omega);(refine q1l<|te<|te<|bx ?_);refine q1m rfl rfl ?_;refine ⟨rfl,?_,k3⟩;rw [List.take_length,List.append_assoc] at h3;exact h3
set_option maxRecDepth 100000 in
set_option maxHeartbeats 1000000 in
theorem gslL {α:Type} {R:Rep α} (hR:R.Ok) (id:FuncId) [TFun Tryz.prog id] (first cap:Array Value) (B p:Nat) (N:Nat→Prop) (bs:α→List Nat) (l:List α) (v:Value) (l0:List Nat) (w:World) (hN:Far N B p)
    (hf:q6d id first cap B p N R (fun x=>.agg x.toArray) bs l w) (hv:slR 6 R N w [v] l) (hl:l.length < 4294967296) (hb:l0.length+4+(l.flatMap bs).length≤99999000) (hB:B≤w.heap.size) (he:EncAt B p w l0) :
    Calls Tryz.prog 27 #[.pointer (some ⟨p,0,none⟩),v,.func (.func id) first cap] w (EncR B p l0 (Ce.byN 4 l.length++l.flatMap bs) w):=by
  refine q0j Tryz.func27 rfl Tryz.ntmps27 rfl ?_;obtain ⟨A,c,e,hc,hcm⟩:=q1d hv;obtain rfl:v=.slice A l.length c:=by simpa using e
  (refine q0b<|q0a<|m_P rfl<|m_S rfl<|Ls (q0g rfl) ?_);refine L_fn (gint B p l.length l0 w hl (by omega) hB he) rfl ?_;rintro e w2 ⟨rfl,h2,k2⟩;refine ⟨_,rfl,?_⟩;(refine q0c<|tn<|q0b<|q0a<|m_S rfl<|Ls (q0g rfl)<|m_I rfl<|q0c<|tn<|q0l ?_);refine q1p (fun q f w'=>∃ i,q=l.length - i∧i≤l.length∧f 2=.func (.func id) first cap∧f 12=.slice A l.length c∧f 13=.int .i64 (l.length:Nat)∧f 14=.int .i64 (i:Nat)∧EncAt B p w' (l0++Ce.byN 4 l.length++(l.take i).flatMap bs)∧EncK B p w w') l.length ?_ ?_
  · exact ⟨0,rfl,by omega,rfl,rfl,rfl,rfl,by simpa using h2,k2⟩
  · rintro q f w3 ⟨i,rfl,hi,f2,f12,f13,f14,h3,k3⟩;rw [fold f2,fold f12,fold f13,fold f14];(refine q0b<|q0a<|Ls (q2u rfl rfl)<|q0c<|tn<|q0b ?_);refine q1j rfl (fun h=>?_) (fun h=>?_)
    · have hi':i < l.length:=(by omega);obtain ⟨a,ha⟩:∃ a,l[i]?=some a:=⟨_,List.getElem?_eq_getElem hi'⟩;have hv3:=(q0x (by decide) hR).keep hv k3.k hN;obtain ⟨b,o,c',y,e,_,_,hy,hcell,hya⟩:=q2h hv3 ha;cases e
      have hfl:=q4s bs l i a ha;have hlen:(l0++Ce.byN 4 l.length++(l.take i).flatMap bs).length+(bs a).length≤99999000:=by
        rw [List.length_append,List.length_append,Ce.byN_len];omega
      have hB3:=Nat.le_trans hB k3.k.size;(refine q0p<|tn<|q0b<|q0l<|q0b<|q0a<|Ls (q0o rfl rfl (by omega)) ?_);refine Ls (q2b (size:=6) (cs:=y) rfl (fun j u hu=>hcell j u hu) hy) ?_;refine q1a ?_;intro g5 w4 B4 hg4 E4 hs4;refine q0s rfl rfl hy (hR.one hya) B4 rfl ?_;intro w5 B5 hg5 hs5;have E5:Ext w3 w5:=E4.then hg5 (fun g h=>by cases h;omega);have k4:=k3.trans (EncK.of_ext (B:=B) (p:=p) E5);(refine q0c<|tn<|q0a<|Ls (q0e (v:=.func _ _ _) rfl)<|Ls (q3h rfl B5 hy) ?_);refine q4p (vl:=[.agg y.toArray]) rfl (hf i a ha w5 y _ k4 (hR.ext hya E5) hlen (Nat.le_trans hB3 E5.size) (h3.ext E5)) rfl ?_;rintro e w5 ⟨rfl,h5,k5⟩;refine ⟨_,rfl,?_⟩;(refine q0c<|bn<|tn<|q0a<|Ls (q1q rfl rfl (by omega))<|m_I rfl<|q0c<|tn ?_);refine ⟨l.length - (i+1),by omega,i+1,rfl,by omega,rfl,rfl,rfl,rfl,?_,k4.trans k5⟩;rw [q3l bs l i a ha,← List.append_assoc];exact h5
    · obtain rfl:i=l.length:=(by omega);(refine q1l<|te<|te<|bx ?_);refine q1m rfl rfl ?_;refine ⟨rfl,?_,k3⟩;rw [List.take_length,List.append_assoc] at h3;exact h3
set_option maxRecDepth 100000 in
set_option maxHeartbeats 1000000 in
theorem gslD {α:Type} {R:Rep α} (hR:R.Ok) (id:FuncId) [TFun Tryz.prog id] (first cap:Array Value) (B p:Nat) (N:Nat→Prop) (bs:α→List Nat) (l:List α) (v:Value) (l0:List Nat) (w:World) (hN:Far N B p)
    (hf:q6d id first cap B p N R (fun x=>.agg x.toArray) bs l w) (hv:slR 32 R N w [v] l) (hl:l.length < 4294967296) (hb:l0.length+4+(l.flatMap bs).length≤99999000) (hB:B≤w.heap.size) (he:EncAt B p w l0) :
    Calls Tryz.prog 33 #[.pointer (some ⟨p,0,none⟩),v,.func (.func id) first cap] w (EncR B p l0 (Ce.byN 4 l.length++l.flatMap bs) w):=by
  refine q0j Tryz.func33 rfl Tryz.ntmps33 rfl ?_;obtain ⟨A,c,e,hc,hcm⟩:=q1d hv;obtain rfl:v=.slice A l.length c:=by simpa using e
  (refine q0b<|q0a<|m_P rfl<|m_S rfl<|Ls (q0g rfl) ?_);refine L_fn (gint B p l.length l0 w hl (by omega) hB he) rfl ?_;rintro e w2 ⟨rfl,h2,k2⟩;refine ⟨_,rfl,?_⟩;(refine q0c<|tn<|q0b<|q0a<|m_S rfl<|Ls (q0g rfl)<|m_I rfl<|q0c<|tn<|q0l ?_);refine q1p (fun q f w'=>∃ i,q=l.length - i∧i≤l.length∧f 2=.func (.func id) first cap∧f 12=.slice A l.length c∧f 13=.int .i64 (l.length:Nat)∧f 14=.int .i64 (i:Nat)∧EncAt B p w' (l0++Ce.byN 4 l.length++(l.take i).flatMap bs)∧EncK B p w w') l.length ?_ ?_
  · exact ⟨0,rfl,by omega,rfl,rfl,rfl,rfl,by simpa using h2,k2⟩
  · rintro q f w3 ⟨i,rfl,hi,f2,f12,f13,f14,h3,k3⟩;rw [fold f2,fold f12,fold f13,fold f14];(refine q0b<|q0a<|Ls (q2u rfl rfl)<|q0c<|tn<|q0b ?_);refine q1j rfl (fun h=>?_) (fun h=>?_)
    · have hi':i < l.length:=(by omega);obtain ⟨a,ha⟩:∃ a,l[i]?=some a:=⟨_,List.getElem?_eq_getElem hi'⟩;have hv3:=(q0x (by decide) hR).keep hv k3.k hN;obtain ⟨b,o,c',y,e,_,_,hy,hcell,hya⟩:=q2h hv3 ha;cases e
      have hfl:=q4s bs l i a ha;have hlen:(l0++Ce.byN 4 l.length++(l.take i).flatMap bs).length+(bs a).length≤99999000:=by
        rw [List.length_append,List.length_append,Ce.byN_len];omega
      have hB3:=Nat.le_trans hB k3.k.size;(refine q0p<|tn<|q0b<|q0l<|q0b<|q0a<|Ls (q0o rfl rfl (by omega)) ?_);refine Ls (q2b (size:=32) (cs:=y) rfl (fun j u hu=>hcell j u hu) hy) ?_;refine q1a ?_;intro g5 w4 B4 hg4 E4 hs4;refine q0s rfl rfl hy (hR.one hya) B4 rfl ?_;intro w5 B5 hg5 hs5;have E5:Ext w3 w5:=E4.then hg5 (fun g h=>by cases h;omega);have k4:=k3.trans (EncK.of_ext (B:=B) (p:=p) E5);(refine q0c<|tn<|q0a<|Ls (q0e (v:=.func _ _ _) rfl)<|Ls (q3h rfl B5 hy) ?_);refine q4p (vl:=[.agg y.toArray]) rfl (hf i a ha w5 y _ k4 (hR.ext hya E5) hlen (Nat.le_trans hB3 E5.size) (h3.ext E5)) rfl ?_;rintro e w5 ⟨rfl,h5,k5⟩;refine ⟨_,rfl,?_⟩;(refine q0c<|bn<|tn<|q0a<|Ls (q1q rfl rfl (by omega))<|m_I rfl<|q0c<|tn ?_);refine ⟨l.length - (i+1),by omega,i+1,rfl,by omega,rfl,rfl,rfl,rfl,?_,k4.trans k5⟩;rw [q3l bs l i a ha,← List.append_assoc];exact h5
    · obtain rfl:i=l.length:=(by omega);(refine q1l<|te<|te<|bx ?_);refine q1m rfl rfl ?_;refine ⟨rfl,?_,k3⟩;rw [List.take_length,List.append_assoc] at h3;exact h3
abbrev ptr (p:Nat):Value:=.pointer (some ⟨p,0,none⟩)
def E64 (e:Nat × Nat):Prop:=e.1 < 18446744073709551616∧e.2 < 18446744073709551616
theorem elemE {B p:Nat} {N:Nat→Prop} {l:List (Nat × Nat)} {w0:World} (h:∀ e∈l,E64 e):q6d 29 #[ptr p] #[] B p N exR (fun x=>.agg x.toArray) Ce.extC.w l w0:=by
  intro i a ha w x l0 k hx hlen hB he;obtain rfl:x=exC a.1 a.2:=hx;have h1:=h a (List.mem_of_getElem? ha);exact gext B p a.1 a.2 l0 w h1.1 h1.2 (by omega) hB he
theorem elemW {B p:Nat} {N:Nat→Prop} {l:List Nat} {w0:World} (h:∀ e∈l,e < 18446744073709551616):q6d 46 #[ptr p] #[] B p N (numR .u64) (fun x=>x.headD .nilIface) Ce.wordC.w l w0:=by
  intro i a ha w x l0 k hx hlen hB he;obtain rfl:x=[.int .u64 (a:Nat)]:=hx;exact gword B p a l0 w (h a (List.mem_of_getElem? ha)) (by omega) hB he
set_option maxRecDepth 100000 in
set_option maxHeartbeats 1000000 in
theorem ground (B p:Nat) (N:Nat→Prop) (l:List (Nat × Nat)) (v:Value) (l0:List Nat) (w:World) (hN:Far N B p) (hv:slR 2 exR N w [v] l) (hok:∀ e∈l,E64 e) (hl:l.length < 4294967296) (hb:l0.length+(Ce.roundC.w l).length≤99999000) (hB:B≤w.heap.size) (he:EncAt B p w l0) :
    Calls Tryz.prog 26 #[ptr p,v] w (EncR B p l0 (Ce.roundC.w l) w):=by
  refine q0j Tryz.func26 rfl Tryz.ntmps26 rfl ?_;have hv1:=q0w.one hv v (List.mem_singleton.2 rfl);have hb':l0.length+4+(l.flatMap Ce.extC.w).length≤99999000:=by
    have:(Ce.roundC.w l).length=4+(l.flatMap Ce.extC.w).length:=by
      show (Ce.byN 4 l.length++_).length=_;rw [List.length_append,Ce.byN_len];rfl
    omega
  (refine q0a<|m_P rfl<|Ls (q0e (v:=v) rfl)<|m_P rfl ?_);refine Ls (q1g (vf:=[ptr p]) (vc:=[]) rfl rfl) ?_;skip;refine L_fn (gslE q3f 29 #[ptr p] #[] B p N Ce.extC.w l v l0 w hN (elemE hok) hv hl hb' hB he) rfl ?_;rintro e w2 ⟨rfl,h2,k2⟩;refine ⟨_,rfl,?_⟩;(refine q0c ?_);refine q1m rfl rfl ?_;exact ⟨rfl,h2,k2⟩
set_option maxRecDepth 100000 in
set_option maxHeartbeats 1000000 in
theorem gcolumnE (B p:Nat) (N:Nat→Prop) (l:List Nat) (v:Value) (l0:List Nat) (w:World) (hN:Far N B p) (hv:slR 1 (numR .u64) N w [v] l) (hok:∀ e∈l,e < 18446744073709551616) (hl:l.length < 4294967296) (hb:l0.length+((Ce.lst Ce.wordC).w l).length≤99999000) (hB:B≤w.heap.size) (he:EncAt B p w l0) :
    Calls Tryz.prog 32 #[ptr p,v] w (EncR B p l0 ((Ce.lst Ce.wordC).w l) w):=by
  refine q0j Tryz.func32 rfl Tryz.ntmps32 rfl ?_;have hv1:=(q0x (by decide) (q1k _)).one hv v (List.mem_singleton.2 rfl);have hb':l0.length+4+(l.flatMap Ce.wordC.w).length≤99999000:=by
    have:((Ce.lst Ce.wordC).w l).length=4+(l.flatMap Ce.wordC.w).length:=by
      show (Ce.byN 4 l.length++_).length=_;rw [List.length_append,Ce.byN_len];rfl
    omega
  (refine q0a<|m_P rfl<|Ls (q0e (v:=v) rfl)<|m_P rfl ?_);refine Ls (q1g (vf:=[ptr p]) (vc:=[]) rfl rfl) ?_;skip;refine L_fn (gslW (q1k _) 46 #[ptr p] #[] B p N Ce.wordC.w l v l0 w hN (elemW hok) hv hl hb' hB he) rfl ?_;rintro e w2 ⟨rfl,h2,k2⟩;refine ⟨_,rfl,?_⟩;(refine q0c ?_);refine q1m rfl rfl ?_;exact ⟨rfl,h2,k2⟩
def Rd64 (r:List (Nat × Nat)):Prop:=r.length < 4294967296∧∀ e∈r,E64 e
def Lp64 (p:Ce.LP):Prop:=p.rounds.length < 4294967296∧(∀ r∈p.rounds,Rd64 r)∧E64 p.left∧E64 p.right∧Rd64 p.line
theorem q2a {α:Type} {size:Nat} {R:Rep α} {N:Nat→Prop} {w:World} {x:List Value} {l:List α} (h:slR size R N w x l):∃ v,x=[v]:=by
  obtain ⟨v,h,_⟩:=h;exact ⟨v,h⟩
theorem elemR {B p:Nat} {N:Nat→Prop} {l:List (List (Nat × Nat))} {w0:World} (hN:Far N B p) (h:∀ r∈l,Rd64 r):q6d 26 #[ptr p] #[] B p N (slR 2 exR) (fun x=>x.headD .nilIface) Ce.roundC.w l w0:=by
  intro i a ha w x l0 k hx hlen hB he;obtain ⟨v,rfl⟩:=q2a hx;have h1:=h a (List.mem_of_getElem? ha);exact ground B p N a v l0 w hN hx h1.2 h1.1 hlen hB he
theorem elemC {B p:Nat} {N:Nat→Prop} {l:List (List Nat)} {w0:World} (hN:Far N B p) (h:∀ r∈l,r.length < 4294967296∧∀ e∈r,e < 18446744073709551616):q6d 32 #[ptr p] #[] B p N (slR 1 (numR .u64)) (fun x=>x.headD .nilIface) (Ce.lst Ce.wordC).w l w0:=by
  intro i a ha w x l0 k hx hlen hB he;obtain ⟨v,rfl⟩:=q2a hx;have h1:=h a (List.mem_of_getElem? ha);exact gcolumnE B p N a v l0 w hN hx h1.2 h1.1 hlen hB he
theorem q9x {α:Type} (c:Ce.Cod α) (l:List α):((Ce.lst c).w l).length=4+(l.flatMap c.w).length:=by
  show (Ce.byN 4 l.length++_).length=_;rw [List.length_append,Ce.byN_len];rfl
theorem ext_len (e:Nat × Nat):(Ce.extC.w e).length=16:=by
  show (Ce.byN 8 e.1++Ce.byN 8 e.2).length=16;rw [List.length_append,Ce.byN_len,Ce.byN_len]
theorem lp_w (p:Ce.LP):Ce.lpC.w p=(Ce.lst Ce.roundC).w p.rounds++(Ce.extC.w p.left++(Ce.extC.w p.right++Ce.roundC.w p.line)):=rfl
set_option maxRecDepth 100000 in
set_option maxHeartbeats 1000000 in
theorem glayer (B p:Nat) (N:Nat→Prop) (l:Ce.LP) (x:List Value) (l0:List Nat) (w:World) (hN:Far N B p) (hx:lpR N w x l) (hok:Lp64 l) (hb:l0.length+(Ce.lpC.w l).length≤99999000) (hB:B≤w.heap.size) (he:EncAt B p w l0) :
    Calls Tryz.prog 28 #[ptr p,.agg x.toArray] w (EncR B p l0 (Ce.lpC.w l) w):=by
  refine q0j Tryz.func28 rfl Tryz.ntmps28 rfl ?_;have hp:=he.lt;rw [lp_w] at hb ⊢;simp only [List.length_append,q9x,ext_len] at hb;have hline:(Ce.roundC.w l.line).length=4+(l.line.flatMap Ce.extC.w).length:=q9x _ _;obtain ⟨a,b,rfl,h1,h2⟩:=hx;have ha1:=q0y.one h1 a (List.mem_singleton.2 rfl);have hb1:=q0w.one h2 b (List.mem_singleton.2 rfl);obtain ⟨o1,o2,o3,o4,o5⟩:=hok;(refine q0b<|q0a ?_);refine q3r rfl ?_;intro g2 w2 B2 hg2 E2 hs2;(refine q0c<|tn<|q0b<|q0a<|m_P rfl<|Ls (q0h rfl)<|Ls (X_ld rfl B2 rfl)<|m_P rfl ?_);refine Ls (q1g (vf:=[ptr p]) (vc:=[]) rfl rfl) ?_;skip;refine L_fn (gslR q0w 26 #[ptr p] #[] B p N Ce.roundC.w l.rounds a l0 w2 hN (elemR hN o2) (q0y.ext h1 E2) o1 (by omega) (Nat.le_trans hB E2.size) (he.ext E2)) rfl ?_;rintro e w3 ⟨rfl,e3,k3⟩;refine ⟨_,rfl,?_⟩;have B3:=k3.k.blk B2 (by omega) (.inr (by decide));have hs3:=Nat.le_trans (Nat.le_trans hB E2.size) k3.k.size;(refine q0c<|tn<|q0b<|q0a<|m_P rfl<|Ls (q0h rfl)<|Ls (q3q (l:=exC l.left.1 l.left.2) rfl B3 rfl rfl) ?_);refine L_fn (gext B p l.left.1 l.left.2 _ w3 o3.1 o3.2 (by simp only [List.length_append,Ce.byN_len];omega) hs3 e3) rfl ?_;rintro e w4 ⟨rfl,e4,k4⟩;refine ⟨_,rfl,?_⟩;have B4:=k4.k.blk B3 (by omega) (.inr (by decide));have hs4:=Nat.le_trans hs3 k4.k.size;(refine q0c<|tn<|q0b<|q0a<|m_P rfl<|Ls (q0h rfl)<|Ls (q3q (l:=exC l.right.1 l.right.2) rfl B4 rfl rfl) ?_);refine L_fn (gext B p l.right.1 l.right.2 _ w4 o4.1 o4.2 (by simp only [List.length_append,Ce.byN_len];omega) hs4 e4) rfl ?_;rintro e w5 ⟨rfl,e5,k5⟩;refine ⟨_,rfl,?_⟩;have B5:=k5.k.blk B4 (by omega) (.inr (by decide));have hs5:=Nat.le_trans hs4 k5.k.size;(refine q0c<|tn<|q0a<|m_P rfl<|Ls (q0h rfl)<|Ls (X_ld rfl B5 rfl)<|m_P rfl ?_);refine Ls (q1g (vf:=[ptr p]) (vc:=[]) rfl rfl) ?_;skip;have hline5:=q0w.keep (q0w.keep (q0w.keep (q0w.ext h2 E2) k3.k hN) k4.k hN) k5.k hN;refine L_fn (gslE q3f 29 #[ptr p] #[] B p N Ce.extC.w l.line b _ w5 hN (elemE o5.2) hline5 o5.1 (by simp only [List.length_append,Ce.byN_len];omega) hs5 e5) rfl ?_;rintro e w6 ⟨rfl,e6,k6⟩;refine ⟨_,rfl,?_⟩;(refine q0c ?_);refine q1m rfl rfl ?_;refine ⟨rfl,?_,(EncK.of_ext E2).trans (k3.trans (k4.trans (k5.trans k6)))⟩;simp only [List.append_assoc] at e6;rw [show (Ce.lst Ce.roundC).w l.rounds=Ce.byN 4 l.rounds.length++l.rounds.flatMap Ce.roundC.w from rfl,show Ce.extC.w l.left=Ce.byN 8 l.left.1++Ce.byN 8 l.left.2 from rfl,show Ce.extC.w l.right=Ce.byN 8 l.right.1++Ce.byN 8 l.right.2 from rfl,show Ce.roundC.w l.line=Ce.byN 4 l.line.length++l.line.flatMap Ce.extC.w from rfl];simp only [List.append_assoc];exact e6
theorem elemL {B p:Nat} {N:Nat→Prop} {l:List Ce.LP} {w0:World} (hN:Far N B p) (h:∀ r∈l,Lp64 r):q6d 28 #[ptr p] #[] B p N lpR (fun x=>.agg x.toArray) Ce.lpC.w l w0:=by
  intro i a ha w x l0 k hx hlen hB he;exact glayer B p N a x l0 w hN hx (h a (List.mem_of_getElem? ha)) hlen hB he
end Go.Proofs.YtadfjnnildflkaaGreatDoor
namespace Go.Proofs.K
open Go.RowKit
section
variable {R:Nat→World→World→Prop} {P:Program} {n:NN} {ops:Array Oper} {A:Nat→World→Prop} {Fin:List Oper→(Rho→Fr)→(Rho→Nat→World→Prop)→Prop} {rest:List Oper} {k:Nat} {E:List Ent} {g:Rho→Fr} {H:Rho→Nat→World→Prop} {d:Tmp} {t:TypeId} {pos:String} {af:Array Edge}
theorem DW_appS {bl:Option Nat} {size bytes m q base:Nat} {ty e:TypeId} {v u:Value} {xs ys:List Value} {x y:Operand} [TSlice P ty e] [hz:TElem P e size bytes]
    (hx:∀ r,ev n (g r) x=v) (hy:∀ r,ev n (g r) y=u) (hbl:v.ownBlock=bl) (hA:∀ w,A k w→w.ownsRow base e size v m xs∧base≤w.heap.size) (hrow:∀ w,A k w→∃ lo hi,Row w lo hi size u q ys)
    (h1:∀ q∈ys,q.oneCell'=true) (hb:(m+q) * bytes≤140737488355328) (hm:m+q≤9223372036854775807)
    (hr:DW (RA k bl e size m) P n ops A Fin rest (k+1) E (fun r=>upd (g r) d (r k)) (fun r j w=>bif Nat.beq j k then w.ownsRow base e size (r k) (m+q) (xs++ys) else H r j w)) :
    DW (RA k bl e size m) P n ops A Fin (⟨some d,.call ⟨.builtin .append,#[x,y],#[ty,ty]⟩,t,pos,af,none⟩ :: rest) k (.op (fun r w=>w.ownsRow base e size (r k) (m+q) (xs++ys)) :: E) g H:=by
  obtain ⟨z,h0,hzs,hsz⟩:=hz.h;haveI:TInfo P e size bytes z:=⟨h0⟩;refine DW_dr (F:=fun _ u w=>w.ownsRow base e size u (m+q) (xs++ys)) ?_ ?_ (fun _ _=>rfl) hr
  · intro r w hAw hH;obtain ⟨lo,hi,hR⟩:=hrow w hAw;obtain ⟨ho,hbs⟩:=hA w hAw;obtain ⟨v',w',hX,h2,h3,_,h5⟩:=q8e (P:=P) (ty:=t) (t:=ty) hzs hsz ho hR h1 hb hm hbs;exact ⟨v',w',X_of_run (hx r) (hy r) hX,.inr ⟨rfl,hbl ▸ h3,h5⟩,h2⟩
  · exact fun i r u w w' hi _ hR hF=>q2x hF (hR.other hi)
end
end Go.Proofs.K
namespace Go.Proofs.YtadfjnnildflkaaGreatDoor
open Go.RowKit Go.Proofs.K
theorem q7t {k:IntKind} {I:List Nat} {i x:Nat} (h:I[i]?=some x):(ints k I)[i]?=some (.int k (x:Nat)):=by unfold ints;rw [List.getElem?_map,h];rfl
set_option maxRecDepth 100000 in
set_option maxHeartbeats 1000000 in
theorem gdigest (B p:Nat) (ds:List Nat) (l:List Nat) (w:World) (hd:ds.length=32) (hl:l.length≤99999000) (hB:B≤w.heap.size) (he:EncAt B p w l) :
    Calls Tryz.prog 22 #[ptr p,.agg (ints .u8 ds).toArray] w (EncR B p l ds w):=by
  refine q0j Tryz.func22 rfl Tryz.ntmps22 rfl ?_;have hp:=he.lt;(refine q0b<|q0a ?_);refine q3r (l:=ints .u8 ds) rfl ?_;intro g2 w2 B2 hg2 E2 hs2;obtain ⟨v,bv,ov⟩:=he.ext E2;have hne:=q9a ov bv;have hv1:=q6k (Row.of_own ov);have hne2:∀ q,v.ownBlock=some q→q ≠ g2:=by
    rintro q hq rfl;obtain ⟨_,cs,fz,h⟩:=q7h ov q hq;have h':w2.heap[q]?=some (.cells _ _ _):=B2;rw [h] at h';cases h'
  have BA:∀ {u:World},AA w2 v.ownBlock B 5 1 v l.length (ints .u8 l) u→Blk u p 72 [v]:=fun hA=>bv.grown hA.g (fun h=>hne _ h rfl);have BD:∀ {u:World},AA w2 v.ownBlock B 5 1 v l.length (ints .u8 l) u→Blk u g2 23 (ints .u8 ds):=fun hA=>B2.grown hA.g (fun h=>hne2 _ h rfl);have hB2:=Nat.le_trans hB E2.size;(refine q0c<|tn ?_);apply W_dagR (R:=RA 6 v.ownBlock 5 1 l.length) (AA w2 v.ownBlock B 5 1 v l.length (ints .u8 l)) 7 (by kernel_rfl) (RA.refl _ _ _ _ _) (AA.new ov) AA.step;(apply DW_x (fun r w hA hH=>(q0e (v:=.pointer _) rfl).trans rfl);apply DW_x (fun r w hA hH=>(q0e (v:=.pointer _) rfl).trans rfl);apply DW_x (fun r w hA hH=>(q1r rfl).trans rfl);apply DW_x (fun r w hA hH=>(q0h rfl).trans rfl);apply DW_x (fun r w hA hH=>(X_ld rfl (BA hA) rfl).trans rfl));with_reducible apply DW_x (V:=fun _=>.slice (some ⟨g2,0,none⟩) 32 32)
  exact fun r u hA hH=>X_sliceArr (m:=32) (size:=1) (i:=0) (j:=32) rfl rfl rfl (by decide) (by decide);with_reducible apply DW_appS (v:=v) (u:=.slice (some ⟨g2,0,none⟩) 32 32) (q:=32) (size:=1) (bytes:=1) (m:=l.length) (base:=B) (xs:=ints .u8 l) (ys:=ints .u8 ds)
  exact fun r=>rfl;exact fun r=>rfl;rfl;exact fun u hA=>⟨hA.o,Nat.le_trans hB2 hA.g.size⟩;exact fun u hA=>⟨g2,g2+1,Row.of_blkH (BD hA) (by omega) (by unfold maxLen;omega) (by rw [q1e,hd]) fun j u h=>by rw [Nat.zero_add];exact h⟩;exact fun q hq=>q4j q hq;omega;omega;((with_reducible exact q2n);(exact rfl);(repeat (first | exact .inr (.inr (fun _ _=>by with_reducible rfl)) | (refine And.intro ?_ ?_) | exact .inr (.inl rfl) | exact .inl (by decide +kernel) | exact trivial | exact .inr (.inr (fun _ _=>rfl))));(try dsimp only [Nat.reduceAdd]));intro r w3 hA H;have o3:w3.ownsRow B 5 1 (r 6) (l.length+32) (ints .u8 l++ints .u8 ds):=H 6;have b3:=BA hA;have k3:EncK B p w w3:=(EncK.of_ext E2).trans (EncK.own ov hA.g);generalize r 6=v3 at *;have hv3:=q6k (Row.of_own o3);(refine Ls (q1r rfl)<|Ls (q0h rfl) ?_);refine q1b (v:=v3) rfl rfl hv3 b3 (by simp) ?_;intro w4 b4 hg4 _;have hne4:=q9a o3 b3;have o4:=q6n o3 hg4 fun q hq e=>hne4 q hq (Option.some.inj e).symm;(refine q0c ?_);refine q1m rfl rfl ?_;refine ⟨rfl,⟨v3,b4,?_⟩,k3.trans (EncK.set hg4)⟩;rw [q6r,List.length_append,hd];exact o4
end Go.Proofs.YtadfjnnildflkaaGreatDoor
namespace Go.Proofs.K
open Go.RowKit
section
variable {P:Program} {n:NN} {Q:Exit→Fr→World→Prop} {f:Fr} {w:World} {ops:Array Oper} {rest:List Oper} {d:Tmp} {t ty e:TypeId} {pos:String} {af:Array Edge} {x:Operand} {k:IntKind}
theorem q8n {dd:Option Tmp} {g:Option (Nat × Bool)} {T:TypeId} {v:Value} (hx:ev n f x=.iface T v):X P n ⟨dd,.panic x,t,pos,af,g⟩ f w=.halt (.panic (.iface T v)) w:=by
  simp [X,execOp,hx,Instr.panic,goPanic]
theorem q5w {dd:Option Tmp} {g:Option (Nat × Bool)} [hs:TInt P ty k] {v:Value} (hx:ev n f x=v):X P n ⟨dd,.makeInterface ty x,t,pos,af,g⟩ f w=.ok (.value (.iface ty v)) w:=by
  subst hx;simp [X,execOp,Instr.makeInterface,run_underlying hs.h]
theorem X_s2ap {dd:Option Tmp} {g:Option (Nat × Bool)} {m:Nat} [hs:TArr P ty m e] {A:Option Addr} {len c:Nat} (hx:ev n f x=.slice A len c) (h:m≤len):X P n ⟨dd,.sliceToArrayPointer ty x,t,pos,af,g⟩ f w=.ok (.value (.pointer A)) w:=by
  have h':¬ len < m:=by omega
  simp [X,execOp,hx,Instr.arrayAt,run_underlying hs.h,h']
theorem q5y {id:FuncId} [TFun P id] {l:List Operand} {vl:List Value} {tys:Array TypeId} {R:Ending→World→Prop} (c:Calls P id vl.toArray w R) (ha:l.map (ev n f)=vl)
    (h:∀ e w',R e w'→(∃ v,e=.returned v∧L P n ops Q rest (upd f d v) w')∨∃ ch,e=.panicked ch∧Q (.panic ch) f w'):L P n ops Q (⟨some d,.call ⟨.value (.func id),l.toArray,tys⟩,t,pos,af,none⟩ :: rest) f w :=
  L_callZ rfl (X_fn ha) c h
theorem q7v {id:FuncId} [TFun P id] {l:List Operand} {vl:List Value} {tys:Array TypeId} {first cap:Array Value} {R:Ending→World→Prop} (hx:ev n f x=.func (.func id) first cap) (c:Calls P id (first++vl.toArray++cap) w R) (ha:l.map (ev n f)=vl)
    (h:∀ e w',R e w'→(∃ v,e=.returned v∧L P n ops Q rest (upd f d v) w')∨∃ ch,e=.panicked ch∧Q (.panic ch) f w'):L P n ops Q (⟨some d,.call ⟨.value x,l.toArray,tys⟩,t,pos,af,none⟩ :: rest) f w :=
  L_callZ rfl (X_clo hx ha) c h
theorem q8a {N:Nat→Prop} {size m i j:Nat} [hs:TSlice P ty e] [hz:TSz P e size] {v:Value} {xs:List Value} {lo hi:Option Operand} (hx:ev n f x=v) (hr:RowN N w size v m xs)
    (hlo:match lo with | none=>i=0 | some o=>∃ k,ev n f o=.int k (i:Int)) (hhi:match hi with | none=>j=m | some o=>∃ k,ev n f o=.int k (j:Int)) (hij:i≤j) (hj:j≤m)
    (h:∀ u,RowN N w size u (j - i) ((xs.drop (i * size)).take ((j - i) * size))→L P n ops Q rest (upd f d u) w):L P n ops Q (⟨some d,.slice ty x lo hi none,t,pos,af,none⟩ :: rest) f w:=by
  obtain ⟨l,hh,hN,R⟩:=hr;obtain ⟨A,c,e,hc,hm⟩:=RowN.form ⟨l,hh,hN,R⟩;subst e;exact Ls (q4w hx hlo hhi hij (Nat.le_trans hj hc)) (h _ ⟨l,hh,hN,R.slice rfl hij hj⟩)
end
end Go.Proofs.K
namespace Ce
theorem numN_snoc:∀ (l:List Nat) (x:Nat),numN (l++[x])=numN l+x * 256 ^ l.length
  | [],x=>by simp [numN]
  | b :: l,x=>by
    show b+256 * numN (l++[x])=b+256 * numN l+x * 256 ^ (l.length+1);rw [numN_snoc l x,Nat.pow_succ,Nat.mul_add];have:256 * (x * 256 ^ l.length)=x * (256 ^ l.length * 256):=(by rw [← Nat.mul_assoc,Nat.mul_comm 256 x,Nat.mul_assoc,Nat.mul_comm 256 (256 ^ l.length)]);omega
end Ce
namespace Go.Proofs.YtadfjnnildflkaaGreatDoor
open Go.RowKit Go.Proofs.K
structure DecAt (N:Nat→Prop) (p:Nat) (w:World) (l:List Nat):Prop where
  h:∃ v,Blk w p 93 [v]∧RowN N w 1 v l.length (ints .u8 l)
  b:∀ b∈l,b < 256
  n:∀ q,N q→q ≠ p∧q < w.heap.size
theorem DecAt.grown {N:Nat→Prop} {p:Nat} {w w':World} {l:List Nat} {row:Option Nat} (h:DecAt N p w l) (hg:w.grownBy w' row) (hp:row ≠ some p) (hN:∀ q,row=some q→¬ N q):DecAt N p w' l:=by
  obtain ⟨⟨v,b,r⟩,h8,hn⟩:=h;exact ⟨⟨v,b.grown hg hp,r.grown hg hN⟩,h8,fun q hq=>⟨(hn q hq).1,Nat.lt_of_lt_of_le (hn q hq).2 hg.size⟩⟩
theorem DecAt.ext {N:Nat→Prop} {p:Nat} {w w':World} {l:List Nat} (h:DecAt N p w l) (E:Ext w w'):DecAt N p w' l:=by
  obtain ⟨⟨v,b,r⟩,h8,hn⟩:=h;exact ⟨⟨v,b.ext E,r.ext E⟩,h8,fun q hq=>⟨(hn q hq).1,Nat.lt_of_lt_of_le (hn q hq).2 E.size⟩⟩
theorem DecAt.lt {N:Nat→Prop} {p:Nat} {w:World} {l:List Nat} (h:DecAt N p w l):p < w.heap.size:=by
  obtain ⟨⟨v,b,r⟩,h8,hn⟩:=h;exact q1y b
abbrev erV (x:Nat):List PanicEntry:=[{ v:=.iface 49 (.int .i64 (x:Nat)),recovered:=false }]
def DecR {α:Type} (S:Ce.Ps α) (R:Rep α) (V:List Value→Value) (N:Nat→Prop) (p:Nat) (l:List Nat) (w:World) (e:Ending) (w':World):Prop :=
  w.grownBy w' (some p)∧match S l with
    | .err x=>e=.panicked (erV x)
    | .got a r=>∃ y,e=.returned (V y)∧R (fun k=>w.heap.size≤k∧k < w'.heap.size) w' y a∧DecAt N p w' r
set_option maxRecDepth 100000 in
set_option maxHeartbeats 1000000 in
theorem dtake (N:Nat→Prop) (p n:Nat) (l:List Nat) (w:World) (hn:n≤4294967296) (he:DecAt N p w l) :
    Calls Tryz.prog 83 #[.pointer (some ⟨p,0,none⟩),.int .i64 (n:Nat)] w fun e w'=>w.grownBy w' (some p)∧match Ce.take n l with
      | .err x=>e=.panicked (erV x)
      | .got a r=>∃ v,e=.returned v∧a.length=n∧RowN N w' 1 v a.length (ints .u8 a)∧DecAt N p w' r:=by
  refine q0j Tryz.func83 rfl Tryz.ntmps83 rfl ?_;obtain ⟨⟨v,bv,rv⟩,h8,hn8⟩:=he;obtain ⟨A,c,e,hlc,hcm⟩:=rv.form;subst e;(refine q0b<|q0a<|a_S rfl<|q0c<|tn<|q0b<|q0b<|q0a<|m_P rfl<|Ls (q1r rfl)<|Ls (q0h rfl)<|Ls (X_ld rfl bv rfl)<|Ls (q0g rfl)<|m_I rfl<|Ls (q2u rfl rfl)<|q0c<|tn ?_);refine q1j rfl (fun h=>?_) (fun h=>?_)
  · have hl:l.length < n:=(by omega);(refine q0a ?_);refine Ls (q5w rfl) ?_;refine L_halt rfl rfl (q8n rfl) ?_;refine ⟨rfl,World.grownBy.refl _ _,?_⟩;unfold Ce.take;rw [if_pos hl];rfl
  · have hl:n≤l.length:=(by omega);(refine q0p<|tn<|q0b<|q0a<|m_P rfl<|Ls (q1r rfl)<|Ls (q0h rfl)<|Ls (X_ld rfl bv rfl)<|m_I rfl ?_);refine q8a (i:=0) (j:=n) rfl rv rfl ⟨_,rfl⟩ (by omega) hl ?_;intro u1 r1;have hu1:=r1.cell1;(refine Ls (q0i (v:=u1) rfl)<|q0c<|tn<|q0b<|q0a<|m_P rfl<|m_P rfl<|Ls (q1r rfl)<|Ls (q0h rfl)<|Ls (X_ld rfl bv rfl)<|m_I rfl ?_);refine q8a (i:=n) (j:=l.length) rfl rv ⟨_,rfl⟩ rfl hl (Nat.le_refl _) ?_;intro u2 r2;have hu2:=r2.cell1;(refine Ls (q1r rfl)<|Ls (q0h rfl) ?_);refine q1b (v:=u2) rfl rfl hu2 bv (by simp) ?_;intro w1 b1 hg1 _;(refine q0c<|tn<|q0b<|q0a<|Ls (q0e (v:=u1) rfl)<|Ls (q0i (v:=u1) rfl)<|q0c<|tn<|q0t ?_);refine q0f rfl rfl (v:=u1) rfl ?_;refine ⟨hg1,?_⟩;have hN:∀ q,some p=some q→¬ N q:=fun q hq h=>(by cases hq;exact (hn8 _ h).1 rfl);have ht:(l.take n).length=n:=(by rw [List.length_take];omega);unfold Ce.take;rw [if_neg (by omega)];refine ⟨u1,rfl,ht,(r1.re (by omega) ?_).grown hg1 hN,⟨u2,b1,(r2.re ?_ ?_).grown hg1 hN⟩,fun b hb=>h8 b (List.mem_of_mem_drop hb),fun q hq=>⟨(hn8 q hq).1,Nat.lt_of_lt_of_le (hn8 q hq).2 hg1.size⟩⟩
    · rw [Nat.zero_mul,List.drop_zero,Nat.mul_one,Nat.sub_zero,q6q]
    · rw [List.length_drop]
    · rw [Nat.mul_one,Nat.mul_one,ints_drop,q6q,List.take_of_length_le (by rw [List.length_drop];omega)]
theorem shlB {x i:Nat} (hx:x < 256) (hi:i≤7):IntKind.u64.wrap ((x:Int) * 2 ^ min ((8:Int) * (i:Int)).toNat IntKind.u64.bits)=((x * 256 ^ i:Nat):Int):=by
  have h1:((8:Int) * (i:Int)).toNat=8 * i:=by omega
  have h2:min (8 * i) IntKind.u64.bits=8 * i:=by
    show min (8 * i) 64=8 * i;omega
  have h3:x * 256 ^ i < 18446744073709551616:=by
    have h4:256 ^ i≤256 ^ 7:=Nat.pow_le_pow_right (by decide) hi;have h5:x * 256 ^ i≤255 * 256 ^ 7:=Nat.mul_le_mul (by omega) h4;exact Nat.lt_of_le_of_lt h5 (by decide)
  rw [h1,h2,show ((x:Int) * 2 ^ (8 * i))=((x * 256 ^ i:Nat):Int) by rw [show (256:Nat)=2 ^ 8 from rfl,← Nat.pow_mul];push_cast;rfl,u64_nat,Nat.mod_eq_of_lt h3]
theorem orB {s x i:Nat} (hs:s < 256 ^ i) (hx:x < 256) (hi:i≤7):bits .or .u64 (s:Int) ((x * 256 ^ i:Nat):Int)=((s+x * 256 ^ i:Nat):Int):=by
  have h4:256 ^ i≤256 ^ 7:=Nat.pow_le_pow_right (by decide) hi;have h5:x * 256 ^ i≤255 * 256 ^ 7:=Nat.mul_le_mul (by omega) h4;have h6:(255 * 256 ^ 7:Nat) < 18446744073709551616:=by decide
  have h7:(256 ^ 7:Nat) < 18446744073709551616:=by decide
  rw [bits_u64_or s _ (by omega) (by omega)];have h8:(256:Nat) ^ i=2 ^ (8 * i):=by rw [Nat.pow_mul]
  rw [h8] at hs ⊢;rw [Nat.or_comm,Nat.mul_comm,← Nat.two_pow_add_eq_or_of_lt hs,Nat.add_comm]
set_option maxRecDepth 100000 in
set_option maxHeartbeats 1000000 in
theorem dfixed (N:Nat→Prop) (p k:Nat) (l:List Nat) (w:World) (hk:k≤8) (he:DecAt N p w l) :
    Calls Tryz.prog 84 #[.pointer (some ⟨p,0,none⟩),.int .i64 (k:Nat)] w fun e w'=>w.grownBy w' (some p)∧match Ce.num k l with
      | .err x=>e=.panicked (erV x)
      | .got a r=>e=.returned (.int .u64 (a:Nat))∧a < 256 ^ k∧DecAt N p w' r:=by
  refine q0j Tryz.func84 rfl Tryz.ntmps84 rfl ?_;have hl8:∀ b∈l,b < 256:=he.b;have ct:=dtake N p k l w (by omega) he;have hnum:∀ x,Ce.take k l=x→Ce.num k l=x.bind fun l=>Ce.Ps.pure (Ce.numN l):=fun x h=>by rw [← h];rfl
  (refine q0b<|q0a<|a_I rfl<|q0c<|tn<|q0b<|q0a<|a_I rfl<|q0c<|tn<|q0b<|q0b<|q0a<|m_P rfl<|m_I rfl ?_);cases hS:Ce.take k l with
  | err x =>
    rw [hS] at ct;rw [hnum _ hS];refine q5y ct rfl ?_;rintro e w1 ⟨hg1,rfl⟩;exact .inr ⟨_,rfl,rfl,hg1,rfl⟩
  | got a r =>
    rw [hS] at ct;rw [hnum _ hS];have ha8:∀ b∈a,b < 256:=by
      have h1:Ce.take k l=.got a r:=hS;unfold Ce.take at h1;split at h1
      · cases h1
      · cases h1
        exact fun b hb=>hl8 b (List.mem_of_mem_take hb)
    refine L_fn ct rfl ?_;rintro e w1 ⟨hg1,v,rfl,hak,rv,e1⟩;refine ⟨_,rfl,?_⟩;obtain ⟨A,c,e,hlc,hcm⟩:=rv.form;subst e;(refine Ls (q0g rfl)<|m_I rfl<|q0c<|tn<|q0l ?_);refine q1p (fun q f w'=>∃ i,q=k - i∧i≤k∧f 5=.int .u64 (Ce.numN (a.take i):Nat)∧f 10=.slice A a.length c∧f 11=.int .i64 (a.length:Nat)∧f 12=.int .i64 (i:Nat)∧w'=w1) k ?_ ?_
    · exact ⟨0,rfl,by omega,rfl,rfl,rfl,rfl,rfl⟩
    · rintro q f w2 ⟨i,rfl,hi,f5,f10,f11,f12,rfl⟩;rw [fold f5,fold f10,fold f11,fold f12];have hlt:=Ce.num_lt (a.take i) fun b hb=>ha8 b (List.mem_of_mem_take hb);rw [List.length_take,Nat.min_eq_left (by omega)] at hlt;(refine q0b<|q0a<|Ls (q2u rfl rfl)<|q0c<|tn<|q0b ?_);refine q1j rfl (fun h=>?_) (fun h=>?_)
      · have hi':i < a.length:=(by omega);obtain ⟨x,hx⟩:∃ x,a[i]?=some x:=⟨_,List.getElem?_eq_getElem hi'⟩;have hx8:=ha8 x (List.mem_of_getElem? hx);have hi7:i≤7:=(by omega);obtain ⟨b,o,c',e,_,_,_,hcell⟩:=rv.at hi';cases e
        (refine q0p<|tn<|q0b<|q0l<|q0b<|q0a<|m_I rfl<|Ls (q0o rfl rfl (by omega))<|Ls (q2c rfl hcell (j:=i) (by omega) (q7t hx))<|a_I rfl<|a_I rfl<|q0c<|tn<|q0a<|m_I rfl<|m_I rfl<|Ls ((q6h rfl).trans (by rw [u64_nat,Nat.mod_eq_of_lt (show x < 18446744073709551616 by omega)]))<|m_I rfl<|Ls (X_muli rfl rfl (by omega))<|Ls ((X_shl rfl rfl (by omega)).trans (by rw [shlB hx8 hi7]))<|Ls ((X_or rfl rfl).trans (by rw [orB hlt hx8 hi7]))<|a_I rfl<|q0c<|bn<|tn<|q0a<|Ls (q1q rfl rfl (by omega))<|m_I rfl<|q0c<|tn ?_);refine ⟨k - (i+1),by omega,i+1,rfl,by omega,?_,rfl,rfl,rfl,rfl⟩;have:a.take (i+1)=a.take i++[x]:=(by rw [List.take_add_one,hx];rfl);rw [this,Ce.numN_snoc,List.length_take,Nat.min_eq_left (by omega)];rfl
      · obtain rfl:i=k:=(by omega);(refine q1l<|te<|te<|bx<|tn<|q0b<|q0a<|m_I rfl<|a_I rfl<|q0c<|tn<|q0t ?_);refine q0f rfl rfl (v:=.int .u64 _) rfl ?_;rw [List.take_of_length_le (by omega)] at hlt ⊢;exact ⟨hg1,rfl,hlt,e1⟩
end Go.Proofs.YtadfjnnildflkaaGreatDoor
namespace Go.Proofs.YtadfjnnildflkaaGreatDoor
open Go.RowKit Go.Proofs.K
theorem elemB {B p:Nat} {N:Nat→Prop} {l:List Nat} {w0:World} (h:∀ e∈l,e < 256):q6d 20 #[ptr p] #[] B p N (numR .u8) (fun x=>x.headD .nilIface) Ce.byteC.w l w0:=by
  intro i a ha w x l0 k hx hlen hB he;obtain rfl:x=[.int .u8 (a:Nat)]:=hx;have h1:=h a (List.mem_of_getElem? ha);rw [show Ce.byteC.w a=[a] from by
    show Ce.byN 1 a=[a]
    simp [Ce.byN,List.range_succ]
    omega]
  exact gbyte B p a l0 w (by omega) hB he
def sumR:Rep Nat:=fun _ _ x a=>∃ z:Int,x=[.int .i64 z]∧u64v z=a∧-9223372036854775808≤z∧z≤9223372036854775807
theorem q2m:sumR.Ok:=⟨fun h _=>h,fun h _ _=>h,fun h _ _=>h,fun h=>h,fun h v hv=>by
  obtain ⟨z,h,_⟩:=h
  subst h
  simp at hv
  subst hv
  rfl⟩
theorem elemI {B p:Nat} {N:Nat→Prop} {l:List Nat} {w0:World}:q6d 24 #[ptr p] #[] B p N sumR (fun x=>x.headD .nilIface) (Ce.numC 8).w l w0:=by
  intro i a ha w x l0 k hx hlen hB he;obtain ⟨z,rfl,rfl,_⟩:=hx;exact gsum B p z l0 w (by omega) hB he
theorem elemD {B p:Nat} {N:Nat→Prop} {l:List (List Nat)} {w0:World}:q6d 22 #[ptr p] #[] B p N (byR 32) (fun x=>.agg x.toArray) (Ce.raw 32).w l w0:=by
  intro i a ha w x l0 k hx hlen hB he;obtain ⟨rfl,hl⟩:=hx;exact gdigest B p a l0 w hl (by omega) hB he
structure CerAt (N:Nat→Prop) (w:World) (c:Ce.Cert) (qb:ByteArray) (s1 p1 p2 p3 b1 o1 o2 o3 o4:Value):Prop where
  q:c.q=sb qb
  s1:slR 1 sumR N w [s1] c.sums
  p1:slR 1 (slR 2 exR) N w [p1] c.rows
  p2:slR 6 lpR N w [p2] c.ps
  p3:slR 6 lpR N w [p3] c.pz
  b1:slR 1 (slR 2 exR) N w [b1] c.batch
  o1:slR 2 exR N w [o1] c.orow
  o2:slR 2 exR N w [o2] c.ornd
  o3:slR 1 (slR 1 (numR .u64)) N w [o3] c.cols
  o4:slR 32 (byR 32) N w [o4] c.nodes
def cerC (c:Ce.Cert) (qb:ByteArray) (s1 p1 p2 p3 b1 o1 o2 o3 o4:Value):List Value :=
  [.string qb,.int .i64 (c.log:Nat)]++ints .u8 c.root++[.int .i64 (c.sR:Nat),.int .i64 (c.sC:Nat),.int .i64 (c.sB:Nat),.int .i64 (c.sT:Nat),s1,p1,p2,p3,b1,.int .u64 (c.v.1:Nat),.int .u64 (c.v.2:Nat),o1,o2,o3,o4]
theorem q1s {c:Ce.Cert} {qb:ByteArray} {s1 p1 p2 p3 b1 o1 o2 o3 o4:Value} (hc:c.root.length=32) {j:Nat} {u:Value} (h:[.int .i64 (c.sR:Nat),.int .i64 (c.sC:Nat),.int .i64 (c.sB:Nat),.int .i64 (c.sT:Nat),s1,p1,p2,p3,b1,.int .u64 (c.v.1:Nat),.int .u64 (c.v.2:Nat),o1,o2,o3,o4][j]?=some u):(cerC c qb s1 p1 p2 p3 b1 o1 o2 o3 o4)[j+34]?=some u:=by
  unfold cerC;rw [List.append_assoc,List.getElem?_append_right (by simp),List.getElem?_append_right (by rw [q1e,hc];simp)];rw [show j+34 - [Value.string qb,.int .i64 (c.log:Nat)].length - (ints .u8 c.root).length=j by rw [q1e,hc];simp];exact h
def cerR:Rep Ce.Cert:=fun N w x c=>∃ qb s1 p1 p2 p3 b1 o1 o2 o3 o4,x=cerC c qb s1 p1 p2 p3 b1 o1 o2 o3 o4∧c.root.length=32∧CerAt N w c qb s1 p1 p2 p3 b1 o1 o2 o3 o4
theorem CerAt.ext {N:Nat→Prop} {w w':World} {c:Ce.Cert} {qb:ByteArray} {s1 p1 p2 p3 b1 o1 o2 o3 o4:Value} (h:CerAt N w c qb s1 p1 p2 p3 b1 o1 o2 o3 o4) (E:Ext w w'):CerAt N w' c qb s1 p1 p2 p3 b1 o1 o2 o3 o4 :=
  ⟨h.q,(q0x (by decide) q2m).ext h.s1 E,q0y.ext h.p1 E,q1h.ext h.p2 E,q1h.ext h.p3 E,q0y.ext h.b1 E,q0w.ext h.o1 E,q0w.ext h.o2 E,q3y.ext h.o3 E,q3x.ext h.o4 E⟩
theorem CerAt.keep {N:Nat→Prop} {w w':World} {c:Ce.Cert} {qb:ByteArray} {s1 p1 p2 p3 b1 o1 o2 o3 o4:Value} {B g:Nat} {T:TypeId} (h:CerAt N w c qb s1 p1 p2 p3 b1 o1 o2 o3 o4) (k:KeepTy B g T w w') (hN:∀ q,N q→q ≠ g∧q < B):CerAt N w' c qb s1 p1 p2 p3 b1 o1 o2 o3 o4 :=
  ⟨h.q,(q0x (by decide) q2m).keep h.s1 k hN,q0y.keep h.p1 k hN,q1h.keep h.p2 k hN,q1h.keep h.p3 k hN,q0y.keep h.b1 k hN,q0w.keep h.o1 k hN,q0w.keep h.o2 k hN,q3y.keep h.o3 k hN,q3x.keep h.o4 k hN⟩
theorem CerAt.tight {N:Nat→Prop} {w:World} {c:Ce.Cert} {qb:ByteArray} {s1 p1 p2 p3 b1 o1 o2 o3 o4:Value} (h:CerAt N w c qb s1 p1 p2 p3 b1 o1 o2 o3 o4):CerAt (fun k=>N k∧k < w.heap.size) w c qb s1 p1 p2 p3 b1 o1 o2 o3 o4 :=
  ⟨h.q,(q0x (by decide) q2m).tight h.s1,q0y.tight h.p1,q1h.tight h.p2,q1h.tight h.p3,q0y.tight h.b1,q0w.tight h.o1,q0w.tight h.o2,q3y.tight h.o3,q3x.tight h.o4⟩
structure Cert64 (c:Ce.Cert):Prop where
  root:c.root.length=32
  log:c.log < 4294967296
  sR:c.sR < 4294967296
  sC:c.sC < 4294967296
  sB:c.sB < 4294967296
  sT:c.sT < 4294967296
  q:c.q.length < 4294967296
  sums:c.sums.length < 4294967296
  rows:c.rows.length < 4294967296∧∀ r∈c.rows,Rd64 r
  ps:c.ps.length < 4294967296∧∀ r∈c.ps,Lp64 r
  pz:c.pz.length < 4294967296∧∀ r∈c.pz,Lp64 r
  batch:c.batch.length < 4294967296∧∀ r∈c.batch,Rd64 r
  v:E64 c.v
  orow:Rd64 c.orow
  ornd:Rd64 c.ornd
  cols:c.cols.length < 4294967296∧∀ r∈c.cols,r.length < 4294967296∧∀ e∈r,e < 18446744073709551616
  nodes:c.nodes.length < 4294967296
  all:(Ce.certC.w c).length≤99990000
theorem by4_len:∀ l:List Nat,(l.flatMap (Ce.byN 4)).length=4 * l.length
  | []=>rfl
  | x :: l=>by
    rw [List.flatMap_cons,List.length_append,Ce.byN_len,by4_len l,List.length_cons];omega
theorem cert_w (c:Ce.Cert):Ce.certC.w c=(Ce.lst Ce.byteC).w c.q++(Ce.byN 4 c.log++(c.root++(Ce.byN 4 c.sR++(Ce.byN 4 c.sC++(Ce.byN 4 c.sB++(Ce.byN 4 c.sT++((Ce.lst (Ce.numC 8)).w c.sums++((Ce.lst Ce.roundC).w c.rows++((Ce.lst Ce.lpC).w c.ps++((Ce.lst Ce.lpC).w c.pz++((Ce.lst Ce.roundC).w c.batch++(Ce.extC.w c.v++(Ce.roundC.w c.orow++(Ce.roundC.w c.ornd++((Ce.lst (Ce.lst Ce.wordC)).w c.cols++(Ce.lst (Ce.raw 32)).w c.nodes))))))))))))))):=rfl
theorem round_len (l:List (Nat × Nat)):(Ce.roundC.w l).length=4+(l.flatMap Ce.extC.w).length:=q9x _ _
theorem DecR.err {α:Type} {S:Ce.Ps α} {R:Rep α} {V:List Value→Value} {N:Nat→Prop} {p x:Nat} {l:List Nat} {w w':World} (hg:w.grownBy w' (some p)) (h:S l=.err x):DecR S R V N p l w (.panicked (erV x)) w':=⟨hg,by rw [h]⟩
theorem DecR.got {α:Type} {S:Ce.Ps α} {R:Rep α} {V:List Value→Value} {N:Nat→Prop} {p:Nat} {l r:List Nat} {a:α} {w w':World} (hg:w.grownBy w' (some p)) (h:S l=.got a r) (y:List Value) (hy:R (fun k=>w.heap.size≤k∧k < w'.heap.size) w' y a) (he:DecAt N p w' r):DecR S R V N p l w (.returned (V y)) w':=⟨hg,by rw [h];exact ⟨y,rfl,hy,he⟩⟩
abbrev hdV:List Value→Value:=fun y=>y.headD .nilIface
abbrev agV:List Value→Value:=fun y=>.agg y.toArray
theorem i64N {x:Nat} (h:x < 4294967296):IntKind.i64.wrap (x:Int)=(x:Int):=by rw [IntKind.wrap_i64];omega
theorem u64v_i64 {x:Nat} (h:x < 18446744073709551616):u64v (IntKind.i64.wrap (x:Int))=x:=by
  unfold u64v;rw [IntKind.wrap_i64];omega
theorem i64_rng (z:Int):-9223372036854775808≤IntKind.i64.wrap z∧IntKind.i64.wrap z≤9223372036854775807:=by rw [IntKind.wrap_i64];omega
theorem q7m (x:Nat) (w:World):Calls Tryz.prog 85 #[.int .u64 (x:Nat)] w fun e w'=>e=.returned (.bool (decide (x < Ce.pr)))∧w'=w:=by
  refine q0j Tryz.func85 rfl Tryz.ntmps85 rfl ?_;(refine q0b<|q0a<|a_B rfl<|q0c<|tn<|q0b<|q0a<|m_I rfl<|Ls (q2u rfl rfl)<|a_B rfl<|q0c<|tn<|q0t ?_);refine q0f rfl rfl (v:=.bool _) rfl ⟨?_,rfl⟩;have:(decide ((x:Int) < 18446744069414584321))=decide (x < Ce.pr):=by
    apply decide_eq_decide.2;unfold Ce.pr;omega
  rw [← this]
set_option maxRecDepth 100000 in
set_option maxHeartbeats 1000000 in
theorem dint (N:Nat→Prop) (p:Nat) (l:List Nat) (w:World) (he:DecAt N p w l) :
    Calls Tryz.prog 50 #[.pointer (some ⟨p,0,none⟩)] w fun e w'=>w.grownBy w' (some p)∧match Ce.num 4 l with
      | .err x=>e=.panicked (erV x)
      | .got a r=>e=.returned (.int .i64 (a:Nat))∧a < 4294967296∧DecAt N p w' r:=by
  refine q0j Tryz.func50 rfl Tryz.ntmps50 rfl ?_;have ct:=dfixed N p 4 l w (by omega) he;(refine q0b<|q0a<|a_I rfl<|q0c<|tn<|q0b<|q0a<|m_P rfl ?_);cases hS:Ce.num 4 l with
  | err x =>
    rw [hS] at ct;refine q5y ct rfl ?_;rintro e w1 ⟨hg1,rfl⟩;exact .inr ⟨_,rfl,rfl,hg1,rfl⟩
  | got a r =>
    rw [hS] at ct;refine L_fn ct rfl ?_;rintro e w1 ⟨hg1,rfl,ha,e1⟩;refine ⟨_,rfl,?_⟩;have ha':a < 4294967296:=ha;(refine Ls ((q6h rfl).trans (by rw [i64N ha']))<|a_I rfl<|q0c<|tn<|q0t ?_);exact q0f rfl rfl (v:=.int .i64 _) rfl ⟨hg1,rfl,ha,e1⟩
set_option maxRecDepth 100000 in
set_option maxHeartbeats 1000000 in
theorem dsum (N:Nat→Prop) (p:Nat) (l:List Nat) (w:World) (he:DecAt N p w l) :
    Calls Tryz.prog 53 #[.pointer (some ⟨p,0,none⟩)] w (DecR (Ce.numC 8).p sumR hdV N p l w):=by
  refine q0j Tryz.func53 rfl Tryz.ntmps53 rfl ?_;have ct:=dfixed N p 8 l w (by omega) he;(refine q0b<|q0a<|a_I rfl<|q0c<|tn<|q0b<|q0a<|m_P rfl ?_);cases hS:Ce.num 8 l with
  | err x =>
    rw [hS] at ct;refine q5y ct rfl ?_;rintro e w1 ⟨hg1,rfl⟩;exact .inr ⟨_,rfl,rfl,DecR.err hg1 hS⟩
  | got a r =>
    rw [hS] at ct;refine L_fn ct rfl ?_;rintro e w1 ⟨hg1,rfl,ha,e1⟩;refine ⟨_,rfl,?_⟩;(refine Ls (q6h rfl)<|a_I rfl<|q0c<|tn<|q0t ?_);exact q0f rfl rfl (v:=.int .i64 _) rfl (DecR.got hg1 hS [_] ⟨_,rfl,u64v_i64 ha,i64_rng _⟩ e1)
set_option maxRecDepth 100000 in
set_option maxHeartbeats 1000000 in
theorem dbyte (N:Nat→Prop) (p:Nat) (l:List Nat) (w:World) (he:DecAt N p w l) :
    Calls Tryz.prog 49 #[.pointer (some ⟨p,0,none⟩)] w (DecR Ce.byteC.p (numR .u8) hdV N p l w):=by
  refine q0j Tryz.func49 rfl Tryz.ntmps49 rfl ?_;have ct:=dtake N p 1 l w (by omega) he;have hb:∀ x,Ce.take 1 l=x→Ce.byteC.p l=x.bind fun a=>Ce.Ps.pure (Ce.numN a):=fun x h=>by rw [← h];rfl
  (refine q0b<|q0a<|a_I rfl<|q0c<|tn<|q0b<|q0a<|m_P rfl ?_);cases hS:Ce.take 1 l with
  | err x =>
    rw [hS] at ct;refine q5y ct rfl ?_;rintro e w1 ⟨hg1,rfl⟩;exact .inr ⟨_,rfl,rfl,DecR.err hg1 (hb _ hS)⟩
  | got a r =>
    rw [hS] at ct;refine L_fn ct rfl ?_;rintro e w1 ⟨hg1,v,rfl,hak,rv,e1⟩;refine ⟨_,rfl,?_⟩;obtain ⟨x,rfl⟩:∃ x,a=[x]:=by
      match a,hak with
      | [x],_=>exact ⟨x,rfl⟩
    obtain ⟨b,o,c',rfl,_,_,_,hcell⟩:=rv.at (k:=0) (by simp);(refine Ls (q0o (i:=0) rfl rfl (by simp))<|Ls (q2c rfl hcell (j:=0) (by omega) rfl)<|a_I rfl<|q0c<|tn<|q0t ?_);exact q0f rfl rfl (v:=.int .u8 _) rfl (DecR.got hg1 (hb _ hS) [.int .u8 ((Ce.numN [x]:Nat):Int)] rfl e1)
set_option maxRecDepth 100000 in
set_option maxHeartbeats 1000000 in
theorem ddigest (N:Nat→Prop) (p:Nat) (l:List Nat) (w:World) (he:DecAt N p w l) :
    Calls Tryz.prog 51 #[.pointer (some ⟨p,0,none⟩)] w (DecR (Ce.raw 32).p (byR 32) agV N p l w):=by
  refine q0j Tryz.func51 rfl Tryz.ntmps51 rfl ?_;(refine q0b<|q0a ?_);refine q1a ?_;intro g2 w2 B2 hg2 E2 hs2;have he2:=he.ext E2;have hpl:=he.lt;have ct:=dtake N p 32 l w2 (by omega) he2;(refine q0c<|tn<|q0b<|q0a<|m_P rfl ?_);cases hS:Ce.take 32 l with
  | err x =>
    rw [hS] at ct;refine q5y ct rfl ?_;rintro e w1 ⟨hg1,rfl⟩;exact .inr ⟨_,rfl,rfl,DecR.err (q0d (E2.row _) hg1 fun q h=>.inl h) hS⟩
  | got a r =>
    rw [hS] at ct;refine L_fn ct rfl ?_;rintro e w1 ⟨hg1,v,rfl,hak,rv,e1⟩;refine ⟨_,rfl,?_⟩;obtain ⟨b,o,c',rfl,_,_,_,hcell⟩:=rv.at (k:=0) (by omega);have B1:=B2.grown hg1 (by intro h;cases h;omega);have hcl:(ints .u8 a).length=32:=(by rw [q1e,hak]);refine Ls (X_s2ap (m:=32) rfl (by omega)) ?_;refine Ls (q2b (size:=32) (cs:=ints .u8 a) rfl hcell hcl) ?_;refine q0s rfl rfl hcl q4j B1 rfl ?_;intro w3 B3 hg3 hs3;(refine q0c<|tn<|q0t ?_);refine q1i rfl rfl (Res.cellA inferInstance rfl (B3.range (o:=0) (fun j u h=>by simpa using h)) hcl .nil) ?_;have hg13:=q0d (q0d (E2.row (some p)) hg1 fun q h=>.inl h) hg3 fun q h=>(by cases h;exact .inr (by omega));refine DecR.got hg13 hS (ints .u8 a) ⟨rfl,hak⟩ (e1.grown hg3 (by intro h;cases h;omega) fun q h k=>by cases h;have:=(he.n _ k).2;omega)
set_option maxRecDepth 100000 in
set_option maxHeartbeats 1000000 in
theorem dword (N:Nat→Prop) (p:Nat) (l:List Nat) (w:World) (he:DecAt N p w l) :
    Calls Tryz.prog 87 #[.pointer (some ⟨p,0,none⟩)] w (DecR Ce.wordC.p (numR .u64) hdV N p l w):=by
  refine q0j Tryz.func87 rfl Tryz.ntmps87 rfl ?_;have ct:=dfixed N p 8 l w (by omega) he;have hb:∀ x,Ce.num 8 l=x→Ce.wordC.p l=x.bind (Ce.chk fun x=>decide (x < Ce.pr)):=fun x h=>by rw [← h];rfl
  (refine q0b<|q0a<|a_I rfl<|q0c<|tn<|q0b<|q0a<|m_P rfl ?_);cases hS:Ce.num 8 l with
  | err x =>
    rw [hS] at ct;refine q5y ct rfl ?_;rintro e w1 ⟨hg1,rfl⟩;exact .inr ⟨_,rfl,rfl,DecR.err hg1 (hb _ hS)⟩
  | got a r =>
    rw [hS] at ct;refine L_fn ct rfl ?_;rintro e w1 ⟨hg1,rfl,ha,e1⟩;refine ⟨_,rfl,?_⟩;have hS2:=hb _ hS;(refine a_I rfl<|q0c<|tn<|q0b<|q0b<|q0a<|m_I rfl ?_);refine L_fn (q7m a w1) rfl ?_;rintro e _ ⟨rfl,rfl⟩;refine ⟨_,rfl,?_⟩;by_cases hv:a < Ce.pr
    · rw [decide_eq_true hv];(refine Ls (q1v rfl)<|q0c<|tn ?_);refine q7u rfl (fun h=>by cases h) (fun _=>?_);(refine q0p<|tn<|q0b<|q0a<|m_I rfl<|a_I rfl<|q0c<|tn<|q0t ?_);refine q0f rfl rfl (v:=.int .u64 _) rfl (DecR.got hg1 (hS2.trans ?_) [.int .u64 ((a:Nat):Int)] rfl e1);show Ce.chk (fun x=>decide (x < Ce.pr)) a r=_;unfold Ce.chk;rw [if_pos (decide_eq_true hv)]
    · rw [decide_eq_false hv];(refine Ls (q1v rfl)<|q0c<|tn ?_);refine q7u rfl (fun _=>?_) (fun h=>by cases h);(refine q0a ?_);refine Ls (q5w rfl) ?_;refine L_halt rfl rfl (q8n rfl) ?_;refine ⟨rfl,DecR.err hg1 (hS2.trans ?_)⟩;show Ce.chk (fun x=>decide (x < Ce.pr)) a r=_;unfold Ce.chk;rw [if_neg (by simpa using hv)]
theorem ext_err1 {l:List Nat} {x:Nat} (h:Ce.num 8 l=.err x):Ce.extC.p l=.err x:=by
  show ((Ce.num 8 l).bind _).bind _=_;rw [h];rfl
theorem ext_err2 {l r:List Nat} {a x:Nat} (h:Ce.num 8 l=.got a r) (h2:Ce.num 8 r=.err x):Ce.extC.p l=.err x:=by
  show ((Ce.num 8 l).bind _).bind _=_;rw [h];show ((Ce.num 8 r).bind _).bind _=_;rw [h2];rfl
theorem ext_got {l r r':List Nat} {a b:Nat} (h:Ce.num 8 l=.got a r) (h2:Ce.num 8 r=.got b r'):Ce.extC.p l=if decide (a < Ce.pr) && decide (b < Ce.pr) then .got (a,b) r' else .err 5:=by
  show ((Ce.num 8 l).bind _).bind _=_;rw [h];show ((Ce.num 8 r).bind _).bind _=_;rw [h2];rfl
set_option maxRecDepth 100000 in
set_option maxHeartbeats 2000000 in
theorem dext (N:Nat→Prop) (p:Nat) (l:List Nat) (w:World) (he:DecAt N p w l) :
    Calls Tryz.prog 58 #[.pointer (some ⟨p,0,none⟩)] w (DecR Ce.extC.p exR agV N p l w):=by
  refine q0j Tryz.func58 rfl Tryz.ntmps58 rfl ?_;(refine q0b<|q0a ?_);refine q1a ?_;intro g2 w2 B2 hg2 E2 hs2;have he2:=he.ext E2;have hpl:=he.lt;have ct:=dfixed N p 8 l w2 (by omega) he2;(refine q0c<|tn<|q0b<|q0a<|m_P rfl ?_);cases hS:Ce.num 8 l with
  | err x =>
    rw [hS] at ct;refine q5y ct rfl ?_;rintro e w3 ⟨hg3,rfl⟩;exact .inr ⟨_,rfl,rfl,DecR.err (q0d (E2.row _) hg3 fun q h=>.inl h) (ext_err1 hS)⟩
  | got a r =>
    rw [hS] at ct;refine L_fn ct rfl ?_;rintro e w3 ⟨hg3,rfl,ha,e3⟩;refine ⟨_,rfl,?_⟩;have ct:=dfixed N p 8 r w3 (by omega) e3;have hg23:=q0d (E2.row (some p)) hg3 fun q h=>.inl h;have B3:=B2.grown hg3 (by intro h;cases h;omega);(refine m_P rfl ?_);cases hS2:Ce.num 8 r with
    | err x =>
      rw [hS2] at ct;refine q5y ct rfl ?_;rintro e w4 ⟨hg4,rfl⟩;exact .inr ⟨_,rfl,rfl,DecR.err (q0d hg23 hg4 fun q h=>.inl h) (ext_err2 hS hS2)⟩
    | got b r' =>
      rw [hS2] at ct;refine L_fn ct rfl ?_;rintro e w4 ⟨hg4,rfl,hb,e4⟩;refine ⟨_,rfl,?_⟩;have hg24:=q0d hg23 hg4 fun q h=>.inl h;have B4:=B3.grown hg4 (by intro h;cases h;omega);refine Ls (X_mkEx rfl rfl) ?_;refine q1a ?_;intro g5 w5 B5 hg5 E5 hs5;refine q0s (l:=exC a b) rfl rfl rfl q4t B5 rfl ?_;intro w6 B6 hg6 hs6;have B4':=(B4.ext E5).grown hg6 (by intro h;cases h;have:=q1y B4;omega);have hs3:=hg3.size;have hs4:=hg4.size;have hg25:=q0d hg24 (E5.row (some p)) fun q h=>.inl h;have hg26:=q0d hg25 hg6 fun q h=>(by cases h;exact .inr (by omega));have e6:DecAt N p w6 r':=(e4.ext E5).grown hg6 (by intro h;cases h;omega) fun q h k=>(by cases h;have:=(he.n _ k).2;omega);have hx:=ext_got hS hS2;(refine q0c<|tn<|q0b<|q0b<|q0a<|Ls (q0h rfl)<|Ls (X_ld rfl B6 rfl) ?_);refine L_fn (q7m a w6) rfl ?_;rintro e w6 ⟨rfl,rfl⟩;refine ⟨_,rfl,?_⟩;by_cases hv:a < Ce.pr
      · rw [decide_eq_true hv];(refine Ls (q1v rfl)<|m_B rfl<|Lg2 rfl rfl rfl (q0h rfl)<|Lg2 rfl rfl rfl (X_ld rfl B6 rfl) ?_);refine q1o rfl rfl rfl ?_;refine L_fn (q7m b w6) rfl ?_;rintro e w6 ⟨rfl,rfl⟩;refine ⟨_,rfl,?_⟩;by_cases hv2:b < Ce.pr
        · rw [decide_eq_true hv2];(refine Lg2 rfl rfl rfl (q1v rfl)<|Ls (q0n (v:=.bool _) rfl rfl)<|q0c<|tn<|q0k rfl<|q0p<|tn<|q0b<|q0a<|Ls (q3h rfl B6 rfl) ?_);refine q0s (l:=exC a b) rfl rfl rfl q4t B4' rfl ?_;intro w7 B7 hg7 hs7;(refine q0c<|tn<|q0t ?_);refine q1i rfl rfl (Res.cellA inferInstance rfl (B7.range (o:=0) (fun j u h=>by simpa using h)) rfl .nil) ?_;refine DecR.got (a:=(a,b)) (q0d hg26 hg7 fun q h=>by cases h;exact .inr (by omega)) (hx.trans ?_) (exC a b) rfl (e6.grown hg7 (by intro h;cases h;omega) fun q h k=>by cases h;have:=(he.n _ k).2;omega);rw [if_pos (by simp [hv,hv2])]
        · rw [decide_eq_false hv2];(refine Lg2 rfl rfl rfl (q1v rfl)<|Ls (q0n (v:=.bool _) rfl rfl)<|q0c<|tn<|q0q rfl<|q0a ?_);refine Ls (q5w rfl) ?_;refine L_halt rfl rfl (q8n rfl) ?_;refine ⟨rfl,DecR.err hg26 (hx.trans ?_)⟩;rw [if_neg (by simp [hv2])]
      · rw [decide_eq_false hv];(refine Ls (q1v rfl)<|m_B rfl<|Lo2 rfl rfl rfl rfl<|Lo2 rfl rfl rfl rfl<|Lo2 rfl rfl rfl rfl<|Lo2 rfl rfl rfl rfl<|Ls (q0m (v:=.bool _) rfl rfl)<|q0c<|tn<|q0q rfl<|q0a ?_);refine Ls (q5w rfl) ?_;refine L_halt rfl rfl (q8n rfl) ?_;refine ⟨rfl,DecR.err hg26 (hx.trans ?_)⟩;rw [if_neg (by simp [hv])]
end Go.Proofs.YtadfjnnildflkaaGreatDoor
namespace Ce
def Res.app {α:Type} (xs:List α):Res (List α)→Res (List α)
  | .err e=>.err e
  | .got l r=>.got (xs++l) r
theorem Res.app_nil {α:Type} (x:Res (List α)):Res.app [] x=x:=by cases x <;> rfl
theorem Res.app_app {α:Type} (xs ys:List α) (x:Res (List α)):Res.app xs (Res.app ys x)=Res.app (xs++ys) x:=by
  cases x with
  | err e=>rfl
  | got l r =>
    show Res.got (xs++(ys++l)) r=Res.got (xs++ys++l) r;rw [List.append_assoc]
theorem rep_err {α:Type} {p:Ps α} {b:List Nat} {e:Nat} (h:p b=.err e) (n:Nat):rep p (n+1) b=.err e:=by
  rw [rep_step,h];rfl
theorem rep_got {α:Type} {p:Ps α} {b r:List Nat} {a:α} (h:p b=.got a r) (n:Nat):rep p (n+1) b=Res.app [a] (rep p n r):=by
  rw [rep_step,h];show (rep p n r).bind _=_;cases rep p n r <;> rfl
end Ce
namespace Go.Proofs.YtadfjnnildflkaaGreatDoor
open Go.RowKit Go.Proofs.K
def DecF (id:FuncId) (first cap:Array Value) (p:Nat) (N:Nat→Prop) {α:Type} (S:Ce.Ps α) (R:Rep α) (V:List Value→Value):Prop :=
  ∀ (w:World) (l:List Nat),DecAt N p w l→Calls Tryz.prog id (first++#[]++cap) w (DecR S R V N p l w)
structure OutAt {α:Type} (T:TypeId) (size:Nat) (R:Rep α) (w0 w:World) (v:Value) (xs:List α):Prop where
  h:∃ ys:List (List Value),ys.length=xs.length∧(∀ y∈ys,y.length=size)∧w.ownsRow w0.heap.size T size v xs.length ys.flatten∧∀ (i:Nat) (y:List Value) (a:α),ys[i]?=some y→xs[i]?=some a→R (fun k=>w0.heap.size≤k∧k < w.heap.size∧v.ownBlock ≠ some k) w y a
theorem OutAt.other {α:Type} {T:TypeId} {size:Nat} {R:Rep α} (hR:R.Ok) {w0 w w':World} {v:Value} {xs:List α} {p:Nat} (h:OutAt T size R w0 w v xs) (hg:w.grownBy w' (some p)) (hp:p < w0.heap.size):OutAt T size R w0 w' v xs:=by
  obtain ⟨ys,h1,h2,h3,h4⟩:=h;refine ⟨ys,h1,h2,q6n h3 hg (fun g hg' e=>?_),fun i y a hy ha=>hR.mono (hR.grown (h4 i y a hy ha) hg fun q hq k=>?_) fun k hk=>⟨hk.1,Nat.lt_of_lt_of_le hk.2.1 hg.size,hk.2.2⟩⟩
  · have:=(h3.lt g hg').1;cases e
    omega
  · cases hq
    omega
theorem OutAt.ext {α:Type} {T:TypeId} {size:Nat} {R:Rep α} (hR:R.Ok) {w0 w w':World} {v:Value} {xs:List α} (h:OutAt T size R w0 w v xs) (E:Ext w w'):OutAt T size R w0 w' v xs:=by
  obtain ⟨ys,h1,h2,h3,h4⟩:=h;exact ⟨ys,h1,h2,q2x h3 E,fun i y a hy ha=>hR.mono (hR.ext (h4 i y a hy ha) E) fun k hk=>⟨hk.1,Nat.lt_of_lt_of_le hk.2.1 E.size,hk.2.2⟩⟩
theorem OutAt.app {α:Type} {T:TypeId} {size:Nat} {R:Rep α} (hR:R.Ok) {w0 w1 w w':World} {v v':Value} {xs:List α} {a:α} {y:List Value} {ys:List (List Value)} (h1:ys.length=xs.length) (h2:∀ y∈ys,y.length=size) (h3:w.ownsRow w0.heap.size T size v xs.length ys.flatten)
    (h4:∀ (i:Nat) (y:List Value) (a:α),ys[i]?=some y→xs[i]?=some a→R (fun k=>w0.heap.size≤k∧k < w.heap.size∧v.ownBlock ≠ some k) w y a) (hy:R (fun k=>w1.heap.size≤k∧k < w.heap.size) w y a) (hyl:y.length=size)
    (h0:w0.heap.size≤w1.heap.size) (hv1:∀ q,v.ownBlock=some q→q < w1.heap.size)
    (ho:w'.ownsRow w0.heap.size T size v' (xs.length+1) (ys.flatten++y)) (hg:w.grownBy w' v.ownBlock) (hb:v'.ownBlock=v.ownBlock∨v'.ownBlock=some w.heap.size):OutAt T size R w0 w' v' (xs++[a]):=by
  have hlt:=h3.lt;have hs:=hg.size;refine ⟨ys++[y],by simp [h1],fun u hu=>?_,?_,fun i u b hu hb'=>?_⟩
  · rcases List.mem_append.1 hu with hu | hu
    · exact h2 u hu
    · rw [List.mem_singleton.1 hu];exact hyl
  · rw [List.flatten_append,List.length_append];simpa using ho
  · rcases Nat.lt_trichotomy i xs.length with hi | hi | hi
    · rw [List.getElem?_append_left (by omega)] at hu hb';refine hR.mono (hR.grown (h4 i u b hu hb') hg fun q hq k=>k.2.2 hq) fun k hk=>⟨hk.1,by omega,fun e=>?_⟩;rcases hb with hb | hb
      · rw [hb] at e;exact hk.2.2 e
      · rw [hb] at e;cases e;omega
    · subst hi;rw [List.getElem?_append_right (by omega),h1,Nat.sub_self] at hu;rw [List.getElem?_append_right (by omega),Nat.sub_self] at hb';cases hu
      cases hb'
      refine hR.mono (hR.grown hy hg fun q hq k=>?_) fun k hk=>⟨by omega,by omega,fun e=>?_⟩
      · have:=hv1 q hq;omega
      · rcases hb with hb | hb
        · rw [hb] at e;have:=hv1 k e;omega
        · rw [hb] at e;cases e;omega
    · rw [List.getElem?_append_right (by omega),List.getElem?_eq_none (by simp;omega)] at hb';cases hb'
theorem OutAt.slR {α:Type} {T:TypeId} {size:Nat} {R:Rep α} (hR:R.Ok) {w0 w:World} {v:Value} {xs:List α} (h:OutAt T size R w0 w v xs):slR size R (fun k=>w0.heap.size≤k∧k < w.heap.size) w [v] xs:=by
  obtain ⟨ys,h1,h2,h3,h4⟩:=h;exact ⟨v,rfl,ys,h1,h2,RowN.of_own h3,fun i y a hy ha=>hR.mono (h4 i y a hy ha) fun k hk=>⟨hk.1,hk.2.1⟩⟩
theorem OutAt.cell1 {α:Type} {T:TypeId} {size:Nat} {R:Rep α} {w0 w:World} {v:Value} {xs:List α} (h:OutAt T size R w0 w v xs):v.oneCell'=true:=by
  obtain ⟨ys,h1,h2,h3,h4⟩:=h;exact q6k (Row.of_own h3)
set_option maxRecDepth 100000 in
set_option maxHeartbeats 1000000 in
theorem delB {α:Type} {R:Rep α} (hR:R.Ok) (hz:∀ {N:Nat→Prop} {w:World} {y:List Value} {a:α},R N w y a→y.length=1) (id:FuncId) [TFun Tryz.prog id] (first cap:Array Value) (N:Nat→Prop) (p:Nat) (S:Ce.Ps α) (l:List Nat) (w:World)
    (hf:DecF id first cap p N S R hdV) (he:DecAt N p w l) :
    Calls Tryz.prog 48 #[.pointer (some ⟨p,0,none⟩),.func (.func id) first cap] w (DecR (Ce.els S) (slR 1 R) hdV N p l w):=by
  refine q0j Tryz.func48 rfl Tryz.ntmps48 rfl ?_;have ct:=dint N p l w he;have hb:∀ x,Ce.num 4 l=x→Ce.els S l=x.bind (Ce.rep S):=fun x h=>by rw [← h];rfl
  have hpl:=he.lt;(refine q0b<|q0a<|a_S rfl<|q0c<|tn<|q0b<|q0a<|a_S rfl<|q0c<|tn<|q0b<|q0b<|q0a<|m_P rfl ?_);cases hS:Ce.num 4 l with
  | err x =>
    rw [hS] at ct;refine q5y ct rfl ?_;rintro e w1 ⟨hg1,rfl⟩;exact .inr ⟨_,rfl,rfl,DecR.err hg1 (hb _ hS)⟩
  | got m r =>
    rw [hS] at ct;refine L_fn ct rfl ?_;rintro e w1 ⟨hg1,rfl,hm,e1⟩;refine ⟨_,rfl,?_⟩;have hS2:Ce.els S l=Ce.rep S m r:=hb _ hS;clear hS hb ct;(refine m_I rfl<|q0c<|tn<|q0l ?_);refine q1p (fun q f w'=>∃ i xs v l',q=m - i∧i≤m∧f 1=.func (.func id) first cap∧f 5=v∧f 7=.int .i64 (m:Nat)∧f 8=.int .i64 (i:Nat)∧xs.length=i∧OutAt 5 1 R w w' v xs∧w.grownBy w' (some p)∧DecAt N p w' l'∧Ce.els S l=Ce.Res.app xs (Ce.rep S (m - i) l')) m ?_ ?_
    · refine ⟨0,[],.slice none 0 0,r,rfl,by omega,rfl,rfl,rfl,rfl,rfl,⟨[],rfl,(fun _ h=>by cases h),⟨rfl,.inl ⟨rfl,rfl⟩⟩,(fun _ _ _ h=>by cases h)⟩,hg1,e1,?_⟩;rw [Ce.Res.app_nil];exact hS2
    · rintro q f w2 ⟨i,xs,v,l',rfl,hi,f1,f5,f7,f8,hxs,ho,hg2,e2,hdec⟩;rw [fold f1,fold f5,fold f7,fold f8];have hv:=ho.cell1;(refine q0b<|q0a<|Ls (q2u rfl rfl)<|q0c<|tn<|q0b ?_);refine q1j rfl (fun h=>?_) (fun h=>?_)
      · have hi':i < m:=(by omega);have ct:=hf w2 l' e2;(refine q0p<|tn<|q0b<|q0l<|q0a<|Ls (q0e (v:=v) rfl)<|Ls (q0e (v:=.func _ _ _) rfl) ?_);rw [show m - i=(m - (i+1))+1 by omega] at hdec;cases hS3:S l' with
        | err x =>
          refine q7v (vl:=[]) rfl ct rfl ?_;rintro e w3 ⟨hg3,h3⟩;rw [hS3] at h3;obtain rfl:e=_:=h3;refine .inr ⟨_,rfl,rfl,DecR.err (q0d hg2 hg3 fun q h=>.inl h) ?_⟩;rw [hdec,Ce.rep_err hS3];rfl
        | got a r' =>
          refine q4p (vl:=[]) rfl ct rfl ?_;rintro e w3 ⟨hg3,h3⟩;rw [hS3] at h3;obtain ⟨y,rfl,hy,e3⟩:=h3;refine ⟨_,rfl,?_⟩;rw [Ce.rep_got hS3,Ce.Res.app_app] at hdec;have hyl:=hz hy;have hg23:=q0d hg2 hg3 fun q h=>.inl h;have hvb:∀ q,v.ownBlock=some q→q < w2.heap.size:=by
            obtain ⟨ys,_,_,h3,_⟩:=ho;exact fun q hq=>(h3.lt q hq).2
          have ho3:=ho.other hR hg3 hpl;obtain ⟨u,rfl⟩:∃ u,y=[u]:=by
            match y,hyl with
            | [u],_=>exact ⟨u,rfl⟩
          have hu1:=hR.one hy u (List.mem_singleton.2 rfl);refine q6i (v:=u) rfl hu1 ?_;intro u4 w4 r4 E4 hs4 _;obtain ⟨ys,y1,y2,own4,yR⟩:=(ho3.ext hR E4).h;have e4:=e3.ext E4;have hg4:=q0d hg23 (E4.row (some p)) fun q h=>.inl h;have hs4:=E4.size;have hs3:=hg3.size;have hs2:=hg2.size;have hy4:R (fun k=>w2.heap.size≤k∧k < w4.heap.size) w4 [u] a:=hR.mono (hR.ext hy E4) fun k hk=>⟨hk.1,by omega⟩;refine q2d rfl rfl own4 r4 (fun q hq=>by rw [List.mem_singleton.1 hq];exact hu1) (by omega) (by omega) (by omega) ?_;intro v5 w5 o5 hg5 hb5;have ho5:=OutAt.app (a:=a) hR y1 y2 own4 yR hy4 hyl hs2 hvb o5 hg5 hb5;have hv5:=ho5.cell1;have hg05:=q0d hg4 hg5 fun q hq=>.inr ((own4.lt q hq).1);have hpv:v.ownBlock ≠ some p:=fun e=>(by have:=(own4.lt p e).1;omega);have e5:DecAt N p w5 r':=e4.grown hg5 hpv fun q hq k=>(by have:=(own4.lt q hq).1;have:=(he.n q k).2;omega);(refine Ls (q0i (v:=v5) rfl)<|q0c<|bn<|tn<|q0a<|Ls (q1q rfl rfl (by omega))<|m_I rfl<|q0c<|tn ?_);exact ⟨m - (i+1),by omega,i+1,xs++[a],v5,r',rfl,by omega,rfl,rfl,rfl,rfl,by rw [List.length_append,hxs];rfl,ho5,hg05,e5,hdec⟩
      · obtain rfl:i=m:=(by omega);(refine q1l<|te<|te<|bx<|tn<|q0b<|q0a<|Ls (q0e (v:=v) rfl)<|Ls (q0i (v:=v) rfl)<|q0c<|tn<|q0t ?_);refine q0f rfl rfl (v:=v) rfl ?_;rw [Nat.sub_self] at hdec;refine DecR.got hg2 (hdec.trans (show _=Ce.Res.got xs l' from ?_)) [v] (ho.slR hR) e2;show Ce.Res.got (xs++[]) l'=_;rw [List.append_nil]
set_option maxRecDepth 100000 in
set_option maxHeartbeats 1000000 in
theorem delI {α:Type} {R:Rep α} (hR:R.Ok) (hz:∀ {N:Nat→Prop} {w:World} {y:List Value} {a:α},R N w y a→y.length=1) (id:FuncId) [TFun Tryz.prog id] (first cap:Array Value) (N:Nat→Prop) (p:Nat) (S:Ce.Ps α) (l:List Nat) (w:World)
    (hf:DecF id first cap p N S R hdV) (he:DecAt N p w l) :
    Calls Tryz.prog 52 #[.pointer (some ⟨p,0,none⟩),.func (.func id) first cap] w (DecR (Ce.els S) (slR 1 R) hdV N p l w):=by
  refine q0j Tryz.func52 rfl Tryz.ntmps52 rfl ?_;have ct:=dint N p l w he;have hb:∀ x,Ce.num 4 l=x→Ce.els S l=x.bind (Ce.rep S):=fun x h=>by rw [← h];rfl
  have hpl:=he.lt;(refine q0b<|q0a<|a_S rfl<|q0c<|tn<|q0b<|q0a<|a_S rfl<|q0c<|tn<|q0b<|q0b<|q0a<|m_P rfl ?_);cases hS:Ce.num 4 l with
  | err x =>
    rw [hS] at ct;refine q5y ct rfl ?_;rintro e w1 ⟨hg1,rfl⟩;exact .inr ⟨_,rfl,rfl,DecR.err hg1 (hb _ hS)⟩
  | got m r =>
    rw [hS] at ct;refine L_fn ct rfl ?_;rintro e w1 ⟨hg1,rfl,hm,e1⟩;refine ⟨_,rfl,?_⟩;have hS2:Ce.els S l=Ce.rep S m r:=hb _ hS;clear hS hb ct;(refine m_I rfl<|q0c<|tn<|q0l ?_);refine q1p (fun q f w'=>∃ i xs v l',q=m - i∧i≤m∧f 1=.func (.func id) first cap∧f 5=v∧f 7=.int .i64 (m:Nat)∧f 8=.int .i64 (i:Nat)∧xs.length=i∧OutAt 2 1 R w w' v xs∧w.grownBy w' (some p)∧DecAt N p w' l'∧Ce.els S l=Ce.Res.app xs (Ce.rep S (m - i) l')) m ?_ ?_
    · refine ⟨0,[],.slice none 0 0,r,rfl,by omega,rfl,rfl,rfl,rfl,rfl,⟨[],rfl,(fun _ h=>by cases h),⟨rfl,.inl ⟨rfl,rfl⟩⟩,(fun _ _ _ h=>by cases h)⟩,hg1,e1,?_⟩;rw [Ce.Res.app_nil];exact hS2
    · rintro q f w2 ⟨i,xs,v,l',rfl,hi,f1,f5,f7,f8,hxs,ho,hg2,e2,hdec⟩;rw [fold f1,fold f5,fold f7,fold f8];have hv:=ho.cell1;(refine q0b<|q0a<|Ls (q2u rfl rfl)<|q0c<|tn<|q0b ?_);refine q1j rfl (fun h=>?_) (fun h=>?_)
      · have hi':i < m:=(by omega);have ct:=hf w2 l' e2;(refine q0p<|tn<|q0b<|q0l<|q0a<|Ls (q0e (v:=v) rfl)<|Ls (q0e (v:=.func _ _ _) rfl) ?_);rw [show m - i=(m - (i+1))+1 by omega] at hdec;cases hS3:S l' with
        | err x =>
          refine q7v (vl:=[]) rfl ct rfl ?_;rintro e w3 ⟨hg3,h3⟩;rw [hS3] at h3;obtain rfl:e=_:=h3;refine .inr ⟨_,rfl,rfl,DecR.err (q0d hg2 hg3 fun q h=>.inl h) ?_⟩;rw [hdec,Ce.rep_err hS3];rfl
        | got a r' =>
          refine q4p (vl:=[]) rfl ct rfl ?_;rintro e w3 ⟨hg3,h3⟩;rw [hS3] at h3;obtain ⟨y,rfl,hy,e3⟩:=h3;refine ⟨_,rfl,?_⟩;rw [Ce.rep_got hS3,Ce.Res.app_app] at hdec;have hyl:=hz hy;have hg23:=q0d hg2 hg3 fun q h=>.inl h;have hvb:∀ q,v.ownBlock=some q→q < w2.heap.size:=by
            obtain ⟨ys,_,_,h3,_⟩:=ho;exact fun q hq=>(h3.lt q hq).2
          have ho3:=ho.other hR hg3 hpl;obtain ⟨u,rfl⟩:∃ u,y=[u]:=by
            match y,hyl with
            | [u],_=>exact ⟨u,rfl⟩
          have hu1:=hR.one hy u (List.mem_singleton.2 rfl);refine q6i (v:=u) rfl hu1 ?_;intro u4 w4 r4 E4 hs4 _;obtain ⟨ys,y1,y2,own4,yR⟩:=(ho3.ext hR E4).h;have e4:=e3.ext E4;have hg4:=q0d hg23 (E4.row (some p)) fun q h=>.inl h;have hs4:=E4.size;have hs3:=hg3.size;have hs2:=hg2.size;have hy4:R (fun k=>w2.heap.size≤k∧k < w4.heap.size) w4 [u] a:=hR.mono (hR.ext hy E4) fun k hk=>⟨hk.1,by omega⟩;refine q2d rfl rfl own4 r4 (fun q hq=>by rw [List.mem_singleton.1 hq];exact hu1) (by omega) (by omega) (by omega) ?_;intro v5 w5 o5 hg5 hb5;have ho5:=OutAt.app (a:=a) hR y1 y2 own4 yR hy4 hyl hs2 hvb o5 hg5 hb5;have hv5:=ho5.cell1;have hg05:=q0d hg4 hg5 fun q hq=>.inr ((own4.lt q hq).1);have hpv:v.ownBlock ≠ some p:=fun e=>(by have:=(own4.lt p e).1;omega);have e5:DecAt N p w5 r':=e4.grown hg5 hpv fun q hq k=>(by have:=(own4.lt q hq).1;have:=(he.n q k).2;omega);(refine Ls (q0i (v:=v5) rfl)<|q0c<|bn<|tn<|q0a<|Ls (q1q rfl rfl (by omega))<|m_I rfl<|q0c<|tn ?_);exact ⟨m - (i+1),by omega,i+1,xs++[a],v5,r',rfl,by omega,rfl,rfl,rfl,rfl,by rw [List.length_append,hxs];rfl,ho5,hg05,e5,hdec⟩
      · obtain rfl:i=m:=(by omega);(refine q1l<|te<|te<|bx<|tn<|q0b<|q0a<|Ls (q0e (v:=v) rfl)<|Ls (q0i (v:=v) rfl)<|q0c<|tn<|q0t ?_);refine q0f rfl rfl (v:=v) rfl ?_;rw [Nat.sub_self] at hdec;refine DecR.got hg2 (hdec.trans (show _=Ce.Res.got xs l' from ?_)) [v] (ho.slR hR) e2;show Ce.Res.got (xs++[]) l'=_;rw [List.append_nil]
set_option maxRecDepth 100000 in
set_option maxHeartbeats 1000000 in
theorem delR {α:Type} {R:Rep α} (hR:R.Ok) (hz:∀ {N:Nat→Prop} {w:World} {y:List Value} {a:α},R N w y a→y.length=1) (id:FuncId) [TFun Tryz.prog id] (first cap:Array Value) (N:Nat→Prop) (p:Nat) (S:Ce.Ps α) (l:List Nat) (w:World)
    (hf:DecF id first cap p N S R hdV) (he:DecAt N p w l) :
    Calls Tryz.prog 54 #[.pointer (some ⟨p,0,none⟩),.func (.func id) first cap] w (DecR (Ce.els S) (slR 1 R) hdV N p l w):=by
  refine q0j Tryz.func54 rfl Tryz.ntmps54 rfl ?_;have ct:=dint N p l w he;have hb:∀ x,Ce.num 4 l=x→Ce.els S l=x.bind (Ce.rep S):=fun x h=>by rw [← h];rfl
  have hpl:=he.lt;(refine q0b<|q0a<|a_S rfl<|q0c<|tn<|q0b<|q0a<|a_S rfl<|q0c<|tn<|q0b<|q0b<|q0a<|m_P rfl ?_);cases hS:Ce.num 4 l with
  | err x =>
    rw [hS] at ct;refine q5y ct rfl ?_;rintro e w1 ⟨hg1,rfl⟩;exact .inr ⟨_,rfl,rfl,DecR.err hg1 (hb _ hS)⟩
  | got m r =>
    rw [hS] at ct;refine L_fn ct rfl ?_;rintro e w1 ⟨hg1,rfl,hm,e1⟩;refine ⟨_,rfl,?_⟩;have hS2:Ce.els S l=Ce.rep S m r:=hb _ hS;clear hS hb ct;(refine m_I rfl<|q0c<|tn<|q0l ?_);refine q1p (fun q f w'=>∃ i xs v l',q=m - i∧i≤m∧f 1=.func (.func id) first cap∧f 5=v∧f 7=.int .i64 (m:Nat)∧f 8=.int .i64 (i:Nat)∧xs.length=i∧OutAt 35 1 R w w' v xs∧w.grownBy w' (some p)∧DecAt N p w' l'∧Ce.els S l=Ce.Res.app xs (Ce.rep S (m - i) l')) m ?_ ?_
    · refine ⟨0,[],.slice none 0 0,r,rfl,by omega,rfl,rfl,rfl,rfl,rfl,⟨[],rfl,(fun _ h=>by cases h),⟨rfl,.inl ⟨rfl,rfl⟩⟩,(fun _ _ _ h=>by cases h)⟩,hg1,e1,?_⟩;rw [Ce.Res.app_nil];exact hS2
    · rintro q f w2 ⟨i,xs,v,l',rfl,hi,f1,f5,f7,f8,hxs,ho,hg2,e2,hdec⟩;rw [fold f1,fold f5,fold f7,fold f8];have hv:=ho.cell1;(refine q0b<|q0a<|Ls (q2u rfl rfl)<|q0c<|tn<|q0b ?_);refine q1j rfl (fun h=>?_) (fun h=>?_)
      · have hi':i < m:=(by omega);have ct:=hf w2 l' e2;(refine q0p<|tn<|q0b<|q0l<|q0a<|Ls (q0e (v:=v) rfl)<|Ls (q0e (v:=.func _ _ _) rfl) ?_);rw [show m - i=(m - (i+1))+1 by omega] at hdec;cases hS3:S l' with
        | err x =>
          refine q7v (vl:=[]) rfl ct rfl ?_;rintro e w3 ⟨hg3,h3⟩;rw [hS3] at h3;obtain rfl:e=_:=h3;refine .inr ⟨_,rfl,rfl,DecR.err (q0d hg2 hg3 fun q h=>.inl h) ?_⟩;rw [hdec,Ce.rep_err hS3];rfl
        | got a r' =>
          refine q4p (vl:=[]) rfl ct rfl ?_;rintro e w3 ⟨hg3,h3⟩;rw [hS3] at h3;obtain ⟨y,rfl,hy,e3⟩:=h3;refine ⟨_,rfl,?_⟩;rw [Ce.rep_got hS3,Ce.Res.app_app] at hdec;have hyl:=hz hy;have hg23:=q0d hg2 hg3 fun q h=>.inl h;have hvb:∀ q,v.ownBlock=some q→q < w2.heap.size:=by
            obtain ⟨ys,_,_,h3,_⟩:=ho;exact fun q hq=>(h3.lt q hq).2
          have ho3:=ho.other hR hg3 hpl;obtain ⟨u,rfl⟩:∃ u,y=[u]:=by
            match y,hyl with
            | [u],_=>exact ⟨u,rfl⟩
          have hu1:=hR.one hy u (List.mem_singleton.2 rfl);refine q6i (v:=u) rfl hu1 ?_;intro u4 w4 r4 E4 hs4 _;obtain ⟨ys,y1,y2,own4,yR⟩:=(ho3.ext hR E4).h;have e4:=e3.ext E4;have hg4:=q0d hg23 (E4.row (some p)) fun q h=>.inl h;have hs4:=E4.size;have hs3:=hg3.size;have hs2:=hg2.size;have hy4:R (fun k=>w2.heap.size≤k∧k < w4.heap.size) w4 [u] a:=hR.mono (hR.ext hy E4) fun k hk=>⟨hk.1,by omega⟩;refine q2d rfl rfl own4 r4 (fun q hq=>by rw [List.mem_singleton.1 hq];exact hu1) (by omega) (by omega) (by omega) ?_;intro v5 w5 o5 hg5 hb5;have ho5:=OutAt.app (a:=a) hR y1 y2 own4 yR hy4 hyl hs2 hvb o5 hg5 hb5;have hv5:=ho5.cell1;have hg05:=q0d hg4 hg5 fun q hq=>.inr ((own4.lt q hq).1);have hpv:v.ownBlock ≠ some p:=fun e=>(by have:=(own4.lt p e).1;omega);have e5:DecAt N p w5 r':=e4.grown hg5 hpv fun q hq k=>(by have:=(own4.lt q hq).1;have:=(he.n q k).2;omega);(refine Ls (q0i (v:=v5) rfl)<|q0c<|bn<|tn<|q0a<|Ls (q1q rfl rfl (by omega))<|m_I rfl<|q0c<|tn ?_);exact ⟨m - (i+1),by omega,i+1,xs++[a],v5,r',rfl,by omega,rfl,rfl,rfl,rfl,by rw [List.length_append,hxs];rfl,ho5,hg05,e5,hdec⟩
      · obtain rfl:i=m:=(by omega);(refine q1l<|te<|te<|bx<|tn<|q0b<|q0a<|Ls (q0e (v:=v) rfl)<|Ls (q0i (v:=v) rfl)<|q0c<|tn<|q0t ?_);refine q0f rfl rfl (v:=v) rfl ?_;rw [Nat.sub_self] at hdec;refine DecR.got hg2 (hdec.trans (show _=Ce.Res.got xs l' from ?_)) [v] (ho.slR hR) e2;show Ce.Res.got (xs++[]) l'=_;rw [List.append_nil]
set_option maxRecDepth 100000 in
set_option maxHeartbeats 1000000 in
theorem delC {α:Type} {R:Rep α} (hR:R.Ok) (hz:∀ {N:Nat→Prop} {w:World} {y:List Value} {a:α},R N w y a→y.length=1) (id:FuncId) [TFun Tryz.prog id] (first cap:Array Value) (N:Nat→Prop) (p:Nat) (S:Ce.Ps α) (l:List Nat) (w:World)
    (hf:DecF id first cap p N S R hdV) (he:DecAt N p w l) :
    Calls Tryz.prog 60 #[.pointer (some ⟨p,0,none⟩),.func (.func id) first cap] w (DecR (Ce.els S) (slR 1 R) hdV N p l w):=by
  refine q0j Tryz.func60 rfl Tryz.ntmps60 rfl ?_;have ct:=dint N p l w he;have hb:∀ x,Ce.num 4 l=x→Ce.els S l=x.bind (Ce.rep S):=fun x h=>by rw [← h];rfl
  have hpl:=he.lt;(refine q0b<|q0a<|a_S rfl<|q0c<|tn<|q0b<|q0a<|a_S rfl<|q0c<|tn<|q0b<|q0b<|q0a<|m_P rfl ?_);cases hS:Ce.num 4 l with
  | err x =>
    rw [hS] at ct;refine q5y ct rfl ?_;rintro e w1 ⟨hg1,rfl⟩;exact .inr ⟨_,rfl,rfl,DecR.err hg1 (hb _ hS)⟩
  | got m r =>
    rw [hS] at ct;refine L_fn ct rfl ?_;rintro e w1 ⟨hg1,rfl,hm,e1⟩;refine ⟨_,rfl,?_⟩;have hS2:Ce.els S l=Ce.rep S m r:=hb _ hS;clear hS hb ct;(refine m_I rfl<|q0c<|tn<|q0l ?_);refine q1p (fun q f w'=>∃ i xs v l',q=m - i∧i≤m∧f 1=.func (.func id) first cap∧f 5=v∧f 7=.int .i64 (m:Nat)∧f 8=.int .i64 (i:Nat)∧xs.length=i∧OutAt 68 1 R w w' v xs∧w.grownBy w' (some p)∧DecAt N p w' l'∧Ce.els S l=Ce.Res.app xs (Ce.rep S (m - i) l')) m ?_ ?_
    · refine ⟨0,[],.slice none 0 0,r,rfl,by omega,rfl,rfl,rfl,rfl,rfl,⟨[],rfl,(fun _ h=>by cases h),⟨rfl,.inl ⟨rfl,rfl⟩⟩,(fun _ _ _ h=>by cases h)⟩,hg1,e1,?_⟩;rw [Ce.Res.app_nil];exact hS2
    · rintro q f w2 ⟨i,xs,v,l',rfl,hi,f1,f5,f7,f8,hxs,ho,hg2,e2,hdec⟩;rw [fold f1,fold f5,fold f7,fold f8];have hv:=ho.cell1;(refine q0b<|q0a<|Ls (q2u rfl rfl)<|q0c<|tn<|q0b ?_);refine q1j rfl (fun h=>?_) (fun h=>?_)
      · have hi':i < m:=(by omega);have ct:=hf w2 l' e2;(refine q0p<|tn<|q0b<|q0l<|q0a<|Ls (q0e (v:=v) rfl)<|Ls (q0e (v:=.func _ _ _) rfl) ?_);rw [show m - i=(m - (i+1))+1 by omega] at hdec;cases hS3:S l' with
        | err x =>
          refine q7v (vl:=[]) rfl ct rfl ?_;rintro e w3 ⟨hg3,h3⟩;rw [hS3] at h3;obtain rfl:e=_:=h3;refine .inr ⟨_,rfl,rfl,DecR.err (q0d hg2 hg3 fun q h=>.inl h) ?_⟩;rw [hdec,Ce.rep_err hS3];rfl
        | got a r' =>
          refine q4p (vl:=[]) rfl ct rfl ?_;rintro e w3 ⟨hg3,h3⟩;rw [hS3] at h3;obtain ⟨y,rfl,hy,e3⟩:=h3;refine ⟨_,rfl,?_⟩;rw [Ce.rep_got hS3,Ce.Res.app_app] at hdec;have hyl:=hz hy;have hg23:=q0d hg2 hg3 fun q h=>.inl h;have hvb:∀ q,v.ownBlock=some q→q < w2.heap.size:=by
            obtain ⟨ys,_,_,h3,_⟩:=ho;exact fun q hq=>(h3.lt q hq).2
          have ho3:=ho.other hR hg3 hpl;obtain ⟨u,rfl⟩:∃ u,y=[u]:=by
            match y,hyl with
            | [u],_=>exact ⟨u,rfl⟩
          have hu1:=hR.one hy u (List.mem_singleton.2 rfl);refine q6i (v:=u) rfl hu1 ?_;intro u4 w4 r4 E4 hs4 _;obtain ⟨ys,y1,y2,own4,yR⟩:=(ho3.ext hR E4).h;have e4:=e3.ext E4;have hg4:=q0d hg23 (E4.row (some p)) fun q h=>.inl h;have hs4:=E4.size;have hs3:=hg3.size;have hs2:=hg2.size;have hy4:R (fun k=>w2.heap.size≤k∧k < w4.heap.size) w4 [u] a:=hR.mono (hR.ext hy E4) fun k hk=>⟨hk.1,by omega⟩;refine q2d rfl rfl own4 r4 (fun q hq=>by rw [List.mem_singleton.1 hq];exact hu1) (by omega) (by omega) (by omega) ?_;intro v5 w5 o5 hg5 hb5;have ho5:=OutAt.app (a:=a) hR y1 y2 own4 yR hy4 hyl hs2 hvb o5 hg5 hb5;have hv5:=ho5.cell1;have hg05:=q0d hg4 hg5 fun q hq=>.inr ((own4.lt q hq).1);have hpv:v.ownBlock ≠ some p:=fun e=>(by have:=(own4.lt p e).1;omega);have e5:DecAt N p w5 r':=e4.grown hg5 hpv fun q hq k=>(by have:=(own4.lt q hq).1;have:=(he.n q k).2;omega);(refine Ls (q0i (v:=v5) rfl)<|q0c<|bn<|tn<|q0a<|Ls (q1q rfl rfl (by omega))<|m_I rfl<|q0c<|tn ?_);exact ⟨m - (i+1),by omega,i+1,xs++[a],v5,r',rfl,by omega,rfl,rfl,rfl,rfl,by rw [List.length_append,hxs];rfl,ho5,hg05,e5,hdec⟩
      · obtain rfl:i=m:=(by omega);(refine q1l<|te<|te<|bx<|tn<|q0b<|q0a<|Ls (q0e (v:=v) rfl)<|Ls (q0i (v:=v) rfl)<|q0c<|tn<|q0t ?_);refine q0f rfl rfl (v:=v) rfl ?_;rw [Nat.sub_self] at hdec;refine DecR.got hg2 (hdec.trans (show _=Ce.Res.got xs l' from ?_)) [v] (ho.slR hR) e2;show Ce.Res.got (xs++[]) l'=_;rw [List.append_nil]
set_option maxRecDepth 100000 in
set_option maxHeartbeats 1000000 in
theorem delW {α:Type} {R:Rep α} (hR:R.Ok) (hz:∀ {N:Nat→Prop} {w:World} {y:List Value} {a:α},R N w y a→y.length=1) (id:FuncId) [TFun Tryz.prog id] (first cap:Array Value) (N:Nat→Prop) (p:Nat) (S:Ce.Ps α) (l:List Nat) (w:World)
    (hf:DecF id first cap p N S R hdV) (he:DecAt N p w l) :
    Calls Tryz.prog 86 #[.pointer (some ⟨p,0,none⟩),.func (.func id) first cap] w (DecR (Ce.els S) (slR 1 R) hdV N p l w):=by
  refine q0j Tryz.func86 rfl Tryz.ntmps86 rfl ?_;have ct:=dint N p l w he;have hb:∀ x,Ce.num 4 l=x→Ce.els S l=x.bind (Ce.rep S):=fun x h=>by rw [← h];rfl
  have hpl:=he.lt;(refine q0b<|q0a<|a_S rfl<|q0c<|tn<|q0b<|q0a<|a_S rfl<|q0c<|tn<|q0b<|q0b<|q0a<|m_P rfl ?_);cases hS:Ce.num 4 l with
  | err x =>
    rw [hS] at ct;refine q5y ct rfl ?_;rintro e w1 ⟨hg1,rfl⟩;exact .inr ⟨_,rfl,rfl,DecR.err hg1 (hb _ hS)⟩
  | got m r =>
    rw [hS] at ct;refine L_fn ct rfl ?_;rintro e w1 ⟨hg1,rfl,hm,e1⟩;refine ⟨_,rfl,?_⟩;have hS2:Ce.els S l=Ce.rep S m r:=hb _ hS;clear hS hb ct;(refine m_I rfl<|q0c<|tn<|q0l ?_);refine q1p (fun q f w'=>∃ i xs v l',q=m - i∧i≤m∧f 1=.func (.func id) first cap∧f 5=v∧f 7=.int .i64 (m:Nat)∧f 8=.int .i64 (i:Nat)∧xs.length=i∧OutAt 32 1 R w w' v xs∧w.grownBy w' (some p)∧DecAt N p w' l'∧Ce.els S l=Ce.Res.app xs (Ce.rep S (m - i) l')) m ?_ ?_
    · refine ⟨0,[],.slice none 0 0,r,rfl,by omega,rfl,rfl,rfl,rfl,rfl,⟨[],rfl,(fun _ h=>by cases h),⟨rfl,.inl ⟨rfl,rfl⟩⟩,(fun _ _ _ h=>by cases h)⟩,hg1,e1,?_⟩;rw [Ce.Res.app_nil];exact hS2
    · rintro q f w2 ⟨i,xs,v,l',rfl,hi,f1,f5,f7,f8,hxs,ho,hg2,e2,hdec⟩;rw [fold f1,fold f5,fold f7,fold f8];have hv:=ho.cell1;(refine q0b<|q0a<|Ls (q2u rfl rfl)<|q0c<|tn<|q0b ?_);refine q1j rfl (fun h=>?_) (fun h=>?_)
      · have hi':i < m:=(by omega);have ct:=hf w2 l' e2;(refine q0p<|tn<|q0b<|q0l<|q0a<|Ls (q0e (v:=v) rfl)<|Ls (q0e (v:=.func _ _ _) rfl) ?_);rw [show m - i=(m - (i+1))+1 by omega] at hdec;cases hS3:S l' with
        | err x =>
          refine q7v (vl:=[]) rfl ct rfl ?_;rintro e w3 ⟨hg3,h3⟩;rw [hS3] at h3;obtain rfl:e=_:=h3;refine .inr ⟨_,rfl,rfl,DecR.err (q0d hg2 hg3 fun q h=>.inl h) ?_⟩;rw [hdec,Ce.rep_err hS3];rfl
        | got a r' =>
          refine q4p (vl:=[]) rfl ct rfl ?_;rintro e w3 ⟨hg3,h3⟩;rw [hS3] at h3;obtain ⟨y,rfl,hy,e3⟩:=h3;refine ⟨_,rfl,?_⟩;rw [Ce.rep_got hS3,Ce.Res.app_app] at hdec;have hyl:=hz hy;have hg23:=q0d hg2 hg3 fun q h=>.inl h;have hvb:∀ q,v.ownBlock=some q→q < w2.heap.size:=by
            obtain ⟨ys,_,_,h3,_⟩:=ho;exact fun q hq=>(h3.lt q hq).2
          have ho3:=ho.other hR hg3 hpl;obtain ⟨u,rfl⟩:∃ u,y=[u]:=by
            match y,hyl with
            | [u],_=>exact ⟨u,rfl⟩
          have hu1:=hR.one hy u (List.mem_singleton.2 rfl);refine q6i (v:=u) rfl hu1 ?_;intro u4 w4 r4 E4 hs4 _;obtain ⟨ys,y1,y2,own4,yR⟩:=(ho3.ext hR E4).h;have e4:=e3.ext E4;have hg4:=q0d hg23 (E4.row (some p)) fun q h=>.inl h;have hs4:=E4.size;have hs3:=hg3.size;have hs2:=hg2.size;have hy4:R (fun k=>w2.heap.size≤k∧k < w4.heap.size) w4 [u] a:=hR.mono (hR.ext hy E4) fun k hk=>⟨hk.1,by omega⟩;refine q2d rfl rfl own4 r4 (fun q hq=>by rw [List.mem_singleton.1 hq];exact hu1) (by omega) (by omega) (by omega) ?_;intro v5 w5 o5 hg5 hb5;have ho5:=OutAt.app (a:=a) hR y1 y2 own4 yR hy4 hyl hs2 hvb o5 hg5 hb5;have hv5:=ho5.cell1;have hg05:=q0d hg4 hg5 fun q hq=>.inr ((own4.lt q hq).1);have hpv:v.ownBlock ≠ some p:=fun e=>(by have:=(own4.lt p e).1;omega);have e5:DecAt N p w5 r':=e4.grown hg5 hpv fun q hq k=>(by have:=(own4.lt q hq).1;have:=(he.n q k).2;omega);(refine Ls (q0i (v:=v5) rfl)<|q0c<|bn<|tn<|q0a<|Ls (q1q rfl rfl (by omega))<|m_I rfl<|q0c<|tn ?_);exact ⟨m - (i+1),by omega,i+1,xs++[a],v5,r',rfl,by omega,rfl,rfl,rfl,rfl,by rw [List.length_append,hxs];rfl,ho5,hg05,e5,hdec⟩
      · obtain rfl:i=m:=(by omega);(refine q1l<|te<|te<|bx<|tn<|q0b<|q0a<|Ls (q0e (v:=v) rfl)<|Ls (q0i (v:=v) rfl)<|q0c<|tn<|q0t ?_);refine q0f rfl rfl (v:=v) rfl ?_;rw [Nat.sub_self] at hdec;refine DecR.got hg2 (hdec.trans (show _=Ce.Res.got xs l' from ?_)) [v] (ho.slR hR) e2;show Ce.Res.got (xs++[]) l'=_;rw [List.append_nil]
set_option maxRecDepth 100000 in
set_option maxHeartbeats 1000000 in
theorem delE {α:Type} {R:Rep α} (hR:R.Ok) (hz:∀ {N:Nat→Prop} {w:World} {y:List Value} {a:α},R N w y a→y.length=2) (id:FuncId) [TFun Tryz.prog id] (first cap:Array Value) (N:Nat→Prop) (p:Nat) (S:Ce.Ps α) (l:List Nat) (w:World)
    (hf:DecF id first cap p N S R agV) (he:DecAt N p w l) :
    Calls Tryz.prog 59 #[.pointer (some ⟨p,0,none⟩),.func (.func id) first cap] w (DecR (Ce.els S) (slR 2 R) hdV N p l w):=by
  refine q0j Tryz.func59 rfl Tryz.ntmps59 rfl ?_;have ct:=dint N p l w he;have hb:∀ x,Ce.num 4 l=x→Ce.els S l=x.bind (Ce.rep S):=fun x h=>by rw [← h];rfl
  have hpl:=he.lt;(refine q0b<|q0a<|a_S rfl<|q0c<|tn<|q0b<|q0a<|a_S rfl<|q0c<|tn<|q0b<|q0b<|q0a<|m_P rfl ?_);cases hS:Ce.num 4 l with
  | err x =>
    rw [hS] at ct;refine q5y ct rfl ?_;rintro e w1 ⟨hg1,rfl⟩;exact .inr ⟨_,rfl,rfl,DecR.err hg1 (hb _ hS)⟩
  | got m r =>
    rw [hS] at ct;refine L_fn ct rfl ?_;rintro e w1 ⟨hg1,rfl,hm,e1⟩;refine ⟨_,rfl,?_⟩;have hS2:Ce.els S l=Ce.rep S m r:=hb _ hS;clear hS hb ct;(refine m_I rfl<|q0c<|tn<|q0l ?_);refine q1p (fun q f w'=>∃ i xs v l',q=m - i∧i≤m∧f 1=.func (.func id) first cap∧f 5=v∧f 7=.int .i64 (m:Nat)∧f 8=.int .i64 (i:Nat)∧xs.length=i∧OutAt 34 2 R w w' v xs∧w.grownBy w' (some p)∧DecAt N p w' l'∧Ce.els S l=Ce.Res.app xs (Ce.rep S (m - i) l')) m ?_ ?_
    · refine ⟨0,[],.slice none 0 0,r,rfl,by omega,rfl,rfl,rfl,rfl,rfl,⟨[],rfl,(fun _ h=>by cases h),⟨rfl,.inl ⟨rfl,rfl⟩⟩,(fun _ _ _ h=>by cases h)⟩,hg1,e1,?_⟩;rw [Ce.Res.app_nil];exact hS2
    · rintro q f w2 ⟨i,xs,v,l',rfl,hi,f1,f5,f7,f8,hxs,ho,hg2,e2,hdec⟩;rw [fold f1,fold f5,fold f7,fold f8];have hv:=ho.cell1;(refine q0b<|q0a<|Ls (q2u rfl rfl)<|q0c<|tn<|q0b ?_);refine q1j rfl (fun h=>?_) (fun h=>?_)
      · have hi':i < m:=(by omega);have ct:=hf w2 l' e2;(refine q0p<|tn<|q0b<|q0l<|q0a<|Ls (q0e (v:=v) rfl)<|Ls (q0e (v:=.func _ _ _) rfl) ?_);rw [show m - i=(m - (i+1))+1 by omega] at hdec;cases hS3:S l' with
        | err x =>
          refine q7v (vl:=[]) rfl ct rfl ?_;rintro e w3 ⟨hg3,h3⟩;rw [hS3] at h3;obtain rfl:e=_:=h3;refine .inr ⟨_,rfl,rfl,DecR.err (q0d hg2 hg3 fun q h=>.inl h) ?_⟩;rw [hdec,Ce.rep_err hS3];rfl
        | got a r' =>
          refine q4p (vl:=[]) rfl ct rfl ?_;rintro e w3 ⟨hg3,h3⟩;rw [hS3] at h3;obtain ⟨y,rfl,hy,e3⟩:=h3;refine ⟨_,rfl,?_⟩;rw [Ce.rep_got hS3,Ce.Res.app_app] at hdec;have hyl:=hz hy;have hg23:=q0d hg2 hg3 fun q h=>.inl h;have hvb:∀ q,v.ownBlock=some q→q < w2.heap.size:=by
            obtain ⟨ys,_,_,h3,_⟩:=ho;exact fun q hq=>(h3.lt q hq).2
          have ho3:=ho.other hR hg3 hpl;refine L_litA (l:=y) rfl ?_ ?_ ?_
          · exact hyl
          · decide
          intro u4 w4 r4 E4 hs4;obtain ⟨ys,y1,y2,own4,yR⟩:=(ho3.ext hR E4).h;have e4:=e3.ext E4;have hg4:=q0d hg23 (E4.row (some p)) fun q h=>.inl h;have hs4:=E4.size;have hs3:=hg3.size;have hs2:=hg2.size;have hy4:R (fun k=>w2.heap.size≤k∧k < w4.heap.size) w4 y a:=hR.mono (hR.ext hy E4) fun k hk=>⟨hk.1,by omega⟩;refine q2d rfl rfl own4 r4 (hR.one hy) (by omega) (by omega) (by omega) ?_;intro v5 w5 o5 hg5 hb5;have ho5:=OutAt.app (a:=a) hR y1 y2 own4 yR hy4 hyl hs2 hvb o5 hg5 hb5;have hv5:=ho5.cell1;have hg05:=q0d hg4 hg5 fun q hq=>.inr ((own4.lt q hq).1);have hpv:v.ownBlock ≠ some p:=fun e=>(by have:=(own4.lt p e).1;omega);have e5:DecAt N p w5 r':=e4.grown hg5 hpv fun q hq k=>(by have:=(own4.lt q hq).1;have:=(he.n q k).2;omega);(refine Ls (q0i (v:=v5) rfl)<|q0c<|bn<|tn<|q0a<|Ls (q1q rfl rfl (by omega))<|m_I rfl<|q0c<|tn ?_);exact ⟨m - (i+1),by omega,i+1,xs++[a],v5,r',rfl,by omega,rfl,rfl,rfl,rfl,by rw [List.length_append,hxs];rfl,ho5,hg05,e5,hdec⟩
      · obtain rfl:i=m:=(by omega);(refine q1l<|te<|te<|bx<|tn<|q0b<|q0a<|Ls (q0e (v:=v) rfl)<|Ls (q0i (v:=v) rfl)<|q0c<|tn<|q0t ?_);refine q0f rfl rfl (v:=v) rfl ?_;rw [Nat.sub_self] at hdec;refine DecR.got hg2 (hdec.trans (show _=Ce.Res.got xs l' from ?_)) [v] (ho.slR hR) e2;show Ce.Res.got (xs++[]) l'=_;rw [List.append_nil]
set_option maxRecDepth 100000 in
set_option maxHeartbeats 1000000 in
theorem delL {α:Type} {R:Rep α} (hR:R.Ok) (hz:∀ {N:Nat→Prop} {w:World} {y:List Value} {a:α},R N w y a→y.length=6) (id:FuncId) [TFun Tryz.prog id] (first cap:Array Value) (N:Nat→Prop) (p:Nat) (S:Ce.Ps α) (l:List Nat) (w:World)
    (hf:DecF id first cap p N S R agV) (he:DecAt N p w l) :
    Calls Tryz.prog 56 #[.pointer (some ⟨p,0,none⟩),.func (.func id) first cap] w (DecR (Ce.els S) (slR 6 R) hdV N p l w):=by
  refine q0j Tryz.func56 rfl Tryz.ntmps56 rfl ?_;have ct:=dint N p l w he;have hb:∀ x,Ce.num 4 l=x→Ce.els S l=x.bind (Ce.rep S):=fun x h=>by rw [← h];rfl
  have hpl:=he.lt;(refine q0b<|q0a<|a_S rfl<|q0c<|tn<|q0b<|q0a<|a_S rfl<|q0c<|tn<|q0b<|q0b<|q0a<|m_P rfl ?_);cases hS:Ce.num 4 l with
  | err x =>
    rw [hS] at ct;refine q5y ct rfl ?_;rintro e w1 ⟨hg1,rfl⟩;exact .inr ⟨_,rfl,rfl,DecR.err hg1 (hb _ hS)⟩
  | got m r =>
    rw [hS] at ct;refine L_fn ct rfl ?_;rintro e w1 ⟨hg1,rfl,hm,e1⟩;refine ⟨_,rfl,?_⟩;have hS2:Ce.els S l=Ce.rep S m r:=hb _ hS;clear hS hb ct;(refine m_I rfl<|q0c<|tn<|q0l ?_);refine q1p (fun q f w'=>∃ i xs v l',q=m - i∧i≤m∧f 1=.func (.func id) first cap∧f 5=v∧f 7=.int .i64 (m:Nat)∧f 8=.int .i64 (i:Nat)∧xs.length=i∧OutAt 84 6 R w w' v xs∧w.grownBy w' (some p)∧DecAt N p w' l'∧Ce.els S l=Ce.Res.app xs (Ce.rep S (m - i) l')) m ?_ ?_
    · refine ⟨0,[],.slice none 0 0,r,rfl,by omega,rfl,rfl,rfl,rfl,rfl,⟨[],rfl,(fun _ h=>by cases h),⟨rfl,.inl ⟨rfl,rfl⟩⟩,(fun _ _ _ h=>by cases h)⟩,hg1,e1,?_⟩;rw [Ce.Res.app_nil];exact hS2
    · rintro q f w2 ⟨i,xs,v,l',rfl,hi,f1,f5,f7,f8,hxs,ho,hg2,e2,hdec⟩;rw [fold f1,fold f5,fold f7,fold f8];have hv:=ho.cell1;(refine q0b<|q0a<|Ls (q2u rfl rfl)<|q0c<|tn<|q0b ?_);refine q1j rfl (fun h=>?_) (fun h=>?_)
      · have hi':i < m:=(by omega);have ct:=hf w2 l' e2;(refine q0p<|tn<|q0b<|q0l<|q0a<|Ls (q0e (v:=v) rfl)<|Ls (q0e (v:=.func _ _ _) rfl) ?_);rw [show m - i=(m - (i+1))+1 by omega] at hdec;cases hS3:S l' with
        | err x =>
          refine q7v (vl:=[]) rfl ct rfl ?_;rintro e w3 ⟨hg3,h3⟩;rw [hS3] at h3;obtain rfl:e=_:=h3;refine .inr ⟨_,rfl,rfl,DecR.err (q0d hg2 hg3 fun q h=>.inl h) ?_⟩;rw [hdec,Ce.rep_err hS3];rfl
        | got a r' =>
          refine q4p (vl:=[]) rfl ct rfl ?_;rintro e w3 ⟨hg3,h3⟩;rw [hS3] at h3;obtain ⟨y,rfl,hy,e3⟩:=h3;refine ⟨_,rfl,?_⟩;rw [Ce.rep_got hS3,Ce.Res.app_app] at hdec;have hyl:=hz hy;have hg23:=q0d hg2 hg3 fun q h=>.inl h;have hvb:∀ q,v.ownBlock=some q→q < w2.heap.size:=by
            obtain ⟨ys,_,_,h3,_⟩:=ho;exact fun q hq=>(h3.lt q hq).2
          have ho3:=ho.other hR hg3 hpl;refine L_litA (l:=y) rfl ?_ ?_ ?_
          · exact hyl
          · decide
          intro u4 w4 r4 E4 hs4;obtain ⟨ys,y1,y2,own4,yR⟩:=(ho3.ext hR E4).h;have e4:=e3.ext E4;have hg4:=q0d hg23 (E4.row (some p)) fun q h=>.inl h;have hs4:=E4.size;have hs3:=hg3.size;have hs2:=hg2.size;have hy4:R (fun k=>w2.heap.size≤k∧k < w4.heap.size) w4 y a:=hR.mono (hR.ext hy E4) fun k hk=>⟨hk.1,by omega⟩;refine q2d rfl rfl own4 r4 (hR.one hy) (by omega) (by omega) (by omega) ?_;intro v5 w5 o5 hg5 hb5;have ho5:=OutAt.app (a:=a) hR y1 y2 own4 yR hy4 hyl hs2 hvb o5 hg5 hb5;have hv5:=ho5.cell1;have hg05:=q0d hg4 hg5 fun q hq=>.inr ((own4.lt q hq).1);have hpv:v.ownBlock ≠ some p:=fun e=>(by have:=(own4.lt p e).1;omega);have e5:DecAt N p w5 r':=e4.grown hg5 hpv fun q hq k=>(by have:=(own4.lt q hq).1;have:=(he.n q k).2;omega);(refine Ls (q0i (v:=v5) rfl)<|q0c<|bn<|tn<|q0a<|Ls (q1q rfl rfl (by omega))<|m_I rfl<|q0c<|tn ?_);exact ⟨m - (i+1),by omega,i+1,xs++[a],v5,r',rfl,by omega,rfl,rfl,rfl,rfl,by rw [List.length_append,hxs];rfl,ho5,hg05,e5,hdec⟩
      · obtain rfl:i=m:=(by omega);(refine q1l<|te<|te<|bx<|tn<|q0b<|q0a<|Ls (q0e (v:=v) rfl)<|Ls (q0i (v:=v) rfl)<|q0c<|tn<|q0t ?_);refine q0f rfl rfl (v:=v) rfl ?_;rw [Nat.sub_self] at hdec;refine DecR.got hg2 (hdec.trans (show _=Ce.Res.got xs l' from ?_)) [v] (ho.slR hR) e2;show Ce.Res.got (xs++[]) l'=_;rw [List.append_nil]
set_option maxRecDepth 100000 in
set_option maxHeartbeats 1000000 in
theorem delD {α:Type} {R:Rep α} (hR:R.Ok) (hz:∀ {N:Nat→Prop} {w:World} {y:List Value} {a:α},R N w y a→y.length=32) (id:FuncId) [TFun Tryz.prog id] (first cap:Array Value) (N:Nat→Prop) (p:Nat) (S:Ce.Ps α) (l:List Nat) (w:World)
    (hf:DecF id first cap p N S R agV) (he:DecAt N p w l) :
    Calls Tryz.prog 62 #[.pointer (some ⟨p,0,none⟩),.func (.func id) first cap] w (DecR (Ce.els S) (slR 32 R) hdV N p l w):=by
  refine q0j Tryz.func62 rfl Tryz.ntmps62 rfl ?_;have ct:=dint N p l w he;have hb:∀ x,Ce.num 4 l=x→Ce.els S l=x.bind (Ce.rep S):=fun x h=>by rw [← h];rfl
  have hpl:=he.lt;(refine q0b<|q0a<|a_S rfl<|q0c<|tn<|q0b<|q0a<|a_S rfl<|q0c<|tn<|q0b<|q0b<|q0a<|m_P rfl ?_);cases hS:Ce.num 4 l with
  | err x =>
    rw [hS] at ct;refine q5y ct rfl ?_;rintro e w1 ⟨hg1,rfl⟩;exact .inr ⟨_,rfl,rfl,DecR.err hg1 (hb _ hS)⟩
  | got m r =>
    rw [hS] at ct;refine L_fn ct rfl ?_;rintro e w1 ⟨hg1,rfl,hm,e1⟩;refine ⟨_,rfl,?_⟩;have hS2:Ce.els S l=Ce.rep S m r:=hb _ hS;clear hS hb ct;(refine m_I rfl<|q0c<|tn<|q0l ?_);refine q1p (fun q f w'=>∃ i xs v l',q=m - i∧i≤m∧f 1=.func (.func id) first cap∧f 5=v∧f 7=.int .i64 (m:Nat)∧f 8=.int .i64 (i:Nat)∧xs.length=i∧OutAt 23 32 R w w' v xs∧w.grownBy w' (some p)∧DecAt N p w' l'∧Ce.els S l=Ce.Res.app xs (Ce.rep S (m - i) l')) m ?_ ?_
    · refine ⟨0,[],.slice none 0 0,r,rfl,by omega,rfl,rfl,rfl,rfl,rfl,⟨[],rfl,(fun _ h=>by cases h),⟨rfl,.inl ⟨rfl,rfl⟩⟩,(fun _ _ _ h=>by cases h)⟩,hg1,e1,?_⟩;rw [Ce.Res.app_nil];exact hS2
    · rintro q f w2 ⟨i,xs,v,l',rfl,hi,f1,f5,f7,f8,hxs,ho,hg2,e2,hdec⟩;rw [fold f1,fold f5,fold f7,fold f8];have hv:=ho.cell1;(refine q0b<|q0a<|Ls (q2u rfl rfl)<|q0c<|tn<|q0b ?_);refine q1j rfl (fun h=>?_) (fun h=>?_)
      · have hi':i < m:=(by omega);have ct:=hf w2 l' e2;(refine q0p<|tn<|q0b<|q0l<|q0a<|Ls (q0e (v:=v) rfl)<|Ls (q0e (v:=.func _ _ _) rfl) ?_);rw [show m - i=(m - (i+1))+1 by omega] at hdec;cases hS3:S l' with
        | err x =>
          refine q7v (vl:=[]) rfl ct rfl ?_;rintro e w3 ⟨hg3,h3⟩;rw [hS3] at h3;obtain rfl:e=_:=h3;refine .inr ⟨_,rfl,rfl,DecR.err (q0d hg2 hg3 fun q h=>.inl h) ?_⟩;rw [hdec,Ce.rep_err hS3];rfl
        | got a r' =>
          refine q4p (vl:=[]) rfl ct rfl ?_;rintro e w3 ⟨hg3,h3⟩;rw [hS3] at h3;obtain ⟨y,rfl,hy,e3⟩:=h3;refine ⟨_,rfl,?_⟩;rw [Ce.rep_got hS3,Ce.Res.app_app] at hdec;have hyl:=hz hy;have hg23:=q0d hg2 hg3 fun q h=>.inl h;have hvb:∀ q,v.ownBlock=some q→q < w2.heap.size:=by
            obtain ⟨ys,_,_,h3,_⟩:=ho;exact fun q hq=>(h3.lt q hq).2
          have ho3:=ho.other hR hg3 hpl;refine L_litA (l:=y) rfl ?_ ?_ ?_
          · exact hyl
          · decide
          intro u4 w4 r4 E4 hs4;obtain ⟨ys,y1,y2,own4,yR⟩:=(ho3.ext hR E4).h;have e4:=e3.ext E4;have hg4:=q0d hg23 (E4.row (some p)) fun q h=>.inl h;have hs4:=E4.size;have hs3:=hg3.size;have hs2:=hg2.size;have hy4:R (fun k=>w2.heap.size≤k∧k < w4.heap.size) w4 y a:=hR.mono (hR.ext hy E4) fun k hk=>⟨hk.1,by omega⟩;refine q2d rfl rfl own4 r4 (hR.one hy) (by omega) (by omega) (by omega) ?_;intro v5 w5 o5 hg5 hb5;have ho5:=OutAt.app (a:=a) hR y1 y2 own4 yR hy4 hyl hs2 hvb o5 hg5 hb5;have hv5:=ho5.cell1;have hg05:=q0d hg4 hg5 fun q hq=>.inr ((own4.lt q hq).1);have hpv:v.ownBlock ≠ some p:=fun e=>(by have:=(own4.lt p e).1;omega);have e5:DecAt N p w5 r':=e4.grown hg5 hpv fun q hq k=>(by have:=(own4.lt q hq).1;have:=(he.n q k).2;omega);(refine Ls (q0i (v:=v5) rfl)<|q0c<|bn<|tn<|q0a<|Ls (q1q rfl rfl (by omega))<|m_I rfl<|q0c<|tn ?_);exact ⟨m - (i+1),by omega,i+1,xs++[a],v5,r',rfl,by omega,rfl,rfl,rfl,rfl,by rw [List.length_append,hxs];rfl,ho5,hg05,e5,hdec⟩
      · obtain rfl:i=m:=(by omega);(refine q1l<|te<|te<|bx<|tn<|q0b<|q0a<|Ls (q0e (v:=v) rfl)<|Ls (q0i (v:=v) rfl)<|q0c<|tn<|q0t ?_);refine q0f rfl rfl (v:=v) rfl ?_;rw [Nat.sub_self] at hdec;refine DecR.got hg2 (hdec.trans (show _=Ce.Res.got xs l' from ?_)) [v] (ho.slR hR) e2;show Ce.Res.got (xs++[]) l'=_;rw [List.append_nil]
end Go.Proofs.YtadfjnnildflkaaGreatDoor
namespace Ce
def Res.map {α β:Type} (f:α→β):Res α→Res β
  | .err e=>.err e
  | .got a r=>.got (f a) r
theorem mapP_eq {α β:Type} (p:Ps α) (f:α→β) (l:List Nat):mapP p f l=Res.map f (p l):=by
  show (p l).bind _=_;cases p l <;> rfl
theorem seq_err {α β γ:Type} {c:Cod α} {d:Cod β} {r:List Nat} {x:Nat} (h:c.p r=.err x) (g:α × β→γ):Res.map g ((c.seq d).p r)=.err x:=by
  show Res.map g ((c.p r).bind _)=_;rw [h];rfl
theorem seq_got {α β γ:Type} {c:Cod α} {d:Cod β} {r r':List Nat} {a:α} (h:c.p r=.got a r') (g:α × β→γ):Res.map g ((c.seq d).p r)=Res.map (fun b=>g (a,b)) (d.p r'):=by
  show Res.map g ((c.p r).bind _)=_;rw [h];show Res.map g ((d.p r').bind _)=_;cases d.p r' <;> rfl
theorem map_errR {α γ:Type} {c:Cod α} {r:List Nat} {x:Nat} (h:c.p r=.err x) (g:α→γ):Res.map g (c.p r)=.err x:=by rw [h];rfl
theorem map_gotR {α γ:Type} {c:Cod α} {r r':List Nat} {a:α} (h:c.p r=.got a r') (g:α→γ):Res.map g (c.p r)=.got (g a) r':=by rw [h];rfl
end Ce
namespace Go.Proofs.YtadfjnnildflkaaGreatDoor
open Go.RowKit Go.Proofs.K
section
variable {n:NN} {Q:Exit→Fr→World→Prop} {f:Fr} {w:World} {ops:Array Oper} {rest:List Oper} {d:Tmp} {t:TypeId} {pos:String} {af:Array Edge}
theorem q4x {α:Type} {S:Ce.Ps α} {R:Rep α} {V:List Value→Value} {N:Nat→Prop} {p:Nat} {l:List Nat} {id:FuncId} [TFun Tryz.prog id] {o:List Operand} {vl:List Value} {tys:Array TypeId}
    (c:Calls Tryz.prog id vl.toArray w (DecR S R V N p l w)) (ha:o.map (ev n f)=vl) (herr:∀ x w',w.grownBy w' (some p)→S l=.err x→Q (.panic (erV x)) f w')
    (hgot:∀ a r y w',w.grownBy w' (some p)→S l=.got a r→R (fun k=>w.heap.size≤k∧k < w'.heap.size) w' y a→DecAt N p w' r→L Tryz.prog n ops Q rest (upd f d (V y)) w') :
    L Tryz.prog n ops Q (⟨some d,.call ⟨.value (.func id),o.toArray,tys⟩,t,pos,af,none⟩ :: rest) f w:=by
  refine q5y c ha ?_;rintro e w' ⟨hg,h⟩;cases hS:S l with
  | err x =>
    rw [hS] at h;exact .inr ⟨_,h,herr x w' hg hS⟩
  | got a r =>
    rw [hS] at h;obtain ⟨y,he,hy,hd⟩:=h;exact .inl ⟨_,he,hgot a r y w' hg hS hy hd⟩
end
theorem dfE (N:Nat→Prop) (p:Nat):DecF 58 #[ptr p] #[] p N Ce.extC.p exR agV:=fun w l he=>dext N p l w he
theorem dfW (N:Nat→Prop) (p:Nat):DecF 87 #[ptr p] #[] p N Ce.wordC.p (numR .u64) hdV:=fun w l he=>dword N p l w he
theorem dfB (N:Nat→Prop) (p:Nat):DecF 49 #[ptr p] #[] p N Ce.byteC.p (numR .u8) hdV:=fun w l he=>dbyte N p l w he
theorem dfI (N:Nat→Prop) (p:Nat):DecF 53 #[ptr p] #[] p N (Ce.numC 8).p sumR hdV:=fun w l he=>dsum N p l w he
theorem dfD (N:Nat→Prop) (p:Nat):DecF 51 #[ptr p] #[] p N (Ce.raw 32).p (byR 32) agV:=fun w l he=>ddigest N p l w he
theorem z0a {N:Nat→Prop} {w:World} {y:List Value} {a:Nat × Nat} (h:exR N w y a):y.length=2:=by
  have h:y=exC _ _:=h;subst h;rfl
theorem numR_len {k:IntKind} {N:Nat→Prop} {w:World} {y:List Value} {a:Nat} (h:numR k N w y a):y.length=1:=by
  have h:y=[_]:=h;subst h;rfl
theorem sumR_len {N:Nat→Prop} {w:World} {y:List Value} {a:Nat} (h:sumR N w y a):y.length=1:=by
  obtain ⟨z,h,_⟩:=h;subst h;rfl
theorem byR_len {m:Nat} {N:Nat→Prop} {w:World} {y:List Value} {a:List Nat} (h:byR m N w y a):y.length=m:=by
  obtain ⟨h,h2⟩:=h;subst h;rw [q1e,h2]
theorem q9s {α:Type} {size:Nat} {R:Rep α} {N:Nat→Prop} {w:World} {y:List Value} {a:List α} (h:slR size R N w y a):y.length=1:=by
  obtain ⟨v,h,_⟩:=h;subst h;rfl
theorem lpR_len {N:Nat→Prop} {w:World} {y:List Value} {a:Ce.LP} (h:lpR N w y a):y.length=6:=by
  obtain ⟨a,b,h,_⟩:=h;subst h;rfl
set_option maxRecDepth 100000 in
set_option maxHeartbeats 1000000 in
theorem dround (N:Nat→Prop) (p:Nat) (l:List Nat) (w:World) (he:DecAt N p w l) :
    Calls Tryz.prog 55 #[.pointer (some ⟨p,0,none⟩)] w (DecR Ce.roundC.p (slR 2 exR) hdV N p l w):=by
  refine q0j Tryz.func55 rfl Tryz.ntmps55 rfl ?_;(refine q0b<|q0a<|a_S rfl<|q0c<|tn<|q0b<|q0a<|m_P rfl<|m_P rfl ?_);refine Ls (q1g (vf:=[ptr p]) (vc:=[]) rfl rfl) ?_;refine q4x (delE q3f z0a 58 #[ptr p] #[] N p Ce.extC.p l w (dfE N p) he) rfl ?_ ?_
  · exact fun x w1 hg1 hS=>⟨rfl,DecR.err hg1 hS⟩
  · intro a r y w1 hg1 hS hy e1;obtain ⟨v,rfl⟩:=q2a hy;have hv:=q0w.one hy v (List.mem_singleton.2 rfl);(refine Ls (q0i (v:=v) rfl)<|q0c<|tn<|q0t ?_);exact q0f rfl rfl (v:=v) rfl (DecR.got hg1 hS [v] hy e1)
set_option maxRecDepth 100000 in
set_option maxHeartbeats 1000000 in
theorem dcolumn (N:Nat→Prop) (p:Nat) (l:List Nat) (w:World) (he:DecAt N p w l) :
    Calls Tryz.prog 61 #[.pointer (some ⟨p,0,none⟩)] w (DecR (Ce.lst Ce.wordC).p (slR 1 (numR .u64)) hdV N p l w):=by
  refine q0j Tryz.func61 rfl Tryz.ntmps61 rfl ?_;(refine q0b<|q0a<|a_S rfl<|q0c<|tn<|q0b<|q0a<|m_P rfl<|m_P rfl ?_);refine Ls (q1g (vf:=[ptr p]) (vc:=[]) rfl rfl) ?_;refine q4x (delW (q1k _) numR_len 87 #[ptr p] #[] N p Ce.wordC.p l w (dfW N p) he) rfl ?_ ?_
  · exact fun x w1 hg1 hS=>⟨rfl,DecR.err hg1 hS⟩
  · intro a r y w1 hg1 hS hy e1;obtain ⟨v,rfl⟩:=q2a hy;have hv:=(q0x (by decide) (q1k _)).one hy v (List.mem_singleton.2 rfl);(refine Ls (q0i (v:=v) rfl)<|q0c<|tn<|q0t ?_);exact q0f rfl rfl (v:=v) rfl (DecR.got hg1 hS [v] hy e1)
theorem dfR (N:Nat→Prop) (p:Nat):DecF 55 #[ptr p] #[] p N Ce.roundC.p (slR 2 exR) hdV:=fun w l he=>dround N p l w he
theorem dfC (N:Nat→Prop) (p:Nat):DecF 61 #[ptr p] #[] p N (Ce.lst Ce.wordC).p (slR 1 (numR .u64)) hdV:=fun w l he=>dcolumn N p l w he
def Nw (w:World) (g g':Nat) (a:World):Nat→Prop:=fun k=>w.heap.size≤k∧k < a.heap.size∧k ≠ g∧k ≠ g'
theorem Rep.Ok.nw {α:Type} {R:Rep α} (hR:R.Ok) {w a b:World} {g g' q:Nat} {y:List Value} {x:α} (h:R (Nw w g g' a) a y x) (hg:a.grownBy b (some q)) (hq:q < w.heap.size∨q=g∨q=g'):R (Nw w g g' b) b y x :=
  hR.mono (hR.grown h hg fun q' e k=>by
    cases e
    have:=k.1
    have:=k.2.2
    omega) fun k hk=>⟨hk.1,Nat.lt_of_lt_of_le hk.2.1 hg.size,hk.2.2⟩
theorem Rep.Ok.nwE {α:Type} {R:Rep α} (hR:R.Ok) {w a b:World} {g g':Nat} {y:List Value} {x:α} (h:R (Nw w g g' a) a y x) (E:Ext a b):R (Nw w g g' b) b y x :=
  hR.mono (hR.ext h E) fun k hk=>⟨hk.1,Nat.lt_of_lt_of_le hk.2.1 E.size,hk.2.2⟩
theorem Rep.Ok.nw0 {α:Type} {R:Rep α} (hR:R.Ok) {w a b:World} {g g':Nat} {y:List Value} {x:α} (h:R (fun k=>a.heap.size≤k∧k < b.heap.size) b y x) (h0:w.heap.size≤a.heap.size) (h1:g < a.heap.size∨b.heap.size≤g) (h2:g' < a.heap.size∨b.heap.size≤g'):R (Nw w g g' b) b y x :=
  hR.mono h fun k hk=>⟨by omega,hk.2,by omega,by omega⟩
structure DSt (N:Nat→Prop) (p:Nat) (w a:World) (l:List Nat):Prop where
  g:w.grownBy a (some p)
  d:DecAt N p a l
theorem DSt.call {N:Nat→Prop} {p:Nat} {w a b:World} {l r:List Nat} (h:DSt N p w a l) (hg:a.grownBy b (some p)) (hd:DecAt N p b r):DSt N p w b r:=⟨q0d h.g hg fun q h=>.inl h,hd⟩
theorem DSt.err {N:Nat→Prop} {p:Nat} {w a b:World} {l:List Nat} (h:DSt N p w a l) (hg:a.grownBy b (some p)):w.grownBy b (some p):=q0d h.g hg fun q h=>.inl h
theorem DSt.ext {N:Nat→Prop} {p:Nat} {w a b:World} {l:List Nat} (h:DSt N p w a l) (E:Ext a b):DSt N p w b l:=⟨q0d h.g (E.row (some p)) fun q h=>.inl h,h.d.ext E⟩
theorem DSt.set {N:Nat→Prop} {p q:Nat} {w a b:World} {l l0:List Nat} (h:DSt N p w a l) (h0:DecAt N p w l0) (hg:a.grownBy b (some q)) (hq:w.heap.size≤q):DSt N p w b l :=
  ⟨q0d h.g hg fun q' e=>by cases e;exact .inr hq,h.d.grown hg (by intro e;cases e;have:=h0.lt;omega) fun q' e k=>by cases e;have:=(h0.n _ k).2;omega⟩
theorem q2s {v:Value} (h:v.oneCell'=true):v.cells=#[v]:=by cases v <;> first | rfl | cases h
end Go.Proofs.YtadfjnnildflkaaGreatDoor
namespace Go.Proofs.YtadfjnnildflkaaGreatDoor
open Go.RowKit Go.Proofs.K
set_option maxRecDepth 100000 in
set_option maxHeartbeats 2000000 in
theorem dlayer (N:Nat→Prop) (p:Nat) (l:List Nat) (w:World) (he:DecAt N p w l) :
    Calls Tryz.prog 57 #[.pointer (some ⟨p,0,none⟩)] w (DecR Ce.lpC.p lpR agV N p l w):=by
  refine q0j Tryz.func57 rfl Tryz.ntmps57 rfl ?_;have h0:Ce.lpC.p l=Ce.Res.map (fun x=>(⟨x.1,x.2.1,x.2.2.1,x.2.2.2⟩:Ce.LP)) (((Ce.lst Ce.roundC).seq (Ce.extC.seq (Ce.extC.seq Ce.roundC))).p l):=Ce.mapP_eq _ _ _;(refine q0b<|q0a ?_);refine q1a ?_;intro g2 w2 B2 hg2 E2 hs2;have hpl:=he.lt;have D2:DSt N p w w2 l:=⟨E2.row _,he.ext E2⟩;have B2l:=q1y B2;(refine q0c<|tn<|q0b<|q0a<|m_P rfl<|m_P rfl ?_);refine Ls (q1g (vf:=[ptr p]) (vc:=[]) rfl rfl) ?_;refine q4x (delR q0w q9s 55 #[ptr p] #[] N p Ce.roundC.p l w2 (dfR N p) D2.d) rfl ?_ ?_
  · exact fun x w3 hg3 hS=>⟨rfl,DecR.err (D2.err hg3) (h0.trans (Ce.seq_err (c:=Ce.lst Ce.roundC) hS _))⟩
  intro a3 r3 y3 w3 hg3 hS3 hy3 e3;have h3:=h0.trans (Ce.seq_got (c:=Ce.lst Ce.roundC) hS3 _);have D3:=D2.call hg3 e3;have hs3:=hg3.size;have B3:=B2.grown hg3 (by intro h;cases h;omega);obtain ⟨v3,rfl⟩:=q2a hy3;have c3:=q0y.one hy3 v3 (List.mem_singleton.2 rfl);skip;refine Ls (q1n (r:=[(0,.tmp 7)]) (zs':=[[v3],[.int .u64 0,.int .u64 0],[.int .u64 0,.int .u64 0],[.slice none 0 0]]) (Parts.cons (c:=[v3]) (z:=[.slice none 0 0]) rfl (q2s c3) rfl rfl (Parts.nil _))) ?_;refine q1a ?_;intro g4 w4 B4 hg4 E4 hs4;have D4:=D3.ext E4;refine q0s (l:=[v3,.int .u64 0,.int .u64 0,.int .u64 0,.int .u64 0,.slice none 0 0]) rfl rfl rfl ?_ B4 rfl ?_
  · intro v hv;simp at hv;rcases hv with rfl | rfl | rfl <;> first | exact c3 | rfl
  intro w5 B5 hg5 hs5;have D5:=D4.set he hg5 (by omega);have B5':=(B3.ext E4).grown hg5 (by intro h;cases h;omega);have hy5:=q0y.nw (q0y.nwE (q0y.nw0 (w:=w) (g:=g2) (g':=g4) hy3 (by omega) (.inl (by omega)) (.inr (by omega))) E4) hg5 (.inr (.inr rfl));(refine q0c<|tn<|q0b<|q0a<|m_P rfl ?_);refine q4x (dext N p r3 w5 D5.d) rfl ?_ ?_
  · exact fun x w6 hg6 hS=>⟨rfl,DecR.err (D5.err hg6) (h3.trans (Ce.seq_err hS _))⟩
  intro a6 r6 y6 w6 hg6 hS6 hy6 e6;have h6:=h3.trans (Ce.seq_got hS6 _);have D6:=D5.call hg6 e6;obtain rfl:y6=exC a6.1 a6.2:=hy6;have hs6:=hg6.size;have B6:=B5.grown hg6 (by intro h;cases h;omega);have B6':=B5'.grown hg6 (by intro h;cases h;omega);have hy6:=q0y.nw hy5 hg6 (.inl (by omega));(refine Ls (q0h rfl) ?_);refine q4u (size:=2) (l:=exC a6.1 a6.2) rfl rfl rfl q4t B6 (Nat.le_of_ble_eq_true rfl) ?_;intro w7 B7 hg7 hs7;have D7:=D6.set he hg7 (by omega);have B7':=B6'.grown hg7 (by intro h;cases h;omega);have hy7:=q0y.nw hy6 hg7 (.inr (.inr rfl));(refine q0c<|tn<|q0b<|q0a<|m_P rfl ?_);refine q4x (dext N p r6 w7 D7.d) rfl ?_ ?_
  · exact fun x w8 hg8 hS=>⟨rfl,DecR.err (D7.err hg8) (h6.trans (Ce.seq_err hS _))⟩
  intro a8 r8 y8 w8 hg8 hS8 hy8 e8;have h8:=h6.trans (Ce.seq_got hS8 _);have D8:=D7.call hg8 e8;obtain rfl:y8=exC a8.1 a8.2:=hy8;have hs8:=hg8.size;have B8:=B7.grown hg8 (by intro h;cases h;omega);have B8':=B7'.grown hg8 (by intro h;cases h;omega);have hy8:=q0y.nw hy7 hg8 (.inl (by omega));(refine Ls (q0h rfl) ?_);refine q4u (size:=2) (l:=exC a8.1 a8.2) rfl rfl rfl q4t B8 (Nat.le_of_ble_eq_true rfl) ?_;intro w9 B9 hg9 hs9;have D9:=D8.set he hg9 (by omega);have B9':=B8'.grown hg9 (by intro h;cases h;omega);have hy9:=q0y.nw hy8 hg9 (.inr (.inr rfl));(refine q0c<|tn<|q0b<|q0a<|m_P rfl<|m_P rfl ?_);refine Ls (q1g (vf:=[ptr p]) (vc:=[]) rfl rfl) ?_;refine q4x (delE q3f z0a 58 #[ptr p] #[] N p Ce.extC.p r8 w9 (dfE N p) D9.d) rfl ?_ ?_
  · exact fun x w10 hg10 hS=>⟨rfl,DecR.err (D9.err hg10) (h8.trans (Ce.map_errR (c:=Ce.roundC) hS _))⟩
  intro a10 r10 y10 w10 hg10 hS10 hy10 e10;have h10:=h8.trans (Ce.map_gotR (c:=Ce.roundC) hS10 _);have D10:=D9.call hg10 e10;obtain ⟨v10,rfl⟩:=q2a hy10;have c10:=q0w.one hy10 v10 (List.mem_singleton.2 rfl);have hs10:=hg10.size;have B10:=B9.grown hg10 (by intro h;cases h;omega);have B10':=B9'.grown hg10 (by intro h;cases h;omega);have hya10:=q0y.nw hy9 hg10 (.inl (by omega));have hyb10:=q0w.nw0 (w:=w) (g:=g2) (g':=g4) hy10 (by omega) (.inl (by omega)) (.inl (by omega));(refine Ls (q0h rfl) ?_);refine q1b (v:=v10) rfl rfl c10 B10 (Nat.le_of_ble_eq_true rfl) ?_;intro w11 B11 hg11 hs11;have D11:=D10.set he hg11 (by omega);have B11':=B10'.grown hg11 (by intro h;cases h;omega);have hya11:=q0y.nw hya10 hg11 (.inr (.inr rfl));have hyb11:=q0w.nw hyb10 hg11 (.inr (.inr rfl));have B11:Blk w11 g4 84 [v3,.int .u64 (a6.1:Nat),.int .u64 (a6.2:Nat),.int .u64 (a8.1:Nat),.int .u64 (a8.2:Nat),v10]:=B11;(refine q0c<|tn<|q0b<|q0a<|Ls (q3h rfl B11 rfl) ?_);refine q0s (l:=[v3,.int .u64 (a6.1:Nat),.int .u64 (a6.2:Nat),.int .u64 (a8.1:Nat),.int .u64 (a8.2:Nat),v10]) rfl rfl rfl ?_ B11' rfl ?_
  · intro v hv;simp at hv;rcases hv with rfl | rfl | rfl | rfl | rfl | rfl <;> first | exact c3 | exact c10 | rfl
  intro w12 B12 hg12 hs12;have D12:=D11.set he hg12 (by omega);have hya12:=q0y.nw hya11 hg12 (.inr (.inl rfl));have hyb12:=q0w.nw hyb11 hg12 (.inr (.inl rfl));(refine q0c<|tn<|q0t ?_);refine q1i rfl rfl (Res.cellA inferInstance rfl (B12.range (o:=0) (fun j u h=>by simpa using h)) rfl .nil) ?_;exact DecR.got D12.g h10 [v3,.int .u64 (a6.1:Nat),.int .u64 (a6.2:Nat),.int .u64 (a8.1:Nat),.int .u64 (a8.2:Nat),v10] ⟨v3,v10,rfl,q0y.mono hya12 fun k hk=>⟨hk.1,hk.2.1⟩,q0w.mono hyb12 fun k hk=>⟨hk.1,hk.2.1⟩⟩ D12.d
theorem dfL (N:Nat→Prop) (p:Nat):DecF 57 #[ptr p] #[] p N Ce.lpC.p lpR agV:=fun w l he=>dlayer N p l w he
end Go.Proofs.YtadfjnnildflkaaGreatDoor
