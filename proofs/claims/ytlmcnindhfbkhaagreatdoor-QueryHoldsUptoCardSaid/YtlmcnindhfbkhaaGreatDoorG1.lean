/- Functions of the program as functions of data (written by program). No condition. -/
import Derived.Test.YtlmcnindhfbkhaaGreatDoorG
set_option linter.unusedVariables false
set_option linter.unusedSimpArgs false
set_option linter.unusedSectionVars false
open Nat renaming ble → YIs
open Option renaming bind → YIC
open ByteArray renaming mk → YIU
open Go.IntKind renaming wrap → YIV
namespace Go.Abs.G47
open Go Go.Abs
set_option maxRecDepth 100000
set_option maxHeartbeats 1000000
variable{P:Program}{fm:FM}{lo:Lo}
def q122_J23_b:VCode:=
 (Rg [oM 83 11,oC 84 510 [83],o 85 (.build [.s (⟨#[]⟩),.i .i64 0,.i .i64 0,.s (⟨#[]⟩)] [(0,1,84)]),o 12 (.alloc [.s (⟨#[]⟩),.i .i64 0,.i .i64 0,.s (⟨#[]⟩)]),oS 4 12 85]
 (.seq (Rg [oM 86 11,oR 87 .geq 86 (ki .u8 4)]
 (.cond 87 (.reg [oM 88 11,oR 89 .sub 88 (ki .u8 4),oC 90 251 [89],o 91 (.build [.s (⟨#[]⟩),.i .i64 0,.i .i64 0,.s (⟨#[]⟩)] [(1,3,90)]),oS 4 12 91])
 .skip))
 (.reg [oF 92 1 9,oL 93 92,oT 94 4 12,o 95 (.bsl Zc11 1 [(0,94)]),o 96 (.app Zc11 0 93 95),oF 97 1 9,oS 1 97 96])))
def Yc0(lo:Lo):Int×Int×Int×Zt1× (List Int)×Zt21×Zt3×Zt0×ByteArray×Zt3×Zt12×ByteArray×Zt3×Zt0×Zt5->Option (Zp31):=fun x=>match x with
  | (i7,k10,code11,db2,d3_0,d3_1,v4_0,v4_1,t8_0,t8_1,t8_2,a9,h6,h7,h8)=>YIC (q121 lo code11) fun y489=>bif(decide (4<=code11))then(YIC (q117 lo (YIV .u8 (code11-4))) fun y490=>chk (h8.length+([((YIU #[]),y490.1,y490.2.1,y490.2.2)]).length<=maxEl) (some (i7,k10,db2,d3_0,d3_1,v4_0,v4_1,t8_0,t8_1,t8_2,a9,h6,h7,(h8++([((YIU #[]),y490.1,y490.2.1,y490.2.2)])))))else(chk (h8.length+([(y489,(0:Int),(0:Int),(YIU #[]))]).length<=maxEl) (some (i7,k10,db2,d3_0,d3_1,v4_0,v4_1,t8_0,t8_1,t8_2,a9,h6,h7,(h8++([(y489,(0:Int),(0:Int),(YIU #[]))])))))
def YAw(lo:Lo):LpE:=⟨23,[(6,some 0,false),(6,some 1,false),(9,some 1,false)],(Zsg [2,3,4,6,7,8,9,10,11] [.ptr 0 0 0,.ptr 1 0 0,.ptr 2 0 0,.ptr 3 0 0,.j,.ptr 4 0 0,.ptr 5 0 0,.j,.i .u8] [.st [.l Zc6],.st [.l Zc20,.l Zc23],.st [.l (cs [.s]),.l Zc7],.st [.ref 6,.ref 7],.st [.s,.l (cs [.s]),.l Zc15],.st [.s,.ref 8],.sq (cs [.s]),.sq Zc7,.sq Zc11]),[⟨.nor,(Zsg [2,3,4,6,7,8,9,10] [.ptr 0 0 0,.ptr 1 0 0,.ptr 2 0 0,.ptr 3 0 0,.j,.ptr 4 0 0,.ptr 5 0 0,.j] [.st [.l Zc6],.st [.l Zc20,.l Zc23],.st [.l (cs [.s]),.l Zc7],.st [.ref 6,.ref 7],.st [.s,.l (cs [.s]),.l Zc15],.st [.s,.ref 8],.sq (cs [.s]),.sq Zc7,.sq Zc11])⟩],Yc0 lo⟩
def Yog(lo:Lo):LL:=(YAw lo,q122_J23_b.er)::[]
theorem YAx(lo:Lo):Lk lo pf (YED lo) 0 (Yog lo):=.j .n
def q122_L15_b:VCode:=
 (.seq (Rg [oM 58 10,oF 59 1 8,oL 60 59,oN 61 60,oR 62 .lss 58 61]
 (Ce 62 2))
 (.seq (.blk 3 (Rg [o 11 (.mv (ki .u8 0))]
 (.seq (Rg [oM 65 10,oF 66 1 3,oL 67 66,oM 68 7,oI 69 2 67 68,oF 70 1 69,oL 71 70,oN 72 71,oR 73 .lss 65 72]
 (.cond 73 (.reg [oF 74 1 3,oL 75 74,oM 76 7,oI 77 2 75 76,oF 78 1 77,oL 79 78,oM 80 10,oI 81 1 79 80,oL 82 81,oM 11 82])
 .skip))
 (.jn 23 q122_J23_b))))
 (.reg [oM 63 10,oR 64 .add 63 (k 1),oM 10 64])))
def YeH(lo:Lo):Zp31->Option (Zp31⊕ ((Int×Zt1× (List Int)×Zt21×Zt3×Zt0×ByteArray×Zt3×Zt0×Zt5))):=fun x=>match x with
  | (i7,k10,db2,d3_0,d3_1,v4_0,v4_1,t8_0,t8_1,t8_2,a9,h6,h7,h8)=>bif(decide (k10< (t8_1.length:Int)))then(chk (0<=i7/\i7< (d3_1.length:Int)) (bif(decide (k10< (((d3_1.getD i7.toNat ((0:Int),[])).2).length:Int)))then(chk (0<=i7/\i7< (d3_1.length:Int)) (chk (0<=k10/\k10< (((d3_1.getD i7.toNat ((0:Int),[])).2).length:Int)) (YIC (Yc0 lo (i7,k10,(((d3_1.getD i7.toNat ((0:Int),[])).2).getD k10.toNat (0:Int)),db2,d3_0,d3_1,v4_0,v4_1,t8_0,t8_1,t8_2,a9,h6,h7,h8)) fun y491=>some (.inl (y491.1,(YIV .i64 (y491.2.1+(1:Int))),y491.2.2.1,y491.2.2.2.1,y491.2.2.2.2.1,y491.2.2.2.2.2.1,y491.2.2.2.2.2.2.1,y491.2.2.2.2.2.2.2.1,y491.2.2.2.2.2.2.2.2.1,y491.2.2.2.2.2.2.2.2.2.1,y491.2.2.2.2.2.2.2.2.2.2.1,y491.2.2.2.2.2.2.2.2.2.2.2.1,y491.2.2.2.2.2.2.2.2.2.2.2.2.1,y491.2.2.2.2.2.2.2.2.2.2.2.2.2)))))else(YIC (Yc0 lo (i7,k10,(0:Int),db2,d3_0,d3_1,v4_0,v4_1,t8_0,t8_1,t8_2,a9,h6,h7,h8)) fun y492=>some (.inl (y492.1,(YIV .i64 (y492.2.1+(1:Int))),y492.2.2.1,y492.2.2.2.1,y492.2.2.2.2.1,y492.2.2.2.2.2.1,y492.2.2.2.2.2.2.1,y492.2.2.2.2.2.2.2.1,y492.2.2.2.2.2.2.2.2.1,y492.2.2.2.2.2.2.2.2.2.1,y492.2.2.2.2.2.2.2.2.2.2.1,y492.2.2.2.2.2.2.2.2.2.2.2.1,y492.2.2.2.2.2.2.2.2.2.2.2.2.1,y492.2.2.2.2.2.2.2.2.2.2.2.2.2)))))else(some (.inr (i7,db2,d3_0,d3_1,v4_0,v4_1,a9,h6,h7,h8)))
def Yg5(lo:Lo):Zp31->Option ((Int×Zt1× (List Int)×Zt21×Zt3×Zt0×ByteArray×Zt3×Zt0×Zt5)):=lo.run (YeH lo)
def YAy(lo:Lo):LpE:=⟨15,[(6,some 0,false),(6,some 1,false),(9,some 1,false)],(Zsg [2,3,4,6,7,8,9,10] [.ptr 0 0 0,.ptr 1 0 0,.ptr 2 0 0,.ptr 3 0 0,.j,.ptr 4 0 0,.ptr 5 0 0,.j] [.st [.l Zc6],.st [.l Zc20,.l Zc23],.st [.l (cs [.s]),.l Zc7],.st [.ref 6,.ref 7],.st [.s,.l (cs [.s]),.l Zc15],.st [.s,.ref 8],.sq (cs [.s]),.sq Zc7,.sq Zc11]),[⟨.exit 2,(Zsg [2,3,4,6,7,9] [.ptr 0 0 0,.ptr 1 0 0,.ptr 2 0 0,.ptr 3 0 0,.j,.ptr 4 0 0] [.st [.l Zc6],.st [.l Zc20,.l Zc23],.st [.l (cs [.s]),.l Zc7],.st [.ref 5,.ref 6],.st [.s,.ref 7],.sq (cs [.s]),.sq Zc7,.sq Zc11])⟩],Yg5 lo⟩
def Yoh(lo:Lo):LL:=(YAy lo,.loop q122_L15_b.er)::Yog lo
theorem YAz(lo:Lo):Lk lo pf (YED lo) 0 (Yoh lo):=.l (YAx lo) (YeH lo)
def q122_L12_b:VCode:=
 (.seq (Rg [oM 33 7,oF 34 1 3,oL 35 34,oN 36 35,oR 37 .lss 33 36]
 (Ce 37 0))
 (.seq (.blk 1 (Rg [oF 40 0 2,⟨some 41,.load false 1 40,none,true,false⟩,oF 42 1 3,⟨some 43,.load false 1 42,none,true,false⟩,oM 44 7,⟨some 45,.iad 2 43 44,none,true,false⟩,oF 46 0 45,⟨some 47,.load false 1 46,none,true,false⟩,o 48 (.conv .i64 47),oF 49 0 2,⟨some 50,.load false 1 49,none,true,false⟩,oN 51 50,oR 52 .rem 48 51,⟨some 53,.iad 3 41 52,none,true,false⟩,⟨some 54,.load true 3 53,none,true,false⟩,o 8 (.alloc [.s (⟨#[]⟩),.e (cs [.s]),.e Zc15]),oS 3 8 54]
 (Rg [oF 55 0 8,oL 56 55,o 57 (.build [.s (⟨#[]⟩),.e Zc11] [(0,1,56)]),o 9 (.alloc [.s (⟨#[]⟩),.e Zc11]),oS 2 9 57]
 (.seq (Rg [oK 10 0]
 (.blk 2 (.loop 15 q122_L15_b)))
 (.fz [9] (.reg [oF 98 1 6,oL 99 98,oT 100 2 9,o 101 (.bsl Zc7 1 [(0,100)]),o 102 (.app Zc7 0 99 101),oF 103 1 6,oS 1 103 102]))))))
 (.reg [oM 38 7,oR 39 .add 38 (k 1),oM 7 39])))
def YeI(lo:Lo):Zp53->Option (Zp53⊕ (((List Int)×Zt21×Zt3×Zt0×Zt3×Zt0))):=fun x=>match x with
  | (i7,db2,d3_0,d3_1,v4_0,v4_1,h4,h5)=>bif(decide (i7< (d3_1.length:Int)))then(chk (0<=i7/\i7< (d3_1.length:Int)) (chk ((db2.length:Int)≠0) (chk (0<=((YIV .i64 ((d3_1.getD i7.toNat ((0:Int),[])).1)).tmod (db2.length:Int))/\ ((YIV .i64 ((d3_1.getD i7.toNat ((0:Int),[])).1)).tmod (db2.length:Int))< (db2.length:Int)) (YIC (Yg5 lo (i7,(0:Int),db2,d3_0,d3_1,v4_0,v4_1,(db2.getD (((YIV .i64 ((d3_1.getD i7.toNat ((0:Int),[])).1)).tmod (db2.length:Int)).toNat) ((YIU #[]),[],[])).1,(db2.getD (((YIV .i64 ((d3_1.getD i7.toNat ((0:Int),[])).1)).tmod (db2.length:Int)).toNat) ((YIU #[]),[],[])).2.1,(db2.getD (((YIV .i64 ((d3_1.getD i7.toNat ((0:Int),[])).1)).tmod (db2.length:Int)).toNat) ((YIU #[]),[],[])).2.2,(db2.getD (((YIV .i64 ((d3_1.getD i7.toNat ((0:Int),[])).1)).tmod (db2.length:Int)).toNat) ((YIU #[]),[],[])).1,h4,h5,[])) fun y493=>chk (y493.2.2.2.2.2.2.2.2.1.length+([(y493.2.2.2.2.2.2.1,y493.2.2.2.2.2.2.2.2.2)]).length<=maxEl) (some (.inl ((YIV .i64 (y493.1+(1:Int))),y493.2.1,y493.2.2.1,y493.2.2.2.1,y493.2.2.2.2.1,y493.2.2.2.2.2.1,y493.2.2.2.2.2.2.2.1,(y493.2.2.2.2.2.2.2.2.1++([(y493.2.2.2.2.2.2.1,y493.2.2.2.2.2.2.2.2.2)])))))))))else(some (.inr (d3_0,d3_1,v4_0,v4_1,h4,h5)))
def Yg6(lo:Lo):Zp53->Option (((List Int)×Zt21×Zt3×Zt0×Zt3×Zt0)):=lo.run (YeI lo)
def YAA(lo:Lo):LpE:=⟨12,[(6,some 0,false),(6,some 1,false)],(Zsg [2,3,4,6,7] [.ptr 0 0 0,.ptr 1 0 0,.ptr 2 0 0,.ptr 3 0 0,.j] [.st [.l Zc6],.st [.l Zc20,.l Zc23],.st [.l (cs [.s]),.l Zc7],.st [.ref 4,.ref 5],.sq (cs [.s]),.sq Zc7]),[⟨.exit 0,(Zsg [3,4,6] [.ptr 0 0 0,.ptr 1 0 0,.ptr 2 0 0] [.st [.l Zc20,.l Zc23],.st [.l (cs [.s]),.l Zc7],.st [.ref 3,.ref 4],.sq (cs [.s]),.sq Zc7])⟩],Yg6 lo⟩
def Yoi(lo:Lo):LL:=(YAA lo,.loop q122_L12_b.er)::Yoh lo
theorem YAB(lo:Lo):Lk lo pf (YED lo) 0 (Yoi lo):=.l (YAz lo) (YeI lo)
def q122_L3_b:VCode:=
 (.seq (Rg [oM 107 14,oF 108 0 3,oL 109 108,oN 110 109,oR 111 .lss 107 110,oM 112 111,gT 113 112 (.mv 14),gT 114 112 (.bin .lss 113 (k 4)),oP 115 112 114 (kb false)]
 (Ce 115 4))
 (.seq (.blk 5 (Rg [oF 118 0 3,oL 119 118,oM 120 14,oI 121 1 119 120,oL 122 121,oC 123 510 [122],oM 15 123]
 (Rg [oM 124 13,oM 125 15,oC 126 272 [124,125],oR 127 .geq 126 (k 0),oM 128 127,gT 129 128 (.fad 0 6),gT 130 128 (.load false 1 129),gT 131 128 (.mv 15),gT 132 128 (.call 272 [130,131]),gT 133 128 (.bin .lss 132 (k 0)),oP 134 128 133 (kb false)]
 (.cond 134 (.reg [oF 135 0 6,oL 136 135,oM 137 15,o 138 (.bsl (cs [.s]) 1 [(0,137)]),o 139 (.app (cs [.s]) 0 136 138),oF 140 0 6,oS 1 140 139])
 .skip))))
 (.reg [oM 116 14,oR 117 .add 116 (k 1),oM 14 117])))
def Yc1(lo:Lo):Zp54->Option (Zp54⊕ ((Zt3×Zt0×Zt0×Zt3))):=fun x=>match x with
  | (l13,i14,d3_0,d3_1,v4_0,v4_1,q6,h3)=>bif(decide (i14< (d3_0.length:Int)))then(bif(decide (i14<4))then(chk (0<=i14/\i14< (d3_0.length:Int)) (YIC (q121 lo (d3_0.getD i14.toNat (0:Int))) fun y496=>YIC (q104 lo l13 y496) fun y497=>bif(decide (0<=y497))then(YIC (q104 lo h3 y496) fun y498=>bif(decide (y498<0))then(chk (h3.length+[y496].length<=maxEl) (some (.inl (l13,(YIV .i64 (i14+1)),d3_0,d3_1,v4_0,v4_1,q6,(h3++[y496])))))else(some (.inl (l13,(YIV .i64 (i14+1)),d3_0,d3_1,v4_0,v4_1,q6,h3))))else(some (.inl (l13,(YIV .i64 (i14+1)),d3_0,d3_1,v4_0,v4_1,q6,h3)))))else(some (.inr (v4_0,v4_1,q6,h3))))else(some (.inr (v4_0,v4_1,q6,h3)))
def Yg7(lo:Lo):Zp54->Option ((Zt3×Zt0×Zt0×Zt3)):=lo.run (Yc1 lo)
def YAC(lo:Lo):LpE:=⟨3,[(6,some 0,false)],(Zsg [3,4,6,13,14] [.ptr 0 0 0,.ptr 1 0 0,.ptr 2 0 0,.l (cs [.s]),.j] [.st [.l Zc20,.l Zc23],.st [.l (cs [.s]),.l Zc7],.st [.ref 3,.l Zc7],.sq (cs [.s])]),[⟨.exit 4,(Zsg [4,6] [.ptr 0 0 0,.ptr 1 0 0] [.st [.l (cs [.s]),.l Zc7],.st [.ref 2,.l Zc7],.sq (cs [.s])])⟩],Yg7 lo⟩
def YAD(lo:Lo):LL:=(YAC lo,.loop q122_L3_b.er)::Yoi lo
theorem YAE(lo:Lo):Lk lo pf (YED lo) 0 (YAD lo):=.l (YAB lo) (Yc1 lo)
def q122(lo:Lo)(db0:List (ByteArray×Zt3×Zt12))(d1_0:List Int)(d1_1:List (Int× (List Int))):Option (Zt3×Zt0×Bool):=
  bif(decide ((db0.length:Int)=0))then(some (([]:List ByteArray),([]:List (ByteArray×Zt5)),false))else(bif(decide ((d1_1.length:Int)<1))then(some (([]:List ByteArray),([]:List (ByteArray×Zt5)),false))else(bif(decide ((3:Int)< (d1_1.length:Int)))then(some (([]:List ByteArray),([]:List (ByteArray×Zt5)),false))else(YIC (Yg6 lo ((0:Int),db0,d1_0,d1_1,([]:List ByteArray),([]:List (ByteArray×Zt5)),[],[])) fun y494=>YIC (q113 lo y494.2.2.2.2.2) fun y495=>YIC (Yg7 lo (y495,(0:Int),y494.1,y494.2.1,y494.2.2.1,y494.2.2.2.1,y494.2.2.2.2.2,y494.2.2.2.2.1)) fun y499=>some (y499.2.2.2,y499.2.2.1,true))))
def YAF:VFn:=⟨true,142,[.c 4 true 2,.t 5],
 (Rg [oG 2 0,oG 3 1,o 4 (.alloc [.e (cs [.s]),.e Zc7]),oB 5 false]
 (.seq (Rg [oF 16 0 2,oL 17 16,oN 18 17,oR 19 .eql 18 (k 0),oM 20 19,gF 21 20 (.fad 1 3),gF 22 20 (.load false 1 21),gF 23 20 (.len 22),gF 24 20 (.bin .lss 23 (k 1)),oP 25 20 (kb true) 24,oM 26 25,gF 27 26 (.fad 1 3),gF 28 26 (.load false 1 27),gF 29 26 (.len 28),gF 30 26 (.bin .gtr 29 (k 3)),oP 31 26 (kb true) 30]
 (.cond 31 (Rg [o 32 (.build [.e (cs [.s]),.e Zc7] []),oS 2 4 32,oB 5 false]
 (.fz [4,5] .ret))
 .skip))
 (Rg [o 6 (.alloc [.e (cs [.s]),.e Zc7])]
 (.seq (Rg [oK 7 0]
 (.blk 0 (.loop 12 q122_L12_b)))
 (.seq (.fz [2000006] (.reg [oF 104 1 6,oL 105 104,oC 106 511 [105],oM 13 106]))
 (.seq (Rg [oK 14 0]
 (.blk 4 (.loop 3 q122_L3_b)))
 (Rg [oT 141 2 6,oS 2 4 141,oB 5 true]
 (.fz [4,5] .ret))))))))⟩
def Yoj(lo:Lo):FnE:=Zfe 475 true (Zsg [0,1] [.ag [.l Zc6],.ag [.l Zc20,.l Zc23]] []) (.tp [.ag [.l (cs [.s]),.l Zc7],.b]) [] (fun x=>q122 lo x.1 x.2.1 x.2.2:Zt1× (List Int)×Zt21->Option (Zt3×Zt0×Bool))
noncomputable def YFt(lo:Lo):List FnE:=Yoj lo::YED lo
theorem YAG(h:GZ P fm YED lo)(t:Ti P fm 475 YAF):GZ P fm YFt lo:=
  h.p (Yoj lo) (YAE lo) t
def q123_L3_b:VCode:=
 (.seq (Rg [oM 5 4,oF 6 1 1,oL 7 6,oN 8 7,oR 9 .lss 5 8]
 (Ce 9 0))
 (.seq (.blk 1 (.reg [oM 12 3,oF 13 1 1,oL 14 13,oM 15 4,oI 16 3 14 15,oT 17 3 16,o 18 (.build [.s (⟨#[]⟩),.i .i64 0,.i .i64 0,.s (⟨#[]⟩)] [(1,3,17)]),o 19 (.bsl Zc11 1 [(0,18)]),o 20 (.app Zc11 0 12 19),oM 3 20]))
 (.reg [oM 10 4,oR 11 .add 10 (k 1),oM 4 11])))
def YeJ(lo:Lo):Int×Int×Zt4×Zt5->Option ((Int×Int×Zt4×Zt5)⊕ ((Zt5))):=fun x=>match x with
  | (i4,r1_0,r1_1,out3)=>bif(decide (i4< (r1_1.length:Int)))then(chk (0<=i4/\i4< (r1_1.length:Int)) (chk (out3.length+([((YIU #[]),(r1_1.getD i4.toNat Zd1).1,(r1_1.getD i4.toNat Zd1).2.1,(r1_1.getD i4.toNat Zd1).2.2)]).length<=maxEl) (some (.inl ((YIV .i64 (i4+1)),r1_0,r1_1,(out3++([((YIU #[]),(r1_1.getD i4.toNat Zd1).1,(r1_1.getD i4.toNat Zd1).2.1,(r1_1.getD i4.toNat Zd1).2.2)])))))))else(some (.inr out3))
def Yg8(lo:Lo):Int×Int×Zt4×Zt5->Option ((Zt5)):=lo.run (YeJ lo)
def YAH(lo:Lo):LpE:=⟨3,[(3,none,false)],(Zsg [1,3,4] [.ptr 0 0 0,.ref 1,.j] [.st [.j,.l Zc10],.sq Zc11]),[⟨.exit 0,(Zsg [3] [.ref 0] [.sq Zc11])⟩],Yg8 lo⟩
def YAI(lo:Lo):LL:=(YAH lo,.loop q123_L3_b.er)::[]
theorem YAJ(lo:Lo):Lk lo pf (YFt lo) 0 (YAI lo):=.l .n (YeJ lo)
def q123(lo:Lo)(r0_0:Int)(r0_1:List (Int×Int×ByteArray)):Option (Zt5):=
  YIC (Yg8 lo ((0:Int),r0_0,r0_1,[])) fun y508=>some y508
def YAK:VFn:=⟨true,22,[.t 2],
 (Rg [oG 1 0,o 2 (.mv (ke Zc11))]
 (Rg [o 3 (.mv (ke Zc11))]
 (.seq (Rg [oK 4 0]
 (.blk 0 (.loop 3 q123_L3_b)))
 (Rg [oM 21 3,oM 2 21]
 (Fr 2)))))⟩
def Yok(lo:Lo):FnE:=Zfe 544 true (Zsg [0] [.ag [.j,.l Zc10]] []) (.l Zc11) [] (fun x=>q123 lo x.1 x.2:Int×Zt4->Option (Zt5))
noncomputable def YFT(lo:Lo):List FnE:=Yok lo::YFt lo
theorem YAL(h:GZ P fm YFt lo)(t:Ti P fm 544 YAK):GZ P fm YFT lo:=
  h.p (Yok lo) (YAJ lo) t
def q124(lo:Lo)(a0:Int)(b1:Int):Option Int:=
  bif(decide (a0<b1))then(some (-1:Int))else(bif(decide (b1<a0))then(some (1:Int))else(some (0:Int)))
def YAM:VFn:=⟨true,11,[.t 4],
 (Rg [oK 4 0]
 (.seq (Rg [oM 5 0,oM 6 1,oR 7 .lss 5 6]
 (.cond 7 (Rg [oK 4 (-1)]
 (Fr 4))
 .skip))
 (.seq (Rg [oM 8 0,oM 9 1,oR 10 .gtr 8 9]
 (.cond 10 (Rg [oK 4 1]
 (Fr 4))
 .skip))
 (Rg [oK 4 0]
 (Fr 4)))))⟩
def Yol(lo:Lo):FnE:=Zfe 303 true (Zsg [0,1] [.j,.j] []) (.i .i64) [] (fun x=>q124 lo x.1 x.2:Int×Int->Option Int)
noncomputable def YFu(lo:Lo):List FnE:=Yol lo::YFT lo
theorem YAN(h:GZ P fm YFT lo)(t:Ti P fm 303 YAM):GZ P fm YFu lo:=
  h.p (Yol lo) .n t
def q125_L3_b:VCode:=
 (.seq (Rg [oM 6 5,oM 7 0,o 8 (.lenS 7),oR 9 .lss 6 8,oM 10 9,gT 11 10 (.mv 5),gT 12 10 (.mv 1),gT 13 10 (.lenS 12),gT 14 10 (.bin .lss 11 13),oP 15 10 14 (kb false)]
 (Ce 15 0))
 (.seq (.blk 1 (Rg [oM 18 0,oM 19 5,o 20 (.idx 18 19),oM 21 1,oM 22 5,o 23 (.idx 21 22),oR 24 .neq 20 23]
 (.cond 24 (Rg [oM 25 0,oM 26 5,o 27 (.idx 25 26),o 28 (.conv .i64 27),oM 29 1,oM 30 5,o 31 (.idx 29 30),o 32 (.conv .i64 31),oC 33 303 [28,32],oM 4 33]
 (Fr 4))
 .skip)))
 (.reg [oM 16 5,oR 17 .add 16 (k 1),oM 5 17])))
def Yc2(lo:Lo):ByteArray×ByteArray×Int->Option ((ByteArray×ByteArray×Int)⊕ (Int⊕ (ByteArray×ByteArray))):=fun x=>match x with
  | (a0,b1,i5)=>bif(decide (i5< (a0.size:Int)))then(bif(decide (i5< (b1.size:Int)))then(chk (0<=i5/\i5< (a0.size:Int)) (chk (0<=i5/\i5< (b1.size:Int)) (bif(!decide ((YCZ a0 i5)=(YCZ b1 i5)))then(chk (0<=i5/\i5< (a0.size:Int)) (chk (0<=i5/\i5< (b1.size:Int)) (YIC (q124 lo (YIV .i64 (YCZ a0 i5)) (YIV .i64 (YCZ b1 i5))) fun y512=>some (.inr (.inl y512)))))else(some (.inl (a0,b1,(YIV .i64 (i5+1))))))))else(some (.inr (.inr (a0,b1)))))else(some (.inr (.inr (a0,b1))))
def Yg9(lo:Lo):ByteArray×ByteArray×Int->Option (Int⊕ (ByteArray×ByteArray)):=lo.run (Yc2 lo)
def YAO(lo:Lo):LpE:=⟨3,[],(Zsg [0,1,5] [.s,.s,.j] []),[⟨.ret,(Zsg [4] [.j] [])⟩,⟨.exit 0,(Zsg [0,1] [.s,.s] [])⟩],Yg9 lo⟩
def YAP(lo:Lo):LL:=(YAO lo,.loop q125_L3_b.er)::[]
theorem YAQ(lo:Lo):Lk lo pf (YFu lo) 0 (YAP lo):=.l .n (Yc2 lo)
def q125(lo:Lo)(a0:ByteArray)(b1:ByteArray):Option Int:=
  YIC (Yg9 lo (a0,b1,(0:Int))) fun y513=>alt2 y513 (fun y514=>some y514) (fun y515=>YIC (q124 lo (y515.1.size:Int) (y515.2.size:Int)) fun y516=>some y516)
def YAR:VFn:=⟨true,39,[.t 4],
 (Rg [oK 4 0]
 (.seq (Rg [oK 5 0]
 (.blk 0 (.loop 3 q125_L3_b)))
 (Rg [oM 34 0,o 35 (.lenS 34),oM 36 1,o 37 (.lenS 36),oC 38 303 [35,37],oM 4 38]
 (Fr 4))))⟩
def Yom(lo:Lo):FnE:=Zfe 320 true (Zsg [0,1] [.s,.s] []) (.i .i64) [] (fun x=>q125 lo x.1 x.2:ByteArray×ByteArray->Option Int)
noncomputable def YFU(lo:Lo):List FnE:=Yom lo::YFu lo
theorem YAS(h:GZ P fm YFu lo)(t:Ti P fm 320 YAR):GZ P fm YFU lo:=
  h.p (Yom lo) (YAQ lo) t
def q126(lo:Lo)(a0_0:Int)(a0_1:Int)(a0_2:ByteArray)(b1_0:Int)(b1_1:Int)(b1_2:ByteArray):Option Int:=
  YIC (q124 lo a0_0 b1_0) fun y510=>bif(!decide (y510=0))then(some y510)else(YIC (q124 lo a0_1 b1_1) fun y511=>bif(!decide (y511=0))then(some y511)else(YIC (q125 lo a0_2 b1_2) fun y517=>some y517))
def YAT:VFn:=⟨true,28,[.t 4],
 (Rg [oG 2 0,oG 3 1,oK 4 0]
 (.seq (Rg [oF 7 0 2,oL 8 7,oF 9 0 3,oL 10 9,oC 11 303 [8,10],oM 5 11]
 (Rg [oM 12 5,oR 13 .neq 12 (k 0)]
 (.cond 13 (Rg [oM 14 5,oM 4 14]
 (Fr 4))
 .skip)))
 (.seq (Rg [oF 15 1 2,oL 16 15,oF 17 1 3,oL 18 17,oC 19 303 [16,18],oM 6 19]
 (Rg [oM 20 6,oR 21 .neq 20 (k 0)]
 (.cond 21 (Rg [oM 22 6,oM 4 22]
 (Fr 4))
 .skip)))
 (Rg [oF 23 2 2,oL 24 23,oF 25 2 3,oL 26 25,oC 27 320 [24,26],oM 4 27]
 (Fr 4)))))⟩
def Yon(lo:Lo):FnE:=Zfe 302 true (Zsg [0,1] [.ag [.j,.j,.s],.ag [.j,.j,.s]] []) (.i .i64) [] (fun x=>q126 lo x.1 x.2.1 x.2.2.1 x.2.2.2.1 x.2.2.2.2.1 x.2.2.2.2.2:Int×Int×ByteArray×Int×Int×ByteArray->Option Int)
noncomputable def YFV(lo:Lo):List FnE:=Yon lo::YFU lo
theorem YAU(h:GZ P fm YFU lo)(t:Ti P fm 302 YAT):GZ P fm YFV lo:=
  h.p (Yon lo) .n t
def q127(lo:Lo)(a0_0:ByteArray)(a0_1:Int)(a0_2:Int)(a0_3:ByteArray)(b1_0:ByteArray)(b1_1:Int)(b1_2:Int)(b1_3:ByteArray):Option Bool:=
  bif(decide (a0_0=b1_0))then(YIC (q126 lo a0_1 a0_2 a0_3 b1_1 b1_2 b1_3) fun y518=>some (decide (y518=0)))else(some false)
def YAV:VFn:=⟨true,18,[.t 4],
 (Rg [oG 2 0,oG 3 1,oB 4 false]
 (Rg [oF 5 0 2,oL 6 5,oF 7 0 3,oL 8 7,oR 9 .eql 6 8,oM 10 9,gT 11 10 (.fad 1 2),gT 12 10 (.load true 3 11),gT 13 10 (.fad 1 3),gT 14 10 (.load true 3 13),gT 15 10 (.call 302 [12,14]),gT 16 10 (.bin .eql 15 (k 0)),oP 17 10 16 (kb false),oM 4 17]
 (Fr 4)))⟩
def Yoo(lo:Lo):FnE:=Zfe 524 true (Zsg [0,1] [.ag [.s,.j,.j,.s],.ag [.s,.j,.j,.s]] []) .b [] (fun x=>q127 lo x.1 x.2.1 x.2.2.1 x.2.2.2.1 x.2.2.2.2.1 x.2.2.2.2.2.1 x.2.2.2.2.2.2.1 x.2.2.2.2.2.2.2:ByteArray×Int×Int×ByteArray×ByteArray×Int×Int×ByteArray->Option Bool)
noncomputable def YFW(lo:Lo):List FnE:=Yoo lo::YFV lo
theorem YAW(h:GZ P fm YFV lo)(t:Ti P fm 524 YAV):GZ P fm YFW lo:=
  h.p (Yoo lo) .n t
def q128(lo:Lo)(b0_0:List ByteArray)(b0_1:List Zp69)(t1_0:ByteArray)(t1_1:Int)(t1_2:Int)(t1_3:ByteArray)(u2_0:ByteArray)(u2_1:Int)(u2_2:Int)(u2_3:ByteArray):Option (Zt3×Zt5×Bool):=
  bif(decide (t1_0=(YIU #[])))then(YIC (q127 lo t1_0 t1_1 t1_2 t1_3 u2_0 u2_1 u2_2 u2_3) fun y519=>some (b0_0,b0_1,y519))else(YIC (q104 lo b0_0 t1_0) fun y520=>bif(decide (0<=y520))then(chk (0<=y520/\y520< (b0_1.length:Int)) (YIC (q127 lo ((b0_1.getD y520.toNat Zd0).1) ((b0_1.getD y520.toNat Zd0).2.1) ((b0_1.getD y520.toNat Zd0).2.2.1) ((b0_1.getD y520.toNat Zd0).2.2.2) u2_0 u2_1 u2_2 u2_3) fun y521=>some (b0_0,b0_1,y521)))else(chk (b0_0.length<=maxEl) (chk (b0_0.length+[t1_0].length<=maxEl) (chk (b0_1.length<=maxEl) (chk (b0_1.length+([(u2_0,u2_1,u2_2,u2_3)]).length<=maxEl) (some ((b0_0++[t1_0]),(b0_1++([(u2_0,u2_1,u2_2,u2_3)])),true)))))))
def YAX:VFn:=⟨true,47,[.c 6 true 2,.t 7],
 (Rg [oG 3 0,oG 4 1,oG 5 2,o 6 (.alloc [.e (cs [.s]),.e Zc11]),oB 7 false]
 (.seq (Rg [oF 9 0 4,oL 10 9,oR 11 .eql 10 (ks (⟨#[]⟩))]
 (.cond 11 (Rg [oT 12 2 3,oT 13 4 4,oT 14 4 5,oC 15 524 [13,14],oS 2 6 12,oM 7 15]
 (.fz [6,7] .ret))
 .skip))
 (Rg [oF 16 0 3,oL 17 16,oF 18 0 4,oL 19 18,oC 20 272 [17,19],oM 8 20]
 (.seq (Rg [oM 21 8,oR 22 .geq 21 (k 0)]
 (.cond 22 (Rg [oT 23 2 3,oF 24 1 3,oL 25 24,oM 26 8,oI 27 4 25 26,oT 28 4 27,oT 29 4 5,oC 30 524 [28,29],oS 2 6 23,oM 7 30]
 (.fz [6,7] .ret))
 .skip))
 (Rg [o 31 (.bsl (cs [.s]) 0 []),oF 32 0 3,oL 33 32,⟨some 34,.app (cs [.s]) 0 31 33,none,false,true⟩,oF 35 0 4,⟨some 36,.load false 1 35,none,true,false⟩,o 37 (.bsl (cs [.s]) 1 [(0,36)]),⟨some 38,.app (cs [.s]) 0 34 37,none,false,true⟩,o 39 (.bsl Zc11 0 []),oF 40 1 3,⟨some 41,.load false 1 40,none,true,false⟩,⟨some 42,.app Zc11 0 39 41,none,false,true⟩,⟨some 43,.load true 4 5,none,true,false⟩,o 44 (.bsl Zc11 1 [(0,43)]),o 45 (.app Zc11 0 42 44),o 46 (.build [.e (cs [.s]),.e Zc11] [(0,1,38),(1,1,45)]),oS 2 6 46,oB 7 true]
 (.fz [6,7] .ret))))))⟩
def Yop(lo:Lo):FnE:=Zfe 547 true (Zsg [0,1,2] [.ag [.l (cs [.s]),.l Zc11],.ag [.s,.j,.j,.s],.ag [.s,.j,.j,.s]] []) (.tp [.ag [.l (cs [.s]),.l Zc11],.b]) [] (fun x=>q128 lo x.1 x.2.1 x.2.2.1 x.2.2.2.1 x.2.2.2.2.1 x.2.2.2.2.2.1 x.2.2.2.2.2.2.1 x.2.2.2.2.2.2.2.1 x.2.2.2.2.2.2.2.2.1 x.2.2.2.2.2.2.2.2.2:Zt3×Zt5×ByteArray×Int×Int×ByteArray×ByteArray×Int×Int×ByteArray->Option (Zt3×Zt5×Bool))
noncomputable def YFv(lo:Lo):List FnE:=Yop lo::YFW lo
theorem YAY(h:GZ P fm YFW lo)(t:Ti P fm 547 YAX):GZ P fm YFv lo:=
  h.p (Yop lo) .n t
def q129_L3_b:VCode:=
 (.seq (Rg [oM 17 9,oM 18 2,oN 19 18,oR 20 .lss 17 19,oM 21 20,gT 22 21 (.mv 8),oP 23 21 22 (kb false)]
 (Ce 23 0))
 (.seq (.blk 1 (.reg [oT 27 2 3,oF 28 1 4,oL 29 28,oM 30 9,oI 31 4 29 30,oT 32 4 31,oM 33 2,oM 34 9,oI 35 4 33 34,oT 36 4 35,oC 37 547 [27,32,36],oM 26 37,oE 38 26 0,oE 39 26 1,oS 2 3 38,oM 8 39]))
 (.reg [oM 24 9,oR 25 .add 24 (k 1),oM 9 25])))
def Yc3(lo:Lo):Zp50->Option (Zp50⊕ ((Bool×Zt3×Zt5×Zt3×Zt5))):=fun x=>match x with
  | (l2,ok8,i9,b3_0,b3_1,a4_0,a4_1,v6_0,v6_1)=>bif(decide (i9< (l2.length:Int)))then(bif ok8 then(chk (0<=i9/\i9< (a4_1.length:Int)) (chk (0<=i9/\i9< (l2.length:Int)) (YIC (q128 lo b3_0 b3_1 ((a4_1.getD i9.toNat Zd0).1) ((a4_1.getD i9.toNat Zd0).2.1) ((a4_1.getD i9.toNat Zd0).2.2.1) ((a4_1.getD i9.toNat Zd0).2.2.2) ((l2.getD i9.toNat Zd0).1) ((l2.getD i9.toNat Zd0).2.1) ((l2.getD i9.toNat Zd0).2.2.1) ((l2.getD i9.toNat Zd0).2.2.2)) fun y522=>some (.inl (l2,y522.2.2,(YIV .i64 (i9+1)),y522.1,y522.2.1,a4_0,a4_1,v6_0,v6_1)))))else(some (.inr (ok8,b3_0,b3_1,v6_0,v6_1))))else(some (.inr (ok8,b3_0,b3_1,v6_0,v6_1)))
def Yc4(lo:Lo):Zp50->Option ((Bool×Zt3×Zt5×Zt3×Zt5)):=lo.run (Yc3 lo)
def YAZ(lo:Lo):LpE:=⟨3,[],(Zsg [2,3,4,6,8,9] [.l Zc11,.ptr 0 0 0,.ptr 1 0 0,.ptr 2 0 0,.b,.j] [.st [.l (cs [.s]),.l Zc11],.st [.s,.l Zc11],.st [.l (cs [.s]),.l Zc11]]),[⟨.exit 0,(Zsg [3,6,8] [.ptr 0 0 0,.ptr 1 0 0,.b] [.st [.l (cs [.s]),.l Zc11],.st [.l (cs [.s]),.l Zc11]])⟩],Yc4 lo⟩
def YA0(lo:Lo):LL:=(YAZ lo,.loop q129_L3_b.er)::[]
theorem YA1(lo:Lo):Lk lo pf (YFv lo) 0 (YA0 lo):=.l .n (Yc3 lo)
def q129(lo:Lo)(b0_0:List ByteArray)(b0_1:List Zp69)(a1_0:ByteArray)(a1_1:List Zp69)(l2:List Zp69):Option (Zt3×Zt5×Bool):=
  bif(!decide ((a1_1.length:Int)=(l2.length:Int)))then(some (b0_0,b0_1,false))else(YIC (Yc4 lo (l2,true,(0:Int),b0_0,b0_1,a1_0,a1_1,([]:List ByteArray),([]:List Zp69))) fun y523=>some (y523.2.1,y523.2.2.1,y523.1))
def YA2:VFn:=⟨true,42,[.c 6 true 2,.t 7],
 (Rg [oG 3 0,oG 4 1,o 6 (.alloc [.e (cs [.s]),.e Zc11]),oB 7 false]
 (.seq (Rg [oF 10 1 4,oL 11 10,oN 12 11,oM 13 2,oN 14 13,oR 15 .neq 12 14]
 (.cond 15 (Rg [oT 16 2 3,oS 2 6 16,oB 7 false]
 (.fz [6,7] .ret))
 .skip))
 (Rg [oB 8 true]
 (.seq (Rg [oK 9 0]
 (.blk 0 (.loop 3 q129_L3_b)))
 (Rg [oT 40 2 3,oM 41 8,oS 2 6 40,oM 7 41]
 (.fz [6,7] .ret))))))⟩
def Yoq(lo:Lo):FnE:=Zfe 526 true (Zsg [0,1,2] [.ag [.l (cs [.s]),.l Zc11],.ag [.s,.l Zc11],.l Zc11] []) (.tp [.ag [.l (cs [.s]),.l Zc11],.b]) [] (fun x=>q129 lo x.1 x.2.1 x.2.2.1 x.2.2.2.1 x.2.2.2.2:Zt3×Zt5×ByteArray×Zt5×Zt5->Option (Zt3×Zt5×Bool))
noncomputable def YFw(lo:Lo):List FnE:=Yoq lo::YFv lo
theorem YA3(h:GZ P fm YFv lo)(t:Ti P fm 526 YA2):GZ P fm YFw lo:=
  h.p (Yoq lo) (YA1 lo) t
end Go.Abs.G47
namespace Go.Abs.G47
open Go Go.Abs
set_option maxRecDepth 100000
set_option maxHeartbeats 1000000
variable{P:Program}{fm:FM}{lo:Lo}
def Yor(F:Zp68->Option (Zt17)):FnE:=⟨516,true,(Zsg [0,1,2] [.ag [.l Zc6],.l Zc7,.ag [.l (cs [I]),.l (cs [.s]),.l Zc11]] []),.l Zc22,[],(cs [.l Zc22]),F⟩
def q130_L3_b:VCode:=
 (.seq (Rg [oM 28 9,oF 29 2 7,oL 30 29,oN 31 30,oR 32 .lss 28 31]
 (Ce 32 0))
 (.seq (.blk 1 (Rg [oF 36 1 5,⟨some 37,.load true 2 36,none,true,false⟩,oM 38 1,⟨some 39,.iad 2 38 (k 0),none,true,false⟩,⟨some 40,.load true 2 39,none,true,false⟩,oF 41 2 7,⟨some 42,.load false 1 41,none,true,false⟩,oM 43 9,⟨some 44,.iad 2 42 43,none,true,false⟩,⟨some 45,.load true 2 44,none,true,false⟩,⟨some 46,.call 544 [45],none,true,false⟩,⟨some 47,.call 526 [37,40,46],none,true,false⟩,oM 35 47,oE 48 35 0,oE 49 35 1,o 10 (.alloc [.e (cs [.s]),.e Zc11]),oS 2 10 48,oM 11 49]
 (Rg [oM 50 11]
 (.cond 50 (.reg [oM 51 8,⟨some 52,.load true 1 3,none,true,false⟩,oM 53 1,o 54 (.slcR 2 53 (some (k 1)) none),o 55 (.bsl (cs [I]) 0 []),oF 56 0 5,oL 57 56,⟨some 58,.app (cs [I]) 0 55 57,none,false,true⟩,oF 59 2 7,⟨some 60,.load false 1 59,none,true,false⟩,oM 61 9,⟨some 62,.iad 2 60 61,none,true,false⟩,oF 63 0 62,⟨some 64,.load false 1 63,none,true,false⟩,o 65 (.bsl (cs [I]) 1 [(0,64)]),⟨some 66,.appD (cs [I]) 58 65,none,false,true⟩,⟨some 67,.load true 2 10,none,true,false⟩,o 68 (.build [.e (cs [I]),.e (cs [.s]),.e Zc11] [(0,1,66),(1,2,67)]),oC 69 516 [52,54,68],o 70 (.app Zc22 0 51 69),oM 8 70])
 .skip))))
 (.reg [oM 33 9,oR 34 .add 33 (k 1),oM 9 34])))
def Yb8(lo:Lo)(rec:Zp68->Option (Zt17)):Zp44->Option (Zp44⊕ ((Zt17))):=fun x=>match x with
  | (l1,i9,db3,w5_0,w5_1,w5_2,t7_0,t7_1,t7_2,out8)=>bif(decide (i9< (t7_2.length:Int)))then(chk (0<=(0:Int)/\ (0:Int)< (l1.length:Int)) (chk (0<=i9/\i9< (t7_2.length:Int)) (YIC (q123 lo ((t7_2.getD i9.toNat ((0:Int),[])).1) ((t7_2.getD i9.toNat ((0:Int),[])).2)) fun y509=>YIC (q129 lo w5_1 w5_2 ((l1.getD 0 ((YIU #[]),[])).1) ((l1.getD 0 ((YIU #[]),[])).2) y509) fun y524=>bif y524.2.2 then(chk (0<=(1:Int)/\ (1:Int)<=(l1.length:Int)/\ (l1.length:Int)<=(l1.length:Int)) (chk (w5_0.length<=maxEl) (chk (0<=i9/\i9< (t7_2.length:Int)) (chk (w5_0.length+([(t7_2.getD i9.toNat ((0:Int),[])).1]).length<=maxEl) (YIC (rec (db3,((l1.take (l1.length:Int).toNat).drop 1),(w5_0++([(t7_2.getD i9.toNat ((0:Int),[])).1])),y524.1,y524.2.1)) fun y525=>chk (out8.length+y525.length<=maxEl) (some (.inl (l1,(YIV .i64 (i9+1)),db3,w5_0,w5_1,w5_2,t7_0,t7_1,t7_2,(out8++y525)))))))))else(some (.inl (l1,(YIV .i64 (i9+1)),db3,w5_0,w5_1,w5_2,t7_0,t7_1,t7_2,out8))))))else(some (.inr out8))
def Yc5(lo:Lo)(rec:Zp68->Option (Zt17)):Zp44->Option ((Zt17)):=lo.run (Yb8 lo rec)
def YA4(lo:Lo)(rec:Zp68->Option (Zt17)):LpE:=⟨3,[(8,none,false)],(Zsg [1,3,5,7,8,9] [.l Zc7,.ptr 0 0 0,.ptr 1 0 0,.ptr 2 0 0,.ref 3,.j] [.st [.l Zc6],.st [.l (cs [I]),.l (cs [.s]),.l Zc11],.st [.s,.l (cs [.s]),.l Zc15],.sq Zc22]),[⟨.exit 0,(Zsg [8] [.ref 0] [.sq Zc22])⟩],Yc5 lo rec⟩
def Yos(lo:Lo)(rec:Zp68->Option (Zt17)):LL:=(YA4 lo rec,.loop q130_L3_b.er)::[]
theorem YA5(lo:Lo)(rec:Zp68->Option (Zt17)):Lk lo pf (Yor rec::YFw lo) 0 (Yos lo rec):=.l .n (Yb8 lo rec)
def YeK(lo:Lo)(rec:Zp68->Option (Zt17))(db0:List (ByteArray×Zt3×Zt12))(l1:List (ByteArray×Zt5))(w2_0:List Int)(w2_1:List ByteArray)(w2_2:List Zp69):Option (Zt17):=
  bif(decide ((l1.length:Int)=0))then(some ([(w2_0,w2_1,w2_2)]))else(chk (0<=(0:Int)/\ (0:Int)< (l1.length:Int)) (YIC (q109 lo db0 ((l1.getD 0 ((YIU #[]),[])).1)) fun y507=>chk (0<=y507/\y507< (db0.length:Int)) (YIC (Yc5 lo rec (l1,(0:Int),db0,w2_0,w2_1,w2_2,(db0.getD y507.toNat ((YIU #[]),[],[])).1,(db0.getD y507.toNat ((YIU #[]),[],[])).2.1,(db0.getD y507.toNat ((YIU #[]),[],[])).2.2,[])) fun y526=>some y526)))
def Ybd(lo:Lo):Nat->Zt1×Zt0× (List Int)×Zt3×Zt5->Option (Zt17)
  |0,_=>none
  |n+1,x=>YeK lo (Ybd lo n) x.1 x.2.1 x.2.2.1 x.2.2.2.1 x.2.2.2.2
def q130(lo:Lo)(db0:List (ByteArray×Zt3×Zt12))(l1:List (ByteArray×Zt5))(w2_0:List Int)(w2_1:List ByteArray)(w2_2:List Zp69):Option (Zt17):=lo.run (fixS (Ybd lo)) (0,(db0,l1,w2_0,w2_1,w2_2))
def YA6:VFn:=⟨true,72,[.t 6],
 (Rg [oG 3 0,oG 5 2,o 6 (.mv (ke Zc22))]
 (.seq (Rg [oM 12 1,oN 13 12,oR 14 .eql 13 (k 0)]
 (.cond 14 (Rg [oT 15 3 5,o 16 (.bsl Zc22 1 [(0,15)]),oM 6 16]
 (Fr 6))
 .skip))
 (Rg [oF 17 0 3,⟨some 18,.load false 1 17,none,true,false⟩,oF 19 0 3,⟨some 20,.load false 1 19,none,true,false⟩,oM 21 1,⟨some 22,.iad 2 21 (k 0),none,true,false⟩,oF 23 0 22,⟨some 24,.load false 1 23,none,true,false⟩,⟨some 25,.call 507 [20,24],none,true,false⟩,⟨some 26,.iad 3 18 25,none,true,false⟩,⟨some 27,.load true 3 26,none,true,false⟩,o 7 (.alloc [.s (⟨#[]⟩),.e (cs [.s]),.e Zc15]),oS 3 7 27]
 (Rg [o 8 (.mv (ke Zc22))]
 (.seq (Rg [oK 9 0]
 (.blk 0 (.loop 3 q130_L3_b)))
 (Rg [oM 71 8,oM 6 71]
 (Fr 6)))))))⟩
def Yot(lo:Lo):FnE:=Yor (fun x=>q130 lo x.1 x.2.1 x.2.2.1 x.2.2.2.1 x.2.2.2.2)
noncomputable def YFX(lo:Lo):List FnE:=Yot lo::YFw lo
theorem YA7(h:GZ P fm YFw lo)(t:Ti P fm 516 YA6):GZ P fm YFX lo:=
  h.pr (Yot lo) (Ybd lo) (ls:=fun rec=>Yos lo rec) (fun rec=>(YA5 lo rec)) t (by kernel_rfl) (fun _=>rfl) rfl (fun _=>by kernel_rfl) fun n x=>by kernel_rfl
def q131(lo:Lo)(b0_0:List ByteArray)(b0_1:List Zp69)(name1:ByteArray):Option Zp69:=
  YIC (q104 lo b0_0 name1) fun y528=>bif(decide (y528<0))then(some Zd0)else(chk (0<=y528/\y528< (b0_1.length:Int)) (some ((b0_1.getD y528.toNat Zd0).1,(b0_1.getD y528.toNat Zd0).2.1,(b0_1.getD y528.toNat Zd0).2.2.1,(b0_1.getD y528.toNat Zd0).2.2.2)))
def YA8:VFn:=⟨true,18,[.c 4 true 4],
 (Rg [oG 2 0,o 4 (.alloc [.s (⟨#[]⟩),.i .i64 0,.i .i64 0,.s (⟨#[]⟩)])]
 (Rg [oF 6 0 2,oL 7 6,oM 8 1,oC 9 272 [7,8],oM 5 9]
 (.seq (Rg [oM 10 5,oR 11 .lss 10 (k 0)]
 (.cond 11 (Rg [o 12 (.build [.s (⟨#[]⟩),.i .i64 0,.i .i64 0,.s (⟨#[]⟩)] []),oS 4 4 12]
 (Fr 4))
 .skip))
 (Rg [oF 13 1 2,oL 14 13,oM 15 5,oI 16 4 14 15,oT 17 4 16,oS 4 4 17]
 (Fr 4)))))⟩
def You(lo:Lo):FnE:=Zfe 525 true (Zsg [0,1] [.ag [.l (cs [.s]),.l Zc11],.s] []) (.ag [.s,.j,.j,.s]) [] (fun x=>q131 lo x.1 x.2.1 x.2.2:Zt3×Zt5×ByteArray->Option Zp69)
noncomputable def YFx(lo:Lo):List FnE:=You lo::YFX lo
theorem YA9(h:GZ P fm YFX lo)(t:Ti P fm 525 YA8):GZ P fm YFx lo:=
  h.p (You lo) .n t
def q132_L3_b:VCode:=
 (.seq (Rg [oM 7 6,oF 8 0 2,oL 9 8,oN 10 9,oR 11 .lss 7 10]
 (Ce 11 0))
 (.seq (.blk 1 (.reg [oM 14 5,oF 15 1 3,oT 16 2 15,oF 17 0 2,oL 18 17,oM 19 6,oI 20 1 18 19,oL 21 20,oC 22 525 [16,21],o 23 (.fld true 1 3 22),o 24 (.bsl Zc10 1 [(0,23)]),o 25 (.app Zc10 0 14 24),oM 5 25]))
 (.reg [oM 12 6,oR 13 .add 12 (k 1),oM 6 13])))
def YeL(lo:Lo):Zp60->Option (Zp60⊕ ((Zt4))):=fun x=>match x with
  | (i6,q2_0,q2_1,w3_0,w3_1,w3_2,out5)=>bif(decide (i6< (q2_0.length:Int)))then(chk (0<=i6/\i6< (q2_0.length:Int)) (YIC (q131 lo w3_1 w3_2 (q2_0.getD i6.toNat (YIU #[]))) fun y529=>chk (out5.length+[y529.2].length<=maxEl) (some (.inl ((YIV .i64 (i6+1)),q2_0,q2_1,w3_0,w3_1,w3_2,(out5++[y529.2]))))))else(some (.inr out5))
def Yha(lo:Lo):Zp60->Option ((Zt4)):=lo.run (YeL lo)
def YBa(lo:Lo):LpE:=⟨3,[(5,none,false)],(Zsg [2,3,5,6] [.ptr 0 0 0,.ptr 1 0 0,.ref 2,.j] [.st [.l (cs [.s]),.l Zc7],.st [.l (cs [I]),.l (cs [.s]),.l Zc11],.sq Zc10]),[⟨.exit 0,(Zsg [5] [.ref 0] [.sq Zc10])⟩],Yha lo⟩
def YBb(lo:Lo):LL:=(YBa lo,.loop q132_L3_b.er)::[]
theorem YBc(lo:Lo):Lk lo pf (YFx lo) 0 (YBb lo):=.l .n (YeL lo)
def q132(lo:Lo)(q0_0:List ByteArray)(q0_1:List (ByteArray×Zt5))(w1_0:List Int)(w1_1:List ByteArray)(w1_2:List Zp69):Option (Zt4):=
  YIC (Yha lo ((0:Int),q0_0,q0_1,w1_0,w1_1,w1_2,[])) fun y530=>some y530
def YBd:VFn:=⟨true,27,[.t 4],
 (Rg [oG 2 0,oG 3 1,o 4 (.mv (ke Zc10))]
 (Rg [o 5 (.mv (ke Zc10))]
 (.seq (Rg [oK 6 0]
 (.blk 0 (.loop 3 q132_L3_b)))
 (Rg [oM 26 5,oM 4 26]
 (Fr 4)))))⟩
def Yov(lo:Lo):FnE:=Zfe 517 true (Zsg [0,1] [.ag [.l (cs [.s]),.l Zc7],.ag [.l (cs [I]),.l (cs [.s]),.l Zc11]] []) (.l Zc10) [] (fun x=>q132 lo x.1 x.2.1 x.2.2.1 x.2.2.2.1 x.2.2.2.2:Zt3×Zt0× (List Int)×Zt3×Zt5->Option (Zt4))
noncomputable def YFy(lo:Lo):List FnE:=Yov lo::YFx lo
theorem YBe(h:GZ P fm YFx lo)(t:Ti P fm 517 YBd):GZ P fm YFy lo:=
  h.p (Yov lo) (YBc lo) t
def q133_L3_b:VCode:=
 (.seq (Rg [oM 7 5,oM 8 0,oN 9 8,oR 10 .lss 7 9,oM 11 10,gT 12 11 (.mv 5),gT 13 11 (.mv 1),gT 14 11 (.len 13),gT 15 11 (.bin .lss 12 14),oP 16 11 15 (kb false)]
 (Ce 16 0))
 (.seq (.blk 1 (Rg [oM 19 0,oM 20 5,oI 21 3 19 20,oT 22 3 21,oM 23 1,oM 24 5,oI 25 3 23 24,oT 26 3 25,oC 27 302 [22,26],oM 6 27]
 (Rg [oM 28 6,oR 29 .neq 28 (k 0)]
 (.cond 29 (Rg [oM 30 6,oM 4 30]
 (Fr 4))
 .skip))))
 (.reg [oM 17 5,oR 18 .add 17 (k 1),oM 5 18])))
def Yc6(lo:Lo):Zt4×Zt4×Int->Option ((Zt4×Zt4×Int)⊕ (Int⊕ (Zt4×Zt4))):=fun x=>match x with
  | (a0,b1,i5)=>bif(decide (i5< (a0.length:Int)))then(bif(decide (i5< (b1.length:Int)))then(chk (0<=i5/\i5< (a0.length:Int)) (chk (0<=i5/\i5< (b1.length:Int)) (YIC (q126 lo ((a0.getD i5.toNat Zd1).1) ((a0.getD i5.toNat Zd1).2.1) ((a0.getD i5.toNat Zd1).2.2) ((b1.getD i5.toNat Zd1).1) ((b1.getD i5.toNat Zd1).2.1) ((b1.getD i5.toNat Zd1).2.2)) fun y532=>bif(!decide (y532=0))then(some (.inr (.inl y532)))else(some (.inl (a0,b1,(YIV .i64 (i5+1))))))))else(some (.inr (.inr (a0,b1)))))else(some (.inr (.inr (a0,b1))))
def Yhb(lo:Lo):Zt4×Zt4×Int->Option (Int⊕ (Zt4×Zt4)):=lo.run (Yc6 lo)
def YBf(lo:Lo):LpE:=⟨3,[],(Zsg [0,1,5] [.l Zc10,.l Zc10,.j] []),[⟨.ret,(Zsg [4] [.j] [])⟩,⟨.exit 0,(Zsg [0,1] [.l Zc10,.l Zc10] [])⟩],Yhb lo⟩
def YBg(lo:Lo):LL:=(YBf lo,.loop q133_L3_b.er)::[]
theorem YBh(lo:Lo):Lk lo pf (YFy lo) 0 (YBg lo):=.l .n (Yc6 lo)
def q133(lo:Lo)(a0:List (Int×Int×ByteArray))(b1:List (Int×Int×ByteArray)):Option Int:=
  YIC (Yhb lo (a0,b1,(0:Int))) fun y533=>alt2 y533 (fun y534=>some y534) (fun y535=>YIC (q124 lo (y535.1.length:Int) (y535.2.length:Int)) fun y536=>some y536)
def YBi:VFn:=⟨true,36,[.t 4],
 (Rg [oK 4 0]
 (.seq (Rg [oK 5 0]
 (.blk 0 (.loop 3 q133_L3_b)))
 (Rg [oM 31 0,oN 32 31,oM 33 1,oN 34 33,oC 35 303 [32,34],oM 4 35]
 (Fr 4))))⟩
def Yow(lo:Lo):FnE:=Zfe 274 true (Zsg [0,1] [.l Zc10,.l Zc10] []) (.i .i64) [] (fun x=>q133 lo x.1 x.2:Zt4×Zt4->Option Int)
noncomputable def YFY(lo:Lo):List FnE:=Yow lo::YFy lo
theorem YBj(h:GZ P fm YFy lo)(t:Ti P fm 274 YBi):GZ P fm YFY lo:=
  h.p (Yow lo) (YBh lo) t
def q134(lo:Lo)(a0:List (Int×Int×ByteArray))(b1:List (Int×Int×ByteArray)):Option Bool:=
  YIC (q133 lo a0 b1) fun y537=>some (decide (y537=0))
def YBk:VFn:=⟨true,9,[.t 4],
 (Rg [oB 4 false]
 (Rg [oM 5 0,oM 6 1,oC 7 274 [5,6],oR 8 .eql 7 (k 0),oM 4 8]
 (Fr 4)))⟩
def Yox(lo:Lo):FnE:=Zfe 297 true (Zsg [0,1] [.l Zc10,.l Zc10] []) .b [] (fun x=>q134 lo x.1 x.2:Zt4×Zt4->Option Bool)
noncomputable def YGz(lo:Lo):List FnE:=Yox lo::YFY lo
theorem YBl(h:GZ P fm YFY lo)(t:Ti P fm 297 YBk):GZ P fm YGz lo:=
  h.p (Yox lo) .n t
noncomputable def YGO(lo:Lo):List FnE:=YGz lo
noncomputable def YGP(lo:Lo):List FnE:=YGO lo
noncomputable def YGQ(lo:Lo):List FnE:=YGP lo
noncomputable def YGR(lo:Lo):List FnE:=YGQ lo
noncomputable def YGS(lo:Lo):List FnE:=YGR lo
noncomputable def YGT(lo:Lo):List FnE:=YGS lo
end Go.Abs.G47
namespace Go.Abs.G47
open Go Go.Abs
set_option maxRecDepth 100000
set_option maxHeartbeats 1000000
variable{P:Program}{fm:FM}{lo:Lo}
noncomputable def YGU(lo:Lo):List FnE:=YGT lo
noncomputable def YGV(lo:Lo):List FnE:=YGU lo
noncomputable def YGW(lo:Lo):List FnE:=YGV lo
noncomputable def YGX(lo:Lo):List FnE:=YGW lo
noncomputable def YGY(lo:Lo):List FnE:=YGX lo
noncomputable def YGZ(lo:Lo):List FnE:=YGY lo
noncomputable def YG0(lo:Lo):List FnE:=YGZ lo
noncomputable def YG1(lo:Lo):List FnE:=YG0 lo
noncomputable def YG2(lo:Lo):List FnE:=YG1 lo
end Go.Abs.G47
namespace Go.Abs.G47
open Go Go.Abs
set_option maxRecDepth 100000
set_option maxHeartbeats 1000000
variable{P:Program}{fm:FM}{lo:Lo}
noncomputable def YG3(lo:Lo):List FnE:=YG2 lo
noncomputable def YG4(lo:Lo):List FnE:=YG3 lo
noncomputable def YG5(lo:Lo):List FnE:=YG4 lo
noncomputable def YG6(lo:Lo):List FnE:=YG5 lo
noncomputable def YG7(lo:Lo):List FnE:=YG6 lo
noncomputable def YG8(lo:Lo):List FnE:=YG7 lo
noncomputable def YG9(lo:Lo):List FnE:=YG8 lo
noncomputable def YHa(lo:Lo):List FnE:=YG9 lo
noncomputable def YHb(lo:Lo):List FnE:=YHa lo
noncomputable def YHc(lo:Lo):List FnE:=YHb lo
end Go.Abs.G47
namespace Go.Abs.G47
open Go Go.Abs
set_option maxRecDepth 100000
set_option maxHeartbeats 1000000
variable{P:Program}{fm:FM}{lo:Lo}
noncomputable def YHd(lo:Lo):List FnE:=YHc lo
noncomputable def YHe(lo:Lo):List FnE:=YHd lo
noncomputable def YHf(lo:Lo):List FnE:=YHe lo
noncomputable def YHg(lo:Lo):List FnE:=YHf lo
noncomputable def YHh(lo:Lo):List FnE:=YHg lo
noncomputable def YFZ(lo:Lo):List FnE:=YHh lo
def q166_L3_b:VCode:=
 (.seq (Rg [oM 5 4,oM 6 0,oN 7 6,oR 8 .lss 5 7]
 (Ce 8 0))
 (.seq (.blk 1 (.reg [oM 11 3,oM 12 0,oM 13 4,oI 14 1 12 13,oL 15 14,oC 16 251 [15],o 17 (.bsl Zc10 1 [(0,16)]),o 18 (.app Zc10 0 11 17),oM 3 18]))
 (.reg [oM 9 4,oR 10 .add 9 (k 1),oM 4 10])))
def YeM(lo:Lo):(List Int)×Int×Zt4->Option (((List Int)×Int×Zt4)⊕ ((Zt4))):=fun x=>match x with
  | (codes0,i4,out3)=>bif(decide (i4< (codes0.length:Int)))then(chk (0<=i4/\i4< (codes0.length:Int)) (YIC (q117 lo (codes0.getD i4.toNat (0:Int))) fun y718=>chk (out3.length+[y718].length<=maxEl) (some (.inl (codes0,(YIV .i64 (i4+1)),(out3++[y718]))))))else(some (.inr out3))
def Yhc(lo:Lo):(List Int)×Int×Zt4->Option ((Zt4)):=lo.run (YeM lo)
def YBm(lo:Lo):LpE:=⟨3,[(3,none,false)],(Zsg [0,3,4] [.l Zc20,.ref 0,.j] [.sq Zc10]),[⟨.exit 0,(Zsg [3] [.ref 0] [.sq Zc10])⟩],Yhc lo⟩
def YBn(lo:Lo):LL:=(YBm lo,.loop q166_L3_b.er)::[]
theorem YBo(lo:Lo):Lk lo pf (YFZ lo) 0 (YBn lo):=.l .n (YeM lo)
def q166(lo:Lo)(codes0:List Int):Option (Zt4):=
  YIC (Yhc lo (codes0,(0:Int),[])) fun y719=>some y719
def YBp:VFn:=⟨true,20,[.t 2],
 (Rg [o 2 (.mv (ke Zc10))]
 (Rg [o 3 (.mv (ke Zc10))]
 (.seq (Rg [oK 4 0]
 (.blk 0 (.loop 3 q166_L3_b)))
 (Rg [oM 19 3,oM 2 19]
 (Fr 2)))))⟩
def Yoy(lo:Lo):FnE:=Zfe 355 true (Zsg [0] [.l Zc20] []) (.l Zc10) [] (fun x=>q166 lo x:(List Int)->Option (Zt4))
noncomputable def YF0(lo:Lo):List FnE:=Yoy lo::YFZ lo
theorem YBq(h:GZ P fm YFZ lo)(t:Ti P fm 355 YBp):GZ P fm YF0 lo:=
  h.p (Yoy lo) (YBo lo) t
def q167(lo:Lo)(l:List (Int×Int×ByteArray)):Option Zt4:=bif YIs l.length maxEl&&YIs 1 3 then some l else none
def YBr(lo:Lo):FnE:=vclonePE 308 Zc10
noncomputable def YF1(lo:Lo):List FnE:=YBr lo::YF0 lo
theorem YBs(h:GZ P fm YF0 lo)(htie: ∀f,fm f=308->fnTr P fm pf f=some (8,[.t 2],YDr 3 [(.int .i64 0),(.int .i64 0),(.string (⟨#[]⟩))])):GZ P fm YF1 lo:=
  ⟨h.1,h.2,YsQ h.S h.mx Zc10 rfl [(.int .i64 0),(.int .i64 0),(.string (⟨#[]⟩))] 8 (by decide) htie⟩
def q168(lo:Lo):Option Bool:=
  some false
def YBt:VFn:=⟨true,1,[.t 0],
 (Rg [oB 0 false]
 (Rg [oB 0 false]
 (Fr 0)))⟩
def Yoz(lo:Lo):FnE:=Zfe 533 true (Zsg [] [] []) .b [] (fun x=>q168 lo:Unit->Option Bool)
noncomputable def YEZ(lo:Lo):List FnE:=Yoz lo::YF1 lo
theorem YBu(h:GZ P fm YF1 lo)(t:Ti P fm 533 YBt):GZ P fm YEZ lo:=
  h.p (Yoz lo) .n t
def q169_J13_b:VCode:=
 (Rg [oM 36 12,oX 37 36]
 (.cond 37 (Rg [oM 38 0,o 39 (.nilc 38),oF 40 3 39,oL 41 40,oF 42 0 10,oL 43 42,oF 44 1 5,oL 45 44,oM 46 9,oI 47 3 45 46,oT 48 3 47,on (.mput none I (cs [I,.s]) true 41 43 48)]
 (.reg [oM 49 8,oF 50 0 10,oL 51 50,o 52 (.bsl (cs [.s]) 1 [(0,51)]),o 53 (.app (cs [.s]) 0 49 52),oM 8 53]))
 (Rg [oT 54 3 11,oF 55 1 5,oL 56 55,oM 57 9,oI 58 3 56 57,oT 59 3 58,o 60 (.eqa true [1,1,2] 54 59)]
 (.cond 60 (Rg [oM 61 8,oM 6 61,oB 7 false]
 (.ow [(0,some 4,false),(0,some 2,false)] .ret))
 .skip))))
def YeN(lo:Lo):Int×Bool×Zt5×Int×Int×Zt3×Zt0×Zt1×Int×Zt2×Bool×Bool× (List Int)×Int×Zt4×Zt3×ByteArray×Int×Int×ByteArray×Int×Int×ByteArray->Option (Zp36⊕ (Bool×Zt3×Zt0×Zt1×Int×Zt2×Bool×Bool× (List Int)×Zt3)):=fun x=>match x with
  | (i9,known12,v14,v15,v16,m0_0,m0_1,h1,h2_0,h2_1,h2_2,h2_3,h3,r5_0,r5_1,fresh8,t10_0,t10_1,t10_2,t10_3,v11_0,v11_1,v11_2)=>bif(!known12)then(chk (0<=i9/\i9< (r5_1.length:Int)) (chk (fresh8.length+[t10_0].length<=maxEl) (some (.inl (v14,v15,v16,m0_0,m0_1,h1,(mck eqS h2_0 t10_0 h2_1),(mpt eqS h2_0 t10_0 (r5_1.getD i9.toNat Zd1) h2_1),h2_2,h2_3,h3,r5_0,r5_1,(fresh8++[t10_0]))))))else(chk (0<=i9/\i9< (r5_1.length:Int)) (bif(!((decide (v11_0=(r5_1.getD i9.toNat Zd1).1))&& ((decide (v11_1=(r5_1.getD i9.toNat Zd1).2.1))&& ((decide (v11_2=(r5_1.getD i9.toNat Zd1).2.2))&&true))))then(some (.inr (false,m0_0,m0_1,h1,h2_0,h2_1,h2_2,h2_3,h3,fresh8)))else(some (.inl (v14,v15,v16,m0_0,m0_1,h1,h2_0,h2_1,h2_2,h2_3,h3,r5_0,r5_1,fresh8)))))
def YBv(lo:Lo):LpE:=⟨13,[(0,some 2,false),(0,some 4,false)],(Zsg [0,5,8,9,10,11,12,14,15,16] [.ptr 0 0 0,.ptr 4 0 0,.ref 5,.j,.ptr 6 0 0,.ptr 7 0 0,.b,.l Zc11,.j,.j] [.st [.l (cs [.s]),.l Zc7,.ref 1,.np 2,.ref 3,.clo 533 []],.sq Zc6,.st [.j,.l Zc14,.b,.b],.sq (cs [I]),.st [.j,.l Zc10],.sq (cs [.s]),.st [.s,.j,.j,.s],.st [.j,.j,.s]]),[⟨.nor,(Zsg [0,5,8,14,15,16] [.ptr 0 0 0,.ptr 4 0 0,.ref 5,.l Zc11,.j,.j] [.st [.l (cs [.s]),.l Zc7,.ref 1,.np 2,.ref 3,.clo 533 []],.sq Zc6,.st [.j,.l Zc14,.b,.b],.sq (cs [I]),.st [.j,.l Zc10],.sq (cs [.s])])⟩,⟨.ret,(Zsg [6,7,0] [.ref 4,.b,.ptr 0 0 0] [.st [.l (cs [.s]),.l Zc7,.ref 1,.np 2,.ref 3,.clo 533 []],.sq Zc6,.st [.j,.l Zc14,.b,.b],.sq (cs [I]),.sq (cs [.s])])⟩],YeN lo⟩
def YoA(lo:Lo):LL:=(YBv lo,q169_J13_b.er)::[]
theorem YBw(lo:Lo):Lk lo pf (YEZ lo) 4 (YoA lo):=.j .n
def q169_L3_b:VCode:=
 (Rg [oR 17 .lss 16 15]
 (.seq (Ce 17 0)
 (.seq (.blk 1 (Rg [oM 18 16,oI 19 4 14 16,oT 20 4 19,o 10 (.alloc [.s (⟨#[]⟩),.i .i64 0,.i .i64 0,.s (⟨#[]⟩)]),oM 9 18,oS 4 10 20]
 (Rg [oF 21 1 10,oT 22 3 21,o 11 (.alloc [.i .i64 0,.i .i64 0,.s (⟨#[]⟩)]),oS 3 11 22,oB 12 true]
 (.seq (Rg [oF 23 0 10,oL 24 23,oR 25 .neq 24 (ks (⟨#[]⟩))]
 (.cond 25 (.reg [oM 27 0,o 28 (.nilc 27),oF 29 3 28,oL 30 29,oF 31 0 10,oL 32 31,o 33 (.mget none I (cs [I,.s]) true true 30 32),oM 26 33,oE 34 26 0,oE 35 26 1,oS 3 11 34,oM 12 35])
 .skip))
 (.jn 13 q169_J13_b)))))
 (.reg [oR 62 .add 16 (k 1),oM 16 62]))))
def Yc7(lo:Lo):Zp36->Option (Zp36⊕ ((Bool×Zt3×Zt0×Zt1×Int×Zt2×Bool×Bool× (List Int)×Zt3)⊕ (Zt3×Zt0×Zt1×Int×Zt2×Bool×Bool× (List Int)×Zt3))):=fun x=>match x with
  | (v14,v15,v16,m0_0,m0_1,h1,h2_0,h2_1,h2_2,h2_3,h3,r5_0,r5_1,fresh8)=>bif(decide (v16<v15))then(chk (0<=v16/\v16< (v14.length:Int)) (bif(!decide ((v14.getD v16.toNat Zd0).1=(YIU #[])))then(YIC (YeN lo (v16,(mhs eqS ((v14.getD v16.toNat Zd0).1) h2_1),v14,v15,v16,m0_0,m0_1,h1,h2_0,h2_1,h2_2,h2_3,h3,r5_0,r5_1,fresh8,(v14.getD v16.toNat Zd0).1,(v14.getD v16.toNat Zd0).2.1,(v14.getD v16.toNat Zd0).2.2.1,(v14.getD v16.toNat Zd0).2.2.2,(mgt eqS ((v14.getD v16.toNat Zd0).1) h2_1 Zd1).1,(mgt eqS ((v14.getD v16.toNat Zd0).1) h2_1 Zd1).2.1,(mgt eqS ((v14.getD v16.toNat Zd0).1) h2_1 Zd1).2.2)) fun y724=>alt2 y724 (fun y725=>some (.inl (y725.1,y725.2.1,(YIV .i64 (y725.2.2.1+(1:Int))),y725.2.2.2.1,y725.2.2.2.2.1,y725.2.2.2.2.2.1,y725.2.2.2.2.2.2.1,y725.2.2.2.2.2.2.2.1,y725.2.2.2.2.2.2.2.2.1,y725.2.2.2.2.2.2.2.2.2.1,y725.2.2.2.2.2.2.2.2.2.2.1,y725.2.2.2.2.2.2.2.2.2.2.2.1,y725.2.2.2.2.2.2.2.2.2.2.2.2.1,y725.2.2.2.2.2.2.2.2.2.2.2.2.2))) (fun y726=>some (.inr (.inl (y726.1,y726.2.1,y726.2.2.1,y726.2.2.2.1,y726.2.2.2.2.1,y726.2.2.2.2.2.1,y726.2.2.2.2.2.2.1,y726.2.2.2.2.2.2.2.1,y726.2.2.2.2.2.2.2.2.1,y726.2.2.2.2.2.2.2.2.2)))))else(YIC (YeN lo (v16,true,v14,v15,v16,m0_0,m0_1,h1,h2_0,h2_1,h2_2,h2_3,h3,r5_0,r5_1,fresh8,(v14.getD v16.toNat Zd0).1,(v14.getD v16.toNat Zd0).2.1,(v14.getD v16.toNat Zd0).2.2.1,(v14.getD v16.toNat Zd0).2.2.2,(v14.getD v16.toNat Zd0).2.1,(v14.getD v16.toNat Zd0).2.2.1,(v14.getD v16.toNat Zd0).2.2.2)) fun y727=>alt2 y727 (fun y728=>some (.inl (y728.1,y728.2.1,(YIV .i64 (y728.2.2.1+(1:Int))),y728.2.2.2.1,y728.2.2.2.2.1,y728.2.2.2.2.2.1,y728.2.2.2.2.2.2.1,y728.2.2.2.2.2.2.2.1,y728.2.2.2.2.2.2.2.2.1,y728.2.2.2.2.2.2.2.2.2.1,y728.2.2.2.2.2.2.2.2.2.2.1,y728.2.2.2.2.2.2.2.2.2.2.2.1,y728.2.2.2.2.2.2.2.2.2.2.2.2.1,y728.2.2.2.2.2.2.2.2.2.2.2.2.2))) (fun y729=>some (.inr (.inl (y729.1,y729.2.1,y729.2.2.1,y729.2.2.2.1,y729.2.2.2.2.1,y729.2.2.2.2.2.1,y729.2.2.2.2.2.2.1,y729.2.2.2.2.2.2.2.1,y729.2.2.2.2.2.2.2.2.1,y729.2.2.2.2.2.2.2.2.2)))))))else(some (.inr (.inr (m0_0,m0_1,h1,h2_0,h2_1,h2_2,h2_3,h3,fresh8))))
def Yhd(lo:Lo):Zp36->Option ((Bool×Zt3×Zt0×Zt1×Int×Zt2×Bool×Bool× (List Int)×Zt3)⊕ (Zt3×Zt0×Zt1×Int×Zt2×Bool×Bool× (List Int)×Zt3)):=lo.run (Yc7 lo)
def YBx(lo:Lo):LpE:=⟨3,[(0,some 2,false),(0,some 4,false),(8,none,false)],(Zsg [0,5,8,14,15,16] [.ptr 0 0 0,.ptr 4 0 0,.ref 5,.l Zc11,.j,.j] [.st [.l (cs [.s]),.l Zc7,.ref 1,.np 2,.ref 3,.clo 533 []],.sq Zc6,.st [.j,.l Zc14,.b,.b],.sq (cs [I]),.st [.j,.l Zc10],.sq (cs [.s])]),[⟨.ret,(Zsg [6,7,0] [.ref 4,.b,.ptr 0 0 0] [.st [.l (cs [.s]),.l Zc7,.ref 1,.np 2,.ref 3,.clo 533 []],.sq Zc6,.st [.j,.l Zc14,.b,.b],.sq (cs [I]),.sq (cs [.s])])⟩,⟨.exit 0,(Zsg [0,8] [.ptr 0 0 0,.ref 4] [.st [.l (cs [.s]),.l Zc7,.ref 1,.np 2,.ref 3,.clo 533 []],.sq Zc6,.st [.j,.l Zc14,.b,.b],.sq (cs [I]),.sq (cs [.s])])⟩],Yhd lo⟩
def YBy(lo:Lo):LL:=(YBx lo,.loop q169_L3_b.er)::YoA lo
theorem YBz(lo:Lo):Lk lo pf (YEZ lo) 4 (YBy lo):=.l (YBw lo) (Yc7 lo)
def q169(lo:Lo)(a1_0:ByteArray)(a1_1:List Zp69)(r2_0:Int)(r2_1:List (Int×Int×ByteArray))(m0_0:List ByteArray)(m0_1:List (ByteArray×Zt5))(h1:List (ByteArray×Zt3×Zt12))(h2_0:Int)(h2_1:List (Int×ByteArray×Int×Int×ByteArray))(h2_2:Bool)(h2_3:Bool)(h3:List Int):Option (Bool×Zt3×Zt0×Zt1×Int×Zt2×Bool×Bool× (List Int)×Zt3):=
  YIC (Yhd lo (a1_1,(a1_1.length:Int),(0:Int),m0_0,m0_1,h1,h2_0,h2_1,h2_2,h2_3,h3,r2_0,r2_1,[])) fun y730=>alt2 y730 (fun y731=>some (y731.1,y731.2.1,y731.2.2.1,y731.2.2.2.1,y731.2.2.2.2.1,y731.2.2.2.2.2.1,y731.2.2.2.2.2.2.1,y731.2.2.2.2.2.2.2.1,y731.2.2.2.2.2.2.2.2.1,y731.2.2.2.2.2.2.2.2.2)) (fun y732=>some (true,y732.1,y732.2.1,y732.2.2.1,y732.2.2.2.1,y732.2.2.2.2.1,y732.2.2.2.2.2.1,y732.2.2.2.2.2.2.1,y732.2.2.2.2.2.2.2.1,y732.2.2.2.2.2.2.2.2))
def YBA:VFn:=⟨true,64,[.t 6,.t 7],
 (Rg [oG 4 1,oG 5 2,o 6 (.mv (ke (cs [.s]))),oB 7 false]
 (Rg [o 8 (.mv (ke (cs [.s])))]
 (.seq (Rg [oF 13 1 4,oL 14 13,oN 15 14,oK 16 0]
 (.blk 0 (.loop 3 q169_L3_b)))
 (Rg [oM 63 8,oM 6 63,oB 7 true]
 (.ow [(0,some 4,false),(0,some 2,false)] .ret)))))⟩
def YoB(lo:Lo):FnE:=Zfe 543 false (Zsg [0,1,2] [.ptr 0 0 0,.ag [.s,.l Zc11],.ag [.j,.l Zc10]] [.st [.l (cs [.s]),.l Zc7,.ref 1,.np 2,.ref 3,.clo 533 []],.sq Zc6,.st [.j,.l Zc14,.b,.b],.sq (cs [I])]) (.tp [.ref 4,.b]) [.st [.l (cs [.s]),.l Zc7,.ref 1,.np 2,.ref 3,.clo 533 []],.sq Zc6,.st [.j,.l Zc14,.b,.b],.sq (cs [I]),.sq (cs [.s])] (fun x=>q169 lo x.1 x.2.1 x.2.2.1 x.2.2.2.1 x.2.2.2.2.1 x.2.2.2.2.2.1 x.2.2.2.2.2.2.1 x.2.2.2.2.2.2.2.1 x.2.2.2.2.2.2.2.2.1 x.2.2.2.2.2.2.2.2.2.1 x.2.2.2.2.2.2.2.2.2.2.1 x.2.2.2.2.2.2.2.2.2.2.2:ByteArray×Zt5×Int×Zt4×Zt3×Zt0×Zt1×Int×Zt2×Bool×Bool× (List Int)->Option (Bool×Zt3×Zt0×Zt1×Int×Zt2×Bool×Bool× (List Int)×Zt3))
noncomputable def YE0(lo:Lo):List FnE:=YoB lo::YEZ lo
theorem YBB(h:GZ P fm YEZ lo)(t:Ti P fm 543 YBA):GZ P fm YE0 lo:=
  h.i (YoB lo) (YBz lo) t
end Go.Abs.G47
namespace Go.Abs.G47
open Go Go.Abs
set_option maxRecDepth 100000
set_option maxHeartbeats 1000000
variable{P:Program}{fm:FM}{lo:Lo}
def Yhe(F:Zp49->Option (Bool×Zt3×Zt0×Zt1×Int×Zt2×Bool×Bool× (List Int))):FnE:=⟨515,false,(Zsg [0,1] [.ptr 0 0 0,.j] [.st [.l (cs [.s]),.l Zc7,.ref 1,.np 2,.ref 3,.clo 533 []],.sq Zc6,.st [.j,.l Zc14,.b,.b],.sq (cs [I])]),.b,[.st [.l (cs [.s]),.l Zc7,.ref 1,.np 2,.ref 4,.clo 533 []],.sq Zc6,.st [.j,.l Zc14,.b,.b],.dd,.sq (cs [I])],(cs [.b,.l (cs [.s]),.l Zc7,.l Zc6,I,.l Zc14,.b,.b,.l (cs [I])]),F⟩
def q170_L8_b:VCode:=
 (Rg [oR 83 .lss 82 81]
 (.seq (Ce 83 2)
 (.seq (.blk 3 (Rg [oI 84 1 80 82,oL 85 84,oM 11 85]
 (.reg [oM 86 0,o 87 (.nilc 86),oF 88 3 87,oL 89 88,oM 90 11,on (.mdel none I (cs [I,.s]) 89 90)])))
 (.reg [oR 91 .add 82 (k 1),oM 82 91]))))
def YeO(lo:Lo)(rec:Zp49->Option (Bool×Zt3×Zt0×Zt1×Int×Zt2×Bool×Bool× (List Int))):Zp29->Option (Zp29⊕ ((Int×Bool×Zt12×Int×Int×Zt3×Zt0×Zt1×Int×Zt2×Bool×Bool× (List Int)))):=fun x=>match x with
  | (i1,on9,v32,v33,v34,v81,v82,m0_0,m0_1,h1,h2_0,h2_1,h2_2,h2_3,v80,h5)=>bif(decide (v82<v81))then(chk (0<=v82/\v82< (v80.length:Int)) (some (.inl (i1,on9,v32,v33,v34,v81,(YIV .i64 (v82+1)),m0_0,m0_1,h1,h2_0,(mdl eqS (v80.getD v82.toNat (YIU #[])) h2_1),h2_2,h2_3,v80,h5))))else(some (.inr (i1,on9,v32,v33,v34,m0_0,m0_1,h1,h2_0,h2_1,h2_2,h2_3,h5)))
def YeP(lo:Lo)(rec:Zp49->Option (Bool×Zt3×Zt0×Zt1×Int×Zt2×Bool×Bool× (List Int))):Zp29->Option ((Int×Bool×Zt12×Int×Int×Zt3×Zt0×Zt1×Int×Zt2×Bool×Bool× (List Int))):=lo.run (YeO lo rec)
def YBC(lo:Lo)(rec:Zp49->Option (Bool×Zt3×Zt0×Zt1×Int×Zt2×Bool×Bool× (List Int))):LpE:=⟨8,[(0,some 2,false),(0,some 4,false)],(Zsg [0,1,9,32,33,34,80,81,82] [.ptr 0 0 0,.j,.b,.l Zc15,.j,.j,.ref 4,.j,.j] [.st [.l (cs [.s]),.l Zc7,.ref 1,.np 2,.ref 5,.clo 533 []],.sq Zc6,.st [.j,.l Zc14,.b,.b],.dd,.sq (cs [.s]),.sq (cs [I])]),[⟨.exit 2,(Zsg [0,1,9,32,33,34] [.ptr 0 0 0,.j,.b,.l Zc15,.j,.j] [.st [.l (cs [.s]),.l Zc7,.ref 1,.np 2,.ref 4,.clo 533 []],.sq Zc6,.st [.j,.l Zc14,.b,.b],.dd,.sq (cs [I])])⟩],YeP lo rec⟩
def YoC(lo:Lo)(rec:Zp49->Option (Bool×Zt3×Zt0×Zt1×Int×Zt2×Bool×Bool× (List Int))):LL:=(YBC lo rec,.loop q170_L8_b.er)::[]
theorem YBD(lo:Lo)(rec:Zp49->Option (Bool×Zt3×Zt0×Zt1×Int×Zt2×Bool×Bool× (List Int))):Lk lo pf (Yhe rec::YE0 lo) 4 (YoC lo rec):=.l .n (YeO lo rec)
def q170_L3_b:VCode:=
 (Rg [oR 35 .lss 34 33]
 (.seq (Ce 35 0)
 (.seq (.blk 1 (Rg [oI 36 2 32 34,oT 37 2 36,o 6 (.alloc [.i .i64 0,.e Zc10]),oS 2 6 37]
 (Rg [oM 39 0,oM 40 0,o 41 (.nilc 40),oF 42 0 41,oF 43 1 42,oL 44 43,oM 45 1,oI 46 2 44 45,oT 47 2 46,oT 48 2 6,oC 49 543 [39,47,48],oM 38 49,oE 50 38 0,oE 51 38 1,oM 7 50,oM 8 51]
 (Rg [oM 52 0,oM 53 0,o 54 (.nilc 53),oF 55 4 54,oL 56 55,oF 57 0 6,oL 58 57,o 59 (.bsl (cs [I]) 1 [(0,58)]),o 60 (.app (cs [I]) 0 56 59),o 61 (.nilc 52),oF 62 4 61,oS 1 62 60]
 (Rg [oM 63 8,oX 64 63,oM 65 64,gF 66 65 (.mv 0),gF 67 65 (.mv 1),gF 68 65 (.bin .add 67 (k 1)),gF 69 65 (.call 515 [66,68]),oP 70 65 (kb true) 69,oM 9 70]
 (Rg [oM 71 0,oM 72 0,o 73 (.nilc 72),oF 74 4 73,oL 75 74,oM 76 1,o 77 (.slcR 1 75 none (some 76)),o 78 (.nilc 71),oF 79 4 78,oS 1 79 77]
 (.seq (Rg [oM 80 7,oN 81 80,oK 82 0]
 (.blk 2 (.loop 8 q170_L8_b)))
 (Rg [oM 92 9,oX 93 92]
 (.cond 93 (Rg [oB 4 false]
 (.ow [(1000003,none,true),(0,some 4,false),(0,some 2,false)] .ret))
 .skip)))))))))
 (.reg [oR 94 .add 34 (k 1),oM 34 94]))))
def Yb9(lo:Lo)(rec:Zp49->Option (Bool×Zt3×Zt0×Zt1×Int×Zt2×Bool×Bool× (List Int))):Zp39->Option (Zp39⊕ ((Bool×Zt3×Zt0×Zt1×Int×Zt2×Bool×Bool× (List Int))⊕ (Zt3×Zt0×Zt1×Int×Zt2×Bool×Bool× (List Int)))):=fun x=>match x with
  | (i1,v32,v33,v34,m0_0,m0_1,h1,h2_0,h2_1,h2_2,h2_3,h4)=>bif(decide (v34<v33))then(chk (0<=v34/\v34< (v32.length:Int)) (chk (0<=i1/\i1< (m0_1.length:Int)) (YIC (q169 lo ((m0_1.getD i1.toNat ((YIU #[]),[])).1) ((m0_1.getD i1.toNat ((YIU #[]),[])).2) ((v32.getD v34.toNat ((0:Int),[])).1) ((v32.getD v34.toNat ((0:Int),[])).2) m0_0 m0_1 h1 h2_0 h2_1 h2_2 h2_3 h4) fun y752=>chk (y752.2.2.2.1.length=h1.length) (chk (y752.2.2.2.2.2.2.2.2.1.length=h4.length) (chk (y752.2.2.2.2.2.2.2.2.1.length+([(v32.getD v34.toNat ((0:Int),[])).1]).length<=maxEl) (bif(!y752.1)then(chk ((0:Int)=0/\0<=i1/\i1<=((y752.2.2.2.2.2.2.2.2.1++([(v32.getD v34.toNat ((0:Int),[])).1])).length:Int)) (YIC (YeP lo rec (i1,true,v32,v33,v34,(y752.2.2.2.2.2.2.2.2.2.length:Int),(0:Int),y752.2.1,y752.2.2.1,y752.2.2.2.1,y752.2.2.2.2.1,y752.2.2.2.2.2.1,y752.2.2.2.2.2.2.1,y752.2.2.2.2.2.2.2.1,y752.2.2.2.2.2.2.2.2.2,((y752.2.2.2.2.2.2.2.2.1++([(v32.getD v34.toNat ((0:Int),[])).1])).take i1.toNat))) fun y753=>bif(!y753.2.1)then(some (.inr (.inl (false,y753.2.2.2.2.2.1,y753.2.2.2.2.2.2.1,y753.2.2.2.2.2.2.2.1,y753.2.2.2.2.2.2.2.2.1,y753.2.2.2.2.2.2.2.2.2.1,y753.2.2.2.2.2.2.2.2.2.2.1,y753.2.2.2.2.2.2.2.2.2.2.2.1,y753.2.2.2.2.2.2.2.2.2.2.2.2))))else(some (.inl (y753.1,y753.2.2.1,y753.2.2.2.1,(YIV .i64 (y753.2.2.2.2.1+(1:Int))),y753.2.2.2.2.2.1,y753.2.2.2.2.2.2.1,y753.2.2.2.2.2.2.2.1,y753.2.2.2.2.2.2.2.2.1,y753.2.2.2.2.2.2.2.2.2.1,y753.2.2.2.2.2.2.2.2.2.2.1,y753.2.2.2.2.2.2.2.2.2.2.2.1,y753.2.2.2.2.2.2.2.2.2.2.2.2)))))else(YIC (rec ((YIV .i64 (i1+1)),y752.2.1,y752.2.2.1,y752.2.2.2.1,y752.2.2.2.2.1,y752.2.2.2.2.2.1,y752.2.2.2.2.2.2.1,y752.2.2.2.2.2.2.2.1,(y752.2.2.2.2.2.2.2.2.1++([(v32.getD v34.toNat ((0:Int),[])).1])))) fun y754=>chk (y754.2.2.2.1.length=y752.2.2.2.1.length) (chk ((0:Int)=0/\0<=i1/\i1<=(y754.2.2.2.2.2.2.2.2.length:Int)) (YIC (YeP lo rec (i1,y754.1,v32,v33,v34,(y752.2.2.2.2.2.2.2.2.2.length:Int),(0:Int),y754.2.1,y754.2.2.1,y754.2.2.2.1,y754.2.2.2.2.1,y754.2.2.2.2.2.1,y754.2.2.2.2.2.2.1,y754.2.2.2.2.2.2.2.1,y752.2.2.2.2.2.2.2.2.2,(y754.2.2.2.2.2.2.2.2.take i1.toNat))) fun y755=>bif(!y755.2.1)then(some (.inr (.inl (false,y755.2.2.2.2.2.1,y755.2.2.2.2.2.2.1,y755.2.2.2.2.2.2.2.1,y755.2.2.2.2.2.2.2.2.1,y755.2.2.2.2.2.2.2.2.2.1,y755.2.2.2.2.2.2.2.2.2.2.1,y755.2.2.2.2.2.2.2.2.2.2.2.1,y755.2.2.2.2.2.2.2.2.2.2.2.2))))else(some (.inl (y755.1,y755.2.2.1,y755.2.2.2.1,(YIV .i64 (y755.2.2.2.2.1+(1:Int))),y755.2.2.2.2.2.1,y755.2.2.2.2.2.2.1,y755.2.2.2.2.2.2.2.1,y755.2.2.2.2.2.2.2.2.1,y755.2.2.2.2.2.2.2.2.2.1,y755.2.2.2.2.2.2.2.2.2.2.1,y755.2.2.2.2.2.2.2.2.2.2.2.1,y755.2.2.2.2.2.2.2.2.2.2.2.2))))))))))))else(some (.inr (.inr (m0_0,m0_1,h1,h2_0,h2_1,h2_2,h2_3,h4))))
def Yc8(lo:Lo)(rec:Zp49->Option (Bool×Zt3×Zt0×Zt1×Int×Zt2×Bool×Bool× (List Int))):Zp39->Option ((Bool×Zt3×Zt0×Zt1×Int×Zt2×Bool×Bool× (List Int))⊕ (Zt3×Zt0×Zt1×Int×Zt2×Bool×Bool× (List Int))):=lo.run (Yb9 lo rec)
def YBE(lo:Lo)(rec:Zp49->Option (Bool×Zt3×Zt0×Zt1×Int×Zt2×Bool×Bool× (List Int))):LpE:=⟨3,[(1000003,none,true),(0,some 2,false),(0,some 4,false)],(Zsg [0,1,32,33,34] [.ptr 0 0 0,.j,.l Zc15,.j,.j] [.st [.l (cs [.s]),.l Zc7,.ref 1,.np 2,.ref 4,.clo 533 []],.sq Zc6,.st [.j,.l Zc14,.b,.b],.dd,.sq (cs [I])]),[⟨.ret,(Zsg [4,0] [.b,.ptr 0 0 0] [.st [.l (cs [.s]),.l Zc7,.ref 1,.np 2,.ref 4,.clo 533 []],.sq Zc6,.st [.j,.l Zc14,.b,.b],.dd,.sq (cs [I])])⟩,⟨.exit 0,(Zsg [0] [.ptr 0 0 0] [.st [.l (cs [.s]),.l Zc7,.ref 1,.np 2,.ref 4,.clo 533 []],.sq Zc6,.st [.j,.l Zc14,.b,.b],.dd,.sq (cs [I])])⟩],Yc8 lo rec⟩
def YoD(lo:Lo)(rec:Zp49->Option (Bool×Zt3×Zt0×Zt1×Int×Zt2×Bool×Bool× (List Int))):LL:=(YBE lo rec,.loop q170_L3_b.er)::YoC lo rec
theorem YBF(lo:Lo)(rec:Zp49->Option (Bool×Zt3×Zt0×Zt1×Int×Zt2×Bool×Bool× (List Int))):Lk lo pf (Yhe rec::YE0 lo) 4 (YoD lo rec):=.l (YBD lo rec) (Yb9 lo rec)
def Yca(lo:Lo)(rec:Zp49->Option (Bool×Zt3×Zt0×Zt1×Int×Zt2×Bool×Bool× (List Int)))(i1:Int)(m0_0:List ByteArray)(m0_1:List (ByteArray×Zt5))(h1:List (ByteArray×Zt3×Zt12))(h2_0:Int)(h2_1:List (Int×ByteArray×Int×Int×ByteArray))(h2_2:Bool)(h2_3:Bool)(h3:List Int):Option (Bool×Zt3×Zt0×Zt1×Int×Zt2×Bool×Bool× (List Int)):=
  bif(decide (i1=(m0_1.length:Int)))then(YIC (q168 lo) fun y751=>some (y751,m0_0,m0_1,h1,h2_0,h2_1,h2_2,h2_3,h3))else(chk (0<=i1/\i1< (h1.length:Int)) (YIC (Yc8 lo rec (i1,(h1.getD i1.toNat ((YIU #[]),[],[])).2.2,(((h1.getD i1.toNat ((YIU #[]),[],[])).2.2).length:Int),(0:Int),m0_0,m0_1,h1,h2_0,h2_1,h2_2,h2_3,h3)) fun y756=>alt2 y756 (fun y757=>some (y757.1,y757.2.1,y757.2.2.1,y757.2.2.2.1,y757.2.2.2.2.1,y757.2.2.2.2.2.1,y757.2.2.2.2.2.2.1,y757.2.2.2.2.2.2.2.1,y757.2.2.2.2.2.2.2.2)) (fun y758=>some (true,y758.1,y758.2.1,y758.2.2.1,y758.2.2.2.1,y758.2.2.2.2.1,y758.2.2.2.2.2.1,y758.2.2.2.2.2.2.1,y758.2.2.2.2.2.2.2))))
def Ya0(lo:Lo):Nat->Int×Zt3×Zt0×Zt1×Int×Zt2×Bool×Bool× (List Int)->Option (Bool×Zt3×Zt0×Zt1×Int×Zt2×Bool×Bool× (List Int))
  |0,_=>none
  |n+1,x=>Yca lo (Ya0 lo n) x.1 x.2.1 x.2.2.1 x.2.2.2.1 x.2.2.2.2.1 x.2.2.2.2.2.1 x.2.2.2.2.2.2.1 x.2.2.2.2.2.2.2.1 x.2.2.2.2.2.2.2.2
def q170(lo:Lo)(i1:Int)(m0_0:List ByteArray)(m0_1:List (ByteArray×Zt5))(h1:List (ByteArray×Zt3×Zt12))(h2_0:Int)(h2_1:List (Int×ByteArray×Int×Int×ByteArray))(h2_2:Bool)(h2_3:Bool)(h3:List Int):Option (Bool×Zt3×Zt0×Zt1×Int×Zt2×Bool×Bool× (List Int)):=lo.run (fixS (Ya0 lo)) (0,(i1,m0_0,m0_1,h1,h2_0,h2_1,h2_2,h2_3,h3))
def YBG:VFn:=⟨true,95,[.t 4],
 (Rg [oB 4 false]
 (.seq (Rg [oM 12 1,oM 13 0,o 14 (.nilc 13),oF 15 0 14,oF 16 1 15,oL 17 16,oN 18 17,oR 19 .eql 12 18]
 (.cond 19 (Rg [oM 20 0,o 21 (.nilc 20),oF 22 5 21,oL 23 22,o 24 (.dyn 23 []),oM 4 24]
 (.ow [(1000003,none,true),(0,some 4,false),(0,some 2,false)] .ret))
 .skip))
 (.seq (Rg [oM 25 0,o 26 (.nilc 25),oF 27 2 26,oL 28 27,oM 29 1,oI 30 3 28 29,oF 31 2 30,oL 32 31,oN 33 32,oK 34 0]
 (.blk 0 (.loop 3 q170_L3_b)))
 (Rg [oB 4 true]
 (.ow [(1000003,none,true),(0,some 4,false),(0,some 2,false)] .ret)))))⟩
def YoE(lo:Lo):FnE:=Yhe (fun x=>q170 lo x.1 x.2.1 x.2.2.1 x.2.2.2.1 x.2.2.2.2.1 x.2.2.2.2.2.1 x.2.2.2.2.2.2.1 x.2.2.2.2.2.2.2.1 x.2.2.2.2.2.2.2.2)
noncomputable def YF2(lo:Lo):List FnE:=YoE lo::YE0 lo
theorem YBH(h:GZ P fm YE0 lo)(t:Ti P fm 515 YBG):GZ P fm YF2 lo:=
  h.ir (YoE lo) (Ya0 lo) (ls:=fun rec=>YoD lo rec) (fun rec=>(YBF lo rec)) t (by kernel_rfl) (fun _=>rfl) rfl (fun _=>by kernel_rfl) fun n x=>by kernel_rfl
def q171(lo:Lo)(db0:List (ByteArray×Zt3×Zt12))(q1_0:List ByteArray)(q1_1:List (ByteArray×Zt5))(answer2:List (Int×Int×ByteArray)):Option (Bool×Int):=
  altO (q68 lo db0 q1_0 q1_1 answer2) (fun y722=>bif(!decide (y722.1=(0:Int)))then(some (false,y722.1))else(YIC (q170 lo (0:Int) y722.2.1 y722.2.2.1 y722.2.2.2.1 y722.2.2.2.2.1 y722.2.2.2.2.2.1 y722.2.2.2.2.2.2.1 y722.2.2.2.2.2.2.2.1 y722.2.2.2.2.2.2.2.2) fun y759=>chk (y759.2.2.2.1.length=y722.2.2.2.1.length) (some ((!y759.1),(0:Int))))) (YIC (q67 lo db0 q1_0 q1_1 answer2) fun y760=>bif(!decide (y760=0))then(some (false,y760))else(none))
def YBI:VFn:=⟨true,26,[.t 6,.t 7],
 (Rg [oG 3 0,oG 4 1,oB 6 false,oK 7 0]
 (Rg [oT 11 1 3,oT 12 2 4,oM 13 2,oC 14 532 [11,12,13],oM 10 14,oE 15 10 0,oE 16 10 1,oM 8 15,oM 9 16]
 (.seq (Rg [oM 17 9,oR 18 .neq 17 (k 0)]
 (.cond 18 (Rg [oM 19 9,oB 6 false,oM 7 19]
 (.fz [6,7] .ret))
 .skip))
 (Rg [oM 20 8,o 21 (.nilc 20),oF 22 5 21,on (.store 1 22 (.c (.f 533)))]
 (Rg [oM 23 8,oC 24 515 [23,(k 0)],oX 25 24,oM 6 25,oK 7 0]
 (.fz [6,7] .ret))))))⟩
def YoF(lo:Lo):FnE:=Zfe 494 true (Zsg [0,1,2] [.ag [.l Zc6],.ag [.l (cs [.s]),.l Zc7],.l Zc10] []) (.tp [.b,.j]) [] (fun x=>q171 lo x.1 x.2.1 x.2.2.1 x.2.2.2:Zt1×Zt3×Zt0×Zt4->Option (Bool×Int))
noncomputable def YFz(lo:Lo):List FnE:=YoF lo::YF2 lo
theorem YBJ(h:GZ P fm YF2 lo)(t:Ti P fm 494 YBI):GZ P fm YFz lo:=
  h.p (YoF lo) .n t
def q172_L6_b:VCode:=
 (.seq (Rg [oM 29 11,oM 30 9,oN 31 30,oR 32 .lss 29 31]
 (Ce 32 0))
 (.seq (.blk 1 (Rg [oT 35 2 4,oM 36 9,oM 37 11,oI 38 3 36 37,oT 39 3 38,oC 40 517 [35,39],oM 41 2,oC 42 297 [40,41]]
 (.cond 42 (.reg [oM 43 10,oM 44 9,oM 45 11,oI 46 3 44 45,oF 47 0 46,oL 48 47,o 49 (.bsl Zc16 1 [(0,48)]),o 50 (.app Zc16 0 43 49),oM 10 50])
 .skip)))
 (.reg [oM 33 11,oR 34 .add 33 (k 1),oM 11 34])))
def YeQ(lo:Lo):Zt4×Zt17×Int×Zt3×Zt0×Zt13->Option ((Zt4×Zt17×Int×Zt3×Zt0×Zt13)⊕ ((Zt13))):=fun x=>match x with
  | (answer2,l9,i11,q4_0,q4_1,out10)=>bif(decide (i11< (l9.length:Int)))then(chk (0<=i11/\i11< (l9.length:Int)) (YIC (q132 lo q4_0 q4_1 ((l9.getD i11.toNat ([],[],[])).1) ((l9.getD i11.toNat ([],[],[])).2.1) ((l9.getD i11.toNat ([],[],[])).2.2)) fun y766=>YIC (q134 lo y766 answer2) fun y767=>bif y767 then(chk (0<=i11/\i11< (l9.length:Int)) (chk (out10.length+([(l9.getD i11.toNat ([],[],[])).1]).length<=maxEl) (some (.inl (answer2,l9,(YIV .i64 (i11+1)),q4_0,q4_1,(out10++([(l9.getD i11.toNat ([],[],[])).1])))))))else(some (.inl (answer2,l9,(YIV .i64 (i11+1)),q4_0,q4_1,out10)))))else(some (.inr out10))
def Yhf(lo:Lo):Zt4×Zt17×Int×Zt3×Zt0×Zt13->Option ((Zt13)):=lo.run (YeQ lo)
def YBK(lo:Lo):LpE:=⟨6,[(10,none,false)],(Zsg [2,4,9,10,11] [.l Zc10,.ptr 0 0 0,.l Zc22,.ref 1,.j] [.st [.l (cs [.s]),.l Zc7],.sq Zc16]),[⟨.exit 0,(Zsg [10] [.ref 0] [.sq Zc16])⟩],Yhf lo⟩
def YBL(lo:Lo):LL:=(YBK lo,.loop q172_L6_b.er)::[]
theorem YBM(lo:Lo):Lk lo pf (YFz lo) 0 (YBL lo):=.l .n (YeQ lo)
def q172(lo:Lo)(db0:List (ByteArray×Zt3×Zt12))(q1_0:List ByteArray)(q1_1:List (ByteArray×Zt5))(answer2:List (Int×Int×ByteArray)):Option (Zt13×Int):=
  YIC (q115 lo db0 q1_0 q1_1) fun y764=>bif(!decide (y764=0))then(some (([]:List ((List Int))),y764))else(bif(!decide ((answer2.length:Int)=(q1_0.length:Int)))then(some (([]:List ((List Int))),(6:Int)))else(YIC (q130 lo db0 q1_1 ([]:List Int) ([]:List ByteArray) ([]:List Zp69)) fun y765=>YIC (Yhf lo (answer2,y765,(0:Int),q1_0,q1_1,[])) fun y768=>bif(decide ((1000:Int)< (y768.length:Int)))then(some (([]:List ((List Int))),(3:Int)))else(some (y768,(0:Int)))))
def YBN:VFn:=⟨true,55,[.t 6,.t 7],
 (Rg [oG 3 0,oG 4 1,o 6 (.mv (ke Zc16)),oK 7 0]
 (.seq (Rg [oT 12 1 3,oT 13 2 4,oC 14 473 [12,13],oM 8 14]
 (Rg [oM 15 8,oR 16 .neq 15 (k 0)]
 (.cond 16 (Rg [oM 17 8,o 6 (.mv (ke Zc16)),oM 7 17]
 (.fz [6,7] .ret))
 .skip)))
 (.seq (Rg [oM 18 2,oN 19 18,oF 20 0 4,oL 21 20,oN 22 21,oR 23 .neq 19 22]
 (.cond 23 (Rg [o 6 (.mv (ke Zc16)),oK 7 6]
 (.fz [6,7] .ret))
 .skip))
 (Rg [oT 24 1 3,oF 25 1 4,oL 26 25,o 27 (.build [.e (cs [I]),.e (cs [.s]),.e Zc11] []),oC 28 516 [24,26,27],oM 9 28]
 (Rg [o 10 (.mv (ke Zc16))]
 (.seq (Rg [oK 11 0]
 (.blk 0 (.loop 6 q172_L6_b)))
 (.seq (Rg [oM 51 10,oN 52 51,oR 53 .gtr 52 (k 1000)]
 (.cond 53 (Rg [o 6 (.mv (ke Zc16)),oK 7 3]
 (.fz [6,7] .ret))
 .skip))
 (Rg [oM 54 10,oM 6 54,oK 7 0]
 (.fz [6,7] .ret)))))))))⟩
def YoG(lo:Lo):FnE:=Zfe 496 true (Zsg [0,1,2] [.ag [.l Zc6],.ag [.l (cs [.s]),.l Zc7],.l Zc10] []) (.tp [.l Zc16,.j]) [] (fun x=>q172 lo x.1 x.2.1 x.2.2.1 x.2.2.2:Zt1×Zt3×Zt0×Zt4->Option (Zt13×Int))
noncomputable def YF3(lo:Lo):List FnE:=YoG lo::YFz lo
theorem YBO(h:GZ P fm YFz lo)(t:Ti P fm 496 YBN):GZ P fm YF3 lo:=
  h.p (YoG lo) (YBM lo) t
noncomputable def q173(lo:Lo)(d0:List (Int×Int×Zt13))(x1_0:List Int)(x1_1:List (Int× (List Int)))(codes2:List Int):Option Bool:=
  YIC (q120 lo d0) fun y711=>YIC (q122 lo y711.1 x1_0 x1_1) fun y712=>YIC (q99 lo) fun y713=>bif(!y713)then(YIC (q99 lo) fun y714=>some y714)else(bif(!y711.2)then(YIC (q99 lo) fun y715=>some y715)else(bif(!y712.2.2)then(YIC (q99 lo) fun y716=>some y716)else(bif(decide ((8:Int)< (codes2.length:Int)))then(YIC (q99 lo) fun y717=>some y717)else(YIC (q166 lo codes2) fun y720=>YIC (q167 lo y720) fun y721=>YIC (q171 lo y711.1 y712.1 y712.2.1 y721) fun y761=>YIC (q167 lo y720) fun y762=>YIC (q73 lo y711.1 y712.1 y712.2.1 y762) fun y763=>YIC (q172 lo y711.1 y712.1 y712.2.1 y720) fun y769=>bif(decide (y761.2=y769.2))then(bif(decide (y763.2=y769.2))then(bif(decide (y769.2=(0:Int)))then(bif(y761.1==(decide ((0:Int)< (y769.1.length:Int))))then(YIC (q98 lo y763.1 y769.1) fun y770=>some y770)else(some false))else(bif(y761.1==false)then(YIC (q98 lo y763.1 y769.1) fun y771=>some y771)else(some false)))else(some false))else(some false)))))
def YBP:VFn:=⟨true,94,[.t 6],
 (Rg [oG 4 1,oB 6 false]
 (Rg [oM 19 0,oC 20 474 [19],oM 18 20,oE 21 18 0,oE 22 18 1,o 7 (.alloc [.e Zc6]),oS 1 7 21,oM 8 22]
 (Rg [oT 24 1 7,oT 25 2 4,oC 26 475 [24,25],oM 23 26,oE 27 23 0,oE 28 23 1,o 9 (.alloc [.e (cs [.s]),.e Zc7]),oS 2 9 27,oM 10 28]
 (.seq (Rg [oC 29 469 [],oX 30 29,oM 31 30,gF 32 31 (.mv 8),gF 33 31 (.not 32),oP 34 31 (kb true) 33,oM 35 34,gF 36 35 (.mv 10),gF 37 35 (.not 36),oP 38 35 (kb true) 37,oM 39 38,gF 40 39 (.mv 2),gF 41 39 (.len 40),gF 42 39 (.bin .gtr 41 (k 8)),oP 43 39 (kb true) 42]
 (.cond 43 (Rg [oC 44 469 [],oM 6 44]
 (Fr 6))
 .skip))
 (Rg [oM 45 2,oC 46 355 [45],oM 11 46]
 (Rg [oT 48 1 7,oT 49 2 9,oM 50 11,oC 51 308 [50],oC 52 494 [48,49,51],oM 47 52,oE 53 47 0,oE 54 47 1,oM 12 53,oM 13 54]
 (Rg [oT 56 1 7,oT 57 2 9,oM 58 11,oC 59 308 [58],oC 60 495 [56,57,59],oM 55 60,oE 61 55 0,oE 62 55 1,oM 14 61,oM 15 62]
 (Rg [oT 64 1 7,oT 65 2 9,oM 66 11,oC 67 496 [64,65,66],oM 63 67,oE 68 63 0,oE 69 63 1,oM 16 68,oM 17 69]
 (Rg [oM 70 13,oM 71 17,oR 72 .eql 70 71,oM 73 72,gT 74 73 (.mv 15),gT 75 73 (.mv 17),gT 76 73 (.bin .eql 74 75),oP 77 73 76 (kb false),oM 78 77,gT 79 78 (.mv 12),gT 80 78 (.mv 17),gT 81 78 (.bin .eql 80 (k 0)),gT 82 78 (.mv 81),gT 83 82 (.mv 16),gT 84 82 (.len 83),gT 85 82 (.bin .gtr 84 (k 0)),gT 86 78 (.pick 82 85 (kb false)),gT 87 78 (.beq false 79 86),oP 88 78 87 (kb false),oM 89 88,gT 90 89 (.mv 14),gT 91 89 (.mv 16),gT 92 89 (.call 346 [90,91]),oP 93 89 92 (kb false),oM 6 93]
 (Fr 6))))))))))⟩
noncomputable def q173_f(lo:Lo):FnE:=Zfe 467 true (Zsg [0,1,2] [.l Zc25,.ag [.l Zc20,.l Zc23],.l Zc20] []) .b [] (fun x=>q173 lo x.1 x.2.1 x.2.2.1 x.2.2.2:Zt24× (List Int)×Zt21× (List Int)->Option Bool)
noncomputable def YHi(lo:Lo):List FnE:=q173_f lo::YF3 lo
theorem YBQ(h:GZ P fm YF3 lo)(t:Ti P fm 467 YBP):GZ P fm YHi lo:=
  h.p (q173_f lo) .n t
end Go.Abs.G47
