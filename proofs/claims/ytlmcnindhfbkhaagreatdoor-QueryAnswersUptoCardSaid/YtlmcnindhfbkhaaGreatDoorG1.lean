/- Functions of the program as functions of data (written by program). No condition. -/
import Derived.Test.YtlmcnindhfbkhaaGreatDoorG
set_option linter.unusedVariables false
set_option linter.unusedSimpArgs false
set_option linter.unusedSectionVars false
open Option renaming bind → YH2
open ByteArray renaming mk → YIk
open Go.IntKind renaming wrap → YIl
namespace Go.Abs.G47
open Go Go.Abs
set_option maxRecDepth 100000
set_option maxHeartbeats 1000000
variable{P:Program}{fm:FM}{lo:Lo}
def q122_J23_b:VCode:=
 (Rg [oM 83 11,oC 84 510 [83],o 85 (.build [.s (⟨#[]⟩),.i .i64 0,.i .i64 0,.s (⟨#[]⟩)] [(0,1,84)]),o 12 (.alloc [.s (⟨#[]⟩),.i .i64 0,.i .i64 0,.s (⟨#[]⟩)]),oS 4 12 85]
 (.seq (Rg [oM 86 11,oR 87 .geq 86 (ki .u8 4)]
 (.cond 87 (.reg [oM 88 11,oR 89 .sub 88 (ki .u8 4),oC 90 251 [89],o 91 (.build [.s (⟨#[]⟩),.i .i64 0,.i .i64 0,.s (⟨#[]⟩)] [(1,3,90)]),oS 4 12 91])
 .skip))
 (.reg [oF 92 1 9,oL 93 92,oT 94 4 12,o 95 (.bsl Zc11 1 [(0,94)]),o 96 (.app Zc11 0 93 95),oF 97 1 9,oS 1 97 96])))
def YcT(lo:Lo):Int×Int×Int×Zt1× (List Int)×Zt21×Zt3×Zt0×ByteArray×Zt3×Zt12×ByteArray×Zt3×Zt0×Zt4->Option (Zp32):=fun x=>match x with
  | (i7,k10,code11,db2,d3_0,d3_1,v4_0,v4_1,t8_0,t8_1,t8_2,a9,h6,h7,h8)=>YH2 (q121 lo code11) fun y489=>bif(decide (4<=code11))then(YH2 (q117 lo (YIl .u8 (code11-4))) fun y490=>chk (h8.length+([((YIk #[]),y490.1,y490.2.1,y490.2.2)]).length<=maxEl) (some (i7,k10,db2,d3_0,d3_1,v4_0,v4_1,t8_0,t8_1,t8_2,a9,h6,h7,(h8++([((YIk #[]),y490.1,y490.2.1,y490.2.2)])))))else(chk (h8.length+([(y489,(0:Int),(0:Int),(YIk #[]))]).length<=maxEl) (some (i7,k10,db2,d3_0,d3_1,v4_0,v4_1,t8_0,t8_1,t8_2,a9,h6,h7,(h8++([(y489,(0:Int),(0:Int),(YIk #[]))])))))
def YAM(lo:Lo):LpE:=⟨23,[(6,some 0,false),(6,some 1,false),(9,some 1,false)],(Zsg [2,3,4,6,7,8,9,10,11] [.ptr 0 0 0,.ptr 1 0 0,.ptr 2 0 0,.ptr 3 0 0,.j,.ptr 4 0 0,.ptr 5 0 0,.j,.i .u8] [.st [.l Zc6],.st [.l Zc22,.l Zc25],.st [.l (cs [.s]),.l Zc7],.st [.ref 6,.ref 7],.st [.s,.l (cs [.s]),.l Zc15],.st [.s,.ref 8],.sq (cs [.s]),.sq Zc7,.sq Zc11]),[⟨.nor,(Zsg [2,3,4,6,7,8,9,10] [.ptr 0 0 0,.ptr 1 0 0,.ptr 2 0 0,.ptr 3 0 0,.j,.ptr 4 0 0,.ptr 5 0 0,.j] [.st [.l Zc6],.st [.l Zc22,.l Zc25],.st [.l (cs [.s]),.l Zc7],.st [.ref 6,.ref 7],.st [.s,.l (cs [.s]),.l Zc15],.st [.s,.ref 8],.sq (cs [.s]),.sq Zc7,.sq Zc11])⟩],YcT lo⟩
def Yoh(lo:Lo):LL:=(YAM lo,q122_J23_b.er)::[]
theorem YAN(lo:Lo):Lk lo pf (YEK lo) 0 (Yoh lo):=.j .n
def q122_L15_b:VCode:=
 (.seq (Rg [oM 58 10,oF 59 1 8,oL 60 59,oN 61 60,oR 62 .lss 58 61]
 (Ce 62 2))
 (.seq (.blk 3 (Rg [o 11 (.mv (ki .u8 0))]
 (.seq (Rg [oM 65 10,oF 66 1 3,oL 67 66,oM 68 7,oI 69 2 67 68,oF 70 1 69,oL 71 70,oN 72 71,oR 73 .lss 65 72]
 (.cond 73 (.reg [oF 74 1 3,oL 75 74,oM 76 7,oI 77 2 75 76,oF 78 1 77,oL 79 78,oM 80 10,oI 81 1 79 80,oL 82 81,oM 11 82])
 .skip))
 (.jn 23 q122_J23_b))))
 (.reg [oM 63 10,oR 64 .add 63 (k 1),oM 10 64])))
def YeB(lo:Lo):Zp32->Option (Zp32⊕ ((Int×Zt1× (List Int)×Zt21×Zt3×Zt0×ByteArray×Zt3×Zt0×Zt4))):=fun x=>match x with
  | (i7,k10,db2,d3_0,d3_1,v4_0,v4_1,t8_0,t8_1,t8_2,a9,h6,h7,h8)=>bif(decide (k10< (t8_1.length:Int)))then(chk (0<=i7/\i7< (d3_1.length:Int)) (bif(decide (k10< (((d3_1.getD i7.toNat ((0:Int),[])).2).length:Int)))then(chk (0<=i7/\i7< (d3_1.length:Int)) (chk (0<=k10/\k10< (((d3_1.getD i7.toNat ((0:Int),[])).2).length:Int)) (YH2 (YcT lo (i7,k10,(((d3_1.getD i7.toNat ((0:Int),[])).2).getD k10.toNat (0:Int)),db2,d3_0,d3_1,v4_0,v4_1,t8_0,t8_1,t8_2,a9,h6,h7,h8)) fun y491=>some (.inl (y491.1,(YIl .i64 (y491.2.1+(1:Int))),y491.2.2.1,y491.2.2.2.1,y491.2.2.2.2.1,y491.2.2.2.2.2.1,y491.2.2.2.2.2.2.1,y491.2.2.2.2.2.2.2.1,y491.2.2.2.2.2.2.2.2.1,y491.2.2.2.2.2.2.2.2.2.1,y491.2.2.2.2.2.2.2.2.2.2.1,y491.2.2.2.2.2.2.2.2.2.2.2.1,y491.2.2.2.2.2.2.2.2.2.2.2.2.1,y491.2.2.2.2.2.2.2.2.2.2.2.2.2)))))else(YH2 (YcT lo (i7,k10,(0:Int),db2,d3_0,d3_1,v4_0,v4_1,t8_0,t8_1,t8_2,a9,h6,h7,h8)) fun y492=>some (.inl (y492.1,(YIl .i64 (y492.2.1+(1:Int))),y492.2.2.1,y492.2.2.2.1,y492.2.2.2.2.1,y492.2.2.2.2.2.1,y492.2.2.2.2.2.2.1,y492.2.2.2.2.2.2.2.1,y492.2.2.2.2.2.2.2.2.1,y492.2.2.2.2.2.2.2.2.2.1,y492.2.2.2.2.2.2.2.2.2.2.1,y492.2.2.2.2.2.2.2.2.2.2.2.1,y492.2.2.2.2.2.2.2.2.2.2.2.2.1,y492.2.2.2.2.2.2.2.2.2.2.2.2.2)))))else(some (.inr (i7,db2,d3_0,d3_1,v4_0,v4_1,a9,h6,h7,h8)))
def Yg9(lo:Lo):Zp32->Option ((Int×Zt1× (List Int)×Zt21×Zt3×Zt0×ByteArray×Zt3×Zt0×Zt4)):=lo.run (YeB lo)
def YAO(lo:Lo):LpE:=⟨15,[(6,some 0,false),(6,some 1,false),(9,some 1,false)],(Zsg [2,3,4,6,7,8,9,10] [.ptr 0 0 0,.ptr 1 0 0,.ptr 2 0 0,.ptr 3 0 0,.j,.ptr 4 0 0,.ptr 5 0 0,.j] [.st [.l Zc6],.st [.l Zc22,.l Zc25],.st [.l (cs [.s]),.l Zc7],.st [.ref 6,.ref 7],.st [.s,.l (cs [.s]),.l Zc15],.st [.s,.ref 8],.sq (cs [.s]),.sq Zc7,.sq Zc11]),[⟨.exit 2,(Zsg [2,3,4,6,7,9] [.ptr 0 0 0,.ptr 1 0 0,.ptr 2 0 0,.ptr 3 0 0,.j,.ptr 4 0 0] [.st [.l Zc6],.st [.l Zc22,.l Zc25],.st [.l (cs [.s]),.l Zc7],.st [.ref 5,.ref 6],.st [.s,.ref 7],.sq (cs [.s]),.sq Zc7,.sq Zc11])⟩],Yg9 lo⟩
def Yoi(lo:Lo):LL:=(YAO lo,.loop q122_L15_b.er)::Yoh lo
theorem YAP(lo:Lo):Lk lo pf (YEK lo) 0 (Yoi lo):=.l (YAN lo) (YeB lo)
def q122_L12_b:VCode:=
 (.seq (Rg [oM 33 7,oF 34 1 3,oL 35 34,oN 36 35,oR 37 .lss 33 36]
 (Ce 37 0))
 (.seq (.blk 1 (Rg [oF 40 0 2,⟨some 41,.load false 1 40,none,true,false⟩,oF 42 1 3,⟨some 43,.load false 1 42,none,true,false⟩,oM 44 7,⟨some 45,.iad 2 43 44,none,true,false⟩,oF 46 0 45,⟨some 47,.load false 1 46,none,true,false⟩,o 48 (.conv .i64 47),oF 49 0 2,⟨some 50,.load false 1 49,none,true,false⟩,oN 51 50,oR 52 .rem 48 51,⟨some 53,.iad 3 41 52,none,true,false⟩,⟨some 54,.load true 3 53,none,true,false⟩,o 8 (.alloc [.s (⟨#[]⟩),.e (cs [.s]),.e Zc15]),oS 3 8 54]
 (Rg [oF 55 0 8,oL 56 55,o 57 (.build [.s (⟨#[]⟩),.e Zc11] [(0,1,56)]),o 9 (.alloc [.s (⟨#[]⟩),.e Zc11]),oS 2 9 57]
 (.seq (Rg [oK 10 0]
 (.blk 2 (.loop 15 q122_L15_b)))
 (.fz [9] (.reg [oF 98 1 6,oL 99 98,oT 100 2 9,o 101 (.bsl Zc7 1 [(0,100)]),o 102 (.app Zc7 0 99 101),oF 103 1 6,oS 1 103 102]))))))
 (.reg [oM 38 7,oR 39 .add 38 (k 1),oM 7 39])))
def YeC(lo:Lo):Zp51->Option (Zp51⊕ (((List Int)×Zt21×Zt3×Zt0×Zt3×Zt0))):=fun x=>match x with
  | (i7,db2,d3_0,d3_1,v4_0,v4_1,h4,h5)=>bif(decide (i7< (d3_1.length:Int)))then(chk (0<=i7/\i7< (d3_1.length:Int)) (chk ((db2.length:Int)≠0) (chk (0<=((YIl .i64 ((d3_1.getD i7.toNat ((0:Int),[])).1)).tmod (db2.length:Int))/\ ((YIl .i64 ((d3_1.getD i7.toNat ((0:Int),[])).1)).tmod (db2.length:Int))< (db2.length:Int)) (YH2 (Yg9 lo (i7,(0:Int),db2,d3_0,d3_1,v4_0,v4_1,(db2.getD (((YIl .i64 ((d3_1.getD i7.toNat ((0:Int),[])).1)).tmod (db2.length:Int)).toNat) ((YIk #[]),[],[])).1,(db2.getD (((YIl .i64 ((d3_1.getD i7.toNat ((0:Int),[])).1)).tmod (db2.length:Int)).toNat) ((YIk #[]),[],[])).2.1,(db2.getD (((YIl .i64 ((d3_1.getD i7.toNat ((0:Int),[])).1)).tmod (db2.length:Int)).toNat) ((YIk #[]),[],[])).2.2,(db2.getD (((YIl .i64 ((d3_1.getD i7.toNat ((0:Int),[])).1)).tmod (db2.length:Int)).toNat) ((YIk #[]),[],[])).1,h4,h5,[])) fun y493=>chk (y493.2.2.2.2.2.2.2.2.1.length+([(y493.2.2.2.2.2.2.1,y493.2.2.2.2.2.2.2.2.2)]).length<=maxEl) (some (.inl ((YIl .i64 (y493.1+(1:Int))),y493.2.1,y493.2.2.1,y493.2.2.2.1,y493.2.2.2.2.1,y493.2.2.2.2.2.1,y493.2.2.2.2.2.2.2.1,(y493.2.2.2.2.2.2.2.2.1++([(y493.2.2.2.2.2.2.1,y493.2.2.2.2.2.2.2.2.2)])))))))))else(some (.inr (d3_0,d3_1,v4_0,v4_1,h4,h5)))
def Yha(lo:Lo):Zp51->Option (((List Int)×Zt21×Zt3×Zt0×Zt3×Zt0)):=lo.run (YeC lo)
def YAQ(lo:Lo):LpE:=⟨12,[(6,some 0,false),(6,some 1,false)],(Zsg [2,3,4,6,7] [.ptr 0 0 0,.ptr 1 0 0,.ptr 2 0 0,.ptr 3 0 0,.j] [.st [.l Zc6],.st [.l Zc22,.l Zc25],.st [.l (cs [.s]),.l Zc7],.st [.ref 4,.ref 5],.sq (cs [.s]),.sq Zc7]),[⟨.exit 0,(Zsg [3,4,6] [.ptr 0 0 0,.ptr 1 0 0,.ptr 2 0 0] [.st [.l Zc22,.l Zc25],.st [.l (cs [.s]),.l Zc7],.st [.ref 3,.ref 4],.sq (cs [.s]),.sq Zc7])⟩],Yha lo⟩
def Yoj(lo:Lo):LL:=(YAQ lo,.loop q122_L12_b.er)::Yoi lo
theorem YAR(lo:Lo):Lk lo pf (YEK lo) 0 (Yoj lo):=.l (YAP lo) (YeC lo)
def q122_L3_b:VCode:=
 (.seq (Rg [oM 107 14,oF 108 0 3,oL 109 108,oN 110 109,oR 111 .lss 107 110,oM 112 111,gT 113 112 (.mv 14),gT 114 112 (.bin .lss 113 (k 4)),oP 115 112 114 (kb false)]
 (Ce 115 4))
 (.seq (.blk 5 (Rg [oF 118 0 3,oL 119 118,oM 120 14,oI 121 1 119 120,oL 122 121,oC 123 510 [122],oM 15 123]
 (Rg [oM 124 13,oM 125 15,oC 126 272 [124,125],oR 127 .geq 126 (k 0),oM 128 127,gT 129 128 (.fad 0 6),gT 130 128 (.load false 1 129),gT 131 128 (.mv 15),gT 132 128 (.call 272 [130,131]),gT 133 128 (.bin .lss 132 (k 0)),oP 134 128 133 (kb false)]
 (.cond 134 (.reg [oF 135 0 6,oL 136 135,oM 137 15,o 138 (.bsl (cs [.s]) 1 [(0,137)]),o 139 (.app (cs [.s]) 0 136 138),oF 140 0 6,oS 1 140 139])
 .skip))))
 (.reg [oM 116 14,oR 117 .add 116 (k 1),oM 14 117])))
def YcU(lo:Lo):Zp52->Option (Zp52⊕ ((Zt3×Zt0×Zt0×Zt3))):=fun x=>match x with
  | (l13,i14,d3_0,d3_1,v4_0,v4_1,q6,h3)=>bif(decide (i14< (d3_0.length:Int)))then(bif(decide (i14<4))then(chk (0<=i14/\i14< (d3_0.length:Int)) (YH2 (q121 lo (d3_0.getD i14.toNat (0:Int))) fun y496=>YH2 (q104 lo l13 y496) fun y497=>bif(decide (0<=y497))then(YH2 (q104 lo h3 y496) fun y498=>bif(decide (y498<0))then(chk (h3.length+[y496].length<=maxEl) (some (.inl (l13,(YIl .i64 (i14+1)),d3_0,d3_1,v4_0,v4_1,q6,(h3++[y496])))))else(some (.inl (l13,(YIl .i64 (i14+1)),d3_0,d3_1,v4_0,v4_1,q6,h3))))else(some (.inl (l13,(YIl .i64 (i14+1)),d3_0,d3_1,v4_0,v4_1,q6,h3)))))else(some (.inr (v4_0,v4_1,q6,h3))))else(some (.inr (v4_0,v4_1,q6,h3)))
def Yhb(lo:Lo):Zp52->Option ((Zt3×Zt0×Zt0×Zt3)):=lo.run (YcU lo)
def YAS(lo:Lo):LpE:=⟨3,[(6,some 0,false)],(Zsg [3,4,6,13,14] [.ptr 0 0 0,.ptr 1 0 0,.ptr 2 0 0,.l (cs [.s]),.j] [.st [.l Zc22,.l Zc25],.st [.l (cs [.s]),.l Zc7],.st [.ref 3,.l Zc7],.sq (cs [.s])]),[⟨.exit 4,(Zsg [4,6] [.ptr 0 0 0,.ptr 1 0 0] [.st [.l (cs [.s]),.l Zc7],.st [.ref 2,.l Zc7],.sq (cs [.s])])⟩],Yhb lo⟩
def YAT(lo:Lo):LL:=(YAS lo,.loop q122_L3_b.er)::Yoj lo
theorem YAU(lo:Lo):Lk lo pf (YEK lo) 0 (YAT lo):=.l (YAR lo) (YcU lo)
def q122(lo:Lo)(db0:List (ByteArray×Zt3×Zt12))(d1_0:List Int)(d1_1:List (Int× (List Int))):Option (Zt3×Zt0×Bool):=
  bif(decide ((db0.length:Int)=0))then(some (([]:List ByteArray),([]:List (ByteArray×Zt4)),false))else(bif(decide ((d1_1.length:Int)<1))then(some (([]:List ByteArray),([]:List (ByteArray×Zt4)),false))else(bif(decide ((3:Int)< (d1_1.length:Int)))then(some (([]:List ByteArray),([]:List (ByteArray×Zt4)),false))else(YH2 (Yha lo ((0:Int),db0,d1_0,d1_1,([]:List ByteArray),([]:List (ByteArray×Zt4)),[],[])) fun y494=>YH2 (q113 lo y494.2.2.2.2.2) fun y495=>YH2 (Yhb lo (y495,(0:Int),y494.1,y494.2.1,y494.2.2.1,y494.2.2.2.1,y494.2.2.2.2.2,y494.2.2.2.2.1)) fun y499=>some (y499.2.2.2,y499.2.2.1,true))))
def YAV:VFn:=⟨true,142,[.c 4 true 2,.t 5],
 (Rg [oG 2 0,oG 3 1,o 4 (.alloc [.e (cs [.s]),.e Zc7]),oB 5 false]
 (.seq (Rg [oF 16 0 2,oL 17 16,oN 18 17,oR 19 .eql 18 (k 0),oM 20 19,gF 21 20 (.fad 1 3),gF 22 20 (.load false 1 21),gF 23 20 (.len 22),gF 24 20 (.bin .lss 23 (k 1)),oP 25 20 (kb true) 24,oM 26 25,gF 27 26 (.fad 1 3),gF 28 26 (.load false 1 27),gF 29 26 (.len 28),gF 30 26 (.bin .gtr 29 (k 3)),oP 31 26 (kb true) 30]
 (.cond 31 (Rg [o 32 (.build [.e (cs [.s]),.e Zc7] []),oS 2 4 32,oB 5 false]
 (.fz [4,5] .ret))
 .skip))
 (Rg [o 6 (.alloc [.e (cs [.s]),.e Zc7])]
 (.seq (Rg [oK 7 0]
 (.blk 0 (.loop 12 q122_L12_b)))
 (.seq (.fz [2000006] (.reg [oF 104 1 6,oL 105 104,oC 106 511 [105],oM 13 106]))
 (.seq (Rg [oK 14 0]
 (.blk 4 (.loop 3 q122_L3_b)))
 (Rg [oT 141 2 6,oS 2 4 141,oB 5 true]
 (.fz [4,5] .ret))))))))⟩
def Yok(lo:Lo):FnE:=Zfe 475 true (Zsg [0,1] [.ag [.l Zc6],.ag [.l Zc22,.l Zc25]] []) (.tp [.ag [.l (cs [.s]),.l Zc7],.b]) [] (fun x=>q122 lo x.1 x.2.1 x.2.2:Zt1× (List Int)×Zt21->Option (Zt3×Zt0×Bool))
noncomputable def YFy(lo:Lo):List FnE:=Yok lo::YEK lo
theorem YAW(h:GZ P fm YEK lo)(t:Ti P fm 475 YAV):GZ P fm YFy lo:=
  h.p (Yok lo) (YAU lo) t
def q123_L3_b:VCode:=
 (.seq (Rg [oM 5 4,oF 6 1 1,oL 7 6,oN 8 7,oR 9 .lss 5 8]
 (Ce 9 0))
 (.seq (.blk 1 (.reg [oM 12 3,oF 13 1 1,oL 14 13,oM 15 4,oI 16 3 14 15,oT 17 3 16,o 18 (.build [.s (⟨#[]⟩),.i .i64 0,.i .i64 0,.s (⟨#[]⟩)] [(1,3,17)]),o 19 (.bsl Zc11 1 [(0,18)]),o 20 (.app Zc11 0 12 19),oM 3 20]))
 (.reg [oM 10 4,oR 11 .add 10 (k 1),oM 4 11])))
def YeD(lo:Lo):Int×Int×Zt2×Zt4->Option ((Int×Int×Zt2×Zt4)⊕ ((Zt4))):=fun x=>match x with
  | (i4,r1_0,r1_1,out3)=>bif(decide (i4< (r1_1.length:Int)))then(chk (0<=i4/\i4< (r1_1.length:Int)) (chk (out3.length+([((YIk #[]),(r1_1.getD i4.toNat Zd1).1,(r1_1.getD i4.toNat Zd1).2.1,(r1_1.getD i4.toNat Zd1).2.2)]).length<=maxEl) (some (.inl ((YIl .i64 (i4+1)),r1_0,r1_1,(out3++([((YIk #[]),(r1_1.getD i4.toNat Zd1).1,(r1_1.getD i4.toNat Zd1).2.1,(r1_1.getD i4.toNat Zd1).2.2)])))))))else(some (.inr out3))
def Yhc(lo:Lo):Int×Int×Zt2×Zt4->Option ((Zt4)):=lo.run (YeD lo)
def YAX(lo:Lo):LpE:=⟨3,[(3,none,false)],(Zsg [1,3,4] [.ptr 0 0 0,.ref 1,.j] [.st [.j,.l Zc10],.sq Zc11]),[⟨.exit 0,(Zsg [3] [.ref 0] [.sq Zc11])⟩],Yhc lo⟩
def YAY(lo:Lo):LL:=(YAX lo,.loop q123_L3_b.er)::[]
theorem YAZ(lo:Lo):Lk lo pf (YFy lo) 0 (YAY lo):=.l .n (YeD lo)
def q123(lo:Lo)(r0_0:Int)(r0_1:List (Int×Int×ByteArray)):Option (Zt4):=
  YH2 (Yhc lo ((0:Int),r0_0,r0_1,[])) fun y508=>some y508
def YA0:VFn:=⟨true,22,[.t 2],
 (Rg [oG 1 0,o 2 (.mv (ke Zc11))]
 (Rg [o 3 (.mv (ke Zc11))]
 (.seq (Rg [oK 4 0]
 (.blk 0 (.loop 3 q123_L3_b)))
 (Rg [oM 21 3,oM 2 21]
 (Fr 2)))))⟩
def Yol(lo:Lo):FnE:=Zfe 544 true (Zsg [0] [.ag [.j,.l Zc10]] []) (.l Zc11) [] (fun x=>q123 lo x.1 x.2:Int×Zt2->Option (Zt4))
noncomputable def YFY(lo:Lo):List FnE:=Yol lo::YFy lo
theorem YA1(h:GZ P fm YFy lo)(t:Ti P fm 544 YA0):GZ P fm YFY lo:=
  h.p (Yol lo) (YAZ lo) t
def q124(lo:Lo)(a0:Int)(b1:Int):Option Int:=
  bif(decide (a0<b1))then(some (-1:Int))else(bif(decide (b1<a0))then(some (1:Int))else(some (0:Int)))
def YA2:VFn:=⟨true,11,[.t 4],
 (Rg [oK 4 0]
 (.seq (Rg [oM 5 0,oM 6 1,oR 7 .lss 5 6]
 (.cond 7 (Rg [oK 4 (-1)]
 (Fr 4))
 .skip))
 (.seq (Rg [oM 8 0,oM 9 1,oR 10 .gtr 8 9]
 (.cond 10 (Rg [oK 4 1]
 (Fr 4))
 .skip))
 (Rg [oK 4 0]
 (Fr 4)))))⟩
def Yom(lo:Lo):FnE:=Zfe 303 true (Zsg [0,1] [.j,.j] []) (.i .i64) [] (fun x=>q124 lo x.1 x.2:Int×Int->Option Int)
noncomputable def YFz(lo:Lo):List FnE:=Yom lo::YFY lo
theorem YA3(h:GZ P fm YFY lo)(t:Ti P fm 303 YA2):GZ P fm YFz lo:=
  h.p (Yom lo) .n t
def q125_L3_b:VCode:=
 (.seq (Rg [oM 6 5,oM 7 0,o 8 (.lenS 7),oR 9 .lss 6 8,oM 10 9,gT 11 10 (.mv 5),gT 12 10 (.mv 1),gT 13 10 (.lenS 12),gT 14 10 (.bin .lss 11 13),oP 15 10 14 (kb false)]
 (Ce 15 0))
 (.seq (.blk 1 (Rg [oM 18 0,oM 19 5,o 20 (.idx 18 19),oM 21 1,oM 22 5,o 23 (.idx 21 22),oR 24 .neq 20 23]
 (.cond 24 (Rg [oM 25 0,oM 26 5,o 27 (.idx 25 26),o 28 (.conv .i64 27),oM 29 1,oM 30 5,o 31 (.idx 29 30),o 32 (.conv .i64 31),oC 33 303 [28,32],oM 4 33]
 (Fr 4))
 .skip)))
 (.reg [oM 16 5,oR 17 .add 16 (k 1),oM 5 17])))
def YcV(lo:Lo):ByteArray×ByteArray×Int->Option ((ByteArray×ByteArray×Int)⊕ (Int⊕ (ByteArray×ByteArray))):=fun x=>match x with
  | (a0,b1,i5)=>bif(decide (i5< (a0.size:Int)))then(bif(decide (i5< (b1.size:Int)))then(chk (0<=i5/\i5< (a0.size:Int)) (chk (0<=i5/\i5< (b1.size:Int)) (bif(!decide ((YC6 a0 i5)=(YC6 b1 i5)))then(chk (0<=i5/\i5< (a0.size:Int)) (chk (0<=i5/\i5< (b1.size:Int)) (YH2 (q124 lo (YIl .i64 (YC6 a0 i5)) (YIl .i64 (YC6 b1 i5))) fun y512=>some (.inr (.inl y512)))))else(some (.inl (a0,b1,(YIl .i64 (i5+1))))))))else(some (.inr (.inr (a0,b1)))))else(some (.inr (.inr (a0,b1))))
def Yhd(lo:Lo):ByteArray×ByteArray×Int->Option (Int⊕ (ByteArray×ByteArray)):=lo.run (YcV lo)
def YA4(lo:Lo):LpE:=⟨3,[],(Zsg [0,1,5] [.s,.s,.j] []),[⟨.ret,(Zsg [4] [.j] [])⟩,⟨.exit 0,(Zsg [0,1] [.s,.s] [])⟩],Yhd lo⟩
def YA5(lo:Lo):LL:=(YA4 lo,.loop q125_L3_b.er)::[]
theorem YA6(lo:Lo):Lk lo pf (YFz lo) 0 (YA5 lo):=.l .n (YcV lo)
def q125(lo:Lo)(a0:ByteArray)(b1:ByteArray):Option Int:=
  YH2 (Yhd lo (a0,b1,(0:Int))) fun y513=>alt2 y513 (fun y514=>some y514) (fun y515=>YH2 (q124 lo (y515.1.size:Int) (y515.2.size:Int)) fun y516=>some y516)
def YA7:VFn:=⟨true,39,[.t 4],
 (Rg [oK 4 0]
 (.seq (Rg [oK 5 0]
 (.blk 0 (.loop 3 q125_L3_b)))
 (Rg [oM 34 0,o 35 (.lenS 34),oM 36 1,o 37 (.lenS 36),oC 38 303 [35,37],oM 4 38]
 (Fr 4))))⟩
def Yon(lo:Lo):FnE:=Zfe 320 true (Zsg [0,1] [.s,.s] []) (.i .i64) [] (fun x=>q125 lo x.1 x.2:ByteArray×ByteArray->Option Int)
noncomputable def YFZ(lo:Lo):List FnE:=Yon lo::YFz lo
theorem YA8(h:GZ P fm YFz lo)(t:Ti P fm 320 YA7):GZ P fm YFZ lo:=
  h.p (Yon lo) (YA6 lo) t
def q126(lo:Lo)(a0_0:Int)(a0_1:Int)(a0_2:ByteArray)(b1_0:Int)(b1_1:Int)(b1_2:ByteArray):Option Int:=
  YH2 (q124 lo a0_0 b1_0) fun y510=>bif(!decide (y510=0))then(some y510)else(YH2 (q124 lo a0_1 b1_1) fun y511=>bif(!decide (y511=0))then(some y511)else(YH2 (q125 lo a0_2 b1_2) fun y517=>some y517))
def YA9:VFn:=⟨true,28,[.t 4],
 (Rg [oG 2 0,oG 3 1,oK 4 0]
 (.seq (Rg [oF 7 0 2,oL 8 7,oF 9 0 3,oL 10 9,oC 11 303 [8,10],oM 5 11]
 (Rg [oM 12 5,oR 13 .neq 12 (k 0)]
 (.cond 13 (Rg [oM 14 5,oM 4 14]
 (Fr 4))
 .skip)))
 (.seq (Rg [oF 15 1 2,oL 16 15,oF 17 1 3,oL 18 17,oC 19 303 [16,18],oM 6 19]
 (Rg [oM 20 6,oR 21 .neq 20 (k 0)]
 (.cond 21 (Rg [oM 22 6,oM 4 22]
 (Fr 4))
 .skip)))
 (Rg [oF 23 2 2,oL 24 23,oF 25 2 3,oL 26 25,oC 27 320 [24,26],oM 4 27]
 (Fr 4)))))⟩
def Yoo(lo:Lo):FnE:=Zfe 302 true (Zsg [0,1] [.ag [.j,.j,.s],.ag [.j,.j,.s]] []) (.i .i64) [] (fun x=>q126 lo x.1 x.2.1 x.2.2.1 x.2.2.2.1 x.2.2.2.2.1 x.2.2.2.2.2:Int×Int×ByteArray×Int×Int×ByteArray->Option Int)
noncomputable def YF0(lo:Lo):List FnE:=Yoo lo::YFZ lo
theorem YBa(h:GZ P fm YFZ lo)(t:Ti P fm 302 YA9):GZ P fm YF0 lo:=
  h.p (Yoo lo) .n t
def q127(lo:Lo)(a0_0:ByteArray)(a0_1:Int)(a0_2:Int)(a0_3:ByteArray)(b1_0:ByteArray)(b1_1:Int)(b1_2:Int)(b1_3:ByteArray):Option Bool:=
  bif(decide (a0_0=b1_0))then(YH2 (q126 lo a0_1 a0_2 a0_3 b1_1 b1_2 b1_3) fun y518=>some (decide (y518=0)))else(some false)
def YBb:VFn:=⟨true,18,[.t 4],
 (Rg [oG 2 0,oG 3 1,oB 4 false]
 (Rg [oF 5 0 2,oL 6 5,oF 7 0 3,oL 8 7,oR 9 .eql 6 8,oM 10 9,gT 11 10 (.fad 1 2),gT 12 10 (.load true 3 11),gT 13 10 (.fad 1 3),gT 14 10 (.load true 3 13),gT 15 10 (.call 302 [12,14]),gT 16 10 (.bin .eql 15 (k 0)),oP 17 10 16 (kb false),oM 4 17]
 (Fr 4)))⟩
def Yop(lo:Lo):FnE:=Zfe 524 true (Zsg [0,1] [.ag [.s,.j,.j,.s],.ag [.s,.j,.j,.s]] []) .b [] (fun x=>q127 lo x.1 x.2.1 x.2.2.1 x.2.2.2.1 x.2.2.2.2.1 x.2.2.2.2.2.1 x.2.2.2.2.2.2.1 x.2.2.2.2.2.2.2:ByteArray×Int×Int×ByteArray×ByteArray×Int×Int×ByteArray->Option Bool)
noncomputable def YF1(lo:Lo):List FnE:=Yop lo::YF0 lo
theorem YBc(h:GZ P fm YF0 lo)(t:Ti P fm 524 YBb):GZ P fm YF1 lo:=
  h.p (Yop lo) .n t
def q128(lo:Lo)(b0_0:List ByteArray)(b0_1:List Zp67)(t1_0:ByteArray)(t1_1:Int)(t1_2:Int)(t1_3:ByteArray)(u2_0:ByteArray)(u2_1:Int)(u2_2:Int)(u2_3:ByteArray):Option (Zt3×Zt4×Bool):=
  bif(decide (t1_0=(YIk #[])))then(YH2 (q127 lo t1_0 t1_1 t1_2 t1_3 u2_0 u2_1 u2_2 u2_3) fun y519=>some (b0_0,b0_1,y519))else(YH2 (q104 lo b0_0 t1_0) fun y520=>bif(decide (0<=y520))then(chk (0<=y520/\y520< (b0_1.length:Int)) (YH2 (q127 lo ((b0_1.getD y520.toNat Zd0).1) ((b0_1.getD y520.toNat Zd0).2.1) ((b0_1.getD y520.toNat Zd0).2.2.1) ((b0_1.getD y520.toNat Zd0).2.2.2) u2_0 u2_1 u2_2 u2_3) fun y521=>some (b0_0,b0_1,y521)))else(chk (b0_0.length<=maxEl) (chk (b0_0.length+[t1_0].length<=maxEl) (chk (b0_1.length<=maxEl) (chk (b0_1.length+([(u2_0,u2_1,u2_2,u2_3)]).length<=maxEl) (some ((b0_0++[t1_0]),(b0_1++([(u2_0,u2_1,u2_2,u2_3)])),true)))))))
def YBd:VFn:=⟨true,47,[.c 6 true 2,.t 7],
 (Rg [oG 3 0,oG 4 1,oG 5 2,o 6 (.alloc [.e (cs [.s]),.e Zc11]),oB 7 false]
 (.seq (Rg [oF 9 0 4,oL 10 9,oR 11 .eql 10 (ks (⟨#[]⟩))]
 (.cond 11 (Rg [oT 12 2 3,oT 13 4 4,oT 14 4 5,oC 15 524 [13,14],oS 2 6 12,oM 7 15]
 (.fz [6,7] .ret))
 .skip))
 (Rg [oF 16 0 3,oL 17 16,oF 18 0 4,oL 19 18,oC 20 272 [17,19],oM 8 20]
 (.seq (Rg [oM 21 8,oR 22 .geq 21 (k 0)]
 (.cond 22 (Rg [oT 23 2 3,oF 24 1 3,oL 25 24,oM 26 8,oI 27 4 25 26,oT 28 4 27,oT 29 4 5,oC 30 524 [28,29],oS 2 6 23,oM 7 30]
 (.fz [6,7] .ret))
 .skip))
 (Rg [o 31 (.bsl (cs [.s]) 0 []),oF 32 0 3,oL 33 32,⟨some 34,.app (cs [.s]) 0 31 33,none,false,true⟩,oF 35 0 4,⟨some 36,.load false 1 35,none,true,false⟩,o 37 (.bsl (cs [.s]) 1 [(0,36)]),⟨some 38,.app (cs [.s]) 0 34 37,none,false,true⟩,o 39 (.bsl Zc11 0 []),oF 40 1 3,⟨some 41,.load false 1 40,none,true,false⟩,⟨some 42,.app Zc11 0 39 41,none,false,true⟩,⟨some 43,.load true 4 5,none,true,false⟩,o 44 (.bsl Zc11 1 [(0,43)]),o 45 (.app Zc11 0 42 44),o 46 (.build [.e (cs [.s]),.e Zc11] [(0,1,38),(1,1,45)]),oS 2 6 46,oB 7 true]
 (.fz [6,7] .ret))))))⟩
def Yoq(lo:Lo):FnE:=Zfe 547 true (Zsg [0,1,2] [.ag [.l (cs [.s]),.l Zc11],.ag [.s,.j,.j,.s],.ag [.s,.j,.j,.s]] []) (.tp [.ag [.l (cs [.s]),.l Zc11],.b]) [] (fun x=>q128 lo x.1 x.2.1 x.2.2.1 x.2.2.2.1 x.2.2.2.2.1 x.2.2.2.2.2.1 x.2.2.2.2.2.2.1 x.2.2.2.2.2.2.2.1 x.2.2.2.2.2.2.2.2.1 x.2.2.2.2.2.2.2.2.2:Zt3×Zt4×ByteArray×Int×Int×ByteArray×ByteArray×Int×Int×ByteArray->Option (Zt3×Zt4×Bool))
noncomputable def YFA(lo:Lo):List FnE:=Yoq lo::YF1 lo
theorem YBe(h:GZ P fm YF1 lo)(t:Ti P fm 547 YBd):GZ P fm YFA lo:=
  h.p (Yoq lo) .n t
def q129_L3_b:VCode:=
 (.seq (Rg [oM 17 9,oM 18 2,oN 19 18,oR 20 .lss 17 19,oM 21 20,gT 22 21 (.mv 8),oP 23 21 22 (kb false)]
 (Ce 23 0))
 (.seq (.blk 1 (.reg [oT 27 2 3,oF 28 1 4,oL 29 28,oM 30 9,oI 31 4 29 30,oT 32 4 31,oM 33 2,oM 34 9,oI 35 4 33 34,oT 36 4 35,oC 37 547 [27,32,36],oM 26 37,oE 38 26 0,oE 39 26 1,oS 2 3 38,oM 8 39]))
 (.reg [oM 24 9,oR 25 .add 24 (k 1),oM 9 25])))
def YcW(lo:Lo):Zp48->Option (Zp48⊕ ((Bool×Zt3×Zt4×Zt3×Zt4))):=fun x=>match x with
  | (l2,ok8,i9,b3_0,b3_1,a4_0,a4_1,v6_0,v6_1)=>bif(decide (i9< (l2.length:Int)))then(bif ok8 then(chk (0<=i9/\i9< (a4_1.length:Int)) (chk (0<=i9/\i9< (l2.length:Int)) (YH2 (q128 lo b3_0 b3_1 ((a4_1.getD i9.toNat Zd0).1) ((a4_1.getD i9.toNat Zd0).2.1) ((a4_1.getD i9.toNat Zd0).2.2.1) ((a4_1.getD i9.toNat Zd0).2.2.2) ((l2.getD i9.toNat Zd0).1) ((l2.getD i9.toNat Zd0).2.1) ((l2.getD i9.toNat Zd0).2.2.1) ((l2.getD i9.toNat Zd0).2.2.2)) fun y522=>some (.inl (l2,y522.2.2,(YIl .i64 (i9+1)),y522.1,y522.2.1,a4_0,a4_1,v6_0,v6_1)))))else(some (.inr (ok8,b3_0,b3_1,v6_0,v6_1))))else(some (.inr (ok8,b3_0,b3_1,v6_0,v6_1)))
def YcX(lo:Lo):Zp48->Option ((Bool×Zt3×Zt4×Zt3×Zt4)):=lo.run (YcW lo)
def YBf(lo:Lo):LpE:=⟨3,[],(Zsg [2,3,4,6,8,9] [.l Zc11,.ptr 0 0 0,.ptr 1 0 0,.ptr 2 0 0,.b,.j] [.st [.l (cs [.s]),.l Zc11],.st [.s,.l Zc11],.st [.l (cs [.s]),.l Zc11]]),[⟨.exit 0,(Zsg [3,6,8] [.ptr 0 0 0,.ptr 1 0 0,.b] [.st [.l (cs [.s]),.l Zc11],.st [.l (cs [.s]),.l Zc11]])⟩],YcX lo⟩
def YBg(lo:Lo):LL:=(YBf lo,.loop q129_L3_b.er)::[]
theorem YBh(lo:Lo):Lk lo pf (YFA lo) 0 (YBg lo):=.l .n (YcW lo)
def q129(lo:Lo)(b0_0:List ByteArray)(b0_1:List Zp67)(a1_0:ByteArray)(a1_1:List Zp67)(l2:List Zp67):Option (Zt3×Zt4×Bool):=
  bif(!decide ((a1_1.length:Int)=(l2.length:Int)))then(some (b0_0,b0_1,false))else(YH2 (YcX lo (l2,true,(0:Int),b0_0,b0_1,a1_0,a1_1,([]:List ByteArray),([]:List Zp67))) fun y523=>some (y523.2.1,y523.2.2.1,y523.1))
def YBi:VFn:=⟨true,42,[.c 6 true 2,.t 7],
 (Rg [oG 3 0,oG 4 1,o 6 (.alloc [.e (cs [.s]),.e Zc11]),oB 7 false]
 (.seq (Rg [oF 10 1 4,oL 11 10,oN 12 11,oM 13 2,oN 14 13,oR 15 .neq 12 14]
 (.cond 15 (Rg [oT 16 2 3,oS 2 6 16,oB 7 false]
 (.fz [6,7] .ret))
 .skip))
 (Rg [oB 8 true]
 (.seq (Rg [oK 9 0]
 (.blk 0 (.loop 3 q129_L3_b)))
 (Rg [oT 40 2 3,oM 41 8,oS 2 6 40,oM 7 41]
 (.fz [6,7] .ret))))))⟩
def Yor(lo:Lo):FnE:=Zfe 526 true (Zsg [0,1,2] [.ag [.l (cs [.s]),.l Zc11],.ag [.s,.l Zc11],.l Zc11] []) (.tp [.ag [.l (cs [.s]),.l Zc11],.b]) [] (fun x=>q129 lo x.1 x.2.1 x.2.2.1 x.2.2.2.1 x.2.2.2.2:Zt3×Zt4×ByteArray×Zt4×Zt4->Option (Zt3×Zt4×Bool))
noncomputable def YFB(lo:Lo):List FnE:=Yor lo::YFA lo
theorem YBj(h:GZ P fm YFA lo)(t:Ti P fm 526 YBi):GZ P fm YFB lo:=
  h.p (Yor lo) (YBh lo) t
end Go.Abs.G47
namespace Go.Abs.G47
open Go Go.Abs
set_option maxRecDepth 100000
set_option maxHeartbeats 1000000
variable{P:Program}{fm:FM}{lo:Lo}
def Yos(F:Zp66->Option (Zt16)):FnE:=⟨516,true,(Zsg [0,1,2] [.ag [.l Zc6],.l Zc7,.ag [.l (cs [I]),.l (cs [.s]),.l Zc11]] []),.l Zc20,[],(cs [.l Zc20]),F⟩
def q130_L3_b:VCode:=
 (.seq (Rg [oM 28 9,oF 29 2 7,oL 30 29,oN 31 30,oR 32 .lss 28 31]
 (Ce 32 0))
 (.seq (.blk 1 (Rg [oF 36 1 5,⟨some 37,.load true 2 36,none,true,false⟩,oM 38 1,⟨some 39,.iad 2 38 (k 0),none,true,false⟩,⟨some 40,.load true 2 39,none,true,false⟩,oF 41 2 7,⟨some 42,.load false 1 41,none,true,false⟩,oM 43 9,⟨some 44,.iad 2 42 43,none,true,false⟩,⟨some 45,.load true 2 44,none,true,false⟩,⟨some 46,.call 544 [45],none,true,false⟩,⟨some 47,.call 526 [37,40,46],none,true,false⟩,oM 35 47,oE 48 35 0,oE 49 35 1,o 10 (.alloc [.e (cs [.s]),.e Zc11]),oS 2 10 48,oM 11 49]
 (Rg [oM 50 11]
 (.cond 50 (.reg [oM 51 8,⟨some 52,.load true 1 3,none,true,false⟩,oM 53 1,o 54 (.slcR 2 53 (some (k 1)) none),o 55 (.bsl (cs [I]) 0 []),oF 56 0 5,oL 57 56,⟨some 58,.app (cs [I]) 0 55 57,none,false,true⟩,oF 59 2 7,⟨some 60,.load false 1 59,none,true,false⟩,oM 61 9,⟨some 62,.iad 2 60 61,none,true,false⟩,oF 63 0 62,⟨some 64,.load false 1 63,none,true,false⟩,o 65 (.bsl (cs [I]) 1 [(0,64)]),⟨some 66,.appD (cs [I]) 58 65,none,false,true⟩,⟨some 67,.load true 2 10,none,true,false⟩,o 68 (.build [.e (cs [I]),.e (cs [.s]),.e Zc11] [(0,1,66),(1,2,67)]),oC 69 516 [52,54,68],o 70 (.app Zc20 0 51 69),oM 8 70])
 .skip))))
 (.reg [oM 33 9,oR 34 .add 33 (k 1),oM 9 34])))
def Yb5(lo:Lo)(rec:Zp66->Option (Zt16)):Zp43->Option (Zp43⊕ ((Zt16))):=fun x=>match x with
  | (l1,i9,db3,w5_0,w5_1,w5_2,t7_0,t7_1,t7_2,out8)=>bif(decide (i9< (t7_2.length:Int)))then(chk (0<=(0:Int)/\ (0:Int)< (l1.length:Int)) (chk (0<=i9/\i9< (t7_2.length:Int)) (YH2 (q123 lo ((t7_2.getD i9.toNat ((0:Int),[])).1) ((t7_2.getD i9.toNat ((0:Int),[])).2)) fun y509=>YH2 (q129 lo w5_1 w5_2 ((l1.getD 0 ((YIk #[]),[])).1) ((l1.getD 0 ((YIk #[]),[])).2) y509) fun y524=>bif y524.2.2 then(chk (0<=(1:Int)/\ (1:Int)<=(l1.length:Int)/\ (l1.length:Int)<=(l1.length:Int)) (chk (w5_0.length<=maxEl) (chk (0<=i9/\i9< (t7_2.length:Int)) (chk (w5_0.length+([(t7_2.getD i9.toNat ((0:Int),[])).1]).length<=maxEl) (YH2 (rec (db3,((l1.take (l1.length:Int).toNat).drop 1),(w5_0++([(t7_2.getD i9.toNat ((0:Int),[])).1])),y524.1,y524.2.1)) fun y525=>chk (out8.length+y525.length<=maxEl) (some (.inl (l1,(YIl .i64 (i9+1)),db3,w5_0,w5_1,w5_2,t7_0,t7_1,t7_2,(out8++y525)))))))))else(some (.inl (l1,(YIl .i64 (i9+1)),db3,w5_0,w5_1,w5_2,t7_0,t7_1,t7_2,out8))))))else(some (.inr out8))
def YcY(lo:Lo)(rec:Zp66->Option (Zt16)):Zp43->Option ((Zt16)):=lo.run (Yb5 lo rec)
def YBk(lo:Lo)(rec:Zp66->Option (Zt16)):LpE:=⟨3,[(8,none,false)],(Zsg [1,3,5,7,8,9] [.l Zc7,.ptr 0 0 0,.ptr 1 0 0,.ptr 2 0 0,.ref 3,.j] [.st [.l Zc6],.st [.l (cs [I]),.l (cs [.s]),.l Zc11],.st [.s,.l (cs [.s]),.l Zc15],.sq Zc20]),[⟨.exit 0,(Zsg [8] [.ref 0] [.sq Zc20])⟩],YcY lo rec⟩
def Yot(lo:Lo)(rec:Zp66->Option (Zt16)):LL:=(YBk lo rec,.loop q130_L3_b.er)::[]
theorem YBl(lo:Lo)(rec:Zp66->Option (Zt16)):Lk lo pf (Yos rec::YFB lo) 0 (Yot lo rec):=.l .n (Yb5 lo rec)
def YeE(lo:Lo)(rec:Zp66->Option (Zt16))(db0:List (ByteArray×Zt3×Zt12))(l1:List (ByteArray×Zt4))(w2_0:List Int)(w2_1:List ByteArray)(w2_2:List Zp67):Option (Zt16):=
  bif(decide ((l1.length:Int)=0))then(some ([(w2_0,w2_1,w2_2)]))else(chk (0<=(0:Int)/\ (0:Int)< (l1.length:Int)) (YH2 (q109 lo db0 ((l1.getD 0 ((YIk #[]),[])).1)) fun y507=>chk (0<=y507/\y507< (db0.length:Int)) (YH2 (YcY lo rec (l1,(0:Int),db0,w2_0,w2_1,w2_2,(db0.getD y507.toNat ((YIk #[]),[],[])).1,(db0.getD y507.toNat ((YIk #[]),[],[])).2.1,(db0.getD y507.toNat ((YIk #[]),[],[])).2.2,[])) fun y526=>some y526)))
def Ya9(lo:Lo):Nat->Zt1×Zt0× (List Int)×Zt3×Zt4->Option (Zt16)
  |0,_=>none
  |n+1,x=>YeE lo (Ya9 lo n) x.1 x.2.1 x.2.2.1 x.2.2.2.1 x.2.2.2.2
def q130(lo:Lo)(db0:List (ByteArray×Zt3×Zt12))(l1:List (ByteArray×Zt4))(w2_0:List Int)(w2_1:List ByteArray)(w2_2:List Zp67):Option (Zt16):=lo.run (fixS (Ya9 lo)) (0,(db0,l1,w2_0,w2_1,w2_2))
def YBm:VFn:=⟨true,72,[.t 6],
 (Rg [oG 3 0,oG 5 2,o 6 (.mv (ke Zc20))]
 (.seq (Rg [oM 12 1,oN 13 12,oR 14 .eql 13 (k 0)]
 (.cond 14 (Rg [oT 15 3 5,o 16 (.bsl Zc20 1 [(0,15)]),oM 6 16]
 (Fr 6))
 .skip))
 (Rg [oF 17 0 3,⟨some 18,.load false 1 17,none,true,false⟩,oF 19 0 3,⟨some 20,.load false 1 19,none,true,false⟩,oM 21 1,⟨some 22,.iad 2 21 (k 0),none,true,false⟩,oF 23 0 22,⟨some 24,.load false 1 23,none,true,false⟩,⟨some 25,.call 507 [20,24],none,true,false⟩,⟨some 26,.iad 3 18 25,none,true,false⟩,⟨some 27,.load true 3 26,none,true,false⟩,o 7 (.alloc [.s (⟨#[]⟩),.e (cs [.s]),.e Zc15]),oS 3 7 27]
 (Rg [o 8 (.mv (ke Zc20))]
 (.seq (Rg [oK 9 0]
 (.blk 0 (.loop 3 q130_L3_b)))
 (Rg [oM 71 8,oM 6 71]
 (Fr 6)))))))⟩
def You(lo:Lo):FnE:=Yos (fun x=>q130 lo x.1 x.2.1 x.2.2.1 x.2.2.2.1 x.2.2.2.2)
noncomputable def YF2(lo:Lo):List FnE:=You lo::YFB lo
theorem YBn(h:GZ P fm YFB lo)(t:Ti P fm 516 YBm):GZ P fm YF2 lo:=
  h.pr (You lo) (Ya9 lo) (ls:=fun rec=>Yot lo rec) (fun rec=>(YBl lo rec)) t (by kernel_rfl) (fun _=>rfl) rfl (fun _=>by kernel_rfl) fun n x=>by kernel_rfl
def q131(lo:Lo)(b0_0:List ByteArray)(b0_1:List Zp67)(name1:ByteArray):Option Zp67:=
  YH2 (q104 lo b0_0 name1) fun y528=>bif(decide (y528<0))then(some Zd0)else(chk (0<=y528/\y528< (b0_1.length:Int)) (some ((b0_1.getD y528.toNat Zd0).1,(b0_1.getD y528.toNat Zd0).2.1,(b0_1.getD y528.toNat Zd0).2.2.1,(b0_1.getD y528.toNat Zd0).2.2.2)))
def YBo:VFn:=⟨true,18,[.c 4 true 4],
 (Rg [oG 2 0,o 4 (.alloc [.s (⟨#[]⟩),.i .i64 0,.i .i64 0,.s (⟨#[]⟩)])]
 (Rg [oF 6 0 2,oL 7 6,oM 8 1,oC 9 272 [7,8],oM 5 9]
 (.seq (Rg [oM 10 5,oR 11 .lss 10 (k 0)]
 (.cond 11 (Rg [o 12 (.build [.s (⟨#[]⟩),.i .i64 0,.i .i64 0,.s (⟨#[]⟩)] []),oS 4 4 12]
 (Fr 4))
 .skip))
 (Rg [oF 13 1 2,oL 14 13,oM 15 5,oI 16 4 14 15,oT 17 4 16,oS 4 4 17]
 (Fr 4)))))⟩
def Yov(lo:Lo):FnE:=Zfe 525 true (Zsg [0,1] [.ag [.l (cs [.s]),.l Zc11],.s] []) (.ag [.s,.j,.j,.s]) [] (fun x=>q131 lo x.1 x.2.1 x.2.2:Zt3×Zt4×ByteArray->Option Zp67)
noncomputable def YFC(lo:Lo):List FnE:=Yov lo::YF2 lo
theorem YBp(h:GZ P fm YF2 lo)(t:Ti P fm 525 YBo):GZ P fm YFC lo:=
  h.p (Yov lo) .n t
def q132_L3_b:VCode:=
 (.seq (Rg [oM 7 6,oF 8 0 2,oL 9 8,oN 10 9,oR 11 .lss 7 10]
 (Ce 11 0))
 (.seq (.blk 1 (.reg [oM 14 5,oF 15 1 3,oT 16 2 15,oF 17 0 2,oL 18 17,oM 19 6,oI 20 1 18 19,oL 21 20,oC 22 525 [16,21],o 23 (.fld true 1 3 22),o 24 (.bsl Zc10 1 [(0,23)]),o 25 (.app Zc10 0 14 24),oM 5 25]))
 (.reg [oM 12 6,oR 13 .add 12 (k 1),oM 6 13])))
def YeF(lo:Lo):Zp57->Option (Zp57⊕ ((Zt2))):=fun x=>match x with
  | (i6,q2_0,q2_1,w3_0,w3_1,w3_2,out5)=>bif(decide (i6< (q2_0.length:Int)))then(chk (0<=i6/\i6< (q2_0.length:Int)) (YH2 (q131 lo w3_1 w3_2 (q2_0.getD i6.toNat (YIk #[]))) fun y529=>chk (out5.length+[y529.2].length<=maxEl) (some (.inl ((YIl .i64 (i6+1)),q2_0,q2_1,w3_0,w3_1,w3_2,(out5++[y529.2]))))))else(some (.inr out5))
def Yhe(lo:Lo):Zp57->Option ((Zt2)):=lo.run (YeF lo)
def YBq(lo:Lo):LpE:=⟨3,[(5,none,false)],(Zsg [2,3,5,6] [.ptr 0 0 0,.ptr 1 0 0,.ref 2,.j] [.st [.l (cs [.s]),.l Zc7],.st [.l (cs [I]),.l (cs [.s]),.l Zc11],.sq Zc10]),[⟨.exit 0,(Zsg [5] [.ref 0] [.sq Zc10])⟩],Yhe lo⟩
def YBr(lo:Lo):LL:=(YBq lo,.loop q132_L3_b.er)::[]
theorem YBs(lo:Lo):Lk lo pf (YFC lo) 0 (YBr lo):=.l .n (YeF lo)
def q132(lo:Lo)(q0_0:List ByteArray)(q0_1:List (ByteArray×Zt4))(w1_0:List Int)(w1_1:List ByteArray)(w1_2:List Zp67):Option (Zt2):=
  YH2 (Yhe lo ((0:Int),q0_0,q0_1,w1_0,w1_1,w1_2,[])) fun y530=>some y530
def YBt:VFn:=⟨true,27,[.t 4],
 (Rg [oG 2 0,oG 3 1,o 4 (.mv (ke Zc10))]
 (Rg [o 5 (.mv (ke Zc10))]
 (.seq (Rg [oK 6 0]
 (.blk 0 (.loop 3 q132_L3_b)))
 (Rg [oM 26 5,oM 4 26]
 (Fr 4)))))⟩
def Yow(lo:Lo):FnE:=Zfe 517 true (Zsg [0,1] [.ag [.l (cs [.s]),.l Zc7],.ag [.l (cs [I]),.l (cs [.s]),.l Zc11]] []) (.l Zc10) [] (fun x=>q132 lo x.1 x.2.1 x.2.2.1 x.2.2.2.1 x.2.2.2.2:Zt3×Zt0× (List Int)×Zt3×Zt4->Option (Zt2))
noncomputable def YFD(lo:Lo):List FnE:=Yow lo::YFC lo
theorem YBu(h:GZ P fm YFC lo)(t:Ti P fm 517 YBt):GZ P fm YFD lo:=
  h.p (Yow lo) (YBs lo) t
def q133_L3_b:VCode:=
 (.seq (Rg [oM 7 5,oM 8 0,oN 9 8,oR 10 .lss 7 9,oM 11 10,gT 12 11 (.mv 5),gT 13 11 (.mv 1),gT 14 11 (.len 13),gT 15 11 (.bin .lss 12 14),oP 16 11 15 (kb false)]
 (Ce 16 0))
 (.seq (.blk 1 (Rg [oM 19 0,oM 20 5,oI 21 3 19 20,oT 22 3 21,oM 23 1,oM 24 5,oI 25 3 23 24,oT 26 3 25,oC 27 302 [22,26],oM 6 27]
 (Rg [oM 28 6,oR 29 .neq 28 (k 0)]
 (.cond 29 (Rg [oM 30 6,oM 4 30]
 (Fr 4))
 .skip))))
 (.reg [oM 17 5,oR 18 .add 17 (k 1),oM 5 18])))
def YcZ(lo:Lo):Zt2×Zt2×Int->Option ((Zt2×Zt2×Int)⊕ (Int⊕ (Zt2×Zt2))):=fun x=>match x with
  | (a0,b1,i5)=>bif(decide (i5< (a0.length:Int)))then(bif(decide (i5< (b1.length:Int)))then(chk (0<=i5/\i5< (a0.length:Int)) (chk (0<=i5/\i5< (b1.length:Int)) (YH2 (q126 lo ((a0.getD i5.toNat Zd1).1) ((a0.getD i5.toNat Zd1).2.1) ((a0.getD i5.toNat Zd1).2.2) ((b1.getD i5.toNat Zd1).1) ((b1.getD i5.toNat Zd1).2.1) ((b1.getD i5.toNat Zd1).2.2)) fun y532=>bif(!decide (y532=0))then(some (.inr (.inl y532)))else(some (.inl (a0,b1,(YIl .i64 (i5+1))))))))else(some (.inr (.inr (a0,b1)))))else(some (.inr (.inr (a0,b1))))
def Yhf(lo:Lo):Zt2×Zt2×Int->Option (Int⊕ (Zt2×Zt2)):=lo.run (YcZ lo)
def YBv(lo:Lo):LpE:=⟨3,[],(Zsg [0,1,5] [.l Zc10,.l Zc10,.j] []),[⟨.ret,(Zsg [4] [.j] [])⟩,⟨.exit 0,(Zsg [0,1] [.l Zc10,.l Zc10] [])⟩],Yhf lo⟩
def YBw(lo:Lo):LL:=(YBv lo,.loop q133_L3_b.er)::[]
theorem YBx(lo:Lo):Lk lo pf (YFD lo) 0 (YBw lo):=.l .n (YcZ lo)
def q133(lo:Lo)(a0:List (Int×Int×ByteArray))(b1:List (Int×Int×ByteArray)):Option Int:=
  YH2 (Yhf lo (a0,b1,(0:Int))) fun y533=>alt2 y533 (fun y534=>some y534) (fun y535=>YH2 (q124 lo (y535.1.length:Int) (y535.2.length:Int)) fun y536=>some y536)
def YBy:VFn:=⟨true,36,[.t 4],
 (Rg [oK 4 0]
 (.seq (Rg [oK 5 0]
 (.blk 0 (.loop 3 q133_L3_b)))
 (Rg [oM 31 0,oN 32 31,oM 33 1,oN 34 33,oC 35 303 [32,34],oM 4 35]
 (Fr 4))))⟩
def Yox(lo:Lo):FnE:=Zfe 274 true (Zsg [0,1] [.l Zc10,.l Zc10] []) (.i .i64) [] (fun x=>q133 lo x.1 x.2:Zt2×Zt2->Option Int)
noncomputable def YF3(lo:Lo):List FnE:=Yox lo::YFD lo
theorem YBz(h:GZ P fm YFD lo)(t:Ti P fm 274 YBy):GZ P fm YF3 lo:=
  h.p (Yox lo) (YBx lo) t
def q134(lo:Lo)(a0:List (Int×Int×ByteArray))(b1:List (Int×Int×ByteArray)):Option Bool:=
  YH2 (q133 lo a0 b1) fun y537=>some (decide (y537=0))
def YBA:VFn:=⟨true,9,[.t 4],
 (Rg [oB 4 false]
 (Rg [oM 5 0,oM 6 1,oC 7 274 [5,6],oR 8 .eql 7 (k 0),oM 4 8]
 (Fr 4)))⟩
def Yoy(lo:Lo):FnE:=Zfe 297 true (Zsg [0,1] [.l Zc10,.l Zc10] []) .b [] (fun x=>q134 lo x.1 x.2:Zt2×Zt2->Option Bool)
noncomputable def YFE(lo:Lo):List FnE:=Yoy lo::YF3 lo
theorem YBB(h:GZ P fm YF3 lo)(t:Ti P fm 297 YBA):GZ P fm YFE lo:=
  h.p (Yoy lo) .n t
def q135_L3_b:VCode:=
 (.seq (Rg [oM 6 5,oM 7 0,oN 8 7,oR 9 .lss 6 8]
 (Ce 9 0))
 (.seq (.blk 1 (Rg [oM 12 0,oM 13 5,oI 14 1 12 13,oL 15 14,oM 16 1,oC 17 297 [15,16]]
 (.cond 17 (Rg [oB 4 true]
 (Fr 4))
 .skip)))
 (.reg [oM 10 5,oR 11 .add 10 (k 1),oM 5 11])))
def YeG(lo:Lo):Zt24×Zt2×Int->Option ((Zt24×Zt2×Int)⊕ (Bool⊕Unit)):=fun x=>match x with
  | (l0,v1,i5)=>bif(decide (i5< (l0.length:Int)))then(chk (0<=i5/\i5< (l0.length:Int)) (YH2 (q134 lo (l0.getD i5.toNat []) v1) fun y538=>bif y538 then(some (.inr (.inl true)))else(some (.inl (l0,v1,(YIl .i64 (i5+1)))))))else(some (.inr (.inr ())))
def Yhg(lo:Lo):Zt24×Zt2×Int->Option (Bool⊕Unit):=lo.run (YeG lo)
def YBC(lo:Lo):LpE:=⟨3,[],(Zsg [0,1,5] [.l Zc23,.l Zc10,.j] []),[⟨.ret,(Zsg [4] [.b] [])⟩,⟨.exit 0,(Zsg [] [] [])⟩],Yhg lo⟩
def YBD(lo:Lo):LL:=(YBC lo,.loop q135_L3_b.er)::[]
theorem YBE(lo:Lo):Lk lo pf (YFE lo) 0 (YBD lo):=.l .n (YeG lo)
def q135(lo:Lo)(l0:List (Zt2))(v1:List (Int×Int×ByteArray)):Option Bool:=
  YH2 (Yhg lo (l0,v1,(0:Int))) fun y539=>alt2 y539 (fun y540=>some y540) (fun y541=>some false)
def YBF:VFn:=⟨true,18,[.t 4],
 (Rg [oB 4 false]
 (.seq (Rg [oK 5 0]
 (.blk 0 (.loop 3 q135_L3_b)))
 (Rg [oB 4 false]
 (Fr 4))))⟩
def Yoz(lo:Lo):FnE:=Zfe 518 true (Zsg [0,1] [.l Zc23,.l Zc10] []) .b [] (fun x=>q135 lo x.1 x.2:Zt24×Zt2->Option Bool)
noncomputable def YE5(lo:Lo):List FnE:=Yoz lo::YFE lo
theorem YBG(h:GZ P fm YFE lo)(t:Ti P fm 518 YBF):GZ P fm YE5 lo:=
  h.p (Yoz lo) (YBE lo) t
def q136_L8_b:VCode:=
 (.seq (Rg [oM 45 11,oR 46 .gtr 45 (k 0),oM 47 46,gT 48 47 (.mv 8),gT 49 47 (.mv 11),gT 50 47 (.iad 1 48 49),gT 51 47 (.load false 1 50),gT 52 47 (.mv 8),gT 53 47 (.mv 11),gT 54 47 (.bin .sub 53 (k 1)),gT 55 47 (.iad 1 52 54),gT 56 47 (.load false 1 55),gT 57 47 (.call 274 [51,56]),gT 58 47 (.bin .lss 57 (k 0)),oP 59 47 58 (kb false)]
 (Ce 59 2))
 (.seq (.blk 3 (.reg [oM 62 8,oM 63 11,oM 64 8,oM 65 11,oR 66 .sub 65 (k 1),oM 67 8,oM 68 11,oR 69 .sub 68 (k 1),oI 70 1 67 69,oL 71 70,oM 72 8,oM 73 11,oI 74 1 72 73,oL 75 74,oI 76 1 62 63,oS 1 76 71,oI 77 1 64 66,oS 1 77 75]))
 (.reg [oM 60 11,oR 61 .sub 60 (k 1),oM 11 61])))
def YeH(lo:Lo):Zt16×Int×Int×Zt3×Zt0×Zt24->Option ((Zt16×Int×Int×Zt3×Zt0×Zt24)⊕ ((Zt16×Int×Zt3×Zt0×Zt24))):=fun x=>match x with
  | (l7,i9,k11,q3_0,q3_1,out8)=>bif(decide (0<k11))then(chk (0<=k11/\k11< (out8.length:Int)) (chk (0<=(YIl .i64 (k11-1))/\ (YIl .i64 (k11-1))< (out8.length:Int)) (YH2 (q133 lo (out8.getD k11.toNat []) (out8.getD ((YIl .i64 (k11-1)).toNat) [])) fun y543=>bif(decide (y543<0))then(chk (0<=(YIl .i64 (k11-1))/\ (YIl .i64 (k11-1))< (out8.length:Int)) (chk (0<=k11/\k11< (out8.length:Int)) (chk (0<=k11/\k11< (out8.length:Int)) (chk (0<=(YIl .i64 (k11-1))/\ (YIl .i64 (k11-1))< ((out8.set k11.toNat (out8.getD ((YIl .i64 (k11-1)).toNat) [])).length:Int)) (some (.inl (l7,i9,(YIl .i64 (k11-1)),q3_0,q3_1,((out8.set k11.toNat (out8.getD ((YIl .i64 (k11-1)).toNat) [])).set ((YIl .i64 (k11-1)).toNat) (out8.getD k11.toNat [])))))))))else(some (.inr (l7,i9,q3_0,q3_1,out8))))))else(some (.inr (l7,i9,q3_0,q3_1,out8)))
def Yhh(lo:Lo):Zt16×Int×Int×Zt3×Zt0×Zt24->Option ((Zt16×Int×Zt3×Zt0×Zt24)):=lo.run (YeH lo)
def YBH(lo:Lo):LpE:=⟨8,[],(Zsg [3,7,8,9,11] [.ptr 0 0 0,.l Zc20,.ref 1,.j,.j] [.st [.l (cs [.s]),.l Zc7],.sq Zc23]),[⟨.exit 2,(Zsg [3,7,8,9] [.ptr 0 0 0,.l Zc20,.ref 1,.j] [.st [.l (cs [.s]),.l Zc7],.sq Zc23])⟩],Yhh lo⟩
def YoA(lo:Lo):LL:=(YBH lo,.loop q136_L8_b.er)::[]
theorem YBI(lo:Lo):Lk lo pf (YE5 lo) 0 (YoA lo):=.l .n (YeH lo)
def q136_L6_b:VCode:=
 (.seq (Rg [oM 23 9,oM 24 7,oN 25 24,oR 26 .lss 23 25]
 (Ce 26 0))
 (.seq (.blk 1 (Rg [oT 29 2 3,oM 30 7,oM 31 9,oI 32 3 30 31,oT 33 3 32,oC 34 517 [29,33],oM 10 34]
 (.seq (Rg [oM 35 8,oM 36 10,oC 37 518 [35,36]]
 (.cond 37 (.exit 1)
 .skip))
 (Rg [oM 38 8,oM 39 10,o 40 (.bsl Zc23 1 [(0,39)]),o 41 (.app Zc23 0 38 40),oM 8 41]
 (Rg [oM 42 8,oN 43 42,oR 44 .sub 43 (k 1),oM 11 44]
 (.blk 2 (.loop 8 q136_L8_b)))))))
 (.reg [oM 27 9,oR 28 .add 27 (k 1),oM 9 28])))
def YeI(lo:Lo):Zt16×Int×Zt3×Zt0×Zt24->Option ((Zt16×Int×Zt3×Zt0×Zt24)⊕ ((Zt24))):=fun x=>match x with
  | (l7,i9,q3_0,q3_1,out8)=>bif(decide (i9< (l7.length:Int)))then(chk (0<=i9/\i9< (l7.length:Int)) (YH2 (q132 lo q3_0 q3_1 ((l7.getD i9.toNat ([],[],[])).1) ((l7.getD i9.toNat ([],[],[])).2.1) ((l7.getD i9.toNat ([],[],[])).2.2)) fun y531=>YH2 (q135 lo out8 y531) fun y542=>bif y542 then(some (.inl (l7,(YIl .i64 (i9+1)),q3_0,q3_1,out8)))else(chk (out8.length+[y531].length<=maxEl) (YH2 (Yhh lo (l7,i9,(YIl .i64 (((out8++[y531]).length:Int)-(1:Int))),q3_0,q3_1,(out8++[y531]))) fun y544=>some (.inl (y544.1,(YIl .i64 (y544.2.1+(1:Int))),y544.2.2.1,y544.2.2.2.1,y544.2.2.2.2))))))else(some (.inr out8))
def Yhi(lo:Lo):Zt16×Int×Zt3×Zt0×Zt24->Option ((Zt24)):=lo.run (YeI lo)
def YBJ(lo:Lo):LpE:=⟨6,[(8,none,false)],(Zsg [3,7,8,9] [.ptr 0 0 0,.l Zc20,.ref 1,.j] [.st [.l (cs [.s]),.l Zc7],.sq Zc23]),[⟨.exit 0,(Zsg [8] [.ref 0] [.sq Zc23])⟩],Yhi lo⟩
def YBK(lo:Lo):LL:=(YBJ lo,.loop q136_L6_b.er)::YoA lo
theorem YBL(lo:Lo):Lk lo pf (YE5 lo) 0 (YBK lo):=.l (YBI lo) (YeI lo)
def q136(lo:Lo)(db0:List (ByteArray×Zt3×Zt12))(q1_0:List ByteArray)(q1_1:List (ByteArray×Zt4)):Option (Zt24×Int):=
  YH2 (q115 lo db0 q1_0 q1_1) fun y506=>bif(!decide (y506=0))then(some (([]:List (Zt2)),y506))else(YH2 (q130 lo db0 q1_1 ([]:List Int) ([]:List ByteArray) ([]:List Zp67)) fun y527=>YH2 (Yhi lo (y527,(0:Int),q1_0,q1_1,[])) fun y545=>bif(decide ((10000:Int)< (y545.length:Int)))then(some (([]:List (Zt2)),(3:Int)))else(some (y545,(0:Int))))
def YBM:VFn:=⟨true,82,[.t 4,.t 5],
 (Rg [oG 2 0,oG 3 1,o 4 (.mv (ke Zc23)),oK 5 0]
 (.seq (Rg [oT 12 1 2,oT 13 2 3,oC 14 473 [12,13],oM 6 14]
 (Rg [oM 15 6,oR 16 .neq 15 (k 0)]
 (.cond 16 (Rg [oM 17 6,o 4 (.mv (ke Zc23)),oM 5 17]
 (.fz [4,5] .ret))
 .skip)))
 (Rg [oT 18 1 2,oF 19 1 3,oL 20 19,o 21 (.build [.e (cs [I]),.e (cs [.s]),.e Zc11] []),oC 22 516 [18,20,21],oM 7 22]
 (Rg [o 8 (.mv (ke Zc23))]
 (.seq (Rg [oK 9 0]
 (.blk 0 (.loop 6 q136_L6_b)))
 (.seq (Rg [oM 78 8,oN 79 78,oR 80 .gtr 79 (k 10000)]
 (.cond 80 (Rg [o 4 (.mv (ke Zc23)),oK 5 3]
 (.fz [4,5] .ret))
 .skip))
 (Rg [oM 81 8,oM 4 81,oK 5 0]
 (.fz [4,5] .ret))))))))⟩
def YoB(lo:Lo):FnE:=Zfe 477 true (Zsg [0,1] [.ag [.l Zc6],.ag [.l (cs [.s]),.l Zc7]] []) (.tp [.l Zc23,.j]) [] (fun x=>q136 lo x.1 x.2.1 x.2.2:Zt1×Zt3×Zt0->Option (Zt24×Int))
noncomputable def YFF(lo:Lo):List FnE:=YoB lo::YE5 lo
theorem YBN(h:GZ P fm YE5 lo)(t:Ti P fm 477 YBM):GZ P fm YFF lo:=
  h.p (YoB lo) (YBL lo) t
def q137_L3_b:VCode:=
 (.seq (Rg [oM 11 5,oM 12 0,oN 13 12,oR 14 .lss 11 13]
 (Ce 14 0))
 (.seq (.blk 1 (Rg [oM 17 0,oM 18 5,oI 19 1 17 18,oL 20 19,oM 21 1,oM 22 5,oI 23 1 21 22,oL 24 23,oC 25 297 [20,24],oX 26 25]
 (.cond 26 (Rg [oB 4 false]
 (Fr 4))
 .skip)))
 (.reg [oM 15 5,oR 16 .add 15 (k 1),oM 5 16])))
def YeJ(lo:Lo):Zt24×Zt24×Int->Option ((Zt24×Zt24×Int)⊕ (Bool⊕Unit)):=fun x=>match x with
  | (a0,b1,i5)=>bif(decide (i5< (a0.length:Int)))then(chk (0<=i5/\i5< (a0.length:Int)) (chk (0<=i5/\i5< (b1.length:Int)) (YH2 (q134 lo (a0.getD i5.toNat []) (b1.getD i5.toNat [])) fun y547=>bif(!y547)then(some (.inr (.inl false)))else(some (.inl (a0,b1,(YIl .i64 (i5+1))))))))else(some (.inr (.inr ())))
def Yhj(lo:Lo):Zt24×Zt24×Int->Option (Bool⊕Unit):=lo.run (YeJ lo)
def YBO(lo:Lo):LpE:=⟨3,[],(Zsg [0,1,5] [.l Zc23,.l Zc23,.j] []),[⟨.ret,(Zsg [4] [.b] [])⟩,⟨.exit 0,(Zsg [] [] [])⟩],Yhj lo⟩
def YBP(lo:Lo):LL:=(YBO lo,.loop q137_L3_b.er)::[]
theorem YBQ(lo:Lo):Lk lo pf (YFF lo) 0 (YBP lo):=.l .n (YeJ lo)
def q137(lo:Lo)(a0:List (Zt2))(b1:List (Zt2)):Option Bool:=
  bif(!decide ((a0.length:Int)=(b1.length:Int)))then(some false)else(YH2 (Yhj lo (a0,b1,(0:Int))) fun y548=>alt2 y548 (fun y549=>some y549) (fun y550=>some true))
def YBR:VFn:=⟨true,27,[.t 4],
 (Rg [oB 4 false]
 (.seq (Rg [oM 6 0,oN 7 6,oM 8 1,oN 9 8,oR 10 .neq 7 9]
 (.cond 10 (Rg [oB 4 false]
 (Fr 4))
 .skip))
 (.seq (Rg [oK 5 0]
 (.blk 0 (.loop 3 q137_L3_b)))
 (Rg [oB 4 true]
 (Fr 4)))))⟩
def YoC(lo:Lo):FnE:=Zfe 478 true (Zsg [0,1] [.l Zc23,.l Zc23] []) .b [] (fun x=>q137 lo x.1 x.2:Zt24×Zt24->Option Bool)
noncomputable def YF4(lo:Lo):List FnE:=YoC lo::YFF lo
theorem YBS(h:GZ P fm YFF lo)(t:Ti P fm 478 YBR):GZ P fm YF4 lo:=
  h.p (YoC lo) (YBQ lo) t
noncomputable def q138(lo:Lo)(d0:List (Int×Int×Zt13))(x1_0:List Int)(x1_1:List (Int× (List Int))):Option Bool:=
  YH2 (q120 lo d0) fun y477=>YH2 (q122 lo y477.1 x1_0 x1_1) fun y500=>YH2 (q99 lo) fun y501=>bif(!y501)then(YH2 (q99 lo) fun y502=>some y502)else(bif(!y477.2)then(YH2 (q99 lo) fun y503=>some y503)else(bif(!y500.2.2)then(YH2 (q99 lo) fun y504=>some y504)else(YH2 (q66 lo y477.1 y500.1 y500.2.1) fun y505=>YH2 (q136 lo y477.1 y500.1 y500.2.1) fun y546=>bif(decide (y505.2=y546.2))then(YH2 (q137 lo y505.1 y546.1) fun y551=>some y551)else(some false))))
def YBT:VFn:=⟨true,55,[.t 4],
 (Rg [oG 3 1,oB 4 false]
 (Rg [oM 14 0,oC 15 474 [14],oM 13 15,oE 16 13 0,oE 17 13 1,o 5 (.alloc [.e Zc6]),oS 1 5 16,oM 6 17]
 (Rg [oT 19 1 5,oT 20 2 3,oC 21 475 [19,20],oM 18 21,oE 22 18 0,oE 23 18 1,o 7 (.alloc [.e (cs [.s]),.e Zc7]),oS 2 7 22,oM 8 23]
 (.seq (Rg [oC 24 469 [],oX 25 24,oM 26 25,gF 27 26 (.mv 6),gF 28 26 (.not 27),oP 29 26 (kb true) 28,oM 30 29,gF 31 30 (.mv 8),gF 32 30 (.not 31),oP 33 30 (kb true) 32]
 (.cond 33 (Rg [oC 34 469 [],oM 4 34]
 (Fr 4))
 .skip))
 (Rg [oT 36 1 5,oT 37 2 7,oC 38 476 [36,37],oM 35 38,oE 39 35 0,oE 40 35 1,oM 9 39,oM 10 40]
 (Rg [oT 42 1 5,oT 43 2 7,oC 44 477 [42,43],oM 41 44,oE 45 41 0,oE 46 41 1,oM 11 45,oM 12 46]
 (Rg [oM 47 10,oM 48 12,oR 49 .eql 47 48,oM 50 49,gT 51 50 (.mv 9),gT 52 50 (.mv 11),gT 53 50 (.call 478 [51,52]),oP 54 50 53 (kb false),oM 4 54]
 (Fr 4))))))))⟩
noncomputable def q138_f(lo:Lo):FnE:=Zfe 460 true (Zsg [0,1] [.l Zc27,.ag [.l Zc22,.l Zc25]] []) .b [] (fun x=>q138 lo x.1 x.2.1 x.2.2:Zt26× (List Int)×Zt21->Option Bool)
noncomputable def YGR(lo:Lo):List FnE:=q138_f lo::YF4 lo
theorem YBU(h:GZ P fm YF4 lo)(t:Ti P fm 460 YBT):GZ P fm YGR lo:=
  h.p (q138_f lo) .n t
end Go.Abs.G47
