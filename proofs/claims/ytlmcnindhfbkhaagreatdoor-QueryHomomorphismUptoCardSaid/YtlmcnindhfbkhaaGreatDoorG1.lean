/- Functions of the program as functions of data (written by program). No condition. -/
import Derived.Test.YtlmcnindhfbkhaaGreatDoorG
set_option linter.unusedVariables false
set_option linter.unusedSimpArgs false
set_option linter.unusedSectionVars false
open Option renaming bind → YEG
open ByteArray renaming mk → YE0
open Go.IntKind renaming wrap → YE1
namespace Go.Abs.G47
open Go Go.Abs
set_option maxRecDepth 100000
set_option maxHeartbeats 1000000
def q98_L3_b:VCode:=
 (.seq (.seq (.reg [oM 11 5,oM 12 0,oN 13 12,o 14 (.bin .lss (t 11) (t 13))])
 (.cond (t 14) .skip
 (.exit 0)))
 (.seq (.blk 1 (.seq (.reg [oM 17 0,oM 18 5,o 19 (.iad 1 (t 17) (t 18)),oL 20 19,oM 21 1,oM 22 5,o 23 (.iad 1 (t 21) (t 22)),oL 24 23,o 25 (.call 351 [(t 20),(t 24)]),o 26 (.not (t 25))])
 (.cond (t 26) (.seq (.reg [o 4 (.mv (kb false))])
 (.fz [4] .ret))
 .skip)))
 (.reg [oM 15 5,o 16 (.bin .add (t 15) (k 1)),oM 5 16])))
def YmP(lo:Lo):Zt13×Zt13×Int->Option ((Zt13×Zt13×Int)⊕ (Bool⊕Unit)):=fun x=>match x with
  | (a0,b1,i5)=>bif(decide (i5< (a0.length:Int)))then(chk (0<=i5/\i5< (a0.length:Int)) (chk (0<=i5/\i5< (b1.length:Int)) (YEG (q97 lo (a0.getD i5.toNat []) (b1.getD i5.toNat [])) fun y391=>bif(!y391)then(some (.inr (.inl false)))else(some (.inl (a0,b1,(YE1 .i64 (i5+(1:Int)))))))))else(some (.inr (.inr ())))
def YmQ(lo:Lo):Zt13×Zt13×Int->Option (Bool⊕Unit):=lo.run (YmP lo)
def YxD(lo:Lo):LpE:=⟨3,[],⟨[0,1,5],[.l Zc17,.l Zc17,.i .i64],[],(cs [.l Zc17,.l Zc17,I])⟩,[⟨.ret,⟨[4],[.b],[],(cs [.b])⟩⟩,⟨.exit 0,⟨[],[],[],(cs [])⟩⟩],YmQ lo⟩
def YxE(lo:Lo):LL:=(YxD lo,.loop q98_L3_b.er)::[]
theorem YxF(lo:Lo):Lk lo pf (fs98 lo) 0 (YxE lo):=.l .n (YmP lo) rfl (by kernel_rfl) fun x=>by kernel_rfl
def q98(lo:Lo)(a0:List ((List Int)))(b1:List ((List Int))):Option Bool:=
  bif(!decide ((a0.length:Int)=(b1.length:Int)))then(some false)else(YEG (YmQ lo (a0,b1,(0:Int))) fun y392=>alt2 y392 (fun y393=>some y393) (fun y394=>some true))
def YxG:VFn:=⟨true,27,[.t 4],
 (.seq (.reg [o 4 (.mv (kb false))])
 (.seq (.seq (.reg [oM 6 0,oN 7 6,oM 8 1,oN 9 8,o 10 (.bin .neq (t 7) (t 9))])
 (.cond (t 10) (.seq (.reg [o 4 (.mv (kb false))])
 (.fz [4] .ret))
 .skip))
 (.seq (.seq (.reg [o 5 (.mv (k 0))])
 (.blk 0 (.loop 3 q98_L3_b)))
 (.seq (.reg [o 4 (.mv (kb true))])
 (.fz [4] .ret)))))⟩
def YmR(lo:Lo):FnE:=⟨346,true,⟨[0,1],[.l Zc17,.l Zc17],[],(cs [.l Zc17,.l Zc17])⟩,.b,[],(cs [.b]),(fun x=>q98 lo x.1 x.2:Zt13×Zt13->Option Bool)⟩
noncomputable def fs99(lo:Lo):List FnE:=YmR lo::fs98 lo
theorem YxH{P:Program}{fm:FM}{lo:Lo}(h:GZ P fm fs98 lo)(t:Ti P fm 346 YxG):GZ P fm fs99 lo:=
  h.p (YmR lo) (YxF lo) t (by kernel_rfl) (by kernel_rfl) fun x=>by kernel_rfl
noncomputable def q99(lo:Lo):Option Bool:=
  YEG (q1 lo (1:Int) ([(1:Int),(2:Int)])) fun y2=>YEG (q1 lo (2:Int) ([(1:Int),(3:Int)])) fun y3=>YEG (q1 lo (3:Int) ([(2:Int),(3:Int)])) fun y4=>YEG (q1 lo (1:Int) ([(3:Int)])) fun y5=>YEG (q2 lo (YE0 #[120])) fun y6=>YEG (q2 lo (YE0 #[121])) fun y7=>YEG (q2 lo (YE0 #[121])) fun y8=>YEG (q66 lo ([((YE0 #[114]),[(YE0 #[97]),(YE0 #[98])],[y2,y3,y4]),((YE0 #[115]),[(YE0 #[99])],[y5])]) ([(YE0 #[120])]) ([((YE0 #[114]),[y6,y7]),((YE0 #[115]),[y8])])) fun y229=>YEG (q0 lo (2:Int)) fun y230=>YEG (q73 lo ([((YE0 #[114]),[(YE0 #[97]),(YE0 #[98])],[y2,y3,y4]),((YE0 #[115]),[(YE0 #[99])],[y5])]) ([(YE0 #[120])]) ([((YE0 #[114]),[y6,y7]),((YE0 #[115]),[y8])]) [y230.2]) fun y295=>YEG (q2 lo (YE0 #[120])) fun y296=>YEG (q2 lo (YE0 #[121])) fun y297=>YEG (q2 lo (YE0 #[120])) fun y298=>YEG (q2 lo (YE0 #[122])) fun y299=>YEG (q87 lo ([(YE0 #[120])]) ([((YE0 #[114]),[y296,y297]),((YE0 #[114]),[y298,y299])])) fun y369=>YEG (q96 lo y369.1 y369.2.1) fun y387=>bif(decide (y229.2=(0:Int)))then(bif(decide (y295.2=(0:Int)))then(bif(decide (y369.2.2=(0:Int)))then(bif(decide (y387.2=(0:Int)))then(bif(decide ((y229.1.length:Int)=(2:Int)))then(chk (0<=(1:Int)/\ (1:Int)< (y229.1.length:Int)) (chk (0<=(0:Int)/\ (0:Int)< ((y229.1.getD 1 []).length:Int)) (bif(decide (((y229.1.getD 1 []).getD 0 ((0:Int),(0:Int),(YE0 #[]))).2.1=(2:Int)))then(YEG (q98 lo y295.1 ([[(3:Int),(1:Int)]])) fun y395=>bif y395 then(bif(decide (y387.1=(YE0 #[40,120,41,32,58,32,114,40,120,44,32,122,41])))then(YEG (q86 lo ([(YE0 #[120])]) ([((YE0 #[114]),[y296,y297]),((YE0 #[114]),[y298,y299])]) y369.1 y369.2.1) fun y396=>bif y396 then(YEG (q86 lo y369.1 y369.2.1 ([(YE0 #[120])]) ([((YE0 #[114]),[y296,y297]),((YE0 #[114]),[y298,y299])])) fun y397=>some y397)else(some false))else(some false))else(some false))else(some false))))else(some false))else(some false))else(some false))else(some false))else(some false)
def YxI:VFn:=⟨true,129,[.t 0],
 (.seq (.reg [o 0 (.mv (kb false))])
 (.seq (.reg [o 1 (.mv (.c (.f 497)))])
 (.seq (.reg [o 14 (.bsl (cs [.s]) 2 [(0,(ks (⟨#[97]⟩))),(1,(ks (⟨#[98]⟩)))]),oM 15 1,o 16 (.bsl (cs [I]) 2 [(0,(k 1)),(1,(k 2))]),o 17 (.dyn (t 15) [(k 1),(t 16)]),oM 18 1,o 19 (.bsl (cs [I]) 2 [(0,(k 1)),(1,(k 3))]),o 20 (.dyn (t 18) [(k 2),(t 19)]),oM 21 1,o 22 (.bsl (cs [I]) 2 [(0,(k 2)),(1,(k 3))]),o 23 (.dyn (t 21) [(k 3),(t 22)]),o 24 (.bsl Zc18 3 [(0,(t 17)),(1,(t 20)),(2,(t 23))]),o 25 (.build [.s (⟨#[]⟩),.e (cs [.s]),.e Zc18] [(0,1,(ks (⟨#[114]⟩))),(1,1,(t 14)),(2,1,(t 24))]),o 26 (.bsl (cs [.s]) 1 [(0,(ks (⟨#[99]⟩)))]),oM 27 1,o 28 (.bsl (cs [I]) 1 [(0,(k 3))]),o 29 (.dyn (t 27) [(k 1),(t 28)]),o 30 (.bsl Zc18 1 [(0,(t 29))]),o 31 (.build [.s (⟨#[]⟩),.e (cs [.s]),.e Zc18] [(0,1,(ks (⟨#[115]⟩))),(1,1,(t 26)),(2,1,(t 30))]),o 32 (.bsl Zc3 2 [(0,(t 25)),(1,(t 31))]),o 33 (.build [.e Zc3] [(0,1,(t 32))]),o 2 (.alloc [.e Zc3]),on (.store 1 (t 2) (t 33))])
 (.seq (.reg [o 34 (.bsl (cs [.s]) 1 [(0,(ks (⟨#[120]⟩)))]),o 35 (.call 499 [(ks (⟨#[120]⟩))]),o 36 (.call 499 [(ks (⟨#[121]⟩))]),o 37 (.bsl Zc9 2 [(0,(t 35)),(1,(t 36))]),o 38 (.build [.s (⟨#[]⟩),.e Zc9] [(0,1,(ks (⟨#[114]⟩))),(1,1,(t 37))]),o 39 (.call 499 [(ks (⟨#[121]⟩))]),o 40 (.bsl Zc9 1 [(0,(t 39))]),o 41 (.build [.s (⟨#[]⟩),.e Zc9] [(0,1,(ks (⟨#[115]⟩))),(1,1,(t 40))]),o 42 (.bsl Zc2 2 [(0,(t 38)),(1,(t 41))]),o 43 (.build [.e (cs [.s]),.e Zc2] [(0,1,(t 34)),(1,1,(t 42))]),o 3 (.alloc [.e (cs [.s]),.e Zc2]),on (.store 2 (t 3) (t 43))])
 (.seq (.reg [o 45 (.load true 1 (t 2)),o 46 (.load true 2 (t 3)),o 47 (.call 476 [(t 45),(t 46)]),oM 44 47,oE 48 44 0,oE 49 44 1,oM 4 48,oM 5 49])
 (.seq (.reg [o 51 (.load true 1 (t 2)),o 52 (.load true 2 (t 3)),o 53 (.call 498 [(k 2)]),o 54 (.fld true 1 3 (t 53)),o 55 (.bsl Zc10 1 [(0,(t 54))]),o 56 (.call 495 [(t 51),(t 52),(t 55)]),oM 50 56,oE 57 50 0,oE 58 50 1,oM 6 57,oM 7 58])
 (.seq (.reg [o 59 (.bsl (cs [.s]) 1 [(0,(ks (⟨#[120]⟩)))]),o 60 (.call 499 [(ks (⟨#[120]⟩))]),o 61 (.call 499 [(ks (⟨#[121]⟩))]),o 62 (.bsl Zc9 2 [(0,(t 60)),(1,(t 61))]),o 63 (.build [.s (⟨#[]⟩),.e Zc9] [(0,1,(ks (⟨#[114]⟩))),(1,1,(t 62))]),o 64 (.call 499 [(ks (⟨#[120]⟩))]),o 65 (.call 499 [(ks (⟨#[122]⟩))]),o 66 (.bsl Zc9 2 [(0,(t 64)),(1,(t 65))]),o 67 (.build [.s (⟨#[]⟩),.e Zc9] [(0,1,(ks (⟨#[114]⟩))),(1,1,(t 66))]),o 68 (.bsl Zc2 2 [(0,(t 63)),(1,(t 67))]),o 69 (.build [.e (cs [.s]),.e Zc2] [(0,1,(t 59)),(1,1,(t 68))]),o 8 (.alloc [.e (cs [.s]),.e Zc2]),on (.store 2 (t 8) (t 69))])
 (.seq (.reg [o 71 (.load true 2 (t 8)),o 72 (.call 484 [(t 71)]),oM 70 72,oE 73 70 0,oE 74 70 1,o 9 (.alloc [.e (cs [.s]),.e Zc2]),on (.store 2 (t 9) (t 73)),oM 10 74])
 (.seq (.reg [o 76 (.load true 2 (t 9)),o 77 (.call 489 [(t 76)]),oM 75 77,oE 78 75 0,oE 79 75 1,oM 11 78,oM 12 79])
 (.seq (.reg [oM 80 5,o 81 (.bin .eql (t 80) (k 0)),oM 82 81,og 83 82 true (.mv (t 7)),og 84 82 true (.bin .eql (t 83) (k 0)),o 85 (.pick (t 82) (t 84) (kb false)),oM 86 85,og 87 86 true (.mv (t 10)),og 88 86 true (.bin .eql (t 87) (k 0)),o 89 (.pick (t 86) (t 88) (kb false)),oM 90 89,og 91 90 true (.mv (t 12)),og 92 90 true (.bin .eql (t 91) (k 0)),o 93 (.pick (t 90) (t 92) (kb false)),oM 13 93])
 (.seq (.reg [oM 94 13,oM 95 94,og 96 95 true (.mv (t 4)),og 97 95 true (.len (t 96)),og 98 95 true (.bin .eql (t 97) (k 2)),o 99 (.pick (t 95) (t 98) (kb false)),oM 100 99,og 101 100 true (.mv (t 4)),og 102 100 true (.iad 1 (t 101) (k 1)),og 103 100 true (.load false 1 (t 102)),og 104 100 true (.iad 3 (t 103) (k 0)),og 105 100 true (.fad 1 (t 104)),og 106 100 true (.load false 1 (t 105)),og 107 100 true (.bin .eql (t 106) (k 2)),o 108 (.pick (t 100) (t 107) (kb false)),oM 109 108,og 110 109 true (.mv (t 6)),og 111 109 true (.bsl (cs [I]) 2 [(0,(k 3)),(1,(k 1))]),og 112 109 true (.bsl Zc17 1 [(0,(t 111))]),og 113 109 true (.call 346 [(t 110),(t 112)]),o 114 (.pick (t 109) (t 113) (kb false)),oM 115 114,og 116 115 true (.mv (t 11)),og 117 115 true (.bin .eql (t 116) (ks (⟨#[40,120,41,32,58,32,114,40,120,44,32,122,41]⟩))),o 118 (.pick (t 115) (t 117) (kb false)),oM 119 118,og 120 119 true (.load true 2 (t 8)),og 121 119 true (.load true 2 (t 9)),og 122 119 true (.call 482 [(t 120),(t 121)]),o 123 (.pick (t 119) (t 122) (kb false)),oM 124 123,og 125 124 true (.load true 2 (t 9)),og 126 124 true (.load true 2 (t 8)),og 127 124 true (.call 482 [(t 125),(t 126)]),o 128 (.pick (t 124) (t 127) (kb false)),oM 0 128])
 (.fz [0] .ret))))))))))))⟩
noncomputable def YmS(lo:Lo):FnE:=⟨469,true,⟨[],[],[],(cs [])⟩,.b,[],(cs [.b]),(fun x=>q99 lo:Unit->Option Bool)⟩
noncomputable def YCS(lo:Lo):List FnE:=YmS lo::fs99 lo
theorem YxJ{P:Program}{fm:FM}{lo:Lo}(h:GZ P fm fs99 lo)(t:Ti P fm 469 YxI):GZ P fm YCS lo:=
  h.p (YmS lo) .n t (by kernel_rfl) (by kernel_rfl) fun x=>by kernel_rfl
noncomputable def YCk(lo:Lo):List FnE:=YCS lo
def q101_L3_b:VCode:=
 (.seq (.reg [o 19 (.bin .lss (t 18) (t 17))])
 (.seq (.cond (t 19) .skip
 (.exit 0))
 (.seq (.blk 1 (.seq (.reg [oM 20 18,o 21 (.iad 2 (t 16) (t 18)),o 22 (.load true 2 (t 21)),o 4 (.alloc [.s (⟨#[]⟩),.e Zc9]),oM 3 20,on (.store 2 (t 4) (t 22))])
 (.seq (.reg [oF 23 1 4,oL 24 23,oN 25 24,o 26 (.bin .gtr (t 25) (k 20)),oM 27 26,og 28 27 false (.mv (t 3)),og 29 27 false (.bin .gtr (t 28) (k 3)),og 30 27 false (.mv (t 29)),og 31 30 true (.fad 1 (t 4)),og 32 30 true (.load false 1 (t 31)),og 33 30 true (.len (t 32)),og 34 30 true (.bin .gtr (t 33) (k 1)),og 35 27 false (.pick (t 30) (t 34) (kb false)),o 36 (.pick (t 27) (kb true) (t 35))])
 (.cond (t 36) (.seq (.reg [o 2 (.mv (kb false))])
 (.fz [2] .ret))
 .skip))))
 (.reg [o 37 (.bin .add (t 18) (k 1)),oM 18 37]))))
def Yd5(lo:Lo):Zt0×Int×Int->Option ((Zt0×Int×Int)⊕ (Bool⊕Unit)):=fun x=>match x with
  | (v16,v17,v18)=>bif(decide (v18<v17))then(chk (0<=v18/\v18< (v16.length:Int)) (bif(decide ((20:Int)< (((v16.getD v18.toNat ((YE0 #[]),[])).2).length:Int)))then(some (.inr (.inl false)))else(bif(decide ((3:Int)<v18))then(bif(decide ((1:Int)< (((v16.getD v18.toNat ((YE0 #[]),[])).2).length:Int)))then(some (.inr (.inl false)))else(some (.inl (v16,v17,(YE1 .i64 (v18+(1:Int)))))))else(some (.inl (v16,v17,(YE1 .i64 (v18+(1:Int)))))))))else(some (.inr (.inr ())))
def YfZ(lo:Lo):Zt0×Int×Int->Option (Bool⊕Unit):=lo.run (Yd5 lo)
def YxK(lo:Lo):LpE:=⟨3,[],⟨[16,17,18],[.l Zc2,.i .i64,.i .i64],[],(cs [.l Zc2,I,I])⟩,[⟨.ret,⟨[2],[.b],[],(cs [.b])⟩⟩,⟨.exit 0,⟨[],[],[],(cs [])⟩⟩],YfZ lo⟩
def YxL(lo:Lo):LL:=(YxK lo,.loop q101_L3_b.er)::[]
theorem YxM(lo:Lo):Lk lo pf (YCk lo) 0 (YxL lo):=.l .n (Yd5 lo) rfl (by kernel_rfl) fun x=>by kernel_rfl
def q101(lo:Lo)(q0_0:List ByteArray)(q0_1:List (ByteArray×Zt4)):Option Bool:=
  bif(decide ((10:Int)< (q0_0.length:Int)))then(some false)else(bif(decide ((8:Int)< (q0_1.length:Int)))then(some false)else(YEG (YfZ lo (q0_1,(q0_1.length:Int),(0:Int))) fun y405=>alt2 y405 (fun y406=>some y406) (fun y407=>some true)))
def YxN:VFn:=⟨true,38,[.t 2],
 (.seq (.reg [o 1 (.box (t 0)),o 2 (.mv (kb false))])
 (.seq (.seq (.reg [oF 5 0 1,oL 6 5,oN 7 6,o 8 (.bin .gtr (t 7) (k 10)),oM 9 8,og 10 9 false (.fad 1 (t 1)),og 11 9 false (.load false 1 (t 10)),og 12 9 false (.len (t 11)),og 13 9 false (.bin .gtr (t 12) (k 8)),o 14 (.pick (t 9) (kb true) (t 13))])
 (.cond (t 14) (.seq (.reg [o 2 (.mv (kb false))])
 (.fz [2] .ret))
 .skip))
 (.seq (.seq (.reg [oF 15 1 1,oL 16 15,oN 17 16,o 18 (.mv (k 0))])
 (.blk 0 (.loop 3 q101_L3_b)))
 (.seq (.reg [o 2 (.mv (kb true))])
 (.fz [2] .ret)))))⟩
def YmT(lo:Lo):FnE:=⟨471,true,⟨[0],[.ag [.l (cs [.s]),.l Zc2]],[],Zc25⟩,.b,[],(cs [.b]),(fun x=>q101 lo x.1 x.2:Zt5×Zt0->Option Bool)⟩
noncomputable def YCl(lo:Lo):List FnE:=YmT lo::YCk lo
theorem YxO{P:Program}{fm:FM}{lo:Lo}(h:GZ P fm YCk lo)(t:Ti P fm 471 YxN):GZ P fm YCl lo:=
  h.p (YmT lo) (YxM lo) t (by kernel_rfl) (by kernel_rfl) fun x=>by kernel_rfl
def q102(lo:Lo)(c0:Int):Option Bool:=
  bif(decide ((97:Int)<=c0))then(bif(decide (c0<=(122:Int)))then(some true)else(bif(decide ((65:Int)<=c0))then(bif(decide (c0<=(90:Int)))then(some true)else(some (decide (c0=(95:Int)))))else(some (decide (c0=(95:Int))))))else(bif(decide ((65:Int)<=c0))then(bif(decide (c0<=(90:Int)))then(some true)else(some (decide (c0=(95:Int)))))else(some (decide (c0=(95:Int)))))
def YxP:VFn:=⟨true,21,[.t 2],
 (.seq (.reg [o 2 (.mv (kb false))])
 (.seq (.reg [oM 3 0,o 4 (.bin .geq (t 3) (ki .u8 97)),oM 5 4,og 6 5 true (.mv (t 0)),og 7 5 true (.bin .leq (t 6) (ki .u8 122)),o 8 (.pick (t 5) (t 7) (kb false)),oM 9 8,og 10 9 false (.mv (t 0)),og 11 9 false (.bin .geq (t 10) (ki .u8 65)),og 12 9 false (.mv (t 11)),og 13 12 true (.mv (t 0)),og 14 12 true (.bin .leq (t 13) (ki .u8 90)),og 15 9 false (.pick (t 12) (t 14) (kb false)),o 16 (.pick (t 9) (kb true) (t 15)),oM 17 16,og 18 17 false (.mv (t 0)),og 19 17 false (.bin .eql (t 18) (ki .u8 95)),o 20 (.pick (t 17) (kb true) (t 19)),oM 2 20])
 (.fz [2] .ret)))⟩
def YmU(lo:Lo):FnE:=⟨295,true,⟨[0],[.i .u8],[],Zc38⟩,.b,[],(cs [.b]),(fun x=>q102 lo x:Int->Option Bool)⟩
noncomputable def YB0(lo:Lo):List FnE:=YmU lo::YCl lo
theorem YxQ{P:Program}{fm:FM}{lo:Lo}(h:GZ P fm YCl lo)(t:Ti P fm 295 YxP):GZ P fm YB0 lo:=
  h.p (YmU lo) .n t (by kernel_rfl) (by kernel_rfl) fun x=>by kernel_rfl
def q103_L3_b:VCode:=
 (.seq (.seq (.reg [oM 22 3,oM 23 0,o 24 (.lenS (t 23)),o 25 (.bin .lss (t 22) (t 24))])
 (.cond (t 25) .skip
 (.exit 0)))
 (.seq (.blk 1 (.seq (.reg [oM 28 0,oM 29 3,o 30 (.idx (t 28) (t 29)),o 31 (.call 295 [(t 30)]),o 32 (.not (t 31)),oM 33 32,og 34 33 true (.mv (t 0)),og 35 33 true (.mv (t 3)),og 36 33 true (.idx (t 34) (t 35)),og 37 33 true (.bin .lss (t 36) (ki .u8 48)),og 38 33 true (.mv (t 37)),og 39 38 false (.mv (t 0)),og 40 38 false (.mv (t 3)),og 41 38 false (.idx (t 39) (t 40)),og 42 38 false (.bin .gtr (t 41) (ki .u8 57)),og 43 33 true (.pick (t 38) (kb true) (t 42)),o 44 (.pick (t 33) (t 43) (kb false))])
 (.cond (t 44) (.seq (.reg [o 2 (.mv (kb false))])
 (.fz [2] .ret))
 .skip)))
 (.reg [oM 26 3,o 27 (.bin .add (t 26) (k 1)),oM 3 27])))
def Yd6(lo:Lo):ByteArray×Int->Option ((ByteArray×Int)⊕ (Bool⊕Unit)):=fun x=>match x with
  | (s0,i3)=>bif(decide (i3< (s0.size:Int)))then(chk (0<=i3/\i3< (s0.size:Int)) (YEG (q102 lo (YzN s0 i3)) fun y412=>bif(!y412)then(chk (0<=i3/\i3< (s0.size:Int)) (bif(decide ((YzN s0 i3)< (48:Int)))then(some (.inr (.inl false)))else(chk (0<=i3/\i3< (s0.size:Int)) (bif(decide ((57:Int)< (YzN s0 i3)))then(some (.inr (.inl false)))else(some (.inl (s0,(YE1 .i64 (i3+(1:Int))))))))))else(some (.inl (s0,(YE1 .i64 (i3+(1:Int))))))))else(some (.inr (.inr ())))
def Yf0(lo:Lo):ByteArray×Int->Option (Bool⊕Unit):=lo.run (Yd6 lo)
def YxR(lo:Lo):LpE:=⟨3,[],⟨[0,3],[.s,.i .i64],[],(cs [.s,I])⟩,[⟨.ret,⟨[2],[.b],[],(cs [.b])⟩⟩,⟨.exit 0,⟨[],[],[],(cs [])⟩⟩],Yf0 lo⟩
def YxS(lo:Lo):LL:=(YxR lo,.loop q103_L3_b.er)::[]
theorem YxT(lo:Lo):Lk lo pf (YB0 lo) 0 (YxS lo):=.l .n (Yd6 lo) rfl (by kernel_rfl) fun x=>by kernel_rfl
def q103(lo:Lo)(s0:ByteArray):Option Bool:=
  bif(decide ((s0.size:Int)=(0:Int)))then(some false)else(bif(decide ((24:Int)< (s0.size:Int)))then(some false)else(chk (0<=(0:Int)/\ (0:Int)< (s0.size:Int)) (YEG (q102 lo (YzN s0 (0:Int))) fun y411=>bif(!y411)then(some false)else(bif(decide (s0=(YE0 #[110,117,108,108])))then(some false)else(YEG (Yf0 lo (s0,(0:Int))) fun y413=>alt2 y413 (fun y414=>some y414) (fun y415=>some true))))))
def YxU:VFn:=⟨true,45,[.t 2],
 (.seq (.reg [o 2 (.mv (kb false))])
 (.seq (.seq (.reg [oM 4 0,o 5 (.lenS (t 4)),o 6 (.bin .eql (t 5) (k 0)),oM 7 6,og 8 7 false (.mv (t 0)),og 9 7 false (.lenS (t 8)),og 10 7 false (.bin .gtr (t 9) (k 24)),o 11 (.pick (t 7) (kb true) (t 10)),oM 12 11,og 13 12 false (.mv (t 0)),og 14 12 false (.idx (t 13) (k 0)),og 15 12 false (.call 295 [(t 14)]),og 16 12 false (.not (t 15)),o 17 (.pick (t 12) (kb true) (t 16)),oM 18 17,og 19 18 false (.mv (t 0)),og 20 18 false (.bin .eql (t 19) (ks (⟨#[110,117,108,108]⟩))),o 21 (.pick (t 18) (kb true) (t 20))])
 (.cond (t 21) (.seq (.reg [o 2 (.mv (kb false))])
 (.fz [2] .ret))
 .skip))
 (.seq (.seq (.reg [o 3 (.mv (k 0))])
 (.blk 0 (.loop 3 q103_L3_b)))
 (.seq (.reg [o 2 (.mv (kb true))])
 (.fz [2] .ret)))))⟩
def YmV(lo:Lo):FnE:=⟨258,true,⟨[0],[.s],[],(cs [.s])⟩,.b,[],(cs [.b]),(fun x=>q103 lo x:ByteArray->Option Bool)⟩
noncomputable def YB1(lo:Lo):List FnE:=YmV lo::YB0 lo
theorem YxV{P:Program}{fm:FM}{lo:Lo}(h:GZ P fm YB0 lo)(t:Ti P fm 258 YxU):GZ P fm YB1 lo:=
  h.p (YmV lo) (YxT lo) t (by kernel_rfl) (by kernel_rfl) fun x=>by kernel_rfl
def q104_L3_b:VCode:=
 (.seq (.seq (.reg [oM 6 5,oM 7 0,oN 8 7,o 9 (.bin .lss (t 6) (t 8))])
 (.cond (t 9) .skip
 (.exit 0)))
 (.seq (.blk 1 (.seq (.reg [oM 12 0,oM 13 5,o 14 (.iad 1 (t 12) (t 13)),oL 15 14,oM 16 1,o 17 (.bin .eql (t 15) (t 16))])
 (.cond (t 17) (.seq (.reg [oM 18 5,oM 4 18])
 (.fz [4] .ret))
 .skip)))
 (.reg [oM 10 5,o 11 (.bin .add (t 10) (k 1)),oM 5 11])))
def Yd7(lo:Lo):Zt5×ByteArray×Int->Option ((Zt5×ByteArray×Int)⊕ (Int⊕Unit)):=fun x=>match x with
  | (l0,name1,i5)=>bif(decide (i5< (l0.length:Int)))then(chk (0<=i5/\i5< (l0.length:Int)) (bif(decide ((l0.getD i5.toNat (YE0 #[]))=name1))then(some (.inr (.inl i5)))else(some (.inl (l0,name1,(YE1 .i64 (i5+(1:Int))))))))else(some (.inr (.inr ())))
def Yf1(lo:Lo):Zt5×ByteArray×Int->Option (Int⊕Unit):=lo.run (Yd7 lo)
def YxW(lo:Lo):LpE:=⟨3,[],⟨[0,1,5],[.l (cs [.s]),.s,.i .i64],[],(cs [.l (cs [.s]),.s,I])⟩,[⟨.ret,⟨[4],[.i .i64],[],(cs [I])⟩⟩,⟨.exit 0,⟨[],[],[],(cs [])⟩⟩],Yf1 lo⟩
def YxX(lo:Lo):LL:=(YxW lo,.loop q104_L3_b.er)::[]
theorem YxY(lo:Lo):Lk lo pf (YB1 lo) 0 (YxX lo):=.l .n (Yd7 lo) rfl (by kernel_rfl) fun x=>by kernel_rfl
def q104(lo:Lo)(l0:List ByteArray)(name1:ByteArray):Option Int:=
  YEG (Yf1 lo (l0,name1,(0:Int))) fun y418=>alt2 y418 (fun y419=>some y419) (fun y420=>some (-1:Int))
def YxZ:VFn:=⟨true,19,[.t 4],
 (.seq (.reg [o 4 (.mv (k 0))])
 (.seq (.seq (.reg [o 5 (.mv (k 0))])
 (.blk 0 (.loop 3 q104_L3_b)))
 (.seq (.reg [o 4 (.mv (k (-1)))])
 (.fz [4] .ret))))⟩
def YmW(lo:Lo):FnE:=⟨272,true,⟨[0,1],[.l (cs [.s]),.s],[],(cs [.l (cs [.s]),.s])⟩,.i .i64,[],(cs [I]),(fun x=>q104 lo x.1 x.2:Zt5×ByteArray->Option Int)⟩
noncomputable def YCT(lo:Lo):List FnE:=YmW lo::YB1 lo
theorem Yx0{P:Program}{fm:FM}{lo:Lo}(h:GZ P fm YB1 lo)(t:Ti P fm 272 YxZ):GZ P fm YCT lo:=
  h.p (YmW lo) (YxY lo) t (by kernel_rfl) (by kernel_rfl) fun x=>by kernel_rfl
noncomputable def YCU(lo:Lo):List FnE:=YCT lo
def q106(lo:Lo)(v0_0:Int)(v0_1:Int)(v0_2:ByteArray):Option Bool:=
  bif(decide (v0_0=(0:Int)))then(bif(decide (v0_1=(0:Int)))then(some (decide (v0_2=(YE0 #[]))))else(some false))else(bif(decide (v0_0=(1:Int)))then(some (decide (v0_2=(YE0 #[]))))else(bif(decide (v0_0=(2:Int)))then(bif(decide (v0_1=(0:Int)))then(some (decide ((v0_2.size:Int)<=(200:Int))))else(some false))else(bif(decide (v0_0=(3:Int)))then(bif(decide ((1:Int)<=v0_1))then(some (decide (v0_2=(YE0 #[]))))else(some false))else(some false))))
def Yx1:VFn:=⟨true,44,[.t 2],
 (.seq (.reg [o 1 (.box (t 0)),o 2 (.mv (kb false))])
 (.seq (.seq (.reg [oF 3 0 1,oL 4 3])
 (.blk 0 (.seq (.reg [o 6 (.bin .eql (t 4) (k 0)),oM 5 6])
 (.cond (t 5) (.seq (.reg [oF 7 1 1,oL 8 7,o 9 (.bin .eql (t 8) (k 0)),oM 10 9,og 11 10 true (.fad 2 (t 1)),og 12 10 true (.load false 1 (t 11)),og 13 10 true (.bin .eql (t 12) (ks (⟨#[]⟩))),o 14 (.pick (t 10) (t 13) (kb false)),oM 2 14])
 (.fz [2] .ret))
 (.seq (.reg [o 16 (.bin .eql (t 4) (k 1)),oM 15 16])
 (.cond (t 15) (.seq (.reg [oF 17 2 1,oL 18 17,o 19 (.bin .eql (t 18) (ks (⟨#[]⟩))),oM 2 19])
 (.fz [2] .ret))
 (.seq (.reg [o 21 (.bin .eql (t 4) (k 2)),oM 20 21])
 (.cond (t 20) (.seq (.reg [oF 22 1 1,oL 23 22,o 24 (.bin .eql (t 23) (k 0)),oM 25 24,og 26 25 true (.fad 2 (t 1)),og 27 25 true (.load false 1 (t 26)),og 28 25 true (.lenS (t 27)),og 29 25 true (.bin .leq (t 28) (k 200)),o 30 (.pick (t 25) (t 29) (kb false)),oM 2 30])
 (.fz [2] .ret))
 .skip))))))))
 (.seq (.reg [oF 31 0 1,oL 32 31,o 33 (.bin .eql (t 32) (k 3)),oM 34 33,og 35 34 true (.fad 1 (t 1)),og 36 34 true (.load false 1 (t 35)),og 37 34 true (.bin .geq (t 36) (k 1)),o 38 (.pick (t 34) (t 37) (kb false)),oM 39 38,og 40 39 true (.fad 2 (t 1)),og 41 39 true (.load false 1 (t 40)),og 42 39 true (.bin .eql (t 41) (ks (⟨#[]⟩))),o 43 (.pick (t 39) (t 42) (kb false)),oM 2 43])
 (.fz [2] .ret))))⟩
def YmX(lo:Lo):FnE:=⟨284,true,⟨[0],[.ag [.i .i64,.i .i64,.s]],[],Zc10⟩,.b,[],(cs [.b]),(fun x=>q106 lo x.1 x.2.1 x.2.2:Int×Int×ByteArray->Option Bool)⟩
noncomputable def YCV(lo:Lo):List FnE:=YmX lo::YCU lo
theorem Yx2{P:Program}{fm:FM}{lo:Lo}(h:GZ P fm YCU lo)(t:Ti P fm 284 Yx1):GZ P fm YCV lo:=
  h.p (YmX lo) .n t (by kernel_rfl) (by kernel_rfl) fun x=>by kernel_rfl
noncomputable def YDe(lo:Lo):List FnE:=YCV lo
noncomputable def YDf(lo:Lo):List FnE:=YDe lo
noncomputable def YDg(lo:Lo):List FnE:=YDf lo
noncomputable def YCW(lo:Lo):List FnE:=YDg lo
def q111(lo:Lo)(t0_0:ByteArray)(t0_1:Int)(t0_2:Int)(t0_3:ByteArray):Option Bool:=
  bif(!decide (t0_0=(YE0 #[])))then(YEG (q103 lo t0_0) fun y444=>bif y444 then(some ((decide (t0_1=(0:Int)))&& ((decide (t0_2=(0:Int)))&& ((decide (t0_3=(YE0 #[])))&&true))))else(some false))else(YEG (q106 lo t0_1 t0_2 t0_3) fun y445=>some y445)
def Yx3:VFn:=⟨true,18,[.t 2],
 (.seq (.reg [o 1 (.box (t 0)),o 2 (.mv (kb false))])
 (.seq (.seq (.reg [oF 3 0 1,oL 4 3,o 5 (.bin .neq (t 4) (ks (⟨#[]⟩)))])
 (.cond (t 5) (.seq (.reg [oF 6 0 1,oL 7 6,o 8 (.call 258 [(t 7)]),oM 9 8,og 10 9 true (.fad 1 (t 1)),og 11 9 true (.load true 3 (t 10)),og 12 9 true (.build [.i .i64 0,.i .i64 0,.s (⟨#[]⟩)] []),og 13 9 true (.eqa false [1,1,2] (t 11) (t 12)),o 14 (.pick (t 9) (t 13) (kb false)),oM 2 14])
 (.fz [2] .ret))
 .skip))
 (.seq (.reg [oF 15 1 1,o 16 (.load true 3 (t 15)),o 17 (.call 284 [(t 16)]),oM 2 17])
 (.fz [2] .ret))))⟩
def YmY(lo:Lo):FnE:=⟨542,true,⟨[0],[.ag [.s,.i .i64,.i .i64,.s]],[],Zc9⟩,.b,[],(cs [.b]),(fun x=>q111 lo x.1 x.2.1 x.2.2.1 x.2.2.2:Zp78->Option Bool)⟩
noncomputable def YB2(lo:Lo):List FnE:=YmY lo::YCW lo
theorem Yx4{P:Program}{fm:FM}{lo:Lo}(h:GZ P fm YCW lo)(t:Ti P fm 542 Yx3):GZ P fm YB2 lo:=
  h.p (YmY lo) .n t (by kernel_rfl) (by kernel_rfl) fun x=>by kernel_rfl
def q112_L3_b:VCode:=
 (.seq (.seq (.reg [oM 4 3,oF 5 1 1,oL 6 5,oN 7 6,o 8 (.bin .lss (t 4) (t 7))])
 (.cond (t 8) .skip
 (.exit 0)))
 (.seq (.blk 1 (.seq (.reg [oF 11 1 1,oL 12 11,oM 13 3,o 14 (.iad 4 (t 12) (t 13)),o 15 (.load true 4 (t 14)),o 16 (.call 542 [(t 15)]),o 17 (.not (t 16))])
 (.cond (t 17) (.seq (.reg [o 2 (.mv (kb false))])
 (.fz [2] .ret))
 .skip)))
 (.reg [oM 9 3,o 10 (.bin .add (t 9) (k 1)),oM 3 10])))
def Yd8(lo:Lo):Int×ByteArray×Zt4->Option ((Int×ByteArray×Zt4)⊕ (Bool⊕Unit)):=fun x=>match x with
  | (i3,a1_0,a1_1)=>bif(decide (i3< (a1_1.length:Int)))then(chk (0<=i3/\i3< (a1_1.length:Int)) (YEG (q111 lo ((a1_1.getD i3.toNat ((YE0 #[]),(0:Int),(0:Int),(YE0 #[]))).1) ((a1_1.getD i3.toNat ((YE0 #[]),(0:Int),(0:Int),(YE0 #[]))).2.1) ((a1_1.getD i3.toNat ((YE0 #[]),(0:Int),(0:Int),(YE0 #[]))).2.2.1) ((a1_1.getD i3.toNat ((YE0 #[]),(0:Int),(0:Int),(YE0 #[]))).2.2.2)) fun y446=>bif(!y446)then(some (.inr (.inl false)))else(some (.inl ((YE1 .i64 (i3+(1:Int))),a1_0,a1_1)))))else(some (.inr (.inr ())))
def Yf2(lo:Lo):Int×ByteArray×Zt4->Option (Bool⊕Unit):=lo.run (Yd8 lo)
def Yx5(lo:Lo):LpE:=⟨3,[],⟨[1,3],[.ptr 0 0 0,.i .i64],[.st [.s,.l Zc9]],(cs [I,.s,.l Zc9])⟩,[⟨.ret,⟨[2],[.b],[],(cs [.b])⟩⟩,⟨.exit 0,⟨[],[],[],(cs [])⟩⟩],Yf2 lo⟩
def Yx6(lo:Lo):LL:=(Yx5 lo,.loop q112_L3_b.er)::[]
theorem Yx7(lo:Lo):Lk lo pf (YB2 lo) 0 (Yx6 lo):=.l .n (Yd8 lo) rfl (by kernel_rfl) fun x=>by kernel_rfl
def q112(lo:Lo)(a0_0:ByteArray)(a0_1:List Zp78):Option Bool:=
  YEG (Yf2 lo ((0:Int),a0_0,a0_1)) fun y447=>alt2 y447 (fun y448=>some y448) (fun y449=>some true)
def Yx8:VFn:=⟨true,18,[.t 2],
 (.seq (.reg [o 1 (.box (t 0)),o 2 (.mv (kb false))])
 (.seq (.seq (.reg [o 3 (.mv (k 0))])
 (.blk 0 (.loop 3 q112_L3_b)))
 (.seq (.reg [o 2 (.mv (kb true))])
 (.fz [2] .ret))))⟩
def YmZ(lo:Lo):FnE:=⟨508,true,⟨[0],[.ag [.s,.l Zc9]],[],Zc2⟩,.b,[],(cs [.b]),(fun x=>q112 lo x.1 x.2:ByteArray×Zt4->Option Bool)⟩
noncomputable def YBG(lo:Lo):List FnE:=YmZ lo::YB2 lo
theorem Yx9{P:Program}{fm:FM}{lo:Lo}(h:GZ P fm YB2 lo)(t:Ti P fm 508 Yx8):GZ P fm YBG lo:=
  h.p (YmZ lo) (Yx7 lo) t (by kernel_rfl) (by kernel_rfl) fun x=>by kernel_rfl
end Go.Abs.G47
namespace Go.Abs.G47
open Go Go.Abs
set_option maxRecDepth 100000
set_option maxHeartbeats 1000000
def q113_L5_b:VCode:=
 (.seq (.seq (.reg [oM 13 5,oM 14 0,oM 15 4,o 16 (.iad 2 (t 14) (t 15)),oF 17 1 16,oL 18 17,oN 19 18,o 20 (.bin .lss (t 13) (t 19))])
 (.cond (t 20) .skip
 (.exit 2)))
 (.seq (.blk 3 (.seq (.reg [oM 23 0,oM 24 4,o 25 (.iad 2 (t 23) (t 24)),oF 26 1 25,oL 27 26,oM 28 5,o 29 (.iad 4 (t 27) (t 28)),oF 30 0 29,oL 31 30,oM 6 31])
 (.seq (.reg [oM 32 6,o 33 (.bin .neq (t 32) (ks (⟨#[]⟩))),oM 34 33,og 35 34 true (.mv (t 3)),og 36 34 true (.mv (t 6)),og 37 34 true (.call 272 [(t 35),(t 36)]),og 38 34 true (.bin .lss (t 37) (k 0)),o 39 (.pick (t 34) (t 38) (kb false))])
 (.cond (t 39) (.reg [oM 40 3,oM 41 6,o 42 (.bsl (cs [.s]) 1 [(0,(t 41))]),o 43 (.app (cs [.s]) 0 (t 40) (t 42)),oM 3 43])
 .skip))))
 (.reg [oM 21 5,o 22 (.bin .add (t 21) (k 1)),oM 5 22])))
def Yd9(lo:Lo):Zt0×Int×Int×Zt5->Option ((Zt0×Int×Int×Zt5)⊕ ((Zt0×Int×Zt5))):=fun x=>match x with
  | (l0,i4,k5,out3)=>chk (0<=i4/\i4< (l0.length:Int)) (bif(decide (k5< (((l0.getD i4.toNat ((YE0 #[]),[])).2).length:Int)))then(chk (0<=i4/\i4< (l0.length:Int)) (chk (0<=k5/\k5< (((l0.getD i4.toNat ((YE0 #[]),[])).2).length:Int)) (bif(!decide ((((l0.getD i4.toNat ((YE0 #[]),[])).2).getD k5.toNat ((YE0 #[]),(0:Int),(0:Int),(YE0 #[]))).1=(YE0 #[])))then(YEG (q104 lo out3 ((((l0.getD i4.toNat ((YE0 #[]),[])).2).getD k5.toNat ((YE0 #[]),(0:Int),(0:Int),(YE0 #[]))).1)) fun y454=>bif(decide (y454< (0:Int)))then(chk (out3.length+([(((l0.getD i4.toNat ((YE0 #[]),[])).2).getD k5.toNat ((YE0 #[]),(0:Int),(0:Int),(YE0 #[]))).1]).length<=maxEl) (some (.inl (l0,i4,(YE1 .i64 (k5+(1:Int))),(out3++([(((l0.getD i4.toNat ((YE0 #[]),[])).2).getD k5.toNat ((YE0 #[]),(0:Int),(0:Int),(YE0 #[]))).1]))))))else(some (.inl (l0,i4,(YE1 .i64 (k5+(1:Int))),out3))))else(some (.inl (l0,i4,(YE1 .i64 (k5+(1:Int))),out3))))))else(some (.inr (l0,i4,out3))))
def Yf3(lo:Lo):Zt0×Int×Int×Zt5->Option ((Zt0×Int×Zt5)):=lo.run (Yd9 lo)
def Yya(lo:Lo):LpE:=⟨5,[],⟨[0,3,4,5],[.l Zc2,.ref 0,.i .i64,.i .i64],[.sq (cs [.s])],(cs [.l Zc2,I,I,.l (cs [.s])])⟩,[⟨.exit 2,⟨[0,3,4],[.l Zc2,.ref 0,.i .i64],[.sq (cs [.s])],(cs [.l Zc2,I,.l (cs [.s])])⟩⟩],Yf3 lo⟩
def Ym0(lo:Lo):LL:=(Yya lo,.loop q113_L5_b.er)::[]
theorem Yyb(lo:Lo):Lk lo pf (YBG lo) 0 (Ym0 lo):=.l .n (Yd9 lo) rfl (by kernel_rfl) fun x=>by kernel_rfl
def q113_L3_b:VCode:=
 (.seq (.seq (.reg [oM 7 4,oM 8 0,oN 9 8,o 10 (.bin .lss (t 7) (t 9))])
 (.cond (t 10) .skip
 (.exit 0)))
 (.seq (.blk 1 (.seq (.reg [o 5 (.mv (k 0))])
 (.blk 2 (.loop 5 q113_L5_b))))
 (.reg [oM 11 4,o 12 (.bin .add (t 11) (k 1)),oM 4 12])))
def Yea(lo:Lo):Zt0×Int×Zt5->Option ((Zt0×Int×Zt5)⊕ ((Zt5))):=fun x=>match x with
  | (l0,i4,out3)=>bif(decide (i4< (l0.length:Int)))then(YEG (Yf3 lo (l0,i4,(0:Int),out3)) fun y455=>some (.inl (y455.1,(YE1 .i64 (y455.2.1+(1:Int))),y455.2.2)))else(some (.inr out3))
def Yf4(lo:Lo):Zt0×Int×Zt5->Option ((Zt5)):=lo.run (Yea lo)
def Yyc(lo:Lo):LpE:=⟨3,[(3,none,false)],⟨[0,3,4],[.l Zc2,.ref 0,.i .i64],[.sq (cs [.s])],(cs [.l Zc2,I,.l (cs [.s])])⟩,[⟨.exit 0,⟨[3],[.ref 0],[.sq (cs [.s])],Zc27⟩⟩],Yf4 lo⟩
def Yyd(lo:Lo):LL:=(Yyc lo,.loop q113_L3_b.er)::Ym0 lo
theorem Yye(lo:Lo):Lk lo pf (YBG lo) 0 (Yyd lo):=.l (Yyb lo) (Yea lo) rfl (by kernel_rfl) fun x=>by kernel_rfl
def q113(lo:Lo)(l0:List (ByteArray×Zt4)):Option (Zt5):=
  YEG (Yf4 lo (l0,(0:Int),[])) fun y456=>some y456
def Yyf:VFn:=⟨true,45,[.t 2],
 (.seq (.reg [o 2 (.mv (ke (cs [.s])))])
 (.seq (.reg [o 3 (.mv (ke (cs [.s])))])
 (.seq (.seq (.reg [o 4 (.mv (k 0))])
 (.blk 0 (.loop 3 q113_L3_b)))
 (.seq (.reg [oM 44 3,oM 2 44])
 (.fz [2] .ret)))))⟩
def Ym1(lo:Lo):FnE:=⟨511,true,⟨[0],[.l Zc2],[],Zc37⟩,.l (cs [.s]),[],Zc27,(fun x=>q113 lo x:Zt0->Option (Zt5))⟩
noncomputable def YB3(lo:Lo):List FnE:=Ym1 lo::YBG lo
theorem Yyg{P:Program}{fm:FM}{lo:Lo}(h:GZ P fm YBG lo)(t:Ti P fm 511 Yyf):GZ P fm YB3 lo:=
  h.p (Ym1 lo) (Yye lo) t (by kernel_rfl) (by kernel_rfl) fun x=>by kernel_rfl
def q114_L3_b:VCode:=
 (.seq (.seq (.reg [oM 8 4,oF 9 0 1,oL 10 9,oN 11 10,o 12 (.bin .lss (t 8) (t 11))])
 (.cond (t 12) .skip
 (.exit 0)))
 (.seq (.blk 1 (.seq (.reg [oM 15 3,oF 16 0 1,oL 17 16,oM 18 4,o 19 (.iad 1 (t 17) (t 18)),oL 20 19,o 21 (.call 272 [(t 15),(t 20)]),o 22 (.bin .lss (t 21) (k 0)),oM 23 22,og 24 23 false (.fad 0 (t 1)),og 25 23 false (.load false 1 (t 24)),og 26 23 false (.mv (t 4)),og 27 23 false (.slcR 1 (t 25) none (some (t 26))),og 28 23 false (.fad 0 (t 1)),og 29 23 false (.load false 1 (t 28)),og 30 23 false (.mv (t 4)),og 31 23 false (.iad 1 (t 29) (t 30)),og 32 23 false (.load false 1 (t 31)),og 33 23 false (.call 272 [(t 27),(t 32)]),og 34 23 false (.bin .geq (t 33) (k 0)),o 35 (.pick (t 23) (kb true) (t 34))])
 (.cond (t 35) (.seq (.reg [o 2 (.mv (kb false))])
 (.fz [2] .ret))
 .skip)))
 (.reg [oM 13 4,o 14 (.bin .add (t 13) (k 1)),oM 4 14])))
def Yeb(lo:Lo):Zt5×Int×Zt5×Zt0->Option ((Zt5×Int×Zt5×Zt0)⊕ (Bool⊕Unit)):=fun x=>match x with
  | (l3,i4,q1_0,q1_1)=>bif(decide (i4< (q1_0.length:Int)))then(chk (0<=i4/\i4< (q1_0.length:Int)) (YEG (q104 lo l3 (q1_0.getD i4.toNat (YE0 #[]))) fun y458=>bif(decide (y458< (0:Int)))then(some (.inr (.inl false)))else(chk (0<=(0:Int)/\ (0:Int)<=i4/\i4<=(q1_0.length:Int)) (chk (0<=i4/\i4< (q1_0.length:Int)) (YEG (q104 lo ((q1_0.take i4.toNat).drop 0) (q1_0.getD i4.toNat (YE0 #[]))) fun y459=>bif(decide ((0:Int)<=y459))then(some (.inr (.inl false)))else(some (.inl (l3,(YE1 .i64 (i4+(1:Int))),q1_0,q1_1))))))))else(some (.inr (.inr ())))
def Yf5(lo:Lo):Zt5×Int×Zt5×Zt0->Option (Bool⊕Unit):=lo.run (Yeb lo)
def Yyh(lo:Lo):LpE:=⟨3,[],⟨[1,3,4],[.ptr 0 0 0,.l (cs [.s]),.i .i64],[.st [.l (cs [.s]),.l Zc2]],(cs [.l (cs [.s]),I,.l (cs [.s]),.l Zc2])⟩,[⟨.ret,⟨[2],[.b],[],(cs [.b])⟩⟩,⟨.exit 0,⟨[],[],[],(cs [])⟩⟩],Yf5 lo⟩
def Yyi(lo:Lo):LL:=(Yyh lo,.loop q114_L3_b.er)::[]
theorem Yyj(lo:Lo):Lk lo pf (YB3 lo) 0 (Yyi lo):=.l .n (Yeb lo) rfl (by kernel_rfl) fun x=>by kernel_rfl
def q114(lo:Lo)(q0_0:List ByteArray)(q0_1:List (ByteArray×Zt4)):Option Bool:=
  YEG (q113 lo q0_1) fun y457=>YEG (Yf5 lo (y457,(0:Int),q0_0,q0_1)) fun y460=>alt2 y460 (fun y461=>some y461) (fun y462=>some true)
def Yyk:VFn:=⟨true,36,[.t 2],
 (.seq (.reg [o 1 (.box (t 0)),o 2 (.mv (kb false))])
 (.seq (.reg [oF 5 1 1,oL 6 5,o 7 (.call 511 [(t 6)]),oM 3 7])
 (.seq (.seq (.reg [o 4 (.mv (k 0))])
 (.blk 0 (.loop 3 q114_L3_b)))
 (.seq (.reg [o 2 (.mv (kb true))])
 (.fz [2] .ret)))))⟩
def Ym2(lo:Lo):FnE:=⟨509,true,⟨[0],[.ag [.l (cs [.s]),.l Zc2]],[],Zc25⟩,.b,[],(cs [.b]),(fun x=>q114 lo x.1 x.2:Zt5×Zt0->Option Bool)⟩
noncomputable def YCX(lo:Lo):List FnE:=Ym2 lo::YB3 lo
theorem Yyl{P:Program}{fm:FM}{lo:Lo}(h:GZ P fm YB3 lo)(t:Ti P fm 509 Yyk):GZ P fm YCX lo:=
  h.p (Ym2 lo) (Yyj lo) t (by kernel_rfl) (by kernel_rfl) fun x=>by kernel_rfl
noncomputable def YDh(lo:Lo):List FnE:=YCX lo
noncomputable def YDi(lo:Lo):List FnE:=YDh lo
noncomputable def YDj(lo:Lo):List FnE:=YDi lo
noncomputable def YDk(lo:Lo):List FnE:=YDj lo
noncomputable def YDl(lo:Lo):List FnE:=YDk lo
noncomputable def YDm(lo:Lo):List FnE:=YDl lo
noncomputable def YDn(lo:Lo):List FnE:=YDm lo
end Go.Abs.G47
namespace Go.Abs.G47
open Go Go.Abs
set_option maxRecDepth 100000
set_option maxHeartbeats 1000000
noncomputable def YDo(lo:Lo):List FnE:=YDn lo
noncomputable def YCY(lo:Lo):List FnE:=YDo lo
def q124(lo:Lo)(a0:Int)(b1:Int):Option Int:=
  bif(decide (a0<b1))then(some (-1:Int))else(bif(decide (b1<a0))then(some (1:Int))else(some (0:Int)))
def Yym:VFn:=⟨true,11,[.t 4],
 (.seq (.reg [o 4 (.mv (k 0))])
 (.seq (.seq (.reg [oM 5 0,oM 6 1,o 7 (.bin .lss (t 5) (t 6))])
 (.cond (t 7) (.seq (.reg [o 4 (.mv (k (-1)))])
 (.fz [4] .ret))
 .skip))
 (.seq (.seq (.reg [oM 8 0,oM 9 1,o 10 (.bin .gtr (t 8) (t 9))])
 (.cond (t 10) (.seq (.reg [o 4 (.mv (k 1))])
 (.fz [4] .ret))
 .skip))
 (.seq (.reg [o 4 (.mv (k 0))])
 (.fz [4] .ret)))))⟩
def Ym3(lo:Lo):FnE:=⟨303,true,⟨[0,1],[.i .i64,.i .i64],[],(cs [I,I])⟩,.i .i64,[],(cs [I]),(fun x=>q124 lo x.1 x.2:Int×Int->Option Int)⟩
noncomputable def YB4(lo:Lo):List FnE:=Ym3 lo::YCY lo
theorem Yyn{P:Program}{fm:FM}{lo:Lo}(h:GZ P fm YCY lo)(t:Ti P fm 303 Yym):GZ P fm YB4 lo:=
  h.p (Ym3 lo) .n t (by kernel_rfl) (by kernel_rfl) fun x=>by kernel_rfl
def q125_L3_b:VCode:=
 (.seq (.seq (.reg [oM 6 5,oM 7 0,o 8 (.lenS (t 7)),o 9 (.bin .lss (t 6) (t 8)),oM 10 9,og 11 10 true (.mv (t 5)),og 12 10 true (.mv (t 1)),og 13 10 true (.lenS (t 12)),og 14 10 true (.bin .lss (t 11) (t 13)),o 15 (.pick (t 10) (t 14) (kb false))])
 (.cond (t 15) .skip
 (.exit 0)))
 (.seq (.blk 1 (.seq (.reg [oM 18 0,oM 19 5,o 20 (.idx (t 18) (t 19)),oM 21 1,oM 22 5,o 23 (.idx (t 21) (t 22)),o 24 (.bin .neq (t 20) (t 23))])
 (.cond (t 24) (.seq (.reg [oM 25 0,oM 26 5,o 27 (.idx (t 25) (t 26)),o 28 (.conv .i64 (t 27)),oM 29 1,oM 30 5,o 31 (.idx (t 29) (t 30)),o 32 (.conv .i64 (t 31)),o 33 (.call 303 [(t 28),(t 32)]),oM 4 33])
 (.fz [4] .ret))
 .skip)))
 (.reg [oM 16 5,o 17 (.bin .add (t 16) (k 1)),oM 5 17])))
def YcM(lo:Lo):ByteArray×ByteArray×Int->Option ((ByteArray×ByteArray×Int)⊕ (Int⊕ (ByteArray×ByteArray))):=fun x=>match x with
  | (a0,b1,i5)=>bif(decide (i5< (a0.size:Int)))then(bif(decide (i5< (b1.size:Int)))then(chk (0<=i5/\i5< (a0.size:Int)) (chk (0<=i5/\i5< (b1.size:Int)) (bif(!decide ((YzN a0 i5)=(YzN b1 i5)))then(chk (0<=i5/\i5< (a0.size:Int)) (chk (0<=i5/\i5< (b1.size:Int)) (YEG (q124 lo (YE1 .i64 (YzN a0 i5)) (YE1 .i64 (YzN b1 i5))) fun y512=>some (.inr (.inl y512)))))else(some (.inl (a0,b1,(YE1 .i64 (i5+(1:Int)))))))))else(some (.inr (.inr (a0,b1)))))else(some (.inr (.inr (a0,b1))))
def Yf6(lo:Lo):ByteArray×ByteArray×Int->Option (Int⊕ (ByteArray×ByteArray)):=lo.run (YcM lo)
def Yyo(lo:Lo):LpE:=⟨3,[],⟨[0,1,5],[.s,.s,.i .i64],[],(cs [.s,.s,I])⟩,[⟨.ret,⟨[4],[.i .i64],[],(cs [I])⟩⟩,⟨.exit 0,⟨[0,1],[.s,.s],[],(cs [.s,.s])⟩⟩],Yf6 lo⟩
def Yyp(lo:Lo):LL:=(Yyo lo,.loop q125_L3_b.er)::[]
theorem Yyq(lo:Lo):Lk lo pf (YB4 lo) 0 (Yyp lo):=.l .n (YcM lo) rfl (by kernel_rfl) fun x=>by kernel_rfl
def q125(lo:Lo)(a0:ByteArray)(b1:ByteArray):Option Int:=
  YEG (Yf6 lo (a0,b1,(0:Int))) fun y513=>alt2 y513 (fun y514=>some y514) (fun y515=>YEG (q124 lo (y515.1.size:Int) (y515.2.size:Int)) fun y516=>some y516)
def Yyr:VFn:=⟨true,39,[.t 4],
 (.seq (.reg [o 4 (.mv (k 0))])
 (.seq (.seq (.reg [o 5 (.mv (k 0))])
 (.blk 0 (.loop 3 q125_L3_b)))
 (.seq (.reg [oM 34 0,o 35 (.lenS (t 34)),oM 36 1,o 37 (.lenS (t 36)),o 38 (.call 303 [(t 35),(t 37)]),oM 4 38])
 (.fz [4] .ret))))⟩
def Ym4(lo:Lo):FnE:=⟨320,true,⟨[0,1],[.s,.s],[],(cs [.s,.s])⟩,.i .i64,[],(cs [I]),(fun x=>q125 lo x.1 x.2:ByteArray×ByteArray->Option Int)⟩
noncomputable def YCm(lo:Lo):List FnE:=Ym4 lo::YB4 lo
theorem Yys{P:Program}{fm:FM}{lo:Lo}(h:GZ P fm YB4 lo)(t:Ti P fm 320 Yyr):GZ P fm YCm lo:=
  h.p (Ym4 lo) (Yyq lo) t (by kernel_rfl) (by kernel_rfl) fun x=>by kernel_rfl
def q126(lo:Lo)(a0_0:Int)(a0_1:Int)(a0_2:ByteArray)(b1_0:Int)(b1_1:Int)(b1_2:ByteArray):Option Int:=
  YEG (q124 lo a0_0 b1_0) fun y510=>bif(!decide (y510=(0:Int)))then(some y510)else(YEG (q124 lo a0_1 b1_1) fun y511=>bif(!decide (y511=(0:Int)))then(some y511)else(YEG (q125 lo a0_2 b1_2) fun y517=>some y517))
def Yyt:VFn:=⟨true,28,[.t 4],
 (.seq (.reg [o 2 (.box (t 0)),o 3 (.box (t 1)),o 4 (.mv (k 0))])
 (.seq (.seq (.reg [oF 7 0 2,oL 8 7,oF 9 0 3,oL 10 9,o 11 (.call 303 [(t 8),(t 10)]),oM 5 11])
 (.seq (.reg [oM 12 5,o 13 (.bin .neq (t 12) (k 0))])
 (.cond (t 13) (.seq (.reg [oM 14 5,oM 4 14])
 (.fz [4] .ret))
 .skip)))
 (.seq (.seq (.reg [oF 15 1 2,oL 16 15,oF 17 1 3,oL 18 17,o 19 (.call 303 [(t 16),(t 18)]),oM 6 19])
 (.seq (.reg [oM 20 6,o 21 (.bin .neq (t 20) (k 0))])
 (.cond (t 21) (.seq (.reg [oM 22 6,oM 4 22])
 (.fz [4] .ret))
 .skip)))
 (.seq (.reg [oF 23 2 2,oL 24 23,oF 25 2 3,oL 26 25,o 27 (.call 320 [(t 24),(t 26)]),oM 4 27])
 (.fz [4] .ret)))))⟩
def Ym5(lo:Lo):FnE:=⟨302,true,⟨[0,1],[.ag [.i .i64,.i .i64,.s],.ag [.i .i64,.i .i64,.s]],[],(cs [I,I,.s,I,I,.s])⟩,.i .i64,[],(cs [I]),(fun x=>q126 lo x.1 x.2.1 x.2.2.1 x.2.2.2.1 x.2.2.2.2.1 x.2.2.2.2.2:Int×Int×ByteArray×Int×Int×ByteArray->Option Int)⟩
noncomputable def YCn(lo:Lo):List FnE:=Ym5 lo::YCm lo
theorem Yyu{P:Program}{fm:FM}{lo:Lo}(h:GZ P fm YCm lo)(t:Ti P fm 302 Yyt):GZ P fm YCn lo:=
  h.p (Ym5 lo) .n t (by kernel_rfl) (by kernel_rfl) fun x=>by kernel_rfl
def q127(lo:Lo)(a0_0:ByteArray)(a0_1:Int)(a0_2:Int)(a0_3:ByteArray)(b1_0:ByteArray)(b1_1:Int)(b1_2:Int)(b1_3:ByteArray):Option Bool:=
  bif(decide (a0_0=b1_0))then(YEG (q126 lo a0_1 a0_2 a0_3 b1_1 b1_2 b1_3) fun y518=>some (decide (y518=(0:Int))))else(some false)
def Yyv:VFn:=⟨true,18,[.t 4],
 (.seq (.reg [o 2 (.box (t 0)),o 3 (.box (t 1)),o 4 (.mv (kb false))])
 (.seq (.reg [oF 5 0 2,oL 6 5,oF 7 0 3,oL 8 7,o 9 (.bin .eql (t 6) (t 8)),oM 10 9,og 11 10 true (.fad 1 (t 2)),og 12 10 true (.load true 3 (t 11)),og 13 10 true (.fad 1 (t 3)),og 14 10 true (.load true 3 (t 13)),og 15 10 true (.call 302 [(t 12),(t 14)]),og 16 10 true (.bin .eql (t 15) (k 0)),o 17 (.pick (t 10) (t 16) (kb false)),oM 4 17])
 (.fz [4] .ret)))⟩
def Ym6(lo:Lo):FnE:=⟨524,true,⟨[0,1],[.ag [.s,.i .i64,.i .i64,.s],.ag [.s,.i .i64,.i .i64,.s]],[],(cs [.s,I,I,.s,.s,I,I,.s])⟩,.b,[],(cs [.b]),(fun x=>q127 lo x.1 x.2.1 x.2.2.1 x.2.2.2.1 x.2.2.2.2.1 x.2.2.2.2.2.1 x.2.2.2.2.2.2.1 x.2.2.2.2.2.2.2:ByteArray×Int×Int×ByteArray×ByteArray×Int×Int×ByteArray->Option Bool)⟩
noncomputable def YCo(lo:Lo):List FnE:=Ym6 lo::YCn lo
theorem Yyw{P:Program}{fm:FM}{lo:Lo}(h:GZ P fm YCn lo)(t:Ti P fm 524 Yyv):GZ P fm YCo lo:=
  h.p (Ym6 lo) .n t (by kernel_rfl) (by kernel_rfl) fun x=>by kernel_rfl
def q128(lo:Lo)(b0_0:List ByteArray)(b0_1:List Zp78)(t1_0:ByteArray)(t1_1:Int)(t1_2:Int)(t1_3:ByteArray)(u2_0:ByteArray)(u2_1:Int)(u2_2:Int)(u2_3:ByteArray):Option (Zt5×Zt4×Bool):=
  bif(decide (t1_0=(YE0 #[])))then(YEG (q127 lo t1_0 t1_1 t1_2 t1_3 u2_0 u2_1 u2_2 u2_3) fun y519=>some (b0_0,b0_1,y519))else(YEG (q104 lo b0_0 t1_0) fun y520=>bif(decide ((0:Int)<=y520))then(chk (0<=y520/\y520< (b0_1.length:Int)) (YEG (q127 lo ((b0_1.getD y520.toNat ((YE0 #[]),(0:Int),(0:Int),(YE0 #[]))).1) ((b0_1.getD y520.toNat ((YE0 #[]),(0:Int),(0:Int),(YE0 #[]))).2.1) ((b0_1.getD y520.toNat ((YE0 #[]),(0:Int),(0:Int),(YE0 #[]))).2.2.1) ((b0_1.getD y520.toNat ((YE0 #[]),(0:Int),(0:Int),(YE0 #[]))).2.2.2) u2_0 u2_1 u2_2 u2_3) fun y521=>some (b0_0,b0_1,y521)))else(chk (b0_0.length<=maxEl) (chk (b0_0.length+[t1_0].length<=maxEl) (chk (b0_1.length<=maxEl) (chk (b0_1.length+([(u2_0,u2_1,u2_2,u2_3)]).length<=maxEl) (some ((b0_0++[t1_0]),(b0_1++([(u2_0,u2_1,u2_2,u2_3)])),true)))))))
def Yyx:VFn:=⟨true,47,[.c 6 true 2,.t 7],
 (.seq (.reg [o 3 (.box (t 0)),o 4 (.box (t 1)),o 5 (.box (t 2)),o 6 (.alloc [.e (cs [.s]),.e Zc9]),o 7 (.mv (kb false))])
 (.seq (.seq (.reg [oF 9 0 4,oL 10 9,o 11 (.bin .eql (t 10) (ks (⟨#[]⟩)))])
 (.cond (t 11) (.seq (.reg [o 12 (.load true 2 (t 3)),o 13 (.load true 4 (t 4)),o 14 (.load true 4 (t 5)),o 15 (.call 524 [(t 13),(t 14)]),on (.store 2 (t 6) (t 12)),oM 7 15])
 (.fz [6,7] .ret))
 .skip))
 (.seq (.reg [oF 16 0 3,oL 17 16,oF 18 0 4,oL 19 18,o 20 (.call 272 [(t 17),(t 19)]),oM 8 20])
 (.seq (.seq (.reg [oM 21 8,o 22 (.bin .geq (t 21) (k 0))])
 (.cond (t 22) (.seq (.reg [o 23 (.load true 2 (t 3)),oF 24 1 3,oL 25 24,oM 26 8,o 27 (.iad 4 (t 25) (t 26)),o 28 (.load true 4 (t 27)),o 29 (.load true 4 (t 5)),o 30 (.call 524 [(t 28),(t 29)]),on (.store 2 (t 6) (t 23)),oM 7 30])
 (.fz [6,7] .ret))
 .skip))
 (.seq (.reg [o 31 (.bsl (cs [.s]) 0 []),oF 32 0 3,oL 33 32,⟨some 34,.app (cs [.s]) 0 (t 31) (t 33),none,false,true⟩,oF 35 0 4,⟨some 36,.load false 1 (t 35),none,true,false⟩,o 37 (.bsl (cs [.s]) 1 [(0,(t 36))]),⟨some 38,.app (cs [.s]) 0 (t 34) (t 37),none,false,true⟩,o 39 (.bsl Zc9 0 []),oF 40 1 3,⟨some 41,.load false 1 (t 40),none,true,false⟩,⟨some 42,.app Zc9 0 (t 39) (t 41),none,false,true⟩,⟨some 43,.load true 4 (t 5),none,true,false⟩,o 44 (.bsl Zc9 1 [(0,(t 43))]),o 45 (.app Zc9 0 (t 42) (t 44)),o 46 (.build [.e (cs [.s]),.e Zc9] [(0,1,(t 38)),(1,1,(t 45))]),on (.store 2 (t 6) (t 46)),o 7 (.mv (kb true))])
 (.fz [6,7] .ret))))))⟩
def Ym7(lo:Lo):FnE:=⟨547,true,⟨[0,1,2],[.ag [.l (cs [.s]),.l Zc9],.ag [.s,.i .i64,.i .i64,.s],.ag [.s,.i .i64,.i .i64,.s]],[],(cs [.l (cs [.s]),.l Zc9,.s,I,I,.s,.s,I,I,.s])⟩,.tp [.ag [.l (cs [.s]),.l Zc9],.b],[],(cs [.l (cs [.s]),.l Zc9,.b]),(fun x=>q128 lo x.1 x.2.1 x.2.2.1 x.2.2.2.1 x.2.2.2.2.1 x.2.2.2.2.2.1 x.2.2.2.2.2.2.1 x.2.2.2.2.2.2.2.1 x.2.2.2.2.2.2.2.2.1 x.2.2.2.2.2.2.2.2.2:Zt5×Zt4×ByteArray×Int×Int×ByteArray×ByteArray×Int×Int×ByteArray->Option (Zt5×Zt4×Bool))⟩
noncomputable def YB5(lo:Lo):List FnE:=Ym7 lo::YCo lo
theorem Yyy{P:Program}{fm:FM}{lo:Lo}(h:GZ P fm YCo lo)(t:Ti P fm 547 Yyx):GZ P fm YB5 lo:=
  h.p (Ym7 lo) .n t (by kernel_rfl) (by kernel_rfl) fun x=>by kernel_rfl
def q129_L3_b:VCode:=
 (.seq (.seq (.reg [oM 17 9,oM 18 2,oN 19 18,o 20 (.bin .lss (t 17) (t 19)),oM 21 20,og 22 21 true (.mv (t 8)),o 23 (.pick (t 21) (t 22) (kb false))])
 (.cond (t 23) .skip
 (.exit 0)))
 (.seq (.blk 1 (.reg [o 27 (.load true 2 (t 3)),oF 28 1 4,oL 29 28,oM 30 9,o 31 (.iad 4 (t 29) (t 30)),o 32 (.load true 4 (t 31)),oM 33 2,oM 34 9,o 35 (.iad 4 (t 33) (t 34)),o 36 (.load true 4 (t 35)),o 37 (.call 547 [(t 27),(t 32),(t 36)]),oM 26 37,oE 38 26 0,oE 39 26 1,on (.store 2 (t 3) (t 38)),oM 8 39]))
 (.reg [oM 24 9,o 25 (.bin .add (t 24) (k 1)),oM 9 25])))
def YcN(lo:Lo):Zp59->Option (Zp59⊕ ((Bool×Zt5×Zt4×Zt5×Zt4))):=fun x=>match x with
  | (l2,ok8,i9,b3_0,b3_1,a4_0,a4_1,v6_0,v6_1)=>bif(decide (i9< (l2.length:Int)))then(bif ok8 then(chk (0<=i9/\i9< (a4_1.length:Int)) (chk (0<=i9/\i9< (l2.length:Int)) (YEG (q128 lo b3_0 b3_1 ((a4_1.getD i9.toNat ((YE0 #[]),(0:Int),(0:Int),(YE0 #[]))).1) ((a4_1.getD i9.toNat ((YE0 #[]),(0:Int),(0:Int),(YE0 #[]))).2.1) ((a4_1.getD i9.toNat ((YE0 #[]),(0:Int),(0:Int),(YE0 #[]))).2.2.1) ((a4_1.getD i9.toNat ((YE0 #[]),(0:Int),(0:Int),(YE0 #[]))).2.2.2) ((l2.getD i9.toNat ((YE0 #[]),(0:Int),(0:Int),(YE0 #[]))).1) ((l2.getD i9.toNat ((YE0 #[]),(0:Int),(0:Int),(YE0 #[]))).2.1) ((l2.getD i9.toNat ((YE0 #[]),(0:Int),(0:Int),(YE0 #[]))).2.2.1) ((l2.getD i9.toNat ((YE0 #[]),(0:Int),(0:Int),(YE0 #[]))).2.2.2)) fun y522=>some (.inl (l2,y522.2.2,(YE1 .i64 (i9+(1:Int))),y522.1,y522.2.1,a4_0,a4_1,v6_0,v6_1)))))else(some (.inr (ok8,b3_0,b3_1,v6_0,v6_1))))else(some (.inr (ok8,b3_0,b3_1,v6_0,v6_1)))
def YcO(lo:Lo):Zp59->Option ((Bool×Zt5×Zt4×Zt5×Zt4)):=lo.run (YcN lo)
def Yyz(lo:Lo):LpE:=⟨3,[],⟨[2,3,4,6,8,9],[.l Zc9,.ptr 0 0 0,.ptr 1 0 0,.ptr 2 0 0,.b,.i .i64],[.st [.l (cs [.s]),.l Zc9],.st [.s,.l Zc9],.st [.l (cs [.s]),.l Zc9]],(cs [.l Zc9,.b,I,.l (cs [.s]),.l Zc9,.s,.l Zc9,.l (cs [.s]),.l Zc9])⟩,[⟨.exit 0,⟨[3,6,8],[.ptr 0 0 0,.ptr 1 0 0,.b],[.st [.l (cs [.s]),.l Zc9],.st [.l (cs [.s]),.l Zc9]],(cs [.b,.l (cs [.s]),.l Zc9,.l (cs [.s]),.l Zc9])⟩⟩],YcO lo⟩
def YyA(lo:Lo):LL:=(Yyz lo,.loop q129_L3_b.er)::[]
theorem YyB(lo:Lo):Lk lo pf (YB5 lo) 0 (YyA lo):=.l .n (YcN lo) rfl (by kernel_rfl) fun x=>by kernel_rfl
def q129(lo:Lo)(b0_0:List ByteArray)(b0_1:List Zp78)(a1_0:ByteArray)(a1_1:List Zp78)(l2:List Zp78):Option (Zt5×Zt4×Bool):=
  bif(!decide ((a1_1.length:Int)=(l2.length:Int)))then(some (b0_0,b0_1,false))else(YEG (YcO lo (l2,true,(0:Int),b0_0,b0_1,a1_0,a1_1,([]:List ByteArray),([]:List Zp78))) fun y523=>some (y523.2.1,y523.2.2.1,y523.1))
def YyC:VFn:=⟨true,42,[.c 6 true 2,.t 7],
 (.seq (.reg [o 3 (.box (t 0)),o 4 (.box (t 1)),o 6 (.alloc [.e (cs [.s]),.e Zc9]),o 7 (.mv (kb false))])
 (.seq (.seq (.reg [oF 10 1 4,oL 11 10,oN 12 11,oM 13 2,oN 14 13,o 15 (.bin .neq (t 12) (t 14))])
 (.cond (t 15) (.seq (.reg [o 16 (.load true 2 (t 3)),on (.store 2 (t 6) (t 16)),o 7 (.mv (kb false))])
 (.fz [6,7] .ret))
 .skip))
 (.seq (.reg [o 8 (.mv (kb true))])
 (.seq (.seq (.reg [o 9 (.mv (k 0))])
 (.blk 0 (.loop 3 q129_L3_b)))
 (.seq (.reg [o 40 (.load true 2 (t 3)),oM 41 8,on (.store 2 (t 6) (t 40)),oM 7 41])
 (.fz [6,7] .ret))))))⟩
def Ym8(lo:Lo):FnE:=⟨526,true,⟨[0,1,2],[.ag [.l (cs [.s]),.l Zc9],.ag [.s,.l Zc9],.l Zc9],[],(cs [.l (cs [.s]),.l Zc9,.s,.l Zc9,.l Zc9])⟩,.tp [.ag [.l (cs [.s]),.l Zc9],.b],[],(cs [.l (cs [.s]),.l Zc9,.b]),(fun x=>q129 lo x.1 x.2.1 x.2.2.1 x.2.2.2.1 x.2.2.2.2:Zt5×Zt4×ByteArray×Zt4×Zt4->Option (Zt5×Zt4×Bool))⟩
noncomputable def YCZ(lo:Lo):List FnE:=Ym8 lo::YB5 lo
theorem YyD{P:Program}{fm:FM}{lo:Lo}(h:GZ P fm YB5 lo)(t:Ti P fm 526 YyC):GZ P fm YCZ lo:=
  h.p (Ym8 lo) (YyB lo) t (by kernel_rfl) (by kernel_rfl) fun x=>by kernel_rfl
end Go.Abs.G47
namespace Go.Abs.G47
open Go Go.Abs
set_option maxRecDepth 100000
set_option maxHeartbeats 1000000
noncomputable def YC0(lo:Lo):List FnE:=YCZ lo
def q131(lo:Lo)(b0_0:List ByteArray)(b0_1:List Zp78)(name1:ByteArray):Option Zp78:=
  YEG (q104 lo b0_0 name1) fun y528=>bif(decide (y528< (0:Int)))then(some ((YE0 #[]),(0:Int),(0:Int),(YE0 #[])))else(chk (0<=y528/\y528< (b0_1.length:Int)) (some ((b0_1.getD y528.toNat ((YE0 #[]),(0:Int),(0:Int),(YE0 #[]))).1,(b0_1.getD y528.toNat ((YE0 #[]),(0:Int),(0:Int),(YE0 #[]))).2.1,(b0_1.getD y528.toNat ((YE0 #[]),(0:Int),(0:Int),(YE0 #[]))).2.2.1,(b0_1.getD y528.toNat ((YE0 #[]),(0:Int),(0:Int),(YE0 #[]))).2.2.2)))
def YyE:VFn:=⟨true,18,[.c 4 true 4],
 (.seq (.reg [o 2 (.box (t 0)),o 4 (.alloc [.s (⟨#[]⟩),.i .i64 0,.i .i64 0,.s (⟨#[]⟩)])])
 (.seq (.reg [oF 6 0 2,oL 7 6,oM 8 1,o 9 (.call 272 [(t 7),(t 8)]),oM 5 9])
 (.seq (.seq (.reg [oM 10 5,o 11 (.bin .lss (t 10) (k 0))])
 (.cond (t 11) (.seq (.reg [o 12 (.build [.s (⟨#[]⟩),.i .i64 0,.i .i64 0,.s (⟨#[]⟩)] []),on (.store 4 (t 4) (t 12))])
 (.fz [4] .ret))
 .skip))
 (.seq (.reg [oF 13 1 2,oL 14 13,oM 15 5,o 16 (.iad 4 (t 14) (t 15)),o 17 (.load true 4 (t 16)),on (.store 4 (t 4) (t 17))])
 (.fz [4] .ret)))))⟩
def Ym9(lo:Lo):FnE:=⟨525,true,⟨[0,1],[.ag [.l (cs [.s]),.l Zc9],.s],[],(cs [.l (cs [.s]),.l Zc9,.s])⟩,.ag [.s,.i .i64,.i .i64,.s],[],Zc9,(fun x=>q131 lo x.1 x.2.1 x.2.2:Zt5×Zt4×ByteArray->Option Zp78)⟩
noncomputable def YC1(lo:Lo):List FnE:=Ym9 lo::YC0 lo
theorem YyF{P:Program}{fm:FM}{lo:Lo}(h:GZ P fm YC0 lo)(t:Ti P fm 525 YyE):GZ P fm YC1 lo:=
  h.p (Ym9 lo) .n t (by kernel_rfl) (by kernel_rfl) fun x=>by kernel_rfl
noncomputable def YDp(lo:Lo):List FnE:=YC1 lo
noncomputable def YDq(lo:Lo):List FnE:=YDp lo
noncomputable def YDr(lo:Lo):List FnE:=YDq lo
noncomputable def YDs(lo:Lo):List FnE:=YDr lo
noncomputable def YDt(lo:Lo):List FnE:=YDs lo
noncomputable def YDu(lo:Lo):List FnE:=YDt lo
noncomputable def YCp(lo:Lo):List FnE:=YDu lo
def q139_L3_b:VCode:=
 (.seq (.seq (.reg [oM 14 3,oF 15 1 1,oL 16 15,oN 17 16,o 18 (.bin .lss (t 14) (t 17))])
 (.cond (t 18) .skip
 (.exit 0)))
 (.seq (.blk 1 (.seq (.reg [oF 21 1 1,oL 22 21,oM 23 3,o 24 (.iad 2 (t 22) (t 23)),oF 25 0 24,oL 26 25,o 27 (.call 258 [(t 26)]),o 28 (.not (t 27)),oM 29 28,og 30 29 false (.fad 1 (t 1)),og 31 29 false (.load false 1 (t 30)),og 32 29 false (.mv (t 3)),og 33 29 false (.iad 2 (t 31) (t 32)),og 34 29 false (.load true 2 (t 33)),og 35 29 false (.call 508 [(t 34)]),og 36 29 false (.not (t 35)),o 37 (.pick (t 29) (kb true) (t 36))])
 (.cond (t 37) (.seq (.reg [o 2 (.mv (kb false))])
 (.fz [2] .ret))
 .skip)))
 (.reg [oM 19 3,o 20 (.bin .add (t 19) (k 1)),oM 3 20])))
def Yec(lo:Lo):Int×Zt5×Zt0->Option ((Int×Zt5×Zt0)⊕ (Bool⊕ (Zt5×Zt0))):=fun x=>match x with
  | (i3,q1_0,q1_1)=>bif(decide (i3< (q1_1.length:Int)))then(chk (0<=i3/\i3< (q1_1.length:Int)) (YEG (q103 lo ((q1_1.getD i3.toNat ((YE0 #[]),[])).1)) fun y559=>bif(!y559)then(some (.inr (.inl false)))else(chk (0<=i3/\i3< (q1_1.length:Int)) (YEG (q112 lo ((q1_1.getD i3.toNat ((YE0 #[]),[])).1) ((q1_1.getD i3.toNat ((YE0 #[]),[])).2)) fun y560=>bif(!y560)then(some (.inr (.inl false)))else(some (.inl ((YE1 .i64 (i3+(1:Int))),q1_0,q1_1)))))))else(some (.inr (.inr (q1_0,q1_1))))
def Yf7(lo:Lo):Int×Zt5×Zt0->Option (Bool⊕ (Zt5×Zt0)):=lo.run (Yec lo)
def YyG(lo:Lo):LpE:=⟨3,[],⟨[1,3],[.ptr 0 0 0,.i .i64],[.st [.l (cs [.s]),.l Zc2]],(cs [I,.l (cs [.s]),.l Zc2])⟩,[⟨.ret,⟨[2],[.b],[],(cs [.b])⟩⟩,⟨.exit 0,⟨[1],[.ptr 0 0 0],[.st [.l (cs [.s]),.l Zc2]],Zc25⟩⟩],Yf7 lo⟩
def YyH(lo:Lo):LL:=(YyG lo,.loop q139_L3_b.er)::[]
theorem YyI(lo:Lo):Lk lo pf (YCp lo) 0 (YyH lo):=.l .n (Yec lo) rfl (by kernel_rfl) fun x=>by kernel_rfl
def q139(lo:Lo)(q0_0:List ByteArray)(q0_1:List (ByteArray×Zt4)):Option Bool:=
  bif(decide ((q0_1.length:Int)< (1:Int)))then(some false)else(bif(decide ((6:Int)< (q0_1.length:Int)))then(some false)else(YEG (Yf7 lo ((0:Int),q0_0,q0_1)) fun y561=>alt2 y561 (fun y562=>some y562) (fun y563=>YEG (q114 lo y563.1 y563.2) fun y564=>some y564)))
def YyJ:VFn:=⟨true,40,[.t 2],
 (.seq (.reg [o 1 (.box (t 0)),o 2 (.mv (kb false))])
 (.seq (.seq (.reg [oF 4 1 1,oL 5 4,oN 6 5,o 7 (.bin .lss (t 6) (k 1)),oM 8 7,og 9 8 false (.fad 1 (t 1)),og 10 8 false (.load false 1 (t 9)),og 11 8 false (.len (t 10)),og 12 8 false (.bin .gtr (t 11) (k 6)),o 13 (.pick (t 8) (kb true) (t 12))])
 (.cond (t 13) (.seq (.reg [o 2 (.mv (kb false))])
 (.fz [2] .ret))
 .skip))
 (.seq (.seq (.reg [o 3 (.mv (k 0))])
 (.blk 0 (.loop 3 q139_L3_b)))
 (.seq (.reg [o 38 (.load true 2 (t 1)),o 39 (.call 509 [(t 38)]),oM 2 39])
 (.fz [2] .ret)))))⟩
def Yna(lo:Lo):FnE:=⟨488,true,⟨[0],[.ag [.l (cs [.s]),.l Zc2]],[],Zc25⟩,.b,[],(cs [.b]),(fun x=>q139 lo x.1 x.2:Zt5×Zt0->Option Bool)⟩
noncomputable def YB6(lo:Lo):List FnE:=Yna lo::YCp lo
theorem YyK{P:Program}{fm:FM}{lo:Lo}(h:GZ P fm YCp lo)(t:Ti P fm 488 YyJ):GZ P fm YB6 lo:=
  h.p (Yna lo) (YyI lo) t (by kernel_rfl) (by kernel_rfl) fun x=>by kernel_rfl
def q140_L3_b:VCode:=
 (.seq (.seq (.reg [oM 16 7,oF 17 0 2,oL 18 17,oN 19 18,o 20 (.bin .lss (t 16) (t 19))])
 (.cond (t 20) .skip
 (.exit 0)))
 (.seq (.blk 1 (.seq (.reg [oF 23 0 6,oL 24 23,oF 25 0 2,oL 26 25,oM 27 7,o 28 (.iad 1 (t 26) (t 27)),oL 29 28,o 30 (.bsl (cs [.s]) 1 [(0,(t 29))]),o 31 (.app (cs [.s]) 0 (t 24) (t 30)),oF 32 0 6,on (.store 1 (t 32) (t 31))])
 (.reg [oF 33 1 6,oL 34 33,oF 35 0 3,oL 36 35,oM 37 7,o 38 (.iad 1 (t 36) (t 37)),oL 39 38,o 40 (.build [.s (⟨#[]⟩),.i .i64 0,.i .i64 0,.s (⟨#[]⟩)] [(0,1,(t 39))]),o 41 (.bsl Zc9 1 [(0,(t 40))]),o 42 (.app Zc9 0 (t 34) (t 41)),oF 43 1 6,on (.store 1 (t 43) (t 42))])))
 (.reg [oM 21 7,o 22 (.bin .add (t 21) (k 1)),oM 7 22])))
def Yed(lo:Lo):Zp64->Option (Zp64⊕ ((Zt5×Zt4×Zt5×Zt4))):=fun x=>match x with
  | (i7,from2_0,from2_1,to3_0,to3_1,v4_0,v4_1,h4,h5)=>bif(decide (i7< (from2_0.length:Int)))then(chk (0<=i7/\i7< (from2_0.length:Int)) (chk (h4.length+([(from2_0.getD i7.toNat (YE0 #[]))]).length<=maxEl) (chk (0<=i7/\i7< (to3_0.length:Int)) (chk (h5.length+([((to3_0.getD i7.toNat (YE0 #[])),(0:Int),(0:Int),(YE0 #[]))]).length<=maxEl) (some (.inl ((YE1 .i64 (i7+(1:Int))),from2_0,from2_1,to3_0,to3_1,v4_0,v4_1,(h4++([(from2_0.getD i7.toNat (YE0 #[]))])),(h5++([((to3_0.getD i7.toNat (YE0 #[])),(0:Int),(0:Int),(YE0 #[]))])))))))))else(some (.inr (v4_0,v4_1,h4,h5)))
def Yf8(lo:Lo):Zp64->Option ((Zt5×Zt4×Zt5×Zt4)):=lo.run (Yed lo)
def YyL(lo:Lo):LpE:=⟨3,[(6,some 0,false),(6,some 1,false)],⟨[2,3,4,6,7],[.ptr 0 0 0,.ptr 1 0 0,.ptr 2 0 0,.ptr 3 0 0,.i .i64],[.st [.l (cs [.s]),.l Zc2],.st [.l (cs [.s]),.l Zc2],.st [.l (cs [.s]),.l Zc9],.st [.ref 4,.ref 5],.sq (cs [.s]),.sq Zc9],(cs [I,.l (cs [.s]),.l Zc2,.l (cs [.s]),.l Zc2,.l (cs [.s]),.l Zc9,.l (cs [.s]),.l Zc9])⟩,[⟨.exit 0,⟨[4,6],[.ptr 0 0 0,.ptr 1 0 0],[.st [.l (cs [.s]),.l Zc9],.st [.ref 2,.ref 3],.sq (cs [.s]),.sq Zc9],(cs [.l (cs [.s]),.l Zc9,.l (cs [.s]),.l Zc9])⟩⟩],Yf8 lo⟩
def YyM(lo:Lo):LL:=(YyL lo,.loop q140_L3_b.er)::[]
theorem YyN(lo:Lo):Lk lo pf (YB6 lo) 0 (YyM lo):=.l .n (Yed lo) rfl (by kernel_rfl) fun x=>by kernel_rfl
def q140(lo:Lo)(from0_0:List ByteArray)(from0_1:List (ByteArray×Zt4))(to1_0:List ByteArray)(to1_1:List (ByteArray×Zt4)):Option (Zt5×Zt4×Bool):=
  bif(!decide ((from0_0.length:Int)=(to1_0.length:Int)))then(some (([]:List ByteArray),([]:List Zp78),false))else(YEG (Yf8 lo ((0:Int),from0_0,from0_1,to1_0,to1_1,([]:List ByteArray),([]:List Zp78),[],[])) fun y567=>some (y567.2.2.1,y567.2.2.2,true))
def YyO:VFn:=⟨true,45,[.c 4 true 2,.t 5],
 (.seq (.reg [o 2 (.box (t 0)),o 3 (.box (t 1)),o 4 (.alloc [.e (cs [.s]),.e Zc9]),o 5 (.mv (kb false))])
 (.seq (.reg [o 6 (.alloc [.e (cs [.s]),.e Zc9])])
 (.seq (.seq (.reg [oF 8 0 2,oL 9 8,oN 10 9,oF 11 0 3,oL 12 11,oN 13 12,o 14 (.bin .neq (t 10) (t 13))])
 (.cond (t 14) (.seq (.reg [o 15 (.load true 2 (t 6)),on (.store 2 (t 4) (t 15)),o 5 (.mv (kb false))])
 (.fz [4,5] .ret))
 .skip))
 (.seq (.seq (.reg [o 7 (.mv (k 0))])
 (.blk 0 (.loop 3 q140_L3_b)))
 (.seq (.reg [o 44 (.load true 2 (t 6)),on (.store 2 (t 4) (t 44)),o 5 (.mv (kb true))])
 (.fz [4,5] .ret))))))⟩
def Ynb(lo:Lo):FnE:=⟨522,true,⟨[0,1],[.ag [.l (cs [.s]),.l Zc2],.ag [.l (cs [.s]),.l Zc2]],[],Zc21⟩,.tp [.ag [.l (cs [.s]),.l Zc9],.b],[],(cs [.l (cs [.s]),.l Zc9,.b]),(fun x=>q140 lo x.1 x.2.1 x.2.2.1 x.2.2.2:Zt5×Zt0×Zt5×Zt0->Option (Zt5×Zt4×Bool))⟩
noncomputable def YB7(lo:Lo):List FnE:=Ynb lo::YB6 lo
theorem YyP{P:Program}{fm:FM}{lo:Lo}(h:GZ P fm YB6 lo)(t:Ti P fm 522 YyO):GZ P fm YB7 lo:=
  h.p (Ynb lo) (YyN lo) t (by kernel_rfl) (by kernel_rfl) fun x=>by kernel_rfl
end Go.Abs.G47
namespace Go.Abs.G47
open Go Go.Abs
set_option maxRecDepth 100000
set_option maxHeartbeats 1000000
def Ync(F:Zt5×Zt4×Zt0×Zt0->Option (Zt5×Zt4×Bool)):FnE:=⟨523,true,⟨[0,1,2],[.ag [.l (cs [.s]),.l Zc9],.l Zc2,.l Zc2],[],(cs [.l (cs [.s]),.l Zc9,.l Zc2,.l Zc2])⟩,.tp [.ag [.l (cs [.s]),.l Zc9],.b],[],(cs [.l (cs [.s]),.l Zc9,.b]),F⟩
def q141_L3_b:VCode:=
 (.seq (.seq (.reg [oM 17 8,oM 18 2,oN 19 18,o 20 (.bin .lss (t 17) (t 19))])
 (.cond (t 20) .skip
 (.exit 0)))
 (.seq (.blk 1 (.seq (.seq (.reg [oM 23 2,oM 24 8,o 25 (.iad 2 (t 23) (t 24)),oF 26 0 25,oL 27 26,oM 28 1,o 29 (.iad 2 (t 28) (k 0)),oF 30 0 29,oL 31 30,o 32 (.bin .neq (t 27) (t 31))])
 (.cond (t 32) (.exit 1)
 .skip))
 (.seq (.reg [⟨some 34,.load true 2 (t 3),none,true,false⟩,oM 35 1,⟨some 36,.iad 2 (t 35) (k 0),none,true,false⟩,⟨some 37,.load true 2 (t 36),none,true,false⟩,oM 38 2,oM 39 8,⟨some 40,.iad 2 (t 38) (t 39),none,true,false⟩,oF 41 1 40,⟨some 42,.load false 1 (t 41),none,true,false⟩,⟨some 43,.call 526 [(t 34),(t 37),(t 42)],none,true,false⟩,oM 33 43,oE 44 33 0,oE 45 33 1,o 9 (.alloc [.e (cs [.s]),.e Zc9]),on (.store 2 (t 9) (t 44)),oM 10 45])
 (.seq (.reg [oM 46 10])
 (.cond (t 46) (.seq (.reg [⟨some 48,.load true 2 (t 9),none,true,false⟩,oM 49 1,o 50 (.slcR 2 (t 49) (some (k 1)) none),oM 51 2,⟨some 52,.call 523 [(t 48),(t 50),(t 51)],none,true,false⟩,oM 47 52,oE 53 47 0,oE 54 47 1,o 11 (.alloc [.e (cs [.s]),.e Zc9]),on (.store 2 (t 11) (t 53)),oM 12 54])
 (.seq (.reg [oM 55 12])
 (.cond (t 55) (.seq (.reg [o 56 (.load true 2 (t 11)),on (.store 2 (t 6) (t 56)),o 7 (.mv (kb true))])
 (.fz [6,7] .ret))
 .skip)))
 .skip)))))
 (.reg [oM 21 8,o 22 (.bin .add (t 21) (k 1)),oM 8 22])))
def Ybi(lo:Lo)(rec:Zt5×Zt4×Zt0×Zt0->Option (Zt5×Zt4×Bool)):Zp74->Option (Zp74⊕ ((Bool×Zt5×Zt4)⊕ (Zt5×Zt4×Zt5×Zt4))):=fun x=>match x with
  | (from1,to2,i8,b3_0,b3_1,v6_0,v6_1)=>bif(decide (i8< (to2.length:Int)))then(chk (0<=i8/\i8< (to2.length:Int)) (chk (0<=(0:Int)/\ (0:Int)< (from1.length:Int)) (bif(!decide ((to2.getD i8.toNat ((YE0 #[]),[])).1=(from1.getD 0 ((YE0 #[]),[])).1))then(some (.inl (from1,to2,(YE1 .i64 (i8+(1:Int))),b3_0,b3_1,v6_0,v6_1)))else(chk (0<=(0:Int)/\ (0:Int)< (from1.length:Int)) (chk (0<=i8/\i8< (to2.length:Int)) (YEG (q129 lo b3_0 b3_1 ((from1.getD 0 ((YE0 #[]),[])).1) ((from1.getD 0 ((YE0 #[]),[])).2) ((to2.getD i8.toNat ((YE0 #[]),[])).2)) fun y569=>bif y569.2.2 then(chk (0<=(1:Int)/\ (1:Int)<=(from1.length:Int)/\ (from1.length:Int)<=(from1.length:Int)) (YEG (rec (y569.1,y569.2.1,((from1.take (from1.length:Int).toNat).drop 1),to2)) fun y570=>bif y570.2.2 then(some (.inr (.inl (true,y570.1,y570.2.1))))else(some (.inl (from1,to2,(YE1 .i64 (i8+(1:Int))),b3_0,b3_1,v6_0,v6_1)))))else(some (.inl (from1,to2,(YE1 .i64 (i8+(1:Int))),b3_0,b3_1,v6_0,v6_1)))))))))else(some (.inr (.inr (b3_0,b3_1,v6_0,v6_1))))
def YcP(lo:Lo)(rec:Zt5×Zt4×Zt0×Zt0->Option (Zt5×Zt4×Bool)):Zp74->Option ((Bool×Zt5×Zt4)⊕ (Zt5×Zt4×Zt5×Zt4)):=lo.run (Ybi lo rec)
def YyQ(lo:Lo)(rec:Zt5×Zt4×Zt0×Zt0->Option (Zt5×Zt4×Bool)):LpE:=⟨3,[],⟨[1,2,3,6,8],[.l Zc2,.l Zc2,.ptr 0 0 0,.ptr 1 0 0,.i .i64],[.st [.l (cs [.s]),.l Zc9],.st [.l (cs [.s]),.l Zc9]],(cs [.l Zc2,.l Zc2,I,.l (cs [.s]),.l Zc9,.l (cs [.s]),.l Zc9])⟩,[⟨.ret,⟨[6,7],[.ptr 0 0 0,.b],[.st [.l (cs [.s]),.l Zc9]],(cs [.b,.l (cs [.s]),.l Zc9])⟩⟩,⟨.exit 0,⟨[3,6],[.ptr 0 0 0,.ptr 1 0 0],[.st [.l (cs [.s]),.l Zc9],.st [.l (cs [.s]),.l Zc9]],(cs [.l (cs [.s]),.l Zc9,.l (cs [.s]),.l Zc9])⟩⟩],YcP lo rec⟩
def Ynd(lo:Lo)(rec:Zt5×Zt4×Zt0×Zt0->Option (Zt5×Zt4×Bool)):LL:=(YyQ lo rec,.loop q141_L3_b.er)::[]
theorem YyR(lo:Lo)(rec:Zt5×Zt4×Zt0×Zt0->Option (Zt5×Zt4×Bool)):Lk lo pf (Ync rec::YB7 lo) 0 (Ynd lo rec):=.l .n (Ybi lo rec) rfl (by kernel_rfl) fun x=>by kernel_rfl
def Yb2(lo:Lo)(rec:Zt5×Zt4×Zt0×Zt0->Option (Zt5×Zt4×Bool))(b0_0:List ByteArray)(b0_1:List Zp78)(from1:List (ByteArray×Zt4))(to2:List (ByteArray×Zt4)):Option (Zt5×Zt4×Bool):=
  bif(decide ((from1.length:Int)=(0:Int)))then(some (b0_0,b0_1,true))else(YEG (YcP lo rec (from1,to2,(0:Int),b0_0,b0_1,([]:List ByteArray),([]:List Zp78))) fun y571=>alt2 y571 (fun y572=>some (y572.2.1,y572.2.2,y572.1)) (fun y573=>some (y573.1,y573.2.1,false)))
def YaW(lo:Lo):Nat->Zt5×Zt4×Zt0×Zt0->Option (Zt5×Zt4×Bool)
  |0,_=>none
  |n+1,x=>Yb2 lo (YaW lo n) x.1 x.2.1 x.2.2.1 x.2.2.2
def q141(lo:Lo)(b0_0:List ByteArray)(b0_1:List Zp78)(from1:List (ByteArray×Zt4))(to2:List (ByteArray×Zt4)):Option (Zt5×Zt4×Bool):=lo.run (fixS (YaW lo)) (0,(b0_0,b0_1,from1,to2))
def YyS:VFn:=⟨true,58,[.c 6 true 2,.t 7],
 (.seq (.reg [o 3 (.box (t 0)),o 6 (.alloc [.e (cs [.s]),.e Zc9]),o 7 (.mv (kb false))])
 (.seq (.seq (.reg [oM 13 1,oN 14 13,o 15 (.bin .eql (t 14) (k 0))])
 (.cond (t 15) (.seq (.reg [o 16 (.load true 2 (t 3)),on (.store 2 (t 6) (t 16)),o 7 (.mv (kb true))])
 (.fz [6,7] .ret))
 .skip))
 (.seq (.seq (.reg [o 8 (.mv (k 0))])
 (.blk 0 (.loop 3 q141_L3_b)))
 (.seq (.reg [o 57 (.load true 2 (t 3)),on (.store 2 (t 6) (t 57)),o 7 (.mv (kb false))])
 (.fz [6,7] .ret)))))⟩
def Yne(lo:Lo):FnE:=Ync (fun x=>q141 lo x.1 x.2.1 x.2.2.1 x.2.2.2)
noncomputable def YCq(lo:Lo):List FnE:=Yne lo::YB7 lo
theorem YyT{P:Program}{fm:FM}{lo:Lo}(h:GZ P fm YB7 lo)(t:Ti P fm 523 YyS):GZ P fm YCq lo:=
  h.pr (Yne lo) (YaW lo) (ls:=fun rec=>Ynd lo rec) (fun rec=>(YyR lo rec)) t (by kernel_rfl) (fun _=>rfl) rfl (fun _=>by kernel_rfl) fun n x=>by kernel_rfl
def q142(lo:Lo)(from0_0:List ByteArray)(from0_1:List (ByteArray×Zt4))(to1_0:List ByteArray)(to1_1:List (ByteArray×Zt4)):Option Bool:=
  YEG (q139 lo from0_0 from0_1) fun y565=>bif(!y565)then(some false)else(YEG (q139 lo to1_0 to1_1) fun y566=>bif(!y566)then(some false)else(YEG (q140 lo from0_0 from0_1 to1_0 to1_1) fun y568=>bif(!y568.2.2)then(some false)else(YEG (q141 lo y568.1 y568.2.1 from0_1 to1_1) fun y574=>some y574.2.2)))
def YyU:VFn:=⟨true,33,[.t 4],
 (.seq (.reg [o 2 (.box (t 0)),o 3 (.box (t 1)),o 4 (.mv (kb false))])
 (.seq (.seq (.reg [o 7 (.load true 2 (t 2)),o 8 (.call 488 [(t 7)]),o 9 (.not (t 8)),oM 10 9,og 11 10 false (.load true 2 (t 3)),og 12 10 false (.call 488 [(t 11)]),og 13 10 false (.not (t 12)),o 14 (.pick (t 10) (kb true) (t 13))])
 (.cond (t 14) (.seq (.reg [o 4 (.mv (kb false))])
 (.fz [4] .ret))
 .skip))
 (.seq (.reg [o 16 (.load true 2 (t 2)),o 17 (.load true 2 (t 3)),o 18 (.call 522 [(t 16),(t 17)]),oM 15 18,oE 19 15 0,oE 20 15 1,o 5 (.alloc [.e (cs [.s]),.e Zc9]),on (.store 2 (t 5) (t 19)),oM 6 20])
 (.seq (.seq (.reg [oM 21 6,o 22 (.not (t 21))])
 (.cond (t 22) (.seq (.reg [o 4 (.mv (kb false))])
 (.fz [4] .ret))
 .skip))
 (.seq (.reg [o 24 (.load true 2 (t 5)),oF 25 1 2,oL 26 25,oF 27 1 3,oL 28 27,o 29 (.call 523 [(t 24),(t 26),(t 28)]),oM 23 29,oE 30 23 0,oE 31 23 1,oM 6 31])
 (.seq (.reg [oM 32 6,oM 4 32])
 (.fz [4] .ret)))))))⟩
def Ynf(lo:Lo):FnE:=⟨480,true,⟨[0,1],[.ag [.l (cs [.s]),.l Zc2],.ag [.l (cs [.s]),.l Zc2]],[],Zc21⟩,.b,[],(cs [.b]),(fun x=>q142 lo x.1 x.2.1 x.2.2.1 x.2.2.2:Zt5×Zt0×Zt5×Zt0->Option Bool)⟩
noncomputable def YBz(lo:Lo):List FnE:=Ynf lo::YCq lo
theorem YyV{P:Program}{fm:FM}{lo:Lo}(h:GZ P fm YCq lo)(t:Ti P fm 480 YyU):GZ P fm YBz lo:=
  h.p (Ynf lo) .n t (by kernel_rfl) (by kernel_rfl) fun x=>by kernel_rfl
def q143_L20_b:VCode:=
 (.seq (.seq (.reg [oM 35 9,oF 36 0 3,oL 37 36,oN 38 37,o 39 (.bin .lss (t 35) (t 38))])
 (.cond (t 39) .skip
 (.exit 0)))
 (.seq (.blk 1 (.seq (.reg [o 42 (.load true 2 (t 8)),oF 43 0 3,oL 44 43,oM 45 9,o 46 (.iad 1 (t 44) (t 45)),oL 47 46,o 48 (.call 525 [(t 42),(t 47)]),oF 49 0 4,oL 50 49,oM 51 9,o 52 (.iad 1 (t 50) (t 51)),oL 53 52,o 54 (.build [.s (⟨#[]⟩),.i .i64 0,.i .i64 0,.s (⟨#[]⟩)] [(0,1,(t 53))]),o 55 (.call 524 [(t 48),(t 54)]),o 56 (.not (t 55))])
 (.cond (t 56) (.seq (.reg [o 6 (.mv (kb false))])
 (.fz [6] .ret))
 .skip)))
 (.reg [oM 40 9,o 41 (.bin .add (t 40) (k 1)),oM 9 41])))
def Yee(lo:Lo):Zp75->Option (Zp75⊕ (Bool⊕ (Zt5×Zt0×Zt5×Zt0×Zt5×Zt4))):=fun x=>match x with
  | (i9,from3_0,from3_1,to4_0,to4_1,b8_0,b8_1)=>bif(decide (i9< (from3_0.length:Int)))then(chk (0<=i9/\i9< (from3_0.length:Int)) (YEG (q131 lo b8_0 b8_1 (from3_0.getD i9.toNat (YE0 #[]))) fun y577=>chk (0<=i9/\i9< (to4_0.length:Int)) (YEG (q127 lo y577.1 y577.2.1 y577.2.2.1 y577.2.2.2 (to4_0.getD i9.toNat (YE0 #[])) (0:Int) (0:Int) (YE0 #[])) fun y578=>bif(!y578)then(some (.inr (.inl false)))else(some (.inl ((YE1 .i64 (i9+(1:Int))),from3_0,from3_1,to4_0,to4_1,b8_0,b8_1))))))else(some (.inr (.inr (from3_0,from3_1,to4_0,to4_1,b8_0,b8_1))))
def Yf9(lo:Lo):Zp75->Option (Bool⊕ (Zt5×Zt0×Zt5×Zt0×Zt5×Zt4)):=lo.run (Yee lo)
def YyW(lo:Lo):LpE:=⟨20,[],⟨[3,4,8,9],[.ptr 0 0 0,.ptr 1 0 0,.ptr 2 0 0,.i .i64],[.st [.l (cs [.s]),.l Zc2],.st [.l (cs [.s]),.l Zc2],.st [.l (cs [.s]),.l Zc9]],Zc36⟩,[⟨.ret,⟨[6],[.b],[],(cs [.b])⟩⟩,⟨.exit 0,⟨[3,4,8],[.ptr 0 0 0,.ptr 1 0 0,.ptr 2 0 0],[.st [.l (cs [.s]),.l Zc2],.st [.l (cs [.s]),.l Zc2],.st [.l (cs [.s]),.l Zc9]],(cs [.l (cs [.s]),.l Zc2,.l (cs [.s]),.l Zc2,.l (cs [.s]),.l Zc9])⟩⟩],Yf9 lo⟩
def Yng(lo:Lo):LL:=(YyW lo,.loop q143_L20_b.er)::[]
theorem YyX(lo:Lo):Lk lo pf (YBz lo) 0 (Yng lo):=.l .n (Yee lo) rfl (by kernel_rfl) fun x=>by kernel_rfl
def q143_L8_b:VCode:=
 (.seq (.seq (.reg [oM 64 12,oF 65 1 4,oL 66 65,oN 67 66,o 68 (.bin .lss (t 64) (t 67))])
 (.cond (t 68) .skip
 (.exit 4)))
 (.seq (.blk 5 (.seq (.reg [oF 71 1 4,oL 72 71,oM 73 12,o 74 (.iad 2 (t 72) (t 73)),oF 75 0 74,oL 76 75,oF 77 1 3,oL 78 77,oM 79 10,o 80 (.iad 2 (t 78) (t 79)),oF 81 0 80,oL 82 81,o 83 (.bin .eql (t 76) (t 82))])
 (.cond (t 83) (.seq (.reg [⟨some 85,.load true 2 (t 8),none,true,false⟩,oF 86 1 3,⟨some 87,.load false 1 (t 86),none,true,false⟩,oM 88 10,⟨some 89,.iad 2 (t 87) (t 88),none,true,false⟩,⟨some 90,.load true 2 (t 89),none,true,false⟩,oF 91 1 4,⟨some 92,.load false 1 (t 91),none,true,false⟩,oM 93 12,⟨some 94,.iad 2 (t 92) (t 93),none,true,false⟩,oF 95 1 94,⟨some 96,.load false 1 (t 95),none,true,false⟩,⟨some 97,.call 526 [(t 85),(t 90),(t 96)],none,true,false⟩,oM 84 97,oE 98 84 0,oE 99 84 1,o 13 (.alloc [.e (cs [.s]),.e Zc9]),on (.store 2 (t 13) (t 98)),oM 14 99])
 (.reg [oM 100 11,oM 101 100,og 102 101 false (.mv (t 14)),o 103 (.pick (t 101) (kb true) (t 102)),oM 11 103]))
 .skip)))
 (.reg [oM 69 12,o 70 (.bin .add (t 69) (k 1)),oM 12 70])))
def Yef(lo:Lo):Zp63->Option (Zp63⊕ ((Int×Bool×Zt5×Zt0×Zt5×Zt0×Zt5×Zt4))):=fun x=>match x with
  | (i10,found11,k12,from3_0,from3_1,to4_0,to4_1,b8_0,b8_1)=>bif(decide (k12< (to4_1.length:Int)))then(chk (0<=k12/\k12< (to4_1.length:Int)) (chk (0<=i10/\i10< (from3_1.length:Int)) (bif(decide ((to4_1.getD k12.toNat ((YE0 #[]),[])).1=(from3_1.getD i10.toNat ((YE0 #[]),[])).1))then(chk (0<=i10/\i10< (from3_1.length:Int)) (chk (0<=k12/\k12< (to4_1.length:Int)) (YEG (q129 lo b8_0 b8_1 ((from3_1.getD i10.toNat ((YE0 #[]),[])).1) ((from3_1.getD i10.toNat ((YE0 #[]),[])).2) ((to4_1.getD k12.toNat ((YE0 #[]),[])).2)) fun y582=>bif found11 then(some (.inl (i10,true,(YE1 .i64 (k12+(1:Int))),from3_0,from3_1,to4_0,to4_1,b8_0,b8_1)))else(some (.inl (i10,y582.2.2,(YE1 .i64 (k12+(1:Int))),from3_0,from3_1,to4_0,to4_1,b8_0,b8_1))))))else(some (.inl (i10,found11,(YE1 .i64 (k12+(1:Int))),from3_0,from3_1,to4_0,to4_1,b8_0,b8_1))))))else(some (.inr (i10,found11,from3_0,from3_1,to4_0,to4_1,b8_0,b8_1)))
def Yga(lo:Lo):Zp63->Option ((Int×Bool×Zt5×Zt0×Zt5×Zt0×Zt5×Zt4)):=lo.run (Yef lo)
def YyY(lo:Lo):LpE:=⟨8,[],⟨[3,4,8,10,11,12],[.ptr 0 0 0,.ptr 1 0 0,.ptr 2 0 0,.i .i64,.b,.i .i64],[.st [.l (cs [.s]),.l Zc2],.st [.l (cs [.s]),.l Zc2],.st [.l (cs [.s]),.l Zc9]],(cs [I,.b,I,.l (cs [.s]),.l Zc2,.l (cs [.s]),.l Zc2,.l (cs [.s]),.l Zc9])⟩,[⟨.exit 4,⟨[3,4,8,10,11],[.ptr 0 0 0,.ptr 1 0 0,.ptr 2 0 0,.i .i64,.b],[.st [.l (cs [.s]),.l Zc2],.st [.l (cs [.s]),.l Zc2],.st [.l (cs [.s]),.l Zc9]],(cs [I,.b,.l (cs [.s]),.l Zc2,.l (cs [.s]),.l Zc2,.l (cs [.s]),.l Zc9])⟩⟩],Yga lo⟩
def Ynh(lo:Lo):LL:=(YyY lo,.loop q143_L8_b.er)::Yng lo
theorem YyZ(lo:Lo):Lk lo pf (YBz lo) 0 (Ynh lo):=.l (YyX lo) (Yef lo) rfl (by kernel_rfl) fun x=>by kernel_rfl
def q143_L3_b:VCode:=
 (.seq (.seq (.reg [oM 57 10,oF 58 1 3,oL 59 58,oN 60 59,o 61 (.bin .lss (t 57) (t 60))])
 (.cond (t 61) .skip
 (.exit 2)))
 (.seq (.blk 3 (.seq (.reg [o 11 (.mv (kb false))])
 (.seq (.seq (.reg [o 12 (.mv (k 0))])
 (.blk 4 (.loop 8 q143_L8_b)))
 (.seq (.reg [oM 104 11,o 105 (.not (t 104))])
 (.cond (t 105) (.seq (.reg [o 6 (.mv (kb false))])
 (.fz [6] .ret))
 .skip)))))
 (.reg [oM 62 10,o 63 (.bin .add (t 62) (k 1)),oM 10 63])))
def Yeg(lo:Lo):Zp75->Option (Zp75⊕ (Bool⊕Unit)):=fun x=>match x with
  | (i10,from3_0,from3_1,to4_0,to4_1,b8_0,b8_1)=>bif(decide (i10< (from3_1.length:Int)))then(YEG (Yga lo (i10,false,(0:Int),from3_0,from3_1,to4_0,to4_1,b8_0,b8_1)) fun y583=>bif(!y583.2.1)then(some (.inr (.inl false)))else(some (.inl ((YE1 .i64 (y583.1+(1:Int))),y583.2.2.1,y583.2.2.2.1,y583.2.2.2.2.1,y583.2.2.2.2.2.1,y583.2.2.2.2.2.2.1,y583.2.2.2.2.2.2.2))))else(some (.inr (.inr ())))
def Ygb(lo:Lo):Zp75->Option (Bool⊕Unit):=lo.run (Yeg lo)
def Yy0(lo:Lo):LpE:=⟨3,[],⟨[3,4,8,10],[.ptr 0 0 0,.ptr 1 0 0,.ptr 2 0 0,.i .i64],[.st [.l (cs [.s]),.l Zc2],.st [.l (cs [.s]),.l Zc2],.st [.l (cs [.s]),.l Zc9]],Zc36⟩,[⟨.ret,⟨[6],[.b],[],(cs [.b])⟩⟩,⟨.exit 2,⟨[],[],[],(cs [])⟩⟩],Ygb lo⟩
def Yy1(lo:Lo):LL:=(Yy0 lo,.loop q143_L3_b.er)::Ynh lo
theorem Yy2(lo:Lo):Lk lo pf (YBz lo) 0 (Yy1 lo):=.l (YyZ lo) (Yeg lo) rfl (by kernel_rfl) fun x=>by kernel_rfl
def q143(lo:Lo)(from0_0:List ByteArray)(from0_1:List (ByteArray×Zt4))(to1_0:List ByteArray)(to1_1:List (ByteArray×Zt4))(l2:List Zp78):Option Bool:=
  YEG (q113 lo from0_1) fun y576=>bif(!decide ((l2.length:Int)=(y576.length:Int)))then(some false)else(bif(!decide ((from0_0.length:Int)=(to1_0.length:Int)))then(some false)else(YEG (Yf9 lo ((0:Int),from0_0,from0_1,to1_0,to1_1,y576,l2)) fun y579=>alt2 y579 (fun y580=>some y580) (fun y581=>YEG (Ygb lo ((0:Int),y581.1,y581.2.1,y581.2.2.1,y581.2.2.2.1,y581.2.2.2.2.1,y581.2.2.2.2.2)) fun y584=>alt2 y584 (fun y585=>some y585) (fun y586=>some true))))
def Yy3:VFn:=⟨true,106,[.t 6],
 (.seq (.reg [o 3 (.box (t 0)),o 4 (.box (t 1)),o 6 (.mv (kb false))])
 (.seq (.reg [oF 15 1 3,oL 16 15,o 17 (.call 511 [(t 16)]),oM 7 17])
 (.seq (.seq (.reg [oM 18 2,oN 19 18,oM 20 7,oN 21 20,o 22 (.bin .neq (t 19) (t 21)),oM 23 22,og 24 23 false (.fad 0 (t 3)),og 25 23 false (.load false 1 (t 24)),og 26 23 false (.len (t 25)),og 27 23 false (.fad 0 (t 4)),og 28 23 false (.load false 1 (t 27)),og 29 23 false (.len (t 28)),og 30 23 false (.bin .neq (t 26) (t 29)),o 31 (.pick (t 23) (kb true) (t 30))])
 (.cond (t 31) (.seq (.reg [o 6 (.mv (kb false))])
 (.fz [6] .ret))
 .skip))
 (.seq (.reg [oM 32 7,oM 33 2,o 34 (.build [.e (cs [.s]),.e Zc9] [(0,1,(t 32)),(1,1,(t 33))]),o 8 (.alloc [.e (cs [.s]),.e Zc9]),on (.store 2 (t 8) (t 34))])
 (.seq (.seq (.reg [o 9 (.mv (k 0))])
 (.blk 0 (.loop 20 q143_L20_b)))
 (.seq (.seq (.reg [o 10 (.mv (k 0))])
 (.blk 2 (.loop 3 q143_L3_b)))
 (.seq (.reg [o 6 (.mv (kb true))])
 (.fz [6] .ret))))))))⟩
def Yni(lo:Lo):FnE:=⟨481,true,⟨[0,1,2],[.ag [.l (cs [.s]),.l Zc2],.ag [.l (cs [.s]),.l Zc2],.l Zc9],[],(cs [.l (cs [.s]),.l Zc2,.l (cs [.s]),.l Zc2,.l Zc9])⟩,.b,[],(cs [.b]),(fun x=>q143 lo x.1 x.2.1 x.2.2.1 x.2.2.2.1 x.2.2.2.2:Zt5×Zt0×Zt5×Zt0×Zt4->Option Bool)⟩
noncomputable def YCr(lo:Lo):List FnE:=Yni lo::YBz lo
theorem Yy4{P:Program}{fm:FM}{lo:Lo}(h:GZ P fm YBz lo)(t:Ti P fm 481 Yy3):GZ P fm YCr lo:=
  h.p (Yni lo) (Yy2 lo) t (by kernel_rfl) (by kernel_rfl) fun x=>by kernel_rfl
noncomputable def q144(lo:Lo)(from0_0:List ByteArray)(from0_1:List (ByteArray×Zt4))(to1_0:List ByteArray)(to1_1:List (ByteArray×Zt4)):Option Bool:=
  YEG (q99 lo) fun y552=>bif(!y552)then(YEG (q99 lo) fun y553=>some y553)else(YEG (q101 lo from0_0 from0_1) fun y554=>bif(!y554)then(YEG (q99 lo) fun y555=>some y555)else(YEG (q101 lo to1_0 to1_1) fun y556=>bif(!y556)then(YEG (q99 lo) fun y557=>some y557)else(YEG (q85 lo from0_0 from0_1 to1_0 to1_1) fun y558=>YEG (q142 lo from0_0 from0_1 to1_0 to1_1) fun y575=>bif(!y575)then(bif(!y558.2)then(some (decide ((y558.1.length:Int)=(0:Int))))else(some false))else(bif y558.2 then(YEG (q143 lo from0_0 from0_1 to1_0 to1_1 y558.1) fun y587=>some y587)else(some false)))))
def Yy5:VFn:=⟨true,44,[.t 4],
 (.seq (.reg [o 2 (.box (t 0)),o 3 (.box (t 1)),o 4 (.mv (kb false))])
 (.seq (.seq (.reg [o 7 (.call 469 []),o 8 (.not (t 7)),oM 9 8,og 10 9 false (.load true 2 (t 2)),og 11 9 false (.call 471 [(t 10)]),og 12 9 false (.not (t 11)),o 13 (.pick (t 9) (kb true) (t 12)),oM 14 13,og 15 14 false (.load true 2 (t 3)),og 16 14 false (.call 471 [(t 15)]),og 17 14 false (.not (t 16)),o 18 (.pick (t 14) (kb true) (t 17))])
 (.cond (t 18) (.seq (.reg [o 19 (.call 469 []),oM 4 19])
 (.fz [4] .ret))
 .skip))
 (.seq (.reg [o 21 (.load true 2 (t 2)),o 22 (.load true 2 (t 3)),o 23 (.call 479 [(t 21),(t 22)]),oM 20 23,oE 24 20 0,oE 25 20 1,oM 5 24,oM 6 25])
 (.seq (.seq (.reg [o 26 (.load true 2 (t 2)),o 27 (.load true 2 (t 3)),o 28 (.call 480 [(t 26),(t 27)]),o 29 (.not (t 28))])
 (.cond (t 29) (.seq (.reg [oM 30 6,o 31 (.not (t 30)),oM 32 31,og 33 32 true (.mv (t 5)),og 34 32 true (.len (t 33)),og 35 32 true (.bin .eql (t 34) (k 0)),o 36 (.pick (t 32) (t 35) (kb false)),oM 4 36])
 (.fz [4] .ret))
 .skip))
 (.seq (.reg [oM 37 6,oM 38 37,og 39 38 true (.load true 2 (t 2)),og 40 38 true (.load true 2 (t 3)),og 41 38 true (.mv (t 5)),og 42 38 true (.call 481 [(t 39),(t 40),(t 41)]),o 43 (.pick (t 38) (t 42) (kb false)),oM 4 43])
 (.fz [4] .ret))))))⟩
noncomputable def q144_f(lo:Lo):FnE:=⟨461,true,⟨[0,1],[.ag [.l (cs [.s]),.l Zc2],.ag [.l (cs [.s]),.l Zc2]],[],Zc21⟩,.b,[],(cs [.b]),(fun x=>q144 lo x.1 x.2.1 x.2.2.1 x.2.2.2:Zt5×Zt0×Zt5×Zt0->Option Bool)⟩
noncomputable def YDv(lo:Lo):List FnE:=q144_f lo::YCr lo
theorem Yy6{P:Program}{fm:FM}{lo:Lo}(h:GZ P fm YCr lo)(t:Ti P fm 461 Yy5):GZ P fm YDv lo:=
  h.p (q144_f lo) .n t (by kernel_rfl) (by kernel_rfl) fun x=>by kernel_rfl
end Go.Abs.G47
