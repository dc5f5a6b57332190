/- Functions of the program as functions of data (written by program). No condition. -/
import Derived.Test.YtlmcnindhfbkhaaGreatDoorG
set_option linter.unusedVariables false
set_option linter.unusedSimpArgs false
set_option linter.unusedSectionVars false
open Option renaming bind → YEV
open ByteArray renaming mk → YFf
open Go.IntKind renaming wrap → YFg
namespace Go.Abs.G47
open Go Go.Abs
set_option maxRecDepth 100000
set_option maxHeartbeats 1000000
def q98_L3_b:VCode:=
 (.seq (.seq (.reg [oM 11 5,oM 12 0,oN 13 12,o 14 (.bin .lss (t 11) (t 13))])
 (.cond (t 14) .skip
 (.exit 0)))
 (.seq (.blk 1 (.seq (.reg [oM 17 0,oM 18 5,o 19 (.iad 1 (t 17) (t 18)),oL 20 19,oM 21 1,oM 22 5,o 23 (.iad 1 (t 21) (t 22)),oL 24 23,o 25 (.call 351 [(t 20),(t 24)]),o 26 (.not (t 25))])
 (.cond (t 26) (.seq (.reg [o 4 (.mv (kb false))])
 (.fz [4] .ret))
 .skip)))
 (.reg [oM 15 5,o 16 (.bin .add (t 15) (k 1)),oM 5 16])))
def YmW(lo:Lo):Zt13×Zt13×Int->Option ((Zt13×Zt13×Int)⊕ (Bool⊕Unit)):=fun x=>match x with
  | (a0,b1,i5)=>bif(decide (i5< (a0.length:Int)))then(chk (0<=i5/\i5< (a0.length:Int)) (chk (0<=i5/\i5< (b1.length:Int)) (YEV (q97 lo (a0.getD i5.toNat []) (b1.getD i5.toNat [])) fun y391=>bif(!y391)then(some (.inr (.inl false)))else(some (.inl (a0,b1,(YFg .i64 (i5+(1:Int)))))))))else(some (.inr (.inr ())))
def YmX(lo:Lo):Zt13×Zt13×Int->Option (Bool⊕Unit):=lo.run (YmW lo)
def YxC(lo:Lo):LpE:=⟨3,[],⟨[0,1,5],[.l Zc17,.l Zc17,.i .i64],[],(cs [.l Zc17,.l Zc17,I])⟩,[⟨.ret,⟨[4],[.b],[],(cs [.b])⟩⟩,⟨.exit 0,⟨[],[],[],(cs [])⟩⟩],YmX lo⟩
def YxD(lo:Lo):LL:=(YxC lo,.loop q98_L3_b.er)::[]
theorem YxE(lo:Lo):Lk lo pf (fs98 lo) 0 (YxD lo):=.l .n (YmW lo) rfl (by kernel_rfl) fun x=>by kernel_rfl
def q98(lo:Lo)(a0:List ((List Int)))(b1:List ((List Int))):Option Bool:=
  bif(!decide ((a0.length:Int)=(b1.length:Int)))then(some false)else(YEV (YmX lo (a0,b1,(0:Int))) fun y392=>alt2 y392 (fun y393=>some y393) (fun y394=>some true))
def YxF:VFn:=⟨true,27,[.t 4],
 (.seq (.reg [o 4 (.mv (kb false))])
 (.seq (.seq (.reg [oM 6 0,oN 7 6,oM 8 1,oN 9 8,o 10 (.bin .neq (t 7) (t 9))])
 (.cond (t 10) (.seq (.reg [o 4 (.mv (kb false))])
 (.fz [4] .ret))
 .skip))
 (.seq (.seq (.reg [o 5 (.mv (k 0))])
 (.blk 0 (.loop 3 q98_L3_b)))
 (.seq (.reg [o 4 (.mv (kb true))])
 (.fz [4] .ret)))))⟩
def YmY(lo:Lo):FnE:=⟨346,true,⟨[0,1],[.l Zc17,.l Zc17],[],(cs [.l Zc17,.l Zc17])⟩,.b,[],(cs [.b]),(fun x=>q98 lo x.1 x.2:Zt13×Zt13->Option Bool)⟩
noncomputable def fs99(lo:Lo):List FnE:=YmY lo::fs98 lo
theorem YxG{P:Program}{fm:FM}{lo:Lo}(h:GZ P fm fs98 lo)(t:Ti P fm 346 YxF):GZ P fm fs99 lo:=
  h.p (YmY lo) (YxE lo) t (by kernel_rfl) (by kernel_rfl) fun x=>by kernel_rfl
noncomputable def q99(lo:Lo):Option Bool:=
  YEV (q1 lo (1:Int) ([(1:Int),(2:Int)])) fun y2=>YEV (q1 lo (2:Int) ([(1:Int),(3:Int)])) fun y3=>YEV (q1 lo (3:Int) ([(2:Int),(3:Int)])) fun y4=>YEV (q1 lo (1:Int) ([(3:Int)])) fun y5=>YEV (q2 lo (YFf #[120])) fun y6=>YEV (q2 lo (YFf #[121])) fun y7=>YEV (q2 lo (YFf #[121])) fun y8=>YEV (q66 lo ([((YFf #[114]),[(YFf #[97]),(YFf #[98])],[y2,y3,y4]),((YFf #[115]),[(YFf #[99])],[y5])]) ([(YFf #[120])]) ([((YFf #[114]),[y6,y7]),((YFf #[115]),[y8])])) fun y229=>YEV (q0 lo (2:Int)) fun y230=>YEV (q73 lo ([((YFf #[114]),[(YFf #[97]),(YFf #[98])],[y2,y3,y4]),((YFf #[115]),[(YFf #[99])],[y5])]) ([(YFf #[120])]) ([((YFf #[114]),[y6,y7]),((YFf #[115]),[y8])]) [y230.2]) fun y295=>YEV (q2 lo (YFf #[120])) fun y296=>YEV (q2 lo (YFf #[121])) fun y297=>YEV (q2 lo (YFf #[120])) fun y298=>YEV (q2 lo (YFf #[122])) fun y299=>YEV (q87 lo ([(YFf #[120])]) ([((YFf #[114]),[y296,y297]),((YFf #[114]),[y298,y299])])) fun y369=>YEV (q96 lo y369.1 y369.2.1) fun y387=>bif(decide (y229.2=(0:Int)))then(bif(decide (y295.2=(0:Int)))then(bif(decide (y369.2.2=(0:Int)))then(bif(decide (y387.2=(0:Int)))then(bif(decide ((y229.1.length:Int)=(2:Int)))then(chk (0<=(1:Int)/\ (1:Int)< (y229.1.length:Int)) (chk (0<=(0:Int)/\ (0:Int)< ((y229.1.getD 1 []).length:Int)) (bif(decide (((y229.1.getD 1 []).getD 0 ((0:Int),(0:Int),(YFf #[]))).2.1=(2:Int)))then(YEV (q98 lo y295.1 ([[(3:Int),(1:Int)]])) fun y395=>bif y395 then(bif(decide (y387.1=(YFf #[40,120,41,32,58,32,114,40,120,44,32,122,41])))then(YEV (q86 lo ([(YFf #[120])]) ([((YFf #[114]),[y296,y297]),((YFf #[114]),[y298,y299])]) y369.1 y369.2.1) fun y396=>bif y396 then(YEV (q86 lo y369.1 y369.2.1 ([(YFf #[120])]) ([((YFf #[114]),[y296,y297]),((YFf #[114]),[y298,y299])])) fun y397=>some y397)else(some false))else(some false))else(some false))else(some false))))else(some false))else(some false))else(some false))else(some false))else(some false)
def YxH:VFn:=⟨true,129,[.t 0],
 (.seq (.reg [o 0 (.mv (kb false))])
 (.seq (.reg [o 1 (.mv (.c (.f 497)))])
 (.seq (.reg [o 14 (.bsl (cs [.s]) 2 [(0,(ks (⟨#[97]⟩))),(1,(ks (⟨#[98]⟩)))]),oM 15 1,o 16 (.bsl (cs [I]) 2 [(0,(k 1)),(1,(k 2))]),o 17 (.dyn (t 15) [(k 1),(t 16)]),oM 18 1,o 19 (.bsl (cs [I]) 2 [(0,(k 1)),(1,(k 3))]),o 20 (.dyn (t 18) [(k 2),(t 19)]),oM 21 1,o 22 (.bsl (cs [I]) 2 [(0,(k 2)),(1,(k 3))]),o 23 (.dyn (t 21) [(k 3),(t 22)]),o 24 (.bsl Zc18 3 [(0,(t 17)),(1,(t 20)),(2,(t 23))]),o 25 (.build [.s (⟨#[]⟩),.e (cs [.s]),.e Zc18] [(0,1,(ks (⟨#[114]⟩))),(1,1,(t 14)),(2,1,(t 24))]),o 26 (.bsl (cs [.s]) 1 [(0,(ks (⟨#[99]⟩)))]),oM 27 1,o 28 (.bsl (cs [I]) 1 [(0,(k 3))]),o 29 (.dyn (t 27) [(k 1),(t 28)]),o 30 (.bsl Zc18 1 [(0,(t 29))]),o 31 (.build [.s (⟨#[]⟩),.e (cs [.s]),.e Zc18] [(0,1,(ks (⟨#[115]⟩))),(1,1,(t 26)),(2,1,(t 30))]),o 32 (.bsl Zc3 2 [(0,(t 25)),(1,(t 31))]),o 33 (.build [.e Zc3] [(0,1,(t 32))]),o 2 (.alloc [.e Zc3]),on (.store 1 (t 2) (t 33))])
 (.seq (.reg [o 34 (.bsl (cs [.s]) 1 [(0,(ks (⟨#[120]⟩)))]),o 35 (.call 499 [(ks (⟨#[120]⟩))]),o 36 (.call 499 [(ks (⟨#[121]⟩))]),o 37 (.bsl Zc9 2 [(0,(t 35)),(1,(t 36))]),o 38 (.build [.s (⟨#[]⟩),.e Zc9] [(0,1,(ks (⟨#[114]⟩))),(1,1,(t 37))]),o 39 (.call 499 [(ks (⟨#[121]⟩))]),o 40 (.bsl Zc9 1 [(0,(t 39))]),o 41 (.build [.s (⟨#[]⟩),.e Zc9] [(0,1,(ks (⟨#[115]⟩))),(1,1,(t 40))]),o 42 (.bsl Zc2 2 [(0,(t 38)),(1,(t 41))]),o 43 (.build [.e (cs [.s]),.e Zc2] [(0,1,(t 34)),(1,1,(t 42))]),o 3 (.alloc [.e (cs [.s]),.e Zc2]),on (.store 2 (t 3) (t 43))])
 (.seq (.reg [o 45 (.load true 1 (t 2)),o 46 (.load true 2 (t 3)),o 47 (.call 476 [(t 45),(t 46)]),oM 44 47,oE 48 44 0,oE 49 44 1,oM 4 48,oM 5 49])
 (.seq (.reg [o 51 (.load true 1 (t 2)),o 52 (.load true 2 (t 3)),o 53 (.call 498 [(k 2)]),o 54 (.fld true 1 3 (t 53)),o 55 (.bsl Zc10 1 [(0,(t 54))]),o 56 (.call 495 [(t 51),(t 52),(t 55)]),oM 50 56,oE 57 50 0,oE 58 50 1,oM 6 57,oM 7 58])
 (.seq (.reg [o 59 (.bsl (cs [.s]) 1 [(0,(ks (⟨#[120]⟩)))]),o 60 (.call 499 [(ks (⟨#[120]⟩))]),o 61 (.call 499 [(ks (⟨#[121]⟩))]),o 62 (.bsl Zc9 2 [(0,(t 60)),(1,(t 61))]),o 63 (.build [.s (⟨#[]⟩),.e Zc9] [(0,1,(ks (⟨#[114]⟩))),(1,1,(t 62))]),o 64 (.call 499 [(ks (⟨#[120]⟩))]),o 65 (.call 499 [(ks (⟨#[122]⟩))]),o 66 (.bsl Zc9 2 [(0,(t 64)),(1,(t 65))]),o 67 (.build [.s (⟨#[]⟩),.e Zc9] [(0,1,(ks (⟨#[114]⟩))),(1,1,(t 66))]),o 68 (.bsl Zc2 2 [(0,(t 63)),(1,(t 67))]),o 69 (.build [.e (cs [.s]),.e Zc2] [(0,1,(t 59)),(1,1,(t 68))]),o 8 (.alloc [.e (cs [.s]),.e Zc2]),on (.store 2 (t 8) (t 69))])
 (.seq (.reg [o 71 (.load true 2 (t 8)),o 72 (.call 484 [(t 71)]),oM 70 72,oE 73 70 0,oE 74 70 1,o 9 (.alloc [.e (cs [.s]),.e Zc2]),on (.store 2 (t 9) (t 73)),oM 10 74])
 (.seq (.reg [o 76 (.load true 2 (t 9)),o 77 (.call 489 [(t 76)]),oM 75 77,oE 78 75 0,oE 79 75 1,oM 11 78,oM 12 79])
 (.seq (.reg [oM 80 5,o 81 (.bin .eql (t 80) (k 0)),oM 82 81,og 83 82 true (.mv (t 7)),og 84 82 true (.bin .eql (t 83) (k 0)),o 85 (.pick (t 82) (t 84) (kb false)),oM 86 85,og 87 86 true (.mv (t 10)),og 88 86 true (.bin .eql (t 87) (k 0)),o 89 (.pick (t 86) (t 88) (kb false)),oM 90 89,og 91 90 true (.mv (t 12)),og 92 90 true (.bin .eql (t 91) (k 0)),o 93 (.pick (t 90) (t 92) (kb false)),oM 13 93])
 (.seq (.reg [oM 94 13,oM 95 94,og 96 95 true (.mv (t 4)),og 97 95 true (.len (t 96)),og 98 95 true (.bin .eql (t 97) (k 2)),o 99 (.pick (t 95) (t 98) (kb false)),oM 100 99,og 101 100 true (.mv (t 4)),og 102 100 true (.iad 1 (t 101) (k 1)),og 103 100 true (.load false 1 (t 102)),og 104 100 true (.iad 3 (t 103) (k 0)),og 105 100 true (.fad 1 (t 104)),og 106 100 true (.load false 1 (t 105)),og 107 100 true (.bin .eql (t 106) (k 2)),o 108 (.pick (t 100) (t 107) (kb false)),oM 109 108,og 110 109 true (.mv (t 6)),og 111 109 true (.bsl (cs [I]) 2 [(0,(k 3)),(1,(k 1))]),og 112 109 true (.bsl Zc17 1 [(0,(t 111))]),og 113 109 true (.call 346 [(t 110),(t 112)]),o 114 (.pick (t 109) (t 113) (kb false)),oM 115 114,og 116 115 true (.mv (t 11)),og 117 115 true (.bin .eql (t 116) (ks (⟨#[40,120,41,32,58,32,114,40,120,44,32,122,41]⟩))),o 118 (.pick (t 115) (t 117) (kb false)),oM 119 118,og 120 119 true (.load true 2 (t 8)),og 121 119 true (.load true 2 (t 9)),og 122 119 true (.call 482 [(t 120),(t 121)]),o 123 (.pick (t 119) (t 122) (kb false)),oM 124 123,og 125 124 true (.load true 2 (t 9)),og 126 124 true (.load true 2 (t 8)),og 127 124 true (.call 482 [(t 125),(t 126)]),o 128 (.pick (t 124) (t 127) (kb false)),oM 0 128])
 (.fz [0] .ret))))))))))))⟩
noncomputable def YmZ(lo:Lo):FnE:=⟨469,true,⟨[],[],[],(cs [])⟩,.b,[],(cs [.b]),(fun x=>q99 lo:Unit->Option Bool)⟩
noncomputable def YC0(lo:Lo):List FnE:=YmZ lo::fs99 lo
theorem YxI{P:Program}{fm:FM}{lo:Lo}(h:GZ P fm fs99 lo)(t:Ti P fm 469 YxH):GZ P fm YC0 lo:=
  h.p (YmZ lo) .n t (by kernel_rfl) (by kernel_rfl) fun x=>by kernel_rfl
noncomputable def YCs(lo:Lo):List FnE:=YC0 lo
def q101_L3_b:VCode:=
 (.seq (.reg [o 19 (.bin .lss (t 18) (t 17))])
 (.seq (.cond (t 19) .skip
 (.exit 0))
 (.seq (.blk 1 (.seq (.reg [oM 20 18,o 21 (.iad 2 (t 16) (t 18)),o 22 (.load true 2 (t 21)),o 4 (.alloc [.s (⟨#[]⟩),.e Zc9]),oM 3 20,on (.store 2 (t 4) (t 22))])
 (.seq (.reg [oF 23 1 4,oL 24 23,oN 25 24,o 26 (.bin .gtr (t 25) (k 20)),oM 27 26,og 28 27 false (.mv (t 3)),og 29 27 false (.bin .gtr (t 28) (k 3)),og 30 27 false (.mv (t 29)),og 31 30 true (.fad 1 (t 4)),og 32 30 true (.load false 1 (t 31)),og 33 30 true (.len (t 32)),og 34 30 true (.bin .gtr (t 33) (k 1)),og 35 27 false (.pick (t 30) (t 34) (kb false)),o 36 (.pick (t 27) (kb true) (t 35))])
 (.cond (t 36) (.seq (.reg [o 2 (.mv (kb false))])
 (.fz [2] .ret))
 .skip))))
 (.reg [o 37 (.bin .add (t 18) (k 1)),oM 18 37]))))
def Yea(lo:Lo):Zt0×Int×Int->Option ((Zt0×Int×Int)⊕ (Bool⊕Unit)):=fun x=>match x with
  | (v16,v17,v18)=>bif(decide (v18<v17))then(chk (0<=v18/\v18< (v16.length:Int)) (bif(decide ((20:Int)< (((v16.getD v18.toNat ((YFf #[]),[])).2).length:Int)))then(some (.inr (.inl false)))else(bif(decide ((3:Int)<v18))then(bif(decide ((1:Int)< (((v16.getD v18.toNat ((YFf #[]),[])).2).length:Int)))then(some (.inr (.inl false)))else(some (.inl (v16,v17,(YFg .i64 (v18+(1:Int)))))))else(some (.inl (v16,v17,(YFg .i64 (v18+(1:Int)))))))))else(some (.inr (.inr ())))
def Ygb(lo:Lo):Zt0×Int×Int->Option (Bool⊕Unit):=lo.run (Yea lo)
def YxJ(lo:Lo):LpE:=⟨3,[],⟨[16,17,18],[.l Zc2,.i .i64,.i .i64],[],(cs [.l Zc2,I,I])⟩,[⟨.ret,⟨[2],[.b],[],(cs [.b])⟩⟩,⟨.exit 0,⟨[],[],[],(cs [])⟩⟩],Ygb lo⟩
def YxK(lo:Lo):LL:=(YxJ lo,.loop q101_L3_b.er)::[]
theorem YxL(lo:Lo):Lk lo pf (YCs lo) 0 (YxK lo):=.l .n (Yea lo) rfl (by kernel_rfl) fun x=>by kernel_rfl
def q101(lo:Lo)(q0_0:List ByteArray)(q0_1:List (ByteArray×Zt5)):Option Bool:=
  bif(decide ((10:Int)< (q0_0.length:Int)))then(some false)else(bif(decide ((8:Int)< (q0_1.length:Int)))then(some false)else(YEV (Ygb lo (q0_1,(q0_1.length:Int),(0:Int))) fun y405=>alt2 y405 (fun y406=>some y406) (fun y407=>some true)))
def YxM:VFn:=⟨true,38,[.t 2],
 (.seq (.reg [o 1 (.box (t 0)),o 2 (.mv (kb false))])
 (.seq (.seq (.reg [oF 5 0 1,oL 6 5,oN 7 6,o 8 (.bin .gtr (t 7) (k 10)),oM 9 8,og 10 9 false (.fad 1 (t 1)),og 11 9 false (.load false 1 (t 10)),og 12 9 false (.len (t 11)),og 13 9 false (.bin .gtr (t 12) (k 8)),o 14 (.pick (t 9) (kb true) (t 13))])
 (.cond (t 14) (.seq (.reg [o 2 (.mv (kb false))])
 (.fz [2] .ret))
 .skip))
 (.seq (.seq (.reg [oF 15 1 1,oL 16 15,oN 17 16,o 18 (.mv (k 0))])
 (.blk 0 (.loop 3 q101_L3_b)))
 (.seq (.reg [o 2 (.mv (kb true))])
 (.fz [2] .ret)))))⟩
def Ym0(lo:Lo):FnE:=⟨471,true,⟨[0],[.ag [.l (cs [.s]),.l Zc2]],[],Zc20⟩,.b,[],(cs [.b]),(fun x=>q101 lo x.1 x.2:Zt4×Zt0->Option Bool)⟩
noncomputable def YCt(lo:Lo):List FnE:=Ym0 lo::YCs lo
theorem YxN{P:Program}{fm:FM}{lo:Lo}(h:GZ P fm YCs lo)(t:Ti P fm 471 YxM):GZ P fm YCt lo:=
  h.p (Ym0 lo) (YxL lo) t (by kernel_rfl) (by kernel_rfl) fun x=>by kernel_rfl
def q102(lo:Lo)(c0:Int):Option Bool:=
  bif(decide ((97:Int)<=c0))then(bif(decide (c0<=(122:Int)))then(some true)else(bif(decide ((65:Int)<=c0))then(bif(decide (c0<=(90:Int)))then(some true)else(some (decide (c0=(95:Int)))))else(some (decide (c0=(95:Int))))))else(bif(decide ((65:Int)<=c0))then(bif(decide (c0<=(90:Int)))then(some true)else(some (decide (c0=(95:Int)))))else(some (decide (c0=(95:Int)))))
def YxO:VFn:=⟨true,21,[.t 2],
 (.seq (.reg [o 2 (.mv (kb false))])
 (.seq (.reg [oM 3 0,o 4 (.bin .geq (t 3) (ki .u8 97)),oM 5 4,og 6 5 true (.mv (t 0)),og 7 5 true (.bin .leq (t 6) (ki .u8 122)),o 8 (.pick (t 5) (t 7) (kb false)),oM 9 8,og 10 9 false (.mv (t 0)),og 11 9 false (.bin .geq (t 10) (ki .u8 65)),og 12 9 false (.mv (t 11)),og 13 12 true (.mv (t 0)),og 14 12 true (.bin .leq (t 13) (ki .u8 90)),og 15 9 false (.pick (t 12) (t 14) (kb false)),o 16 (.pick (t 9) (kb true) (t 15)),oM 17 16,og 18 17 false (.mv (t 0)),og 19 17 false (.bin .eql (t 18) (ki .u8 95)),o 20 (.pick (t 17) (kb true) (t 19)),oM 2 20])
 (.fz [2] .ret)))⟩
def Ym1(lo:Lo):FnE:=⟨295,true,⟨[0],[.i .u8],[],Zc38⟩,.b,[],(cs [.b]),(fun x=>q102 lo x:Int->Option Bool)⟩
noncomputable def YB6(lo:Lo):List FnE:=Ym1 lo::YCt lo
theorem YxP{P:Program}{fm:FM}{lo:Lo}(h:GZ P fm YCt lo)(t:Ti P fm 295 YxO):GZ P fm YB6 lo:=
  h.p (Ym1 lo) .n t (by kernel_rfl) (by kernel_rfl) fun x=>by kernel_rfl
def q103_L3_b:VCode:=
 (.seq (.seq (.reg [oM 22 3,oM 23 0,o 24 (.lenS (t 23)),o 25 (.bin .lss (t 22) (t 24))])
 (.cond (t 25) .skip
 (.exit 0)))
 (.seq (.blk 1 (.seq (.reg [oM 28 0,oM 29 3,o 30 (.idx (t 28) (t 29)),o 31 (.call 295 [(t 30)]),o 32 (.not (t 31)),oM 33 32,og 34 33 true (.mv (t 0)),og 35 33 true (.mv (t 3)),og 36 33 true (.idx (t 34) (t 35)),og 37 33 true (.bin .lss (t 36) (ki .u8 48)),og 38 33 true (.mv (t 37)),og 39 38 false (.mv (t 0)),og 40 38 false (.mv (t 3)),og 41 38 false (.idx (t 39) (t 40)),og 42 38 false (.bin .gtr (t 41) (ki .u8 57)),og 43 33 true (.pick (t 38) (kb true) (t 42)),o 44 (.pick (t 33) (t 43) (kb false))])
 (.cond (t 44) (.seq (.reg [o 2 (.mv (kb false))])
 (.fz [2] .ret))
 .skip)))
 (.reg [oM 26 3,o 27 (.bin .add (t 26) (k 1)),oM 3 27])))
def Yeb(lo:Lo):ByteArray×Int->Option ((ByteArray×Int)⊕ (Bool⊕Unit)):=fun x=>match x with
  | (s0,i3)=>bif(decide (i3< (s0.size:Int)))then(chk (0<=i3/\i3< (s0.size:Int)) (YEV (q102 lo (YzT s0 i3)) fun y412=>bif(!y412)then(chk (0<=i3/\i3< (s0.size:Int)) (bif(decide ((YzT s0 i3)< (48:Int)))then(some (.inr (.inl false)))else(chk (0<=i3/\i3< (s0.size:Int)) (bif(decide ((57:Int)< (YzT s0 i3)))then(some (.inr (.inl false)))else(some (.inl (s0,(YFg .i64 (i3+(1:Int))))))))))else(some (.inl (s0,(YFg .i64 (i3+(1:Int))))))))else(some (.inr (.inr ())))
def Ygc(lo:Lo):ByteArray×Int->Option (Bool⊕Unit):=lo.run (Yeb lo)
def YxQ(lo:Lo):LpE:=⟨3,[],⟨[0,3],[.s,.i .i64],[],(cs [.s,I])⟩,[⟨.ret,⟨[2],[.b],[],(cs [.b])⟩⟩,⟨.exit 0,⟨[],[],[],(cs [])⟩⟩],Ygc lo⟩
def YxR(lo:Lo):LL:=(YxQ lo,.loop q103_L3_b.er)::[]
theorem YxS(lo:Lo):Lk lo pf (YB6 lo) 0 (YxR lo):=.l .n (Yeb lo) rfl (by kernel_rfl) fun x=>by kernel_rfl
def q103(lo:Lo)(s0:ByteArray):Option Bool:=
  bif(decide ((s0.size:Int)=(0:Int)))then(some false)else(bif(decide ((24:Int)< (s0.size:Int)))then(some false)else(chk (0<=(0:Int)/\ (0:Int)< (s0.size:Int)) (YEV (q102 lo (YzT s0 (0:Int))) fun y411=>bif(!y411)then(some false)else(bif(decide (s0=(YFf #[110,117,108,108])))then(some false)else(YEV (Ygc lo (s0,(0:Int))) fun y413=>alt2 y413 (fun y414=>some y414) (fun y415=>some true))))))
def YxT:VFn:=⟨true,45,[.t 2],
 (.seq (.reg [o 2 (.mv (kb false))])
 (.seq (.seq (.reg [oM 4 0,o 5 (.lenS (t 4)),o 6 (.bin .eql (t 5) (k 0)),oM 7 6,og 8 7 false (.mv (t 0)),og 9 7 false (.lenS (t 8)),og 10 7 false (.bin .gtr (t 9) (k 24)),o 11 (.pick (t 7) (kb true) (t 10)),oM 12 11,og 13 12 false (.mv (t 0)),og 14 12 false (.idx (t 13) (k 0)),og 15 12 false (.call 295 [(t 14)]),og 16 12 false (.not (t 15)),o 17 (.pick (t 12) (kb true) (t 16)),oM 18 17,og 19 18 false (.mv (t 0)),og 20 18 false (.bin .eql (t 19) (ks (⟨#[110,117,108,108]⟩))),o 21 (.pick (t 18) (kb true) (t 20))])
 (.cond (t 21) (.seq (.reg [o 2 (.mv (kb false))])
 (.fz [2] .ret))
 .skip))
 (.seq (.seq (.reg [o 3 (.mv (k 0))])
 (.blk 0 (.loop 3 q103_L3_b)))
 (.seq (.reg [o 2 (.mv (kb true))])
 (.fz [2] .ret)))))⟩
def Ym2(lo:Lo):FnE:=⟨258,true,⟨[0],[.s],[],(cs [.s])⟩,.b,[],(cs [.b]),(fun x=>q103 lo x:ByteArray->Option Bool)⟩
noncomputable def YB7(lo:Lo):List FnE:=Ym2 lo::YB6 lo
theorem YxU{P:Program}{fm:FM}{lo:Lo}(h:GZ P fm YB6 lo)(t:Ti P fm 258 YxT):GZ P fm YB7 lo:=
  h.p (Ym2 lo) (YxS lo) t (by kernel_rfl) (by kernel_rfl) fun x=>by kernel_rfl
def q104_L3_b:VCode:=
 (.seq (.seq (.reg [oM 6 5,oM 7 0,oN 8 7,o 9 (.bin .lss (t 6) (t 8))])
 (.cond (t 9) .skip
 (.exit 0)))
 (.seq (.blk 1 (.seq (.reg [oM 12 0,oM 13 5,o 14 (.iad 1 (t 12) (t 13)),oL 15 14,oM 16 1,o 17 (.bin .eql (t 15) (t 16))])
 (.cond (t 17) (.seq (.reg [oM 18 5,oM 4 18])
 (.fz [4] .ret))
 .skip)))
 (.reg [oM 10 5,o 11 (.bin .add (t 10) (k 1)),oM 5 11])))
def Yec(lo:Lo):Zt4×ByteArray×Int->Option ((Zt4×ByteArray×Int)⊕ (Int⊕Unit)):=fun x=>match x with
  | (l0,name1,i5)=>bif(decide (i5< (l0.length:Int)))then(chk (0<=i5/\i5< (l0.length:Int)) (bif(decide ((l0.getD i5.toNat (YFf #[]))=name1))then(some (.inr (.inl i5)))else(some (.inl (l0,name1,(YFg .i64 (i5+(1:Int))))))))else(some (.inr (.inr ())))
def Ygd(lo:Lo):Zt4×ByteArray×Int->Option (Int⊕Unit):=lo.run (Yec lo)
def YxV(lo:Lo):LpE:=⟨3,[],⟨[0,1,5],[.l (cs [.s]),.s,.i .i64],[],(cs [.l (cs [.s]),.s,I])⟩,[⟨.ret,⟨[4],[.i .i64],[],(cs [I])⟩⟩,⟨.exit 0,⟨[],[],[],(cs [])⟩⟩],Ygd lo⟩
def YxW(lo:Lo):LL:=(YxV lo,.loop q104_L3_b.er)::[]
theorem YxX(lo:Lo):Lk lo pf (YB7 lo) 0 (YxW lo):=.l .n (Yec lo) rfl (by kernel_rfl) fun x=>by kernel_rfl
def q104(lo:Lo)(l0:List ByteArray)(name1:ByteArray):Option Int:=
  YEV (Ygd lo (l0,name1,(0:Int))) fun y418=>alt2 y418 (fun y419=>some y419) (fun y420=>some (-1:Int))
def YxY:VFn:=⟨true,19,[.t 4],
 (.seq (.reg [o 4 (.mv (k 0))])
 (.seq (.seq (.reg [o 5 (.mv (k 0))])
 (.blk 0 (.loop 3 q104_L3_b)))
 (.seq (.reg [o 4 (.mv (k (-1)))])
 (.fz [4] .ret))))⟩
def Ym3(lo:Lo):FnE:=⟨272,true,⟨[0,1],[.l (cs [.s]),.s],[],(cs [.l (cs [.s]),.s])⟩,.i .i64,[],(cs [I]),(fun x=>q104 lo x.1 x.2:Zt4×ByteArray->Option Int)⟩
noncomputable def YC1(lo:Lo):List FnE:=Ym3 lo::YB7 lo
theorem YxZ{P:Program}{fm:FM}{lo:Lo}(h:GZ P fm YB7 lo)(t:Ti P fm 272 YxY):GZ P fm YC1 lo:=
  h.p (Ym3 lo) (YxX lo) t (by kernel_rfl) (by kernel_rfl) fun x=>by kernel_rfl
noncomputable def YC2(lo:Lo):List FnE:=YC1 lo
def q106(lo:Lo)(v0_0:Int)(v0_1:Int)(v0_2:ByteArray):Option Bool:=
  bif(decide (v0_0=(0:Int)))then(bif(decide (v0_1=(0:Int)))then(some (decide (v0_2=(YFf #[]))))else(some false))else(bif(decide (v0_0=(1:Int)))then(some (decide (v0_2=(YFf #[]))))else(bif(decide (v0_0=(2:Int)))then(bif(decide (v0_1=(0:Int)))then(some (decide ((v0_2.size:Int)<=(200:Int))))else(some false))else(bif(decide (v0_0=(3:Int)))then(bif(decide ((1:Int)<=v0_1))then(some (decide (v0_2=(YFf #[]))))else(some false))else(some false))))
def Yx0:VFn:=⟨true,44,[.t 2],
 (.seq (.reg [o 1 (.box (t 0)),o 2 (.mv (kb false))])
 (.seq (.seq (.reg [oF 3 0 1,oL 4 3])
 (.blk 0 (.seq (.reg [o 6 (.bin .eql (t 4) (k 0)),oM 5 6])
 (.cond (t 5) (.seq (.reg [oF 7 1 1,oL 8 7,o 9 (.bin .eql (t 8) (k 0)),oM 10 9,og 11 10 true (.fad 2 (t 1)),og 12 10 true (.load false 1 (t 11)),og 13 10 true (.bin .eql (t 12) (ks (⟨#[]⟩))),o 14 (.pick (t 10) (t 13) (kb false)),oM 2 14])
 (.fz [2] .ret))
 (.seq (.reg [o 16 (.bin .eql (t 4) (k 1)),oM 15 16])
 (.cond (t 15) (.seq (.reg [oF 17 2 1,oL 18 17,o 19 (.bin .eql (t 18) (ks (⟨#[]⟩))),oM 2 19])
 (.fz [2] .ret))
 (.seq (.reg [o 21 (.bin .eql (t 4) (k 2)),oM 20 21])
 (.cond (t 20) (.seq (.reg [oF 22 1 1,oL 23 22,o 24 (.bin .eql (t 23) (k 0)),oM 25 24,og 26 25 true (.fad 2 (t 1)),og 27 25 true (.load false 1 (t 26)),og 28 25 true (.lenS (t 27)),og 29 25 true (.bin .leq (t 28) (k 200)),o 30 (.pick (t 25) (t 29) (kb false)),oM 2 30])
 (.fz [2] .ret))
 .skip))))))))
 (.seq (.reg [oF 31 0 1,oL 32 31,o 33 (.bin .eql (t 32) (k 3)),oM 34 33,og 35 34 true (.fad 1 (t 1)),og 36 34 true (.load false 1 (t 35)),og 37 34 true (.bin .geq (t 36) (k 1)),o 38 (.pick (t 34) (t 37) (kb false)),oM 39 38,og 40 39 true (.fad 2 (t 1)),og 41 39 true (.load false 1 (t 40)),og 42 39 true (.bin .eql (t 41) (ks (⟨#[]⟩))),o 43 (.pick (t 39) (t 42) (kb false)),oM 2 43])
 (.fz [2] .ret))))⟩
def Ym4(lo:Lo):FnE:=⟨284,true,⟨[0],[.ag [.i .i64,.i .i64,.s]],[],Zc10⟩,.b,[],(cs [.b]),(fun x=>q106 lo x.1 x.2.1 x.2.2:Int×Int×ByteArray->Option Bool)⟩
noncomputable def YC3(lo:Lo):List FnE:=Ym4 lo::YC2 lo
theorem Yx1{P:Program}{fm:FM}{lo:Lo}(h:GZ P fm YC2 lo)(t:Ti P fm 284 Yx0):GZ P fm YC3 lo:=
  h.p (Ym4 lo) .n t (by kernel_rfl) (by kernel_rfl) fun x=>by kernel_rfl
noncomputable def YDm(lo:Lo):List FnE:=YC3 lo
noncomputable def YDn(lo:Lo):List FnE:=YDm lo
noncomputable def YDo(lo:Lo):List FnE:=YDn lo
noncomputable def YC4(lo:Lo):List FnE:=YDo lo
def q111(lo:Lo)(t0_0:ByteArray)(t0_1:Int)(t0_2:Int)(t0_3:ByteArray):Option Bool:=
  bif(!decide (t0_0=(YFf #[])))then(YEV (q103 lo t0_0) fun y444=>bif y444 then(some ((decide (t0_1=(0:Int)))&& ((decide (t0_2=(0:Int)))&& ((decide (t0_3=(YFf #[])))&&true))))else(some false))else(YEV (q106 lo t0_1 t0_2 t0_3) fun y445=>some y445)
def Yx2:VFn:=⟨true,18,[.t 2],
 (.seq (.reg [o 1 (.box (t 0)),o 2 (.mv (kb false))])
 (.seq (.seq (.reg [oF 3 0 1,oL 4 3,o 5 (.bin .neq (t 4) (ks (⟨#[]⟩)))])
 (.cond (t 5) (.seq (.reg [oF 6 0 1,oL 7 6,o 8 (.call 258 [(t 7)]),oM 9 8,og 10 9 true (.fad 1 (t 1)),og 11 9 true (.load true 3 (t 10)),og 12 9 true (.build [.i .i64 0,.i .i64 0,.s (⟨#[]⟩)] []),og 13 9 true (.eqa false [1,1,2] (t 11) (t 12)),o 14 (.pick (t 9) (t 13) (kb false)),oM 2 14])
 (.fz [2] .ret))
 .skip))
 (.seq (.reg [oF 15 1 1,o 16 (.load true 3 (t 15)),o 17 (.call 284 [(t 16)]),oM 2 17])
 (.fz [2] .ret))))⟩
def Ym5(lo:Lo):FnE:=⟨542,true,⟨[0],[.ag [.s,.i .i64,.i .i64,.s]],[],Zc9⟩,.b,[],(cs [.b]),(fun x=>q111 lo x.1 x.2.1 x.2.2.1 x.2.2.2:Zp76->Option Bool)⟩
noncomputable def YB8(lo:Lo):List FnE:=Ym5 lo::YC4 lo
theorem Yx3{P:Program}{fm:FM}{lo:Lo}(h:GZ P fm YC4 lo)(t:Ti P fm 542 Yx2):GZ P fm YB8 lo:=
  h.p (Ym5 lo) .n t (by kernel_rfl) (by kernel_rfl) fun x=>by kernel_rfl
def q112_L3_b:VCode:=
 (.seq (.seq (.reg [oM 4 3,oF 5 1 1,oL 6 5,oN 7 6,o 8 (.bin .lss (t 4) (t 7))])
 (.cond (t 8) .skip
 (.exit 0)))
 (.seq (.blk 1 (.seq (.reg [oF 11 1 1,oL 12 11,oM 13 3,o 14 (.iad 4 (t 12) (t 13)),o 15 (.load true 4 (t 14)),o 16 (.call 542 [(t 15)]),o 17 (.not (t 16))])
 (.cond (t 17) (.seq (.reg [o 2 (.mv (kb false))])
 (.fz [2] .ret))
 .skip)))
 (.reg [oM 9 3,o 10 (.bin .add (t 9) (k 1)),oM 3 10])))
def Yed(lo:Lo):Int×ByteArray×Zt5->Option ((Int×ByteArray×Zt5)⊕ (Bool⊕Unit)):=fun x=>match x with
  | (i3,a1_0,a1_1)=>bif(decide (i3< (a1_1.length:Int)))then(chk (0<=i3/\i3< (a1_1.length:Int)) (YEV (q111 lo ((a1_1.getD i3.toNat ((YFf #[]),(0:Int),(0:Int),(YFf #[]))).1) ((a1_1.getD i3.toNat ((YFf #[]),(0:Int),(0:Int),(YFf #[]))).2.1) ((a1_1.getD i3.toNat ((YFf #[]),(0:Int),(0:Int),(YFf #[]))).2.2.1) ((a1_1.getD i3.toNat ((YFf #[]),(0:Int),(0:Int),(YFf #[]))).2.2.2)) fun y446=>bif(!y446)then(some (.inr (.inl false)))else(some (.inl ((YFg .i64 (i3+(1:Int))),a1_0,a1_1)))))else(some (.inr (.inr ())))
def Yge(lo:Lo):Int×ByteArray×Zt5->Option (Bool⊕Unit):=lo.run (Yed lo)
def Yx4(lo:Lo):LpE:=⟨3,[],⟨[1,3],[.ptr 0 0 0,.i .i64],[.st [.s,.l Zc9]],(cs [I,.s,.l Zc9])⟩,[⟨.ret,⟨[2],[.b],[],(cs [.b])⟩⟩,⟨.exit 0,⟨[],[],[],(cs [])⟩⟩],Yge lo⟩
def Yx5(lo:Lo):LL:=(Yx4 lo,.loop q112_L3_b.er)::[]
theorem Yx6(lo:Lo):Lk lo pf (YB8 lo) 0 (Yx5 lo):=.l .n (Yed lo) rfl (by kernel_rfl) fun x=>by kernel_rfl
def q112(lo:Lo)(a0_0:ByteArray)(a0_1:List Zp76):Option Bool:=
  YEV (Yge lo ((0:Int),a0_0,a0_1)) fun y447=>alt2 y447 (fun y448=>some y448) (fun y449=>some true)
def Yx7:VFn:=⟨true,18,[.t 2],
 (.seq (.reg [o 1 (.box (t 0)),o 2 (.mv (kb false))])
 (.seq (.seq (.reg [o 3 (.mv (k 0))])
 (.blk 0 (.loop 3 q112_L3_b)))
 (.seq (.reg [o 2 (.mv (kb true))])
 (.fz [2] .ret))))⟩
def Ym6(lo:Lo):FnE:=⟨508,true,⟨[0],[.ag [.s,.l Zc9]],[],Zc2⟩,.b,[],(cs [.b]),(fun x=>q112 lo x.1 x.2:ByteArray×Zt5->Option Bool)⟩
noncomputable def YBL(lo:Lo):List FnE:=Ym6 lo::YB8 lo
theorem Yx8{P:Program}{fm:FM}{lo:Lo}(h:GZ P fm YB8 lo)(t:Ti P fm 508 Yx7):GZ P fm YBL lo:=
  h.p (Ym6 lo) (Yx6 lo) t (by kernel_rfl) (by kernel_rfl) fun x=>by kernel_rfl
end Go.Abs.G47
namespace Go.Abs.G47
open Go Go.Abs
set_option maxRecDepth 100000
set_option maxHeartbeats 1000000
def q113_L5_b:VCode:=
 (.seq (.seq (.reg [oM 13 5,oM 14 0,oM 15 4,o 16 (.iad 2 (t 14) (t 15)),oF 17 1 16,oL 18 17,oN 19 18,o 20 (.bin .lss (t 13) (t 19))])
 (.cond (t 20) .skip
 (.exit 2)))
 (.seq (.blk 3 (.seq (.reg [oM 23 0,oM 24 4,o 25 (.iad 2 (t 23) (t 24)),oF 26 1 25,oL 27 26,oM 28 5,o 29 (.iad 4 (t 27) (t 28)),oF 30 0 29,oL 31 30,oM 6 31])
 (.seq (.reg [oM 32 6,o 33 (.bin .neq (t 32) (ks (⟨#[]⟩))),oM 34 33,og 35 34 true (.mv (t 3)),og 36 34 true (.mv (t 6)),og 37 34 true (.call 272 [(t 35),(t 36)]),og 38 34 true (.bin .lss (t 37) (k 0)),o 39 (.pick (t 34) (t 38) (kb false))])
 (.cond (t 39) (.reg [oM 40 3,oM 41 6,o 42 (.bsl (cs [.s]) 1 [(0,(t 41))]),o 43 (.app (cs [.s]) 0 (t 40) (t 42)),oM 3 43])
 .skip))))
 (.reg [oM 21 5,o 22 (.bin .add (t 21) (k 1)),oM 5 22])))
def Yee(lo:Lo):Zt0×Int×Int×Zt4->Option ((Zt0×Int×Int×Zt4)⊕ ((Zt0×Int×Zt4))):=fun x=>match x with
  | (l0,i4,k5,out3)=>chk (0<=i4/\i4< (l0.length:Int)) (bif(decide (k5< (((l0.getD i4.toNat ((YFf #[]),[])).2).length:Int)))then(chk (0<=i4/\i4< (l0.length:Int)) (chk (0<=k5/\k5< (((l0.getD i4.toNat ((YFf #[]),[])).2).length:Int)) (bif(!decide ((((l0.getD i4.toNat ((YFf #[]),[])).2).getD k5.toNat ((YFf #[]),(0:Int),(0:Int),(YFf #[]))).1=(YFf #[])))then(YEV (q104 lo out3 ((((l0.getD i4.toNat ((YFf #[]),[])).2).getD k5.toNat ((YFf #[]),(0:Int),(0:Int),(YFf #[]))).1)) fun y454=>bif(decide (y454< (0:Int)))then(chk (out3.length+([(((l0.getD i4.toNat ((YFf #[]),[])).2).getD k5.toNat ((YFf #[]),(0:Int),(0:Int),(YFf #[]))).1]).length<=maxEl) (some (.inl (l0,i4,(YFg .i64 (k5+(1:Int))),(out3++([(((l0.getD i4.toNat ((YFf #[]),[])).2).getD k5.toNat ((YFf #[]),(0:Int),(0:Int),(YFf #[]))).1]))))))else(some (.inl (l0,i4,(YFg .i64 (k5+(1:Int))),out3))))else(some (.inl (l0,i4,(YFg .i64 (k5+(1:Int))),out3))))))else(some (.inr (l0,i4,out3))))
def Ygf(lo:Lo):Zt0×Int×Int×Zt4->Option ((Zt0×Int×Zt4)):=lo.run (Yee lo)
def Yx9(lo:Lo):LpE:=⟨5,[],⟨[0,3,4,5],[.l Zc2,.ref 0,.i .i64,.i .i64],[.sq (cs [.s])],(cs [.l Zc2,I,I,.l (cs [.s])])⟩,[⟨.exit 2,⟨[0,3,4],[.l Zc2,.ref 0,.i .i64],[.sq (cs [.s])],(cs [.l Zc2,I,.l (cs [.s])])⟩⟩],Ygf lo⟩
def Ym7(lo:Lo):LL:=(Yx9 lo,.loop q113_L5_b.er)::[]
theorem Yya(lo:Lo):Lk lo pf (YBL lo) 0 (Ym7 lo):=.l .n (Yee lo) rfl (by kernel_rfl) fun x=>by kernel_rfl
def q113_L3_b:VCode:=
 (.seq (.seq (.reg [oM 7 4,oM 8 0,oN 9 8,o 10 (.bin .lss (t 7) (t 9))])
 (.cond (t 10) .skip
 (.exit 0)))
 (.seq (.blk 1 (.seq (.reg [o 5 (.mv (k 0))])
 (.blk 2 (.loop 5 q113_L5_b))))
 (.reg [oM 11 4,o 12 (.bin .add (t 11) (k 1)),oM 4 12])))
def Yef(lo:Lo):Zt0×Int×Zt4->Option ((Zt0×Int×Zt4)⊕ ((Zt4))):=fun x=>match x with
  | (l0,i4,out3)=>bif(decide (i4< (l0.length:Int)))then(YEV (Ygf lo (l0,i4,(0:Int),out3)) fun y455=>some (.inl (y455.1,(YFg .i64 (y455.2.1+(1:Int))),y455.2.2)))else(some (.inr out3))
def Ygg(lo:Lo):Zt0×Int×Zt4->Option ((Zt4)):=lo.run (Yef lo)
def Yyb(lo:Lo):LpE:=⟨3,[(3,none,false)],⟨[0,3,4],[.l Zc2,.ref 0,.i .i64],[.sq (cs [.s])],(cs [.l Zc2,I,.l (cs [.s])])⟩,[⟨.exit 0,⟨[3],[.ref 0],[.sq (cs [.s])],Zc27⟩⟩],Ygg lo⟩
def Yyc(lo:Lo):LL:=(Yyb lo,.loop q113_L3_b.er)::Ym7 lo
theorem Yyd(lo:Lo):Lk lo pf (YBL lo) 0 (Yyc lo):=.l (Yya lo) (Yef lo) rfl (by kernel_rfl) fun x=>by kernel_rfl
def q113(lo:Lo)(l0:List (ByteArray×Zt5)):Option (Zt4):=
  YEV (Ygg lo (l0,(0:Int),[])) fun y456=>some y456
def Yye:VFn:=⟨true,45,[.t 2],
 (.seq (.reg [o 2 (.mv (ke (cs [.s])))])
 (.seq (.reg [o 3 (.mv (ke (cs [.s])))])
 (.seq (.seq (.reg [o 4 (.mv (k 0))])
 (.blk 0 (.loop 3 q113_L3_b)))
 (.seq (.reg [oM 44 3,oM 2 44])
 (.fz [2] .ret)))))⟩
def Ym8(lo:Lo):FnE:=⟨511,true,⟨[0],[.l Zc2],[],Zc37⟩,.l (cs [.s]),[],Zc27,(fun x=>q113 lo x:Zt0->Option (Zt4))⟩
noncomputable def YB9(lo:Lo):List FnE:=Ym8 lo::YBL lo
theorem Yyf{P:Program}{fm:FM}{lo:Lo}(h:GZ P fm YBL lo)(t:Ti P fm 511 Yye):GZ P fm YB9 lo:=
  h.p (Ym8 lo) (Yyd lo) t (by kernel_rfl) (by kernel_rfl) fun x=>by kernel_rfl
def q114_L3_b:VCode:=
 (.seq (.seq (.reg [oM 8 4,oF 9 0 1,oL 10 9,oN 11 10,o 12 (.bin .lss (t 8) (t 11))])
 (.cond (t 12) .skip
 (.exit 0)))
 (.seq (.blk 1 (.seq (.reg [oM 15 3,oF 16 0 1,oL 17 16,oM 18 4,o 19 (.iad 1 (t 17) (t 18)),oL 20 19,o 21 (.call 272 [(t 15),(t 20)]),o 22 (.bin .lss (t 21) (k 0)),oM 23 22,og 24 23 false (.fad 0 (t 1)),og 25 23 false (.load false 1 (t 24)),og 26 23 false (.mv (t 4)),og 27 23 false (.slcR 1 (t 25) none (some (t 26))),og 28 23 false (.fad 0 (t 1)),og 29 23 false (.load false 1 (t 28)),og 30 23 false (.mv (t 4)),og 31 23 false (.iad 1 (t 29) (t 30)),og 32 23 false (.load false 1 (t 31)),og 33 23 false (.call 272 [(t 27),(t 32)]),og 34 23 false (.bin .geq (t 33) (k 0)),o 35 (.pick (t 23) (kb true) (t 34))])
 (.cond (t 35) (.seq (.reg [o 2 (.mv (kb false))])
 (.fz [2] .ret))
 .skip)))
 (.reg [oM 13 4,o 14 (.bin .add (t 13) (k 1)),oM 4 14])))
def Yeg(lo:Lo):Zt4×Int×Zt4×Zt0->Option ((Zt4×Int×Zt4×Zt0)⊕ (Bool⊕Unit)):=fun x=>match x with
  | (l3,i4,q1_0,q1_1)=>bif(decide (i4< (q1_0.length:Int)))then(chk (0<=i4/\i4< (q1_0.length:Int)) (YEV (q104 lo l3 (q1_0.getD i4.toNat (YFf #[]))) fun y458=>bif(decide (y458< (0:Int)))then(some (.inr (.inl false)))else(chk (0<=(0:Int)/\ (0:Int)<=i4/\i4<=(q1_0.length:Int)) (chk (0<=i4/\i4< (q1_0.length:Int)) (YEV (q104 lo ((q1_0.take i4.toNat).drop 0) (q1_0.getD i4.toNat (YFf #[]))) fun y459=>bif(decide ((0:Int)<=y459))then(some (.inr (.inl false)))else(some (.inl (l3,(YFg .i64 (i4+(1:Int))),q1_0,q1_1))))))))else(some (.inr (.inr ())))
def Ygh(lo:Lo):Zt4×Int×Zt4×Zt0->Option (Bool⊕Unit):=lo.run (Yeg lo)
def Yyg(lo:Lo):LpE:=⟨3,[],⟨[1,3,4],[.ptr 0 0 0,.l (cs [.s]),.i .i64],[.st [.l (cs [.s]),.l Zc2]],(cs [.l (cs [.s]),I,.l (cs [.s]),.l Zc2])⟩,[⟨.ret,⟨[2],[.b],[],(cs [.b])⟩⟩,⟨.exit 0,⟨[],[],[],(cs [])⟩⟩],Ygh lo⟩
def Yyh(lo:Lo):LL:=(Yyg lo,.loop q114_L3_b.er)::[]
theorem Yyi(lo:Lo):Lk lo pf (YB9 lo) 0 (Yyh lo):=.l .n (Yeg lo) rfl (by kernel_rfl) fun x=>by kernel_rfl
def q114(lo:Lo)(q0_0:List ByteArray)(q0_1:List (ByteArray×Zt5)):Option Bool:=
  YEV (q113 lo q0_1) fun y457=>YEV (Ygh lo (y457,(0:Int),q0_0,q0_1)) fun y460=>alt2 y460 (fun y461=>some y461) (fun y462=>some true)
def Yyj:VFn:=⟨true,36,[.t 2],
 (.seq (.reg [o 1 (.box (t 0)),o 2 (.mv (kb false))])
 (.seq (.reg [oF 5 1 1,oL 6 5,o 7 (.call 511 [(t 6)]),oM 3 7])
 (.seq (.seq (.reg [o 4 (.mv (k 0))])
 (.blk 0 (.loop 3 q114_L3_b)))
 (.seq (.reg [o 2 (.mv (kb true))])
 (.fz [2] .ret)))))⟩
def Ym9(lo:Lo):FnE:=⟨509,true,⟨[0],[.ag [.l (cs [.s]),.l Zc2]],[],Zc20⟩,.b,[],(cs [.b]),(fun x=>q114 lo x.1 x.2:Zt4×Zt0->Option Bool)⟩
noncomputable def YC5(lo:Lo):List FnE:=Ym9 lo::YB9 lo
theorem Yyk{P:Program}{fm:FM}{lo:Lo}(h:GZ P fm YB9 lo)(t:Ti P fm 509 Yyj):GZ P fm YC5 lo:=
  h.p (Ym9 lo) (Yyi lo) t (by kernel_rfl) (by kernel_rfl) fun x=>by kernel_rfl
noncomputable def YDp(lo:Lo):List FnE:=YC5 lo
noncomputable def YDq(lo:Lo):List FnE:=YDp lo
noncomputable def YDr(lo:Lo):List FnE:=YDq lo
noncomputable def YDs(lo:Lo):List FnE:=YDr lo
noncomputable def YDt(lo:Lo):List FnE:=YDs lo
noncomputable def YDu(lo:Lo):List FnE:=YDt lo
noncomputable def YDv(lo:Lo):List FnE:=YDu lo
end Go.Abs.G47
namespace Go.Abs.G47
open Go Go.Abs
set_option maxRecDepth 100000
set_option maxHeartbeats 1000000
noncomputable def YDw(lo:Lo):List FnE:=YDv lo
noncomputable def YC6(lo:Lo):List FnE:=YDw lo
def q124(lo:Lo)(a0:Int)(b1:Int):Option Int:=
  bif(decide (a0<b1))then(some (-1:Int))else(bif(decide (b1<a0))then(some (1:Int))else(some (0:Int)))
def Yyl:VFn:=⟨true,11,[.t 4],
 (.seq (.reg [o 4 (.mv (k 0))])
 (.seq (.seq (.reg [oM 5 0,oM 6 1,o 7 (.bin .lss (t 5) (t 6))])
 (.cond (t 7) (.seq (.reg [o 4 (.mv (k (-1)))])
 (.fz [4] .ret))
 .skip))
 (.seq (.seq (.reg [oM 8 0,oM 9 1,o 10 (.bin .gtr (t 8) (t 9))])
 (.cond (t 10) (.seq (.reg [o 4 (.mv (k 1))])
 (.fz [4] .ret))
 .skip))
 (.seq (.reg [o 4 (.mv (k 0))])
 (.fz [4] .ret)))))⟩
def Yna(lo:Lo):FnE:=⟨303,true,⟨[0,1],[.i .i64,.i .i64],[],(cs [I,I])⟩,.i .i64,[],(cs [I]),(fun x=>q124 lo x.1 x.2:Int×Int->Option Int)⟩
noncomputable def YCa(lo:Lo):List FnE:=Yna lo::YC6 lo
theorem Yym{P:Program}{fm:FM}{lo:Lo}(h:GZ P fm YC6 lo)(t:Ti P fm 303 Yyl):GZ P fm YCa lo:=
  h.p (Yna lo) .n t (by kernel_rfl) (by kernel_rfl) fun x=>by kernel_rfl
def q125_L3_b:VCode:=
 (.seq (.seq (.reg [oM 6 5,oM 7 0,o 8 (.lenS (t 7)),o 9 (.bin .lss (t 6) (t 8)),oM 10 9,og 11 10 true (.mv (t 5)),og 12 10 true (.mv (t 1)),og 13 10 true (.lenS (t 12)),og 14 10 true (.bin .lss (t 11) (t 13)),o 15 (.pick (t 10) (t 14) (kb false))])
 (.cond (t 15) .skip
 (.exit 0)))
 (.seq (.blk 1 (.seq (.reg [oM 18 0,oM 19 5,o 20 (.idx (t 18) (t 19)),oM 21 1,oM 22 5,o 23 (.idx (t 21) (t 22)),o 24 (.bin .neq (t 20) (t 23))])
 (.cond (t 24) (.seq (.reg [oM 25 0,oM 26 5,o 27 (.idx (t 25) (t 26)),o 28 (.conv .i64 (t 27)),oM 29 1,oM 30 5,o 31 (.idx (t 29) (t 30)),o 32 (.conv .i64 (t 31)),o 33 (.call 303 [(t 28),(t 32)]),oM 4 33])
 (.fz [4] .ret))
 .skip)))
 (.reg [oM 16 5,o 17 (.bin .add (t 16) (k 1)),oM 5 17])))
def YcP(lo:Lo):ByteArray×ByteArray×Int->Option ((ByteArray×ByteArray×Int)⊕ (Int⊕ (ByteArray×ByteArray))):=fun x=>match x with
  | (a0,b1,i5)=>bif(decide (i5< (a0.size:Int)))then(bif(decide (i5< (b1.size:Int)))then(chk (0<=i5/\i5< (a0.size:Int)) (chk (0<=i5/\i5< (b1.size:Int)) (bif(!decide ((YzT a0 i5)=(YzT b1 i5)))then(chk (0<=i5/\i5< (a0.size:Int)) (chk (0<=i5/\i5< (b1.size:Int)) (YEV (q124 lo (YFg .i64 (YzT a0 i5)) (YFg .i64 (YzT b1 i5))) fun y512=>some (.inr (.inl y512)))))else(some (.inl (a0,b1,(YFg .i64 (i5+(1:Int)))))))))else(some (.inr (.inr (a0,b1)))))else(some (.inr (.inr (a0,b1))))
def Ygi(lo:Lo):ByteArray×ByteArray×Int->Option (Int⊕ (ByteArray×ByteArray)):=lo.run (YcP lo)
def Yyn(lo:Lo):LpE:=⟨3,[],⟨[0,1,5],[.s,.s,.i .i64],[],(cs [.s,.s,I])⟩,[⟨.ret,⟨[4],[.i .i64],[],(cs [I])⟩⟩,⟨.exit 0,⟨[0,1],[.s,.s],[],(cs [.s,.s])⟩⟩],Ygi lo⟩
def Yyo(lo:Lo):LL:=(Yyn lo,.loop q125_L3_b.er)::[]
theorem Yyp(lo:Lo):Lk lo pf (YCa lo) 0 (Yyo lo):=.l .n (YcP lo) rfl (by kernel_rfl) fun x=>by kernel_rfl
def q125(lo:Lo)(a0:ByteArray)(b1:ByteArray):Option Int:=
  YEV (Ygi lo (a0,b1,(0:Int))) fun y513=>alt2 y513 (fun y514=>some y514) (fun y515=>YEV (q124 lo (y515.1.size:Int) (y515.2.size:Int)) fun y516=>some y516)
def Yyq:VFn:=⟨true,39,[.t 4],
 (.seq (.reg [o 4 (.mv (k 0))])
 (.seq (.seq (.reg [o 5 (.mv (k 0))])
 (.blk 0 (.loop 3 q125_L3_b)))
 (.seq (.reg [oM 34 0,o 35 (.lenS (t 34)),oM 36 1,o 37 (.lenS (t 36)),o 38 (.call 303 [(t 35),(t 37)]),oM 4 38])
 (.fz [4] .ret))))⟩
def Ynb(lo:Lo):FnE:=⟨320,true,⟨[0,1],[.s,.s],[],(cs [.s,.s])⟩,.i .i64,[],(cs [I]),(fun x=>q125 lo x.1 x.2:ByteArray×ByteArray->Option Int)⟩
noncomputable def YCu(lo:Lo):List FnE:=Ynb lo::YCa lo
theorem Yyr{P:Program}{fm:FM}{lo:Lo}(h:GZ P fm YCa lo)(t:Ti P fm 320 Yyq):GZ P fm YCu lo:=
  h.p (Ynb lo) (Yyp lo) t (by kernel_rfl) (by kernel_rfl) fun x=>by kernel_rfl
def q126(lo:Lo)(a0_0:Int)(a0_1:Int)(a0_2:ByteArray)(b1_0:Int)(b1_1:Int)(b1_2:ByteArray):Option Int:=
  YEV (q124 lo a0_0 b1_0) fun y510=>bif(!decide (y510=(0:Int)))then(some y510)else(YEV (q124 lo a0_1 b1_1) fun y511=>bif(!decide (y511=(0:Int)))then(some y511)else(YEV (q125 lo a0_2 b1_2) fun y517=>some y517))
def Yys:VFn:=⟨true,28,[.t 4],
 (.seq (.reg [o 2 (.box (t 0)),o 3 (.box (t 1)),o 4 (.mv (k 0))])
 (.seq (.seq (.reg [oF 7 0 2,oL 8 7,oF 9 0 3,oL 10 9,o 11 (.call 303 [(t 8),(t 10)]),oM 5 11])
 (.seq (.reg [oM 12 5,o 13 (.bin .neq (t 12) (k 0))])
 (.cond (t 13) (.seq (.reg [oM 14 5,oM 4 14])
 (.fz [4] .ret))
 .skip)))
 (.seq (.seq (.reg [oF 15 1 2,oL 16 15,oF 17 1 3,oL 18 17,o 19 (.call 303 [(t 16),(t 18)]),oM 6 19])
 (.seq (.reg [oM 20 6,o 21 (.bin .neq (t 20) (k 0))])
 (.cond (t 21) (.seq (.reg [oM 22 6,oM 4 22])
 (.fz [4] .ret))
 .skip)))
 (.seq (.reg [oF 23 2 2,oL 24 23,oF 25 2 3,oL 26 25,o 27 (.call 320 [(t 24),(t 26)]),oM 4 27])
 (.fz [4] .ret)))))⟩
def Ync(lo:Lo):FnE:=⟨302,true,⟨[0,1],[.ag [.i .i64,.i .i64,.s],.ag [.i .i64,.i .i64,.s]],[],(cs [I,I,.s,I,I,.s])⟩,.i .i64,[],(cs [I]),(fun x=>q126 lo x.1 x.2.1 x.2.2.1 x.2.2.2.1 x.2.2.2.2.1 x.2.2.2.2.2:Int×Int×ByteArray×Int×Int×ByteArray->Option Int)⟩
noncomputable def YCv(lo:Lo):List FnE:=Ync lo::YCu lo
theorem Yyt{P:Program}{fm:FM}{lo:Lo}(h:GZ P fm YCu lo)(t:Ti P fm 302 Yys):GZ P fm YCv lo:=
  h.p (Ync lo) .n t (by kernel_rfl) (by kernel_rfl) fun x=>by kernel_rfl
def q127(lo:Lo)(a0_0:ByteArray)(a0_1:Int)(a0_2:Int)(a0_3:ByteArray)(b1_0:ByteArray)(b1_1:Int)(b1_2:Int)(b1_3:ByteArray):Option Bool:=
  bif(decide (a0_0=b1_0))then(YEV (q126 lo a0_1 a0_2 a0_3 b1_1 b1_2 b1_3) fun y518=>some (decide (y518=(0:Int))))else(some false)
def Yyu:VFn:=⟨true,18,[.t 4],
 (.seq (.reg [o 2 (.box (t 0)),o 3 (.box (t 1)),o 4 (.mv (kb false))])
 (.seq (.reg [oF 5 0 2,oL 6 5,oF 7 0 3,oL 8 7,o 9 (.bin .eql (t 6) (t 8)),oM 10 9,og 11 10 true (.fad 1 (t 2)),og 12 10 true (.load true 3 (t 11)),og 13 10 true (.fad 1 (t 3)),og 14 10 true (.load true 3 (t 13)),og 15 10 true (.call 302 [(t 12),(t 14)]),og 16 10 true (.bin .eql (t 15) (k 0)),o 17 (.pick (t 10) (t 16) (kb false)),oM 4 17])
 (.fz [4] .ret)))⟩
def Ynd(lo:Lo):FnE:=⟨524,true,⟨[0,1],[.ag [.s,.i .i64,.i .i64,.s],.ag [.s,.i .i64,.i .i64,.s]],[],(cs [.s,I,I,.s,.s,I,I,.s])⟩,.b,[],(cs [.b]),(fun x=>q127 lo x.1 x.2.1 x.2.2.1 x.2.2.2.1 x.2.2.2.2.1 x.2.2.2.2.2.1 x.2.2.2.2.2.2.1 x.2.2.2.2.2.2.2:ByteArray×Int×Int×ByteArray×ByteArray×Int×Int×ByteArray->Option Bool)⟩
noncomputable def YCw(lo:Lo):List FnE:=Ynd lo::YCv lo
theorem Yyv{P:Program}{fm:FM}{lo:Lo}(h:GZ P fm YCv lo)(t:Ti P fm 524 Yyu):GZ P fm YCw lo:=
  h.p (Ynd lo) .n t (by kernel_rfl) (by kernel_rfl) fun x=>by kernel_rfl
def q128(lo:Lo)(b0_0:List ByteArray)(b0_1:List Zp76)(t1_0:ByteArray)(t1_1:Int)(t1_2:Int)(t1_3:ByteArray)(u2_0:ByteArray)(u2_1:Int)(u2_2:Int)(u2_3:ByteArray):Option (Zt4×Zt5×Bool):=
  bif(decide (t1_0=(YFf #[])))then(YEV (q127 lo t1_0 t1_1 t1_2 t1_3 u2_0 u2_1 u2_2 u2_3) fun y519=>some (b0_0,b0_1,y519))else(YEV (q104 lo b0_0 t1_0) fun y520=>bif(decide ((0:Int)<=y520))then(chk (0<=y520/\y520< (b0_1.length:Int)) (YEV (q127 lo ((b0_1.getD y520.toNat ((YFf #[]),(0:Int),(0:Int),(YFf #[]))).1) ((b0_1.getD y520.toNat ((YFf #[]),(0:Int),(0:Int),(YFf #[]))).2.1) ((b0_1.getD y520.toNat ((YFf #[]),(0:Int),(0:Int),(YFf #[]))).2.2.1) ((b0_1.getD y520.toNat ((YFf #[]),(0:Int),(0:Int),(YFf #[]))).2.2.2) u2_0 u2_1 u2_2 u2_3) fun y521=>some (b0_0,b0_1,y521)))else(chk (b0_0.length<=maxEl) (chk (b0_0.length+[t1_0].length<=maxEl) (chk (b0_1.length<=maxEl) (chk (b0_1.length+([(u2_0,u2_1,u2_2,u2_3)]).length<=maxEl) (some ((b0_0++[t1_0]),(b0_1++([(u2_0,u2_1,u2_2,u2_3)])),true)))))))
def Yyw:VFn:=⟨true,47,[.c 6 true 2,.t 7],
 (.seq (.reg [o 3 (.box (t 0)),o 4 (.box (t 1)),o 5 (.box (t 2)),o 6 (.alloc [.e (cs [.s]),.e Zc9]),o 7 (.mv (kb false))])
 (.seq (.seq (.reg [oF 9 0 4,oL 10 9,o 11 (.bin .eql (t 10) (ks (⟨#[]⟩)))])
 (.cond (t 11) (.seq (.reg [o 12 (.load true 2 (t 3)),o 13 (.load true 4 (t 4)),o 14 (.load true 4 (t 5)),o 15 (.call 524 [(t 13),(t 14)]),on (.store 2 (t 6) (t 12)),oM 7 15])
 (.fz [6,7] .ret))
 .skip))
 (.seq (.reg [oF 16 0 3,oL 17 16,oF 18 0 4,oL 19 18,o 20 (.call 272 [(t 17),(t 19)]),oM 8 20])
 (.seq (.seq (.reg [oM 21 8,o 22 (.bin .geq (t 21) (k 0))])
 (.cond (t 22) (.seq (.reg [o 23 (.load true 2 (t 3)),oF 24 1 3,oL 25 24,oM 26 8,o 27 (.iad 4 (t 25) (t 26)),o 28 (.load true 4 (t 27)),o 29 (.load true 4 (t 5)),o 30 (.call 524 [(t 28),(t 29)]),on (.store 2 (t 6) (t 23)),oM 7 30])
 (.fz [6,7] .ret))
 .skip))
 (.seq (.reg [o 31 (.bsl (cs [.s]) 0 []),oF 32 0 3,oL 33 32,⟨some 34,.app (cs [.s]) 0 (t 31) (t 33),none,false,true⟩,oF 35 0 4,⟨some 36,.load false 1 (t 35),none,true,false⟩,o 37 (.bsl (cs [.s]) 1 [(0,(t 36))]),⟨some 38,.app (cs [.s]) 0 (t 34) (t 37),none,false,true⟩,o 39 (.bsl Zc9 0 []),oF 40 1 3,⟨some 41,.load false 1 (t 40),none,true,false⟩,⟨some 42,.app Zc9 0 (t 39) (t 41),none,false,true⟩,⟨some 43,.load true 4 (t 5),none,true,false⟩,o 44 (.bsl Zc9 1 [(0,(t 43))]),o 45 (.app Zc9 0 (t 42) (t 44)),o 46 (.build [.e (cs [.s]),.e Zc9] [(0,1,(t 38)),(1,1,(t 45))]),on (.store 2 (t 6) (t 46)),o 7 (.mv (kb true))])
 (.fz [6,7] .ret))))))⟩
def Yne(lo:Lo):FnE:=⟨547,true,⟨[0,1,2],[.ag [.l (cs [.s]),.l Zc9],.ag [.s,.i .i64,.i .i64,.s],.ag [.s,.i .i64,.i .i64,.s]],[],(cs [.l (cs [.s]),.l Zc9,.s,I,I,.s,.s,I,I,.s])⟩,.tp [.ag [.l (cs [.s]),.l Zc9],.b],[],(cs [.l (cs [.s]),.l Zc9,.b]),(fun x=>q128 lo x.1 x.2.1 x.2.2.1 x.2.2.2.1 x.2.2.2.2.1 x.2.2.2.2.2.1 x.2.2.2.2.2.2.1 x.2.2.2.2.2.2.2.1 x.2.2.2.2.2.2.2.2.1 x.2.2.2.2.2.2.2.2.2:Zt4×Zt5×ByteArray×Int×Int×ByteArray×ByteArray×Int×Int×ByteArray->Option (Zt4×Zt5×Bool))⟩
noncomputable def YCb(lo:Lo):List FnE:=Yne lo::YCw lo
theorem Yyx{P:Program}{fm:FM}{lo:Lo}(h:GZ P fm YCw lo)(t:Ti P fm 547 Yyw):GZ P fm YCb lo:=
  h.p (Yne lo) .n t (by kernel_rfl) (by kernel_rfl) fun x=>by kernel_rfl
def q129_L3_b:VCode:=
 (.seq (.seq (.reg [oM 17 9,oM 18 2,oN 19 18,o 20 (.bin .lss (t 17) (t 19)),oM 21 20,og 22 21 true (.mv (t 8)),o 23 (.pick (t 21) (t 22) (kb false))])
 (.cond (t 23) .skip
 (.exit 0)))
 (.seq (.blk 1 (.reg [o 27 (.load true 2 (t 3)),oF 28 1 4,oL 29 28,oM 30 9,o 31 (.iad 4 (t 29) (t 30)),o 32 (.load true 4 (t 31)),oM 33 2,oM 34 9,o 35 (.iad 4 (t 33) (t 34)),o 36 (.load true 4 (t 35)),o 37 (.call 547 [(t 27),(t 32),(t 36)]),oM 26 37,oE 38 26 0,oE 39 26 1,on (.store 2 (t 3) (t 38)),oM 8 39]))
 (.reg [oM 24 9,o 25 (.bin .add (t 24) (k 1)),oM 9 25])))
def YcQ(lo:Lo):Zp59->Option (Zp59⊕ ((Bool×Zt4×Zt5×Zt4×Zt5))):=fun x=>match x with
  | (l2,ok8,i9,b3_0,b3_1,a4_0,a4_1,v6_0,v6_1)=>bif(decide (i9< (l2.length:Int)))then(bif ok8 then(chk (0<=i9/\i9< (a4_1.length:Int)) (chk (0<=i9/\i9< (l2.length:Int)) (YEV (q128 lo b3_0 b3_1 ((a4_1.getD i9.toNat ((YFf #[]),(0:Int),(0:Int),(YFf #[]))).1) ((a4_1.getD i9.toNat ((YFf #[]),(0:Int),(0:Int),(YFf #[]))).2.1) ((a4_1.getD i9.toNat ((YFf #[]),(0:Int),(0:Int),(YFf #[]))).2.2.1) ((a4_1.getD i9.toNat ((YFf #[]),(0:Int),(0:Int),(YFf #[]))).2.2.2) ((l2.getD i9.toNat ((YFf #[]),(0:Int),(0:Int),(YFf #[]))).1) ((l2.getD i9.toNat ((YFf #[]),(0:Int),(0:Int),(YFf #[]))).2.1) ((l2.getD i9.toNat ((YFf #[]),(0:Int),(0:Int),(YFf #[]))).2.2.1) ((l2.getD i9.toNat ((YFf #[]),(0:Int),(0:Int),(YFf #[]))).2.2.2)) fun y522=>some (.inl (l2,y522.2.2,(YFg .i64 (i9+(1:Int))),y522.1,y522.2.1,a4_0,a4_1,v6_0,v6_1)))))else(some (.inr (ok8,b3_0,b3_1,v6_0,v6_1))))else(some (.inr (ok8,b3_0,b3_1,v6_0,v6_1)))
def YcR(lo:Lo):Zp59->Option ((Bool×Zt4×Zt5×Zt4×Zt5)):=lo.run (YcQ lo)
def Yyy(lo:Lo):LpE:=⟨3,[],⟨[2,3,4,6,8,9],[.l Zc9,.ptr 0 0 0,.ptr 1 0 0,.ptr 2 0 0,.b,.i .i64],[.st [.l (cs [.s]),.l Zc9],.st [.s,.l Zc9],.st [.l (cs [.s]),.l Zc9]],(cs [.l Zc9,.b,I,.l (cs [.s]),.l Zc9,.s,.l Zc9,.l (cs [.s]),.l Zc9])⟩,[⟨.exit 0,⟨[3,6,8],[.ptr 0 0 0,.ptr 1 0 0,.b],[.st [.l (cs [.s]),.l Zc9],.st [.l (cs [.s]),.l Zc9]],(cs [.b,.l (cs [.s]),.l Zc9,.l (cs [.s]),.l Zc9])⟩⟩],YcR lo⟩
def Yyz(lo:Lo):LL:=(Yyy lo,.loop q129_L3_b.er)::[]
theorem YyA(lo:Lo):Lk lo pf (YCb lo) 0 (Yyz lo):=.l .n (YcQ lo) rfl (by kernel_rfl) fun x=>by kernel_rfl
def q129(lo:Lo)(b0_0:List ByteArray)(b0_1:List Zp76)(a1_0:ByteArray)(a1_1:List Zp76)(l2:List Zp76):Option (Zt4×Zt5×Bool):=
  bif(!decide ((a1_1.length:Int)=(l2.length:Int)))then(some (b0_0,b0_1,false))else(YEV (YcR lo (l2,true,(0:Int),b0_0,b0_1,a1_0,a1_1,([]:List ByteArray),([]:List Zp76))) fun y523=>some (y523.2.1,y523.2.2.1,y523.1))
def YyB:VFn:=⟨true,42,[.c 6 true 2,.t 7],
 (.seq (.reg [o 3 (.box (t 0)),o 4 (.box (t 1)),o 6 (.alloc [.e (cs [.s]),.e Zc9]),o 7 (.mv (kb false))])
 (.seq (.seq (.reg [oF 10 1 4,oL 11 10,oN 12 11,oM 13 2,oN 14 13,o 15 (.bin .neq (t 12) (t 14))])
 (.cond (t 15) (.seq (.reg [o 16 (.load true 2 (t 3)),on (.store 2 (t 6) (t 16)),o 7 (.mv (kb false))])
 (.fz [6,7] .ret))
 .skip))
 (.seq (.reg [o 8 (.mv (kb true))])
 (.seq (.seq (.reg [o 9 (.mv (k 0))])
 (.blk 0 (.loop 3 q129_L3_b)))
 (.seq (.reg [o 40 (.load true 2 (t 3)),oM 41 8,on (.store 2 (t 6) (t 40)),oM 7 41])
 (.fz [6,7] .ret))))))⟩
def Ynf(lo:Lo):FnE:=⟨526,true,⟨[0,1,2],[.ag [.l (cs [.s]),.l Zc9],.ag [.s,.l Zc9],.l Zc9],[],(cs [.l (cs [.s]),.l Zc9,.s,.l Zc9,.l Zc9])⟩,.tp [.ag [.l (cs [.s]),.l Zc9],.b],[],(cs [.l (cs [.s]),.l Zc9,.b]),(fun x=>q129 lo x.1 x.2.1 x.2.2.1 x.2.2.2.1 x.2.2.2.2:Zt4×Zt5×ByteArray×Zt5×Zt5->Option (Zt4×Zt5×Bool))⟩
noncomputable def YC7(lo:Lo):List FnE:=Ynf lo::YCb lo
theorem YyC{P:Program}{fm:FM}{lo:Lo}(h:GZ P fm YCb lo)(t:Ti P fm 526 YyB):GZ P fm YC7 lo:=
  h.p (Ynf lo) (YyA lo) t (by kernel_rfl) (by kernel_rfl) fun x=>by kernel_rfl
end Go.Abs.G47
namespace Go.Abs.G47
open Go Go.Abs
set_option maxRecDepth 100000
set_option maxHeartbeats 1000000
noncomputable def YDx(lo:Lo):List FnE:=YC7 lo
noncomputable def YDy(lo:Lo):List FnE:=YDx lo
noncomputable def YDz(lo:Lo):List FnE:=YDy lo
noncomputable def YDA(lo:Lo):List FnE:=YDz lo
noncomputable def YDB(lo:Lo):List FnE:=YDA lo
noncomputable def YDC(lo:Lo):List FnE:=YDB lo
noncomputable def YDD(lo:Lo):List FnE:=YDC lo
noncomputable def YDE(lo:Lo):List FnE:=YDD lo
noncomputable def YCx(lo:Lo):List FnE:=YDE lo
def q139_L3_b:VCode:=
 (.seq (.seq (.reg [oM 14 3,oF 15 1 1,oL 16 15,oN 17 16,o 18 (.bin .lss (t 14) (t 17))])
 (.cond (t 18) .skip
 (.exit 0)))
 (.seq (.blk 1 (.seq (.reg [oF 21 1 1,oL 22 21,oM 23 3,o 24 (.iad 2 (t 22) (t 23)),oF 25 0 24,oL 26 25,o 27 (.call 258 [(t 26)]),o 28 (.not (t 27)),oM 29 28,og 30 29 false (.fad 1 (t 1)),og 31 29 false (.load false 1 (t 30)),og 32 29 false (.mv (t 3)),og 33 29 false (.iad 2 (t 31) (t 32)),og 34 29 false (.load true 2 (t 33)),og 35 29 false (.call 508 [(t 34)]),og 36 29 false (.not (t 35)),o 37 (.pick (t 29) (kb true) (t 36))])
 (.cond (t 37) (.seq (.reg [o 2 (.mv (kb false))])
 (.fz [2] .ret))
 .skip)))
 (.reg [oM 19 3,o 20 (.bin .add (t 19) (k 1)),oM 3 20])))
def Yeh(lo:Lo):Int×Zt4×Zt0->Option ((Int×Zt4×Zt0)⊕ (Bool⊕ (Zt4×Zt0))):=fun x=>match x with
  | (i3,q1_0,q1_1)=>bif(decide (i3< (q1_1.length:Int)))then(chk (0<=i3/\i3< (q1_1.length:Int)) (YEV (q103 lo ((q1_1.getD i3.toNat ((YFf #[]),[])).1)) fun y559=>bif(!y559)then(some (.inr (.inl false)))else(chk (0<=i3/\i3< (q1_1.length:Int)) (YEV (q112 lo ((q1_1.getD i3.toNat ((YFf #[]),[])).1) ((q1_1.getD i3.toNat ((YFf #[]),[])).2)) fun y560=>bif(!y560)then(some (.inr (.inl false)))else(some (.inl ((YFg .i64 (i3+(1:Int))),q1_0,q1_1)))))))else(some (.inr (.inr (q1_0,q1_1))))
def Ygj(lo:Lo):Int×Zt4×Zt0->Option (Bool⊕ (Zt4×Zt0)):=lo.run (Yeh lo)
def YyD(lo:Lo):LpE:=⟨3,[],⟨[1,3],[.ptr 0 0 0,.i .i64],[.st [.l (cs [.s]),.l Zc2]],(cs [I,.l (cs [.s]),.l Zc2])⟩,[⟨.ret,⟨[2],[.b],[],(cs [.b])⟩⟩,⟨.exit 0,⟨[1],[.ptr 0 0 0],[.st [.l (cs [.s]),.l Zc2]],Zc20⟩⟩],Ygj lo⟩
def YyE(lo:Lo):LL:=(YyD lo,.loop q139_L3_b.er)::[]
theorem YyF(lo:Lo):Lk lo pf (YCx lo) 0 (YyE lo):=.l .n (Yeh lo) rfl (by kernel_rfl) fun x=>by kernel_rfl
def q139(lo:Lo)(q0_0:List ByteArray)(q0_1:List (ByteArray×Zt5)):Option Bool:=
  bif(decide ((q0_1.length:Int)< (1:Int)))then(some false)else(bif(decide ((6:Int)< (q0_1.length:Int)))then(some false)else(YEV (Ygj lo ((0:Int),q0_0,q0_1)) fun y561=>alt2 y561 (fun y562=>some y562) (fun y563=>YEV (q114 lo y563.1 y563.2) fun y564=>some y564)))
def YyG:VFn:=⟨true,40,[.t 2],
 (.seq (.reg [o 1 (.box (t 0)),o 2 (.mv (kb false))])
 (.seq (.seq (.reg [oF 4 1 1,oL 5 4,oN 6 5,o 7 (.bin .lss (t 6) (k 1)),oM 8 7,og 9 8 false (.fad 1 (t 1)),og 10 8 false (.load false 1 (t 9)),og 11 8 false (.len (t 10)),og 12 8 false (.bin .gtr (t 11) (k 6)),o 13 (.pick (t 8) (kb true) (t 12))])
 (.cond (t 13) (.seq (.reg [o 2 (.mv (kb false))])
 (.fz [2] .ret))
 .skip))
 (.seq (.seq (.reg [o 3 (.mv (k 0))])
 (.blk 0 (.loop 3 q139_L3_b)))
 (.seq (.reg [o 38 (.load true 2 (t 1)),o 39 (.call 509 [(t 38)]),oM 2 39])
 (.fz [2] .ret)))))⟩
def Yng(lo:Lo):FnE:=⟨488,true,⟨[0],[.ag [.l (cs [.s]),.l Zc2]],[],Zc20⟩,.b,[],(cs [.b]),(fun x=>q139 lo x.1 x.2:Zt4×Zt0->Option Bool)⟩
noncomputable def YCc(lo:Lo):List FnE:=Yng lo::YCx lo
theorem YyH{P:Program}{fm:FM}{lo:Lo}(h:GZ P fm YCx lo)(t:Ti P fm 488 YyG):GZ P fm YCc lo:=
  h.p (Yng lo) (YyF lo) t (by kernel_rfl) (by kernel_rfl) fun x=>by kernel_rfl
def q140_L3_b:VCode:=
 (.seq (.seq (.reg [oM 16 7,oF 17 0 2,oL 18 17,oN 19 18,o 20 (.bin .lss (t 16) (t 19))])
 (.cond (t 20) .skip
 (.exit 0)))
 (.seq (.blk 1 (.seq (.reg [oF 23 0 6,oL 24 23,oF 25 0 2,oL 26 25,oM 27 7,o 28 (.iad 1 (t 26) (t 27)),oL 29 28,o 30 (.bsl (cs [.s]) 1 [(0,(t 29))]),o 31 (.app (cs [.s]) 0 (t 24) (t 30)),oF 32 0 6,on (.store 1 (t 32) (t 31))])
 (.reg [oF 33 1 6,oL 34 33,oF 35 0 3,oL 36 35,oM 37 7,o 38 (.iad 1 (t 36) (t 37)),oL 39 38,o 40 (.build [.s (⟨#[]⟩),.i .i64 0,.i .i64 0,.s (⟨#[]⟩)] [(0,1,(t 39))]),o 41 (.bsl Zc9 1 [(0,(t 40))]),o 42 (.app Zc9 0 (t 34) (t 41)),oF 43 1 6,on (.store 1 (t 43) (t 42))])))
 (.reg [oM 21 7,o 22 (.bin .add (t 21) (k 1)),oM 7 22])))
def Yei(lo:Lo):Zp63->Option (Zp63⊕ ((Zt4×Zt5×Zt4×Zt5))):=fun x=>match x with
  | (i7,from2_0,from2_1,to3_0,to3_1,v4_0,v4_1,h4,h5)=>bif(decide (i7< (from2_0.length:Int)))then(chk (0<=i7/\i7< (from2_0.length:Int)) (chk (h4.length+([(from2_0.getD i7.toNat (YFf #[]))]).length<=maxEl) (chk (0<=i7/\i7< (to3_0.length:Int)) (chk (h5.length+([((to3_0.getD i7.toNat (YFf #[])),(0:Int),(0:Int),(YFf #[]))]).length<=maxEl) (some (.inl ((YFg .i64 (i7+(1:Int))),from2_0,from2_1,to3_0,to3_1,v4_0,v4_1,(h4++([(from2_0.getD i7.toNat (YFf #[]))])),(h5++([((to3_0.getD i7.toNat (YFf #[])),(0:Int),(0:Int),(YFf #[]))])))))))))else(some (.inr (v4_0,v4_1,h4,h5)))
def Ygk(lo:Lo):Zp63->Option ((Zt4×Zt5×Zt4×Zt5)):=lo.run (Yei lo)
def YyI(lo:Lo):LpE:=⟨3,[(6,some 0,false),(6,some 1,false)],⟨[2,3,4,6,7],[.ptr 0 0 0,.ptr 1 0 0,.ptr 2 0 0,.ptr 3 0 0,.i .i64],[.st [.l (cs [.s]),.l Zc2],.st [.l (cs [.s]),.l Zc2],.st [.l (cs [.s]),.l Zc9],.st [.ref 4,.ref 5],.sq (cs [.s]),.sq Zc9],(cs [I,.l (cs [.s]),.l Zc2,.l (cs [.s]),.l Zc2,.l (cs [.s]),.l Zc9,.l (cs [.s]),.l Zc9])⟩,[⟨.exit 0,⟨[4,6],[.ptr 0 0 0,.ptr 1 0 0],[.st [.l (cs [.s]),.l Zc9],.st [.ref 2,.ref 3],.sq (cs [.s]),.sq Zc9],(cs [.l (cs [.s]),.l Zc9,.l (cs [.s]),.l Zc9])⟩⟩],Ygk lo⟩
def YyJ(lo:Lo):LL:=(YyI lo,.loop q140_L3_b.er)::[]
theorem YyK(lo:Lo):Lk lo pf (YCc lo) 0 (YyJ lo):=.l .n (Yei lo) rfl (by kernel_rfl) fun x=>by kernel_rfl
def q140(lo:Lo)(from0_0:List ByteArray)(from0_1:List (ByteArray×Zt5))(to1_0:List ByteArray)(to1_1:List (ByteArray×Zt5)):Option (Zt4×Zt5×Bool):=
  bif(!decide ((from0_0.length:Int)=(to1_0.length:Int)))then(some (([]:List ByteArray),([]:List Zp76),false))else(YEV (Ygk lo ((0:Int),from0_0,from0_1,to1_0,to1_1,([]:List ByteArray),([]:List Zp76),[],[])) fun y567=>some (y567.2.2.1,y567.2.2.2,true))
def YyL:VFn:=⟨true,45,[.c 4 true 2,.t 5],
 (.seq (.reg [o 2 (.box (t 0)),o 3 (.box (t 1)),o 4 (.alloc [.e (cs [.s]),.e Zc9]),o 5 (.mv (kb false))])
 (.seq (.reg [o 6 (.alloc [.e (cs [.s]),.e Zc9])])
 (.seq (.seq (.reg [oF 8 0 2,oL 9 8,oN 10 9,oF 11 0 3,oL 12 11,oN 13 12,o 14 (.bin .neq (t 10) (t 13))])
 (.cond (t 14) (.seq (.reg [o 15 (.load true 2 (t 6)),on (.store 2 (t 4) (t 15)),o 5 (.mv (kb false))])
 (.fz [4,5] .ret))
 .skip))
 (.seq (.seq (.reg [o 7 (.mv (k 0))])
 (.blk 0 (.loop 3 q140_L3_b)))
 (.seq (.reg [o 44 (.load true 2 (t 6)),on (.store 2 (t 4) (t 44)),o 5 (.mv (kb true))])
 (.fz [4,5] .ret))))))⟩
def Ynh(lo:Lo):FnE:=⟨522,true,⟨[0,1],[.ag [.l (cs [.s]),.l Zc2],.ag [.l (cs [.s]),.l Zc2]],[],Zc19⟩,.tp [.ag [.l (cs [.s]),.l Zc9],.b],[],(cs [.l (cs [.s]),.l Zc9,.b]),(fun x=>q140 lo x.1 x.2.1 x.2.2.1 x.2.2.2:Zt4×Zt0×Zt4×Zt0->Option (Zt4×Zt5×Bool))⟩
noncomputable def YCd(lo:Lo):List FnE:=Ynh lo::YCc lo
theorem YyM{P:Program}{fm:FM}{lo:Lo}(h:GZ P fm YCc lo)(t:Ti P fm 522 YyL):GZ P fm YCd lo:=
  h.p (Ynh lo) (YyK lo) t (by kernel_rfl) (by kernel_rfl) fun x=>by kernel_rfl
end Go.Abs.G47
namespace Go.Abs.G47
open Go Go.Abs
set_option maxRecDepth 100000
set_option maxHeartbeats 1000000
def Yni(F:Zt4×Zt5×Zt0×Zt0->Option (Zt4×Zt5×Bool)):FnE:=⟨523,true,⟨[0,1,2],[.ag [.l (cs [.s]),.l Zc9],.l Zc2,.l Zc2],[],(cs [.l (cs [.s]),.l Zc9,.l Zc2,.l Zc2])⟩,.tp [.ag [.l (cs [.s]),.l Zc9],.b],[],(cs [.l (cs [.s]),.l Zc9,.b]),F⟩
def q141_L3_b:VCode:=
 (.seq (.seq (.reg [oM 17 8,oM 18 2,oN 19 18,o 20 (.bin .lss (t 17) (t 19))])
 (.cond (t 20) .skip
 (.exit 0)))
 (.seq (.blk 1 (.seq (.seq (.reg [oM 23 2,oM 24 8,o 25 (.iad 2 (t 23) (t 24)),oF 26 0 25,oL 27 26,oM 28 1,o 29 (.iad 2 (t 28) (k 0)),oF 30 0 29,oL 31 30,o 32 (.bin .neq (t 27) (t 31))])
 (.cond (t 32) (.exit 1)
 .skip))
 (.seq (.reg [⟨some 34,.load true 2 (t 3),none,true,false⟩,oM 35 1,⟨some 36,.iad 2 (t 35) (k 0),none,true,false⟩,⟨some 37,.load true 2 (t 36),none,true,false⟩,oM 38 2,oM 39 8,⟨some 40,.iad 2 (t 38) (t 39),none,true,false⟩,oF 41 1 40,⟨some 42,.load false 1 (t 41),none,true,false⟩,⟨some 43,.call 526 [(t 34),(t 37),(t 42)],none,true,false⟩,oM 33 43,oE 44 33 0,oE 45 33 1,o 9 (.alloc [.e (cs [.s]),.e Zc9]),on (.store 2 (t 9) (t 44)),oM 10 45])
 (.seq (.reg [oM 46 10])
 (.cond (t 46) (.seq (.reg [⟨some 48,.load true 2 (t 9),none,true,false⟩,oM 49 1,o 50 (.slcR 2 (t 49) (some (k 1)) none),oM 51 2,⟨some 52,.call 523 [(t 48),(t 50),(t 51)],none,true,false⟩,oM 47 52,oE 53 47 0,oE 54 47 1,o 11 (.alloc [.e (cs [.s]),.e Zc9]),on (.store 2 (t 11) (t 53)),oM 12 54])
 (.seq (.reg [oM 55 12])
 (.cond (t 55) (.seq (.reg [o 56 (.load true 2 (t 11)),on (.store 2 (t 6) (t 56)),o 7 (.mv (kb true))])
 (.fz [6,7] .ret))
 .skip)))
 .skip)))))
 (.reg [oM 21 8,o 22 (.bin .add (t 21) (k 1)),oM 8 22])))
def Ybi(lo:Lo)(rec:Zt4×Zt5×Zt0×Zt0->Option (Zt4×Zt5×Bool)):Zp73->Option (Zp73⊕ ((Bool×Zt4×Zt5)⊕ (Zt4×Zt5×Zt4×Zt5))):=fun x=>match x with
  | (from1,to2,i8,b3_0,b3_1,v6_0,v6_1)=>bif(decide (i8< (to2.length:Int)))then(chk (0<=i8/\i8< (to2.length:Int)) (chk (0<=(0:Int)/\ (0:Int)< (from1.length:Int)) (bif(!decide ((to2.getD i8.toNat ((YFf #[]),[])).1=(from1.getD 0 ((YFf #[]),[])).1))then(some (.inl (from1,to2,(YFg .i64 (i8+(1:Int))),b3_0,b3_1,v6_0,v6_1)))else(chk (0<=(0:Int)/\ (0:Int)< (from1.length:Int)) (chk (0<=i8/\i8< (to2.length:Int)) (YEV (q129 lo b3_0 b3_1 ((from1.getD 0 ((YFf #[]),[])).1) ((from1.getD 0 ((YFf #[]),[])).2) ((to2.getD i8.toNat ((YFf #[]),[])).2)) fun y569=>bif y569.2.2 then(chk (0<=(1:Int)/\ (1:Int)<=(from1.length:Int)/\ (from1.length:Int)<=(from1.length:Int)) (YEV (rec (y569.1,y569.2.1,((from1.take (from1.length:Int).toNat).drop 1),to2)) fun y570=>bif y570.2.2 then(some (.inr (.inl (true,y570.1,y570.2.1))))else(some (.inl (from1,to2,(YFg .i64 (i8+(1:Int))),b3_0,b3_1,v6_0,v6_1)))))else(some (.inl (from1,to2,(YFg .i64 (i8+(1:Int))),b3_0,b3_1,v6_0,v6_1)))))))))else(some (.inr (.inr (b3_0,b3_1,v6_0,v6_1))))
def YcS(lo:Lo)(rec:Zt4×Zt5×Zt0×Zt0->Option (Zt4×Zt5×Bool)):Zp73->Option ((Bool×Zt4×Zt5)⊕ (Zt4×Zt5×Zt4×Zt5)):=lo.run (Ybi lo rec)
def YyN(lo:Lo)(rec:Zt4×Zt5×Zt0×Zt0->Option (Zt4×Zt5×Bool)):LpE:=⟨3,[],⟨[1,2,3,6,8],[.l Zc2,.l Zc2,.ptr 0 0 0,.ptr 1 0 0,.i .i64],[.st [.l (cs [.s]),.l Zc9],.st [.l (cs [.s]),.l Zc9]],(cs [.l Zc2,.l Zc2,I,.l (cs [.s]),.l Zc9,.l (cs [.s]),.l Zc9])⟩,[⟨.ret,⟨[6,7],[.ptr 0 0 0,.b],[.st [.l (cs [.s]),.l Zc9]],(cs [.b,.l (cs [.s]),.l Zc9])⟩⟩,⟨.exit 0,⟨[3,6],[.ptr 0 0 0,.ptr 1 0 0],[.st [.l (cs [.s]),.l Zc9],.st [.l (cs [.s]),.l Zc9]],(cs [.l (cs [.s]),.l Zc9,.l (cs [.s]),.l Zc9])⟩⟩],YcS lo rec⟩
def Ynj(lo:Lo)(rec:Zt4×Zt5×Zt0×Zt0->Option (Zt4×Zt5×Bool)):LL:=(YyN lo rec,.loop q141_L3_b.er)::[]
theorem YyO(lo:Lo)(rec:Zt4×Zt5×Zt0×Zt0->Option (Zt4×Zt5×Bool)):Lk lo pf (Yni rec::YCd lo) 0 (Ynj lo rec):=.l .n (Ybi lo rec) rfl (by kernel_rfl) fun x=>by kernel_rfl
def Yb2(lo:Lo)(rec:Zt4×Zt5×Zt0×Zt0->Option (Zt4×Zt5×Bool))(b0_0:List ByteArray)(b0_1:List Zp76)(from1:List (ByteArray×Zt5))(to2:List (ByteArray×Zt5)):Option (Zt4×Zt5×Bool):=
  bif(decide ((from1.length:Int)=(0:Int)))then(some (b0_0,b0_1,true))else(YEV (YcS lo rec (from1,to2,(0:Int),b0_0,b0_1,([]:List ByteArray),([]:List Zp76))) fun y571=>alt2 y571 (fun y572=>some (y572.2.1,y572.2.2,y572.1)) (fun y573=>some (y573.1,y573.2.1,false)))
def YaW(lo:Lo):Nat->Zt4×Zt5×Zt0×Zt0->Option (Zt4×Zt5×Bool)
  |0,_=>none
  |n+1,x=>Yb2 lo (YaW lo n) x.1 x.2.1 x.2.2.1 x.2.2.2
def q141(lo:Lo)(b0_0:List ByteArray)(b0_1:List Zp76)(from1:List (ByteArray×Zt5))(to2:List (ByteArray×Zt5)):Option (Zt4×Zt5×Bool):=lo.run (fixS (YaW lo)) (0,(b0_0,b0_1,from1,to2))
def YyP:VFn:=⟨true,58,[.c 6 true 2,.t 7],
 (.seq (.reg [o 3 (.box (t 0)),o 6 (.alloc [.e (cs [.s]),.e Zc9]),o 7 (.mv (kb false))])
 (.seq (.seq (.reg [oM 13 1,oN 14 13,o 15 (.bin .eql (t 14) (k 0))])
 (.cond (t 15) (.seq (.reg [o 16 (.load true 2 (t 3)),on (.store 2 (t 6) (t 16)),o 7 (.mv (kb true))])
 (.fz [6,7] .ret))
 .skip))
 (.seq (.seq (.reg [o 8 (.mv (k 0))])
 (.blk 0 (.loop 3 q141_L3_b)))
 (.seq (.reg [o 57 (.load true 2 (t 3)),on (.store 2 (t 6) (t 57)),o 7 (.mv (kb false))])
 (.fz [6,7] .ret)))))⟩
def Ynk(lo:Lo):FnE:=Yni (fun x=>q141 lo x.1 x.2.1 x.2.2.1 x.2.2.2)
noncomputable def YCy(lo:Lo):List FnE:=Ynk lo::YCd lo
theorem YyQ{P:Program}{fm:FM}{lo:Lo}(h:GZ P fm YCd lo)(t:Ti P fm 523 YyP):GZ P fm YCy lo:=
  h.pr (Ynk lo) (YaW lo) (ls:=fun rec=>Ynj lo rec) (fun rec=>(YyO lo rec)) t (by kernel_rfl) (fun _=>rfl) rfl (fun _=>by kernel_rfl) fun n x=>by kernel_rfl
def q142(lo:Lo)(from0_0:List ByteArray)(from0_1:List (ByteArray×Zt5))(to1_0:List ByteArray)(to1_1:List (ByteArray×Zt5)):Option Bool:=
  YEV (q139 lo from0_0 from0_1) fun y565=>bif(!y565)then(some false)else(YEV (q139 lo to1_0 to1_1) fun y566=>bif(!y566)then(some false)else(YEV (q140 lo from0_0 from0_1 to1_0 to1_1) fun y568=>bif(!y568.2.2)then(some false)else(YEV (q141 lo y568.1 y568.2.1 from0_1 to1_1) fun y574=>some y574.2.2)))
def YyR:VFn:=⟨true,33,[.t 4],
 (.seq (.reg [o 2 (.box (t 0)),o 3 (.box (t 1)),o 4 (.mv (kb false))])
 (.seq (.seq (.reg [o 7 (.load true 2 (t 2)),o 8 (.call 488 [(t 7)]),o 9 (.not (t 8)),oM 10 9,og 11 10 false (.load true 2 (t 3)),og 12 10 false (.call 488 [(t 11)]),og 13 10 false (.not (t 12)),o 14 (.pick (t 10) (kb true) (t 13))])
 (.cond (t 14) (.seq (.reg [o 4 (.mv (kb false))])
 (.fz [4] .ret))
 .skip))
 (.seq (.reg [o 16 (.load true 2 (t 2)),o 17 (.load true 2 (t 3)),o 18 (.call 522 [(t 16),(t 17)]),oM 15 18,oE 19 15 0,oE 20 15 1,o 5 (.alloc [.e (cs [.s]),.e Zc9]),on (.store 2 (t 5) (t 19)),oM 6 20])
 (.seq (.seq (.reg [oM 21 6,o 22 (.not (t 21))])
 (.cond (t 22) (.seq (.reg [o 4 (.mv (kb false))])
 (.fz [4] .ret))
 .skip))
 (.seq (.reg [o 24 (.load true 2 (t 5)),oF 25 1 2,oL 26 25,oF 27 1 3,oL 28 27,o 29 (.call 523 [(t 24),(t 26),(t 28)]),oM 23 29,oE 30 23 0,oE 31 23 1,oM 6 31])
 (.seq (.reg [oM 32 6,oM 4 32])
 (.fz [4] .ret)))))))⟩
def Ynl(lo:Lo):FnE:=⟨480,true,⟨[0,1],[.ag [.l (cs [.s]),.l Zc2],.ag [.l (cs [.s]),.l Zc2]],[],Zc19⟩,.b,[],(cs [.b]),(fun x=>q142 lo x.1 x.2.1 x.2.2.1 x.2.2.2:Zt4×Zt0×Zt4×Zt0->Option Bool)⟩
noncomputable def YC8(lo:Lo):List FnE:=Ynl lo::YCy lo
theorem YyS{P:Program}{fm:FM}{lo:Lo}(h:GZ P fm YCy lo)(t:Ti P fm 480 YyR):GZ P fm YC8 lo:=
  h.p (Ynl lo) .n t (by kernel_rfl) (by kernel_rfl) fun x=>by kernel_rfl
noncomputable def YDF(lo:Lo):List FnE:=YC8 lo
noncomputable def YDG(lo:Lo):List FnE:=YDF lo
noncomputable def YDH(lo:Lo):List FnE:=YDG lo
noncomputable def YC9(lo:Lo):List FnE:=YDH lo
def q147(lo:Lo)(q0_0:List ByteArray)(q0_1:List (ByteArray×Zt5))(i1:Int):Option (Zt4×Zt0):=
  chk (0<=(0:Int)/\ (0:Int)<=i1/\i1<=(q0_1.length:Int)) (chk (((q0_1.take i1.toNat).drop 0).length<=maxEl) (chk (0<=(YFg .i64 (i1+(1:Int)))/\ (YFg .i64 (i1+(1:Int)))<=(q0_1.length:Int)/\ (q0_1.length:Int)<=(q0_1.length:Int)) (chk (((q0_1.take i1.toNat).drop 0).length+((q0_1.take (q0_1.length:Int).toNat).drop (YFg .i64 (i1+(1:Int))).toNat).length<=maxEl) (some (q0_0,(((q0_1.take i1.toNat).drop 0)++((q0_1.take (q0_1.length:Int).toNat).drop (YFg .i64 (i1+(1:Int))).toNat)))))))
def YyT:VFn:=⟨true,20,[.c 4 true 2],
 (.seq (.reg [o 2 (.box (t 0)),o 4 (.alloc [.e (cs [.s]),.e Zc2])])
 (.seq (.reg [oF 5 0 2,⟨some 6,.load false 1 (t 5),none,true,false⟩,o 7 (.bsl Zc2 0 []),oF 8 1 2,oL 9 8,oM 10 1,o 11 (.slcR 2 (t 9) none (some (t 10))),⟨some 12,.app Zc2 0 (t 7) (t 11),none,false,true⟩,oF 13 1 2,⟨some 14,.load false 1 (t 13),none,true,false⟩,oM 15 1,o 16 (.bin .add (t 15) (k 1)),o 17 (.slcR 2 (t 14) (some (t 16)) none),⟨some 18,.app Zc2 0 (t 12) (t 17),none,false,true⟩,o 19 (.build [.e (cs [.s]),.e Zc2] [(0,1,(t 6)),(1,1,(t 18))]),on (.store 2 (t 4) (t 19))])
 (.fz [4] .ret)))⟩
def Ynm(lo:Lo):FnE:=⟨529,true,⟨[0,1],[.ag [.l (cs [.s]),.l Zc2],.i .i64],[],(cs [.l (cs [.s]),.l Zc2,I])⟩,.ag [.l (cs [.s]),.l Zc2],[],Zc20,(fun x=>q147 lo x.1 x.2.1 x.2.2:Zt4×Zt0×Int->Option (Zt4×Zt0))⟩
noncomputable def YCe(lo:Lo):List FnE:=Ynm lo::YC9 lo
theorem YyU{P:Program}{fm:FM}{lo:Lo}(h:GZ P fm YC9 lo)(t:Ti P fm 529 YyT):GZ P fm YCe lo:=
  h.p (Ynm lo) .n t (by kernel_rfl) (by kernel_rfl) fun x=>by kernel_rfl
def q148_L3_b:VCode:=
 (.seq (.seq (.reg [oM 10 4,oF 11 1 1,oL 12 11,oN 13 12,o 14 (.bin .lss (t 10) (t 13))])
 (.cond (t 14) .skip
 (.exit 0)))
 (.blk 1 (.seq (.reg [o 15 (.load true 2 (t 1)),oM 16 4,o 17 (.call 529 [(t 15),(t 16)]),o 5 (.alloc [.e (cs [.s]),.e Zc2]),on (.store 2 (t 5) (t 17))])
 (.seq (.reg [o 18 (.load true 2 (t 1)),o 19 (.load true 2 (t 5)),o 20 (.call 480 [(t 18),(t 19)])])
 (.cond (t 20) (.reg [o 21 (.load true 2 (t 5)),on (.store 2 (t 1) (t 21))])
 (.reg [oM 22 4,o 23 (.bin .add (t 22) (k 1)),oM 4 23]))))))
def Yej(lo:Lo):Int×Zt4×Zt0×Zt4×Zt0->Option ((Int×Zt4×Zt0×Zt4×Zt0)⊕ ((Zt4×Zt0×Zt4×Zt0))):=fun x=>match x with
  | (i4,q1_0,q1_1,v2_0,v2_1)=>bif(decide (i4< (q1_1.length:Int)))then(YEV (q147 lo q1_0 q1_1 i4) fun y611=>YEV (q142 lo q1_0 q1_1 y611.1 y611.2) fun y612=>bif y612 then(some (.inl (i4,y611.1,y611.2,v2_0,v2_1)))else(some (.inl ((YFg .i64 (i4+(1:Int))),q1_0,q1_1,v2_0,v2_1))))else(some (.inr (q1_0,q1_1,v2_0,v2_1)))
def Yb3(lo:Lo):Int×Zt4×Zt0×Zt4×Zt0->Option ((Zt4×Zt0×Zt4×Zt0)):=lo.run (Yej lo)
def YyV(lo:Lo):LpE:=⟨3,[],⟨[1,2,4],[.ptr 0 0 0,.ptr 1 0 0,.i .i64],[.st [.l (cs [.s]),.l Zc2],.st [.l (cs [.s]),.l Zc2]],Zc35⟩,[⟨.exit 0,⟨[1,2],[.ptr 0 0 0,.ptr 1 0 0],[.st [.l (cs [.s]),.l Zc2],.st [.l (cs [.s]),.l Zc2]],Zc19⟩⟩],Yb3 lo⟩
def YyW(lo:Lo):LL:=(YyV lo,.loop q148_L3_b.er)::[]
theorem YyX(lo:Lo):Lk lo pf (YCe lo) 0 (YyW lo):=.l .n (Yej lo) rfl (by kernel_rfl) fun x=>by kernel_rfl
def q148(lo:Lo)(q0_0:List ByteArray)(q0_1:List (ByteArray×Zt5)):Option (Zt4×Zt0×Int):=
  YEV (q139 lo q0_0 q0_1) fun y610=>bif(!y610)then(some (([]:List ByteArray),([]:List (ByteArray×Zt5)),(1:Int)))else(YEV (Yb3 lo ((0:Int),q0_0,q0_1,([]:List ByteArray),([]:List (ByteArray×Zt5)))) fun y613=>some (y613.1,y613.2.1,(0:Int)))
def YyY:VFn:=⟨true,25,[.c 2 true 2,.t 3],
 (.seq (.reg [o 1 (.box (t 0)),o 2 (.alloc [.e (cs [.s]),.e Zc2]),o 3 (.mv (k 0))])
 (.seq (.seq (.reg [o 6 (.load true 2 (t 1)),o 7 (.call 488 [(t 6)]),o 8 (.not (t 7))])
 (.cond (t 8) (.seq (.reg [o 9 (.build [.e (cs [.s]),.e Zc2] []),on (.store 2 (t 2) (t 9)),o 3 (.mv (k 1))])
 (.fz [2,3] .ret))
 .skip))
 (.seq (.seq (.reg [o 4 (.mv (k 0))])
 (.blk 0 (.loop 3 q148_L3_b)))
 (.seq (.reg [o 24 (.load true 2 (t 1)),on (.store 2 (t 2) (t 24)),o 3 (.mv (k 0))])
 (.fz [2,3] .ret)))))⟩
def Ynn(lo:Lo):FnE:=⟨485,true,⟨[0],[.ag [.l (cs [.s]),.l Zc2]],[],Zc20⟩,.tp [.ag [.l (cs [.s]),.l Zc2],.i .i64],[],(cs [.l (cs [.s]),.l Zc2,I]),(fun x=>q148 lo x.1 x.2:Zt4×Zt0->Option (Zt4×Zt0×Int))⟩
noncomputable def YCf(lo:Lo):List FnE:=Ynn lo::YCe lo
theorem YyZ{P:Program}{fm:FM}{lo:Lo}(h:GZ P fm YCe lo)(t:Ti P fm 485 YyY):GZ P fm YCf lo:=
  h.p (Ynn lo) (YyX lo) t (by kernel_rfl) (by kernel_rfl) fun x=>by kernel_rfl
def q149_L3_b:VCode:=
 (.seq (.seq (.reg [oM 11 5,oM 12 0,oN 13 12,o 14 (.bin .lss (t 11) (t 13))])
 (.cond (t 14) .skip
 (.exit 0)))
 (.seq (.blk 1 (.seq (.reg [oM 17 0,oM 18 5,o 19 (.iad 1 (t 17) (t 18)),oL 20 19,oM 21 1,oM 22 5,o 23 (.iad 1 (t 21) (t 22)),oL 24 23,o 25 (.bin .neq (t 20) (t 24))])
 (.cond (t 25) (.seq (.reg [o 4 (.mv (kb false))])
 (.fz [4] .ret))
 .skip)))
 (.reg [oM 15 5,o 16 (.bin .add (t 15) (k 1)),oM 5 16])))
def Yek(lo:Lo):Zt4×Zt4×Int->Option ((Zt4×Zt4×Int)⊕ (Bool⊕Unit)):=fun x=>match x with
  | (a0,b1,i5)=>bif(decide (i5< (a0.length:Int)))then(chk (0<=i5/\i5< (a0.length:Int)) (chk (0<=i5/\i5< (b1.length:Int)) (bif(!decide ((a0.getD i5.toNat (YFf #[]))=(b1.getD i5.toNat (YFf #[]))))then(some (.inr (.inl false)))else(some (.inl (a0,b1,(YFg .i64 (i5+(1:Int)))))))))else(some (.inr (.inr ())))
def Ygl(lo:Lo):Zt4×Zt4×Int->Option (Bool⊕Unit):=lo.run (Yek lo)
def Yy0(lo:Lo):LpE:=⟨3,[],⟨[0,1,5],[.l (cs [.s]),.l (cs [.s]),.i .i64],[],(cs [.l (cs [.s]),.l (cs [.s]),I])⟩,[⟨.ret,⟨[4],[.b],[],(cs [.b])⟩⟩,⟨.exit 0,⟨[],[],[],(cs [])⟩⟩],Ygl lo⟩
def Yy1(lo:Lo):LL:=(Yy0 lo,.loop q149_L3_b.er)::[]
theorem Yy2(lo:Lo):Lk lo pf (YCf lo) 0 (Yy1 lo):=.l .n (Yek lo) rfl (by kernel_rfl) fun x=>by kernel_rfl
def q149(lo:Lo)(a0:List ByteArray)(b1:List ByteArray):Option Bool:=
  bif(!decide ((a0.length:Int)=(b1.length:Int)))then(some false)else(YEV (Ygl lo (a0,b1,(0:Int))) fun y615=>alt2 y615 (fun y616=>some y616) (fun y617=>some true))
def Yy3:VFn:=⟨true,26,[.t 4],
 (.seq (.reg [o 4 (.mv (kb false))])
 (.seq (.seq (.reg [oM 6 0,oN 7 6,oM 8 1,oN 9 8,o 10 (.bin .neq (t 7) (t 9))])
 (.cond (t 10) (.seq (.reg [o 4 (.mv (kb false))])
 (.fz [4] .ret))
 .skip))
 (.seq (.seq (.reg [o 5 (.mv (k 0))])
 (.blk 0 (.loop 3 q149_L3_b)))
 (.seq (.reg [o 4 (.mv (kb true))])
 (.fz [4] .ret)))))⟩
def Yno(lo:Lo):FnE:=⟨265,true,⟨[0,1],[.l (cs [.s]),.l (cs [.s])],[],(cs [.l (cs [.s]),.l (cs [.s])])⟩,.b,[],(cs [.b]),(fun x=>q149 lo x.1 x.2:Zt4×Zt4->Option Bool)⟩
noncomputable def YBM(lo:Lo):List FnE:=Yno lo::YCf lo
theorem Yy4{P:Program}{fm:FM}{lo:Lo}(h:GZ P fm YCf lo)(t:Ti P fm 265 Yy3):GZ P fm YBM lo:=
  h.p (Yno lo) (Yy2 lo) t (by kernel_rfl) (by kernel_rfl) fun x=>by kernel_rfl
end Go.Abs.G47
namespace Go.Abs.G47
open Go Go.Abs
set_option maxRecDepth 100000
set_option maxHeartbeats 1000000
def q150_L5_b:VCode:=
 (.seq (.seq (.reg [oM 59 6,oF 60 1 2,oL 61 60,oM 62 5,o 63 (.iad 2 (t 61) (t 62)),oF 64 1 63,oL 65 64,oN 66 65,o 67 (.bin .lss (t 59) (t 66))])
 (.cond (t 67) .skip
 (.exit 2)))
 (.seq (.blk 3 (.seq (.reg [oF 70 1 2,oL 71 70,oM 72 5,o 73 (.iad 2 (t 71) (t 72)),oF 74 1 73,oL 75 74,oM 76 6,o 77 (.iad 4 (t 75) (t 76)),o 78 (.load true 4 (t 77)),oF 79 1 3,oL 80 79,oM 81 5,o 82 (.iad 2 (t 80) (t 81)),oF 83 1 82,oL 84 83,oM 85 6,o 86 (.iad 4 (t 84) (t 85)),o 87 (.load true 4 (t 86)),o 88 (.call 524 [(t 78),(t 87)]),o 89 (.not (t 88))])
 (.cond (t 89) (.seq (.reg [o 4 (.mv (kb false))])
 (.fz [4] .ret))
 .skip)))
 (.reg [oM 68 6,o 69 (.bin .add (t 68) (k 1)),oM 6 69])))
def Yel(lo:Lo):Int×Int×Zt4×Zt0×Zt4×Zt0->Option ((Int×Int×Zt4×Zt0×Zt4×Zt0)⊕ (Bool⊕ (Int×Zt4×Zt0×Zt4×Zt0))):=fun x=>match x with
  | (i5,k6,a2_0,a2_1,b3_0,b3_1)=>chk (0<=i5/\i5< (a2_1.length:Int)) (bif(decide (k6< (((a2_1.getD i5.toNat ((YFf #[]),[])).2).length:Int)))then(chk (0<=i5/\i5< (a2_1.length:Int)) (chk (0<=k6/\k6< (((a2_1.getD i5.toNat ((YFf #[]),[])).2).length:Int)) (chk (0<=i5/\i5< (b3_1.length:Int)) (chk (0<=k6/\k6< (((b3_1.getD i5.toNat ((YFf #[]),[])).2).length:Int)) (YEV (q127 lo ((((a2_1.getD i5.toNat ((YFf #[]),[])).2).getD k6.toNat ((YFf #[]),(0:Int),(0:Int),(YFf #[]))).1) ((((a2_1.getD i5.toNat ((YFf #[]),[])).2).getD k6.toNat ((YFf #[]),(0:Int),(0:Int),(YFf #[]))).2.1) ((((a2_1.getD i5.toNat ((YFf #[]),[])).2).getD k6.toNat ((YFf #[]),(0:Int),(0:Int),(YFf #[]))).2.2.1) ((((a2_1.getD i5.toNat ((YFf #[]),[])).2).getD k6.toNat ((YFf #[]),(0:Int),(0:Int),(YFf #[]))).2.2.2) ((((b3_1.getD i5.toNat ((YFf #[]),[])).2).getD k6.toNat ((YFf #[]),(0:Int),(0:Int),(YFf #[]))).1) ((((b3_1.getD i5.toNat ((YFf #[]),[])).2).getD k6.toNat ((YFf #[]),(0:Int),(0:Int),(YFf #[]))).2.1) ((((b3_1.getD i5.toNat ((YFf #[]),[])).2).getD k6.toNat ((YFf #[]),(0:Int),(0:Int),(YFf #[]))).2.2.1) ((((b3_1.getD i5.toNat ((YFf #[]),[])).2).getD k6.toNat ((YFf #[]),(0:Int),(0:Int),(YFf #[]))).2.2.2)) fun y619=>bif(!y619)then(some (.inr (.inl false)))else(some (.inl (i5,(YFg .i64 (k6+(1:Int))),a2_0,a2_1,b3_0,b3_1))))))))else(some (.inr (.inr (i5,a2_0,a2_1,b3_0,b3_1)))))
def Ygm(lo:Lo):Int×Int×Zt4×Zt0×Zt4×Zt0->Option (Bool⊕ (Int×Zt4×Zt0×Zt4×Zt0)):=lo.run (Yel lo)
def Yy5(lo:Lo):LpE:=⟨5,[],⟨[2,3,5,6],[.ptr 0 0 0,.ptr 1 0 0,.i .i64,.i .i64],[.st [.l (cs [.s]),.l Zc2],.st [.l (cs [.s]),.l Zc2]],(cs [I,I,.l (cs [.s]),.l Zc2,.l (cs [.s]),.l Zc2])⟩,[⟨.ret,⟨[4],[.b],[],(cs [.b])⟩⟩,⟨.exit 2,⟨[2,3,5],[.ptr 0 0 0,.ptr 1 0 0,.i .i64],[.st [.l (cs [.s]),.l Zc2],.st [.l (cs [.s]),.l Zc2]],Zc35⟩⟩],Ygm lo⟩
def Ynp(lo:Lo):LL:=(Yy5 lo,.loop q150_L5_b.er)::[]
theorem Yy6(lo:Lo):Lk lo pf (YBM lo) 0 (Ynp lo):=.l .n (Yel lo) rfl (by kernel_rfl) fun x=>by kernel_rfl
def q150_L3_b:VCode:=
 (.seq (.seq (.reg [oM 22 5,oF 23 1 2,oL 24 23,oN 25 24,o 26 (.bin .lss (t 22) (t 25))])
 (.cond (t 26) .skip
 (.exit 0)))
 (.seq (.blk 1 (.seq (.seq (.reg [oF 29 1 2,oL 30 29,oM 31 5,o 32 (.iad 2 (t 30) (t 31)),oF 33 0 32,oL 34 33,oF 35 1 3,oL 36 35,oM 37 5,o 38 (.iad 2 (t 36) (t 37)),oF 39 0 38,oL 40 39,o 41 (.bin .neq (t 34) (t 40)),oM 42 41,og 43 42 false (.fad 1 (t 2)),og 44 42 false (.load false 1 (t 43)),og 45 42 false (.mv (t 5)),og 46 42 false (.iad 2 (t 44) (t 45)),og 47 42 false (.fad 1 (t 46)),og 48 42 false (.load false 1 (t 47)),og 49 42 false (.len (t 48)),og 50 42 false (.fad 1 (t 3)),og 51 42 false (.load false 1 (t 50)),og 52 42 false (.mv (t 5)),og 53 42 false (.iad 2 (t 51) (t 52)),og 54 42 false (.fad 1 (t 53)),og 55 42 false (.load false 1 (t 54)),og 56 42 false (.len (t 55)),og 57 42 false (.bin .neq (t 49) (t 56)),o 58 (.pick (t 42) (kb true) (t 57))])
 (.cond (t 58) (.seq (.reg [o 4 (.mv (kb false))])
 (.fz [4] .ret))
 .skip))
 (.seq (.reg [o 6 (.mv (k 0))])
 (.blk 2 (.loop 5 q150_L5_b)))))
 (.reg [oM 27 5,o 28 (.bin .add (t 27) (k 1)),oM 5 28])))
def Yem(lo:Lo):Int×Zt4×Zt0×Zt4×Zt0->Option ((Int×Zt4×Zt0×Zt4×Zt0)⊕ (Bool⊕Unit)):=fun x=>match x with
  | (i5,a2_0,a2_1,b3_0,b3_1)=>bif(decide (i5< (a2_1.length:Int)))then(chk (0<=i5/\i5< (a2_1.length:Int)) (chk (0<=i5/\i5< (b3_1.length:Int)) (bif(!decide ((a2_1.getD i5.toNat ((YFf #[]),[])).1=(b3_1.getD i5.toNat ((YFf #[]),[])).1))then(some (.inr (.inl false)))else(chk (0<=i5/\i5< (a2_1.length:Int)) (chk (0<=i5/\i5< (b3_1.length:Int)) (bif(!decide ((((a2_1.getD i5.toNat ((YFf #[]),[])).2).length:Int)=(((b3_1.getD i5.toNat ((YFf #[]),[])).2).length:Int)))then(some (.inr (.inl false)))else(YEV (Ygm lo (i5,(0:Int),a2_0,a2_1,b3_0,b3_1)) fun y620=>alt2 y620 (fun y621=>some (.inr (.inl y621))) (fun y622=>some (.inl ((YFg .i64 (y622.1+(1:Int))),y622.2.1,y622.2.2.1,y622.2.2.2.1,y622.2.2.2.2))))))))))else(some (.inr (.inr ())))
def Ygn(lo:Lo):Int×Zt4×Zt0×Zt4×Zt0->Option (Bool⊕Unit):=lo.run (Yem lo)
def Yy7(lo:Lo):LpE:=⟨3,[],⟨[2,3,5],[.ptr 0 0 0,.ptr 1 0 0,.i .i64],[.st [.l (cs [.s]),.l Zc2],.st [.l (cs [.s]),.l Zc2]],Zc35⟩,[⟨.ret,⟨[4],[.b],[],(cs [.b])⟩⟩,⟨.exit 0,⟨[],[],[],(cs [])⟩⟩],Ygn lo⟩
def Yy8(lo:Lo):LL:=(Yy7 lo,.loop q150_L3_b.er)::Ynp lo
theorem Yy9(lo:Lo):Lk lo pf (YBM lo) 0 (Yy8 lo):=.l (Yy6 lo) (Yem lo) rfl (by kernel_rfl) fun x=>by kernel_rfl
def q150(lo:Lo)(a0_0:List ByteArray)(a0_1:List (ByteArray×Zt5))(b1_0:List ByteArray)(b1_1:List (ByteArray×Zt5)):Option Bool:=
  YEV (q149 lo a0_0 b1_0) fun y618=>bif(!y618)then(some false)else(bif(!decide ((a0_1.length:Int)=(b1_1.length:Int)))then(some false)else(YEV (Ygn lo ((0:Int),a0_0,a0_1,b1_0,b1_1)) fun y623=>alt2 y623 (fun y624=>some y624) (fun y625=>some true)))
def Yza:VFn:=⟨true,90,[.t 4],
 (.seq (.reg [o 2 (.box (t 0)),o 3 (.box (t 1)),o 4 (.mv (kb false))])
 (.seq (.seq (.reg [oF 7 0 2,oL 8 7,oF 9 0 3,oL 10 9,o 11 (.call 265 [(t 8),(t 10)]),o 12 (.not (t 11)),oM 13 12,og 14 13 false (.fad 1 (t 2)),og 15 13 false (.load false 1 (t 14)),og 16 13 false (.len (t 15)),og 17 13 false (.fad 1 (t 3)),og 18 13 false (.load false 1 (t 17)),og 19 13 false (.len (t 18)),og 20 13 false (.bin .neq (t 16) (t 19)),o 21 (.pick (t 13) (kb true) (t 20))])
 (.cond (t 21) (.seq (.reg [o 4 (.mv (kb false))])
 (.fz [4] .ret))
 .skip))
 (.seq (.seq (.reg [o 5 (.mv (k 0))])
 (.blk 0 (.loop 3 q150_L3_b)))
 (.seq (.reg [o 4 (.mv (kb true))])
 (.fz [4] .ret)))))⟩
def Ynq(lo:Lo):FnE:=⟨486,true,⟨[0,1],[.ag [.l (cs [.s]),.l Zc2],.ag [.l (cs [.s]),.l Zc2]],[],Zc19⟩,.b,[],(cs [.b]),(fun x=>q150 lo x.1 x.2.1 x.2.2.1 x.2.2.2:Zt4×Zt0×Zt4×Zt0->Option Bool)⟩
noncomputable def YCz(lo:Lo):List FnE:=Ynq lo::YBM lo
theorem Yzb{P:Program}{fm:FM}{lo:Lo}(h:GZ P fm YBM lo)(t:Ti P fm 486 Yza):GZ P fm YCz lo:=
  h.p (Ynq lo) (Yy9 lo) t (by kernel_rfl) (by kernel_rfl) fun x=>by kernel_rfl
noncomputable def q151(lo:Lo)(q0_0:List ByteArray)(q0_1:List (ByteArray×Zt5)):Option Bool:=
  YEV (q99 lo) fun y605=>bif(!y605)then(YEV (q99 lo) fun y606=>some y606)else(YEV (q101 lo q0_0 q0_1) fun y607=>bif(!y607)then(YEV (q99 lo) fun y608=>some y608)else(YEV (q87 lo q0_0 q0_1) fun y609=>YEV (q148 lo q0_0 q0_1) fun y614=>bif(decide (y609.2.2=y614.2.2))then(YEV (q150 lo y609.1 y609.2.1 y614.1 y614.2.1) fun y626=>some y626)else(some false)))
def Yzc:VFn:=⟨true,33,[.t 2],
 (.seq (.reg [o 1 (.box (t 0)),o 2 (.mv (kb false))])
 (.seq (.seq (.reg [o 7 (.call 469 []),o 8 (.not (t 7)),oM 9 8,og 10 9 false (.load true 2 (t 1)),og 11 9 false (.call 471 [(t 10)]),og 12 9 false (.not (t 11)),o 13 (.pick (t 9) (kb true) (t 12))])
 (.cond (t 13) (.seq (.reg [o 14 (.call 469 []),oM 2 14])
 (.fz [2] .ret))
 .skip))
 (.seq (.reg [o 16 (.load true 2 (t 1)),o 17 (.call 484 [(t 16)]),oM 15 17,oE 18 15 0,oE 19 15 1,o 3 (.alloc [.e (cs [.s]),.e Zc2]),on (.store 2 (t 3) (t 18)),oM 4 19])
 (.seq (.reg [o 21 (.load true 2 (t 1)),o 22 (.call 485 [(t 21)]),oM 20 22,oE 23 20 0,oE 24 20 1,o 5 (.alloc [.e (cs [.s]),.e Zc2]),on (.store 2 (t 5) (t 23)),oM 6 24])
 (.seq (.reg [oM 25 4,oM 26 6,o 27 (.bin .eql (t 25) (t 26)),oM 28 27,og 29 28 true (.load true 2 (t 3)),og 30 28 true (.load true 2 (t 5)),og 31 28 true (.call 486 [(t 29),(t 30)]),o 32 (.pick (t 28) (t 31) (kb false)),oM 2 32])
 (.fz [2] .ret))))))⟩
noncomputable def q151_f(lo:Lo):FnE:=⟨463,true,⟨[0],[.ag [.l (cs [.s]),.l Zc2]],[],Zc20⟩,.b,[],(cs [.b]),(fun x=>q151 lo x.1 x.2:Zt4×Zt0->Option Bool)⟩
noncomputable def YDI(lo:Lo):List FnE:=q151_f lo::YCz lo
theorem Yzd{P:Program}{fm:FM}{lo:Lo}(h:GZ P fm YCz lo)(t:Ti P fm 463 Yzc):GZ P fm YDI lo:=
  h.p (q151_f lo) .n t (by kernel_rfl) (by kernel_rfl) fun x=>by kernel_rfl
end Go.Abs.G47
