/- Functions of the program as functions of data (written by program). No condition. -/
import Derived.Test.YtlmcnindhfbkhaaGreatDoorG
set_option linter.unusedVariables false
set_option linter.unusedSimpArgs false
set_option linter.unusedSectionVars false
namespace Go.Abs.G47
open Go Go.Abs
set_option maxRecDepth 100000
set_option maxHeartbeats 1000000
def q98_L3_b:VCode:=
 (.seq (.seq (.reg [oM 11 5,oM 12 0,oN 13 12,o 14 (.bin .lss (t 11) (t 13))])
 (.cond (t 14) .skip
 (.exit 0)))
 (.seq (.blk 1 (.seq (.reg [oM 17 0,oM 18 5,o 19 (.iad 1 (t 17) (t 18)),oL 20 19,oM 21 1,oM 22 5,o 23 (.iad 1 (t 21) (t 22)),oL 24 23,o 25 (.call 351 [(t 20),(t 24)]),o 26 (.not (t 25))])
 (.cond (t 26) (.seq (.reg [o 4 (.mv (kb false))])
 (.fz [4] .ret))
 .skip)))
 (.reg [oM 15 5,o 16 (.bin .add (t 15) (k 1)),oM 5 16])))
def YmE(lo:Lo):Zt14×Zt14×Int->Option ((Zt14×Zt14×Int)⊕ (Bool⊕Unit)):=fun x=>match x with
  | (a0,b1,i5)=>bif(decide (i5< (a0.length:Int)))then(chk (0<=i5/\i5< (a0.length:Int)) (chk (0<=i5/\i5< (b1.length:Int)) (Option.bind (q97 lo (a0.getD i5.toNat []) (b1.getD i5.toNat [])) fun y391=>bif(!y391)then(some (.inr (.inl false)))else(some (.inl (a0,b1,(IntKind.wrap .i64 (i5+(1:Int)))))))))else(some (.inr (.inr ())))
def YmF(lo:Lo):Zt14×Zt14×Int->Option (Bool⊕Unit):=lo.run (YmE lo)
def Yxf(lo:Lo):LpE:=⟨3,[],⟨[0,1,5],[.l Zc17,.l Zc17,.i .i64],[],(cs [.l Zc17,.l Zc17,I])⟩,[⟨.ret,⟨[4],[.b],[],(cs [.b])⟩⟩,⟨.exit 0,⟨[],[],[],(cs [])⟩⟩],YmF lo⟩
def Yxg(lo:Lo):LL:=(Yxf lo,.loop q98_L3_b.er)::[]
theorem Yxh(lo:Lo):Lk lo pf (fs98 lo) 0 (Yxg lo):=.l .n (YmE lo) rfl (by kernel_rfl) fun x=>by kernel_rfl
def q98(lo:Lo)(a0:List ((List Int)))(b1:List ((List Int))):Option Bool:=
  bif(!decide ((a0.length:Int)=(b1.length:Int)))then(some false)else(Option.bind (YmF lo (a0,b1,(0:Int))) fun y392=>alt2 y392 (fun y393=>some y393) (fun y394=>some true))
def Yxi:VFn:=⟨true,27,[.t 4],
 (.seq (.reg [o 4 (.mv (kb false))])
 (.seq (.seq (.reg [oM 6 0,oN 7 6,oM 8 1,oN 9 8,o 10 (.bin .neq (t 7) (t 9))])
 (.cond (t 10) (.seq (.reg [o 4 (.mv (kb false))])
 (.fz [4] .ret))
 .skip))
 (.seq (.seq (.reg [o 5 (.mv (k 0))])
 (.blk 0 (.loop 3 q98_L3_b)))
 (.seq (.reg [o 4 (.mv (kb true))])
 (.fz [4] .ret)))))⟩
def YmG(lo:Lo):FnE:=⟨346,true,⟨[0,1],[.l Zc17,.l Zc17],[],(cs [.l Zc17,.l Zc17])⟩,.b,[],(cs [.b]),(fun x=>q98 lo x.1 x.2:Zt14×Zt14->Option Bool)⟩
noncomputable def fs99(lo:Lo):List FnE:=YmG lo::fs98 lo
theorem Yxj{P:Program}{fm:FM}{lo:Lo}(h:GZ P fm fs98 lo)(t:Ti P fm 346 Yxi):GZ P fm fs99 lo:=
  h.p (YmG lo) (Yxh lo) t (by kernel_rfl) (by kernel_rfl) fun x=>by kernel_rfl
noncomputable def q99(lo:Lo):Option Bool:=
  Option.bind (q1 lo (1:Int) ([(1:Int),(2:Int)])) fun y2=>Option.bind (q1 lo (2:Int) ([(1:Int),(3:Int)])) fun y3=>Option.bind (q1 lo (3:Int) ([(2:Int),(3:Int)])) fun y4=>Option.bind (q1 lo (1:Int) ([(3:Int)])) fun y5=>Option.bind (q2 lo (ByteArray.mk #[120])) fun y6=>Option.bind (q2 lo (ByteArray.mk #[121])) fun y7=>Option.bind (q2 lo (ByteArray.mk #[121])) fun y8=>Option.bind (q66 lo ([((ByteArray.mk #[114]),[(ByteArray.mk #[97]),(ByteArray.mk #[98])],[y2,y3,y4]),((ByteArray.mk #[115]),[(ByteArray.mk #[99])],[y5])]) ([(ByteArray.mk #[120])]) ([((ByteArray.mk #[114]),[y6,y7]),((ByteArray.mk #[115]),[y8])])) fun y229=>Option.bind (q0 lo (2:Int)) fun y230=>Option.bind (q73 lo ([((ByteArray.mk #[114]),[(ByteArray.mk #[97]),(ByteArray.mk #[98])],[y2,y3,y4]),((ByteArray.mk #[115]),[(ByteArray.mk #[99])],[y5])]) ([(ByteArray.mk #[120])]) ([((ByteArray.mk #[114]),[y6,y7]),((ByteArray.mk #[115]),[y8])]) [y230.2]) fun y295=>Option.bind (q2 lo (ByteArray.mk #[120])) fun y296=>Option.bind (q2 lo (ByteArray.mk #[121])) fun y297=>Option.bind (q2 lo (ByteArray.mk #[120])) fun y298=>Option.bind (q2 lo (ByteArray.mk #[122])) fun y299=>Option.bind (q87 lo ([(ByteArray.mk #[120])]) ([((ByteArray.mk #[114]),[y296,y297]),((ByteArray.mk #[114]),[y298,y299])])) fun y369=>Option.bind (q96 lo y369.1 y369.2.1) fun y387=>bif(decide (y229.2=(0:Int)))then(bif(decide (y295.2=(0:Int)))then(bif(decide (y369.2.2=(0:Int)))then(bif(decide (y387.2=(0:Int)))then(bif(decide ((y229.1.length:Int)=(2:Int)))then(chk (0<=(1:Int)/\ (1:Int)< (y229.1.length:Int)) (chk (0<=(0:Int)/\ (0:Int)< ((y229.1.getD 1 []).length:Int)) (bif(decide (((y229.1.getD 1 []).getD 0 ((0:Int),(0:Int),(ByteArray.mk #[]))).2.1=(2:Int)))then(Option.bind (q98 lo y295.1 ([[(3:Int),(1:Int)]])) fun y395=>bif y395 then(bif(decide (y387.1=(ByteArray.mk #[40,120,41,32,58,32,114,40,120,44,32,122,41])))then(Option.bind (q86 lo ([(ByteArray.mk #[120])]) ([((ByteArray.mk #[114]),[y296,y297]),((ByteArray.mk #[114]),[y298,y299])]) y369.1 y369.2.1) fun y396=>bif y396 then(Option.bind (q86 lo y369.1 y369.2.1 ([(ByteArray.mk #[120])]) ([((ByteArray.mk #[114]),[y296,y297]),((ByteArray.mk #[114]),[y298,y299])])) fun y397=>some y397)else(some false))else(some false))else(some false))else(some false))))else(some false))else(some false))else(some false))else(some false))else(some false)
def Yxk:VFn:=⟨true,129,[.t 0],
 (.seq (.reg [o 0 (.mv (kb false))])
 (.seq (.reg [o 1 (.mv (.c (.f 497)))])
 (.seq (.reg [o 14 (.bsl (cs [.s]) 2 [(0,(ks (⟨#[97]⟩))),(1,(ks (⟨#[98]⟩)))]),oM 15 1,o 16 (.bsl (cs [I]) 2 [(0,(k 1)),(1,(k 2))]),o 17 (.dyn (t 15) [(k 1),(t 16)]),oM 18 1,o 19 (.bsl (cs [I]) 2 [(0,(k 1)),(1,(k 3))]),o 20 (.dyn (t 18) [(k 2),(t 19)]),oM 21 1,o 22 (.bsl (cs [I]) 2 [(0,(k 2)),(1,(k 3))]),o 23 (.dyn (t 21) [(k 3),(t 22)]),o 24 (.bsl Zc18 3 [(0,(t 17)),(1,(t 20)),(2,(t 23))]),o 25 (.build [.s (⟨#[]⟩),.e (cs [.s]),.e Zc18] [(0,1,(ks (⟨#[114]⟩))),(1,1,(t 14)),(2,1,(t 24))]),o 26 (.bsl (cs [.s]) 1 [(0,(ks (⟨#[99]⟩)))]),oM 27 1,o 28 (.bsl (cs [I]) 1 [(0,(k 3))]),o 29 (.dyn (t 27) [(k 1),(t 28)]),o 30 (.bsl Zc18 1 [(0,(t 29))]),o 31 (.build [.s (⟨#[]⟩),.e (cs [.s]),.e Zc18] [(0,1,(ks (⟨#[115]⟩))),(1,1,(t 26)),(2,1,(t 30))]),o 32 (.bsl Zc2 2 [(0,(t 25)),(1,(t 31))]),o 33 (.build [.e Zc2] [(0,1,(t 32))]),o 2 (.alloc [.e Zc2]),on (.store 1 (t 2) (t 33))])
 (.seq (.reg [o 34 (.bsl (cs [.s]) 1 [(0,(ks (⟨#[120]⟩)))]),o 35 (.call 499 [(ks (⟨#[120]⟩))]),o 36 (.call 499 [(ks (⟨#[121]⟩))]),o 37 (.bsl Zc12 2 [(0,(t 35)),(1,(t 36))]),o 38 (.build [.s (⟨#[]⟩),.e Zc12] [(0,1,(ks (⟨#[114]⟩))),(1,1,(t 37))]),o 39 (.call 499 [(ks (⟨#[121]⟩))]),o 40 (.bsl Zc12 1 [(0,(t 39))]),o 41 (.build [.s (⟨#[]⟩),.e Zc12] [(0,1,(ks (⟨#[115]⟩))),(1,1,(t 40))]),o 42 (.bsl Zc3 2 [(0,(t 38)),(1,(t 41))]),o 43 (.build [.e (cs [.s]),.e Zc3] [(0,1,(t 34)),(1,1,(t 42))]),o 3 (.alloc [.e (cs [.s]),.e Zc3]),on (.store 2 (t 3) (t 43))])
 (.seq (.reg [o 45 (.load true 1 (t 2)),o 46 (.load true 2 (t 3)),o 47 (.call 476 [(t 45),(t 46)]),oM 44 47,oE 48 44 0,oE 49 44 1,oM 4 48,oM 5 49])
 (.seq (.reg [o 51 (.load true 1 (t 2)),o 52 (.load true 2 (t 3)),o 53 (.call 498 [(k 2)]),o 54 (.fld true 1 3 (t 53)),o 55 (.bsl Zc9 1 [(0,(t 54))]),o 56 (.call 495 [(t 51),(t 52),(t 55)]),oM 50 56,oE 57 50 0,oE 58 50 1,oM 6 57,oM 7 58])
 (.seq (.reg [o 59 (.bsl (cs [.s]) 1 [(0,(ks (⟨#[120]⟩)))]),o 60 (.call 499 [(ks (⟨#[120]⟩))]),o 61 (.call 499 [(ks (⟨#[121]⟩))]),o 62 (.bsl Zc12 2 [(0,(t 60)),(1,(t 61))]),o 63 (.build [.s (⟨#[]⟩),.e Zc12] [(0,1,(ks (⟨#[114]⟩))),(1,1,(t 62))]),o 64 (.call 499 [(ks (⟨#[120]⟩))]),o 65 (.call 499 [(ks (⟨#[122]⟩))]),o 66 (.bsl Zc12 2 [(0,(t 64)),(1,(t 65))]),o 67 (.build [.s (⟨#[]⟩),.e Zc12] [(0,1,(ks (⟨#[114]⟩))),(1,1,(t 66))]),o 68 (.bsl Zc3 2 [(0,(t 63)),(1,(t 67))]),o 69 (.build [.e (cs [.s]),.e Zc3] [(0,1,(t 59)),(1,1,(t 68))]),o 8 (.alloc [.e (cs [.s]),.e Zc3]),on (.store 2 (t 8) (t 69))])
 (.seq (.reg [o 71 (.load true 2 (t 8)),o 72 (.call 484 [(t 71)]),oM 70 72,oE 73 70 0,oE 74 70 1,o 9 (.alloc [.e (cs [.s]),.e Zc3]),on (.store 2 (t 9) (t 73)),oM 10 74])
 (.seq (.reg [o 76 (.load true 2 (t 9)),o 77 (.call 489 [(t 76)]),oM 75 77,oE 78 75 0,oE 79 75 1,oM 11 78,oM 12 79])
 (.seq (.reg [oM 80 5,o 81 (.bin .eql (t 80) (k 0)),oM 82 81,og 83 82 true (.mv (t 7)),og 84 82 true (.bin .eql (t 83) (k 0)),o 85 (.pick (t 82) (t 84) (kb false)),oM 86 85,og 87 86 true (.mv (t 10)),og 88 86 true (.bin .eql (t 87) (k 0)),o 89 (.pick (t 86) (t 88) (kb false)),oM 90 89,og 91 90 true (.mv (t 12)),og 92 90 true (.bin .eql (t 91) (k 0)),o 93 (.pick (t 90) (t 92) (kb false)),oM 13 93])
 (.seq (.reg [oM 94 13,oM 95 94,og 96 95 true (.mv (t 4)),og 97 95 true (.len (t 96)),og 98 95 true (.bin .eql (t 97) (k 2)),o 99 (.pick (t 95) (t 98) (kb false)),oM 100 99,og 101 100 true (.mv (t 4)),og 102 100 true (.iad 1 (t 101) (k 1)),og 103 100 true (.load false 1 (t 102)),og 104 100 true (.iad 3 (t 103) (k 0)),og 105 100 true (.fad 1 (t 104)),og 106 100 true (.load false 1 (t 105)),og 107 100 true (.bin .eql (t 106) (k 2)),o 108 (.pick (t 100) (t 107) (kb false)),oM 109 108,og 110 109 true (.mv (t 6)),og 111 109 true (.bsl (cs [I]) 2 [(0,(k 3)),(1,(k 1))]),og 112 109 true (.bsl Zc17 1 [(0,(t 111))]),og 113 109 true (.call 346 [(t 110),(t 112)]),o 114 (.pick (t 109) (t 113) (kb false)),oM 115 114,og 116 115 true (.mv (t 11)),og 117 115 true (.bin .eql (t 116) (ks (⟨#[40,120,41,32,58,32,114,40,120,44,32,122,41]⟩))),o 118 (.pick (t 115) (t 117) (kb false)),oM 119 118,og 120 119 true (.load true 2 (t 8)),og 121 119 true (.load true 2 (t 9)),og 122 119 true (.call 482 [(t 120),(t 121)]),o 123 (.pick (t 119) (t 122) (kb false)),oM 124 123,og 125 124 true (.load true 2 (t 9)),og 126 124 true (.load true 2 (t 8)),og 127 124 true (.call 482 [(t 125),(t 126)]),o 128 (.pick (t 124) (t 127) (kb false)),oM 0 128])
 (.fz [0] .ret))))))))))))⟩
noncomputable def YmH(lo:Lo):FnE:=⟨469,true,⟨[],[],[],(cs [])⟩,.b,[],(cs [.b]),(fun x=>q99 lo:Unit->Option Bool)⟩
noncomputable def YBB(lo:Lo):List FnE:=YmH lo::fs99 lo
theorem Yxl{P:Program}{fm:FM}{lo:Lo}(h:GZ P fm fs99 lo)(t:Ti P fm 469 Yxk):GZ P fm YBB lo:=
  h.p (YmH lo) .n t (by kernel_rfl) (by kernel_rfl) fun x=>by kernel_rfl
def q100_L3_b:VCode:=
 (.seq (.reg [o 13 (.bin .lss (t 12) (t 11))])
 (.seq (.cond (t 13) .skip
 (.exit 0))
 (.seq (.blk 1 (.seq (.reg [o 14 (.iad 3 (t 10) (t 12)),o 15 (.load true 3 (t 14)),o 4 (.alloc [.s (⟨#[]⟩),.e (cs [.s]),.e Zc18]),on (.store 3 (t 4) (t 15))])
 (.seq (.reg [oF 16 2 4,oL 17 16,oN 18 17,o 19 (.bin .gtr (t 18) (k 6)),oM 20 19,og 21 20 false (.fad 1 (t 4)),og 22 20 false (.load false 1 (t 21)),og 23 20 false (.len (t 22)),og 24 20 false (.bin .gtr (t 23) (k 20)),o 25 (.pick (t 20) (kb true) (t 24))])
 (.cond (t 25) (.seq (.reg [o 2 (.mv (kb false))])
 (.fz [2] .ret))
 .skip))))
 (.reg [o 26 (.bin .add (t 12) (k 1)),oM 12 26]))))
def YdF(lo:Lo):Zt1×Int×Int->Option ((Zt1×Int×Int)⊕ (Bool⊕Unit)):=fun x=>match x with
  | (v10,v11,v12)=>bif(decide (v12<v11))then(chk (0<=v12/\v12< (v10.length:Int)) (bif(decide ((6:Int)< (((v10.getD v12.toNat ((ByteArray.mk #[]),[],[])).2.2).length:Int)))then(some (.inr (.inl false)))else(bif(decide ((20:Int)< (((v10.getD v12.toNat ((ByteArray.mk #[]),[],[])).2.1).length:Int)))then(some (.inr (.inl false)))else(some (.inl (v10,v11,(IntKind.wrap .i64 (v12+(1:Int)))))))))else(some (.inr (.inr ())))
def YfJ(lo:Lo):Zt1×Int×Int->Option (Bool⊕Unit):=lo.run (YdF lo)
def Yxm(lo:Lo):LpE:=⟨3,[],⟨[10,11,12],[.l Zc2,.i .i64,.i .i64],[],(cs [.l Zc2,I,I])⟩,[⟨.ret,⟨[2],[.b],[],(cs [.b])⟩⟩,⟨.exit 0,⟨[],[],[],(cs [])⟩⟩],YfJ lo⟩
def Yxn(lo:Lo):LL:=(Yxm lo,.loop q100_L3_b.er)::[]
theorem Yxo(lo:Lo):Lk lo pf (YBB lo) 0 (Yxn lo):=.l .n (YdF lo) rfl (by kernel_rfl) fun x=>by kernel_rfl
def q100(lo:Lo)(db0:List (ByteArray×Zt5×Zt13)):Option Bool:=
  bif(decide ((6:Int)< (db0.length:Int)))then(some false)else(Option.bind (YfJ lo (db0,(db0.length:Int),(0:Int))) fun y400=>alt2 y400 (fun y401=>some y401) (fun y402=>some true))
def Yxp:VFn:=⟨true,27,[.t 2],
 (.seq (.reg [o 1 (.box (t 0)),o 2 (.mv (kb false))])
 (.seq (.seq (.reg [oF 5 0 1,oL 6 5,oN 7 6,o 8 (.bin .gtr (t 7) (k 6))])
 (.cond (t 8) (.seq (.reg [o 2 (.mv (kb false))])
 (.fz [2] .ret))
 .skip))
 (.seq (.seq (.reg [oF 9 0 1,oL 10 9,oN 11 10,o 12 (.mv (k 0))])
 (.blk 0 (.loop 3 q100_L3_b)))
 (.seq (.reg [o 2 (.mv (kb true))])
 (.fz [2] .ret)))))⟩
def YmI(lo:Lo):FnE:=⟨470,true,⟨[0],[.ag [.l Zc2]],[],(cs [.l Zc2])⟩,.b,[],(cs [.b]),(fun x=>q100 lo x:Zt1->Option Bool)⟩
noncomputable def YBC(lo:Lo):List FnE:=YmI lo::YBB lo
theorem Yxq{P:Program}{fm:FM}{lo:Lo}(h:GZ P fm YBB lo)(t:Ti P fm 470 Yxp):GZ P fm YBC lo:=
  h.p (YmI lo) (Yxo lo) t (by kernel_rfl) (by kernel_rfl) fun x=>by kernel_rfl
def q101_L3_b:VCode:=
 (.seq (.reg [o 19 (.bin .lss (t 18) (t 17))])
 (.seq (.cond (t 19) .skip
 (.exit 0))
 (.seq (.blk 1 (.seq (.reg [oM 20 18,o 21 (.iad 2 (t 16) (t 18)),o 22 (.load true 2 (t 21)),o 4 (.alloc [.s (⟨#[]⟩),.e Zc12]),oM 3 20,on (.store 2 (t 4) (t 22))])
 (.seq (.reg [oF 23 1 4,oL 24 23,oN 25 24,o 26 (.bin .gtr (t 25) (k 20)),oM 27 26,og 28 27 false (.mv (t 3)),og 29 27 false (.bin .gtr (t 28) (k 3)),og 30 27 false (.mv (t 29)),og 31 30 true (.fad 1 (t 4)),og 32 30 true (.load false 1 (t 31)),og 33 30 true (.len (t 32)),og 34 30 true (.bin .gtr (t 33) (k 1)),og 35 27 false (.pick (t 30) (t 34) (kb false)),o 36 (.pick (t 27) (kb true) (t 35))])
 (.cond (t 36) (.seq (.reg [o 2 (.mv (kb false))])
 (.fz [2] .ret))
 .skip))))
 (.reg [o 37 (.bin .add (t 18) (k 1)),oM 18 37]))))
def YdG(lo:Lo):Zt0×Int×Int->Option ((Zt0×Int×Int)⊕ (Bool⊕Unit)):=fun x=>match x with
  | (v16,v17,v18)=>bif(decide (v18<v17))then(chk (0<=v18/\v18< (v16.length:Int)) (bif(decide ((20:Int)< (((v16.getD v18.toNat ((ByteArray.mk #[]),[])).2).length:Int)))then(some (.inr (.inl false)))else(bif(decide ((3:Int)<v18))then(bif(decide ((1:Int)< (((v16.getD v18.toNat ((ByteArray.mk #[]),[])).2).length:Int)))then(some (.inr (.inl false)))else(some (.inl (v16,v17,(IntKind.wrap .i64 (v18+(1:Int)))))))else(some (.inl (v16,v17,(IntKind.wrap .i64 (v18+(1:Int)))))))))else(some (.inr (.inr ())))
def YfK(lo:Lo):Zt0×Int×Int->Option (Bool⊕Unit):=lo.run (YdG lo)
def Yxr(lo:Lo):LpE:=⟨3,[],⟨[16,17,18],[.l Zc3,.i .i64,.i .i64],[],(cs [.l Zc3,I,I])⟩,[⟨.ret,⟨[2],[.b],[],(cs [.b])⟩⟩,⟨.exit 0,⟨[],[],[],(cs [])⟩⟩],YfK lo⟩
def Yxs(lo:Lo):LL:=(Yxr lo,.loop q101_L3_b.er)::[]
theorem Yxt(lo:Lo):Lk lo pf (YBC lo) 0 (Yxs lo):=.l .n (YdG lo) rfl (by kernel_rfl) fun x=>by kernel_rfl
def q101(lo:Lo)(q0_0:List ByteArray)(q0_1:List (ByteArray×Zt7)):Option Bool:=
  bif(decide ((10:Int)< (q0_0.length:Int)))then(some false)else(bif(decide ((8:Int)< (q0_1.length:Int)))then(some false)else(Option.bind (YfK lo (q0_1,(q0_1.length:Int),(0:Int))) fun y405=>alt2 y405 (fun y406=>some y406) (fun y407=>some true)))
def Yxu:VFn:=⟨true,38,[.t 2],
 (.seq (.reg [o 1 (.box (t 0)),o 2 (.mv (kb false))])
 (.seq (.seq (.reg [oF 5 0 1,oL 6 5,oN 7 6,o 8 (.bin .gtr (t 7) (k 10)),oM 9 8,og 10 9 false (.fad 1 (t 1)),og 11 9 false (.load false 1 (t 10)),og 12 9 false (.len (t 11)),og 13 9 false (.bin .gtr (t 12) (k 8)),o 14 (.pick (t 9) (kb true) (t 13))])
 (.cond (t 14) (.seq (.reg [o 2 (.mv (kb false))])
 (.fz [2] .ret))
 .skip))
 (.seq (.seq (.reg [oF 15 1 1,oL 16 15,oN 17 16,o 18 (.mv (k 0))])
 (.blk 0 (.loop 3 q101_L3_b)))
 (.seq (.reg [o 2 (.mv (kb true))])
 (.fz [2] .ret)))))⟩
def YmJ(lo:Lo):FnE:=⟨471,true,⟨[0],[.ag [.l (cs [.s]),.l Zc3]],[],Zc29⟩,.b,[],(cs [.b]),(fun x=>q101 lo x.1 x.2:Zt5×Zt0->Option Bool)⟩
noncomputable def YBY(lo:Lo):List FnE:=YmJ lo::YBC lo
theorem Yxv{P:Program}{fm:FM}{lo:Lo}(h:GZ P fm YBC lo)(t:Ti P fm 471 Yxu):GZ P fm YBY lo:=
  h.p (YmJ lo) (Yxt lo) t (by kernel_rfl) (by kernel_rfl) fun x=>by kernel_rfl
def q102(lo:Lo)(c0:Int):Option Bool:=
  bif(decide ((97:Int)<=c0))then(bif(decide (c0<=(122:Int)))then(some true)else(bif(decide ((65:Int)<=c0))then(bif(decide (c0<=(90:Int)))then(some true)else(some (decide (c0=(95:Int)))))else(some (decide (c0=(95:Int))))))else(bif(decide ((65:Int)<=c0))then(bif(decide (c0<=(90:Int)))then(some true)else(some (decide (c0=(95:Int)))))else(some (decide (c0=(95:Int)))))
def Yxw:VFn:=⟨true,21,[.t 2],
 (.seq (.reg [o 2 (.mv (kb false))])
 (.seq (.reg [oM 3 0,o 4 (.bin .geq (t 3) (ki .u8 97)),oM 5 4,og 6 5 true (.mv (t 0)),og 7 5 true (.bin .leq (t 6) (ki .u8 122)),o 8 (.pick (t 5) (t 7) (kb false)),oM 9 8,og 10 9 false (.mv (t 0)),og 11 9 false (.bin .geq (t 10) (ki .u8 65)),og 12 9 false (.mv (t 11)),og 13 12 true (.mv (t 0)),og 14 12 true (.bin .leq (t 13) (ki .u8 90)),og 15 9 false (.pick (t 12) (t 14) (kb false)),o 16 (.pick (t 9) (kb true) (t 15)),oM 17 16,og 18 17 false (.mv (t 0)),og 19 17 false (.bin .eql (t 18) (ki .u8 95)),o 20 (.pick (t 17) (kb true) (t 19)),oM 2 20])
 (.fz [2] .ret)))⟩
def YmK(lo:Lo):FnE:=⟨295,true,⟨[0],[.i .u8],[],Zc44⟩,.b,[],(cs [.b]),(fun x=>q102 lo x:Int->Option Bool)⟩
noncomputable def YBD(lo:Lo):List FnE:=YmK lo::YBY lo
theorem Yxx{P:Program}{fm:FM}{lo:Lo}(h:GZ P fm YBY lo)(t:Ti P fm 295 Yxw):GZ P fm YBD lo:=
  h.p (YmK lo) .n t (by kernel_rfl) (by kernel_rfl) fun x=>by kernel_rfl
def q103_L3_b:VCode:=
 (.seq (.seq (.reg [oM 22 3,oM 23 0,o 24 (.lenS (t 23)),o 25 (.bin .lss (t 22) (t 24))])
 (.cond (t 25) .skip
 (.exit 0)))
 (.seq (.blk 1 (.seq (.reg [oM 28 0,oM 29 3,o 30 (.idx (t 28) (t 29)),o 31 (.call 295 [(t 30)]),o 32 (.not (t 31)),oM 33 32,og 34 33 true (.mv (t 0)),og 35 33 true (.mv (t 3)),og 36 33 true (.idx (t 34) (t 35)),og 37 33 true (.bin .lss (t 36) (ki .u8 48)),og 38 33 true (.mv (t 37)),og 39 38 false (.mv (t 0)),og 40 38 false (.mv (t 3)),og 41 38 false (.idx (t 39) (t 40)),og 42 38 false (.bin .gtr (t 41) (ki .u8 57)),og 43 33 true (.pick (t 38) (kb true) (t 42)),o 44 (.pick (t 33) (t 43) (kb false))])
 (.cond (t 44) (.seq (.reg [o 2 (.mv (kb false))])
 (.fz [2] .ret))
 .skip)))
 (.reg [oM 26 3,o 27 (.bin .add (t 26) (k 1)),oM 3 27])))
def YdH(lo:Lo):ByteArray×Int->Option ((ByteArray×Int)⊕ (Bool⊕Unit)):=fun x=>match x with
  | (s0,i3)=>bif(decide (i3< (s0.size:Int)))then(chk (0<=i3/\i3< (s0.size:Int)) (Option.bind (q102 lo (Yzn s0 i3)) fun y412=>bif(!y412)then(chk (0<=i3/\i3< (s0.size:Int)) (bif(decide ((Yzn s0 i3)< (48:Int)))then(some (.inr (.inl false)))else(chk (0<=i3/\i3< (s0.size:Int)) (bif(decide ((57:Int)< (Yzn s0 i3)))then(some (.inr (.inl false)))else(some (.inl (s0,(IntKind.wrap .i64 (i3+(1:Int))))))))))else(some (.inl (s0,(IntKind.wrap .i64 (i3+(1:Int))))))))else(some (.inr (.inr ())))
def YfL(lo:Lo):ByteArray×Int->Option (Bool⊕Unit):=lo.run (YdH lo)
def Yxy(lo:Lo):LpE:=⟨3,[],⟨[0,3],[.s,.i .i64],[],(cs [.s,I])⟩,[⟨.ret,⟨[2],[.b],[],(cs [.b])⟩⟩,⟨.exit 0,⟨[],[],[],(cs [])⟩⟩],YfL lo⟩
def Yxz(lo:Lo):LL:=(Yxy lo,.loop q103_L3_b.er)::[]
theorem YxA(lo:Lo):Lk lo pf (YBD lo) 0 (Yxz lo):=.l .n (YdH lo) rfl (by kernel_rfl) fun x=>by kernel_rfl
def q103(lo:Lo)(s0:ByteArray):Option Bool:=
  bif(decide ((s0.size:Int)=(0:Int)))then(some false)else(bif(decide ((24:Int)< (s0.size:Int)))then(some false)else(chk (0<=(0:Int)/\ (0:Int)< (s0.size:Int)) (Option.bind (q102 lo (Yzn s0 (0:Int))) fun y411=>bif(!y411)then(some false)else(bif(decide (s0=(ByteArray.mk #[110,117,108,108])))then(some false)else(Option.bind (YfL lo (s0,(0:Int))) fun y413=>alt2 y413 (fun y414=>some y414) (fun y415=>some true))))))
def YxB:VFn:=⟨true,45,[.t 2],
 (.seq (.reg [o 2 (.mv (kb false))])
 (.seq (.seq (.reg [oM 4 0,o 5 (.lenS (t 4)),o 6 (.bin .eql (t 5) (k 0)),oM 7 6,og 8 7 false (.mv (t 0)),og 9 7 false (.lenS (t 8)),og 10 7 false (.bin .gtr (t 9) (k 24)),o 11 (.pick (t 7) (kb true) (t 10)),oM 12 11,og 13 12 false (.mv (t 0)),og 14 12 false (.idx (t 13) (k 0)),og 15 12 false (.call 295 [(t 14)]),og 16 12 false (.not (t 15)),o 17 (.pick (t 12) (kb true) (t 16)),oM 18 17,og 19 18 false (.mv (t 0)),og 20 18 false (.bin .eql (t 19) (ks (⟨#[110,117,108,108]⟩))),o 21 (.pick (t 18) (kb true) (t 20))])
 (.cond (t 21) (.seq (.reg [o 2 (.mv (kb false))])
 (.fz [2] .ret))
 .skip))
 (.seq (.seq (.reg [o 3 (.mv (k 0))])
 (.blk 0 (.loop 3 q103_L3_b)))
 (.seq (.reg [o 2 (.mv (kb true))])
 (.fz [2] .ret)))))⟩
def YmL(lo:Lo):FnE:=⟨258,true,⟨[0],[.s],[],(cs [.s])⟩,.b,[],(cs [.b]),(fun x=>q103 lo x:ByteArray->Option Bool)⟩
noncomputable def YBE(lo:Lo):List FnE:=YmL lo::YBD lo
theorem YxC{P:Program}{fm:FM}{lo:Lo}(h:GZ P fm YBD lo)(t:Ti P fm 258 YxB):GZ P fm YBE lo:=
  h.p (YmL lo) (YxA lo) t (by kernel_rfl) (by kernel_rfl) fun x=>by kernel_rfl
def q104_L3_b:VCode:=
 (.seq (.seq (.reg [oM 6 5,oM 7 0,oN 8 7,o 9 (.bin .lss (t 6) (t 8))])
 (.cond (t 9) .skip
 (.exit 0)))
 (.seq (.blk 1 (.seq (.reg [oM 12 0,oM 13 5,o 14 (.iad 1 (t 12) (t 13)),oL 15 14,oM 16 1,o 17 (.bin .eql (t 15) (t 16))])
 (.cond (t 17) (.seq (.reg [oM 18 5,oM 4 18])
 (.fz [4] .ret))
 .skip)))
 (.reg [oM 10 5,o 11 (.bin .add (t 10) (k 1)),oM 5 11])))
def YdI(lo:Lo):Zt5×ByteArray×Int->Option ((Zt5×ByteArray×Int)⊕ (Int⊕Unit)):=fun x=>match x with
  | (l0,name1,i5)=>bif(decide (i5< (l0.length:Int)))then(chk (0<=i5/\i5< (l0.length:Int)) (bif(decide ((l0.getD i5.toNat (ByteArray.mk #[]))=name1))then(some (.inr (.inl i5)))else(some (.inl (l0,name1,(IntKind.wrap .i64 (i5+(1:Int))))))))else(some (.inr (.inr ())))
def YfM(lo:Lo):Zt5×ByteArray×Int->Option (Int⊕Unit):=lo.run (YdI lo)
def YxD(lo:Lo):LpE:=⟨3,[],⟨[0,1,5],[.l (cs [.s]),.s,.i .i64],[],(cs [.l (cs [.s]),.s,I])⟩,[⟨.ret,⟨[4],[.i .i64],[],(cs [I])⟩⟩,⟨.exit 0,⟨[],[],[],(cs [])⟩⟩],YfM lo⟩
def YxE(lo:Lo):LL:=(YxD lo,.loop q104_L3_b.er)::[]
theorem YxF(lo:Lo):Lk lo pf (YBE lo) 0 (YxE lo):=.l .n (YdI lo) rfl (by kernel_rfl) fun x=>by kernel_rfl
def q104(lo:Lo)(l0:List ByteArray)(name1:ByteArray):Option Int:=
  Option.bind (YfM lo (l0,name1,(0:Int))) fun y418=>alt2 y418 (fun y419=>some y419) (fun y420=>some (-1:Int))
def YxG:VFn:=⟨true,19,[.t 4],
 (.seq (.reg [o 4 (.mv (k 0))])
 (.seq (.seq (.reg [o 5 (.mv (k 0))])
 (.blk 0 (.loop 3 q104_L3_b)))
 (.seq (.reg [o 4 (.mv (k (-1)))])
 (.fz [4] .ret))))⟩
def YmM(lo:Lo):FnE:=⟨272,true,⟨[0,1],[.l (cs [.s]),.s],[],(cs [.l (cs [.s]),.s])⟩,.i .i64,[],(cs [I]),(fun x=>q104 lo x.1 x.2:Zt5×ByteArray->Option Int)⟩
noncomputable def YBF(lo:Lo):List FnE:=YmM lo::YBE lo
theorem YxH{P:Program}{fm:FM}{lo:Lo}(h:GZ P fm YBE lo)(t:Ti P fm 272 YxG):GZ P fm YBF lo:=
  h.p (YmM lo) (YxF lo) t (by kernel_rfl) (by kernel_rfl) fun x=>by kernel_rfl
def q105_L3_b:VCode:=
 (.seq (.seq (.reg [oM 4 3,oM 5 0,oN 6 5,o 7 (.bin .lss (t 4) (t 6))])
 (.cond (t 7) .skip
 (.exit 0)))
 (.seq (.blk 1 (.seq (.reg [oM 10 0,oM 11 3,o 12 (.iad 1 (t 10) (t 11)),oL 13 12,o 14 (.call 258 [(t 13)]),o 15 (.not (t 14)),oM 16 15,og 17 16 false (.mv (t 0)),og 18 16 false (.mv (t 3)),og 19 16 false (.slcR 1 (t 17) none (some (t 18))),og 20 16 false (.mv (t 0)),og 21 16 false (.mv (t 3)),og 22 16 false (.iad 1 (t 20) (t 21)),og 23 16 false (.load false 1 (t 22)),og 24 16 false (.call 272 [(t 19),(t 23)]),og 25 16 false (.bin .geq (t 24) (k 0)),o 26 (.pick (t 16) (kb true) (t 25))])
 (.cond (t 26) (.seq (.reg [o 2 (.mv (kb false))])
 (.fz [2] .ret))
 .skip)))
 (.reg [oM 8 3,o 9 (.bin .add (t 8) (k 1)),oM 3 9])))
def YdJ(lo:Lo):Zt5×Int->Option ((Zt5×Int)⊕ (Bool⊕Unit)):=fun x=>match x with
  | (l0,i3)=>bif(decide (i3< (l0.length:Int)))then(chk (0<=i3/\i3< (l0.length:Int)) (Option.bind (q103 lo (l0.getD i3.toNat (ByteArray.mk #[]))) fun y417=>bif(!y417)then(some (.inr (.inl false)))else(chk (0<=(0:Int)/\ (0:Int)<=i3/\i3<=(l0.length:Int)) (chk (0<=i3/\i3< (l0.length:Int)) (Option.bind (q104 lo ((l0.take i3.toNat).drop 0) (l0.getD i3.toNat (ByteArray.mk #[]))) fun y421=>bif(decide ((0:Int)<=y421))then(some (.inr (.inl false)))else(some (.inl (l0,(IntKind.wrap .i64 (i3+(1:Int)))))))))))else(some (.inr (.inr ())))
def YfN(lo:Lo):Zt5×Int->Option (Bool⊕Unit):=lo.run (YdJ lo)
def YxI(lo:Lo):LpE:=⟨3,[],⟨[0,3],[.l (cs [.s]),.i .i64],[],(cs [.l (cs [.s]),I])⟩,[⟨.ret,⟨[2],[.b],[],(cs [.b])⟩⟩,⟨.exit 0,⟨[],[],[],(cs [])⟩⟩],YfN lo⟩
def YxJ(lo:Lo):LL:=(YxI lo,.loop q105_L3_b.er)::[]
theorem YxK(lo:Lo):Lk lo pf (YBF lo) 0 (YxJ lo):=.l .n (YdJ lo) rfl (by kernel_rfl) fun x=>by kernel_rfl
def q105(lo:Lo)(l0:List ByteArray):Option Bool:=
  Option.bind (YfN lo (l0,(0:Int))) fun y422=>alt2 y422 (fun y423=>some y423) (fun y424=>some true)
def YxL:VFn:=⟨true,27,[.t 2],
 (.seq (.reg [o 2 (.mv (kb false))])
 (.seq (.seq (.reg [o 3 (.mv (k 0))])
 (.blk 0 (.loop 3 q105_L3_b)))
 (.seq (.reg [o 2 (.mv (kb true))])
 (.fz [2] .ret))))⟩
def YmN(lo:Lo):FnE:=⟨259,true,⟨[0],[.l (cs [.s])],[],Zc24⟩,.b,[],(cs [.b]),(fun x=>q105 lo x:Zt5->Option Bool)⟩
noncomputable def YBZ(lo:Lo):List FnE:=YmN lo::YBF lo
theorem YxM{P:Program}{fm:FM}{lo:Lo}(h:GZ P fm YBF lo)(t:Ti P fm 259 YxL):GZ P fm YBZ lo:=
  h.p (YmN lo) (YxK lo) t (by kernel_rfl) (by kernel_rfl) fun x=>by kernel_rfl
def q106(lo:Lo)(v0_0:Int)(v0_1:Int)(v0_2:ByteArray):Option Bool:=
  bif(decide (v0_0=(0:Int)))then(bif(decide (v0_1=(0:Int)))then(some (decide (v0_2=(ByteArray.mk #[]))))else(some false))else(bif(decide (v0_0=(1:Int)))then(some (decide (v0_2=(ByteArray.mk #[]))))else(bif(decide (v0_0=(2:Int)))then(bif(decide (v0_1=(0:Int)))then(some (decide ((v0_2.size:Int)<=(200:Int))))else(some false))else(bif(decide (v0_0=(3:Int)))then(bif(decide ((1:Int)<=v0_1))then(some (decide (v0_2=(ByteArray.mk #[]))))else(some false))else(some false))))
def YxN:VFn:=⟨true,44,[.t 2],
 (.seq (.reg [o 1 (.box (t 0)),o 2 (.mv (kb false))])
 (.seq (.seq (.reg [oF 3 0 1,oL 4 3])
 (.blk 0 (.seq (.reg [o 6 (.bin .eql (t 4) (k 0)),oM 5 6])
 (.cond (t 5) (.seq (.reg [oF 7 1 1,oL 8 7,o 9 (.bin .eql (t 8) (k 0)),oM 10 9,og 11 10 true (.fad 2 (t 1)),og 12 10 true (.load false 1 (t 11)),og 13 10 true (.bin .eql (t 12) (ks (⟨#[]⟩))),o 14 (.pick (t 10) (t 13) (kb false)),oM 2 14])
 (.fz [2] .ret))
 (.seq (.reg [o 16 (.bin .eql (t 4) (k 1)),oM 15 16])
 (.cond (t 15) (.seq (.reg [oF 17 2 1,oL 18 17,o 19 (.bin .eql (t 18) (ks (⟨#[]⟩))),oM 2 19])
 (.fz [2] .ret))
 (.seq (.reg [o 21 (.bin .eql (t 4) (k 2)),oM 20 21])
 (.cond (t 20) (.seq (.reg [oF 22 1 1,oL 23 22,o 24 (.bin .eql (t 23) (k 0)),oM 25 24,og 26 25 true (.fad 2 (t 1)),og 27 25 true (.load false 1 (t 26)),og 28 25 true (.lenS (t 27)),og 29 25 true (.bin .leq (t 28) (k 200)),o 30 (.pick (t 25) (t 29) (kb false)),oM 2 30])
 (.fz [2] .ret))
 .skip))))))))
 (.seq (.reg [oF 31 0 1,oL 32 31,o 33 (.bin .eql (t 32) (k 3)),oM 34 33,og 35 34 true (.fad 1 (t 1)),og 36 34 true (.load false 1 (t 35)),og 37 34 true (.bin .geq (t 36) (k 1)),o 38 (.pick (t 34) (t 37) (kb false)),oM 39 38,og 40 39 true (.fad 2 (t 1)),og 41 39 true (.load false 1 (t 40)),og 42 39 true (.bin .eql (t 41) (ks (⟨#[]⟩))),o 43 (.pick (t 39) (t 42) (kb false)),oM 2 43])
 (.fz [2] .ret))))⟩
def YmO(lo:Lo):FnE:=⟨284,true,⟨[0],[.ag [.i .i64,.i .i64,.s]],[],Zc9⟩,.b,[],(cs [.b]),(fun x=>q106 lo x.1 x.2.1 x.2.2:Int×Int×ByteArray->Option Bool)⟩
noncomputable def YBG(lo:Lo):List FnE:=YmO lo::YBZ lo
theorem YxO{P:Program}{fm:FM}{lo:Lo}(h:GZ P fm YBZ lo)(t:Ti P fm 284 YxN):GZ P fm YBG lo:=
  h.p (YmO lo) .n t (by kernel_rfl) (by kernel_rfl) fun x=>by kernel_rfl
def q107_L3_b:VCode:=
 (.seq (.seq (.reg [oM 4 3,oM 5 0,oN 6 5,o 7 (.bin .lss (t 4) (t 6))])
 (.cond (t 7) .skip
 (.exit 0)))
 (.seq (.blk 1 (.seq (.reg [oM 10 0,oM 11 3,o 12 (.iad 3 (t 10) (t 11)),o 13 (.load true 3 (t 12)),o 14 (.call 284 [(t 13)]),o 15 (.not (t 14))])
 (.cond (t 15) (.seq (.reg [o 2 (.mv (kb false))])
 (.fz [2] .ret))
 .skip)))
 (.reg [oM 8 3,o 9 (.bin .add (t 8) (k 1)),oM 3 9])))
def YdK(lo:Lo):Zt6×Int->Option ((Zt6×Int)⊕ (Bool⊕Unit)):=fun x=>match x with
  | (l0,i3)=>bif(decide (i3< (l0.length:Int)))then(chk (0<=i3/\i3< (l0.length:Int)) (Option.bind (q106 lo ((l0.getD i3.toNat ((0:Int),(0:Int),(ByteArray.mk #[]))).1) ((l0.getD i3.toNat ((0:Int),(0:Int),(ByteArray.mk #[]))).2.1) ((l0.getD i3.toNat ((0:Int),(0:Int),(ByteArray.mk #[]))).2.2)) fun y426=>bif(!y426)then(some (.inr (.inl false)))else(some (.inl (l0,(IntKind.wrap .i64 (i3+(1:Int))))))))else(some (.inr (.inr ())))
def YfO(lo:Lo):Zt6×Int->Option (Bool⊕Unit):=lo.run (YdK lo)
def YxP(lo:Lo):LpE:=⟨3,[],⟨[0,3],[.l Zc9,.i .i64],[],(cs [.l Zc9,I])⟩,[⟨.ret,⟨[2],[.b],[],(cs [.b])⟩⟩,⟨.exit 0,⟨[],[],[],(cs [])⟩⟩],YfO lo⟩
def YxQ(lo:Lo):LL:=(YxP lo,.loop q107_L3_b.er)::[]
theorem YxR(lo:Lo):Lk lo pf (YBG lo) 0 (YxQ lo):=.l .n (YdK lo) rfl (by kernel_rfl) fun x=>by kernel_rfl
def q107(lo:Lo)(l0:List (Int×Int×ByteArray)):Option Bool:=
  Option.bind (YfO lo (l0,(0:Int))) fun y427=>alt2 y427 (fun y428=>some y428) (fun y429=>some true)
def YxS:VFn:=⟨true,16,[.t 2],
 (.seq (.reg [o 2 (.mv (kb false))])
 (.seq (.seq (.reg [o 3 (.mv (k 0))])
 (.blk 0 (.loop 3 q107_L3_b)))
 (.seq (.reg [o 2 (.mv (kb true))])
 (.fz [2] .ret))))⟩
def YmP(lo:Lo):FnE:=⟨260,true,⟨[0],[.l Zc9],[],Zc35⟩,.b,[],(cs [.b]),(fun x=>q107 lo x:Zt6->Option Bool)⟩
noncomputable def YBH(lo:Lo):List FnE:=YmP lo::YBG lo
theorem YxT{P:Program}{fm:FM}{lo:Lo}(h:GZ P fm YBG lo)(t:Ti P fm 260 YxS):GZ P fm YBH lo:=
  h.p (YmP lo) (YxR lo) t (by kernel_rfl) (by kernel_rfl) fun x=>by kernel_rfl
def q108_L3_b:VCode:=
 (.seq (.seq (.reg [oM 24 4,oF 25 2 1,oL 26 25,oN 27 26,o 28 (.bin .lss (t 24) (t 27))])
 (.cond (t 28) .skip
 (.exit 0)))
 (.seq (.blk 1 (.seq (.reg [oF 31 2 1,oL 32 31,oM 33 4,o 34 (.iad 2 (t 32) (t 33)),o 35 (.load true 2 (t 34)),o 5 (.alloc [.i .i64 0,.e Zc9]),on (.store 2 (t 5) (t 35))])
 (.seq (.seq (.reg [oF 36 0 5,oL 37 36,oM 38 3,o 39 (.bin .leq (t 37) (t 38))])
 (.cond (t 39) (.seq (.reg [o 2 (.mv (k 1))])
 (.fz [2] .ret))
 .skip))
 (.seq (.reg [oF 40 0 5,oL 41 40,oM 3 41])
 (.seq (.seq (.reg [oF 42 1 5,oL 43 42,oN 44 43,oF 45 1 1,oL 46 45,oN 47 46,o 48 (.bin .neq (t 44) (t 47))])
 (.cond (t 48) (.seq (.reg [o 2 (.mv (k 6))])
 (.fz [2] .ret))
 .skip))
 (.seq (.reg [oF 49 1 5,oL 50 49,o 51 (.call 260 [(t 50)]),o 52 (.not (t 51))])
 (.cond (t 52) (.seq (.reg [o 2 (.mv (k 1))])
 (.fz [2] .ret))
 .skip)))))))
 (.reg [oM 29 4,o 30 (.bin .add (t 29) (k 1)),oM 4 30])))
def YdL(lo:Lo):Int×Int×ByteArray×Zt5×Zt13->Option ((Int×Int×ByteArray×Zt5×Zt13)⊕ (Int⊕Unit)):=fun x=>match x with
  | (before3,i4,t1_0,t1_1,t1_2)=>bif(decide (i4< (t1_2.length:Int)))then(chk (0<=i4/\i4< (t1_2.length:Int)) (bif(decide ((t1_2.getD i4.toNat ((0:Int),[])).1<=before3))then(some (.inr (.inl (1:Int))))else(bif(!decide ((((t1_2.getD i4.toNat ((0:Int),[])).2).length:Int)=(t1_1.length:Int)))then(some (.inr (.inl (6:Int))))else(Option.bind (q107 lo ((t1_2.getD i4.toNat ((0:Int),[])).2)) fun y430=>bif(!y430)then(some (.inr (.inl (1:Int))))else(some (.inl ((t1_2.getD i4.toNat ((0:Int),[])).1,(IntKind.wrap .i64 (i4+(1:Int))),t1_0,t1_1,t1_2)))))))else(some (.inr (.inr ())))
def YfP(lo:Lo):Int×Int×ByteArray×Zt5×Zt13->Option (Int⊕Unit):=lo.run (YdL lo)
def YxU(lo:Lo):LpE:=⟨3,[],⟨[1,3,4],[.ptr 0 0 0,.i .i64,.i .i64],[.st [.s,.l (cs [.s]),.l Zc18]],(cs [I,I,.s,.l (cs [.s]),.l Zc18])⟩,[⟨.ret,⟨[2],[.i .i64],[],(cs [I])⟩⟩,⟨.exit 0,⟨[],[],[],(cs [])⟩⟩],YfP lo⟩
def YxV(lo:Lo):LL:=(YxU lo,.loop q108_L3_b.er)::[]
theorem YxW(lo:Lo):Lk lo pf (YBH lo) 0 (YxV lo):=.l .n (YdL lo) rfl (by kernel_rfl) fun x=>by kernel_rfl
def q108(lo:Lo)(t0_0:ByteArray)(t0_1:List ByteArray)(t0_2:List (Int×Zt6)):Option Int:=
  Option.bind (q103 lo t0_0) fun y416=>bif(!y416)then(some (1:Int))else(bif(decide ((16:Int)< (t0_1.length:Int)))then(some (3:Int))else(bif(decide ((1000:Int)< (t0_2.length:Int)))then(some (3:Int))else(Option.bind (q105 lo t0_1) fun y425=>bif(!y425)then(some (1:Int))else(Option.bind (YfP lo ((0:Int),(0:Int),t0_0,t0_1,t0_2)) fun y431=>alt2 y431 (fun y432=>some y432) (fun y433=>some (0:Int))))))
def YxX:VFn:=⟨true,53,[.t 2],
 (.seq (.reg [o 1 (.box (t 0)),o 2 (.mv (k 0))])
 (.seq (.seq (.reg [oF 6 0 1,oL 7 6,o 8 (.call 258 [(t 7)]),o 9 (.not (t 8))])
 (.cond (t 9) (.seq (.reg [o 2 (.mv (k 1))])
 (.fz [2] .ret))
 .skip))
 (.seq (.seq (.reg [oF 10 1 1,oL 11 10,oN 12 11,o 13 (.bin .gtr (t 12) (k 16)),oM 14 13,og 15 14 false (.fad 2 (t 1)),og 16 14 false (.load false 1 (t 15)),og 17 14 false (.len (t 16)),og 18 14 false (.bin .gtr (t 17) (k 1000)),o 19 (.pick (t 14) (kb true) (t 18))])
 (.cond (t 19) (.seq (.reg [o 2 (.mv (k 3))])
 (.fz [2] .ret))
 .skip))
 (.seq (.seq (.reg [oF 20 1 1,oL 21 20,o 22 (.call 259 [(t 21)]),o 23 (.not (t 22))])
 (.cond (t 23) (.seq (.reg [o 2 (.mv (k 1))])
 (.fz [2] .ret))
 .skip))
 (.seq (.reg [o 3 (.mv (k 0))])
 (.seq (.seq (.reg [o 4 (.mv (k 0))])
 (.blk 0 (.loop 3 q108_L3_b)))
 (.seq (.reg [o 2 (.mv (k 0))])
 (.fz [2] .ret))))))))⟩
def YmQ(lo:Lo):FnE:=⟨231,true,⟨[0],[.ag [.s,.l (cs [.s]),.l Zc18]],[],Zc2⟩,.i .i64,[],(cs [I]),(fun x=>q108 lo x.1 x.2.1 x.2.2:ByteArray×Zt5×Zt13->Option Int)⟩
noncomputable def YBI(lo:Lo):List FnE:=YmQ lo::YBH lo
theorem YxY{P:Program}{fm:FM}{lo:Lo}(h:GZ P fm YBH lo)(t:Ti P fm 231 YxX):GZ P fm YBI lo:=
  h.p (YmQ lo) (YxW lo) t (by kernel_rfl) (by kernel_rfl) fun x=>by kernel_rfl
def q109_L3_b:VCode:=
 (.seq (.seq (.reg [oM 6 5,oM 7 0,oN 8 7,o 9 (.bin .lss (t 6) (t 8))])
 (.cond (t 9) .skip
 (.exit 0)))
 (.seq (.blk 1 (.seq (.reg [oM 12 0,oM 13 5,o 14 (.iad 3 (t 12) (t 13)),oF 15 0 14,oL 16 15,oM 17 1,o 18 (.bin .eql (t 16) (t 17))])
 (.cond (t 18) (.seq (.reg [oM 19 5,oM 4 19])
 (.fz [4] .ret))
 .skip)))
 (.reg [oM 10 5,o 11 (.bin .add (t 10) (k 1)),oM 5 11])))
def YdM(lo:Lo):Zt1×ByteArray×Int->Option ((Zt1×ByteArray×Int)⊕ (Int⊕Unit)):=fun x=>match x with
  | (l0,name1,i5)=>bif(decide (i5< (l0.length:Int)))then(chk (0<=i5/\i5< (l0.length:Int)) (bif(decide ((l0.getD i5.toNat ((ByteArray.mk #[]),[],[])).1=name1))then(some (.inr (.inl i5)))else(some (.inl (l0,name1,(IntKind.wrap .i64 (i5+(1:Int))))))))else(some (.inr (.inr ())))
def YfQ(lo:Lo):Zt1×ByteArray×Int->Option (Int⊕Unit):=lo.run (YdM lo)
def YxZ(lo:Lo):LpE:=⟨3,[],⟨[0,1,5],[.l Zc2,.s,.i .i64],[],(cs [.l Zc2,.s,I])⟩,[⟨.ret,⟨[4],[.i .i64],[],(cs [I])⟩⟩,⟨.exit 0,⟨[],[],[],(cs [])⟩⟩],YfQ lo⟩
def Yx0(lo:Lo):LL:=(YxZ lo,.loop q109_L3_b.er)::[]
theorem Yx1(lo:Lo):Lk lo pf (YBI lo) 0 (Yx0 lo):=.l .n (YdM lo) rfl (by kernel_rfl) fun x=>by kernel_rfl
def q109(lo:Lo)(l0:List (ByteArray×Zt5×Zt13))(name1:ByteArray):Option Int:=
  Option.bind (YfQ lo (l0,name1,(0:Int))) fun y435=>alt2 y435 (fun y436=>some y436) (fun y437=>some (-1:Int))
def Yx2:VFn:=⟨true,20,[.t 4],
 (.seq (.reg [o 4 (.mv (k 0))])
 (.seq (.seq (.reg [o 5 (.mv (k 0))])
 (.blk 0 (.loop 3 q109_L3_b)))
 (.seq (.reg [o 4 (.mv (k (-1)))])
 (.fz [4] .ret))))⟩
def YmR(lo:Lo):FnE:=⟨507,true,⟨[0,1],[.l Zc2,.s],[],(cs [.l Zc2,.s])⟩,.i .i64,[],(cs [I]),(fun x=>q109 lo x.1 x.2:Zt1×ByteArray->Option Int)⟩
noncomputable def YBJ(lo:Lo):List FnE:=YmR lo::YBI lo
theorem Yx3{P:Program}{fm:FM}{lo:Lo}(h:GZ P fm YBI lo)(t:Ti P fm 507 Yx2):GZ P fm YBJ lo:=
  h.p (YmR lo) (Yx1 lo) t (by kernel_rfl) (by kernel_rfl) fun x=>by kernel_rfl
def q110_L3_b:VCode:=
 (.seq (.seq (.reg [oM 9 3,oF 10 0 1,oL 11 10,oN 12 11,o 13 (.bin .lss (t 9) (t 12))])
 (.cond (t 13) .skip
 (.exit 0)))
 (.seq (.blk 1 (.seq (.seq (.reg [oF 16 0 1,oL 17 16,oM 18 3,o 19 (.iad 3 (t 17) (t 18)),o 20 (.load true 3 (t 19)),o 21 (.call 231 [(t 20)]),oM 4 21])
 (.seq (.reg [oM 22 4,o 23 (.bin .neq (t 22) (k 0))])
 (.cond (t 23) (.seq (.reg [oM 24 4,oM 2 24])
 (.fz [2] .ret))
 .skip)))
 (.seq (.reg [oF 25 0 1,oL 26 25,oM 27 3,o 28 (.slcR 3 (t 26) none (some (t 27))),oF 29 0 1,oL 30 29,oM 31 3,o 32 (.iad 3 (t 30) (t 31)),oF 33 0 32,oL 34 33,o 35 (.call 507 [(t 28),(t 34)]),o 36 (.bin .geq (t 35) (k 0))])
 (.cond (t 36) (.seq (.reg [o 2 (.mv (k 5))])
 (.fz [2] .ret))
 .skip))))
 (.reg [oM 14 3,o 15 (.bin .add (t 14) (k 1)),oM 3 15])))
def YdN(lo:Lo):Int×Zt1->Option ((Int×Zt1)⊕ (Int⊕Unit)):=fun x=>match x with
  | (i3,db1)=>bif(decide (i3< (db1.length:Int)))then(chk (0<=i3/\i3< (db1.length:Int)) (Option.bind (q108 lo ((db1.getD i3.toNat ((ByteArray.mk #[]),[],[])).1) ((db1.getD i3.toNat ((ByteArray.mk #[]),[],[])).2.1) ((db1.getD i3.toNat ((ByteArray.mk #[]),[],[])).2.2)) fun y434=>bif(!decide (y434=(0:Int)))then(some (.inr (.inl y434)))else(chk (0<=(0:Int)/\ (0:Int)<=i3/\i3<=(db1.length:Int)) (chk (0<=i3/\i3< (db1.length:Int)) (Option.bind (q109 lo ((db1.take i3.toNat).drop 0) ((db1.getD i3.toNat ((ByteArray.mk #[]),[],[])).1)) fun y438=>bif(decide ((0:Int)<=y438))then(some (.inr (.inl (5:Int))))else(some (.inl ((IntKind.wrap .i64 (i3+(1:Int))),db1))))))))else(some (.inr (.inr ())))
def YfR(lo:Lo):Int×Zt1->Option (Int⊕Unit):=lo.run (YdN lo)
def Yx4(lo:Lo):LpE:=⟨3,[],⟨[1,3],[.ptr 0 0 0,.i .i64],[.st [.l Zc2]],(cs [I,.l Zc2])⟩,[⟨.ret,⟨[2],[.i .i64],[],(cs [I])⟩⟩,⟨.exit 0,⟨[],[],[],(cs [])⟩⟩],YfR lo⟩
def Yx5(lo:Lo):LL:=(Yx4 lo,.loop q110_L3_b.er)::[]
theorem Yx6(lo:Lo):Lk lo pf (YBJ lo) 0 (Yx5 lo):=.l .n (YdN lo) rfl (by kernel_rfl) fun x=>by kernel_rfl
def q110(lo:Lo)(db0:List (ByteArray×Zt5×Zt13)):Option Int:=
  bif(decide ((50:Int)< (db0.length:Int)))then(some (3:Int))else(Option.bind (YfR lo ((0:Int),db0)) fun y439=>alt2 y439 (fun y440=>some y440) (fun y441=>some (0:Int)))
def Yx7:VFn:=⟨true,37,[.t 2],
 (.seq (.reg [o 1 (.box (t 0)),o 2 (.mv (k 0))])
 (.seq (.seq (.reg [oF 5 0 1,oL 6 5,oN 7 6,o 8 (.bin .gtr (t 7) (k 50))])
 (.cond (t 8) (.seq (.reg [o 2 (.mv (k 3))])
 (.fz [2] .ret))
 .skip))
 (.seq (.seq (.reg [o 3 (.mv (k 0))])
 (.blk 0 (.loop 3 q110_L3_b)))
 (.seq (.reg [o 2 (.mv (k 0))])
 (.fz [2] .ret)))))⟩
def YmS(lo:Lo):FnE:=⟨506,true,⟨[0],[.ag [.l Zc2]],[],(cs [.l Zc2])⟩,.i .i64,[],(cs [I]),(fun x=>q110 lo x:Zt1->Option Int)⟩
noncomputable def YB0(lo:Lo):List FnE:=YmS lo::YBJ lo
theorem Yx8{P:Program}{fm:FM}{lo:Lo}(h:GZ P fm YBJ lo)(t:Ti P fm 506 Yx7):GZ P fm YB0 lo:=
  h.p (YmS lo) (Yx6 lo) t (by kernel_rfl) (by kernel_rfl) fun x=>by kernel_rfl
def q111(lo:Lo)(t0_0:ByteArray)(t0_1:Int)(t0_2:Int)(t0_3:ByteArray):Option Bool:=
  bif(!decide (t0_0=(ByteArray.mk #[])))then(Option.bind (q103 lo t0_0) fun y444=>bif y444 then(some ((decide (t0_1=(0:Int)))&& ((decide (t0_2=(0:Int)))&& ((decide (t0_3=(ByteArray.mk #[])))&&true))))else(some false))else(Option.bind (q106 lo t0_1 t0_2 t0_3) fun y445=>some y445)
def Yx9:VFn:=⟨true,18,[.t 2],
 (.seq (.reg [o 1 (.box (t 0)),o 2 (.mv (kb false))])
 (.seq (.seq (.reg [oF 3 0 1,oL 4 3,o 5 (.bin .neq (t 4) (ks (⟨#[]⟩)))])
 (.cond (t 5) (.seq (.reg [oF 6 0 1,oL 7 6,o 8 (.call 258 [(t 7)]),oM 9 8,og 10 9 true (.fad 1 (t 1)),og 11 9 true (.load true 3 (t 10)),og 12 9 true (.build [.i .i64 0,.i .i64 0,.s (⟨#[]⟩)] []),og 13 9 true (.eqa false [1,1,2] (t 11) (t 12)),o 14 (.pick (t 9) (t 13) (kb false)),oM 2 14])
 (.fz [2] .ret))
 .skip))
 (.seq (.reg [oF 15 1 1,o 16 (.load true 3 (t 15)),o 17 (.call 284 [(t 16)]),oM 2 17])
 (.fz [2] .ret))))⟩
def YmT(lo:Lo):FnE:=⟨542,true,⟨[0],[.ag [.s,.i .i64,.i .i64,.s]],[],Zc12⟩,.b,[],(cs [.b]),(fun x=>q111 lo x.1 x.2.1 x.2.2.1 x.2.2.2:Zp82->Option Bool)⟩
noncomputable def YBK(lo:Lo):List FnE:=YmT lo::YB0 lo
theorem Yya{P:Program}{fm:FM}{lo:Lo}(h:GZ P fm YB0 lo)(t:Ti P fm 542 Yx9):GZ P fm YBK lo:=
  h.p (YmT lo) .n t (by kernel_rfl) (by kernel_rfl) fun x=>by kernel_rfl
def q112_L3_b:VCode:=
 (.seq (.seq (.reg [oM 4 3,oF 5 1 1,oL 6 5,oN 7 6,o 8 (.bin .lss (t 4) (t 7))])
 (.cond (t 8) .skip
 (.exit 0)))
 (.seq (.blk 1 (.seq (.reg [oF 11 1 1,oL 12 11,oM 13 3,o 14 (.iad 4 (t 12) (t 13)),o 15 (.load true 4 (t 14)),o 16 (.call 542 [(t 15)]),o 17 (.not (t 16))])
 (.cond (t 17) (.seq (.reg [o 2 (.mv (kb false))])
 (.fz [2] .ret))
 .skip)))
 (.reg [oM 9 3,o 10 (.bin .add (t 9) (k 1)),oM 3 10])))
def YdO(lo:Lo):Int×ByteArray×Zt7->Option ((Int×ByteArray×Zt7)⊕ (Bool⊕Unit)):=fun x=>match x with
  | (i3,a1_0,a1_1)=>bif(decide (i3< (a1_1.length:Int)))then(chk (0<=i3/\i3< (a1_1.length:Int)) (Option.bind (q111 lo ((a1_1.getD i3.toNat ((ByteArray.mk #[]),(0:Int),(0:Int),(ByteArray.mk #[]))).1) ((a1_1.getD i3.toNat ((ByteArray.mk #[]),(0:Int),(0:Int),(ByteArray.mk #[]))).2.1) ((a1_1.getD i3.toNat ((ByteArray.mk #[]),(0:Int),(0:Int),(ByteArray.mk #[]))).2.2.1) ((a1_1.getD i3.toNat ((ByteArray.mk #[]),(0:Int),(0:Int),(ByteArray.mk #[]))).2.2.2)) fun y446=>bif(!y446)then(some (.inr (.inl false)))else(some (.inl ((IntKind.wrap .i64 (i3+(1:Int))),a1_0,a1_1)))))else(some (.inr (.inr ())))
def YfS(lo:Lo):Int×ByteArray×Zt7->Option (Bool⊕Unit):=lo.run (YdO lo)
def Yyb(lo:Lo):LpE:=⟨3,[],⟨[1,3],[.ptr 0 0 0,.i .i64],[.st [.s,.l Zc12]],(cs [I,.s,.l Zc12])⟩,[⟨.ret,⟨[2],[.b],[],(cs [.b])⟩⟩,⟨.exit 0,⟨[],[],[],(cs [])⟩⟩],YfS lo⟩
def Yyc(lo:Lo):LL:=(Yyb lo,.loop q112_L3_b.er)::[]
theorem Yyd(lo:Lo):Lk lo pf (YBK lo) 0 (Yyc lo):=.l .n (YdO lo) rfl (by kernel_rfl) fun x=>by kernel_rfl
def q112(lo:Lo)(a0_0:ByteArray)(a0_1:List Zp82):Option Bool:=
  Option.bind (YfS lo ((0:Int),a0_0,a0_1)) fun y447=>alt2 y447 (fun y448=>some y448) (fun y449=>some true)
def Yye:VFn:=⟨true,18,[.t 2],
 (.seq (.reg [o 1 (.box (t 0)),o 2 (.mv (kb false))])
 (.seq (.seq (.reg [o 3 (.mv (k 0))])
 (.blk 0 (.loop 3 q112_L3_b)))
 (.seq (.reg [o 2 (.mv (kb true))])
 (.fz [2] .ret))))⟩
def YmU(lo:Lo):FnE:=⟨508,true,⟨[0],[.ag [.s,.l Zc12]],[],Zc3⟩,.b,[],(cs [.b]),(fun x=>q112 lo x.1 x.2:ByteArray×Zt7->Option Bool)⟩
noncomputable def YBg(lo:Lo):List FnE:=YmU lo::YBK lo
theorem Yyf{P:Program}{fm:FM}{lo:Lo}(h:GZ P fm YBK lo)(t:Ti P fm 508 Yye):GZ P fm YBg lo:=
  h.p (YmU lo) (Yyd lo) t (by kernel_rfl) (by kernel_rfl) fun x=>by kernel_rfl
end Go.Abs.G47
namespace Go.Abs.G47
open Go Go.Abs
set_option maxRecDepth 100000
set_option maxHeartbeats 1000000
def q113_L5_b:VCode:=
 (.seq (.seq (.reg [oM 13 5,oM 14 0,oM 15 4,o 16 (.iad 2 (t 14) (t 15)),oF 17 1 16,oL 18 17,oN 19 18,o 20 (.bin .lss (t 13) (t 19))])
 (.cond (t 20) .skip
 (.exit 2)))
 (.seq (.blk 3 (.seq (.reg [oM 23 0,oM 24 4,o 25 (.iad 2 (t 23) (t 24)),oF 26 1 25,oL 27 26,oM 28 5,o 29 (.iad 4 (t 27) (t 28)),oF 30 0 29,oL 31 30,oM 6 31])
 (.seq (.reg [oM 32 6,o 33 (.bin .neq (t 32) (ks (⟨#[]⟩))),oM 34 33,og 35 34 true (.mv (t 3)),og 36 34 true (.mv (t 6)),og 37 34 true (.call 272 [(t 35),(t 36)]),og 38 34 true (.bin .lss (t 37) (k 0)),o 39 (.pick (t 34) (t 38) (kb false))])
 (.cond (t 39) (.reg [oM 40 3,oM 41 6,o 42 (.bsl (cs [.s]) 1 [(0,(t 41))]),o 43 (.app (cs [.s]) 0 (t 40) (t 42)),oM 3 43])
 .skip))))
 (.reg [oM 21 5,o 22 (.bin .add (t 21) (k 1)),oM 5 22])))
def YdP(lo:Lo):Zt0×Int×Int×Zt5->Option ((Zt0×Int×Int×Zt5)⊕ ((Zt0×Int×Zt5))):=fun x=>match x with
  | (l0,i4,k5,out3)=>chk (0<=i4/\i4< (l0.length:Int)) (bif(decide (k5< (((l0.getD i4.toNat ((ByteArray.mk #[]),[])).2).length:Int)))then(chk (0<=i4/\i4< (l0.length:Int)) (chk (0<=k5/\k5< (((l0.getD i4.toNat ((ByteArray.mk #[]),[])).2).length:Int)) (bif(!decide ((((l0.getD i4.toNat ((ByteArray.mk #[]),[])).2).getD k5.toNat ((ByteArray.mk #[]),(0:Int),(0:Int),(ByteArray.mk #[]))).1=(ByteArray.mk #[])))then(Option.bind (q104 lo out3 ((((l0.getD i4.toNat ((ByteArray.mk #[]),[])).2).getD k5.toNat ((ByteArray.mk #[]),(0:Int),(0:Int),(ByteArray.mk #[]))).1)) fun y454=>bif(decide (y454< (0:Int)))then(chk (out3.length+([(((l0.getD i4.toNat ((ByteArray.mk #[]),[])).2).getD k5.toNat ((ByteArray.mk #[]),(0:Int),(0:Int),(ByteArray.mk #[]))).1]).length<=maxEl) (some (.inl (l0,i4,(IntKind.wrap .i64 (k5+(1:Int))),(out3++([(((l0.getD i4.toNat ((ByteArray.mk #[]),[])).2).getD k5.toNat ((ByteArray.mk #[]),(0:Int),(0:Int),(ByteArray.mk #[]))).1]))))))else(some (.inl (l0,i4,(IntKind.wrap .i64 (k5+(1:Int))),out3))))else(some (.inl (l0,i4,(IntKind.wrap .i64 (k5+(1:Int))),out3))))))else(some (.inr (l0,i4,out3))))
def YfT(lo:Lo):Zt0×Int×Int×Zt5->Option ((Zt0×Int×Zt5)):=lo.run (YdP lo)
def Yyg(lo:Lo):LpE:=⟨5,[],⟨[0,3,4,5],[.l Zc3,.ref 0,.i .i64,.i .i64],[.sq (cs [.s])],(cs [.l Zc3,I,I,.l (cs [.s])])⟩,[⟨.exit 2,⟨[0,3,4],[.l Zc3,.ref 0,.i .i64],[.sq (cs [.s])],(cs [.l Zc3,I,.l (cs [.s])])⟩⟩],YfT lo⟩
def YmV(lo:Lo):LL:=(Yyg lo,.loop q113_L5_b.er)::[]
theorem Yyh(lo:Lo):Lk lo pf (YBg lo) 0 (YmV lo):=.l .n (YdP lo) rfl (by kernel_rfl) fun x=>by kernel_rfl
def q113_L3_b:VCode:=
 (.seq (.seq (.reg [oM 7 4,oM 8 0,oN 9 8,o 10 (.bin .lss (t 7) (t 9))])
 (.cond (t 10) .skip
 (.exit 0)))
 (.seq (.blk 1 (.seq (.reg [o 5 (.mv (k 0))])
 (.blk 2 (.loop 5 q113_L5_b))))
 (.reg [oM 11 4,o 12 (.bin .add (t 11) (k 1)),oM 4 12])))
def YdQ(lo:Lo):Zt0×Int×Zt5->Option ((Zt0×Int×Zt5)⊕ ((Zt5))):=fun x=>match x with
  | (l0,i4,out3)=>bif(decide (i4< (l0.length:Int)))then(Option.bind (YfT lo (l0,i4,(0:Int),out3)) fun y455=>some (.inl (y455.1,(IntKind.wrap .i64 (y455.2.1+(1:Int))),y455.2.2)))else(some (.inr out3))
def YfU(lo:Lo):Zt0×Int×Zt5->Option ((Zt5)):=lo.run (YdQ lo)
def Yyi(lo:Lo):LpE:=⟨3,[(3,none,false)],⟨[0,3,4],[.l Zc3,.ref 0,.i .i64],[.sq (cs [.s])],(cs [.l Zc3,I,.l (cs [.s])])⟩,[⟨.exit 0,⟨[3],[.ref 0],[.sq (cs [.s])],Zc24⟩⟩],YfU lo⟩
def Yyj(lo:Lo):LL:=(Yyi lo,.loop q113_L3_b.er)::YmV lo
theorem Yyk(lo:Lo):Lk lo pf (YBg lo) 0 (Yyj lo):=.l (Yyh lo) (YdQ lo) rfl (by kernel_rfl) fun x=>by kernel_rfl
def q113(lo:Lo)(l0:List (ByteArray×Zt7)):Option (Zt5):=
  Option.bind (YfU lo (l0,(0:Int),[])) fun y456=>some y456
def Yyl:VFn:=⟨true,45,[.t 2],
 (.seq (.reg [o 2 (.mv (ke (cs [.s])))])
 (.seq (.reg [o 3 (.mv (ke (cs [.s])))])
 (.seq (.seq (.reg [o 4 (.mv (k 0))])
 (.blk 0 (.loop 3 q113_L3_b)))
 (.seq (.reg [oM 44 3,oM 2 44])
 (.fz [2] .ret)))))⟩
def YmW(lo:Lo):FnE:=⟨511,true,⟨[0],[.l Zc3],[],Zc41⟩,.l (cs [.s]),[],Zc24,(fun x=>q113 lo x:Zt0->Option (Zt5))⟩
noncomputable def YBL(lo:Lo):List FnE:=YmW lo::YBg lo
theorem Yym{P:Program}{fm:FM}{lo:Lo}(h:GZ P fm YBg lo)(t:Ti P fm 511 Yyl):GZ P fm YBL lo:=
  h.p (YmW lo) (Yyk lo) t (by kernel_rfl) (by kernel_rfl) fun x=>by kernel_rfl
def q114_L3_b:VCode:=
 (.seq (.seq (.reg [oM 8 4,oF 9 0 1,oL 10 9,oN 11 10,o 12 (.bin .lss (t 8) (t 11))])
 (.cond (t 12) .skip
 (.exit 0)))
 (.seq (.blk 1 (.seq (.reg [oM 15 3,oF 16 0 1,oL 17 16,oM 18 4,o 19 (.iad 1 (t 17) (t 18)),oL 20 19,o 21 (.call 272 [(t 15),(t 20)]),o 22 (.bin .lss (t 21) (k 0)),oM 23 22,og 24 23 false (.fad 0 (t 1)),og 25 23 false (.load false 1 (t 24)),og 26 23 false (.mv (t 4)),og 27 23 false (.slcR 1 (t 25) none (some (t 26))),og 28 23 false (.fad 0 (t 1)),og 29 23 false (.load false 1 (t 28)),og 30 23 false (.mv (t 4)),og 31 23 false (.iad 1 (t 29) (t 30)),og 32 23 false (.load false 1 (t 31)),og 33 23 false (.call 272 [(t 27),(t 32)]),og 34 23 false (.bin .geq (t 33) (k 0)),o 35 (.pick (t 23) (kb true) (t 34))])
 (.cond (t 35) (.seq (.reg [o 2 (.mv (kb false))])
 (.fz [2] .ret))
 .skip)))
 (.reg [oM 13 4,o 14 (.bin .add (t 13) (k 1)),oM 4 14])))
def YdR(lo:Lo):Zt5×Int×Zt5×Zt0->Option ((Zt5×Int×Zt5×Zt0)⊕ (Bool⊕Unit)):=fun x=>match x with
  | (l3,i4,q1_0,q1_1)=>bif(decide (i4< (q1_0.length:Int)))then(chk (0<=i4/\i4< (q1_0.length:Int)) (Option.bind (q104 lo l3 (q1_0.getD i4.toNat (ByteArray.mk #[]))) fun y458=>bif(decide (y458< (0:Int)))then(some (.inr (.inl false)))else(chk (0<=(0:Int)/\ (0:Int)<=i4/\i4<=(q1_0.length:Int)) (chk (0<=i4/\i4< (q1_0.length:Int)) (Option.bind (q104 lo ((q1_0.take i4.toNat).drop 0) (q1_0.getD i4.toNat (ByteArray.mk #[]))) fun y459=>bif(decide ((0:Int)<=y459))then(some (.inr (.inl false)))else(some (.inl (l3,(IntKind.wrap .i64 (i4+(1:Int))),q1_0,q1_1))))))))else(some (.inr (.inr ())))
def YfV(lo:Lo):Zt5×Int×Zt5×Zt0->Option (Bool⊕Unit):=lo.run (YdR lo)
def Yyn(lo:Lo):LpE:=⟨3,[],⟨[1,3,4],[.ptr 0 0 0,.l (cs [.s]),.i .i64],[.st [.l (cs [.s]),.l Zc3]],(cs [.l (cs [.s]),I,.l (cs [.s]),.l Zc3])⟩,[⟨.ret,⟨[2],[.b],[],(cs [.b])⟩⟩,⟨.exit 0,⟨[],[],[],(cs [])⟩⟩],YfV lo⟩
def Yyo(lo:Lo):LL:=(Yyn lo,.loop q114_L3_b.er)::[]
theorem Yyp(lo:Lo):Lk lo pf (YBL lo) 0 (Yyo lo):=.l .n (YdR lo) rfl (by kernel_rfl) fun x=>by kernel_rfl
def q114(lo:Lo)(q0_0:List ByteArray)(q0_1:List (ByteArray×Zt7)):Option Bool:=
  Option.bind (q113 lo q0_1) fun y457=>Option.bind (YfV lo (y457,(0:Int),q0_0,q0_1)) fun y460=>alt2 y460 (fun y461=>some y461) (fun y462=>some true)
def Yyq:VFn:=⟨true,36,[.t 2],
 (.seq (.reg [o 1 (.box (t 0)),o 2 (.mv (kb false))])
 (.seq (.reg [oF 5 1 1,oL 6 5,o 7 (.call 511 [(t 6)]),oM 3 7])
 (.seq (.seq (.reg [o 4 (.mv (k 0))])
 (.blk 0 (.loop 3 q114_L3_b)))
 (.seq (.reg [o 2 (.mv (kb true))])
 (.fz [2] .ret)))))⟩
def YmX(lo:Lo):FnE:=⟨509,true,⟨[0],[.ag [.l (cs [.s]),.l Zc3]],[],Zc29⟩,.b,[],(cs [.b]),(fun x=>q114 lo x.1 x.2:Zt5×Zt0->Option Bool)⟩
noncomputable def YBM(lo:Lo):List FnE:=YmX lo::YBL lo
theorem Yyr{P:Program}{fm:FM}{lo:Lo}(h:GZ P fm YBL lo)(t:Ti P fm 509 Yyq):GZ P fm YBM lo:=
  h.p (YmX lo) (Yyp lo) t (by kernel_rfl) (by kernel_rfl) fun x=>by kernel_rfl
def q115_L6_b:VCode:=
 (.seq (.seq (.reg [oM 23 6,oF 24 1 3,oL 25 24,oN 26 25,o 27 (.bin .lss (t 23) (t 26))])
 (.cond (t 27) .skip
 (.exit 0)))
 (.seq (.blk 1 (.seq (.reg [oF 30 0 2,oL 31 30,oF 32 1 3,oL 33 32,oM 34 6,o 35 (.iad 2 (t 33) (t 34)),oF 36 0 35,oL 37 36,o 38 (.call 507 [(t 31),(t 37)]),oM 7 38])
 (.seq (.seq (.reg [oM 39 7,o 40 (.bin .lss (t 39) (k 0))])
 (.cond (t 40) (.seq (.reg [o 4 (.mv (k 4))])
 (.fz [4] .ret))
 .skip))
 (.seq (.seq (.reg [oF 41 1 3,oL 42 41,oM 43 6,o 44 (.iad 2 (t 42) (t 43)),oF 45 1 44,oL 46 45,oN 47 46,oF 48 0 2,oL 49 48,oM 50 7,o 51 (.iad 3 (t 49) (t 50)),oF 52 1 51,oL 53 52,oN 54 53,o 55 (.bin .neq (t 47) (t 54))])
 (.cond (t 55) (.seq (.reg [o 4 (.mv (k 6))])
 (.fz [4] .ret))
 .skip))
 (.seq (.reg [oF 56 1 3,oL 57 56,oM 58 6,o 59 (.iad 2 (t 57) (t 58)),o 60 (.load true 2 (t 59)),o 61 (.call 508 [(t 60)]),o 62 (.not (t 61))])
 (.cond (t 62) (.seq (.reg [o 4 (.mv (k 1))])
 (.fz [4] .ret))
 .skip))))))
 (.reg [oM 28 6,o 29 (.bin .add (t 28) (k 1)),oM 6 29])))
def YdS(lo:Lo):Int×Zt1×Zt5×Zt0->Option ((Int×Zt1×Zt5×Zt0)⊕ (Int⊕ (Zt5×Zt0))):=fun x=>match x with
  | (i6,db2,q3_0,q3_1)=>bif(decide (i6< (q3_1.length:Int)))then(chk (0<=i6/\i6< (q3_1.length:Int)) (Option.bind (q109 lo db2 ((q3_1.getD i6.toNat ((ByteArray.mk #[]),[])).1)) fun y443=>bif(decide (y443< (0:Int)))then(some (.inr (.inl (4:Int))))else(chk (0<=i6/\i6< (q3_1.length:Int)) (chk (0<=y443/\y443< (db2.length:Int)) (bif(!decide ((((q3_1.getD i6.toNat ((ByteArray.mk #[]),[])).2).length:Int)=(((db2.getD y443.toNat ((ByteArray.mk #[]),[],[])).2.1).length:Int)))then(some (.inr (.inl (6:Int))))else(chk (0<=i6/\i6< (q3_1.length:Int)) (Option.bind (q112 lo ((q3_1.getD i6.toNat ((ByteArray.mk #[]),[])).1) ((q3_1.getD i6.toNat ((ByteArray.mk #[]),[])).2)) fun y450=>bif(!y450)then(some (.inr (.inl (1:Int))))else(some (.inl ((IntKind.wrap .i64 (i6+(1:Int))),db2,q3_0,q3_1))))))))))else(some (.inr (.inr (q3_0,q3_1))))
def YfW(lo:Lo):Int×Zt1×Zt5×Zt0->Option (Int⊕ (Zt5×Zt0)):=lo.run (YdS lo)
def Yys(lo:Lo):LpE:=⟨6,[],⟨[2,3,6],[.ptr 0 0 0,.ptr 1 0 0,.i .i64],[.st [.l Zc2],.st [.l (cs [.s]),.l Zc3]],(cs [I,.l Zc2,.l (cs [.s]),.l Zc3])⟩,[⟨.ret,⟨[4],[.i .i64],[],(cs [I])⟩⟩,⟨.exit 0,⟨[3],[.ptr 0 0 0],[.st [.l (cs [.s]),.l Zc3]],Zc29⟩⟩],YfW lo⟩
def Yyt(lo:Lo):LL:=(Yys lo,.loop q115_L6_b.er)::[]
theorem Yyu(lo:Lo):Lk lo pf (YBM lo) 0 (Yyt lo):=.l .n (YdS lo) rfl (by kernel_rfl) fun x=>by kernel_rfl
def q115(lo:Lo)(db0:List (ByteArray×Zt5×Zt13))(q1_0:List ByteArray)(q1_1:List (ByteArray×Zt7)):Option Int:=
  Option.bind (q110 lo db0) fun y442=>bif(!decide (y442=(0:Int)))then(some y442)else(bif(decide ((q1_1.length:Int)< (1:Int)))then(some (1:Int))else(bif(decide ((6:Int)< (q1_1.length:Int)))then(some (1:Int))else(Option.bind (YfW lo ((0:Int),db0,q1_0,q1_1)) fun y451=>alt2 y451 (fun y452=>some y452) (fun y453=>Option.bind (q114 lo y453.1 y453.2) fun y463=>bif(!y463)then(some (1:Int))else(some (0:Int))))))
def Yyv:VFn:=⟨true,66,[.t 4],
 (.seq (.reg [o 2 (.box (t 0)),o 3 (.box (t 1)),o 4 (.mv (k 0))])
 (.seq (.seq (.reg [o 8 (.load true 1 (t 2)),o 9 (.call 506 [(t 8)]),oM 5 9])
 (.seq (.reg [oM 10 5,o 11 (.bin .neq (t 10) (k 0))])
 (.cond (t 11) (.seq (.reg [oM 12 5,oM 4 12])
 (.fz [4] .ret))
 .skip)))
 (.seq (.seq (.reg [oF 13 1 3,oL 14 13,oN 15 14,o 16 (.bin .lss (t 15) (k 1)),oM 17 16,og 18 17 false (.fad 1 (t 3)),og 19 17 false (.load false 1 (t 18)),og 20 17 false (.len (t 19)),og 21 17 false (.bin .gtr (t 20) (k 6)),o 22 (.pick (t 17) (kb true) (t 21))])
 (.cond (t 22) (.seq (.reg [o 4 (.mv (k 1))])
 (.fz [4] .ret))
 .skip))
 (.seq (.seq (.reg [o 6 (.mv (k 0))])
 (.blk 0 (.loop 6 q115_L6_b)))
 (.seq (.seq (.reg [o 63 (.load true 2 (t 3)),o 64 (.call 509 [(t 63)]),o 65 (.not (t 64))])
 (.cond (t 65) (.seq (.reg [o 4 (.mv (k 1))])
 (.fz [4] .ret))
 .skip))
 (.seq (.reg [o 4 (.mv (k 0))])
 (.fz [4] .ret)))))))⟩
def YmY(lo:Lo):FnE:=⟨473,true,⟨[0,1],[.ag [.l Zc2],.ag [.l (cs [.s]),.l Zc3]],[],Zc45⟩,.i .i64,[],(cs [I]),(fun x=>q115 lo x.1 x.2.1 x.2.2:Zt1×Zt5×Zt0->Option Int)⟩
noncomputable def YCr(lo:Lo):List FnE:=YmY lo::YBM lo
theorem Yyw{P:Program}{fm:FM}{lo:Lo}(h:GZ P fm YBM lo)(t:Ti P fm 473 Yyv):GZ P fm YCr lo:=
  h.p (YmY lo) (Yyu lo) t (by kernel_rfl) (by kernel_rfl) fun x=>by kernel_rfl
noncomputable def YCG(lo:Lo):List FnE:=YCr lo
noncomputable def YCH(lo:Lo):List FnE:=YCG lo
noncomputable def YCI(lo:Lo):List FnE:=YCH lo
noncomputable def YCJ(lo:Lo):List FnE:=YCI lo
noncomputable def YCK(lo:Lo):List FnE:=YCJ lo
noncomputable def YCL(lo:Lo):List FnE:=YCK lo
end Go.Abs.G47
namespace Go.Abs.G47
open Go Go.Abs
set_option maxRecDepth 100000
set_option maxHeartbeats 1000000
noncomputable def YCM(lo:Lo):List FnE:=YCL lo
noncomputable def YCN(lo:Lo):List FnE:=YCM lo
noncomputable def YCO(lo:Lo):List FnE:=YCN lo
noncomputable def YCP(lo:Lo):List FnE:=YCO lo
noncomputable def YCQ(lo:Lo):List FnE:=YCP lo
noncomputable def YCR(lo:Lo):List FnE:=YCQ lo
noncomputable def YCS(lo:Lo):List FnE:=YCR lo
noncomputable def YCT(lo:Lo):List FnE:=YCS lo
end Go.Abs.G47
namespace Go.Abs.G47
open Go Go.Abs
set_option maxRecDepth 100000
set_option maxHeartbeats 1000000
noncomputable def YCU(lo:Lo):List FnE:=YCT lo
noncomputable def YCV(lo:Lo):List FnE:=YCU lo
noncomputable def YCW(lo:Lo):List FnE:=YCV lo
noncomputable def YCX(lo:Lo):List FnE:=YCW lo
noncomputable def YCY(lo:Lo):List FnE:=YCX lo
noncomputable def YCZ(lo:Lo):List FnE:=YCY lo
noncomputable def YC0(lo:Lo):List FnE:=YCZ lo
noncomputable def YC1(lo:Lo):List FnE:=YC0 lo
noncomputable def YC2(lo:Lo):List FnE:=YC1 lo
noncomputable def YC3(lo:Lo):List FnE:=YC2 lo
noncomputable def YC4(lo:Lo):List FnE:=YC3 lo
end Go.Abs.G47
namespace Go.Abs.G47
open Go Go.Abs
set_option maxRecDepth 100000
set_option maxHeartbeats 1000000
noncomputable def YC5(lo:Lo):List FnE:=YC4 lo
noncomputable def YC6(lo:Lo):List FnE:=YC5 lo
noncomputable def YC7(lo:Lo):List FnE:=YC6 lo
noncomputable def YC8(lo:Lo):List FnE:=YC7 lo
noncomputable def YC9(lo:Lo):List FnE:=YC8 lo
noncomputable def YDa(lo:Lo):List FnE:=YC9 lo
noncomputable def YDb(lo:Lo):List FnE:=YDa lo
noncomputable def YDc(lo:Lo):List FnE:=YDb lo
noncomputable def YDd(lo:Lo):List FnE:=YDc lo
end Go.Abs.G47
namespace Go.Abs.G47
open Go Go.Abs
set_option maxRecDepth 100000
set_option maxHeartbeats 1000000
noncomputable def YDe(lo:Lo):List FnE:=YDd lo
noncomputable def YDf(lo:Lo):List FnE:=YDe lo
noncomputable def YDg(lo:Lo):List FnE:=YDf lo
noncomputable def YDh(lo:Lo):List FnE:=YDg lo
noncomputable def YDi(lo:Lo):List FnE:=YDh lo
noncomputable def YDj(lo:Lo):List FnE:=YDi lo
noncomputable def YDk(lo:Lo):List FnE:=YDj lo
noncomputable def YDl(lo:Lo):List FnE:=YDk lo
noncomputable def YDm(lo:Lo):List FnE:=YDl lo
noncomputable def YCs(lo:Lo):List FnE:=YDm lo
def q160(lo:Lo):Option Bool:=
  some false
def Yyx:VFn:=⟨true,1,[.t 0],
 (.seq (.reg [o 0 (.mv (kb false))])
 (.seq (.reg [o 0 (.mv (kb false))])
 (.fz [0] .ret)))⟩
def YmZ(lo:Lo):FnE:=⟨533,true,⟨[],[],[],(cs [])⟩,.b,[],(cs [.b]),(fun x=>q160 lo:Unit->Option Bool)⟩
noncomputable def YBh(lo:Lo):List FnE:=YmZ lo::YCs lo
theorem Yyy{P:Program}{fm:FM}{lo:Lo}(h:GZ P fm YCs lo)(t:Ti P fm 533 Yyx):GZ P fm YBh lo:=
  h.p (YmZ lo) .n t (by kernel_rfl) (by kernel_rfl) fun x=>by kernel_rfl
end Go.Abs.G47
namespace Go.Abs.G47
open Go Go.Abs
set_option maxRecDepth 100000
set_option maxHeartbeats 1000000
def q161_J13_b:VCode:=
 (.seq (.reg [oM 36 12,o 37 (.not (t 36))])
 (.cond (t 37) (.seq (.reg [oM 38 0,o 39 (.nilc (t 38)),oF 40 3 39,oL 41 40,oF 42 0 10,oL 43 42,oF 44 1 5,oL 45 44,oM 46 9,o 47 (.iad 3 (t 45) (t 46)),o 48 (.load true 3 (t 47)),on (.mput none I Zc34 true (t 41) (t 43) (t 48))])
 (.reg [oM 49 8,oF 50 0 10,oL 51 50,o 52 (.bsl (cs [.s]) 1 [(0,(t 51))]),o 53 (.app (cs [.s]) 0 (t 49) (t 52)),oM 8 53]))
 (.seq (.reg [o 54 (.load true 3 (t 11)),oF 55 1 5,oL 56 55,oM 57 9,o 58 (.iad 3 (t 56) (t 57)),o 59 (.load true 3 (t 58)),o 60 (.eqa true [1,1,2] (t 54) (t 59))])
 (.cond (t 60) (.seq (.reg [oM 61 8,oM 6 61,o 7 (.mv (kb false))])
 (.ow [(0,some 4,false),(0,some 2,false)] .ret))
 .skip))))
def YfX(lo:Lo):Int×Bool×Zt7×Int×Int×Zt5×Zt0×Zt1×Int×Zt4×Bool×Bool× (List Int)×Int×Zt6×Zt5×ByteArray×Int×Int×ByteArray×Int×Int×ByteArray->Option (Zp56⊕ (Bool×Zt5×Zt0×Zt1×Int×Zt4×Bool×Bool× (List Int)×Zt5)):=fun x=>match x with
  | (i9,known12,v14,v15,v16,m0_0,m0_1,h1,h2_0,h2_1,h2_2,h2_3,h3,r5_0,r5_1,fresh8,t10_0,t10_1,t10_2,t10_3,v11_0,v11_1,v11_2)=>bif(!known12)then(chk (0<=i9/\i9< (r5_1.length:Int)) (chk (fresh8.length+[t10_0].length<=maxEl) (some (.inl (v14,v15,v16,m0_0,m0_1,h1,(mck eqS h2_0 t10_0 h2_1),(mpt eqS h2_0 t10_0 (r5_1.getD i9.toNat ((0:Int),(0:Int),(ByteArray.mk #[]))) h2_1),h2_2,h2_3,h3,r5_0,r5_1,(fresh8++[t10_0]))))))else(chk (0<=i9/\i9< (r5_1.length:Int)) (bif(!((decide (v11_0=(r5_1.getD i9.toNat ((0:Int),(0:Int),(ByteArray.mk #[]))).1))&& ((decide (v11_1=(r5_1.getD i9.toNat ((0:Int),(0:Int),(ByteArray.mk #[]))).2.1))&& ((decide (v11_2=(r5_1.getD i9.toNat ((0:Int),(0:Int),(ByteArray.mk #[]))).2.2))&&true))))then(some (.inr (false,m0_0,m0_1,h1,h2_0,h2_1,h2_2,h2_3,h3,fresh8)))else(some (.inl (v14,v15,v16,m0_0,m0_1,h1,h2_0,h2_1,h2_2,h2_3,h3,r5_0,r5_1,fresh8)))))
def Yyz(lo:Lo):LpE:=⟨13,[(0,some 2,false),(0,some 4,false)],⟨[0,5,8,9,10,11,12,14,15,16],[.ptr 0 0 0,.ptr 4 0 0,.ref 5,.i .i64,.ptr 6 0 0,.ptr 7 0 0,.b,.l Zc12,.i .i64,.i .i64],[.st [.l (cs [.s]),.l Zc3,.ref 1,.np 2,.ref 3,.clo 533 []],.sq Zc2,.st [.i .i64,.l Zc10,.b,.b],.sq (cs [I]),.st [.i .i64,.l Zc9],.sq (cs [.s]),.st [.s,.i .i64,.i .i64,.s],.st [.i .i64,.i .i64,.s]],Zc39⟩,[⟨.nor,⟨[0,5,8,14,15,16],[.ptr 0 0 0,.ptr 4 0 0,.ref 5,.l Zc12,.i .i64,.i .i64],[.st [.l (cs [.s]),.l Zc3,.ref 1,.np 2,.ref 3,.clo 533 []],.sq Zc2,.st [.i .i64,.l Zc10,.b,.b],.sq (cs [I]),.st [.i .i64,.l Zc9],.sq (cs [.s])],Zc28⟩⟩,⟨.ret,⟨[6,7,0],[.ref 4,.b,.ptr 0 0 0],[.st [.l (cs [.s]),.l Zc3,.ref 1,.np 2,.ref 3,.clo 533 []],.sq Zc2,.st [.i .i64,.l Zc10,.b,.b],.sq (cs [I]),.sq (cs [.s])],Zc22⟩⟩],YfX lo⟩
def Ym0(lo:Lo):LL:=(Yyz lo,q161_J13_b.er)::[]
theorem YyA(lo:Lo):Lk lo pf (YBh lo) 4 (Ym0 lo):=.j .n (by kernel_rfl) fun x=>by kernel_rfl
def q161_L3_b:VCode:=
 (.seq (.reg [o 17 (.bin .lss (t 16) (t 15))])
 (.seq (.cond (t 17) .skip
 (.exit 0))
 (.seq (.blk 1 (.seq (.reg [oM 18 16,o 19 (.iad 4 (t 14) (t 16)),o 20 (.load true 4 (t 19)),o 10 (.alloc [.s (⟨#[]⟩),.i .i64 0,.i .i64 0,.s (⟨#[]⟩)]),oM 9 18,on (.store 4 (t 10) (t 20))])
 (.seq (.reg [oF 21 1 10,o 22 (.load true 3 (t 21)),o 11 (.alloc [.i .i64 0,.i .i64 0,.s (⟨#[]⟩)]),on (.store 3 (t 11) (t 22)),o 12 (.mv (kb true))])
 (.seq (.seq (.reg [oF 23 0 10,oL 24 23,o 25 (.bin .neq (t 24) (ks (⟨#[]⟩)))])
 (.cond (t 25) (.reg [oM 27 0,o 28 (.nilc (t 27)),oF 29 3 28,oL 30 29,oF 31 0 10,oL 32 31,o 33 (.mget none I Zc34 true true (t 30) (t 32)),oM 26 33,oE 34 26 0,oE 35 26 1,on (.store 3 (t 11) (t 34)),oM 12 35])
 .skip))
 (.jn 13 q161_J13_b)))))
 (.reg [o 62 (.bin .add (t 16) (k 1)),oM 16 62]))))
def Ym1(lo:Lo):Zp56->Option (Zp56⊕ ((Bool×Zt5×Zt0×Zt1×Int×Zt4×Bool×Bool× (List Int)×Zt5)⊕ (Zt5×Zt0×Zt1×Int×Zt4×Bool×Bool× (List Int)×Zt5))):=fun x=>match x with
  | (v14,v15,v16,m0_0,m0_1,h1,h2_0,h2_1,h2_2,h2_3,h3,r5_0,r5_1,fresh8)=>bif(decide (v16<v15))then(chk (0<=v16/\v16< (v14.length:Int)) (bif(!decide ((v14.getD v16.toNat ((ByteArray.mk #[]),(0:Int),(0:Int),(ByteArray.mk #[]))).1=(ByteArray.mk #[])))then(Option.bind (YfX lo (v16,(mhs eqS ((v14.getD v16.toNat ((ByteArray.mk #[]),(0:Int),(0:Int),(ByteArray.mk #[]))).1) h2_1),v14,v15,v16,m0_0,m0_1,h1,h2_0,h2_1,h2_2,h2_3,h3,r5_0,r5_1,fresh8,(v14.getD v16.toNat ((ByteArray.mk #[]),(0:Int),(0:Int),(ByteArray.mk #[]))).1,(v14.getD v16.toNat ((ByteArray.mk #[]),(0:Int),(0:Int),(ByteArray.mk #[]))).2.1,(v14.getD v16.toNat ((ByteArray.mk #[]),(0:Int),(0:Int),(ByteArray.mk #[]))).2.2.1,(v14.getD v16.toNat ((ByteArray.mk #[]),(0:Int),(0:Int),(ByteArray.mk #[]))).2.2.2,(mgt eqS ((v14.getD v16.toNat ((ByteArray.mk #[]),(0:Int),(0:Int),(ByteArray.mk #[]))).1) h2_1 ((0:Int),(0:Int),(ByteArray.mk #[]))).1,(mgt eqS ((v14.getD v16.toNat ((ByteArray.mk #[]),(0:Int),(0:Int),(ByteArray.mk #[]))).1) h2_1 ((0:Int),(0:Int),(ByteArray.mk #[]))).2.1,(mgt eqS ((v14.getD v16.toNat ((ByteArray.mk #[]),(0:Int),(0:Int),(ByteArray.mk #[]))).1) h2_1 ((0:Int),(0:Int),(ByteArray.mk #[]))).2.2)) fun y663=>alt2 y663 (fun y664=>some (.inl (y664.1,y664.2.1,(IntKind.wrap .i64 (y664.2.2.1+(1:Int))),y664.2.2.2.1,y664.2.2.2.2.1,y664.2.2.2.2.2.1,y664.2.2.2.2.2.2.1,y664.2.2.2.2.2.2.2.1,y664.2.2.2.2.2.2.2.2.1,y664.2.2.2.2.2.2.2.2.2.1,y664.2.2.2.2.2.2.2.2.2.2.1,y664.2.2.2.2.2.2.2.2.2.2.2.1,y664.2.2.2.2.2.2.2.2.2.2.2.2.1,y664.2.2.2.2.2.2.2.2.2.2.2.2.2))) (fun y665=>some (.inr (.inl (y665.1,y665.2.1,y665.2.2.1,y665.2.2.2.1,y665.2.2.2.2.1,y665.2.2.2.2.2.1,y665.2.2.2.2.2.2.1,y665.2.2.2.2.2.2.2.1,y665.2.2.2.2.2.2.2.2.1,y665.2.2.2.2.2.2.2.2.2)))))else(Option.bind (YfX lo (v16,true,v14,v15,v16,m0_0,m0_1,h1,h2_0,h2_1,h2_2,h2_3,h3,r5_0,r5_1,fresh8,(v14.getD v16.toNat ((ByteArray.mk #[]),(0:Int),(0:Int),(ByteArray.mk #[]))).1,(v14.getD v16.toNat ((ByteArray.mk #[]),(0:Int),(0:Int),(ByteArray.mk #[]))).2.1,(v14.getD v16.toNat ((ByteArray.mk #[]),(0:Int),(0:Int),(ByteArray.mk #[]))).2.2.1,(v14.getD v16.toNat ((ByteArray.mk #[]),(0:Int),(0:Int),(ByteArray.mk #[]))).2.2.2,(v14.getD v16.toNat ((ByteArray.mk #[]),(0:Int),(0:Int),(ByteArray.mk #[]))).2.1,(v14.getD v16.toNat ((ByteArray.mk #[]),(0:Int),(0:Int),(ByteArray.mk #[]))).2.2.1,(v14.getD v16.toNat ((ByteArray.mk #[]),(0:Int),(0:Int),(ByteArray.mk #[]))).2.2.2)) fun y666=>alt2 y666 (fun y667=>some (.inl (y667.1,y667.2.1,(IntKind.wrap .i64 (y667.2.2.1+(1:Int))),y667.2.2.2.1,y667.2.2.2.2.1,y667.2.2.2.2.2.1,y667.2.2.2.2.2.2.1,y667.2.2.2.2.2.2.2.1,y667.2.2.2.2.2.2.2.2.1,y667.2.2.2.2.2.2.2.2.2.1,y667.2.2.2.2.2.2.2.2.2.2.1,y667.2.2.2.2.2.2.2.2.2.2.2.1,y667.2.2.2.2.2.2.2.2.2.2.2.2.1,y667.2.2.2.2.2.2.2.2.2.2.2.2.2))) (fun y668=>some (.inr (.inl (y668.1,y668.2.1,y668.2.2.1,y668.2.2.2.1,y668.2.2.2.2.1,y668.2.2.2.2.2.1,y668.2.2.2.2.2.2.1,y668.2.2.2.2.2.2.2.1,y668.2.2.2.2.2.2.2.2.1,y668.2.2.2.2.2.2.2.2.2)))))))else(some (.inr (.inr (m0_0,m0_1,h1,h2_0,h2_1,h2_2,h2_3,h3,fresh8))))
def Ym2(lo:Lo):Zp56->Option ((Bool×Zt5×Zt0×Zt1×Int×Zt4×Bool×Bool× (List Int)×Zt5)⊕ (Zt5×Zt0×Zt1×Int×Zt4×Bool×Bool× (List Int)×Zt5)):=lo.run (Ym1 lo)
def YyB(lo:Lo):LpE:=⟨3,[(0,some 2,false),(0,some 4,false),(8,none,false)],⟨[0,5,8,14,15,16],[.ptr 0 0 0,.ptr 4 0 0,.ref 5,.l Zc12,.i .i64,.i .i64],[.st [.l (cs [.s]),.l Zc3,.ref 1,.np 2,.ref 3,.clo 533 []],.sq Zc2,.st [.i .i64,.l Zc10,.b,.b],.sq (cs [I]),.st [.i .i64,.l Zc9],.sq (cs [.s])],Zc28⟩,[⟨.ret,⟨[6,7,0],[.ref 4,.b,.ptr 0 0 0],[.st [.l (cs [.s]),.l Zc3,.ref 1,.np 2,.ref 3,.clo 533 []],.sq Zc2,.st [.i .i64,.l Zc10,.b,.b],.sq (cs [I]),.sq (cs [.s])],Zc22⟩⟩,⟨.exit 0,⟨[0,8],[.ptr 0 0 0,.ref 4],[.st [.l (cs [.s]),.l Zc3,.ref 1,.np 2,.ref 3,.clo 533 []],.sq Zc2,.st [.i .i64,.l Zc10,.b,.b],.sq (cs [I]),.sq (cs [.s])],(cs [.l (cs [.s]),.l Zc3,.l Zc2,I,.l Zc10,.b,.b,.l (cs [I]),.l (cs [.s])])⟩⟩],Ym2 lo⟩
def YyC(lo:Lo):LL:=(YyB lo,.loop q161_L3_b.er)::Ym0 lo
theorem YyD(lo:Lo):Lk lo pf (YBh lo) 4 (YyC lo):=.l (YyA lo) (Ym1 lo) rfl (by kernel_rfl) fun x=>by kernel_rfl
def q161(lo:Lo)(a1_0:ByteArray)(a1_1:List Zp82)(r2_0:Int)(r2_1:List (Int×Int×ByteArray))(m0_0:List ByteArray)(m0_1:List (ByteArray×Zt7))(h1:List (ByteArray×Zt5×Zt13))(h2_0:Int)(h2_1:List (Int×ByteArray×Int×Int×ByteArray))(h2_2:Bool)(h2_3:Bool)(h3:List Int):Option (Bool×Zt5×Zt0×Zt1×Int×Zt4×Bool×Bool× (List Int)×Zt5):=
  Option.bind (Ym2 lo (a1_1,(a1_1.length:Int),(0:Int),m0_0,m0_1,h1,h2_0,h2_1,h2_2,h2_3,h3,r2_0,r2_1,[])) fun y669=>alt2 y669 (fun y670=>some (y670.1,y670.2.1,y670.2.2.1,y670.2.2.2.1,y670.2.2.2.2.1,y670.2.2.2.2.2.1,y670.2.2.2.2.2.2.1,y670.2.2.2.2.2.2.2.1,y670.2.2.2.2.2.2.2.2.1,y670.2.2.2.2.2.2.2.2.2)) (fun y671=>some (true,y671.1,y671.2.1,y671.2.2.1,y671.2.2.2.1,y671.2.2.2.2.1,y671.2.2.2.2.2.1,y671.2.2.2.2.2.2.1,y671.2.2.2.2.2.2.2.1,y671.2.2.2.2.2.2.2.2))
def YyE:VFn:=⟨true,64,[.t 6,.t 7],
 (.seq (.reg [o 4 (.box (t 1)),o 5 (.box (t 2)),o 6 (.mv (ke (cs [.s]))),o 7 (.mv (kb false))])
 (.seq (.reg [o 8 (.mv (ke (cs [.s])))])
 (.seq (.seq (.reg [oF 13 1 4,oL 14 13,oN 15 14,o 16 (.mv (k 0))])
 (.blk 0 (.loop 3 q161_L3_b)))
 (.seq (.reg [oM 63 8,oM 6 63,o 7 (.mv (kb true))])
 (.ow [(0,some 4,false),(0,some 2,false)] .ret)))))⟩
def Ym3(lo:Lo):FnE:=⟨543,false,⟨[0,1,2],[.ptr 0 0 0,.ag [.s,.l Zc12],.ag [.i .i64,.l Zc9]],[.st [.l (cs [.s]),.l Zc3,.ref 1,.np 2,.ref 3,.clo 533 []],.sq Zc2,.st [.i .i64,.l Zc10,.b,.b],.sq (cs [I])],(cs [.s,.l Zc12,I,.l Zc9,.l (cs [.s]),.l Zc3,.l Zc2,I,.l Zc10,.b,.b,.l (cs [I])])⟩,.tp [.ref 4,.b],[.st [.l (cs [.s]),.l Zc3,.ref 1,.np 2,.ref 3,.clo 533 []],.sq Zc2,.st [.i .i64,.l Zc10,.b,.b],.sq (cs [I]),.sq (cs [.s])],Zc22,(fun x=>q161 lo x.1 x.2.1 x.2.2.1 x.2.2.2.1 x.2.2.2.2.1 x.2.2.2.2.2.1 x.2.2.2.2.2.2.1 x.2.2.2.2.2.2.2.1 x.2.2.2.2.2.2.2.2.1 x.2.2.2.2.2.2.2.2.2.1 x.2.2.2.2.2.2.2.2.2.2.1 x.2.2.2.2.2.2.2.2.2.2.2:ByteArray×Zt7×Int×Zt6×Zt5×Zt0×Zt1×Int×Zt4×Bool×Bool× (List Int)->Option (Bool×Zt5×Zt0×Zt1×Int×Zt4×Bool×Bool× (List Int)×Zt5))⟩
noncomputable def YBi(lo:Lo):List FnE:=Ym3 lo::YBh lo
theorem YyF{P:Program}{fm:FM}{lo:Lo}(h:GZ P fm YBh lo)(t:Ti P fm 543 YyE):GZ P fm YBi lo:=
  h.i (Ym3 lo) (YyD lo) t (by kernel_rfl) (by kernel_rfl) fun x=>by kernel_rfl
def YfY(F:Zp67->Option (Bool×Zt5×Zt0×Zt1×Int×Zt4×Bool×Bool× (List Int))):FnE:=⟨515,false,⟨[0,1],[.ptr 0 0 0,.i .i64],[.st [.l (cs [.s]),.l Zc3,.ref 1,.np 2,.ref 3,.clo 533 []],.sq Zc2,.st [.i .i64,.l Zc10,.b,.b],.sq (cs [I])],Zc42⟩,.b,[.st [.l (cs [.s]),.l Zc3,.ref 1,.np 2,.ref 4,.clo 533 []],.sq Zc2,.st [.i .i64,.l Zc10,.b,.b],.dd,.sq (cs [I])],Zc38,F⟩
def q162_L8_b:VCode:=
 (.seq (.reg [o 83 (.bin .lss (t 82) (t 81))])
 (.seq (.cond (t 83) .skip
 (.exit 2))
 (.seq (.blk 3 (.seq (.reg [o 84 (.iad 1 (t 80) (t 82)),oL 85 84,oM 11 85])
 (.reg [oM 86 0,o 87 (.nilc (t 86)),oF 88 3 87,oL 89 88,oM 90 11,on (.mdel none I Zc34 (t 89) (t 90))])))
 (.reg [o 91 (.bin .add (t 82) (k 1)),oM 82 91]))))
def Ym4(lo:Lo)(rec:Zp67->Option (Bool×Zt5×Zt0×Zt1×Int×Zt4×Bool×Bool× (List Int))):Zp52->Option (Zp52⊕ ((Int×Bool×Zt13×Int×Int×Zt5×Zt0×Zt1×Int×Zt4×Bool×Bool× (List Int)))):=fun x=>match x with
  | (i1,on9,v32,v33,v34,v81,v82,m0_0,m0_1,h1,h2_0,h2_1,h2_2,h2_3,v80,h5)=>bif(decide (v82<v81))then(chk (0<=v82/\v82< (v80.length:Int)) (some (.inl (i1,on9,v32,v33,v34,v81,(IntKind.wrap .i64 (v82+(1:Int))),m0_0,m0_1,h1,h2_0,(mdl eqS (v80.getD v82.toNat (ByteArray.mk #[])) h2_1),h2_2,h2_3,v80,h5))))else(some (.inr (i1,on9,v32,v33,v34,m0_0,m0_1,h1,h2_0,h2_1,h2_2,h2_3,h5)))
def YfZ(lo:Lo)(rec:Zp67->Option (Bool×Zt5×Zt0×Zt1×Int×Zt4×Bool×Bool× (List Int))):Zp52->Option ((Int×Bool×Zt13×Int×Int×Zt5×Zt0×Zt1×Int×Zt4×Bool×Bool× (List Int))):=lo.run (Ym4 lo rec)
def YyG(lo:Lo)(rec:Zp67->Option (Bool×Zt5×Zt0×Zt1×Int×Zt4×Bool×Bool× (List Int))):LpE:=⟨8,[(0,some 2,false),(0,some 4,false)],⟨[0,1,9,32,33,34,80,81,82],[.ptr 0 0 0,.i .i64,.b,.l Zc18,.i .i64,.i .i64,.ref 4,.i .i64,.i .i64],[.st [.l (cs [.s]),.l Zc3,.ref 1,.np 2,.ref 5,.clo 533 []],.sq Zc2,.st [.i .i64,.l Zc10,.b,.b],.dd,.sq (cs [.s]),.sq (cs [I])],(cs [I,.b,.l Zc18,I,I,I,I,.l (cs [.s]),.l Zc3,.l Zc2,I,.l Zc10,.b,.b,.l (cs [.s]),.l (cs [I])])⟩,[⟨.exit 2,⟨[0,1,9,32,33,34],[.ptr 0 0 0,.i .i64,.b,.l Zc18,.i .i64,.i .i64],[.st [.l (cs [.s]),.l Zc3,.ref 1,.np 2,.ref 4,.clo 533 []],.sq Zc2,.st [.i .i64,.l Zc10,.b,.b],.dd,.sq (cs [I])],(cs [I,.b,.l Zc18,I,I,.l (cs [.s]),.l Zc3,.l Zc2,I,.l Zc10,.b,.b,.l (cs [I])])⟩⟩],YfZ lo rec⟩
def Ym5(lo:Lo)(rec:Zp67->Option (Bool×Zt5×Zt0×Zt1×Int×Zt4×Bool×Bool× (List Int))):LL:=(YyG lo rec,.loop q162_L8_b.er)::[]
theorem YyH(lo:Lo)(rec:Zp67->Option (Bool×Zt5×Zt0×Zt1×Int×Zt4×Bool×Bool× (List Int))):Lk lo pf (YfY rec::YBi lo) 4 (Ym5 lo rec):=.l .n (Ym4 lo rec) rfl (by kernel_rfl) fun x=>by kernel_rfl
def q162_L3_b:VCode:=
 (.seq (.reg [o 35 (.bin .lss (t 34) (t 33))])
 (.seq (.cond (t 35) .skip
 (.exit 0))
 (.seq (.blk 1 (.seq (.reg [o 36 (.iad 2 (t 32) (t 34)),o 37 (.load true 2 (t 36)),o 6 (.alloc [.i .i64 0,.e Zc9]),on (.store 2 (t 6) (t 37))])
 (.seq (.reg [oM 39 0,oM 40 0,o 41 (.nilc (t 40)),oF 42 0 41,oF 43 1 42,oL 44 43,oM 45 1,o 46 (.iad 2 (t 44) (t 45)),o 47 (.load true 2 (t 46)),o 48 (.load true 2 (t 6)),o 49 (.call 543 [(t 39),(t 47),(t 48)]),oM 38 49,oE 50 38 0,oE 51 38 1,oM 7 50,oM 8 51])
 (.seq (.reg [oM 52 0,oM 53 0,o 54 (.nilc (t 53)),oF 55 4 54,oL 56 55,oF 57 0 6,oL 58 57,o 59 (.bsl (cs [I]) 1 [(0,(t 58))]),o 60 (.app (cs [I]) 0 (t 56) (t 59)),o 61 (.nilc (t 52)),oF 62 4 61,on (.store 1 (t 62) (t 60))])
 (.seq (.reg [oM 63 8,o 64 (.not (t 63)),oM 65 64,og 66 65 false (.mv (t 0)),og 67 65 false (.mv (t 1)),og 68 65 false (.bin .add (t 67) (k 1)),og 69 65 false (.call 515 [(t 66),(t 68)]),o 70 (.pick (t 65) (kb true) (t 69)),oM 9 70])
 (.seq (.reg [oM 71 0,oM 72 0,o 73 (.nilc (t 72)),oF 74 4 73,oL 75 74,oM 76 1,o 77 (.slcR 1 (t 75) none (some (t 76))),o 78 (.nilc (t 71)),oF 79 4 78,on (.store 1 (t 79) (t 77))])
 (.seq (.seq (.reg [oM 80 7,oN 81 80,o 82 (.mv (k 0))])
 (.blk 2 (.loop 8 q162_L8_b)))
 (.seq (.reg [oM 92 9,o 93 (.not (t 92))])
 (.cond (t 93) (.seq (.reg [o 4 (.mv (kb false))])
 (.ow [(1000003,none,true),(0,some 4,false),(0,some 2,false)] .ret))
 .skip)))))))))
 (.reg [o 94 (.bin .add (t 34) (k 1)),oM 34 94]))))
def Ym6(lo:Lo)(rec:Zp67->Option (Bool×Zt5×Zt0×Zt1×Int×Zt4×Bool×Bool× (List Int))):Zp59->Option (Zp59⊕ ((Bool×Zt5×Zt0×Zt1×Int×Zt4×Bool×Bool× (List Int))⊕ (Zt5×Zt0×Zt1×Int×Zt4×Bool×Bool× (List Int)))):=fun x=>match x with
  | (i1,v32,v33,v34,m0_0,m0_1,h1,h2_0,h2_1,h2_2,h2_3,h4)=>bif(decide (v34<v33))then(chk (0<=v34/\v34< (v32.length:Int)) (chk (0<=i1/\i1< (m0_1.length:Int)) (Option.bind (q161 lo ((m0_1.getD i1.toNat ((ByteArray.mk #[]),[])).1) ((m0_1.getD i1.toNat ((ByteArray.mk #[]),[])).2) ((v32.getD v34.toNat ((0:Int),[])).1) ((v32.getD v34.toNat ((0:Int),[])).2) m0_0 m0_1 h1 h2_0 h2_1 h2_2 h2_3 h4) fun y691=>chk (y691.2.2.2.1.length=h1.length) (chk (y691.2.2.2.2.2.2.2.2.1.length=h4.length) (chk (y691.2.2.2.2.2.2.2.2.1.length+([(v32.getD v34.toNat ((0:Int),[])).1]).length<=maxEl) (bif(!y691.1)then(chk ((0:Int)=0/\0<=i1/\i1<=((y691.2.2.2.2.2.2.2.2.1++([(v32.getD v34.toNat ((0:Int),[])).1])).length:Int)) (Option.bind (YfZ lo rec (i1,true,v32,v33,v34,(y691.2.2.2.2.2.2.2.2.2.length:Int),(0:Int),y691.2.1,y691.2.2.1,y691.2.2.2.1,y691.2.2.2.2.1,y691.2.2.2.2.2.1,y691.2.2.2.2.2.2.1,y691.2.2.2.2.2.2.2.1,y691.2.2.2.2.2.2.2.2.2,((y691.2.2.2.2.2.2.2.2.1++([(v32.getD v34.toNat ((0:Int),[])).1])).take i1.toNat))) fun y692=>bif(!y692.2.1)then(some (.inr (.inl (false,y692.2.2.2.2.2.1,y692.2.2.2.2.2.2.1,y692.2.2.2.2.2.2.2.1,y692.2.2.2.2.2.2.2.2.1,y692.2.2.2.2.2.2.2.2.2.1,y692.2.2.2.2.2.2.2.2.2.2.1,y692.2.2.2.2.2.2.2.2.2.2.2.1,y692.2.2.2.2.2.2.2.2.2.2.2.2))))else(some (.inl (y692.1,y692.2.2.1,y692.2.2.2.1,(IntKind.wrap .i64 (y692.2.2.2.2.1+(1:Int))),y692.2.2.2.2.2.1,y692.2.2.2.2.2.2.1,y692.2.2.2.2.2.2.2.1,y692.2.2.2.2.2.2.2.2.1,y692.2.2.2.2.2.2.2.2.2.1,y692.2.2.2.2.2.2.2.2.2.2.1,y692.2.2.2.2.2.2.2.2.2.2.2.1,y692.2.2.2.2.2.2.2.2.2.2.2.2)))))else(Option.bind (rec ((IntKind.wrap .i64 (i1+(1:Int))),y691.2.1,y691.2.2.1,y691.2.2.2.1,y691.2.2.2.2.1,y691.2.2.2.2.2.1,y691.2.2.2.2.2.2.1,y691.2.2.2.2.2.2.2.1,(y691.2.2.2.2.2.2.2.2.1++([(v32.getD v34.toNat ((0:Int),[])).1])))) fun y693=>chk (y693.2.2.2.1.length=y691.2.2.2.1.length) (chk ((0:Int)=0/\0<=i1/\i1<=(y693.2.2.2.2.2.2.2.2.length:Int)) (Option.bind (YfZ lo rec (i1,y693.1,v32,v33,v34,(y691.2.2.2.2.2.2.2.2.2.length:Int),(0:Int),y693.2.1,y693.2.2.1,y693.2.2.2.1,y693.2.2.2.2.1,y693.2.2.2.2.2.1,y693.2.2.2.2.2.2.1,y693.2.2.2.2.2.2.2.1,y691.2.2.2.2.2.2.2.2.2,(y693.2.2.2.2.2.2.2.2.take i1.toNat))) fun y694=>bif(!y694.2.1)then(some (.inr (.inl (false,y694.2.2.2.2.2.1,y694.2.2.2.2.2.2.1,y694.2.2.2.2.2.2.2.1,y694.2.2.2.2.2.2.2.2.1,y694.2.2.2.2.2.2.2.2.2.1,y694.2.2.2.2.2.2.2.2.2.2.1,y694.2.2.2.2.2.2.2.2.2.2.2.1,y694.2.2.2.2.2.2.2.2.2.2.2.2))))else(some (.inl (y694.1,y694.2.2.1,y694.2.2.2.1,(IntKind.wrap .i64 (y694.2.2.2.2.1+(1:Int))),y694.2.2.2.2.2.1,y694.2.2.2.2.2.2.1,y694.2.2.2.2.2.2.2.1,y694.2.2.2.2.2.2.2.2.1,y694.2.2.2.2.2.2.2.2.2.1,y694.2.2.2.2.2.2.2.2.2.2.1,y694.2.2.2.2.2.2.2.2.2.2.2.1,y694.2.2.2.2.2.2.2.2.2.2.2.2))))))))))))else(some (.inr (.inr (m0_0,m0_1,h1,h2_0,h2_1,h2_2,h2_3,h4))))
def Ym7(lo:Lo)(rec:Zp67->Option (Bool×Zt5×Zt0×Zt1×Int×Zt4×Bool×Bool× (List Int))):Zp59->Option ((Bool×Zt5×Zt0×Zt1×Int×Zt4×Bool×Bool× (List Int))⊕ (Zt5×Zt0×Zt1×Int×Zt4×Bool×Bool× (List Int))):=lo.run (Ym6 lo rec)
def YyI(lo:Lo)(rec:Zp67->Option (Bool×Zt5×Zt0×Zt1×Int×Zt4×Bool×Bool× (List Int))):LpE:=⟨3,[(1000003,none,true),(0,some 2,false),(0,some 4,false)],⟨[0,1,32,33,34],[.ptr 0 0 0,.i .i64,.l Zc18,.i .i64,.i .i64],[.st [.l (cs [.s]),.l Zc3,.ref 1,.np 2,.ref 4,.clo 533 []],.sq Zc2,.st [.i .i64,.l Zc10,.b,.b],.dd,.sq (cs [I])],(cs [I,.l Zc18,I,I,.l (cs [.s]),.l Zc3,.l Zc2,I,.l Zc10,.b,.b,.l (cs [I])])⟩,[⟨.ret,⟨[4,0],[.b,.ptr 0 0 0],[.st [.l (cs [.s]),.l Zc3,.ref 1,.np 2,.ref 4,.clo 533 []],.sq Zc2,.st [.i .i64,.l Zc10,.b,.b],.dd,.sq (cs [I])],Zc38⟩⟩,⟨.exit 0,⟨[0],[.ptr 0 0 0],[.st [.l (cs [.s]),.l Zc3,.ref 1,.np 2,.ref 4,.clo 533 []],.sq Zc2,.st [.i .i64,.l Zc10,.b,.b],.dd,.sq (cs [I])],Zc19⟩⟩],Ym7 lo rec⟩
def Ym8(lo:Lo)(rec:Zp67->Option (Bool×Zt5×Zt0×Zt1×Int×Zt4×Bool×Bool× (List Int))):LL:=(YyI lo rec,.loop q162_L3_b.er)::Ym5 lo rec
theorem YyJ(lo:Lo)(rec:Zp67->Option (Bool×Zt5×Zt0×Zt1×Int×Zt4×Bool×Bool× (List Int))):Lk lo pf (YfY rec::YBi lo) 4 (Ym8 lo rec):=.l (YyH lo rec) (Ym6 lo rec) rfl (by kernel_rfl) fun x=>by kernel_rfl
def YyK(lo:Lo)(rec:Zp67->Option (Bool×Zt5×Zt0×Zt1×Int×Zt4×Bool×Bool× (List Int)))(i1:Int)(m0_0:List ByteArray)(m0_1:List (ByteArray×Zt7))(h1:List (ByteArray×Zt5×Zt13))(h2_0:Int)(h2_1:List (Int×ByteArray×Int×Int×ByteArray))(h2_2:Bool)(h2_3:Bool)(h3:List Int):Option (Bool×Zt5×Zt0×Zt1×Int×Zt4×Bool×Bool× (List Int)):=
  bif(decide (i1=(m0_1.length:Int)))then(Option.bind (q160 lo) fun y690=>some (y690,m0_0,m0_1,h1,h2_0,h2_1,h2_2,h2_3,h3))else(chk (0<=i1/\i1< (h1.length:Int)) (Option.bind (Ym7 lo rec (i1,(h1.getD i1.toNat ((ByteArray.mk #[]),[],[])).2.2,(((h1.getD i1.toNat ((ByteArray.mk #[]),[],[])).2.2).length:Int),(0:Int),m0_0,m0_1,h1,h2_0,h2_1,h2_2,h2_3,h3)) fun y695=>alt2 y695 (fun y696=>some (y696.1,y696.2.1,y696.2.2.1,y696.2.2.2.1,y696.2.2.2.2.1,y696.2.2.2.2.2.1,y696.2.2.2.2.2.2.1,y696.2.2.2.2.2.2.2.1,y696.2.2.2.2.2.2.2.2)) (fun y697=>some (true,y697.1,y697.2.1,y697.2.2.1,y697.2.2.2.1,y697.2.2.2.2.1,y697.2.2.2.2.2.1,y697.2.2.2.2.2.2.1,y697.2.2.2.2.2.2.2))))
def Yf0(lo:Lo):Nat->Int×Zt5×Zt0×Zt1×Int×Zt4×Bool×Bool× (List Int)->Option (Bool×Zt5×Zt0×Zt1×Int×Zt4×Bool×Bool× (List Int))
  |0,_=>none
  |n+1,x=>YyK lo (Yf0 lo n) x.1 x.2.1 x.2.2.1 x.2.2.2.1 x.2.2.2.2.1 x.2.2.2.2.2.1 x.2.2.2.2.2.2.1 x.2.2.2.2.2.2.2.1 x.2.2.2.2.2.2.2.2
def q162(lo:Lo)(i1:Int)(m0_0:List ByteArray)(m0_1:List (ByteArray×Zt7))(h1:List (ByteArray×Zt5×Zt13))(h2_0:Int)(h2_1:List (Int×ByteArray×Int×Int×ByteArray))(h2_2:Bool)(h2_3:Bool)(h3:List Int):Option (Bool×Zt5×Zt0×Zt1×Int×Zt4×Bool×Bool× (List Int)):=lo.run (fixS (Yf0 lo)) (0,(i1,m0_0,m0_1,h1,h2_0,h2_1,h2_2,h2_3,h3))
def YyL:VFn:=⟨true,95,[.t 4],
 (.seq (.reg [o 4 (.mv (kb false))])
 (.seq (.seq (.reg [oM 12 1,oM 13 0,o 14 (.nilc (t 13)),oF 15 0 14,oF 16 1 15,oL 17 16,oN 18 17,o 19 (.bin .eql (t 12) (t 18))])
 (.cond (t 19) (.seq (.reg [oM 20 0,o 21 (.nilc (t 20)),oF 22 5 21,oL 23 22,o 24 (.dyn (t 23) []),oM 4 24])
 (.ow [(1000003,none,true),(0,some 4,false),(0,some 2,false)] .ret))
 .skip))
 (.seq (.seq (.reg [oM 25 0,o 26 (.nilc (t 25)),oF 27 2 26,oL 28 27,oM 29 1,o 30 (.iad 3 (t 28) (t 29)),oF 31 2 30,oL 32 31,oN 33 32,o 34 (.mv (k 0))])
 (.blk 0 (.loop 3 q162_L3_b)))
 (.seq (.reg [o 4 (.mv (kb true))])
 (.ow [(1000003,none,true),(0,some 4,false),(0,some 2,false)] .ret)))))⟩
def Ym9(lo:Lo):FnE:=YfY (fun x=>q162 lo x.1 x.2.1 x.2.2.1 x.2.2.2.1 x.2.2.2.2.1 x.2.2.2.2.2.1 x.2.2.2.2.2.2.1 x.2.2.2.2.2.2.2.1 x.2.2.2.2.2.2.2.2)
noncomputable def YB1(lo:Lo):List FnE:=Ym9 lo::YBi lo
theorem YyM{P:Program}{fm:FM}{lo:Lo}(h:GZ P fm YBi lo)(t:Ti P fm 515 YyL):GZ P fm YB1 lo:=
  h.ir (Ym9 lo) (Yf0 lo) (ls:=fun rec=>Ym8 lo rec) (fun rec=>(YyJ lo rec)) t (by kernel_rfl) (fun _=>rfl) rfl (fun _=>by kernel_rfl) fun n x=>by kernel_rfl
def q163(lo:Lo)(db0:List (ByteArray×Zt5×Zt13))(q1_0:List ByteArray)(q1_1:List (ByteArray×Zt7))(answer2:List (Int×Int×ByteArray)):Option (Bool×Int):=
  altO (q68 lo db0 q1_0 q1_1 answer2) (fun y661=>bif(!decide (y661.1=(0:Int)))then(some (false,y661.1))else(Option.bind (q162 lo (0:Int) y661.2.1 y661.2.2.1 y661.2.2.2.1 y661.2.2.2.2.1 y661.2.2.2.2.2.1 y661.2.2.2.2.2.2.1 y661.2.2.2.2.2.2.2.1 y661.2.2.2.2.2.2.2.2) fun y698=>chk (y698.2.2.2.1.length=y661.2.2.2.1.length) (some ((!y698.1),(0:Int))))) (Option.bind (q67 lo db0 q1_0 q1_1 answer2) fun y699=>bif(!decide (y699=(0:Int)))then(some (false,y699))else(none))
def YyN:VFn:=⟨true,26,[.t 6,.t 7],
 (.seq (.reg [o 3 (.box (t 0)),o 4 (.box (t 1)),o 6 (.mv (kb false)),o 7 (.mv (k 0))])
 (.seq (.reg [o 11 (.load true 1 (t 3)),o 12 (.load true 2 (t 4)),oM 13 2,o 14 (.call 532 [(t 11),(t 12),(t 13)]),oM 10 14,oE 15 10 0,oE 16 10 1,oM 8 15,oM 9 16])
 (.seq (.seq (.reg [oM 17 9,o 18 (.bin .neq (t 17) (k 0))])
 (.cond (t 18) (.seq (.reg [oM 19 9,o 6 (.mv (kb false)),oM 7 19])
 (.fz [6,7] .ret))
 .skip))
 (.seq (.reg [oM 20 8,o 21 (.nilc (t 20)),oF 22 5 21,on (.store 1 (t 22) (.c (.f 533)))])
 (.seq (.reg [oM 23 8,o 24 (.call 515 [(t 23),(k 0)]),o 25 (.not (t 24)),oM 6 25,o 7 (.mv (k 0))])
 (.fz [6,7] .ret))))))⟩
def Yna(lo:Lo):FnE:=⟨494,true,⟨[0,1,2],[.ag [.l Zc2],.ag [.l (cs [.s]),.l Zc3],.l Zc9],[],Zc30⟩,.tp [.b,.i .i64],[],(cs [.b,I]),(fun x=>q163 lo x.1 x.2.1 x.2.2.1 x.2.2.2:Zt1×Zt5×Zt0×Zt6->Option (Bool×Int))⟩
noncomputable def YCt(lo:Lo):List FnE:=Yna lo::YB1 lo
theorem YyO{P:Program}{fm:FM}{lo:Lo}(h:GZ P fm YB1 lo)(t:Ti P fm 494 YyN):GZ P fm YCt lo:=
  h.p (Yna lo) .n t (by kernel_rfl) (by kernel_rfl) fun x=>by kernel_rfl
noncomputable def YDn(lo:Lo):List FnE:=YCt lo
noncomputable def YCu(lo:Lo):List FnE:=YDn lo
end Go.Abs.G47
namespace Go.Abs.G47
open Go Go.Abs
set_option maxRecDepth 100000
set_option maxHeartbeats 1000000
noncomputable def q166(lo:Lo)(db0:List (ByteArray×Zt5×Zt13))(q1_0:List ByteArray)(q1_1:List (ByteArray×Zt7))(answer2:List (Int×Int×ByteArray)):Option Bool:=
  Option.bind (q99 lo) fun y711=>bif(!y711)then(Option.bind (q99 lo) fun y712=>some y712)else(Option.bind (q100 lo db0) fun y713=>bif(!y713)then(Option.bind (q99 lo) fun y714=>some y714)else(Option.bind (q101 lo q1_0 q1_1) fun y715=>bif(!y715)then(Option.bind (q99 lo) fun y716=>some y716)else(bif(decide ((8:Int)< (answer2.length:Int)))then(Option.bind (q99 lo) fun y717=>some y717)else(Option.bind (q115 lo db0 q1_0 q1_1) fun y718=>bif(decide (y718=(0:Int)))then(some true)else(Option.bind (q66 lo db0 q1_0 q1_1) fun y719=>Option.bind (q163 lo db0 q1_0 q1_1 answer2) fun y720=>Option.bind (q73 lo db0 q1_0 q1_1 answer2) fun y721=>bif(decide (y719.2=y718))then(bif(decide (y720.2=y718))then(bif(decide (y721.2=y718))then(bif(!y720.1)then(some (decide ((IntKind.wrap .i64 ((y719.1.length:Int)+(y721.1.length:Int)))=(0:Int))))else(some false))else(some false))else(some false))else(some false))))))
def YyP:VFn:=⟨true,82,[.t 6],
 (.seq (.reg [o 3 (.box (t 0)),o 4 (.box (t 1)),o 6 (.mv (kb false))])
 (.seq (.seq (.reg [o 14 (.call 469 []),o 15 (.not (t 14)),oM 16 15,og 17 16 false (.load true 1 (t 3)),og 18 16 false (.call 470 [(t 17)]),og 19 16 false (.not (t 18)),o 20 (.pick (t 16) (kb true) (t 19)),oM 21 20,og 22 21 false (.load true 2 (t 4)),og 23 21 false (.call 471 [(t 22)]),og 24 21 false (.not (t 23)),o 25 (.pick (t 21) (kb true) (t 24)),oM 26 25,og 27 26 false (.mv (t 2)),og 28 26 false (.len (t 27)),og 29 26 false (.bin .gtr (t 28) (k 8)),o 30 (.pick (t 26) (kb true) (t 29))])
 (.cond (t 30) (.seq (.reg [o 31 (.call 469 []),oM 6 31])
 (.fz [6] .ret))
 .skip))
 (.seq (.reg [o 32 (.load true 1 (t 3)),o 33 (.load true 2 (t 4)),o 34 (.call 473 [(t 32),(t 33)]),oM 7 34])
 (.seq (.seq (.reg [oM 35 7,o 36 (.bin .eql (t 35) (k 0))])
 (.cond (t 36) (.seq (.reg [o 6 (.mv (kb true))])
 (.fz [6] .ret))
 .skip))
 (.seq (.reg [o 38 (.load true 1 (t 3)),o 39 (.load true 2 (t 4)),o 40 (.call 476 [(t 38),(t 39)]),oM 37 40,oE 41 37 0,oE 42 37 1,oM 8 41,oM 9 42])
 (.seq (.reg [o 44 (.load true 1 (t 3)),o 45 (.load true 2 (t 4)),oM 46 2,o 47 (.call 494 [(t 44),(t 45),(t 46)]),oM 43 47,oE 48 43 0,oE 49 43 1,oM 10 48,oM 11 49])
 (.seq (.reg [o 51 (.load true 1 (t 3)),o 52 (.load true 2 (t 4)),oM 53 2,o 54 (.call 495 [(t 51),(t 52),(t 53)]),oM 50 54,oE 55 50 0,oE 56 50 1,oM 12 55,oM 13 56])
 (.seq (.reg [oM 57 9,oM 58 7,o 59 (.bin .eql (t 57) (t 58)),oM 60 59,og 61 60 true (.mv (t 11)),og 62 60 true (.mv (t 7)),og 63 60 true (.bin .eql (t 61) (t 62)),o 64 (.pick (t 60) (t 63) (kb false)),oM 65 64,og 66 65 true (.mv (t 13)),og 67 65 true (.mv (t 7)),og 68 65 true (.bin .eql (t 66) (t 67)),o 69 (.pick (t 65) (t 68) (kb false)),oM 70 69,og 71 70 true (.mv (t 10)),og 72 70 true (.not (t 71)),o 73 (.pick (t 70) (t 72) (kb false)),oM 74 73,og 75 74 true (.mv (t 8)),og 76 74 true (.len (t 75)),og 77 74 true (.mv (t 12)),og 78 74 true (.len (t 77)),og 79 74 true (.bin .add (t 76) (t 78)),og 80 74 true (.bin .eql (t 79) (k 0)),o 81 (.pick (t 74) (t 80) (kb false)),oM 6 81])
 (.fz [6] .ret)))))))))⟩
noncomputable def q166_f(lo:Lo):FnE:=⟨468,true,⟨[0,1,2],[.ag [.l Zc2],.ag [.l (cs [.s]),.l Zc3],.l Zc9],[],Zc30⟩,.b,[],(cs [.b]),(fun x=>q166 lo x.1 x.2.1 x.2.2.1 x.2.2.2:Zt1×Zt5×Zt0×Zt6->Option Bool)⟩
noncomputable def YDo(lo:Lo):List FnE:=q166_f lo::YCu lo
theorem YyQ{P:Program}{fm:FM}{lo:Lo}(h:GZ P fm YCu lo)(t:Ti P fm 468 YyP):GZ P fm YDo lo:=
  h.p (q166_f lo) .n t (by kernel_rfl) (by kernel_rfl) fun x=>by kernel_rfl
end Go.Abs.G47
