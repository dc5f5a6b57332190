/- Functions of the program as functions of data (written by program). No condition. -/
import Derived.Test.YtlmcnindhfbkhaaGreatDoorG
set_option linter.unusedVariables false
set_option linter.unusedSimpArgs false
set_option linter.unusedSectionVars false
namespace Go.Abs.G47
open Go Go.Abs
set_option maxRecDepth 100000
set_option maxHeartbeats 1000000
def q98_L3_b:VCode:=
 (.seq (.seq (.reg [oM 11 5,oM 12 0,oN 13 12,o 14 (.bin .lss (t 11) (t 13))])
 (.cond (t 14) .skip
 (.exit 0)))
 (.seq (.blk 1 (.seq (.reg [oM 17 0,oM 18 5,o 19 (.iad 1 (t 17) (t 18)),oL 20 19,oM 21 1,oM 22 5,o 23 (.iad 1 (t 21) (t 22)),oL 24 23,o 25 (.call 351 [(t 20),(t 24)]),o 26 (.not (t 25))])
 (.cond (t 26) (.seq (.reg [o 4 (.mv (kb false))])
 (.fz [4] .ret))
 .skip)))
 (.reg [oM 15 5,o 16 (.bin .add (t 15) (k 1)),oM 5 16])))
def Ymz(lo:Lo):Zt13×Zt13×Int->Option ((Zt13×Zt13×Int)⊕ (Bool⊕Unit)):=fun x=>match x with
  | (a0,b1,i5)=>bif(decide (i5< (a0.length:Int)))then(chk (0<=i5/\i5< (a0.length:Int)) (chk (0<=i5/\i5< (b1.length:Int)) (Option.bind (q97 lo (a0.getD i5.toNat []) (b1.getD i5.toNat [])) fun y391=>bif(!y391)then(some (.inr (.inl false)))else(some (.inl (a0,b1,(IntKind.wrap .i64 (i5+(1:Int)))))))))else(some (.inr (.inr ())))
def YmA(lo:Lo):Zt13×Zt13×Int->Option (Bool⊕Unit):=lo.run (Ymz lo)
def YwY(lo:Lo):LpE:=⟨3,[],⟨[0,1,5],[.l Zc17,.l Zc17,.i .i64],[],(cs [.l Zc17,.l Zc17,I])⟩,[⟨.ret,⟨[4],[.b],[],(cs [.b])⟩⟩,⟨.exit 0,⟨[],[],[],(cs [])⟩⟩],YmA lo⟩
def YwZ(lo:Lo):LL:=(YwY lo,.loop q98_L3_b.er)::[]
theorem Yw0(lo:Lo):Lk lo pf (fs98 lo) 0 (YwZ lo):=.l .n (Ymz lo) rfl (by kernel_rfl) fun x=>by kernel_rfl
def q98(lo:Lo)(a0:List ((List Int)))(b1:List ((List Int))):Option Bool:=
  bif(!decide ((a0.length:Int)=(b1.length:Int)))then(some false)else(Option.bind (YmA lo (a0,b1,(0:Int))) fun y392=>alt2 y392 (fun y393=>some y393) (fun y394=>some true))
def Yw1:VFn:=⟨true,27,[.t 4],
 (.seq (.reg [o 4 (.mv (kb false))])
 (.seq (.seq (.reg [oM 6 0,oN 7 6,oM 8 1,oN 9 8,o 10 (.bin .neq (t 7) (t 9))])
 (.cond (t 10) (.seq (.reg [o 4 (.mv (kb false))])
 (.fz [4] .ret))
 .skip))
 (.seq (.seq (.reg [o 5 (.mv (k 0))])
 (.blk 0 (.loop 3 q98_L3_b)))
 (.seq (.reg [o 4 (.mv (kb true))])
 (.fz [4] .ret)))))⟩
def YmB(lo:Lo):FnE:=⟨346,true,⟨[0,1],[.l Zc17,.l Zc17],[],(cs [.l Zc17,.l Zc17])⟩,.b,[],(cs [.b]),(fun x=>q98 lo x.1 x.2:Zt13×Zt13->Option Bool)⟩
noncomputable def fs99(lo:Lo):List FnE:=YmB lo::fs98 lo
theorem Yw2{P:Program}{fm:FM}{lo:Lo}(h:GZ P fm fs98 lo)(t:Ti P fm 346 Yw1):GZ P fm fs99 lo:=
  h.p (YmB lo) (Yw0 lo) t (by kernel_rfl) (by kernel_rfl) fun x=>by kernel_rfl
noncomputable def q99(lo:Lo):Option Bool:=
  Option.bind (q1 lo (1:Int) ([(1:Int),(2:Int)])) fun y2=>Option.bind (q1 lo (2:Int) ([(1:Int),(3:Int)])) fun y3=>Option.bind (q1 lo (3:Int) ([(2:Int),(3:Int)])) fun y4=>Option.bind (q1 lo (1:Int) ([(3:Int)])) fun y5=>Option.bind (q2 lo (ByteArray.mk #[120])) fun y6=>Option.bind (q2 lo (ByteArray.mk #[121])) fun y7=>Option.bind (q2 lo (ByteArray.mk #[121])) fun y8=>Option.bind (q66 lo ([((ByteArray.mk #[114]),[(ByteArray.mk #[97]),(ByteArray.mk #[98])],[y2,y3,y4]),((ByteArray.mk #[115]),[(ByteArray.mk #[99])],[y5])]) ([(ByteArray.mk #[120])]) ([((ByteArray.mk #[114]),[y6,y7]),((ByteArray.mk #[115]),[y8])])) fun y229=>Option.bind (q0 lo (2:Int)) fun y230=>Option.bind (q73 lo ([((ByteArray.mk #[114]),[(ByteArray.mk #[97]),(ByteArray.mk #[98])],[y2,y3,y4]),((ByteArray.mk #[115]),[(ByteArray.mk #[99])],[y5])]) ([(ByteArray.mk #[120])]) ([((ByteArray.mk #[114]),[y6,y7]),((ByteArray.mk #[115]),[y8])]) [y230.2]) fun y295=>Option.bind (q2 lo (ByteArray.mk #[120])) fun y296=>Option.bind (q2 lo (ByteArray.mk #[121])) fun y297=>Option.bind (q2 lo (ByteArray.mk #[120])) fun y298=>Option.bind (q2 lo (ByteArray.mk #[122])) fun y299=>Option.bind (q87 lo ([(ByteArray.mk #[120])]) ([((ByteArray.mk #[114]),[y296,y297]),((ByteArray.mk #[114]),[y298,y299])])) fun y369=>Option.bind (q96 lo y369.1 y369.2.1) fun y387=>bif(decide (y229.2=(0:Int)))then(bif(decide (y295.2=(0:Int)))then(bif(decide (y369.2.2=(0:Int)))then(bif(decide (y387.2=(0:Int)))then(bif(decide ((y229.1.length:Int)=(2:Int)))then(chk (0<=(1:Int)/\ (1:Int)< (y229.1.length:Int)) (chk (0<=(0:Int)/\ (0:Int)< ((y229.1.getD 1 []).length:Int)) (bif(decide (((y229.1.getD 1 []).getD 0 ((0:Int),(0:Int),(ByteArray.mk #[]))).2.1=(2:Int)))then(Option.bind (q98 lo y295.1 ([[(3:Int),(1:Int)]])) fun y395=>bif y395 then(bif(decide (y387.1=(ByteArray.mk #[40,120,41,32,58,32,114,40,120,44,32,122,41])))then(Option.bind (q86 lo ([(ByteArray.mk #[120])]) ([((ByteArray.mk #[114]),[y296,y297]),((ByteArray.mk #[114]),[y298,y299])]) y369.1 y369.2.1) fun y396=>bif y396 then(Option.bind (q86 lo y369.1 y369.2.1 ([(ByteArray.mk #[120])]) ([((ByteArray.mk #[114]),[y296,y297]),((ByteArray.mk #[114]),[y298,y299])])) fun y397=>some y397)else(some false))else(some false))else(some false))else(some false))))else(some false))else(some false))else(some false))else(some false))else(some false)
def Yw3:VFn:=⟨true,129,[.t 0],
 (.seq (.reg [o 0 (.mv (kb false))])
 (.seq (.reg [o 1 (.mv (.c (.f 497)))])
 (.seq (.reg [o 14 (.bsl (cs [.s]) 2 [(0,(ks (⟨#[97]⟩))),(1,(ks (⟨#[98]⟩)))]),oM 15 1,o 16 (.bsl (cs [I]) 2 [(0,(k 1)),(1,(k 2))]),o 17 (.dyn (t 15) [(k 1),(t 16)]),oM 18 1,o 19 (.bsl (cs [I]) 2 [(0,(k 1)),(1,(k 3))]),o 20 (.dyn (t 18) [(k 2),(t 19)]),oM 21 1,o 22 (.bsl (cs [I]) 2 [(0,(k 2)),(1,(k 3))]),o 23 (.dyn (t 21) [(k 3),(t 22)]),o 24 (.bsl Zc18 3 [(0,(t 17)),(1,(t 20)),(2,(t 23))]),o 25 (.build [.s (⟨#[]⟩),.e (cs [.s]),.e Zc18] [(0,1,(ks (⟨#[114]⟩))),(1,1,(t 14)),(2,1,(t 24))]),o 26 (.bsl (cs [.s]) 1 [(0,(ks (⟨#[99]⟩)))]),oM 27 1,o 28 (.bsl (cs [I]) 1 [(0,(k 3))]),o 29 (.dyn (t 27) [(k 1),(t 28)]),o 30 (.bsl Zc18 1 [(0,(t 29))]),o 31 (.build [.s (⟨#[]⟩),.e (cs [.s]),.e Zc18] [(0,1,(ks (⟨#[115]⟩))),(1,1,(t 26)),(2,1,(t 30))]),o 32 (.bsl Zc2 2 [(0,(t 25)),(1,(t 31))]),o 33 (.build [.e Zc2] [(0,1,(t 32))]),o 2 (.alloc [.e Zc2]),on (.store 1 (t 2) (t 33))])
 (.seq (.reg [o 34 (.bsl (cs [.s]) 1 [(0,(ks (⟨#[120]⟩)))]),o 35 (.call 499 [(ks (⟨#[120]⟩))]),o 36 (.call 499 [(ks (⟨#[121]⟩))]),o 37 (.bsl Zc12 2 [(0,(t 35)),(1,(t 36))]),o 38 (.build [.s (⟨#[]⟩),.e Zc12] [(0,1,(ks (⟨#[114]⟩))),(1,1,(t 37))]),o 39 (.call 499 [(ks (⟨#[121]⟩))]),o 40 (.bsl Zc12 1 [(0,(t 39))]),o 41 (.build [.s (⟨#[]⟩),.e Zc12] [(0,1,(ks (⟨#[115]⟩))),(1,1,(t 40))]),o 42 (.bsl Zc3 2 [(0,(t 38)),(1,(t 41))]),o 43 (.build [.e (cs [.s]),.e Zc3] [(0,1,(t 34)),(1,1,(t 42))]),o 3 (.alloc [.e (cs [.s]),.e Zc3]),on (.store 2 (t 3) (t 43))])
 (.seq (.reg [o 45 (.load true 1 (t 2)),o 46 (.load true 2 (t 3)),o 47 (.call 476 [(t 45),(t 46)]),oM 44 47,oE 48 44 0,oE 49 44 1,oM 4 48,oM 5 49])
 (.seq (.reg [o 51 (.load true 1 (t 2)),o 52 (.load true 2 (t 3)),o 53 (.call 498 [(k 2)]),o 54 (.fld true 1 3 (t 53)),o 55 (.bsl Zc9 1 [(0,(t 54))]),o 56 (.call 495 [(t 51),(t 52),(t 55)]),oM 50 56,oE 57 50 0,oE 58 50 1,oM 6 57,oM 7 58])
 (.seq (.reg [o 59 (.bsl (cs [.s]) 1 [(0,(ks (⟨#[120]⟩)))]),o 60 (.call 499 [(ks (⟨#[120]⟩))]),o 61 (.call 499 [(ks (⟨#[121]⟩))]),o 62 (.bsl Zc12 2 [(0,(t 60)),(1,(t 61))]),o 63 (.build [.s (⟨#[]⟩),.e Zc12] [(0,1,(ks (⟨#[114]⟩))),(1,1,(t 62))]),o 64 (.call 499 [(ks (⟨#[120]⟩))]),o 65 (.call 499 [(ks (⟨#[122]⟩))]),o 66 (.bsl Zc12 2 [(0,(t 64)),(1,(t 65))]),o 67 (.build [.s (⟨#[]⟩),.e Zc12] [(0,1,(ks (⟨#[114]⟩))),(1,1,(t 66))]),o 68 (.bsl Zc3 2 [(0,(t 63)),(1,(t 67))]),o 69 (.build [.e (cs [.s]),.e Zc3] [(0,1,(t 59)),(1,1,(t 68))]),o 8 (.alloc [.e (cs [.s]),.e Zc3]),on (.store 2 (t 8) (t 69))])
 (.seq (.reg [o 71 (.load true 2 (t 8)),o 72 (.call 484 [(t 71)]),oM 70 72,oE 73 70 0,oE 74 70 1,o 9 (.alloc [.e (cs [.s]),.e Zc3]),on (.store 2 (t 9) (t 73)),oM 10 74])
 (.seq (.reg [o 76 (.load true 2 (t 9)),o 77 (.call 489 [(t 76)]),oM 75 77,oE 78 75 0,oE 79 75 1,oM 11 78,oM 12 79])
 (.seq (.reg [oM 80 5,o 81 (.bin .eql (t 80) (k 0)),oM 82 81,og 83 82 true (.mv (t 7)),og 84 82 true (.bin .eql (t 83) (k 0)),o 85 (.pick (t 82) (t 84) (kb false)),oM 86 85,og 87 86 true (.mv (t 10)),og 88 86 true (.bin .eql (t 87) (k 0)),o 89 (.pick (t 86) (t 88) (kb false)),oM 90 89,og 91 90 true (.mv (t 12)),og 92 90 true (.bin .eql (t 91) (k 0)),o 93 (.pick (t 90) (t 92) (kb false)),oM 13 93])
 (.seq (.reg [oM 94 13,oM 95 94,og 96 95 true (.mv (t 4)),og 97 95 true (.len (t 96)),og 98 95 true (.bin .eql (t 97) (k 2)),o 99 (.pick (t 95) (t 98) (kb false)),oM 100 99,og 101 100 true (.mv (t 4)),og 102 100 true (.iad 1 (t 101) (k 1)),og 103 100 true (.load false 1 (t 102)),og 104 100 true (.iad 3 (t 103) (k 0)),og 105 100 true (.fad 1 (t 104)),og 106 100 true (.load false 1 (t 105)),og 107 100 true (.bin .eql (t 106) (k 2)),o 108 (.pick (t 100) (t 107) (kb false)),oM 109 108,og 110 109 true (.mv (t 6)),og 111 109 true (.bsl (cs [I]) 2 [(0,(k 3)),(1,(k 1))]),og 112 109 true (.bsl Zc17 1 [(0,(t 111))]),og 113 109 true (.call 346 [(t 110),(t 112)]),o 114 (.pick (t 109) (t 113) (kb false)),oM 115 114,og 116 115 true (.mv (t 11)),og 117 115 true (.bin .eql (t 116) (ks (⟨#[40,120,41,32,58,32,114,40,120,44,32,122,41]⟩))),o 118 (.pick (t 115) (t 117) (kb false)),oM 119 118,og 120 119 true (.load true 2 (t 8)),og 121 119 true (.load true 2 (t 9)),og 122 119 true (.call 482 [(t 120),(t 121)]),o 123 (.pick (t 119) (t 122) (kb false)),oM 124 123,og 125 124 true (.load true 2 (t 9)),og 126 124 true (.load true 2 (t 8)),og 127 124 true (.call 482 [(t 125),(t 126)]),o 128 (.pick (t 124) (t 127) (kb false)),oM 0 128])
 (.fz [0] .ret))))))))))))⟩
noncomputable def YmC(lo:Lo):FnE:=⟨469,true,⟨[],[],[],(cs [])⟩,.b,[],(cs [.b]),(fun x=>q99 lo:Unit->Option Bool)⟩
noncomputable def YAX(lo:Lo):List FnE:=YmC lo::fs99 lo
theorem Yw4{P:Program}{fm:FM}{lo:Lo}(h:GZ P fm fs99 lo)(t:Ti P fm 469 Yw3):GZ P fm YAX lo:=
  h.p (YmC lo) .n t (by kernel_rfl) (by kernel_rfl) fun x=>by kernel_rfl
def q100_L3_b:VCode:=
 (.seq (.reg [o 13 (.bin .lss (t 12) (t 11))])
 (.seq (.cond (t 13) .skip
 (.exit 0))
 (.seq (.blk 1 (.seq (.reg [o 14 (.iad 3 (t 10) (t 12)),o 15 (.load true 3 (t 14)),o 4 (.alloc [.s (⟨#[]⟩),.e (cs [.s]),.e Zc18]),on (.store 3 (t 4) (t 15))])
 (.seq (.reg [oF 16 2 4,oL 17 16,oN 18 17,o 19 (.bin .gtr (t 18) (k 6)),oM 20 19,og 21 20 false (.fad 1 (t 4)),og 22 20 false (.load false 1 (t 21)),og 23 20 false (.len (t 22)),og 24 20 false (.bin .gtr (t 23) (k 20)),o 25 (.pick (t 20) (kb true) (t 24))])
 (.cond (t 25) (.seq (.reg [o 2 (.mv (kb false))])
 (.fz [2] .ret))
 .skip))))
 (.reg [o 26 (.bin .add (t 12) (k 1)),oM 12 26]))))
def YdF(lo:Lo):Zt1×Int×Int->Option ((Zt1×Int×Int)⊕ (Bool⊕Unit)):=fun x=>match x with
  | (v10,v11,v12)=>bif(decide (v12<v11))then(chk (0<=v12/\v12< (v10.length:Int)) (bif(decide ((6:Int)< (((v10.getD v12.toNat ((ByteArray.mk #[]),[],[])).2.2).length:Int)))then(some (.inr (.inl false)))else(bif(decide ((20:Int)< (((v10.getD v12.toNat ((ByteArray.mk #[]),[],[])).2.1).length:Int)))then(some (.inr (.inl false)))else(some (.inl (v10,v11,(IntKind.wrap .i64 (v12+(1:Int)))))))))else(some (.inr (.inr ())))
def YfI(lo:Lo):Zt1×Int×Int->Option (Bool⊕Unit):=lo.run (YdF lo)
def Yw5(lo:Lo):LpE:=⟨3,[],⟨[10,11,12],[.l Zc2,.i .i64,.i .i64],[],(cs [.l Zc2,I,I])⟩,[⟨.ret,⟨[2],[.b],[],(cs [.b])⟩⟩,⟨.exit 0,⟨[],[],[],(cs [])⟩⟩],YfI lo⟩
def Yw6(lo:Lo):LL:=(Yw5 lo,.loop q100_L3_b.er)::[]
theorem Yw7(lo:Lo):Lk lo pf (YAX lo) 0 (Yw6 lo):=.l .n (YdF lo) rfl (by kernel_rfl) fun x=>by kernel_rfl
def q100(lo:Lo)(db0:List (ByteArray×Zt5×Zt14)):Option Bool:=
  bif(decide ((6:Int)< (db0.length:Int)))then(some false)else(Option.bind (YfI lo (db0,(db0.length:Int),(0:Int))) fun y400=>alt2 y400 (fun y401=>some y401) (fun y402=>some true))
def Yw8:VFn:=⟨true,27,[.t 2],
 (.seq (.reg [o 1 (.box (t 0)),o 2 (.mv (kb false))])
 (.seq (.seq (.reg [oF 5 0 1,oL 6 5,oN 7 6,o 8 (.bin .gtr (t 7) (k 6))])
 (.cond (t 8) (.seq (.reg [o 2 (.mv (kb false))])
 (.fz [2] .ret))
 .skip))
 (.seq (.seq (.reg [oF 9 0 1,oL 10 9,oN 11 10,o 12 (.mv (k 0))])
 (.blk 0 (.loop 3 q100_L3_b)))
 (.seq (.reg [o 2 (.mv (kb true))])
 (.fz [2] .ret)))))⟩
def YmD(lo:Lo):FnE:=⟨470,true,⟨[0],[.ag [.l Zc2]],[],(cs [.l Zc2])⟩,.b,[],(cs [.b]),(fun x=>q100 lo x:Zt1->Option Bool)⟩
noncomputable def YAY(lo:Lo):List FnE:=YmD lo::YAX lo
theorem Yw9{P:Program}{fm:FM}{lo:Lo}(h:GZ P fm YAX lo)(t:Ti P fm 470 Yw8):GZ P fm YAY lo:=
  h.p (YmD lo) (Yw7 lo) t (by kernel_rfl) (by kernel_rfl) fun x=>by kernel_rfl
def q101_L3_b:VCode:=
 (.seq (.reg [o 19 (.bin .lss (t 18) (t 17))])
 (.seq (.cond (t 19) .skip
 (.exit 0))
 (.seq (.blk 1 (.seq (.reg [oM 20 18,o 21 (.iad 2 (t 16) (t 18)),o 22 (.load true 2 (t 21)),o 4 (.alloc [.s (⟨#[]⟩),.e Zc12]),oM 3 20,on (.store 2 (t 4) (t 22))])
 (.seq (.reg [oF 23 1 4,oL 24 23,oN 25 24,o 26 (.bin .gtr (t 25) (k 20)),oM 27 26,og 28 27 false (.mv (t 3)),og 29 27 false (.bin .gtr (t 28) (k 3)),og 30 27 false (.mv (t 29)),og 31 30 true (.fad 1 (t 4)),og 32 30 true (.load false 1 (t 31)),og 33 30 true (.len (t 32)),og 34 30 true (.bin .gtr (t 33) (k 1)),og 35 27 false (.pick (t 30) (t 34) (kb false)),o 36 (.pick (t 27) (kb true) (t 35))])
 (.cond (t 36) (.seq (.reg [o 2 (.mv (kb false))])
 (.fz [2] .ret))
 .skip))))
 (.reg [o 37 (.bin .add (t 18) (k 1)),oM 18 37]))))
def YdG(lo:Lo):Zt0×Int×Int->Option ((Zt0×Int×Int)⊕ (Bool⊕Unit)):=fun x=>match x with
  | (v16,v17,v18)=>bif(decide (v18<v17))then(chk (0<=v18/\v18< (v16.length:Int)) (bif(decide ((20:Int)< (((v16.getD v18.toNat ((ByteArray.mk #[]),[])).2).length:Int)))then(some (.inr (.inl false)))else(bif(decide ((3:Int)<v18))then(bif(decide ((1:Int)< (((v16.getD v18.toNat ((ByteArray.mk #[]),[])).2).length:Int)))then(some (.inr (.inl false)))else(some (.inl (v16,v17,(IntKind.wrap .i64 (v18+(1:Int)))))))else(some (.inl (v16,v17,(IntKind.wrap .i64 (v18+(1:Int)))))))))else(some (.inr (.inr ())))
def YfJ(lo:Lo):Zt0×Int×Int->Option (Bool⊕Unit):=lo.run (YdG lo)
def Yxa(lo:Lo):LpE:=⟨3,[],⟨[16,17,18],[.l Zc3,.i .i64,.i .i64],[],(cs [.l Zc3,I,I])⟩,[⟨.ret,⟨[2],[.b],[],(cs [.b])⟩⟩,⟨.exit 0,⟨[],[],[],(cs [])⟩⟩],YfJ lo⟩
def Yxb(lo:Lo):LL:=(Yxa lo,.loop q101_L3_b.er)::[]
theorem Yxc(lo:Lo):Lk lo pf (YAY lo) 0 (Yxb lo):=.l .n (YdG lo) rfl (by kernel_rfl) fun x=>by kernel_rfl
def q101(lo:Lo)(q0_0:List ByteArray)(q0_1:List (ByteArray×Zt7)):Option Bool:=
  bif(decide ((10:Int)< (q0_0.length:Int)))then(some false)else(bif(decide ((8:Int)< (q0_1.length:Int)))then(some false)else(Option.bind (YfJ lo (q0_1,(q0_1.length:Int),(0:Int))) fun y405=>alt2 y405 (fun y406=>some y406) (fun y407=>some true)))
def Yxd:VFn:=⟨true,38,[.t 2],
 (.seq (.reg [o 1 (.box (t 0)),o 2 (.mv (kb false))])
 (.seq (.seq (.reg [oF 5 0 1,oL 6 5,oN 7 6,o 8 (.bin .gtr (t 7) (k 10)),oM 9 8,og 10 9 false (.fad 1 (t 1)),og 11 9 false (.load false 1 (t 10)),og 12 9 false (.len (t 11)),og 13 9 false (.bin .gtr (t 12) (k 8)),o 14 (.pick (t 9) (kb true) (t 13))])
 (.cond (t 14) (.seq (.reg [o 2 (.mv (kb false))])
 (.fz [2] .ret))
 .skip))
 (.seq (.seq (.reg [oF 15 1 1,oL 16 15,oN 17 16,o 18 (.mv (k 0))])
 (.blk 0 (.loop 3 q101_L3_b)))
 (.seq (.reg [o 2 (.mv (kb true))])
 (.fz [2] .ret)))))⟩
def YmE(lo:Lo):FnE:=⟨471,true,⟨[0],[.ag [.l (cs [.s]),.l Zc3]],[],Zc27⟩,.b,[],(cs [.b]),(fun x=>q101 lo x.1 x.2:Zt5×Zt0->Option Bool)⟩
noncomputable def YBk(lo:Lo):List FnE:=YmE lo::YAY lo
theorem Yxe{P:Program}{fm:FM}{lo:Lo}(h:GZ P fm YAY lo)(t:Ti P fm 471 Yxd):GZ P fm YBk lo:=
  h.p (YmE lo) (Yxc lo) t (by kernel_rfl) (by kernel_rfl) fun x=>by kernel_rfl
def q102(lo:Lo)(c0:Int):Option Bool:=
  bif(decide ((97:Int)<=c0))then(bif(decide (c0<=(122:Int)))then(some true)else(bif(decide ((65:Int)<=c0))then(bif(decide (c0<=(90:Int)))then(some true)else(some (decide (c0=(95:Int)))))else(some (decide (c0=(95:Int))))))else(bif(decide ((65:Int)<=c0))then(bif(decide (c0<=(90:Int)))then(some true)else(some (decide (c0=(95:Int)))))else(some (decide (c0=(95:Int)))))
def Yxf:VFn:=⟨true,21,[.t 2],
 (.seq (.reg [o 2 (.mv (kb false))])
 (.seq (.reg [oM 3 0,o 4 (.bin .geq (t 3) (ki .u8 97)),oM 5 4,og 6 5 true (.mv (t 0)),og 7 5 true (.bin .leq (t 6) (ki .u8 122)),o 8 (.pick (t 5) (t 7) (kb false)),oM 9 8,og 10 9 false (.mv (t 0)),og 11 9 false (.bin .geq (t 10) (ki .u8 65)),og 12 9 false (.mv (t 11)),og 13 12 true (.mv (t 0)),og 14 12 true (.bin .leq (t 13) (ki .u8 90)),og 15 9 false (.pick (t 12) (t 14) (kb false)),o 16 (.pick (t 9) (kb true) (t 15)),oM 17 16,og 18 17 false (.mv (t 0)),og 19 17 false (.bin .eql (t 18) (ki .u8 95)),o 20 (.pick (t 17) (kb true) (t 19)),oM 2 20])
 (.fz [2] .ret)))⟩
def YmF(lo:Lo):FnE:=⟨295,true,⟨[0],[.i .u8],[],Zc39⟩,.b,[],(cs [.b]),(fun x=>q102 lo x:Int->Option Bool)⟩
noncomputable def YAZ(lo:Lo):List FnE:=YmF lo::YBk lo
theorem Yxg{P:Program}{fm:FM}{lo:Lo}(h:GZ P fm YBk lo)(t:Ti P fm 295 Yxf):GZ P fm YAZ lo:=
  h.p (YmF lo) .n t (by kernel_rfl) (by kernel_rfl) fun x=>by kernel_rfl
def q103_L3_b:VCode:=
 (.seq (.seq (.reg [oM 22 3,oM 23 0,o 24 (.lenS (t 23)),o 25 (.bin .lss (t 22) (t 24))])
 (.cond (t 25) .skip
 (.exit 0)))
 (.seq (.blk 1 (.seq (.reg [oM 28 0,oM 29 3,o 30 (.idx (t 28) (t 29)),o 31 (.call 295 [(t 30)]),o 32 (.not (t 31)),oM 33 32,og 34 33 true (.mv (t 0)),og 35 33 true (.mv (t 3)),og 36 33 true (.idx (t 34) (t 35)),og 37 33 true (.bin .lss (t 36) (ki .u8 48)),og 38 33 true (.mv (t 37)),og 39 38 false (.mv (t 0)),og 40 38 false (.mv (t 3)),og 41 38 false (.idx (t 39) (t 40)),og 42 38 false (.bin .gtr (t 41) (ki .u8 57)),og 43 33 true (.pick (t 38) (kb true) (t 42)),o 44 (.pick (t 33) (t 43) (kb false))])
 (.cond (t 44) (.seq (.reg [o 2 (.mv (kb false))])
 (.fz [2] .ret))
 .skip)))
 (.reg [oM 26 3,o 27 (.bin .add (t 26) (k 1)),oM 3 27])))
def YdH(lo:Lo):ByteArray×Int->Option ((ByteArray×Int)⊕ (Bool⊕Unit)):=fun x=>match x with
  | (s0,i3)=>bif(decide (i3< (s0.size:Int)))then(chk (0<=i3/\i3< (s0.size:Int)) (Option.bind (q102 lo (YyL s0 i3)) fun y412=>bif(!y412)then(chk (0<=i3/\i3< (s0.size:Int)) (bif(decide ((YyL s0 i3)< (48:Int)))then(some (.inr (.inl false)))else(chk (0<=i3/\i3< (s0.size:Int)) (bif(decide ((57:Int)< (YyL s0 i3)))then(some (.inr (.inl false)))else(some (.inl (s0,(IntKind.wrap .i64 (i3+(1:Int))))))))))else(some (.inl (s0,(IntKind.wrap .i64 (i3+(1:Int))))))))else(some (.inr (.inr ())))
def YfK(lo:Lo):ByteArray×Int->Option (Bool⊕Unit):=lo.run (YdH lo)
def Yxh(lo:Lo):LpE:=⟨3,[],⟨[0,3],[.s,.i .i64],[],(cs [.s,I])⟩,[⟨.ret,⟨[2],[.b],[],(cs [.b])⟩⟩,⟨.exit 0,⟨[],[],[],(cs [])⟩⟩],YfK lo⟩
def Yxi(lo:Lo):LL:=(Yxh lo,.loop q103_L3_b.er)::[]
theorem Yxj(lo:Lo):Lk lo pf (YAZ lo) 0 (Yxi lo):=.l .n (YdH lo) rfl (by kernel_rfl) fun x=>by kernel_rfl
def q103(lo:Lo)(s0:ByteArray):Option Bool:=
  bif(decide ((s0.size:Int)=(0:Int)))then(some false)else(bif(decide ((24:Int)< (s0.size:Int)))then(some false)else(chk (0<=(0:Int)/\ (0:Int)< (s0.size:Int)) (Option.bind (q102 lo (YyL s0 (0:Int))) fun y411=>bif(!y411)then(some false)else(bif(decide (s0=(ByteArray.mk #[110,117,108,108])))then(some false)else(Option.bind (YfK lo (s0,(0:Int))) fun y413=>alt2 y413 (fun y414=>some y414) (fun y415=>some true))))))
def Yxk:VFn:=⟨true,45,[.t 2],
 (.seq (.reg [o 2 (.mv (kb false))])
 (.seq (.seq (.reg [oM 4 0,o 5 (.lenS (t 4)),o 6 (.bin .eql (t 5) (k 0)),oM 7 6,og 8 7 false (.mv (t 0)),og 9 7 false (.lenS (t 8)),og 10 7 false (.bin .gtr (t 9) (k 24)),o 11 (.pick (t 7) (kb true) (t 10)),oM 12 11,og 13 12 false (.mv (t 0)),og 14 12 false (.idx (t 13) (k 0)),og 15 12 false (.call 295 [(t 14)]),og 16 12 false (.not (t 15)),o 17 (.pick (t 12) (kb true) (t 16)),oM 18 17,og 19 18 false (.mv (t 0)),og 20 18 false (.bin .eql (t 19) (ks (⟨#[110,117,108,108]⟩))),o 21 (.pick (t 18) (kb true) (t 20))])
 (.cond (t 21) (.seq (.reg [o 2 (.mv (kb false))])
 (.fz [2] .ret))
 .skip))
 (.seq (.seq (.reg [o 3 (.mv (k 0))])
 (.blk 0 (.loop 3 q103_L3_b)))
 (.seq (.reg [o 2 (.mv (kb true))])
 (.fz [2] .ret)))))⟩
def YmG(lo:Lo):FnE:=⟨258,true,⟨[0],[.s],[],(cs [.s])⟩,.b,[],(cs [.b]),(fun x=>q103 lo x:ByteArray->Option Bool)⟩
noncomputable def YA0(lo:Lo):List FnE:=YmG lo::YAZ lo
theorem Yxl{P:Program}{fm:FM}{lo:Lo}(h:GZ P fm YAZ lo)(t:Ti P fm 258 Yxk):GZ P fm YA0 lo:=
  h.p (YmG lo) (Yxj lo) t (by kernel_rfl) (by kernel_rfl) fun x=>by kernel_rfl
def q104_L3_b:VCode:=
 (.seq (.seq (.reg [oM 6 5,oM 7 0,oN 8 7,o 9 (.bin .lss (t 6) (t 8))])
 (.cond (t 9) .skip
 (.exit 0)))
 (.seq (.blk 1 (.seq (.reg [oM 12 0,oM 13 5,o 14 (.iad 1 (t 12) (t 13)),oL 15 14,oM 16 1,o 17 (.bin .eql (t 15) (t 16))])
 (.cond (t 17) (.seq (.reg [oM 18 5,oM 4 18])
 (.fz [4] .ret))
 .skip)))
 (.reg [oM 10 5,o 11 (.bin .add (t 10) (k 1)),oM 5 11])))
def YdI(lo:Lo):Zt5×ByteArray×Int->Option ((Zt5×ByteArray×Int)⊕ (Int⊕Unit)):=fun x=>match x with
  | (l0,name1,i5)=>bif(decide (i5< (l0.length:Int)))then(chk (0<=i5/\i5< (l0.length:Int)) (bif(decide ((l0.getD i5.toNat (ByteArray.mk #[]))=name1))then(some (.inr (.inl i5)))else(some (.inl (l0,name1,(IntKind.wrap .i64 (i5+(1:Int))))))))else(some (.inr (.inr ())))
def YfL(lo:Lo):Zt5×ByteArray×Int->Option (Int⊕Unit):=lo.run (YdI lo)
def Yxm(lo:Lo):LpE:=⟨3,[],⟨[0,1,5],[.l (cs [.s]),.s,.i .i64],[],(cs [.l (cs [.s]),.s,I])⟩,[⟨.ret,⟨[4],[.i .i64],[],(cs [I])⟩⟩,⟨.exit 0,⟨[],[],[],(cs [])⟩⟩],YfL lo⟩
def Yxn(lo:Lo):LL:=(Yxm lo,.loop q104_L3_b.er)::[]
theorem Yxo(lo:Lo):Lk lo pf (YA0 lo) 0 (Yxn lo):=.l .n (YdI lo) rfl (by kernel_rfl) fun x=>by kernel_rfl
def q104(lo:Lo)(l0:List ByteArray)(name1:ByteArray):Option Int:=
  Option.bind (YfL lo (l0,name1,(0:Int))) fun y418=>alt2 y418 (fun y419=>some y419) (fun y420=>some (-1:Int))
def Yxp:VFn:=⟨true,19,[.t 4],
 (.seq (.reg [o 4 (.mv (k 0))])
 (.seq (.seq (.reg [o 5 (.mv (k 0))])
 (.blk 0 (.loop 3 q104_L3_b)))
 (.seq (.reg [o 4 (.mv (k (-1)))])
 (.fz [4] .ret))))⟩
def YmH(lo:Lo):FnE:=⟨272,true,⟨[0,1],[.l (cs [.s]),.s],[],(cs [.l (cs [.s]),.s])⟩,.i .i64,[],(cs [I]),(fun x=>q104 lo x.1 x.2:Zt5×ByteArray->Option Int)⟩
noncomputable def YA1(lo:Lo):List FnE:=YmH lo::YA0 lo
theorem Yxq{P:Program}{fm:FM}{lo:Lo}(h:GZ P fm YA0 lo)(t:Ti P fm 272 Yxp):GZ P fm YA1 lo:=
  h.p (YmH lo) (Yxo lo) t (by kernel_rfl) (by kernel_rfl) fun x=>by kernel_rfl
def q105_L3_b:VCode:=
 (.seq (.seq (.reg [oM 4 3,oM 5 0,oN 6 5,o 7 (.bin .lss (t 4) (t 6))])
 (.cond (t 7) .skip
 (.exit 0)))
 (.seq (.blk 1 (.seq (.reg [oM 10 0,oM 11 3,o 12 (.iad 1 (t 10) (t 11)),oL 13 12,o 14 (.call 258 [(t 13)]),o 15 (.not (t 14)),oM 16 15,og 17 16 false (.mv (t 0)),og 18 16 false (.mv (t 3)),og 19 16 false (.slcR 1 (t 17) none (some (t 18))),og 20 16 false (.mv (t 0)),og 21 16 false (.mv (t 3)),og 22 16 false (.iad 1 (t 20) (t 21)),og 23 16 false (.load false 1 (t 22)),og 24 16 false (.call 272 [(t 19),(t 23)]),og 25 16 false (.bin .geq (t 24) (k 0)),o 26 (.pick (t 16) (kb true) (t 25))])
 (.cond (t 26) (.seq (.reg [o 2 (.mv (kb false))])
 (.fz [2] .ret))
 .skip)))
 (.reg [oM 8 3,o 9 (.bin .add (t 8) (k 1)),oM 3 9])))
def YdJ(lo:Lo):Zt5×Int->Option ((Zt5×Int)⊕ (Bool⊕Unit)):=fun x=>match x with
  | (l0,i3)=>bif(decide (i3< (l0.length:Int)))then(chk (0<=i3/\i3< (l0.length:Int)) (Option.bind (q103 lo (l0.getD i3.toNat (ByteArray.mk #[]))) fun y417=>bif(!y417)then(some (.inr (.inl false)))else(chk (0<=(0:Int)/\ (0:Int)<=i3/\i3<=(l0.length:Int)) (chk (0<=i3/\i3< (l0.length:Int)) (Option.bind (q104 lo ((l0.take i3.toNat).drop 0) (l0.getD i3.toNat (ByteArray.mk #[]))) fun y421=>bif(decide ((0:Int)<=y421))then(some (.inr (.inl false)))else(some (.inl (l0,(IntKind.wrap .i64 (i3+(1:Int)))))))))))else(some (.inr (.inr ())))
def YfM(lo:Lo):Zt5×Int->Option (Bool⊕Unit):=lo.run (YdJ lo)
def Yxr(lo:Lo):LpE:=⟨3,[],⟨[0,3],[.l (cs [.s]),.i .i64],[],(cs [.l (cs [.s]),I])⟩,[⟨.ret,⟨[2],[.b],[],(cs [.b])⟩⟩,⟨.exit 0,⟨[],[],[],(cs [])⟩⟩],YfM lo⟩
def Yxs(lo:Lo):LL:=(Yxr lo,.loop q105_L3_b.er)::[]
theorem Yxt(lo:Lo):Lk lo pf (YA1 lo) 0 (Yxs lo):=.l .n (YdJ lo) rfl (by kernel_rfl) fun x=>by kernel_rfl
def q105(lo:Lo)(l0:List ByteArray):Option Bool:=
  Option.bind (YfM lo (l0,(0:Int))) fun y422=>alt2 y422 (fun y423=>some y423) (fun y424=>some true)
def Yxu:VFn:=⟨true,27,[.t 2],
 (.seq (.reg [o 2 (.mv (kb false))])
 (.seq (.seq (.reg [o 3 (.mv (k 0))])
 (.blk 0 (.loop 3 q105_L3_b)))
 (.seq (.reg [o 2 (.mv (kb true))])
 (.fz [2] .ret))))⟩
def YmI(lo:Lo):FnE:=⟨259,true,⟨[0],[.l (cs [.s])],[],Zc23⟩,.b,[],(cs [.b]),(fun x=>q105 lo x:Zt5->Option Bool)⟩
noncomputable def YBl(lo:Lo):List FnE:=YmI lo::YA1 lo
theorem Yxv{P:Program}{fm:FM}{lo:Lo}(h:GZ P fm YA1 lo)(t:Ti P fm 259 Yxu):GZ P fm YBl lo:=
  h.p (YmI lo) (Yxt lo) t (by kernel_rfl) (by kernel_rfl) fun x=>by kernel_rfl
def q106(lo:Lo)(v0_0:Int)(v0_1:Int)(v0_2:ByteArray):Option Bool:=
  bif(decide (v0_0=(0:Int)))then(bif(decide (v0_1=(0:Int)))then(some (decide (v0_2=(ByteArray.mk #[]))))else(some false))else(bif(decide (v0_0=(1:Int)))then(some (decide (v0_2=(ByteArray.mk #[]))))else(bif(decide (v0_0=(2:Int)))then(bif(decide (v0_1=(0:Int)))then(some (decide ((v0_2.size:Int)<=(200:Int))))else(some false))else(bif(decide (v0_0=(3:Int)))then(bif(decide ((1:Int)<=v0_1))then(some (decide (v0_2=(ByteArray.mk #[]))))else(some false))else(some false))))
def Yxw:VFn:=⟨true,44,[.t 2],
 (.seq (.reg [o 1 (.box (t 0)),o 2 (.mv (kb false))])
 (.seq (.seq (.reg [oF 3 0 1,oL 4 3])
 (.blk 0 (.seq (.reg [o 6 (.bin .eql (t 4) (k 0)),oM 5 6])
 (.cond (t 5) (.seq (.reg [oF 7 1 1,oL 8 7,o 9 (.bin .eql (t 8) (k 0)),oM 10 9,og 11 10 true (.fad 2 (t 1)),og 12 10 true (.load false 1 (t 11)),og 13 10 true (.bin .eql (t 12) (ks (⟨#[]⟩))),o 14 (.pick (t 10) (t 13) (kb false)),oM 2 14])
 (.fz [2] .ret))
 (.seq (.reg [o 16 (.bin .eql (t 4) (k 1)),oM 15 16])
 (.cond (t 15) (.seq (.reg [oF 17 2 1,oL 18 17,o 19 (.bin .eql (t 18) (ks (⟨#[]⟩))),oM 2 19])
 (.fz [2] .ret))
 (.seq (.reg [o 21 (.bin .eql (t 4) (k 2)),oM 20 21])
 (.cond (t 20) (.seq (.reg [oF 22 1 1,oL 23 22,o 24 (.bin .eql (t 23) (k 0)),oM 25 24,og 26 25 true (.fad 2 (t 1)),og 27 25 true (.load false 1 (t 26)),og 28 25 true (.lenS (t 27)),og 29 25 true (.bin .leq (t 28) (k 200)),o 30 (.pick (t 25) (t 29) (kb false)),oM 2 30])
 (.fz [2] .ret))
 .skip))))))))
 (.seq (.reg [oF 31 0 1,oL 32 31,o 33 (.bin .eql (t 32) (k 3)),oM 34 33,og 35 34 true (.fad 1 (t 1)),og 36 34 true (.load false 1 (t 35)),og 37 34 true (.bin .geq (t 36) (k 1)),o 38 (.pick (t 34) (t 37) (kb false)),oM 39 38,og 40 39 true (.fad 2 (t 1)),og 41 39 true (.load false 1 (t 40)),og 42 39 true (.bin .eql (t 41) (ks (⟨#[]⟩))),o 43 (.pick (t 39) (t 42) (kb false)),oM 2 43])
 (.fz [2] .ret))))⟩
def YmJ(lo:Lo):FnE:=⟨284,true,⟨[0],[.ag [.i .i64,.i .i64,.s]],[],Zc9⟩,.b,[],(cs [.b]),(fun x=>q106 lo x.1 x.2.1 x.2.2:Int×Int×ByteArray->Option Bool)⟩
noncomputable def YA2(lo:Lo):List FnE:=YmJ lo::YBl lo
theorem Yxx{P:Program}{fm:FM}{lo:Lo}(h:GZ P fm YBl lo)(t:Ti P fm 284 Yxw):GZ P fm YA2 lo:=
  h.p (YmJ lo) .n t (by kernel_rfl) (by kernel_rfl) fun x=>by kernel_rfl
def q107_L3_b:VCode:=
 (.seq (.seq (.reg [oM 4 3,oM 5 0,oN 6 5,o 7 (.bin .lss (t 4) (t 6))])
 (.cond (t 7) .skip
 (.exit 0)))
 (.seq (.blk 1 (.seq (.reg [oM 10 0,oM 11 3,o 12 (.iad 3 (t 10) (t 11)),o 13 (.load true 3 (t 12)),o 14 (.call 284 [(t 13)]),o 15 (.not (t 14))])
 (.cond (t 15) (.seq (.reg [o 2 (.mv (kb false))])
 (.fz [2] .ret))
 .skip)))
 (.reg [oM 8 3,o 9 (.bin .add (t 8) (k 1)),oM 3 9])))
def YdK(lo:Lo):Zt6×Int->Option ((Zt6×Int)⊕ (Bool⊕Unit)):=fun x=>match x with
  | (l0,i3)=>bif(decide (i3< (l0.length:Int)))then(chk (0<=i3/\i3< (l0.length:Int)) (Option.bind (q106 lo ((l0.getD i3.toNat ((0:Int),(0:Int),(ByteArray.mk #[]))).1) ((l0.getD i3.toNat ((0:Int),(0:Int),(ByteArray.mk #[]))).2.1) ((l0.getD i3.toNat ((0:Int),(0:Int),(ByteArray.mk #[]))).2.2)) fun y426=>bif(!y426)then(some (.inr (.inl false)))else(some (.inl (l0,(IntKind.wrap .i64 (i3+(1:Int))))))))else(some (.inr (.inr ())))
def YfN(lo:Lo):Zt6×Int->Option (Bool⊕Unit):=lo.run (YdK lo)
def Yxy(lo:Lo):LpE:=⟨3,[],⟨[0,3],[.l Zc9,.i .i64],[],(cs [.l Zc9,I])⟩,[⟨.ret,⟨[2],[.b],[],(cs [.b])⟩⟩,⟨.exit 0,⟨[],[],[],(cs [])⟩⟩],YfN lo⟩
def Yxz(lo:Lo):LL:=(Yxy lo,.loop q107_L3_b.er)::[]
theorem YxA(lo:Lo):Lk lo pf (YA2 lo) 0 (Yxz lo):=.l .n (YdK lo) rfl (by kernel_rfl) fun x=>by kernel_rfl
def q107(lo:Lo)(l0:List (Int×Int×ByteArray)):Option Bool:=
  Option.bind (YfN lo (l0,(0:Int))) fun y427=>alt2 y427 (fun y428=>some y428) (fun y429=>some true)
def YxB:VFn:=⟨true,16,[.t 2],
 (.seq (.reg [o 2 (.mv (kb false))])
 (.seq (.seq (.reg [o 3 (.mv (k 0))])
 (.blk 0 (.loop 3 q107_L3_b)))
 (.seq (.reg [o 2 (.mv (kb true))])
 (.fz [2] .ret))))⟩
def YmK(lo:Lo):FnE:=⟨260,true,⟨[0],[.l Zc9],[],Zc31⟩,.b,[],(cs [.b]),(fun x=>q107 lo x:Zt6->Option Bool)⟩
noncomputable def YA3(lo:Lo):List FnE:=YmK lo::YA2 lo
theorem YxC{P:Program}{fm:FM}{lo:Lo}(h:GZ P fm YA2 lo)(t:Ti P fm 260 YxB):GZ P fm YA3 lo:=
  h.p (YmK lo) (YxA lo) t (by kernel_rfl) (by kernel_rfl) fun x=>by kernel_rfl
def q108_L3_b:VCode:=
 (.seq (.seq (.reg [oM 24 4,oF 25 2 1,oL 26 25,oN 27 26,o 28 (.bin .lss (t 24) (t 27))])
 (.cond (t 28) .skip
 (.exit 0)))
 (.seq (.blk 1 (.seq (.reg [oF 31 2 1,oL 32 31,oM 33 4,o 34 (.iad 2 (t 32) (t 33)),o 35 (.load true 2 (t 34)),o 5 (.alloc [.i .i64 0,.e Zc9]),on (.store 2 (t 5) (t 35))])
 (.seq (.seq (.reg [oF 36 0 5,oL 37 36,oM 38 3,o 39 (.bin .leq (t 37) (t 38))])
 (.cond (t 39) (.seq (.reg [o 2 (.mv (k 1))])
 (.fz [2] .ret))
 .skip))
 (.seq (.reg [oF 40 0 5,oL 41 40,oM 3 41])
 (.seq (.seq (.reg [oF 42 1 5,oL 43 42,oN 44 43,oF 45 1 1,oL 46 45,oN 47 46,o 48 (.bin .neq (t 44) (t 47))])
 (.cond (t 48) (.seq (.reg [o 2 (.mv (k 6))])
 (.fz [2] .ret))
 .skip))
 (.seq (.reg [oF 49 1 5,oL 50 49,o 51 (.call 260 [(t 50)]),o 52 (.not (t 51))])
 (.cond (t 52) (.seq (.reg [o 2 (.mv (k 1))])
 (.fz [2] .ret))
 .skip)))))))
 (.reg [oM 29 4,o 30 (.bin .add (t 29) (k 1)),oM 4 30])))
def YdL(lo:Lo):Int×Int×ByteArray×Zt5×Zt14->Option ((Int×Int×ByteArray×Zt5×Zt14)⊕ (Int⊕Unit)):=fun x=>match x with
  | (before3,i4,t1_0,t1_1,t1_2)=>bif(decide (i4< (t1_2.length:Int)))then(chk (0<=i4/\i4< (t1_2.length:Int)) (bif(decide ((t1_2.getD i4.toNat ((0:Int),[])).1<=before3))then(some (.inr (.inl (1:Int))))else(bif(!decide ((((t1_2.getD i4.toNat ((0:Int),[])).2).length:Int)=(t1_1.length:Int)))then(some (.inr (.inl (6:Int))))else(Option.bind (q107 lo ((t1_2.getD i4.toNat ((0:Int),[])).2)) fun y430=>bif(!y430)then(some (.inr (.inl (1:Int))))else(some (.inl ((t1_2.getD i4.toNat ((0:Int),[])).1,(IntKind.wrap .i64 (i4+(1:Int))),t1_0,t1_1,t1_2)))))))else(some (.inr (.inr ())))
def YfO(lo:Lo):Int×Int×ByteArray×Zt5×Zt14->Option (Int⊕Unit):=lo.run (YdL lo)
def YxD(lo:Lo):LpE:=⟨3,[],⟨[1,3,4],[.ptr 0 0 0,.i .i64,.i .i64],[.st [.s,.l (cs [.s]),.l Zc18]],(cs [I,I,.s,.l (cs [.s]),.l Zc18])⟩,[⟨.ret,⟨[2],[.i .i64],[],(cs [I])⟩⟩,⟨.exit 0,⟨[],[],[],(cs [])⟩⟩],YfO lo⟩
def YxE(lo:Lo):LL:=(YxD lo,.loop q108_L3_b.er)::[]
theorem YxF(lo:Lo):Lk lo pf (YA3 lo) 0 (YxE lo):=.l .n (YdL lo) rfl (by kernel_rfl) fun x=>by kernel_rfl
def q108(lo:Lo)(t0_0:ByteArray)(t0_1:List ByteArray)(t0_2:List (Int×Zt6)):Option Int:=
  Option.bind (q103 lo t0_0) fun y416=>bif(!y416)then(some (1:Int))else(bif(decide ((16:Int)< (t0_1.length:Int)))then(some (3:Int))else(bif(decide ((1000:Int)< (t0_2.length:Int)))then(some (3:Int))else(Option.bind (q105 lo t0_1) fun y425=>bif(!y425)then(some (1:Int))else(Option.bind (YfO lo ((0:Int),(0:Int),t0_0,t0_1,t0_2)) fun y431=>alt2 y431 (fun y432=>some y432) (fun y433=>some (0:Int))))))
def YxG:VFn:=⟨true,53,[.t 2],
 (.seq (.reg [o 1 (.box (t 0)),o 2 (.mv (k 0))])
 (.seq (.seq (.reg [oF 6 0 1,oL 7 6,o 8 (.call 258 [(t 7)]),o 9 (.not (t 8))])
 (.cond (t 9) (.seq (.reg [o 2 (.mv (k 1))])
 (.fz [2] .ret))
 .skip))
 (.seq (.seq (.reg [oF 10 1 1,oL 11 10,oN 12 11,o 13 (.bin .gtr (t 12) (k 16)),oM 14 13,og 15 14 false (.fad 2 (t 1)),og 16 14 false (.load false 1 (t 15)),og 17 14 false (.len (t 16)),og 18 14 false (.bin .gtr (t 17) (k 1000)),o 19 (.pick (t 14) (kb true) (t 18))])
 (.cond (t 19) (.seq (.reg [o 2 (.mv (k 3))])
 (.fz [2] .ret))
 .skip))
 (.seq (.seq (.reg [oF 20 1 1,oL 21 20,o 22 (.call 259 [(t 21)]),o 23 (.not (t 22))])
 (.cond (t 23) (.seq (.reg [o 2 (.mv (k 1))])
 (.fz [2] .ret))
 .skip))
 (.seq (.reg [o 3 (.mv (k 0))])
 (.seq (.seq (.reg [o 4 (.mv (k 0))])
 (.blk 0 (.loop 3 q108_L3_b)))
 (.seq (.reg [o 2 (.mv (k 0))])
 (.fz [2] .ret))))))))⟩
def YmL(lo:Lo):FnE:=⟨231,true,⟨[0],[.ag [.s,.l (cs [.s]),.l Zc18]],[],Zc2⟩,.i .i64,[],(cs [I]),(fun x=>q108 lo x.1 x.2.1 x.2.2:ByteArray×Zt5×Zt14->Option Int)⟩
noncomputable def YA4(lo:Lo):List FnE:=YmL lo::YA3 lo
theorem YxH{P:Program}{fm:FM}{lo:Lo}(h:GZ P fm YA3 lo)(t:Ti P fm 231 YxG):GZ P fm YA4 lo:=
  h.p (YmL lo) (YxF lo) t (by kernel_rfl) (by kernel_rfl) fun x=>by kernel_rfl
def q109_L3_b:VCode:=
 (.seq (.seq (.reg [oM 6 5,oM 7 0,oN 8 7,o 9 (.bin .lss (t 6) (t 8))])
 (.cond (t 9) .skip
 (.exit 0)))
 (.seq (.blk 1 (.seq (.reg [oM 12 0,oM 13 5,o 14 (.iad 3 (t 12) (t 13)),oF 15 0 14,oL 16 15,oM 17 1,o 18 (.bin .eql (t 16) (t 17))])
 (.cond (t 18) (.seq (.reg [oM 19 5,oM 4 19])
 (.fz [4] .ret))
 .skip)))
 (.reg [oM 10 5,o 11 (.bin .add (t 10) (k 1)),oM 5 11])))
def YdM(lo:Lo):Zt1×ByteArray×Int->Option ((Zt1×ByteArray×Int)⊕ (Int⊕Unit)):=fun x=>match x with
  | (l0,name1,i5)=>bif(decide (i5< (l0.length:Int)))then(chk (0<=i5/\i5< (l0.length:Int)) (bif(decide ((l0.getD i5.toNat ((ByteArray.mk #[]),[],[])).1=name1))then(some (.inr (.inl i5)))else(some (.inl (l0,name1,(IntKind.wrap .i64 (i5+(1:Int))))))))else(some (.inr (.inr ())))
def YfP(lo:Lo):Zt1×ByteArray×Int->Option (Int⊕Unit):=lo.run (YdM lo)
def YxI(lo:Lo):LpE:=⟨3,[],⟨[0,1,5],[.l Zc2,.s,.i .i64],[],(cs [.l Zc2,.s,I])⟩,[⟨.ret,⟨[4],[.i .i64],[],(cs [I])⟩⟩,⟨.exit 0,⟨[],[],[],(cs [])⟩⟩],YfP lo⟩
def YxJ(lo:Lo):LL:=(YxI lo,.loop q109_L3_b.er)::[]
theorem YxK(lo:Lo):Lk lo pf (YA4 lo) 0 (YxJ lo):=.l .n (YdM lo) rfl (by kernel_rfl) fun x=>by kernel_rfl
def q109(lo:Lo)(l0:List (ByteArray×Zt5×Zt14))(name1:ByteArray):Option Int:=
  Option.bind (YfP lo (l0,name1,(0:Int))) fun y435=>alt2 y435 (fun y436=>some y436) (fun y437=>some (-1:Int))
def YxL:VFn:=⟨true,20,[.t 4],
 (.seq (.reg [o 4 (.mv (k 0))])
 (.seq (.seq (.reg [o 5 (.mv (k 0))])
 (.blk 0 (.loop 3 q109_L3_b)))
 (.seq (.reg [o 4 (.mv (k (-1)))])
 (.fz [4] .ret))))⟩
def YmM(lo:Lo):FnE:=⟨507,true,⟨[0,1],[.l Zc2,.s],[],(cs [.l Zc2,.s])⟩,.i .i64,[],(cs [I]),(fun x=>q109 lo x.1 x.2:Zt1×ByteArray->Option Int)⟩
noncomputable def YA5(lo:Lo):List FnE:=YmM lo::YA4 lo
theorem YxM{P:Program}{fm:FM}{lo:Lo}(h:GZ P fm YA4 lo)(t:Ti P fm 507 YxL):GZ P fm YA5 lo:=
  h.p (YmM lo) (YxK lo) t (by kernel_rfl) (by kernel_rfl) fun x=>by kernel_rfl
def q110_L3_b:VCode:=
 (.seq (.seq (.reg [oM 9 3,oF 10 0 1,oL 11 10,oN 12 11,o 13 (.bin .lss (t 9) (t 12))])
 (.cond (t 13) .skip
 (.exit 0)))
 (.seq (.blk 1 (.seq (.seq (.reg [oF 16 0 1,oL 17 16,oM 18 3,o 19 (.iad 3 (t 17) (t 18)),o 20 (.load true 3 (t 19)),o 21 (.call 231 [(t 20)]),oM 4 21])
 (.seq (.reg [oM 22 4,o 23 (.bin .neq (t 22) (k 0))])
 (.cond (t 23) (.seq (.reg [oM 24 4,oM 2 24])
 (.fz [2] .ret))
 .skip)))
 (.seq (.reg [oF 25 0 1,oL 26 25,oM 27 3,o 28 (.slcR 3 (t 26) none (some (t 27))),oF 29 0 1,oL 30 29,oM 31 3,o 32 (.iad 3 (t 30) (t 31)),oF 33 0 32,oL 34 33,o 35 (.call 507 [(t 28),(t 34)]),o 36 (.bin .geq (t 35) (k 0))])
 (.cond (t 36) (.seq (.reg [o 2 (.mv (k 5))])
 (.fz [2] .ret))
 .skip))))
 (.reg [oM 14 3,o 15 (.bin .add (t 14) (k 1)),oM 3 15])))
def YdN(lo:Lo):Int×Zt1->Option ((Int×Zt1)⊕ (Int⊕Unit)):=fun x=>match x with
  | (i3,db1)=>bif(decide (i3< (db1.length:Int)))then(chk (0<=i3/\i3< (db1.length:Int)) (Option.bind (q108 lo ((db1.getD i3.toNat ((ByteArray.mk #[]),[],[])).1) ((db1.getD i3.toNat ((ByteArray.mk #[]),[],[])).2.1) ((db1.getD i3.toNat ((ByteArray.mk #[]),[],[])).2.2)) fun y434=>bif(!decide (y434=(0:Int)))then(some (.inr (.inl y434)))else(chk (0<=(0:Int)/\ (0:Int)<=i3/\i3<=(db1.length:Int)) (chk (0<=i3/\i3< (db1.length:Int)) (Option.bind (q109 lo ((db1.take i3.toNat).drop 0) ((db1.getD i3.toNat ((ByteArray.mk #[]),[],[])).1)) fun y438=>bif(decide ((0:Int)<=y438))then(some (.inr (.inl (5:Int))))else(some (.inl ((IntKind.wrap .i64 (i3+(1:Int))),db1))))))))else(some (.inr (.inr ())))
def YfQ(lo:Lo):Int×Zt1->Option (Int⊕Unit):=lo.run (YdN lo)
def YxN(lo:Lo):LpE:=⟨3,[],⟨[1,3],[.ptr 0 0 0,.i .i64],[.st [.l Zc2]],(cs [I,.l Zc2])⟩,[⟨.ret,⟨[2],[.i .i64],[],(cs [I])⟩⟩,⟨.exit 0,⟨[],[],[],(cs [])⟩⟩],YfQ lo⟩
def YxO(lo:Lo):LL:=(YxN lo,.loop q110_L3_b.er)::[]
theorem YxP(lo:Lo):Lk lo pf (YA5 lo) 0 (YxO lo):=.l .n (YdN lo) rfl (by kernel_rfl) fun x=>by kernel_rfl
def q110(lo:Lo)(db0:List (ByteArray×Zt5×Zt14)):Option Int:=
  bif(decide ((50:Int)< (db0.length:Int)))then(some (3:Int))else(Option.bind (YfQ lo ((0:Int),db0)) fun y439=>alt2 y439 (fun y440=>some y440) (fun y441=>some (0:Int)))
def YxQ:VFn:=⟨true,37,[.t 2],
 (.seq (.reg [o 1 (.box (t 0)),o 2 (.mv (k 0))])
 (.seq (.seq (.reg [oF 5 0 1,oL 6 5,oN 7 6,o 8 (.bin .gtr (t 7) (k 50))])
 (.cond (t 8) (.seq (.reg [o 2 (.mv (k 3))])
 (.fz [2] .ret))
 .skip))
 (.seq (.seq (.reg [o 3 (.mv (k 0))])
 (.blk 0 (.loop 3 q110_L3_b)))
 (.seq (.reg [o 2 (.mv (k 0))])
 (.fz [2] .ret)))))⟩
def YmN(lo:Lo):FnE:=⟨506,true,⟨[0],[.ag [.l Zc2]],[],(cs [.l Zc2])⟩,.i .i64,[],(cs [I]),(fun x=>q110 lo x:Zt1->Option Int)⟩
noncomputable def YBm(lo:Lo):List FnE:=YmN lo::YA5 lo
theorem YxR{P:Program}{fm:FM}{lo:Lo}(h:GZ P fm YA5 lo)(t:Ti P fm 506 YxQ):GZ P fm YBm lo:=
  h.p (YmN lo) (YxP lo) t (by kernel_rfl) (by kernel_rfl) fun x=>by kernel_rfl
def q111(lo:Lo)(t0_0:ByteArray)(t0_1:Int)(t0_2:Int)(t0_3:ByteArray):Option Bool:=
  bif(!decide (t0_0=(ByteArray.mk #[])))then(Option.bind (q103 lo t0_0) fun y444=>bif y444 then(some ((decide (t0_1=(0:Int)))&& ((decide (t0_2=(0:Int)))&& ((decide (t0_3=(ByteArray.mk #[])))&&true))))else(some false))else(Option.bind (q106 lo t0_1 t0_2 t0_3) fun y445=>some y445)
def YxS:VFn:=⟨true,18,[.t 2],
 (.seq (.reg [o 1 (.box (t 0)),o 2 (.mv (kb false))])
 (.seq (.seq (.reg [oF 3 0 1,oL 4 3,o 5 (.bin .neq (t 4) (ks (⟨#[]⟩)))])
 (.cond (t 5) (.seq (.reg [oF 6 0 1,oL 7 6,o 8 (.call 258 [(t 7)]),oM 9 8,og 10 9 true (.fad 1 (t 1)),og 11 9 true (.load true 3 (t 10)),og 12 9 true (.build [.i .i64 0,.i .i64 0,.s (⟨#[]⟩)] []),og 13 9 true (.eqa false [1,1,2] (t 11) (t 12)),o 14 (.pick (t 9) (t 13) (kb false)),oM 2 14])
 (.fz [2] .ret))
 .skip))
 (.seq (.reg [oF 15 1 1,o 16 (.load true 3 (t 15)),o 17 (.call 284 [(t 16)]),oM 2 17])
 (.fz [2] .ret))))⟩
def YmO(lo:Lo):FnE:=⟨542,true,⟨[0],[.ag [.s,.i .i64,.i .i64,.s]],[],Zc12⟩,.b,[],(cs [.b]),(fun x=>q111 lo x.1 x.2.1 x.2.2.1 x.2.2.2:Zp72->Option Bool)⟩
noncomputable def YA6(lo:Lo):List FnE:=YmO lo::YBm lo
theorem YxT{P:Program}{fm:FM}{lo:Lo}(h:GZ P fm YBm lo)(t:Ti P fm 542 YxS):GZ P fm YA6 lo:=
  h.p (YmO lo) .n t (by kernel_rfl) (by kernel_rfl) fun x=>by kernel_rfl
def q112_L3_b:VCode:=
 (.seq (.seq (.reg [oM 4 3,oF 5 1 1,oL 6 5,oN 7 6,o 8 (.bin .lss (t 4) (t 7))])
 (.cond (t 8) .skip
 (.exit 0)))
 (.seq (.blk 1 (.seq (.reg [oF 11 1 1,oL 12 11,oM 13 3,o 14 (.iad 4 (t 12) (t 13)),o 15 (.load true 4 (t 14)),o 16 (.call 542 [(t 15)]),o 17 (.not (t 16))])
 (.cond (t 17) (.seq (.reg [o 2 (.mv (kb false))])
 (.fz [2] .ret))
 .skip)))
 (.reg [oM 9 3,o 10 (.bin .add (t 9) (k 1)),oM 3 10])))
def YdO(lo:Lo):Int×ByteArray×Zt7->Option ((Int×ByteArray×Zt7)⊕ (Bool⊕Unit)):=fun x=>match x with
  | (i3,a1_0,a1_1)=>bif(decide (i3< (a1_1.length:Int)))then(chk (0<=i3/\i3< (a1_1.length:Int)) (Option.bind (q111 lo ((a1_1.getD i3.toNat ((ByteArray.mk #[]),(0:Int),(0:Int),(ByteArray.mk #[]))).1) ((a1_1.getD i3.toNat ((ByteArray.mk #[]),(0:Int),(0:Int),(ByteArray.mk #[]))).2.1) ((a1_1.getD i3.toNat ((ByteArray.mk #[]),(0:Int),(0:Int),(ByteArray.mk #[]))).2.2.1) ((a1_1.getD i3.toNat ((ByteArray.mk #[]),(0:Int),(0:Int),(ByteArray.mk #[]))).2.2.2)) fun y446=>bif(!y446)then(some (.inr (.inl false)))else(some (.inl ((IntKind.wrap .i64 (i3+(1:Int))),a1_0,a1_1)))))else(some (.inr (.inr ())))
def YfR(lo:Lo):Int×ByteArray×Zt7->Option (Bool⊕Unit):=lo.run (YdO lo)
def YxU(lo:Lo):LpE:=⟨3,[],⟨[1,3],[.ptr 0 0 0,.i .i64],[.st [.s,.l Zc12]],(cs [I,.s,.l Zc12])⟩,[⟨.ret,⟨[2],[.b],[],(cs [.b])⟩⟩,⟨.exit 0,⟨[],[],[],(cs [])⟩⟩],YfR lo⟩
def YxV(lo:Lo):LL:=(YxU lo,.loop q112_L3_b.er)::[]
theorem YxW(lo:Lo):Lk lo pf (YA6 lo) 0 (YxV lo):=.l .n (YdO lo) rfl (by kernel_rfl) fun x=>by kernel_rfl
def q112(lo:Lo)(a0_0:ByteArray)(a0_1:List Zp72):Option Bool:=
  Option.bind (YfR lo ((0:Int),a0_0,a0_1)) fun y447=>alt2 y447 (fun y448=>some y448) (fun y449=>some true)
def YxX:VFn:=⟨true,18,[.t 2],
 (.seq (.reg [o 1 (.box (t 0)),o 2 (.mv (kb false))])
 (.seq (.seq (.reg [o 3 (.mv (k 0))])
 (.blk 0 (.loop 3 q112_L3_b)))
 (.seq (.reg [o 2 (.mv (kb true))])
 (.fz [2] .ret))))⟩
def YmP(lo:Lo):FnE:=⟨508,true,⟨[0],[.ag [.s,.l Zc12]],[],Zc3⟩,.b,[],(cs [.b]),(fun x=>q112 lo x.1 x.2:ByteArray×Zt7->Option Bool)⟩
noncomputable def YAE(lo:Lo):List FnE:=YmP lo::YA6 lo
theorem YxY{P:Program}{fm:FM}{lo:Lo}(h:GZ P fm YA6 lo)(t:Ti P fm 508 YxX):GZ P fm YAE lo:=
  h.p (YmP lo) (YxW lo) t (by kernel_rfl) (by kernel_rfl) fun x=>by kernel_rfl
end Go.Abs.G47
namespace Go.Abs.G47
open Go Go.Abs
set_option maxRecDepth 100000
set_option maxHeartbeats 1000000
def q113_L5_b:VCode:=
 (.seq (.seq (.reg [oM 13 5,oM 14 0,oM 15 4,o 16 (.iad 2 (t 14) (t 15)),oF 17 1 16,oL 18 17,oN 19 18,o 20 (.bin .lss (t 13) (t 19))])
 (.cond (t 20) .skip
 (.exit 2)))
 (.seq (.blk 3 (.seq (.reg [oM 23 0,oM 24 4,o 25 (.iad 2 (t 23) (t 24)),oF 26 1 25,oL 27 26,oM 28 5,o 29 (.iad 4 (t 27) (t 28)),oF 30 0 29,oL 31 30,oM 6 31])
 (.seq (.reg [oM 32 6,o 33 (.bin .neq (t 32) (ks (⟨#[]⟩))),oM 34 33,og 35 34 true (.mv (t 3)),og 36 34 true (.mv (t 6)),og 37 34 true (.call 272 [(t 35),(t 36)]),og 38 34 true (.bin .lss (t 37) (k 0)),o 39 (.pick (t 34) (t 38) (kb false))])
 (.cond (t 39) (.reg [oM 40 3,oM 41 6,o 42 (.bsl (cs [.s]) 1 [(0,(t 41))]),o 43 (.app (cs [.s]) 0 (t 40) (t 42)),oM 3 43])
 .skip))))
 (.reg [oM 21 5,o 22 (.bin .add (t 21) (k 1)),oM 5 22])))
def YdP(lo:Lo):Zt0×Int×Int×Zt5->Option ((Zt0×Int×Int×Zt5)⊕ ((Zt0×Int×Zt5))):=fun x=>match x with
  | (l0,i4,k5,out3)=>chk (0<=i4/\i4< (l0.length:Int)) (bif(decide (k5< (((l0.getD i4.toNat ((ByteArray.mk #[]),[])).2).length:Int)))then(chk (0<=i4/\i4< (l0.length:Int)) (chk (0<=k5/\k5< (((l0.getD i4.toNat ((ByteArray.mk #[]),[])).2).length:Int)) (bif(!decide ((((l0.getD i4.toNat ((ByteArray.mk #[]),[])).2).getD k5.toNat ((ByteArray.mk #[]),(0:Int),(0:Int),(ByteArray.mk #[]))).1=(ByteArray.mk #[])))then(Option.bind (q104 lo out3 ((((l0.getD i4.toNat ((ByteArray.mk #[]),[])).2).getD k5.toNat ((ByteArray.mk #[]),(0:Int),(0:Int),(ByteArray.mk #[]))).1)) fun y454=>bif(decide (y454< (0:Int)))then(chk (out3.length+([(((l0.getD i4.toNat ((ByteArray.mk #[]),[])).2).getD k5.toNat ((ByteArray.mk #[]),(0:Int),(0:Int),(ByteArray.mk #[]))).1]).length<=maxEl) (some (.inl (l0,i4,(IntKind.wrap .i64 (k5+(1:Int))),(out3++([(((l0.getD i4.toNat ((ByteArray.mk #[]),[])).2).getD k5.toNat ((ByteArray.mk #[]),(0:Int),(0:Int),(ByteArray.mk #[]))).1]))))))else(some (.inl (l0,i4,(IntKind.wrap .i64 (k5+(1:Int))),out3))))else(some (.inl (l0,i4,(IntKind.wrap .i64 (k5+(1:Int))),out3))))))else(some (.inr (l0,i4,out3))))
def YfS(lo:Lo):Zt0×Int×Int×Zt5->Option ((Zt0×Int×Zt5)):=lo.run (YdP lo)
def YxZ(lo:Lo):LpE:=⟨5,[],⟨[0,3,4,5],[.l Zc3,.ref 0,.i .i64,.i .i64],[.sq (cs [.s])],(cs [.l Zc3,I,I,.l (cs [.s])])⟩,[⟨.exit 2,⟨[0,3,4],[.l Zc3,.ref 0,.i .i64],[.sq (cs [.s])],(cs [.l Zc3,I,.l (cs [.s])])⟩⟩],YfS lo⟩
def YmQ(lo:Lo):LL:=(YxZ lo,.loop q113_L5_b.er)::[]
theorem Yx0(lo:Lo):Lk lo pf (YAE lo) 0 (YmQ lo):=.l .n (YdP lo) rfl (by kernel_rfl) fun x=>by kernel_rfl
def q113_L3_b:VCode:=
 (.seq (.seq (.reg [oM 7 4,oM 8 0,oN 9 8,o 10 (.bin .lss (t 7) (t 9))])
 (.cond (t 10) .skip
 (.exit 0)))
 (.seq (.blk 1 (.seq (.reg [o 5 (.mv (k 0))])
 (.blk 2 (.loop 5 q113_L5_b))))
 (.reg [oM 11 4,o 12 (.bin .add (t 11) (k 1)),oM 4 12])))
def YdQ(lo:Lo):Zt0×Int×Zt5->Option ((Zt0×Int×Zt5)⊕ ((Zt5))):=fun x=>match x with
  | (l0,i4,out3)=>bif(decide (i4< (l0.length:Int)))then(Option.bind (YfS lo (l0,i4,(0:Int),out3)) fun y455=>some (.inl (y455.1,(IntKind.wrap .i64 (y455.2.1+(1:Int))),y455.2.2)))else(some (.inr out3))
def YfT(lo:Lo):Zt0×Int×Zt5->Option ((Zt5)):=lo.run (YdQ lo)
def Yx1(lo:Lo):LpE:=⟨3,[(3,none,false)],⟨[0,3,4],[.l Zc3,.ref 0,.i .i64],[.sq (cs [.s])],(cs [.l Zc3,I,.l (cs [.s])])⟩,[⟨.exit 0,⟨[3],[.ref 0],[.sq (cs [.s])],Zc23⟩⟩],YfT lo⟩
def Yx2(lo:Lo):LL:=(Yx1 lo,.loop q113_L3_b.er)::YmQ lo
theorem Yx3(lo:Lo):Lk lo pf (YAE lo) 0 (Yx2 lo):=.l (Yx0 lo) (YdQ lo) rfl (by kernel_rfl) fun x=>by kernel_rfl
def q113(lo:Lo)(l0:List (ByteArray×Zt7)):Option (Zt5):=
  Option.bind (YfT lo (l0,(0:Int),[])) fun y456=>some y456
def Yx4:VFn:=⟨true,45,[.t 2],
 (.seq (.reg [o 2 (.mv (ke (cs [.s])))])
 (.seq (.reg [o 3 (.mv (ke (cs [.s])))])
 (.seq (.seq (.reg [o 4 (.mv (k 0))])
 (.blk 0 (.loop 3 q113_L3_b)))
 (.seq (.reg [oM 44 3,oM 2 44])
 (.fz [2] .ret)))))⟩
def YmR(lo:Lo):FnE:=⟨511,true,⟨[0],[.l Zc3],[],Zc37⟩,.l (cs [.s]),[],Zc23,(fun x=>q113 lo x:Zt0->Option (Zt5))⟩
noncomputable def YA7(lo:Lo):List FnE:=YmR lo::YAE lo
theorem Yx5{P:Program}{fm:FM}{lo:Lo}(h:GZ P fm YAE lo)(t:Ti P fm 511 Yx4):GZ P fm YA7 lo:=
  h.p (YmR lo) (Yx3 lo) t (by kernel_rfl) (by kernel_rfl) fun x=>by kernel_rfl
def q114_L3_b:VCode:=
 (.seq (.seq (.reg [oM 8 4,oF 9 0 1,oL 10 9,oN 11 10,o 12 (.bin .lss (t 8) (t 11))])
 (.cond (t 12) .skip
 (.exit 0)))
 (.seq (.blk 1 (.seq (.reg [oM 15 3,oF 16 0 1,oL 17 16,oM 18 4,o 19 (.iad 1 (t 17) (t 18)),oL 20 19,o 21 (.call 272 [(t 15),(t 20)]),o 22 (.bin .lss (t 21) (k 0)),oM 23 22,og 24 23 false (.fad 0 (t 1)),og 25 23 false (.load false 1 (t 24)),og 26 23 false (.mv (t 4)),og 27 23 false (.slcR 1 (t 25) none (some (t 26))),og 28 23 false (.fad 0 (t 1)),og 29 23 false (.load false 1 (t 28)),og 30 23 false (.mv (t 4)),og 31 23 false (.iad 1 (t 29) (t 30)),og 32 23 false (.load false 1 (t 31)),og 33 23 false (.call 272 [(t 27),(t 32)]),og 34 23 false (.bin .geq (t 33) (k 0)),o 35 (.pick (t 23) (kb true) (t 34))])
 (.cond (t 35) (.seq (.reg [o 2 (.mv (kb false))])
 (.fz [2] .ret))
 .skip)))
 (.reg [oM 13 4,o 14 (.bin .add (t 13) (k 1)),oM 4 14])))
def YdR(lo:Lo):Zt5×Int×Zt5×Zt0->Option ((Zt5×Int×Zt5×Zt0)⊕ (Bool⊕Unit)):=fun x=>match x with
  | (l3,i4,q1_0,q1_1)=>bif(decide (i4< (q1_0.length:Int)))then(chk (0<=i4/\i4< (q1_0.length:Int)) (Option.bind (q104 lo l3 (q1_0.getD i4.toNat (ByteArray.mk #[]))) fun y458=>bif(decide (y458< (0:Int)))then(some (.inr (.inl false)))else(chk (0<=(0:Int)/\ (0:Int)<=i4/\i4<=(q1_0.length:Int)) (chk (0<=i4/\i4< (q1_0.length:Int)) (Option.bind (q104 lo ((q1_0.take i4.toNat).drop 0) (q1_0.getD i4.toNat (ByteArray.mk #[]))) fun y459=>bif(decide ((0:Int)<=y459))then(some (.inr (.inl false)))else(some (.inl (l3,(IntKind.wrap .i64 (i4+(1:Int))),q1_0,q1_1))))))))else(some (.inr (.inr ())))
def YfU(lo:Lo):Zt5×Int×Zt5×Zt0->Option (Bool⊕Unit):=lo.run (YdR lo)
def Yx6(lo:Lo):LpE:=⟨3,[],⟨[1,3,4],[.ptr 0 0 0,.l (cs [.s]),.i .i64],[.st [.l (cs [.s]),.l Zc3]],(cs [.l (cs [.s]),I,.l (cs [.s]),.l Zc3])⟩,[⟨.ret,⟨[2],[.b],[],(cs [.b])⟩⟩,⟨.exit 0,⟨[],[],[],(cs [])⟩⟩],YfU lo⟩
def Yx7(lo:Lo):LL:=(Yx6 lo,.loop q114_L3_b.er)::[]
theorem Yx8(lo:Lo):Lk lo pf (YA7 lo) 0 (Yx7 lo):=.l .n (YdR lo) rfl (by kernel_rfl) fun x=>by kernel_rfl
def q114(lo:Lo)(q0_0:List ByteArray)(q0_1:List (ByteArray×Zt7)):Option Bool:=
  Option.bind (q113 lo q0_1) fun y457=>Option.bind (YfU lo (y457,(0:Int),q0_0,q0_1)) fun y460=>alt2 y460 (fun y461=>some y461) (fun y462=>some true)
def Yx9:VFn:=⟨true,36,[.t 2],
 (.seq (.reg [o 1 (.box (t 0)),o 2 (.mv (kb false))])
 (.seq (.reg [oF 5 1 1,oL 6 5,o 7 (.call 511 [(t 6)]),oM 3 7])
 (.seq (.seq (.reg [o 4 (.mv (k 0))])
 (.blk 0 (.loop 3 q114_L3_b)))
 (.seq (.reg [o 2 (.mv (kb true))])
 (.fz [2] .ret)))))⟩
def YmS(lo:Lo):FnE:=⟨509,true,⟨[0],[.ag [.l (cs [.s]),.l Zc3]],[],Zc27⟩,.b,[],(cs [.b]),(fun x=>q114 lo x.1 x.2:Zt5×Zt0->Option Bool)⟩
noncomputable def YA8(lo:Lo):List FnE:=YmS lo::YA7 lo
theorem Yya{P:Program}{fm:FM}{lo:Lo}(h:GZ P fm YA7 lo)(t:Ti P fm 509 Yx9):GZ P fm YA8 lo:=
  h.p (YmS lo) (Yx8 lo) t (by kernel_rfl) (by kernel_rfl) fun x=>by kernel_rfl
def q115_L6_b:VCode:=
 (.seq (.seq (.reg [oM 23 6,oF 24 1 3,oL 25 24,oN 26 25,o 27 (.bin .lss (t 23) (t 26))])
 (.cond (t 27) .skip
 (.exit 0)))
 (.seq (.blk 1 (.seq (.reg [oF 30 0 2,oL 31 30,oF 32 1 3,oL 33 32,oM 34 6,o 35 (.iad 2 (t 33) (t 34)),oF 36 0 35,oL 37 36,o 38 (.call 507 [(t 31),(t 37)]),oM 7 38])
 (.seq (.seq (.reg [oM 39 7,o 40 (.bin .lss (t 39) (k 0))])
 (.cond (t 40) (.seq (.reg [o 4 (.mv (k 4))])
 (.fz [4] .ret))
 .skip))
 (.seq (.seq (.reg [oF 41 1 3,oL 42 41,oM 43 6,o 44 (.iad 2 (t 42) (t 43)),oF 45 1 44,oL 46 45,oN 47 46,oF 48 0 2,oL 49 48,oM 50 7,o 51 (.iad 3 (t 49) (t 50)),oF 52 1 51,oL 53 52,oN 54 53,o 55 (.bin .neq (t 47) (t 54))])
 (.cond (t 55) (.seq (.reg [o 4 (.mv (k 6))])
 (.fz [4] .ret))
 .skip))
 (.seq (.reg [oF 56 1 3,oL 57 56,oM 58 6,o 59 (.iad 2 (t 57) (t 58)),o 60 (.load true 2 (t 59)),o 61 (.call 508 [(t 60)]),o 62 (.not (t 61))])
 (.cond (t 62) (.seq (.reg [o 4 (.mv (k 1))])
 (.fz [4] .ret))
 .skip))))))
 (.reg [oM 28 6,o 29 (.bin .add (t 28) (k 1)),oM 6 29])))
def YdS(lo:Lo):Int×Zt1×Zt5×Zt0->Option ((Int×Zt1×Zt5×Zt0)⊕ (Int⊕ (Zt5×Zt0))):=fun x=>match x with
  | (i6,db2,q3_0,q3_1)=>bif(decide (i6< (q3_1.length:Int)))then(chk (0<=i6/\i6< (q3_1.length:Int)) (Option.bind (q109 lo db2 ((q3_1.getD i6.toNat ((ByteArray.mk #[]),[])).1)) fun y443=>bif(decide (y443< (0:Int)))then(some (.inr (.inl (4:Int))))else(chk (0<=i6/\i6< (q3_1.length:Int)) (chk (0<=y443/\y443< (db2.length:Int)) (bif(!decide ((((q3_1.getD i6.toNat ((ByteArray.mk #[]),[])).2).length:Int)=(((db2.getD y443.toNat ((ByteArray.mk #[]),[],[])).2.1).length:Int)))then(some (.inr (.inl (6:Int))))else(chk (0<=i6/\i6< (q3_1.length:Int)) (Option.bind (q112 lo ((q3_1.getD i6.toNat ((ByteArray.mk #[]),[])).1) ((q3_1.getD i6.toNat ((ByteArray.mk #[]),[])).2)) fun y450=>bif(!y450)then(some (.inr (.inl (1:Int))))else(some (.inl ((IntKind.wrap .i64 (i6+(1:Int))),db2,q3_0,q3_1))))))))))else(some (.inr (.inr (q3_0,q3_1))))
def YfV(lo:Lo):Int×Zt1×Zt5×Zt0->Option (Int⊕ (Zt5×Zt0)):=lo.run (YdS lo)
def Yyb(lo:Lo):LpE:=⟨6,[],⟨[2,3,6],[.ptr 0 0 0,.ptr 1 0 0,.i .i64],[.st [.l Zc2],.st [.l (cs [.s]),.l Zc3]],(cs [I,.l Zc2,.l (cs [.s]),.l Zc3])⟩,[⟨.ret,⟨[4],[.i .i64],[],(cs [I])⟩⟩,⟨.exit 0,⟨[3],[.ptr 0 0 0],[.st [.l (cs [.s]),.l Zc3]],Zc27⟩⟩],YfV lo⟩
def Yyc(lo:Lo):LL:=(Yyb lo,.loop q115_L6_b.er)::[]
theorem Yyd(lo:Lo):Lk lo pf (YA8 lo) 0 (Yyc lo):=.l .n (YdS lo) rfl (by kernel_rfl) fun x=>by kernel_rfl
def q115(lo:Lo)(db0:List (ByteArray×Zt5×Zt14))(q1_0:List ByteArray)(q1_1:List (ByteArray×Zt7)):Option Int:=
  Option.bind (q110 lo db0) fun y442=>bif(!decide (y442=(0:Int)))then(some y442)else(bif(decide ((q1_1.length:Int)< (1:Int)))then(some (1:Int))else(bif(decide ((6:Int)< (q1_1.length:Int)))then(some (1:Int))else(Option.bind (YfV lo ((0:Int),db0,q1_0,q1_1)) fun y451=>alt2 y451 (fun y452=>some y452) (fun y453=>Option.bind (q114 lo y453.1 y453.2) fun y463=>bif(!y463)then(some (1:Int))else(some (0:Int))))))
def Yye:VFn:=⟨true,66,[.t 4],
 (.seq (.reg [o 2 (.box (t 0)),o 3 (.box (t 1)),o 4 (.mv (k 0))])
 (.seq (.seq (.reg [o 8 (.load true 1 (t 2)),o 9 (.call 506 [(t 8)]),oM 5 9])
 (.seq (.reg [oM 10 5,o 11 (.bin .neq (t 10) (k 0))])
 (.cond (t 11) (.seq (.reg [oM 12 5,oM 4 12])
 (.fz [4] .ret))
 .skip)))
 (.seq (.seq (.reg [oF 13 1 3,oL 14 13,oN 15 14,o 16 (.bin .lss (t 15) (k 1)),oM 17 16,og 18 17 false (.fad 1 (t 3)),og 19 17 false (.load false 1 (t 18)),og 20 17 false (.len (t 19)),og 21 17 false (.bin .gtr (t 20) (k 6)),o 22 (.pick (t 17) (kb true) (t 21))])
 (.cond (t 22) (.seq (.reg [o 4 (.mv (k 1))])
 (.fz [4] .ret))
 .skip))
 (.seq (.seq (.reg [o 6 (.mv (k 0))])
 (.blk 0 (.loop 6 q115_L6_b)))
 (.seq (.seq (.reg [o 63 (.load true 2 (t 3)),o 64 (.call 509 [(t 63)]),o 65 (.not (t 64))])
 (.cond (t 65) (.seq (.reg [o 4 (.mv (k 1))])
 (.fz [4] .ret))
 .skip))
 (.seq (.reg [o 4 (.mv (k 0))])
 (.fz [4] .ret)))))))⟩
def YmT(lo:Lo):FnE:=⟨473,true,⟨[0,1],[.ag [.l Zc2],.ag [.l (cs [.s]),.l Zc3]],[],Zc32⟩,.i .i64,[],(cs [I]),(fun x=>q115 lo x.1 x.2.1 x.2.2:Zt1×Zt5×Zt0->Option Int)⟩
noncomputable def YBn(lo:Lo):List FnE:=YmT lo::YA8 lo
theorem Yyf{P:Program}{fm:FM}{lo:Lo}(h:GZ P fm YA8 lo)(t:Ti P fm 473 Yye):GZ P fm YBn lo:=
  h.p (YmT lo) (Yyd lo) t (by kernel_rfl) (by kernel_rfl) fun x=>by kernel_rfl
noncomputable def q116(lo:Lo)(db0:List (ByteArray×Zt5×Zt14))(q1_0:List ByteArray)(q1_1:List (ByteArray×Zt7)):Option Bool:=
  Option.bind (q99 lo) fun y398=>bif(!y398)then(Option.bind (q99 lo) fun y399=>some y399)else(Option.bind (q100 lo db0) fun y403=>bif(!y403)then(Option.bind (q99 lo) fun y404=>some y404)else(Option.bind (q101 lo q1_0 q1_1) fun y408=>bif(!y408)then(Option.bind (q99 lo) fun y409=>some y409)else(Option.bind (q40 lo db0 q1_0 q1_1) fun y410=>Option.bind (q115 lo db0 q1_0 q1_1) fun y464=>some (decide (y410=y464)))))
def Yyg:VFn:=⟨true,25,[.t 4],
 (.seq (.reg [o 2 (.box (t 0)),o 3 (.box (t 1)),o 4 (.mv (kb false))])
 (.seq (.seq (.reg [o 5 (.call 469 []),o 6 (.not (t 5)),oM 7 6,og 8 7 false (.load true 1 (t 2)),og 9 7 false (.call 470 [(t 8)]),og 10 7 false (.not (t 9)),o 11 (.pick (t 7) (kb true) (t 10)),oM 12 11,og 13 12 false (.load true 2 (t 3)),og 14 12 false (.call 471 [(t 13)]),og 15 12 false (.not (t 14)),o 16 (.pick (t 12) (kb true) (t 15))])
 (.cond (t 16) (.seq (.reg [o 17 (.call 469 []),oM 4 17])
 (.fz [4] .ret))
 .skip))
 (.seq (.reg [o 18 (.load true 1 (t 2)),o 19 (.load true 2 (t 3)),o 20 (.call 472 [(t 18),(t 19)]),o 21 (.load true 1 (t 2)),o 22 (.load true 2 (t 3)),o 23 (.call 473 [(t 21),(t 22)]),o 24 (.bin .eql (t 20) (t 23)),oM 4 24])
 (.fz [4] .ret))))⟩
noncomputable def q116_f(lo:Lo):FnE:=⟨459,true,⟨[0,1],[.ag [.l Zc2],.ag [.l (cs [.s]),.l Zc3]],[],Zc32⟩,.b,[],(cs [.b]),(fun x=>q116 lo x.1 x.2.1 x.2.2:Zt1×Zt5×Zt0->Option Bool)⟩
noncomputable def YBY(lo:Lo):List FnE:=q116_f lo::YBn lo
theorem Yyh{P:Program}{fm:FM}{lo:Lo}(h:GZ P fm YBn lo)(t:Ti P fm 459 Yyg):GZ P fm YBY lo:=
  h.p (q116_f lo) .n t (by kernel_rfl) (by kernel_rfl) fun x=>by kernel_rfl
end Go.Abs.G47
