/- Functions of the program as functions of data (written by program). No condition. -/
import Derived.Test.YtlmcnindhfbkhaaGreatDoorG
set_option linter.unusedVariables false
set_option linter.unusedSimpArgs false
set_option linter.unusedSectionVars false
open Nat renaming ble → YGR
open Option renaming bind → YG1
open Go.IntKind renaming wrap → YHl
namespace Go.Abs.G47
open Go Go.Abs
set_option maxRecDepth 100000
set_option maxHeartbeats 1000000
variable{P:Program}{fm:FM}{lo:Lo}
noncomputable def YFM(lo:Lo):List FnE:=YFL lo
noncomputable def YFd(lo:Lo):List FnE:=YFM lo
def q152(lo:Lo)(l:List (ByteArray×Zt7)):Option Zt0:=bif YGR l.length maxEl&&YGR 1 2 then some l else none
def YAs(lo:Lo):FnE:=vcloneE 487 Zc5
noncomputable def YEd(lo:Lo):List FnE:=YAs lo::YFd lo
theorem YAt(h:GZ P fm YFd lo)(htie: ∀f,fm f=487->fnTr P fm pf f=some (8,[.t 2],YCq 2 [(.string (⟨#[]⟩)),(.slice none 0 0)])):GZ P fm YEd lo:=
  ⟨h.1,h.2,YdX h.S h.mx Zc5 rfl [(.string (⟨#[]⟩)),(.slice none 0 0)] 8 (by decide) htie⟩
def q153_L3_b:VCode:=
 (Rg [oR 74 .lss 73 72]
 (.seq (Ce 74 0)
 (.seq (.blk 1 (Rg [oM 75 73,oM 15 75]
 (Rg [oF 76 0 9,⟨some 77,.load false 1 76,none,true,false⟩,oF 78 1 9,⟨some 79,.load false 1 78,none,true,false⟩,oM 80 15,o 81 (.slcR 2 79 none (some 80)),⟨some 82,.callN 487 [81] false,none,true,false⟩,oF 83 1 9,⟨some 84,.load false 1 83,none,true,false⟩,oM 85 15,oR 86 .add 85 (k 1),o 87 (.slcR 2 84 (some 86) none),⟨some 88,.app Zc5 0 82 87,none,false,true⟩,o 89 (.build [.e (cs [.s]),.e Zc5] [(0,1,77),(1,1,88)]),o 16 (.alloc [.e (cs [.s]),.e Zc5]),oS 2 16 89]
 (Rg [oT 90 2 16,oC 91 488 [90],oM 92 91,gT 93 92 (.load true 2 16),gT 94 92 (.load true 2 9),gT 95 92 (.call 482 [93,94]),oP 96 92 95 (kb false)]
 (.cond 96 (Rg [oB 4 false]
 (Fr 4))
 .skip)))))
 (.reg [oR 97 .add 73 (k 1),oM 73 97]))))
def YeP(lo:Lo):Zp52->Option (Zp52⊕ (Bool⊕ (Zt21×Int×Zt21×Int))):=fun x=>match x with
  | (a11,f12,b13,g14,v72,v73,m9_0,m9_1)=>bif(decide (v73<v72))then(chk (0<=(0:Int)/\0<=v73/\v73<=(m9_1.length:Int)) (YG1 (q152 lo ((m9_1.take v73.toNat).drop 0)) fun y638=>chk (0<=(YHl .i64 (v73+1))/\ (YHl .i64 (v73+1))<=(m9_1.length:Int)/\ (m9_1.length:Int)<=(m9_1.length:Int)) (chk (y638.length+((m9_1.take (m9_1.length:Int).toNat).drop (YHl .i64 (v73+1)).toNat).length<=maxEl) (YG1 (q139 lo m9_0 (y638++((m9_1.take (m9_1.length:Int).toNat).drop (YHl .i64 (v73+1)).toNat))) fun y639=>bif y639 then(YG1 (q86 lo m9_0 (y638++((m9_1.take (m9_1.length:Int).toNat).drop (YHl .i64 (v73+1)).toNat)) m9_0 m9_1) fun y640=>bif y640 then(some (.inr (.inl false)))else(some (.inl (a11,f12,b13,g14,v72,(YHl .i64 (v73+1)),m9_0,m9_1))))else(some (.inl (a11,f12,b13,g14,v72,(YHl .i64 (v73+1)),m9_0,m9_1)))))))else(some (.inr (.inr (a11,f12,b13,g14))))
def Yhm(lo:Lo):Zp52->Option (Bool⊕ (Zt21×Int×Zt21×Int)):=lo.run (YeP lo)
def YAu(lo:Lo):LpE:=⟨3,[],(Zsg [9,11,12,13,14,72,73] [.ptr 0 0 0,.l Zc22,.j,.l Zc22,.j,.j,.j] [.st [.l (cs [.s]),.l Zc5]]),[⟨.ret,(Zsg [4] [.b] [])⟩,⟨.exit 0,(Zsg [11,12,13,14] [.l Zc22,.j,.l Zc22,.j] [])⟩],Yhm lo⟩
def YAv(lo:Lo):LL:=(YAu lo,.loop q153_L3_b.er)::[]
theorem YAw(lo:Lo):Lk lo pf (YEd lo) 0 (YAv lo):=.l .n (YeP lo)
noncomputable def q153(lo:Lo)(d0:List (Int×Int×Zt11))(x1_0:List Int)(x1_1:List (Int× (List Int))):Option Bool:=
  YG1 (q120 lo d0) fun y627=>YG1 (q122 lo y627.1 x1_0 x1_1) fun y628=>YG1 (q99 lo) fun y629=>bif(!y629)then(YG1 (q99 lo) fun y630=>some y630)else(bif(!y627.2)then(YG1 (q99 lo) fun y631=>some y631)else(bif(!y628.2.2)then(YG1 (q99 lo) fun y632=>some y632)else(YG1 (q87 lo y628.1 y628.2.1) fun y633=>bif(!decide (y633.2.2=(0:Int)))then(some false)else(YG1 (q86 lo y633.1 y633.2.1 y628.1 y628.2.1) fun y634=>bif(!y634)then(some false)else(YG1 (q86 lo y628.1 y628.2.1 y633.1 y633.2.1) fun y635=>bif(!y635)then(some false)else(YG1 (q66 lo y627.1 y628.1 y628.2.1) fun y636=>YG1 (q66 lo y627.1 y633.1 y633.2.1) fun y637=>YG1 (Yhm lo (y636.1,y636.2,y637.1,y637.2,(y633.2.1.length:Int),(0:Int),y633.1,y633.2.1)) fun y641=>alt2 y641 (fun y642=>some y642) (fun y643=>bif(decide (y643.2.1=(0:Int)))then(bif(decide (y643.2.2.2=(0:Int)))then(YG1 (q137 lo y643.1 y643.2.2.1) fun y644=>some y644)else(some false))else(some false))))))))
def YAx:VFn:=⟨true,109,[.t 4],
 (Rg [oG 3 1,oB 4 false]
 (Rg [oM 18 0,oC 19 474 [18],oM 17 19,oE 20 17 0,oE 21 17 1,o 5 (.alloc [.e Zc6]),oS 1 5 20,oM 6 21]
 (Rg [oT 23 1 5,oT 24 2 3,oC 25 475 [23,24],oM 22 25,oE 26 22 0,oE 27 22 1,o 7 (.alloc [.e (cs [.s]),.e Zc5]),oS 2 7 26,oM 8 27]
 (.seq (Rg [oC 28 469 [],oX 29 28,oM 30 29,gF 31 30 (.mv 6),gF 32 30 (.not 31),oP 33 30 (kb true) 32,oM 34 33,gF 35 34 (.mv 8),gF 36 34 (.not 35),oP 37 34 (kb true) 36]
 (.cond 37 (Rg [oC 38 469 [],oM 4 38]
 (Fr 4))
 .skip))
 (Rg [oT 40 2 7,oC 41 484 [40],oM 39 41,oE 42 39 0,oE 43 39 1,o 9 (.alloc [.e (cs [.s]),.e Zc5]),oS 2 9 42,oM 10 43]
 (.seq (Rg [oM 44 10,oR 45 .neq 44 (k 0),oM 46 45,gF 47 46 (.load true 2 9),gF 48 46 (.load true 2 7),gF 49 46 (.call 482 [47,48]),gF 50 46 (.not 49),oP 51 46 (kb true) 50,oM 52 51,gF 53 52 (.load true 2 7),gF 54 52 (.load true 2 9),gF 55 52 (.call 482 [53,54]),gF 56 52 (.not 55),oP 57 52 (kb true) 56]
 (.cond 57 (Rg [oB 4 false]
 (Fr 4))
 .skip))
 (Rg [oT 59 1 5,oT 60 2 7,oC 61 476 [59,60],oM 58 61,oE 62 58 0,oE 63 58 1,oM 11 62,oM 12 63]
 (Rg [oT 65 1 5,oT 66 2 9,oC 67 476 [65,66],oM 64 67,oE 68 64 0,oE 69 64 1,oM 13 68,oM 14 69]
 (.seq (Rg [oF 70 1 9,oL 71 70,oN 72 71,oK 73 0]
 (.blk 0 (.loop 3 q153_L3_b)))
 (Rg [oM 98 12,oR 99 .eql 98 (k 0),oM 100 99,gT 101 100 (.mv 14),gT 102 100 (.bin .eql 101 (k 0)),oP 103 100 102 (kb false),oM 104 103,gT 105 104 (.mv 11),gT 106 104 (.mv 13),gT 107 104 (.call 478 [105,106]),oP 108 104 107 (kb false),oM 4 108]
 (Fr 4)))))))))))⟩
noncomputable def q153_f(lo:Lo):FnE:=Zfe 464 true (Zsg [0,1] [.l Zc25,.ag [.l Zc20,.l Zc23]] []) .b [] (fun x=>q153 lo x.1 x.2.1 x.2.2:Zt24× (List Int)×Zt19->Option Bool)
noncomputable def YFN(lo:Lo):List FnE:=q153_f lo::YEd lo
theorem YAy(h:GZ P fm YEd lo)(t:Ti P fm 464 YAx):GZ P fm YFN lo:=
  h.p (q153_f lo) (YAw lo) t
end Go.Abs.G47
