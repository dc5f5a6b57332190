/- Functions of the program as functions of data (written by program). No condition. -/
import Derived.Test.YtlmcnindhfbkhaaGreatDoorG
set_option linter.unusedVariables false
set_option linter.unusedSimpArgs false
set_option linter.unusedSectionVars false
open Option renaming bind → YHq
open ByteArray renaming mk → YHJ
open Go.IntKind renaming wrap → YHK
namespace Go.Abs.G47
open Go Go.Abs
set_option maxRecDepth 100000
set_option maxHeartbeats 1000000
variable{P:Program}{fm:FM}{lo:Lo}
noncomputable def YGc(lo:Lo):List FnE:=YFQ lo
noncomputable def YGd(lo:Lo):List FnE:=YGc lo
noncomputable def YE8(lo:Lo):List FnE:=YGd lo
def q133_L3_b:VCode:=
 (.seq (Rg [oM 7 5,oM 8 0,oN 9 8,oR 10 .lss 7 9,oM 11 10,gT 12 11 (.mv 5),gT 13 11 (.mv 1),gT 14 11 (.len 13),gT 15 11 (.bin .lss 12 14),oP 16 11 15 (kb false)]
 (Ce 16 0))
 (.seq (.blk 1 (Rg [oM 19 0,oM 20 5,oI 21 3 19 20,oT 22 3 21,oM 23 1,oM 24 5,oI 25 3 23 24,oT 26 3 25,oC 27 302 [22,26],oM 6 27]
 (Rg [oM 28 6,oR 29 .neq 28 (k 0)]
 (.cond 29 (Rg [oM 30 6,oM 4 30]
 (Fr 4))
 .skip))))
 (.reg [oM 17 5,oR 18 .add 17 (k 1),oM 5 18])))
def Yc6(lo:Lo):Zt3×Zt3×Int->Option ((Zt3×Zt3×Int)⊕ (Int⊕ (Zt3×Zt3))):=fun x=>match x with
  | (a0,b1,i5)=>bif(decide (i5< (a0.length:Int)))then(bif(decide (i5< (b1.length:Int)))then(chk (0<=i5/\i5< (a0.length:Int)) (chk (0<=i5/\i5< (b1.length:Int)) (YHq (q126 lo ((a0.getD i5.toNat Zd1).1) ((a0.getD i5.toNat Zd1).2.1) ((a0.getD i5.toNat Zd1).2.2) ((b1.getD i5.toNat Zd1).1) ((b1.getD i5.toNat Zd1).2.1) ((b1.getD i5.toNat Zd1).2.2)) fun y532=>bif(!decide (y532=0))then(some (.inr (.inl y532)))else(some (.inl (a0,b1,(YHK .i64 (i5+1))))))))else(some (.inr (.inr (a0,b1)))))else(some (.inr (.inr (a0,b1))))
def Yhi(lo:Lo):Zt3×Zt3×Int->Option (Int⊕ (Zt3×Zt3)):=lo.run (Yc6 lo)
def YAv(lo:Lo):LpE:=⟨3,[],(Zsg [0,1,5] [.l Zc10,.l Zc10,.j] []),[⟨.ret,(Zsg [4] [.j] [])⟩,⟨.exit 0,(Zsg [0,1] [.l Zc10,.l Zc10] [])⟩],Yhi lo⟩
def YAw(lo:Lo):LL:=(YAv lo,.loop q133_L3_b.er)::[]
theorem YAx(lo:Lo):Lk lo pf (YE8 lo) 0 (YAw lo):=.l .n (Yc6 lo)
def q133(lo:Lo)(a0:List (Int×Int×ByteArray))(b1:List (Int×Int×ByteArray)):Option Int:=
  YHq (Yhi lo (a0,b1,(0:Int))) fun y533=>alt2 y533 (fun y534=>some y534) (fun y535=>YHq (q124 lo (y535.1.length:Int) (y535.2.length:Int)) fun y536=>some y536)
def YAy:VFn:=⟨true,36,[.t 4],
 (Rg [oK 4 0]
 (.seq (Rg [oK 5 0]
 (.blk 0 (.loop 3 q133_L3_b)))
 (Rg [oM 31 0,oN 32 31,oM 33 1,oN 34 33,oC 35 303 [32,34],oM 4 35]
 (Fr 4))))⟩
def Yn8(lo:Lo):FnE:=Zfe 274 true (Zsg [0,1] [.l Zc10,.l Zc10] []) (.i .i64) [] (fun x=>q133 lo x.1 x.2:Zt3×Zt3->Option Int)
noncomputable def YE9(lo:Lo):List FnE:=Yn8 lo::YE8 lo
theorem YAz(h:GZ P fm YE8 lo)(t:Ti P fm 274 YAy):GZ P fm YE9 lo:=
  h.p (Yn8 lo) (YAx lo) t
def q134(lo:Lo)(a0:List (Int×Int×ByteArray))(b1:List (Int×Int×ByteArray)):Option Bool:=
  YHq (q133 lo a0 b1) fun y537=>some (decide (y537=0))
def YAA:VFn:=⟨true,9,[.t 4],
 (Rg [oB 4 false]
 (Rg [oM 5 0,oM 6 1,oC 7 274 [5,6],oR 8 .eql 7 (k 0),oM 4 8]
 (Fr 4)))⟩
def Yn9(lo:Lo):FnE:=Zfe 297 true (Zsg [0,1] [.l Zc10,.l Zc10] []) .b [] (fun x=>q134 lo x.1 x.2:Zt3×Zt3->Option Bool)
noncomputable def YEM(lo:Lo):List FnE:=Yn9 lo::YE9 lo
theorem YAB(h:GZ P fm YE9 lo)(t:Ti P fm 297 YAA):GZ P fm YEM lo:=
  h.p (Yn9 lo) .n t
def q135_L3_b:VCode:=
 (.seq (Rg [oM 6 5,oM 7 0,oN 8 7,oR 9 .lss 6 8]
 (Ce 9 0))
 (.seq (.blk 1 (Rg [oM 12 0,oM 13 5,oI 14 1 12 13,oL 15 14,oM 16 1,oC 17 297 [15,16]]
 (.cond 17 (Rg [oB 4 true]
 (Fr 4))
 .skip)))
 (.reg [oM 10 5,oR 11 .add 10 (k 1),oM 5 11])))
def YeO(lo:Lo):Zt22×Zt3×Int->Option ((Zt22×Zt3×Int)⊕ (Bool⊕Unit)):=fun x=>match x with
  | (l0,v1,i5)=>bif(decide (i5< (l0.length:Int)))then(chk (0<=i5/\i5< (l0.length:Int)) (YHq (q134 lo (l0.getD i5.toNat []) v1) fun y538=>bif y538 then(some (.inr (.inl true)))else(some (.inl (l0,v1,(YHK .i64 (i5+1)))))))else(some (.inr (.inr ())))
def Yhj(lo:Lo):Zt22×Zt3×Int->Option (Bool⊕Unit):=lo.run (YeO lo)
def YAC(lo:Lo):LpE:=⟨3,[],(Zsg [0,1,5] [.l Zc23,.l Zc10,.j] []),[⟨.ret,(Zsg [4] [.b] [])⟩,⟨.exit 0,(Zsg [] [] [])⟩],Yhj lo⟩
def YAD(lo:Lo):LL:=(YAC lo,.loop q135_L3_b.er)::[]
theorem YAE(lo:Lo):Lk lo pf (YEM lo) 0 (YAD lo):=.l .n (YeO lo)
def q135(lo:Lo)(l0:List (Zt3))(v1:List (Int×Int×ByteArray)):Option Bool:=
  YHq (Yhj lo (l0,v1,(0:Int))) fun y539=>alt2 y539 (fun y540=>some y540) (fun y541=>some false)
def YAF:VFn:=⟨true,18,[.t 4],
 (Rg [oB 4 false]
 (.seq (Rg [oK 5 0]
 (.blk 0 (.loop 3 q135_L3_b)))
 (Rg [oB 4 false]
 (Fr 4))))⟩
def Yoa(lo:Lo):FnE:=Zfe 518 true (Zsg [0,1] [.l Zc23,.l Zc10] []) .b [] (fun x=>q135 lo x.1 x.2:Zt22×Zt3->Option Bool)
noncomputable def YFR(lo:Lo):List FnE:=Yoa lo::YEM lo
theorem YAG(h:GZ P fm YEM lo)(t:Ti P fm 518 YAF):GZ P fm YFR lo:=
  h.p (Yoa lo) (YAE lo) t
noncomputable def YGe(lo:Lo):List FnE:=YFR lo
noncomputable def YGf(lo:Lo):List FnE:=YGe lo
noncomputable def YFa(lo:Lo):List FnE:=YGf lo
def q139_L3_b:VCode:=
 (.seq (Rg [oM 14 3,oF 15 1 1,oL 16 15,oN 17 16,oR 18 .lss 14 17]
 (Ce 18 0))
 (.seq (.blk 1 (Rg [oF 21 1 1,oL 22 21,oM 23 3,oI 24 2 22 23,oF 25 0 24,oL 26 25,oC 27 258 [26],oX 28 27,oM 29 28,gF 30 29 (.fad 1 1),gF 31 29 (.load false 1 30),gF 32 29 (.mv 3),gF 33 29 (.iad 2 31 32),gF 34 29 (.load true 2 33),gF 35 29 (.call 508 [34]),gF 36 29 (.not 35),oP 37 29 (kb true) 36]
 (.cond 37 (Rg [oB 2 false]
 (Fr 2))
 .skip)))
 (.reg [oM 19 3,oR 20 .add 19 (k 1),oM 3 20])))
def YeP(lo:Lo):Int×Zt2×Zt0->Option ((Int×Zt2×Zt0)⊕ (Bool⊕ (Zt2×Zt0))):=fun x=>match x with
  | (i3,q1_0,q1_1)=>bif(decide (i3< (q1_1.length:Int)))then(chk (0<=i3/\i3< (q1_1.length:Int)) (YHq (q103 lo ((q1_1.getD i3.toNat ((YHJ #[]),[])).1)) fun y559=>bif(!y559)then(some (.inr (.inl false)))else(chk (0<=i3/\i3< (q1_1.length:Int)) (YHq (q112 lo ((q1_1.getD i3.toNat ((YHJ #[]),[])).1) ((q1_1.getD i3.toNat ((YHJ #[]),[])).2)) fun y560=>bif(!y560)then(some (.inr (.inl false)))else(some (.inl ((YHK .i64 (i3+1)),q1_0,q1_1)))))))else(some (.inr (.inr (q1_0,q1_1))))
def Yhk(lo:Lo):Int×Zt2×Zt0->Option (Bool⊕ (Zt2×Zt0)):=lo.run (YeP lo)
def YAH(lo:Lo):LpE:=⟨3,[],(Zsg [1,3] [.ptr 0 0 0,.j] [.st [.l (cs [.s]),.l Zc6]]),[⟨.ret,(Zsg [2] [.b] [])⟩,⟨.exit 0,(Zsg [1] [.ptr 0 0 0] [.st [.l (cs [.s]),.l Zc6]])⟩],Yhk lo⟩
def YAI(lo:Lo):LL:=(YAH lo,.loop q139_L3_b.er)::[]
theorem YAJ(lo:Lo):Lk lo pf (YFa lo) 0 (YAI lo):=.l .n (YeP lo)
def q139(lo:Lo)(q0_0:List ByteArray)(q0_1:List (ByteArray×Zt4)):Option Bool:=
  bif(decide ((q0_1.length:Int)<1))then(some false)else(bif(decide ((6:Int)< (q0_1.length:Int)))then(some false)else(YHq (Yhk lo ((0:Int),q0_0,q0_1)) fun y561=>alt2 y561 (fun y562=>some y562) (fun y563=>YHq (q114 lo y563.1 y563.2) fun y564=>some y564)))
def YAK:VFn:=⟨true,40,[.t 2],
 (Rg [oG 1 0,oB 2 false]
 (.seq (Rg [oF 4 1 1,oL 5 4,oN 6 5,oR 7 .lss 6 (k 1),oM 8 7,gF 9 8 (.fad 1 1),gF 10 8 (.load false 1 9),gF 11 8 (.len 10),gF 12 8 (.bin .gtr 11 (k 6)),oP 13 8 (kb true) 12]
 (.cond 13 (Rg [oB 2 false]
 (Fr 2))
 .skip))
 (.seq (Rg [oK 3 0]
 (.blk 0 (.loop 3 q139_L3_b)))
 (Rg [oT 38 2 1,oC 39 509 [38],oM 2 39]
 (Fr 2)))))⟩
def Yob(lo:Lo):FnE:=Zfe 488 true (Zsg [0] [.ag [.l (cs [.s]),.l Zc6]] []) .b [] (fun x=>q139 lo x.1 x.2:Zt2×Zt0->Option Bool)
noncomputable def YEN(lo:Lo):List FnE:=Yob lo::YFa lo
theorem YAL(h:GZ P fm YFa lo)(t:Ti P fm 488 YAK):GZ P fm YEN lo:=
  h.p (Yob lo) (YAJ lo) t
def q140_L3_b:VCode:=
 (.seq (Rg [oM 16 7,oF 17 0 2,oL 18 17,oN 19 18,oR 20 .lss 16 19]
 (Ce 20 0))
 (.seq (.blk 1 (Rg [oF 23 0 6,oL 24 23,oF 25 0 2,oL 26 25,oM 27 7,oI 28 1 26 27,oL 29 28,o 30 (.bsl (cs [.s]) 1 [(0,29)]),o 31 (.app (cs [.s]) 0 24 30),oF 32 0 6,oS 1 32 31]
 (.reg [oF 33 1 6,oL 34 33,oF 35 0 3,oL 36 35,oM 37 7,oI 38 1 36 37,oL 39 38,o 40 (.build [.s (⟨#[]⟩),.i .i64 0,.i .i64 0,.s (⟨#[]⟩)] [(0,1,39)]),o 41 (.bsl Zc11 1 [(0,40)]),o 42 (.app Zc11 0 34 41),oF 43 1 6,oS 1 43 42])))
 (.reg [oM 21 7,oR 22 .add 21 (k 1),oM 7 22])))
def YeQ(lo:Lo):Zp51->Option (Zp51⊕ ((Zt2×Zt4×Zt2×Zt4))):=fun x=>match x with
  | (i7,from2_0,from2_1,to3_0,to3_1,v4_0,v4_1,h4,h5)=>bif(decide (i7< (from2_0.length:Int)))then(chk (0<=i7/\i7< (from2_0.length:Int)) (chk (h4.length+([(from2_0.getD i7.toNat (YHJ #[]))]).length<=maxEl) (chk (0<=i7/\i7< (to3_0.length:Int)) (chk (h5.length+([((to3_0.getD i7.toNat (YHJ #[])),(0:Int),(0:Int),(YHJ #[]))]).length<=maxEl) (some (.inl ((YHK .i64 (i7+1)),from2_0,from2_1,to3_0,to3_1,v4_0,v4_1,(h4++([(from2_0.getD i7.toNat (YHJ #[]))])),(h5++([((to3_0.getD i7.toNat (YHJ #[])),(0:Int),(0:Int),(YHJ #[]))])))))))))else(some (.inr (v4_0,v4_1,h4,h5)))
def Yhl(lo:Lo):Zp51->Option ((Zt2×Zt4×Zt2×Zt4)):=lo.run (YeQ lo)
def YAM(lo:Lo):LpE:=⟨3,[(6,some 0,false),(6,some 1,false)],(Zsg [2,3,4,6,7] [.ptr 0 0 0,.ptr 1 0 0,.ptr 2 0 0,.ptr 3 0 0,.j] [.st [.l (cs [.s]),.l Zc6],.st [.l (cs [.s]),.l Zc6],.st [.l (cs [.s]),.l Zc11],.st [.ref 4,.ref 5],.sq (cs [.s]),.sq Zc11]),[⟨.exit 0,(Zsg [4,6] [.ptr 0 0 0,.ptr 1 0 0] [.st [.l (cs [.s]),.l Zc11],.st [.ref 2,.ref 3],.sq (cs [.s]),.sq Zc11])⟩],Yhl lo⟩
def YAN(lo:Lo):LL:=(YAM lo,.loop q140_L3_b.er)::[]
theorem YAO(lo:Lo):Lk lo pf (YEN lo) 0 (YAN lo):=.l .n (YeQ lo)
def q140(lo:Lo)(from0_0:List ByteArray)(from0_1:List (ByteArray×Zt4))(to1_0:List ByteArray)(to1_1:List (ByteArray×Zt4)):Option (Zt2×Zt4×Bool):=
  bif(!decide ((from0_0.length:Int)=(to1_0.length:Int)))then(some (([]:List ByteArray),([]:List Zp64),false))else(YHq (Yhl lo ((0:Int),from0_0,from0_1,to1_0,to1_1,([]:List ByteArray),([]:List Zp64),[],[])) fun y567=>some (y567.2.2.1,y567.2.2.2,true))
def YAP:VFn:=⟨true,45,[.c 4 true 2,.t 5],
 (Rg [oG 2 0,oG 3 1,o 4 (.alloc [.e (cs [.s]),.e Zc11]),oB 5 false]
 (Rg [o 6 (.alloc [.e (cs [.s]),.e Zc11])]
 (.seq (Rg [oF 8 0 2,oL 9 8,oN 10 9,oF 11 0 3,oL 12 11,oN 13 12,oR 14 .neq 10 13]
 (.cond 14 (Rg [oT 15 2 6,oS 2 4 15,oB 5 false]
 (.fz [4,5] .ret))
 .skip))
 (.seq (Rg [oK 7 0]
 (.blk 0 (.loop 3 q140_L3_b)))
 (Rg [oT 44 2 6,oS 2 4 44,oB 5 true]
 (.fz [4,5] .ret))))))⟩
def Yoc(lo:Lo):FnE:=Zfe 522 true (Zsg [0,1] [.ag [.l (cs [.s]),.l Zc6],.ag [.l (cs [.s]),.l Zc6]] []) (.tp [.ag [.l (cs [.s]),.l Zc11],.b]) [] (fun x=>q140 lo x.1 x.2.1 x.2.2.1 x.2.2.2:Zt2×Zt0×Zt2×Zt0->Option (Zt2×Zt4×Bool))
noncomputable def YEO(lo:Lo):List FnE:=Yoc lo::YEN lo
theorem YAQ(h:GZ P fm YEN lo)(t:Ti P fm 522 YAP):GZ P fm YEO lo:=
  h.p (Yoc lo) (YAO lo) t
end Go.Abs.G47
namespace Go.Abs.G47
open Go Go.Abs
set_option maxRecDepth 100000
set_option maxHeartbeats 1000000
variable{P:Program}{fm:FM}{lo:Lo}
def Yod(F:Zt2×Zt4×Zt0×Zt0->Option (Zt2×Zt4×Bool)):FnE:=⟨523,true,(Zsg [0,1,2] [.ag [.l (cs [.s]),.l Zc11],.l Zc6,.l Zc6] []),.tp [.ag [.l (cs [.s]),.l Zc11],.b],[],(cs [.l (cs [.s]),.l Zc11,.b]),F⟩
def q141_L3_b:VCode:=
 (.seq (Rg [oM 17 8,oM 18 2,oN 19 18,oR 20 .lss 17 19]
 (Ce 20 0))
 (.seq (.blk 1 (.seq (Rg [oM 23 2,oM 24 8,oI 25 2 23 24,oF 26 0 25,oL 27 26,oM 28 1,o 29 (.iad 2 28 (k 0)),oF 30 0 29,oL 31 30,oR 32 .neq 27 31]
 (.cond 32 (.exit 1)
 .skip))
 (Rg [⟨some 34,.load true 2 3,none,true,false⟩,oM 35 1,⟨some 36,.iad 2 35 (k 0),none,true,false⟩,⟨some 37,.load true 2 36,none,true,false⟩,oM 38 2,oM 39 8,⟨some 40,.iad 2 38 39,none,true,false⟩,oF 41 1 40,⟨some 42,.load false 1 41,none,true,false⟩,⟨some 43,.call 526 [34,37,42],none,true,false⟩,oM 33 43,oE 44 33 0,oE 45 33 1,o 9 (.alloc [.e (cs [.s]),.e Zc11]),oS 2 9 44,oM 10 45]
 (Rg [oM 46 10]
 (.cond 46 (Rg [⟨some 48,.load true 2 9,none,true,false⟩,oM 49 1,o 50 (.slcR 2 49 (some (k 1)) none),oM 51 2,⟨some 52,.call 523 [48,50,51],none,true,false⟩,oM 47 52,oE 53 47 0,oE 54 47 1,o 11 (.alloc [.e (cs [.s]),.e Zc11]),oS 2 11 53,oM 12 54]
 (Rg [oM 55 12]
 (.cond 55 (Rg [oT 56 2 11,oS 2 6 56,oB 7 true]
 (.fz [6,7] .ret))
 .skip)))
 .skip)))))
 (.reg [oM 21 8,oR 22 .add 21 (k 1),oM 8 22])))
def YbN(lo:Lo)(rec:Zt2×Zt4×Zt0×Zt0->Option (Zt2×Zt4×Bool)):Zp61->Option (Zp61⊕ ((Bool×Zt2×Zt4)⊕ (Zt2×Zt4×Zt2×Zt4))):=fun x=>match x with
  | (from1,to2,i8,b3_0,b3_1,v6_0,v6_1)=>bif(decide (i8< (to2.length:Int)))then(chk (0<=i8/\i8< (to2.length:Int)) (chk (0<=(0:Int)/\ (0:Int)< (from1.length:Int)) (bif(!decide ((to2.getD i8.toNat ((YHJ #[]),[])).1=(from1.getD 0 ((YHJ #[]),[])).1))then(some (.inl (from1,to2,(YHK .i64 (i8+1)),b3_0,b3_1,v6_0,v6_1)))else(chk (0<=(0:Int)/\ (0:Int)< (from1.length:Int)) (chk (0<=i8/\i8< (to2.length:Int)) (YHq (q129 lo b3_0 b3_1 ((from1.getD 0 ((YHJ #[]),[])).1) ((from1.getD 0 ((YHJ #[]),[])).2) ((to2.getD i8.toNat ((YHJ #[]),[])).2)) fun y569=>bif y569.2.2 then(chk (0<=(1:Int)/\ (1:Int)<=(from1.length:Int)/\ (from1.length:Int)<=(from1.length:Int)) (YHq (rec (y569.1,y569.2.1,((from1.take (from1.length:Int).toNat).drop 1),to2)) fun y570=>bif y570.2.2 then(some (.inr (.inl (true,y570.1,y570.2.1))))else(some (.inl (from1,to2,(YHK .i64 (i8+1)),b3_0,b3_1,v6_0,v6_1)))))else(some (.inl (from1,to2,(YHK .i64 (i8+1)),b3_0,b3_1,v6_0,v6_1)))))))))else(some (.inr (.inr (b3_0,b3_1,v6_0,v6_1))))
def Yc7(lo:Lo)(rec:Zt2×Zt4×Zt0×Zt0->Option (Zt2×Zt4×Bool)):Zp61->Option ((Bool×Zt2×Zt4)⊕ (Zt2×Zt4×Zt2×Zt4)):=lo.run (YbN lo rec)
def YAR(lo:Lo)(rec:Zt2×Zt4×Zt0×Zt0->Option (Zt2×Zt4×Bool)):LpE:=⟨3,[],(Zsg [1,2,3,6,8] [.l Zc6,.l Zc6,.ptr 0 0 0,.ptr 1 0 0,.j] [.st [.l (cs [.s]),.l Zc11],.st [.l (cs [.s]),.l Zc11]]),[⟨.ret,(Zsg [6,7] [.ptr 0 0 0,.b] [.st [.l (cs [.s]),.l Zc11]])⟩,⟨.exit 0,(Zsg [3,6] [.ptr 0 0 0,.ptr 1 0 0] [.st [.l (cs [.s]),.l Zc11],.st [.l (cs [.s]),.l Zc11]])⟩],Yc7 lo rec⟩
def Yoe(lo:Lo)(rec:Zt2×Zt4×Zt0×Zt0->Option (Zt2×Zt4×Bool)):LL:=(YAR lo rec,.loop q141_L3_b.er)::[]
theorem YAS(lo:Lo)(rec:Zt2×Zt4×Zt0×Zt0->Option (Zt2×Zt4×Bool)):Lk lo pf (Yod rec::YEO lo) 0 (Yoe lo rec):=.l .n (YbN lo rec)
def YeR(lo:Lo)(rec:Zt2×Zt4×Zt0×Zt0->Option (Zt2×Zt4×Bool))(b0_0:List ByteArray)(b0_1:List Zp64)(from1:List (ByteArray×Zt4))(to2:List (ByteArray×Zt4)):Option (Zt2×Zt4×Bool):=
  bif(decide ((from1.length:Int)=0))then(some (b0_0,b0_1,true))else(YHq (Yc7 lo rec (from1,to2,(0:Int),b0_0,b0_1,([]:List ByteArray),([]:List Zp64))) fun y571=>alt2 y571 (fun y572=>some (y572.2.1,y572.2.2,y572.1)) (fun y573=>some (y573.1,y573.2.1,false)))
def Ybc(lo:Lo):Nat->Zt2×Zt4×Zt0×Zt0->Option (Zt2×Zt4×Bool)
  |0,_=>none
  |n+1,x=>YeR lo (Ybc lo n) x.1 x.2.1 x.2.2.1 x.2.2.2
def q141(lo:Lo)(b0_0:List ByteArray)(b0_1:List Zp64)(from1:List (ByteArray×Zt4))(to2:List (ByteArray×Zt4)):Option (Zt2×Zt4×Bool):=lo.run (fixS (Ybc lo)) (0,(b0_0,b0_1,from1,to2))
def YAT:VFn:=⟨true,58,[.c 6 true 2,.t 7],
 (Rg [oG 3 0,o 6 (.alloc [.e (cs [.s]),.e Zc11]),oB 7 false]
 (.seq (Rg [oM 13 1,oN 14 13,oR 15 .eql 14 (k 0)]
 (.cond 15 (Rg [oT 16 2 3,oS 2 6 16,oB 7 true]
 (.fz [6,7] .ret))
 .skip))
 (.seq (Rg [oK 8 0]
 (.blk 0 (.loop 3 q141_L3_b)))
 (Rg [oT 57 2 3,oS 2 6 57,oB 7 false]
 (.fz [6,7] .ret)))))⟩
def Yof(lo:Lo):FnE:=Yod (fun x=>q141 lo x.1 x.2.1 x.2.2.1 x.2.2.2)
noncomputable def YFb(lo:Lo):List FnE:=Yof lo::YEO lo
theorem YAU(h:GZ P fm YEO lo)(t:Ti P fm 523 YAT):GZ P fm YFb lo:=
  h.pr (Yof lo) (Ybc lo) (ls:=fun rec=>Yoe lo rec) (fun rec=>(YAS lo rec)) t (by kernel_rfl) (fun _=>rfl) rfl (fun _=>by kernel_rfl) fun n x=>by kernel_rfl
def q142(lo:Lo)(from0_0:List ByteArray)(from0_1:List (ByteArray×Zt4))(to1_0:List ByteArray)(to1_1:List (ByteArray×Zt4)):Option Bool:=
  YHq (q139 lo from0_0 from0_1) fun y565=>bif(!y565)then(some false)else(YHq (q139 lo to1_0 to1_1) fun y566=>bif(!y566)then(some false)else(YHq (q140 lo from0_0 from0_1 to1_0 to1_1) fun y568=>bif(!y568.2.2)then(some false)else(YHq (q141 lo y568.1 y568.2.1 from0_1 to1_1) fun y574=>some y574.2.2)))
def YAV:VFn:=⟨true,33,[.t 4],
 (Rg [oG 2 0,oG 3 1,oB 4 false]
 (.seq (Rg [oT 7 2 2,oC 8 488 [7],oX 9 8,oM 10 9,gF 11 10 (.load true 2 3),gF 12 10 (.call 488 [11]),gF 13 10 (.not 12),oP 14 10 (kb true) 13]
 (.cond 14 (Rg [oB 4 false]
 (Fr 4))
 .skip))
 (Rg [oT 16 2 2,oT 17 2 3,oC 18 522 [16,17],oM 15 18,oE 19 15 0,oE 20 15 1,o 5 (.alloc [.e (cs [.s]),.e Zc11]),oS 2 5 19,oM 6 20]
 (.seq (Rg [oM 21 6,oX 22 21]
 (.cond 22 (Rg [oB 4 false]
 (Fr 4))
 .skip))
 (Rg [oT 24 2 5,oF 25 1 2,oL 26 25,oF 27 1 3,oL 28 27,oC 29 523 [24,26,28],oM 23 29,oE 30 23 0,oE 31 23 1,oM 6 31]
 (Rg [oM 32 6,oM 4 32]
 (Fr 4)))))))⟩
def Yog(lo:Lo):FnE:=Zfe 480 true (Zsg [0,1] [.ag [.l (cs [.s]),.l Zc6],.ag [.l (cs [.s]),.l Zc6]] []) .b [] (fun x=>q142 lo x.1 x.2.1 x.2.2.1 x.2.2.2:Zt2×Zt0×Zt2×Zt0->Option Bool)
noncomputable def YFS(lo:Lo):List FnE:=Yog lo::YFb lo
theorem YAW(h:GZ P fm YFb lo)(t:Ti P fm 480 YAV):GZ P fm YFS lo:=
  h.p (Yog lo) .n t
noncomputable def YGg(lo:Lo):List FnE:=YFS lo
noncomputable def YFc(lo:Lo):List FnE:=YGg lo
def q145_L3_b:VCode:=
 (.seq (Rg [oM 6 5,oM 7 0,oN 8 7,oR 9 .lss 6 8]
 (Ce 9 0))
 (.seq (.blk 1 (Rg [oM 12 1,oM 13 0,oM 14 5,oI 15 1 13 14,oL 16 15,oC 17 518 [12,16],oX 18 17]
 (.cond 18 (Rg [oB 4 false]
 (Fr 4))
 .skip)))
 (.reg [oM 10 5,oR 11 .add 10 (k 1),oM 5 11])))
def YeS(lo:Lo):Zt22×Zt22×Int->Option ((Zt22×Zt22×Int)⊕ (Bool⊕Unit)):=fun x=>match x with
  | (a0,b1,i5)=>bif(decide (i5< (a0.length:Int)))then(chk (0<=i5/\i5< (a0.length:Int)) (YHq (q135 lo b1 (a0.getD i5.toNat [])) fun y600=>bif(!y600)then(some (.inr (.inl false)))else(some (.inl (a0,b1,(YHK .i64 (i5+1)))))))else(some (.inr (.inr ())))
def Yhm(lo:Lo):Zt22×Zt22×Int->Option (Bool⊕Unit):=lo.run (YeS lo)
def YAX(lo:Lo):LpE:=⟨3,[],(Zsg [0,1,5] [.l Zc23,.l Zc23,.j] []),[⟨.ret,(Zsg [4] [.b] [])⟩,⟨.exit 0,(Zsg [] [] [])⟩],Yhm lo⟩
def YAY(lo:Lo):LL:=(YAX lo,.loop q145_L3_b.er)::[]
theorem YAZ(lo:Lo):Lk lo pf (YFc lo) 0 (YAY lo):=.l .n (YeS lo)
def q145(lo:Lo)(a0:List (Zt3))(b1:List (Zt3)):Option Bool:=
  YHq (Yhm lo (a0,b1,(0:Int))) fun y601=>alt2 y601 (fun y602=>some y602) (fun y603=>some true)
def YA0:VFn:=⟨true,19,[.t 4],
 (Rg [oB 4 false]
 (.seq (Rg [oK 5 0]
 (.blk 0 (.loop 3 q145_L3_b)))
 (Rg [oB 4 true]
 (Fr 4))))⟩
def Yoh(lo:Lo):FnE:=Zfe 483 true (Zsg [0,1] [.l Zc23,.l Zc23] []) .b [] (fun x=>q145 lo x.1 x.2:Zt22×Zt22->Option Bool)
noncomputable def YFd(lo:Lo):List FnE:=Yoh lo::YFc lo
theorem YA1(h:GZ P fm YFc lo)(t:Ti P fm 483 YA0):GZ P fm YFd lo:=
  h.p (Yoh lo) (YAZ lo) t
noncomputable def q146(lo:Lo)(d0:List (Int×Int×Zt12))(x1_0:List Int)(x1_1:List (Int× (List Int)))(y2_0:List Int)(y2_1:List (Int× (List Int))):Option Bool:=
  YHq (q120 lo d0) fun y588=>YHq (q122 lo y588.1 x1_0 x1_1) fun y589=>YHq (q122 lo y588.1 y2_0 y2_1) fun y590=>YHq (q99 lo) fun y591=>bif(!y591)then(YHq (q99 lo) fun y592=>some y592)else(bif(!y588.2)then(YHq (q99 lo) fun y593=>some y593)else(bif(!y589.2.2)then(YHq (q99 lo) fun y594=>some y594)else(bif(!y590.2.2)then(YHq (q99 lo) fun y595=>some y595)else(YHq (q86 lo y589.1 y589.2.1 y590.1 y590.2.1) fun y596=>YHq (q142 lo y590.1 y590.2.1 y589.1 y589.2.1) fun y597=>bif(!(y596==y597))then(some false)else(YHq (q66 lo y588.1 y589.1 y589.2.1) fun y598=>YHq (q66 lo y588.1 y590.1 y590.2.1) fun y599=>bif(decide (y598.2=(0:Int)))then(bif(decide (y599.2=(0:Int)))then(bif(!y596)then(some true)else(YHq (q145 lo y598.1 y599.1) fun y604=>some y604))else(some false))else(some false))))))
def YA2:VFn:=⟨true,85,[.t 6],
 (Rg [oG 4 1,oG 5 2,oB 6 false]
 (Rg [oM 19 0,oC 20 474 [19],oM 18 20,oE 21 18 0,oE 22 18 1,o 7 (.alloc [.e Zc7]),oS 1 7 21,oM 8 22]
 (Rg [oT 24 1 7,oT 25 2 4,oC 26 475 [24,25],oM 23 26,oE 27 23 0,oE 28 23 1,o 9 (.alloc [.e (cs [.s]),.e Zc6]),oS 2 9 27,oM 10 28]
 (Rg [oT 30 1 7,oT 31 2 5,oC 32 475 [30,31],oM 29 32,oE 33 29 0,oE 34 29 1,o 11 (.alloc [.e (cs [.s]),.e Zc6]),oS 2 11 33,oM 12 34]
 (.seq (Rg [oC 35 469 [],oX 36 35,oM 37 36,gF 38 37 (.mv 8),gF 39 37 (.not 38),oP 40 37 (kb true) 39,oM 41 40,gF 42 41 (.mv 10),gF 43 41 (.not 42),oP 44 41 (kb true) 43,oM 45 44,gF 46 45 (.mv 12),gF 47 45 (.not 46),oP 48 45 (kb true) 47]
 (.cond 48 (Rg [oC 49 469 [],oM 6 49]
 (Fr 6))
 .skip))
 (Rg [oT 50 2 9,oT 51 2 11,oC 52 482 [50,51],oM 13 52]
 (.seq (Rg [oM 53 13,oT 54 2 11,oT 55 2 9,oC 56 480 [54,55],o 57 (.beq true 53 56)]
 (.cond 57 (Rg [oB 6 false]
 (Fr 6))
 .skip))
 (Rg [oT 59 1 7,oT 60 2 9,oC 61 476 [59,60],oM 58 61,oE 62 58 0,oE 63 58 1,oM 14 62,oM 15 63]
 (Rg [oT 65 1 7,oT 66 2 11,oC 67 476 [65,66],oM 64 67,oE 68 64 0,oE 69 64 1,oM 16 68,oM 17 69]
 (Rg [oM 70 15,oR 71 .eql 70 (k 0),oM 72 71,gT 73 72 (.mv 17),gT 74 72 (.bin .eql 73 (k 0)),oP 75 72 74 (kb false),oM 76 75,gT 77 76 (.mv 13),gT 78 76 (.not 77),gT 79 76 (.mv 78),gF 80 79 (.mv 14),gF 81 79 (.mv 16),gF 82 79 (.call 483 [80,81]),gT 83 76 (.pick 79 (kb true) 82),oP 84 76 83 (kb false),oM 6 84]
 (Fr 6)))))))))))⟩
noncomputable def q146_f(lo:Lo):FnE:=Zfe 462 true (Zsg [0,1,2] [.l Zc25,.ag [.l Zc20,.l Zc21],.ag [.l Zc20,.l Zc21]] []) .b [] (fun x=>q146 lo x.1 x.2.1 x.2.2.1 x.2.2.2.1 x.2.2.2.2:Zt24× (List Int)×Zt19× (List Int)×Zt19->Option Bool)
noncomputable def YGh(lo:Lo):List FnE:=q146_f lo::YFd lo
theorem YA3(h:GZ P fm YFd lo)(t:Ti P fm 462 YA2):GZ P fm YGh lo:=
  h.p (q146_f lo) .n t
end Go.Abs.G47
