/- Functions of the program as functions of data (written by program). No condition. -/
import Derived.Test.YtppagmmeofoekaaDoorB
set_option linter.unusedVariables false
set_option linter.unusedSimpArgs false
set_option linter.unusedSectionVars false
open Nat renaming beq → Yxr, ble → Yxv
open Option renaming bind → YxD
open ByteArray renaming mk → YxW
open Go.IntKind renaming wrap → YxX
namespace Go.Abs.G1p
open Go Go.Abs
abbrev _root_.Go.Abs.SV.j:SV:=.i .i64
mutual
def ZtS:SV->List Ty
 | .i k=>[.i k]
 | .b=>[.b]
 | .s=>[.s]
 | .l c=>[.l c]
 | .pre _=>[I]
 | .ag l=>ZtL l
 | .tp l=>ZtL l
 | .clo _ l=>ZtL l
 |_=>[]
def ZtL:List SV->List Ty
 | []=>[]
 |a::r=>ZtS a++ZtL r
end
def ZtO:List SO->List Ty
 | []=>[]
 | .sq c::r=>.l c::ZtO r
 | .fm A _ c::r=>.l (sn c A)::ZtO r
 | .fp o c::r=>I:: .l (mapC o (.l c) .nil)::ZtO r
 | .st l::r=>ZtL l++ZtO r
 | .sb::r=>.s::ZtO r
 | .dd::r=>ZtO r
abbrev Zsg(t:List Nat)(v:List SV)(o:List SO):Sg:=⟨t,v,o,cs (ZtL v++ZtO o)⟩
abbrev Zfe(g:Nat)(p:Bool)(a:Sg)(r:SV)(o:List SO)(F:a.c.den->Option (cs (ZtS r++ZtO o)).den):FnE:=⟨g,p,a,r,o,_,F⟩
abbrev Zt0:Type:=List (Int× (List Int)×Int×Int)
abbrev Zc1:Cs:=cs [I,.l (cs [I]),.i .u32,.i .u32]
abbrev Zt2:Type:=List (Int×Int)
abbrev Zc3:Cs:=cs [.i .u32,.i .u32]
abbrev Zp4:Type:=Zt0×Int×Int× (List Bool)× (List Int)×Zt0×Int×Int×Int× (List Int)
abbrev Zp5:Type:=(List Int)×Int×Int×Int× (List Int)×Int×Int× (List ByteArray)
abbrev Zp6:Type:=Zt2×Int×Int× (List Int)×Int×Int×Int×Int×Zt0
abbrev Zp7:Type:=Int× (List Int)×Int×Int× (List ByteArray)
abbrev Zp8:Type:=Int×Int× (List Int)×Int×Int×Int×Int
abbrev Zp9:Type:=Zt0×Int×Int×Int× (List Int)×Int×Int
abbrev Zp10:Type:=Zt0×Int× (List Bool)× (List Int)×Zt0
abbrev Zp11:Type:=Int×Int×Int× (List Int)×Int×Int
instance{n:Nat}:OfNat VOpd n:=⟨.t n⟩
abbrev Rg(l:List VI)(b:VCode):VCode:=.seq (.reg l) b
abbrev Fr(n:Nat):VCode:=.fz [n] .ret
abbrev Ce(c e:Nat):VCode:=.cond (t c) .skip (.exit e)
abbrev oM(n a:Nat):VI:=o n (.mv (t a))
abbrev oL(n a:Nat):VI:=o n (.load false 1 (t a))
abbrev oT(n s a:Nat):VI:=o n (.load true s (t a))
abbrev oF(n i a:Nat):VI:=o n (.fad i (t a))
abbrev oE(n a i:Nat):VI:=o n (.ext (t a) i)
abbrev oN(n a:Nat):VI:=o n (.len (t a))
abbrev oI(n e a i:Nat):VI:=o n (.iad e (t a) (t i))
abbrev oS(n a b:Nat):VI:=on (.store n (t a) (t b))
abbrev oP(n c:Nat)(a b:VOpd):VI:=o n (.pick (t c) a b)
abbrev oK(n:Nat)(a:Int):VI:=o n (.mv (k a))
abbrev oB(n:Nat)(a:Bool):VI:=o n (.mv (kb a))
abbrev oC(n f:Nat)(l:List VOpd):VI:=o n (.call f l)
abbrev oX(n a:Nat):VI:=o n (.not (t a))
abbrev oG(n a:Nat):VI:=o n (.box (t a))
abbrev oR(n:Nat)(p:BinOp)(a b:VOpd):VI:=o n (.bin p a b)
abbrev gT(n g:Nat)(p:VOp):VI:=og n g true p
abbrev gF(n g:Nat)(p:VOp):VI:=og n g false p
set_option maxRecDepth 100000
set_option maxHeartbeats 1000000
variable{P:Program}{fm:FM}{lo:Lo}
abbrev pf:Nat->Bool:=fun g=> !(List.any ([140,149,151,154,158,164,170,188,189,1079,193,1080,196,197,198,200,204,205,206,207,208,211,147,148,162,177,178,179,181,182,184,185,194,1084,143]:List Nat) (Yxr g))
abbrev GZ(P:Program)(fm:FM)(fs:Lo->List FnE)(lo:Lo):Prop:=GS P fm pf (fs lo) lo
abbrev Ti(P:Program)(fm:FM)(g:Nat)(F:VFn):Prop:=TieF P fm pf g F
def fs0(_:Lo):List FnE:=[]
def q0_L3_b:VCode:=
 (.seq (Rg [oM 5 4,oM 6 0,oR 7 .lss 5 6,oM 8 7,gT 9 8 (.mv 4),gT 10 8 (.bin .lss 9 (k 32)),oP 11 8 10 (kb false)]
 (Ce 11 0))
 (.seq (.blk 1 (.reg [oM 14 3,oM 15 4,oR 16 .shl (ki .u32 1) 15,oR 17 .or 14 16,oM 3 17]))
 (.reg [oM 12 4,oR 13 .add 12 (k 1),oM 4 13])))
def YjT(lo:Lo):Int×Int×Int->Option ((Int×Int×Int)⊕Int):=fun x=>match x with
  | (n0,s3,i4)=>bif(decide (i4<n0))then(bif(decide (i4<32))then(chk (0<=i4) (some (.inl (n0,(bits .or .u32 s3 (YxX .u32 ((1:Int)*2^(min i4.toNat (IntKind.bits .u32))))),(YxX .i64 (i4+1))))))else(some (.inr s3)))else(some (.inr s3))
def YjU(lo:Lo):Int×Int×Int->Option Int:=lo.run (YjT lo)
def Yp3(lo:Lo):LpE:=⟨3,[],(Zsg [0,3,4] [.j,.i .u32,.j] []),[⟨.exit 0,(Zsg [3] [.i .u32] [])⟩],YjU lo⟩
def Yp4(lo:Lo):LL:=(Yp3 lo,.loop q0_L3_b.er)::[]
theorem Yp5(lo:Lo):Lk lo pf (fs0 lo) 0 (Yp4 lo):=.l .n (YjT lo)
def q0(lo:Lo)(n0:Int):Option Int:=
  YxD (YjU lo (n0,(0:Int),(0:Int))) fun y0=>some y0
def Yp6:VFn:=⟨true,19,[.t 2],
 (Rg [o 2 (.mv (ki .u32 0))]
 (Rg [o 3 (.mv (ki .u32 0))]
 (.seq (Rg [oK 4 0]
 (.blk 0 (.loop 3 q0_L3_b)))
 (Rg [oM 18 3,oM 2 18]
 (Fr 2)))))⟩
def YjV(lo:Lo):FnE:=Zfe 118 true (Zsg [0] [.j] []) (.i .u32) [] (fun x=>q0 lo x:Int->Option Int)
def fs1(lo:Lo):List FnE:=YjV lo::fs0 lo
theorem Yp7(h:GZ P fm fs0 lo)(t:Ti P fm 118 Yp6):GZ P fm fs1 lo:=
  h.p (YjV lo) (Yp5 lo) t
def q1_L3_b:VCode:=
 (.seq (Rg [oM 10 7,oM 11 1,oN 12 11,oR 13 .lss 10 12]
 (Ce 13 0))
 (.seq (.blk 1 (.reg [oM 16 6,oM 17 1,oM 18 7,oI 19 2 17 18,oF 20 0 19,oL 21 20,o 22 (.conv .u32 21),oM 23 5,oR 24 .and 22 23,oM 25 1,oM 26 7,oI 27 2 25 26,oF 28 1 27,oL 29 28,o 30 (.conv .u32 29),oM 31 5,oR 32 .and 30 31,o 33 (.build [.i .u32 0,.i .u32 0] [(0,1,24),(1,1,32)]),o 34 (.bsl Zc3 1 [(0,33)]),o 35 (.app Zc3 0 16 34),oM 6 35]))
 (.reg [oM 14 7,oR 15 .add 14 (k 1),oM 7 15])))
def Yei(lo:Lo):Zt2×Int×Int×Zt2->Option ((Zt2×Int×Int×Zt2)⊕ ((Zt2))):=fun x=>match x with
  | (l1,all5,i7,out6)=>bif(decide (i7< (l1.length:Int)))then(chk (0<=i7/\i7< (l1.length:Int)) (chk (0<=i7/\i7< (l1.length:Int)) (chk (out6.length+([((bits .and .u32 (YxX .u32 ((l1.getD i7.toNat ((0:Int),(0:Int))).1)) all5),(bits .and .u32 (YxX .u32 ((l1.getD i7.toNat ((0:Int),(0:Int))).2)) all5))]).length<=maxEl) (some (.inl (l1,all5,(YxX .i64 (i7+1)),(out6++([((bits .and .u32 (YxX .u32 ((l1.getD i7.toNat ((0:Int),(0:Int))).1)) all5),(bits .and .u32 (YxX .u32 ((l1.getD i7.toNat ((0:Int),(0:Int))).2)) all5))]))))))))else(some (.inr out6))
def Yej(lo:Lo):Zt2×Int×Int×Zt2->Option ((Zt2)):=lo.run (Yei lo)
def Yp8(lo:Lo):LpE:=⟨3,[(6,none,false)],(Zsg [1,5,6,7] [.l (cs [.i .u8,.i .u8]),.i .u32,.ref 0,.j] [.sq Zc3]),[⟨.exit 0,(Zsg [6] [.ref 0] [.sq Zc3])⟩],Yej lo⟩
def Yp9(lo:Lo):LL:=(Yp8 lo,.loop q1_L3_b.er)::[]
theorem Yqa(lo:Lo):Lk lo pf (fs1 lo) 0 (Yp9 lo):=.l .n (Yei lo)
def q1(lo:Lo)(n0:Int)(l1:List (Int×Int)):Option (Zt2):=
  YxD (q0 lo n0) fun y1=>YxD (Yej lo (l1,y1,(0:Int),[])) fun y2=>some y2
def Yqb:VFn:=⟨true,37,[.t 4],
 (Rg [o 4 (.mv (ke Zc3))]
 (Rg [oM 8 0,oC 9 118 [8],oM 5 9]
 (Rg [o 6 (.mv (ke Zc3))]
 (.seq (Rg [oK 7 0]
 (.blk 0 (.loop 3 q1_L3_b)))
 (Rg [oM 36 6,oM 4 36]
 (Fr 4))))))⟩
def YjW(lo:Lo):FnE:=Zfe 130 true (Zsg [0,1] [.j,.l (cs [.i .u8,.i .u8])] []) (.l Zc3) [] (fun x=>q1 lo x.1 x.2:Int×Zt2->Option (Zt2))
def fs2(lo:Lo):List FnE:=YjW lo::fs1 lo
theorem Yqc(h:GZ P fm fs1 lo)(t:Ti P fm 130 Yqb):GZ P fm fs2 lo:=
  h.p (YjW lo) (Yqa lo) t
def q2(lo:Lo)(d0_0:Int)(d0_1:List (Int×Int)):Option (Int×Zt2×Bool):=
  chk ((7:Int)≠0) (YxD (q1 lo (YxX .i64 (d0_0.tmod (7:Int))) d0_1) fun y3=>some ((YxX .i64 (d0_0.tmod (7:Int))),y3,(decide ((d0_1.length:Int)<=6))))
def Yqd:VFn:=⟨true,19,[.t 2,.t 3,.t 4],
 (Rg [oG 1 0,oK 2 0,o 3 (.mv (ke Zc3)),oB 4 false]
 (Rg [oF 6 0 1,oL 7 6,oR 8 .rem 7 (ki .u8 7),o 9 (.conv .i64 8),oM 5 9]
 (Rg [oM 10 5,oM 11 5,oF 12 1 1,oL 13 12,oC 14 130 [11,13],oF 15 1 1,oL 16 15,oN 17 16,oR 18 .leq 17 (k 6),oM 2 10,oM 3 14,oM 4 18]
 (.fz [2,3,4] .ret))))⟩
def YjX(lo:Lo):FnE:=Zfe 108 true (Zsg [0] [.ag [.i .u8,.l (cs [.i .u8,.i .u8])]] []) (.tp [.j,.l Zc3,.b]) [] (fun x=>q2 lo x.1 x.2:Int×Zt2->Option (Int×Zt2×Bool))
def fs3(lo:Lo):List FnE:=YjX lo::fs2 lo
theorem Yqe(h:GZ P fm fs2 lo)(t:Ti P fm 108 Yqd):GZ P fm fs3 lo:=
  h.p (YjX lo) .n t
def q3(lo:Lo):Option (Zt2×Zt0):=
  chk (0<=(0:Int)/\ (0:Int)< (([((1:Int),(2:Int)),((2:Int),(4:Int))]).length:Int)) (chk (0<=(1:Int)/\ (1:Int)< (([((1:Int),(2:Int)),((2:Int),(4:Int))]).length:Int)) (some ([((1:Int),(2:Int)),((2:Int),(4:Int))],[((1:Int),[(0:Int)],(([((1:Int),(2:Int)),((2:Int),(4:Int))]).getD 0 ((0:Int),(0:Int))).1,(([((1:Int),(2:Int)),((2:Int),(4:Int))]).getD 0 ((0:Int),(0:Int))).2),((1:Int),[(1:Int)],(([((1:Int),(2:Int)),((2:Int),(4:Int))]).getD 1 ((0:Int),(0:Int))).1,(([((1:Int),(2:Int)),((2:Int),(4:Int))]).getD 1 ((0:Int),(0:Int))).2),((4:Int),[(0:Int),(1:Int)],(1:Int),(4:Int))])))
def Yqf:VFn:=⟨true,21,[.t 0,.t 1],
 (Rg [o 0 (.mv (ke Zc3)),o 1 (.mv (ke Zc1))]
 (Rg [o 3 (.build [.i .u32 0,.i .u32 0] [(0,1,(ki .u32 1)),(1,1,(ki .u32 2))]),o 4 (.build [.i .u32 0,.i .u32 0] [(0,1,(ki .u32 2)),(1,1,(ki .u32 4))]),o 5 (.bsl Zc3 2 [(0,3),(1,4)]),oM 2 5]
 (Rg [oM 6 2,o 7 (.bsl (cs [I]) 1 [(0,(k 0))]),oM 8 2,o 9 (.iad 2 8 (k 0)),oT 10 2 9,o 11 (.build [.i .i64 0,.e (cs [I]),.i .u32 0,.i .u32 0] [(0,1,(k 1)),(1,1,7),(2,2,10)]),o 12 (.bsl (cs [I]) 1 [(0,(k 1))]),oM 13 2,o 14 (.iad 2 13 (k 1)),oT 15 2 14,o 16 (.build [.i .i64 0,.e (cs [I]),.i .u32 0,.i .u32 0] [(0,1,(k 1)),(1,1,12),(2,2,15)]),o 17 (.bsl (cs [I]) 2 [(0,(k 0)),(1,(k 1))]),o 18 (.build [.i .u32 0,.i .u32 0] [(0,1,(ki .u32 1)),(1,1,(ki .u32 4))]),o 19 (.build [.i .i64 0,.e (cs [I]),.i .u32 0,.i .u32 0] [(0,1,(k 4)),(1,1,17),(2,2,18)]),o 20 (.bsl Zc1 3 [(0,11),(1,16),(2,19)]),oM 0 6,oM 1 20]
 (.fz [0,1] .ret))))⟩
def YjY(lo:Lo):FnE:=Zfe 131 true (Zsg [] [] []) (.tp [.l Zc3,.l Zc1]) [] (fun x=>q3 lo:Unit->Option (Zt2×Zt0))
def fs4(lo:Lo):List FnE:=YjY lo::fs3 lo
theorem Yqg(h:GZ P fm fs3 lo)(t:Ti P fm 131 Yqf):GZ P fm fs4 lo:=
  h.p (YjY lo) .n t
def q4_L3_b:VCode:=
 (Rg [oR 19 .lss 18 17]
 (.seq (Ce 19 0)
 (.seq (.blk 1 (Rg [oI 20 2 16 18,oT 21 2 20,o 6 (.alloc [.i .u32 0,.i .u32 0]),oS 2 6 21]
 (Rg [oF 22 0 6,oL 23 22,oF 24 1 6,oL 25 24,oR 26 .or 23 25,oM 27 0,oR 28 .shr 26 27,oR 29 .neq 28 (ki .u32 0)]
 (.cond 29 (Rg [oK 4 1]
 (Fr 4))
 .skip))))
 (.reg [oR 30 .add 18 (k 1),oM 18 30]))))
def Ycj(lo:Lo):Int×Zt2×Int×Int->Option ((Int×Zt2×Int×Int)⊕ (Int⊕Unit)):=fun x=>match x with
  | (n0,v16,v17,v18)=>bif(decide (v18<v17))then(chk (0<=v18/\v18< (v16.length:Int)) (chk (0<=n0) (bif(!decide (((bits .or .u32 ((v16.getD v18.toNat ((0:Int),(0:Int))).1) ((v16.getD v18.toNat ((0:Int),(0:Int))).2)).fdiv (2^(min n0.toNat (IntKind.bits .u32))))=(0:Int)))then(some (.inr (.inl (1:Int))))else(some (.inl (n0,v16,v17,(YxX .i64 (v18+1))))))))else(some (.inr (.inr ())))
def YaO(lo:Lo):Int×Zt2×Int×Int->Option (Int⊕Unit):=lo.run (Ycj lo)
def Yqh(lo:Lo):LpE:=⟨3,[],(Zsg [0,16,17,18] [.j,.l Zc3,.j,.j] []),[⟨.ret,(Zsg [4] [.j] [])⟩,⟨.exit 0,(Zsg [] [] [])⟩],YaO lo⟩
def Yqi(lo:Lo):LL:=(Yqh lo,.loop q4_L3_b.er)::[]
theorem Yqj(lo:Lo):Lk lo pf (fs4 lo) 0 (Yqi lo):=.l .n (Ycj lo)
def q4(lo:Lo)(n0:Int)(fds1:List (Int×Int)):Option Int:=
  bif(decide (n0<0))then(some (7:Int))else(bif(decide (16<n0))then(some (7:Int))else(bif(decide ((64:Int)< (fds1.length:Int)))then(some (3:Int))else(YxD (YaO lo (n0,fds1,(fds1.length:Int),(0:Int))) fun y6=>alt2 y6 (fun y7=>some y7) (fun y8=>some (0:Int)))))
def Yqk:VFn:=⟨true,31,[.t 4],
 (Rg [oK 4 0]
 (.seq (Rg [oM 7 0,oR 8 .lss 7 (k 0),oM 9 8,gF 10 9 (.mv 0),gF 11 9 (.bin .gtr 10 (k 16)),oP 12 9 (kb true) 11]
 (.cond 12 (Rg [oK 4 7]
 (Fr 4))
 .skip))
 (.seq (Rg [oM 13 1,oN 14 13,oR 15 .gtr 14 (k 64)]
 (.cond 15 (Rg [oK 4 3]
 (Fr 4))
 .skip))
 (.seq (Rg [oM 16 1,oN 17 16,oK 18 0]
 (.blk 0 (.loop 3 q4_L3_b)))
 (Rg [oK 4 0]
 (Fr 4))))))⟩
def YjZ(lo:Lo):FnE:=Zfe 132 true (Zsg [0,1] [.j,.l Zc3] []) (.i .i64) [] (fun x=>q4 lo x.1 x.2:Int×Zt2->Option Int)
def fs5(lo:Lo):List FnE:=YjZ lo::fs4 lo
theorem Yql(h:GZ P fm fs4 lo)(t:Ti P fm 132 Yqk):GZ P fm fs5 lo:=
  h.p (YjZ lo) (Yqj lo) t
def q5(lo:Lo)(n0:Int):Option Int:=
  chk (0<=n0) (some (YxX .u32 ((YxX .u32 ((1:Int)*2^(min n0.toNat (IntKind.bits .u32))))-(1:Int))))
def Yqm:VFn:=⟨true,6,[.t 2],
 (Rg [o 2 (.mv (ki .u32 0))]
 (Rg [oM 3 0,oR 4 .shl (ki .u32 1) 3,oR 5 .sub 4 (ki .u32 1),oM 2 5]
 (Fr 2)))⟩
def Yj0(lo:Lo):FnE:=Zfe 138 true (Zsg [0] [.j] []) (.i .u32) [] (fun x=>q5 lo x:Int->Option Int)
def fs6(lo:Lo):List FnE:=Yj0 lo::fs5 lo
theorem Yqn(h:GZ P fm fs5 lo)(t:Ti P fm 138 Yqm):GZ P fm fs6 lo:=
  h.p (Yj0 lo) .n t
def q6(lo:Lo)(a0:Int)(b1:Int):Option Bool:=
  some (decide ((bits .andNot .u32 a0 b1)=(0:Int)))
def Yqo:VFn:=⟨true,9,[.t 4],
 (Rg [oB 4 false]
 (Rg [oM 5 0,oM 6 1,oR 7 .andNot 5 6,oR 8 .eql 7 (ki .u32 0),oM 4 8]
 (Fr 4)))⟩
def Yj1(lo:Lo):FnE:=Zfe 137 true (Zsg [0,1] [.i .u32,.i .u32] []) .b [] (fun x=>q6 lo x.1 x.2:Int×Int->Option Bool)
def fs7(lo:Lo):List FnE:=Yj1 lo::fs6 lo
theorem Yqp(h:GZ P fm fs6 lo)(t:Ti P fm 137 Yqo):GZ P fm fs7 lo:=
  h.p (Yj1 lo) .n t
def q7(lo:Lo)(k0:Int)(v1:Int)(v2:List (Int× (List Int)×Int×Int)):Option (Int×Int×Bool×Int×Zt0):=
  bif(decide (k0<0))then(some ((0:Int),(0:Int),false,v1,v2))else(bif(decide (v1<=k0))then(some ((0:Int),(0:Int),false,v1,v2))else(chk (0<=k0/\k0< (v2.length:Int)) (some ((v2.getD k0.toNat ((0:Int),[],(0:Int),(0:Int))).2.2.1,(v2.getD k0.toNat ((0:Int),[],(0:Int),(0:Int))).2.2.2,true,v1,v2))))
def Yqq:VFn:=⟨true,19,[.c 4 true 2,.t 5],
 (Rg [o 4 (.alloc [.i .u32 0,.i .u32 0]),oB 5 false]
 (.seq (Rg [oM 6 0,oR 7 .lss 6 (k 0),oM 8 7,gF 9 8 (.mv 0),gF 10 8 (.load false 1 1),gF 11 8 (.bin .geq 9 10),oP 12 8 (kb true) 11]
 (.cond 12 (Rg [o 13 (.build [.i .u32 0,.i .u32 0] []),oS 2 4 13,oB 5 false]
 .ret)
 .skip))
 (Rg [oL 14 2,oM 15 0,oI 16 4 14 15,oF 17 2 16,oT 18 2 17,oS 2 4 18,oB 5 true]
 .ret)))⟩
def Yj2(lo:Lo):FnE:=Zfe 158 false (Zsg [0,1,2] [.j,.ptr 0 0 0,.ptr 1 0 0] [.st [.j],.st [.l Zc1]]) (.tp [.ag [.i .u32,.i .u32],.b]) [.st [.j],.st [.l Zc1]] (fun x=>q7 lo x.1 x.2.1 x.2.2:Int×Int×Zt0->Option (Int×Int×Bool×Int×Zt0))
def fs8(lo:Lo):List FnE:=Yj2 lo::fs7 lo
theorem Yqr(h:GZ P fm fs7 lo)(t:Ti P fm 158 Yqq):GZ P fm fs8 lo:=
  h.i (Yj2 lo) .n t
def q8(lo:Lo)(n0:Int)(fds1:List (Int×Int))(steps2:List (Int× (List Int)×Int×Int))(i3:Int):Option Bool:=
  chk (0<=i3/\i3< (steps2.length:Int)) (YxD (q5 lo n0) fun y10=>YxD (q6 lo (bits .or .u32 ((steps2.getD i3.toNat ((0:Int),[],(0:Int),(0:Int))).2.2.1) ((steps2.getD i3.toNat ((0:Int),[],(0:Int),(0:Int))).2.2.2)) y10) fun y11=>bif(!y11)then(some false)else(bif(decide ((steps2.getD i3.toNat ((0:Int),[],(0:Int),(0:Int))).1=(1:Int)))then(bif(decide ((((steps2.getD i3.toNat ((0:Int),[],(0:Int),(0:Int))).2.1).length:Int)=(1:Int)))then(chk (0<=(0:Int)/\ (0:Int)< (((steps2.getD i3.toNat ((0:Int),[],(0:Int),(0:Int))).2.1).length:Int)) (bif(decide ((0:Int)<=(((steps2.getD i3.toNat ((0:Int),[],(0:Int),(0:Int))).2.1).getD 0 (0:Int))))then(chk (0<=(0:Int)/\ (0:Int)< (((steps2.getD i3.toNat ((0:Int),[],(0:Int),(0:Int))).2.1).length:Int)) (bif(decide ((((steps2.getD i3.toNat ((0:Int),[],(0:Int),(0:Int))).2.1).getD 0 (0:Int))< (fds1.length:Int)))then(chk (0<=(0:Int)/\ (0:Int)< (((steps2.getD i3.toNat ((0:Int),[],(0:Int),(0:Int))).2.1).length:Int)) (chk (0<=(((steps2.getD i3.toNat ((0:Int),[],(0:Int),(0:Int))).2.1).getD 0 (0:Int))/\ (((steps2.getD i3.toNat ((0:Int),[],(0:Int),(0:Int))).2.1).getD 0 (0:Int))< (fds1.length:Int)) (some ((decide ((fds1.getD ((((steps2.getD i3.toNat ((0:Int),[],(0:Int),(0:Int))).2.1).getD 0 (0:Int)).toNat) ((0:Int),(0:Int))).1=(steps2.getD i3.toNat ((0:Int),[],(0:Int),(0:Int))).2.2.1))&& ((decide ((fds1.getD ((((steps2.getD i3.toNat ((0:Int),[],(0:Int),(0:Int))).2.1).getD 0 (0:Int)).toNat) ((0:Int),(0:Int))).2=(steps2.getD i3.toNat ((0:Int),[],(0:Int),(0:Int))).2.2.2))&&true)))))else(some false)))else(some false)))else(some false))else(bif(decide ((steps2.getD i3.toNat ((0:Int),[],(0:Int),(0:Int))).1=(2:Int)))then(bif(decide ((((steps2.getD i3.toNat ((0:Int),[],(0:Int),(0:Int))).2.1).length:Int)=(0:Int)))then(YxD (q6 lo ((steps2.getD i3.toNat ((0:Int),[],(0:Int),(0:Int))).2.2.2) ((steps2.getD i3.toNat ((0:Int),[],(0:Int),(0:Int))).2.2.1)) fun y12=>some y12)else(some false))else(bif(decide ((steps2.getD i3.toNat ((0:Int),[],(0:Int),(0:Int))).1=(3:Int)))then(bif(!decide ((((steps2.getD i3.toNat ((0:Int),[],(0:Int),(0:Int))).2.1).length:Int)=(1:Int)))then(some false)else(chk (0<=(0:Int)/\ (0:Int)< (((steps2.getD i3.toNat ((0:Int),[],(0:Int),(0:Int))).2.1).length:Int)) (YxD (q7 lo (((steps2.getD i3.toNat ((0:Int),[],(0:Int),(0:Int))).2.1).getD 0 (0:Int)) i3 steps2) fun y13=>bif y13.2.2.1 then(YxD (q6 lo y13.1 ((steps2.getD i3.toNat ((0:Int),[],(0:Int),(0:Int))).2.2.1)) fun y14=>bif y14 then(YxD (q6 lo y13.2.1 ((steps2.getD i3.toNat ((0:Int),[],(0:Int),(0:Int))).2.2.2)) fun y15=>bif y15 then(YxD (q6 lo (bits .andNot .u32 ((steps2.getD i3.toNat ((0:Int),[],(0:Int),(0:Int))).2.2.1) y13.1) ((steps2.getD i3.toNat ((0:Int),[],(0:Int),(0:Int))).2.2.2)) fun y16=>bif y16 then(YxD (q6 lo (bits .andNot .u32 ((steps2.getD i3.toNat ((0:Int),[],(0:Int),(0:Int))).2.2.2) y13.2.1) ((steps2.getD i3.toNat ((0:Int),[],(0:Int),(0:Int))).2.2.1)) fun y17=>some y17)else(some false))else(some false))else(some false))else(some false))))else(bif(decide ((steps2.getD i3.toNat ((0:Int),[],(0:Int),(0:Int))).1=(4:Int)))then(bif(!decide ((((steps2.getD i3.toNat ((0:Int),[],(0:Int),(0:Int))).2.1).length:Int)=(2:Int)))then(some false)else(chk (0<=(0:Int)/\ (0:Int)< (((steps2.getD i3.toNat ((0:Int),[],(0:Int),(0:Int))).2.1).length:Int)) (YxD (q7 lo (((steps2.getD i3.toNat ((0:Int),[],(0:Int),(0:Int))).2.1).getD 0 (0:Int)) i3 steps2) fun y18=>chk (0<=(1:Int)/\ (1:Int)< (((steps2.getD i3.toNat ((0:Int),[],(0:Int),(0:Int))).2.1).length:Int)) (YxD (q7 lo (((steps2.getD i3.toNat ((0:Int),[],(0:Int),(0:Int))).2.1).getD 1 (0:Int)) y18.2.2.2.1 y18.2.2.2.2) fun y19=>bif y18.2.2.1 then(bif y19.2.2.1 then(bif(decide (y18.2.1=y19.1))then(some ((decide ((steps2.getD i3.toNat ((0:Int),[],(0:Int),(0:Int))).2.2.1=y18.1))&& ((decide ((steps2.getD i3.toNat ((0:Int),[],(0:Int),(0:Int))).2.2.2=y19.2.1))&&true)))else(some false))else(some false))else(some false)))))else(some false))))))
def Yqs:VFn:=⟨true,176,[.t 8],
 (Rg [oG 6 2,oG 7 3,oB 8 false]
 (Rg [oL 18 6,oL 19 7,oI 20 4 18 19,oT 21 4 20,o 9 (.alloc [.i .i64 0,.e (cs [I]),.i .u32 0,.i .u32 0]),oS 4 9 21]
 (Rg [oF 22 2 9,oT 23 2 22,o 10 (.alloc [.i .u32 0,.i .u32 0]),oS 2 10 23]
 (.seq (Rg [oF 24 0 10,oL 25 24,oF 26 1 10,oL 27 26,oR 28 .or 25 27,oM 29 0,oC 30 138 [29],oC 31 137 [28,30],oX 32 31]
 (.cond 32 (Rg [oB 8 false]
 (Fr 8))
 .skip))
 (Rg [o 33 (.mkf 158 [7,6]),oM 11 33]
 (.seq (Rg [oF 34 0 9,oL 35 34]
 (.blk 0 (Rg [oR 37 .eql 35 (k 1),oM 36 37]
 (.cond 36 (Rg [oF 38 1 9,oL 39 38,oN 40 39,oR 41 .eql 40 (k 1),oM 42 41,gT 43 42 (.fad 1 9),gT 44 42 (.load false 1 43),gT 45 42 (.iad 1 44 (k 0)),gT 46 42 (.load false 1 45),gT 47 42 (.bin .geq 46 (k 0)),oP 48 42 47 (kb false),oM 49 48,gT 50 49 (.fad 1 9),gT 51 49 (.load false 1 50),gT 52 49 (.iad 1 51 (k 0)),gT 53 49 (.load false 1 52),gT 54 49 (.mv 1),gT 55 49 (.len 54),gT 56 49 (.bin .lss 53 55),oP 57 49 56 (kb false),oM 58 57,gT 59 58 (.mv 1),gT 60 58 (.fad 1 9),gT 61 58 (.load false 1 60),gT 62 58 (.iad 1 61 (k 0)),gT 63 58 (.load false 1 62),gT 64 58 (.iad 2 59 63),gT 65 58 (.load true 2 64),gT 66 58 (.load true 2 10),gT 67 58 (.eqa false [1,1] 65 66),oP 68 58 67 (kb false),oM 8 68]
 (Fr 8))
 (Rg [oR 70 .eql 35 (k 2),oM 69 70]
 (.cond 69 (Rg [oF 71 1 9,oL 72 71,oN 73 72,oR 74 .eql 73 (k 0),oM 75 74,gT 76 75 (.fad 1 10),gT 77 75 (.load false 1 76),gT 78 75 (.fad 0 10),gT 79 75 (.load false 1 78),gT 80 75 (.call 137 [77,79]),oP 81 75 80 (kb false),oM 8 81]
 (Fr 8))
 (Rg [oR 83 .eql 35 (k 3),oM 82 83]
 (.cond 82 (.seq (Rg [oF 84 1 9,oL 85 84,oN 86 85,oR 87 .neq 86 (k 1)]
 (.cond 87 (Rg [oB 8 false]
 (Fr 8))
 .skip))
 (Rg [oM 89 11,oF 90 1 9,oL 91 90,o 92 (.iad 1 91 (k 0)),oL 93 92,o 94 (.dyn 89 [93]),oM 88 94,oE 95 88 0,oE 96 88 1,o 12 (.alloc [.i .u32 0,.i .u32 0]),oS 2 12 95,oM 13 96]
 (Rg [oM 97 13,oM 98 97,gT 99 98 (.fad 0 12),gT 100 98 (.load false 1 99),gT 101 98 (.fad 0 10),gT 102 98 (.load false 1 101),gT 103 98 (.call 137 [100,102]),oP 104 98 103 (kb false),oM 105 104,gT 106 105 (.fad 1 12),gT 107 105 (.load false 1 106),gT 108 105 (.fad 1 10),gT 109 105 (.load false 1 108),gT 110 105 (.call 137 [107,109]),oP 111 105 110 (kb false),oM 112 111,gT 113 112 (.fad 0 10),gT 114 112 (.load false 1 113),gT 115 112 (.fad 0 12),gT 116 112 (.load false 1 115),gT 117 112 (.bin .andNot 114 116),gT 118 112 (.fad 1 10),gT 119 112 (.load false 1 118),gT 120 112 (.call 137 [117,119]),oP 121 112 120 (kb false),oM 122 121,gT 123 122 (.fad 1 10),gT 124 122 (.load false 1 123),gT 125 122 (.fad 1 12),gT 126 122 (.load false 1 125),gT 127 122 (.bin .andNot 124 126),gT 128 122 (.fad 0 10),gT 129 122 (.load false 1 128),gT 130 122 (.call 137 [127,129]),oP 131 122 130 (kb false),oM 8 131]
 (Fr 8))))
 (Rg [oR 133 .eql 35 (k 4),oM 132 133]
 (.cond 132 (.seq (Rg [oF 134 1 9,oL 135 134,oN 136 135,oR 137 .neq 136 (k 2)]
 (.cond 137 (Rg [oB 8 false]
 (Fr 8))
 .skip))
 (Rg [oM 139 11,oF 140 1 9,oL 141 140,o 142 (.iad 1 141 (k 0)),oL 143 142,o 144 (.dyn 139 [143]),oM 138 144,oE 145 138 0,oE 146 138 1,o 14 (.alloc [.i .u32 0,.i .u32 0]),oS 2 14 145,oM 15 146]
 (Rg [oM 148 11,oF 149 1 9,oL 150 149,o 151 (.iad 1 150 (k 1)),oL 152 151,o 153 (.dyn 148 [152]),oM 147 153,oE 154 147 0,oE 155 147 1,o 16 (.alloc [.i .u32 0,.i .u32 0]),oS 2 16 154,oM 17 155]
 (Rg [oM 156 15,oM 157 156,gT 158 157 (.mv 17),oP 159 157 158 (kb false),oM 160 159,gT 161 160 (.fad 1 14),gT 162 160 (.load false 1 161),gT 163 160 (.fad 0 16),gT 164 160 (.load false 1 163),gT 165 160 (.bin .eql 162 164),oP 166 160 165 (kb false),oM 167 166,gT 168 167 (.load true 2 10),gT 169 167 (.fad 0 14),gT 170 167 (.load false 1 169),gT 171 167 (.fad 1 16),gT 172 167 (.load false 1 171),gT 173 167 (.build [.i .u32 0,.i .u32 0] [(0,1,170),(1,1,172)]),gT 174 167 (.eqa false [1,1] 168 173),oP 175 167 174 (kb false),oM 8 175]
 (Fr 8)))))
 .skip))))))))))
 (Rg [oB 8 false]
 (Fr 8))))))))⟩
def Yj3(lo:Lo):FnE:=Zfe 133 true (Zsg [0,1,2,3] [.j,.l Zc3,.l Zc1,.j] []) .b [] (fun x=>q8 lo x.1 x.2.1 x.2.2.1 x.2.2.2:Int×Zt2×Zt0×Int->Option Bool)
def fs9(lo:Lo):List FnE:=Yj3 lo::fs8 lo
theorem Yqt(h:GZ P fm fs8 lo)(t:Ti P fm 133 Yqs):GZ P fm fs9 lo:=
  h.p (Yj3 lo) .n t
def q9_L3_b:VCode:=
 (Rg [oR 22 .lss 21 20]
 (.seq (Ce 22 0)
 (.seq (.blk 1 (Rg [oM 23 21,oM 9 23]
 (Rg [oM 24 0,oM 25 1,oM 26 2,oM 27 9,oC 28 133 [24,25,26,27],oX 29 28]
 (.cond 29 (Rg [oM 30 9,oM 6 30,oK 7 1]
 (.fz [6,7] .ret))
 .skip))))
 (.reg [oR 31 .add 21 (k 1),oM 21 31]))))
def Yck(lo:Lo):Int×Zt2×Zt0×Int×Int->Option ((Int×Zt2×Zt0×Int×Int)⊕ ((Int×Int)⊕Unit)):=fun x=>match x with
  | (n0,fds1,steps2,v20,v21)=>bif(decide (v21<v20))then(YxD (q8 lo n0 fds1 steps2 v21) fun y20=>bif(!y20)then(some (.inr (.inl (v21,(1:Int)))))else(some (.inl (n0,fds1,steps2,v20,(YxX .i64 (v21+1))))))else(some (.inr (.inr ())))
def Ya1(lo:Lo):Int×Zt2×Zt0×Int×Int->Option ((Int×Int)⊕Unit):=lo.run (Yck lo)
def Yqu(lo:Lo):LpE:=⟨3,[],(Zsg [0,1,2,20,21] [.j,.l Zc3,.l Zc1,.j,.j] []),[⟨.ret,(Zsg [6,7] [.j,.j] [])⟩,⟨.exit 0,(Zsg [] [] [])⟩],Ya1 lo⟩
def Yqv(lo:Lo):LL:=(Yqu lo,.loop q9_L3_b.er)::[]
theorem Yqw(lo:Lo):Lk lo pf (fs9 lo) 0 (Yqv lo):=.l .n (Yck lo)
def q9(lo:Lo)(n0:Int)(fds1:List (Int×Int))(steps2:List (Int× (List Int)×Int×Int)):Option (Int×Int):=
  YxD (q4 lo n0 fds1) fun y9=>bif(!decide (y9=0))then(some ((0:Int),y9))else(bif(decide ((steps2.length:Int)=0))then(some ((0:Int),(12:Int)))else(YxD (Ya1 lo (n0,fds1,steps2,(steps2.length:Int),(0:Int))) fun y21=>alt2 y21 (fun y22=>some (y22.1,y22.2)) (fun y23=>some ((0:Int),(0:Int)))))
def Yqx:VFn:=⟨true,32,[.t 6,.t 7],
 (Rg [oK 6 0,oK 7 0]
 (.seq (Rg [oM 10 0,oM 11 1,oC 12 132 [10,11],oM 8 12]
 (Rg [oM 13 8,oR 14 .neq 13 (k 0)]
 (.cond 14 (Rg [oM 15 8,oK 6 0,oM 7 15]
 (.fz [6,7] .ret))
 .skip)))
 (.seq (Rg [oM 16 2,oN 17 16,oR 18 .eql 17 (k 0)]
 (.cond 18 (Rg [oK 6 0,oK 7 12]
 (.fz [6,7] .ret))
 .skip))
 (.seq (Rg [oM 19 2,oN 20 19,oK 21 0]
 (.blk 0 (.loop 3 q9_L3_b)))
 (Rg [oK 6 0,oK 7 0]
 (.fz [6,7] .ret))))))⟩
def Yj4(lo:Lo):FnE:=Zfe 111 true (Zsg [0,1,2] [.j,.l Zc3,.l Zc1] []) (.tp [.j,.j]) [] (fun x=>q9 lo x.1 x.2.1 x.2.2:Int×Zt2×Zt0->Option (Int×Int))
def fs10(lo:Lo):List FnE:=Yj4 lo::fs9 lo
theorem Yqy(h:GZ P fm fs9 lo)(t:Ti P fm 111 Yqx):GZ P fm fs10 lo:=
  h.p (Yj4 lo) (Yqw lo) t
def q10_L5_b:VCode:=
 (Rg [oR 12 .lss 11 10]
 (.seq (Ce 12 2)
 (.seq (.blk 3 (Rg [oI 13 2 9 11,oT 14 2 13,o 7 (.alloc [.i .u32 0,.i .u32 0]),oS 2 7 14]
 (Rg [oF 15 0 7,oL 16 15,oM 17 1,oR 18 .andNot 16 17,oR 19 .eql 18 (ki .u32 0)]
 (.cond 19 (.reg [oM 20 1,oF 21 1 7,oL 22 21,oR 23 .or 20 22,oM 1 23])
 .skip))))
 (.reg [oR 24 .add 11 (k 1),oM 11 24]))))
def Yj5(lo:Lo):Zt2×Int×Int×Zt2×Int×Int->Option ((Zt2×Int×Int×Zt2×Int×Int)⊕ ((Zt2×Int×Int))):=fun x=>match x with
  | (fds0,s1,before5,v9,v10,v11)=>bif(decide (v11<v10))then(chk (0<=v11/\v11< (v9.length:Int)) (bif(decide ((bits .andNot .u32 ((v9.getD v11.toNat ((0:Int),(0:Int))).1) s1)=(0:Int)))then(some (.inl (fds0,(bits .or .u32 s1 ((v9.getD v11.toNat ((0:Int),(0:Int))).2)),before5,v9,v10,(YxX .i64 (v11+1)))))else(some (.inl (fds0,s1,before5,v9,v10,(YxX .i64 (v11+1)))))))else(some (.inr (fds0,s1,before5)))
def Yj6(lo:Lo):Zt2×Int×Int×Zt2×Int×Int->Option ((Zt2×Int×Int)):=lo.run (Yj5 lo)
def Yqz(lo:Lo):LpE:=⟨5,[],(Zsg [0,1,5,9,10,11] [.l Zc3,.i .u32,.i .u32,.l Zc3,.j,.j] []),[⟨.exit 2,(Zsg [0,1,5] [.l Zc3,.i .u32,.i .u32] [])⟩],Yj6 lo⟩
def Yj7(lo:Lo):LL:=(Yqz lo,.loop q10_L5_b.er)::[]
theorem YqA(lo:Lo):Lk lo pf (fs10 lo) 0 (Yj7 lo):=.l .n (Yj5 lo)
def q10_L1_b:VCode:=
 (.blk 1 (Rg [oM 8 1,oM 5 8]
 (.seq (Rg [oM 9 0,oN 10 9,oK 11 0]
 (.blk 2 (.loop 5 q10_L5_b)))
 (Rg [oM 25 1,oM 26 5,oR 27 .eql 25 26]
 (.cond 27 (Rg [oM 28 1,oM 4 28]
 (Fr 4))
 .skip)))))
def Yj8(lo:Lo):Zt2×Int->Option ((Zt2×Int)⊕Int):=fun x=>match x with
  | (fds0,s1)=>YxD (Yj6 lo (fds0,s1,s1,fds0,(fds0.length:Int),(0:Int))) fun y29=>bif(decide (y29.2.1=y29.2.2))then(some (.inr y29.2.1))else(some (.inl (y29.1,y29.2.1)))
def Yj9(lo:Lo):Zt2×Int->Option Int:=lo.run (Yj8 lo)
def YqB(lo:Lo):LpE:=⟨1,[],(Zsg [0,1] [.l Zc3,.i .u32] []),[⟨.ret,(Zsg [4] [.i .u32] [])⟩],Yj9 lo⟩
def YqC(lo:Lo):LL:=(YqB lo,.loop q10_L1_b.er)::Yj7 lo
theorem YqD(lo:Lo):Lk lo pf (fs10 lo) 0 (YqC lo):=.l (YqA lo) (Yj8 lo)
def q10(lo:Lo)(fds0:List (Int×Int))(s1:Int):Option Int:=
  YxD (Yj9 lo (fds0,s1)) fun y30=>some y30
def YqE:VFn:=⟨true,29,[.t 4],
 (Rg [o 4 (.mv (ki .u32 0))]
 (.blk 0 (.loop 1 q10_L1_b)))⟩
def Yka(lo:Lo):FnE:=Zfe 160 true (Zsg [0,1] [.l Zc3,.i .u32] []) (.i .u32) [] (fun x=>q10 lo x.1 x.2:Zt2×Int->Option Int)
def fs11(lo:Lo):List FnE:=Yka lo::fs10 lo
theorem YqF(h:GZ P fm fs10 lo)(t:Ti P fm 160 YqE):GZ P fm fs11 lo:=
  h.p (Yka lo) (YqD lo) t
def q11(lo:Lo)(fds0:List (Int×Int))(fd1_0:Int)(fd1_1:Int):Option Bool:=
  YxD (q10 lo fds0 fd1_0) fun y31=>some (decide ((bits .andNot .u32 fd1_1 y31)=(0:Int)))
def YqG:VFn:=⟨true,13,[.t 4],
 (Rg [oG 3 1,oB 4 false]
 (Rg [oF 5 1 3,oL 6 5,oM 7 0,oF 8 0 3,oL 9 8,oC 10 160 [7,9],oR 11 .andNot 6 10,oR 12 .eql 11 (ki .u32 0),oM 4 12]
 (Fr 4)))⟩
def Ykb(lo:Lo):FnE:=Zfe 139 true (Zsg [0,1] [.l Zc3,.ag [.i .u32,.i .u32]] []) .b [] (fun x=>q11 lo x.1 x.2.1 x.2.2:Zt2×Int×Int->Option Bool)
def fs12(lo:Lo):List FnE:=Ykb lo::fs11 lo
theorem YqH(h:GZ P fm fs11 lo)(t:Ti P fm 139 YqG):GZ P fm fs12 lo:=
  h.p (Ykb lo) .n t
def q12(lo:Lo)(rule1:Int)(lhs2:Int)(rhs3:Int):Option (Int×Zt0):=
  chk (([(rule1,([]:List Int),lhs2,rhs3)]).length<=maxEl) (some ((YxX .i64 ((([(rule1,([]:List Int),lhs2,rhs3)]).length:Int)-(1:Int))),[(rule1,([]:List Int),lhs2,rhs3)]))
def YqI:VFn:=⟨true,32,[.t 10],
 (Rg [oK 10 0]
 (Rg [oM 11 0,oM 12 0,o 13 (.nilc 12),oF 14 0 13,oL 15 14,oM 16 1,oM 17 4,oM 18 2,oM 19 3,o 20 (.build [.i .u32 0,.i .u32 0] [(0,1,18),(1,1,19)]),o 21 (.build [.i .i64 0,.e (cs [I]),.i .u32 0,.i .u32 0] [(0,1,16),(1,1,17),(2,2,20)]),o 22 (.bsl Zc1 1 [(0,21)]),o 23 (.app Zc1 0 15 22),o 24 (.nilc 11),oF 25 0 24,oS 1 25 23]
 (Rg [oM 26 0,o 27 (.nilc 26),oF 28 0 27,oL 29 28,oN 30 29,oR 31 .sub 30 (k 1),oM 10 31]
 (.ow [(0,some 0,false)] .ret))))⟩
def Ykc(lo:Lo):FnE:=Zfe 140 false (Zsg [0,1,2,3,4] [.ptr 0 0 0,.j,.i .u32,.i .u32,.e (cs [I])] [.st [.e Zc1]]) (.i .i64) [.st [.ref 1],.sq Zc1] (fun x=>q12 lo x.1 x.2.1 x.2.2:Int×Int×Int->Option (Int×Zt0))
def fs13(lo:Lo):List FnE:=Ykc lo::fs12 lo
theorem YqJ(h:GZ P fm fs12 lo)(t:Ti P fm 140 YqI):GZ P fm fs13 lo:=
  h.i (Ykc lo) .n t
def q13_L3_b:VCode:=
 (Rg [oR 10 .lss 9 8]
 (.seq (Ce 10 0)
 (.seq (.blk 1 (Rg [oM 11 9,oI 12 2 7 9,oT 13 2 12,o 6 (.alloc [.i .u32 0,.i .u32 0]),oM 5 11,oS 2 6 13]
 (Rg [oF 14 0 6,oL 15 14,oM 16 1,oR 17 .andNot 15 16,oR 18 .eql 17 (ki .u32 0),oM 19 18,gT 20 19 (.fad 1 6),gT 21 19 (.load false 1 20),gT 22 19 (.mv 1),gT 23 19 (.bin .andNot 21 22),gT 24 19 (.bin .neq 23 (ki .u32 0)),oP 25 19 24 (kb false)]
 (.cond 25 (Rg [oM 26 5,oM 4 26]
 (Fr 4))
 .skip))))
 (.reg [oR 27 .add 9 (k 1),oM 9 27]))))
def Ykd(lo:Lo):Int×Zt2×Int×Int->Option ((Int×Zt2×Int×Int)⊕ (Int⊕Unit)):=fun x=>match x with
  | (s1,v7,v8,v9)=>bif(decide (v9<v8))then(chk (0<=v9/\v9< (v7.length:Int)) (bif(decide ((bits .andNot .u32 ((v7.getD v9.toNat ((0:Int),(0:Int))).1) s1)=(0:Int)))then(bif(!decide ((bits .andNot .u32 ((v7.getD v9.toNat ((0:Int),(0:Int))).2) s1)=(0:Int)))then(some (.inr (.inl v9)))else(some (.inl (s1,v7,v8,(YxX .i64 (v9+1))))))else(some (.inl (s1,v7,v8,(YxX .i64 (v9+1)))))))else(some (.inr (.inr ())))
def Yke(lo:Lo):Int×Zt2×Int×Int->Option (Int⊕Unit):=lo.run (Ykd lo)
def YqK(lo:Lo):LpE:=⟨3,[],(Zsg [1,7,8,9] [.i .u32,.l Zc3,.j,.j] []),[⟨.ret,(Zsg [4] [.j] [])⟩,⟨.exit 0,(Zsg [] [] [])⟩],Yke lo⟩
def YqL(lo:Lo):LL:=(YqK lo,.loop q13_L3_b.er)::[]
theorem YqM(lo:Lo):Lk lo pf (fs13 lo) 0 (YqL lo):=.l .n (Ykd lo)
def q13(lo:Lo)(fds0:List (Int×Int))(s1:Int):Option Int:=
  YxD (Yke lo (s1,fds0,(fds0.length:Int),(0:Int))) fun y34=>alt2 y34 (fun y35=>some y35) (fun y36=>some (-1:Int))
def YqN:VFn:=⟨true,28,[.t 4],
 (Rg [oK 4 0]
 (.seq (Rg [oM 7 0,oN 8 7,oK 9 0]
 (.blk 0 (.loop 3 q13_L3_b)))
 (Rg [oK 4 (-1)]
 (Fr 4))))⟩
def Ykf(lo:Lo):FnE:=Zfe 161 true (Zsg [0,1] [.l Zc3,.i .u32] []) (.i .i64) [] (fun x=>q13 lo x.1 x.2:Zt2×Int->Option Int)
def fs14(lo:Lo):List FnE:=Ykf lo::fs13 lo
theorem YqO(h:GZ P fm fs13 lo)(t:Ti P fm 161 YqN):GZ P fm fs14 lo:=
  h.p (Ykf lo) (YqM lo) t
def q14_L3_b:VCode:=
 (.seq (Rg [oM 10 6,oR 11 .geq 10 (k 0)]
 (Ce 11 0))
 (.seq (.blk 1 (Rg [oM 15 1,oM 16 0,oM 17 6,oI 18 2 16 17,oF 19 1 18,oL 20 19,oR 21 .or 15 20,oM 1 21]
 (.reg [oM 22 5,oM 23 6,o 24 (.bsl (cs [I]) 1 [(0,23)]),o 25 (.app (cs [I]) 0 22 24),oM 5 25])))
 (.reg [oM 12 0,oM 13 1,oC 14 161 [12,13],oM 6 14])))
def Ykg(lo:Lo):Zt2×Int×Int× (List Int)->Option ((Zt2×Int×Int× (List Int))⊕ (((List Int)))):=fun x=>match x with
  | (fds0,s1,i6,out5)=>bif(decide (0<=i6))then(chk (0<=i6/\i6< (fds0.length:Int)) (chk (out5.length+[i6].length<=maxEl) (YxD (q13 lo fds0 (bits .or .u32 s1 ((fds0.getD i6.toNat ((0:Int),(0:Int))).2))) fun y38=>some (.inl (fds0,(bits .or .u32 s1 ((fds0.getD i6.toNat ((0:Int),(0:Int))).2)),y38,(out5++[i6]))))))else(some (.inr out5))
def Ykh(lo:Lo):Zt2×Int×Int× (List Int)->Option (((List Int))):=lo.run (Ykg lo)
def YqP(lo:Lo):LpE:=⟨3,[(5,none,false)],(Zsg [0,1,5,6] [.l Zc3,.i .u32,.ref 0,.j] [.sq (cs [I])]),[⟨.exit 0,(Zsg [5] [.ref 0] [.sq (cs [I])])⟩],Ykh lo⟩
def YqQ(lo:Lo):LL:=(YqP lo,.loop q14_L3_b.er)::[]
theorem YqR(lo:Lo):Lk lo pf (fs14 lo) 0 (YqQ lo):=.l .n (Ykg lo)
def q14(lo:Lo)(fds0:List (Int×Int))(s1:Int):Option ((List Int)):=
  YxD (q13 lo fds0 s1) fun y37=>YxD (Ykh lo (fds0,s1,y37,[])) fun y39=>some y39
def YqS:VFn:=⟨true,27,[.t 4],
 (Rg [o 4 (.mv (ke (cs [I])))]
 (Rg [o 5 (.mv (ke (cs [I])))]
 (.seq (Rg [oM 7 0,oM 8 1,oC 9 161 [7,8],oM 6 9]
 (.blk 0 (.loop 3 q14_L3_b)))
 (Rg [oM 26 5,oM 4 26]
 (Fr 4)))))⟩
def Yki(lo:Lo):FnE:=Zfe 141 true (Zsg [0,1] [.l Zc3,.i .u32] []) (.l (cs [I])) [] (fun x=>q14 lo x.1 x.2:Zt2×Int->Option ((List Int)))
def fs15(lo:Lo):List FnE:=Yki lo::fs14 lo
theorem YqT(h:GZ P fm fs14 lo)(t:Ti P fm 141 YqS):GZ P fm fs15 lo:=
  h.p (Yki lo) (YqR lo) t
def q15(lo:Lo)(rule1:Int)(lhs2:Int)(rhs3:Int)(from4:List Int)(h1:List (Int× (List Int)×Int×Int)):Option (Int×Zt0):=
  chk (h1.length+([(rule1,from4,lhs2,rhs3)]).length<=maxEl) (some ((YxX .i64 (((h1++([(rule1,from4,lhs2,rhs3)])).length:Int)-(1:Int))),(h1++([(rule1,from4,lhs2,rhs3)]))))
def YqU:VFn:=⟨true,32,[.t 10],
 (Rg [oK 10 0]
 (Rg [oM 11 0,oM 12 0,o 13 (.nilc 12),oF 14 0 13,oL 15 14,oM 16 1,oM 17 4,oM 18 2,oM 19 3,o 20 (.build [.i .u32 0,.i .u32 0] [(0,1,18),(1,1,19)]),o 21 (.build [.i .i64 0,.e (cs [I]),.i .u32 0,.i .u32 0] [(0,1,16),(1,1,17),(2,2,20)]),o 22 (.bsl Zc1 1 [(0,21)]),o 23 (.app Zc1 0 15 22),o 24 (.nilc 11),oF 25 0 24,oS 1 25 23]
 (Rg [oM 26 0,o 27 (.nilc 26),oF 28 0 27,oL 29 28,oN 30 29,oR 31 .sub 30 (k 1),oM 10 31]
 (.ow [(0,some 0,false)] .ret))))⟩
def Ykj(lo:Lo):FnE:=Zfe 140 false (Zsg [0,1,2,3,4] [.ptr 0 0 0,.j,.i .u32,.i .u32,.l (cs [I])] [.st [.ref 1],.sq Zc1]) (.i .i64) [.st [.ref 2],.dd,.sq Zc1] (fun x=>q15 lo x.1 x.2.1 x.2.2.1 x.2.2.2.1 x.2.2.2.2:Int×Int×Int× (List Int)×Zt0->Option (Int×Zt0))
def fs16(lo:Lo):List FnE:=Ykj lo::fs15 lo
theorem YqV(h:GZ P fm fs15 lo)(t:Ti P fm 140 YqU):GZ P fm fs16 lo:=
  h.i (Ykj lo) .n t
def q16(lo:Lo)(rule1:Int)(lhs2:Int)(rhs3:Int)(h1:List (Int× (List Int)×Int×Int)):Option (Int×Zt0):=
  chk (h1.length+([(rule1,([]:List Int),lhs2,rhs3)]).length<=maxEl) (some ((YxX .i64 (((h1++([(rule1,([]:List Int),lhs2,rhs3)])).length:Int)-(1:Int))),(h1++([(rule1,([]:List Int),lhs2,rhs3)]))))
def YqW:VFn:=⟨true,32,[.t 10],
 (Rg [oK 10 0]
 (Rg [oM 11 0,oM 12 0,o 13 (.nilc 12),oF 14 0 13,oL 15 14,oM 16 1,oM 17 4,oM 18 2,oM 19 3,o 20 (.build [.i .u32 0,.i .u32 0] [(0,1,18),(1,1,19)]),o 21 (.build [.i .i64 0,.e (cs [I]),.i .u32 0,.i .u32 0] [(0,1,16),(1,1,17),(2,2,20)]),o 22 (.bsl Zc1 1 [(0,21)]),o 23 (.app Zc1 0 15 22),o 24 (.nilc 11),oF 25 0 24,oS 1 25 23]
 (Rg [oM 26 0,o 27 (.nilc 26),oF 28 0 27,oL 29 28,oN 30 29,oR 31 .sub 30 (k 1),oM 10 31]
 (.ow [(0,some 0,false)] .ret))))⟩
def Ykk(lo:Lo):FnE:=Zfe 140 false (Zsg [0,1,2,3,4] [.ptr 0 0 0,.j,.i .u32,.i .u32,.e (cs [I])] [.st [.ref 1],.sq Zc1]) (.i .i64) [.st [.ref 2],.dd,.sq Zc1] (fun x=>q16 lo x.1 x.2.1 x.2.2.1 x.2.2.2:Int×Int×Int×Zt0->Option (Int×Zt0))
def fs17(lo:Lo):List FnE:=Ykk lo::fs16 lo
theorem YqX(h:GZ P fm fs16 lo)(t:Ti P fm 140 YqW):GZ P fm fs17 lo:=
  h.i (Ykk lo) .n t
end Go.Abs.G1p
namespace Go.Abs.G1p
open Go Go.Abs
set_option maxRecDepth 100000
set_option maxHeartbeats 1000000
variable{P:Program}{fm:FM}{lo:Lo}
def q17_L5_b:VCode:=
 (Rg [oR 48 .lss 47 46]
 (.seq (Ce 48 0)
 (.seq (.blk 1 (Rg [oI 49 1 45 47,oL 50 49,oM 13 50]
 (Rg [oM 51 1,oM 52 13,oI 53 2 51 52,oT 54 2 53,o 14 (.alloc [.i .u32 0,.i .u32 0]),oS 2 14 54]
 (Rg [oF 55 0 14,oL 56 55,oF 57 1 14,oL 58 57,oM 59 13,o 60 (.bsl (cs [I]) 1 [(0,59)]),oC 61 140 [9,(k 1),56,58,60],oM 15 61]
 (Rg [oM 62 10,oM 63 10,oF 64 1 14,oL 65 64,oR 66 .or 63 65,oM 67 15,o 68 (.bsl (cs [I]) 1 [(0,67)]),oC 69 140 [9,(k 3),62,66,68],oM 16 69]
 (Rg [oM 70 10,oF 71 1 14,oL 72 71,oR 73 .or 70 72,oM 10 73]
 (.reg [oF 74 0 5,oL 75 74,oM 76 10,oM 77 11,oM 78 16,o 79 (.bsl (cs [I]) 2 [(0,77),(1,78)]),oC 80 140 [9,(k 4),75,76,79],oM 11 80])))))))
 (.reg [oR 81 .add 47 (k 1),oM 47 81]))))
def Ykl(lo:Lo):Zp6->Option (Zp6⊕ ((Int×Int×Int×Int×Zt0))):=fun x=>match x with
  | (fds1,now10,last11,v45,v46,v47,goal5_0,goal5_1,h2)=>bif(decide (v47<v46))then(chk (0<=v47/\v47< (v45.length:Int)) (chk (0<=(v45.getD v47.toNat (0:Int))/\ (v45.getD v47.toNat (0:Int))< (fds1.length:Int)) (YxD (q15 lo (1:Int) ((fds1.getD ((v45.getD v47.toNat (0:Int)).toNat) ((0:Int),(0:Int))).1) ((fds1.getD ((v45.getD v47.toNat (0:Int)).toNat) ((0:Int),(0:Int))).2) ([(v45.getD v47.toNat (0:Int))]) h2) fun y41=>YxD (q15 lo (3:Int) now10 (bits .or .u32 now10 ((fds1.getD ((v45.getD v47.toNat (0:Int)).toNat) ((0:Int),(0:Int))).2)) [y41.1] y41.2) fun y42=>YxD (q15 lo (4:Int) goal5_0 (bits .or .u32 now10 ((fds1.getD ((v45.getD v47.toNat (0:Int)).toNat) ((0:Int),(0:Int))).2)) ([last11,y42.1]) y42.2) fun y43=>some (.inl (fds1,(bits .or .u32 now10 ((fds1.getD ((v45.getD v47.toNat (0:Int)).toNat) ((0:Int),(0:Int))).2)),y43.1,v45,v46,(YxX .i64 (v47+1)),goal5_0,goal5_1,y43.2)))))else(some (.inr (now10,last11,goal5_0,goal5_1,h2)))
def Ykm(lo:Lo):Zp6->Option ((Int×Int×Int×Int×Zt0)):=lo.run (Ykl lo)
def YqY(lo:Lo):LpE:=⟨5,[],(Zsg [1,5,9,10,11,45,46,47] [.l Zc3,.ptr 0 0 0,.ptr 1 0 0,.i .u32,.j,.l (cs [I]),.j,.j] [.st [.i .u32,.i .u32],.st [.ref 2],.sq Zc1]),[⟨.exit 0,(Zsg [5,9,10,11] [.ptr 0 0 0,.ptr 1 0 0,.i .u32,.j] [.st [.i .u32,.i .u32],.st [.ref 2],.sq Zc1])⟩],Ykm lo⟩
def YqZ(lo:Lo):LL:=(YqY lo,.loop q17_L5_b.er)::[]
theorem Yq0(lo:Lo):Lk lo pf (fs17 lo) 0 (YqZ lo):=.l .n (Ykl lo)
def q17(lo:Lo)(n0:Int)(fds1:List (Int×Int))(goal2_0:Int)(goal2_1:Int):Option (Zt0×Int):=
  YxD (q4 lo n0 fds1) fun y26=>bif(!decide (y26=0))then(some (([]:List (Int× (List Int)×Int×Int)),y26))else(YxD (q5 lo n0) fun y27=>YxD (q6 lo (bits .or .u32 goal2_0 goal2_1) y27) fun y28=>bif(!y28)then(some (([]:List (Int× (List Int)×Int×Int)),(1:Int)))else(YxD (q11 lo fds1 goal2_0 goal2_1) fun y32=>bif(!y32)then(some (([]:List (Int× (List Int)×Int×Int)),(11:Int)))else(YxD (q12 lo (2:Int) goal2_0 goal2_0) fun y33=>YxD (q14 lo fds1 goal2_0) fun y40=>YxD (Ykm lo (fds1,goal2_0,y33.1,y40,(y40.length:Int),(0:Int),goal2_0,goal2_1,y33.2)) fun y44=>YxD (q16 lo (2:Int) y44.1 y44.2.2.2.1 y44.2.2.2.2) fun y45=>YxD (q15 lo (4:Int) y44.2.2.1 y44.2.2.2.1 ([y44.2.1,y45.1]) y45.2) fun y46=>some (y46.2,(0:Int)))))
def Yq1:VFn:=⟨true,96,[.t 6,.t 7],
 (Rg [oG 5 2,o 6 (.mv (ke Zc1)),oK 7 0]
 (.seq (Rg [oM 18 0,oM 19 1,oC 20 132 [18,19],oM 8 20]
 (Rg [oM 21 8,oR 22 .neq 21 (k 0)]
 (.cond 22 (Rg [oM 23 8,o 6 (.mv (ke Zc1)),oM 7 23]
 (.fz [6,7] .ret))
 .skip)))
 (.seq (Rg [oF 24 0 5,oL 25 24,oF 26 1 5,oL 27 26,oR 28 .or 25 27,oM 29 0,oC 30 138 [29],oC 31 137 [28,30],oX 32 31]
 (.cond 32 (Rg [o 6 (.mv (ke Zc1)),oK 7 1]
 (.fz [6,7] .ret))
 .skip))
 (.seq (Rg [oM 33 1,oT 34 2 5,oC 35 139 [33,34],oX 36 35]
 (.cond 36 (Rg [o 6 (.mv (ke Zc1)),oK 7 11]
 (.fz [6,7] .ret))
 .skip))
 (Rg [o 9 (.alloc [.e Zc1])]
 (Rg [oF 37 0 5,oL 38 37,oM 10 38]
 (Rg [oM 39 10,oM 40 10,oC 41 140 [9,(k 2),39,40,(ke (cs [I]))],oM 11 41]
 (.seq (Rg [oM 42 1,oF 43 0 5,oL 44 43,oC 45 141 [42,44],oN 46 45,oK 47 0]
 (.blk 0 (.loop 5 q17_L5_b)))
 (Rg [oM 82 10,oF 83 1 5,oL 84 83,oC 85 140 [9,(k 2),82,84,(ke (cs [I]))],oM 17 85]
 (Rg [oF 86 0 5,oL 87 86,oF 88 1 5,oL 89 88,oM 90 11,oM 91 17,o 92 (.bsl (cs [I]) 2 [(0,90),(1,91)]),oC 93 140 [9,(k 4),87,89,92]]
 (Rg [oF 94 0 9,oL 95 94,oM 6 95,oK 7 0]
 (.fz [6,7] .ret))))))))))))⟩
def Ykn(lo:Lo):FnE:=Zfe 116 true (Zsg [0,1,2] [.j,.l Zc3,.ag [.i .u32,.i .u32]] []) (.tp [.l Zc1,.j]) [] (fun x=>q17 lo x.1 x.2.1 x.2.2.1 x.2.2.2:Int×Zt2×Int×Int->Option (Zt0×Int))
def fs18(lo:Lo):List FnE:=Ykn lo::fs17 lo
theorem Yq2(h:GZ P fm fs17 lo)(t:Ti P fm 116 Yq1):GZ P fm fs18 lo:=
  h.p (Ykn lo) (Yq0 lo) t
def q18(lo:Lo)(a0:Int)(b1:Int):Option Bool:=
  some (decide ((bits .and .u32 a0 b1)=a0))
def Yq3:VFn:=⟨true,10,[.t 4],
 (Rg [oB 4 false]
 (Rg [oM 5 0,oM 6 1,oR 7 .and 5 6,oM 8 0,oR 9 .eql 7 8,oM 4 9]
 (Fr 4)))⟩
def Yko(lo:Lo):FnE:=Zfe 136 true (Zsg [0,1] [.i .u32,.i .u32] []) .b [] (fun x=>q18 lo x.1 x.2:Int×Int->Option Bool)
def fs19(lo:Lo):List FnE:=Yko lo::fs18 lo
theorem Yq4(h:GZ P fm fs18 lo)(t:Ti P fm 136 Yq3):GZ P fm fs19 lo:=
  h.p (Yko lo) .n t
def q19_L3_b:VCode:=
 (.seq (Rg [oM 18 6,oM 19 1,oN 20 19,oR 21 .lss 18 20]
 (Ce 21 0))
 (.seq (.blk 1 (Rg [oM 24 1,oM 25 6,oI 26 2 24 25,oF 27 0 26,oL 28 27,oM 29 5,oC 30 136 [28,29],oX 31 30,oM 32 31,gF 33 32 (.mv 1),gF 34 32 (.mv 6),gF 35 32 (.iad 2 33 34),gF 36 32 (.fad 1 35),gF 37 32 (.load false 1 36),gF 38 32 (.mv 5),gF 39 32 (.call 136 [37,38]),gF 40 32 (.not 39),oP 41 32 (kb true) 40]
 (.cond 41 (Rg [oK 4 1]
 (Fr 4))
 .skip)))
 (.reg [oM 22 6,oR 23 .add 22 (k 1),oM 6 23])))
def Yek(lo:Lo):Zt2×Int×Int->Option ((Zt2×Int×Int)⊕ (Int⊕Unit)):=fun x=>match x with
  | (fds1,all5,i6)=>bif(decide (i6< (fds1.length:Int)))then(chk (0<=i6/\i6< (fds1.length:Int)) (YxD (q18 lo ((fds1.getD i6.toNat ((0:Int),(0:Int))).1) all5) fun y49=>bif(!y49)then(some (.inr (.inl (1:Int))))else(chk (0<=i6/\i6< (fds1.length:Int)) (YxD (q18 lo ((fds1.getD i6.toNat ((0:Int),(0:Int))).2) all5) fun y50=>bif(!y50)then(some (.inr (.inl (1:Int))))else(some (.inl (fds1,all5,(YxX .i64 (i6+1)))))))))else(some (.inr (.inr ())))
def Ybt(lo:Lo):Zt2×Int×Int->Option (Int⊕Unit):=lo.run (Yek lo)
def Yq5(lo:Lo):LpE:=⟨3,[],(Zsg [1,5,6] [.l Zc3,.i .u32,.j] []),[⟨.ret,(Zsg [4] [.j] [])⟩,⟨.exit 0,(Zsg [] [] [])⟩],Ybt lo⟩
def Yq6(lo:Lo):LL:=(Yq5 lo,.loop q19_L3_b.er)::[]
theorem Yq7(lo:Lo):Lk lo pf (fs19 lo) 0 (Yq6 lo):=.l .n (Yek lo)
def q19(lo:Lo)(n0:Int)(fds1:List (Int×Int)):Option Int:=
  bif(decide (n0<0))then(some (7:Int))else(bif(decide (16<n0))then(some (7:Int))else(bif(decide ((64:Int)< (fds1.length:Int)))then(some (3:Int))else(YxD (q0 lo n0) fun y48=>YxD (Ybt lo (fds1,y48,(0:Int))) fun y51=>alt2 y51 (fun y52=>some y52) (fun y53=>some (0:Int)))))
def Yq8:VFn:=⟨true,42,[.t 4],
 (Rg [oK 4 0]
 (.seq (Rg [oM 7 0,oR 8 .lss 7 (k 0),oM 9 8,gF 10 9 (.mv 0),gF 11 9 (.bin .gtr 10 (k 16)),oP 12 9 (kb true) 11]
 (.cond 12 (Rg [oK 4 7]
 (Fr 4))
 .skip))
 (.seq (Rg [oM 13 1,oN 14 13,oR 15 .gtr 14 (k 64)]
 (.cond 15 (Rg [oK 4 3]
 (Fr 4))
 .skip))
 (Rg [oM 16 0,oC 17 118 [16],oM 5 17]
 (.seq (Rg [oK 6 0]
 (.blk 0 (.loop 3 q19_L3_b)))
 (Rg [oK 4 0]
 (Fr 4)))))))⟩
def Ykp(lo:Lo):FnE:=Zfe 134 true (Zsg [0,1] [.j,.l Zc3] []) (.i .i64) [] (fun x=>q19 lo x.1 x.2:Int×Zt2->Option Int)
def fs20(lo:Lo):List FnE:=Ykp lo::fs19 lo
theorem Yq9(h:GZ P fm fs19 lo)(t:Ti P fm 134 Yq8):GZ P fm fs20 lo:=
  h.p (Ykp lo) (Yq7 lo) t
def q20_L3_b:VCode:=
 (.seq (Rg [oM 18 8,oM 19 2,oR 20 .lss 18 19]
 (Ce 20 0))
 (.seq (.blk 1 (Rg [oM 23 7,oM 24 8,oI 25 1 23 24,oL 26 25,oR 27 .lss 26 (k 0),oM 28 27,gF 29 28 (.mv 7),gF 30 28 (.mv 8),gF 31 28 (.iad 1 29 30),gF 32 28 (.load false 1 31),gF 33 28 (.mv 1),gF 34 28 (.bin .geq 32 33),oP 35 28 (kb true) 34]
 (.cond 35 (Rg [oB 6 false]
 (Fr 6))
 .skip)))
 (.reg [oM 21 8,oR 22 .add 21 (k 1),oM 8 22])))
def Yel(lo:Lo):Int×Int× (List Int)×Int->Option ((Int×Int× (List Int)×Int)⊕ (Bool⊕Unit)):=fun x=>match x with
  | (i1,count2,f7,k8)=>bif(decide (k8<count2))then(chk (0<=k8/\k8< (f7.length:Int)) (bif(decide ((f7.getD k8.toNat (0:Int))< (0:Int)))then(some (.inr (.inl false)))else(chk (0<=k8/\k8< (f7.length:Int)) (bif(decide (i1<=(f7.getD k8.toNat (0:Int))))then(some (.inr (.inl false)))else(some (.inl (i1,count2,f7,(YxX .i64 (k8+1)))))))))else(some (.inr (.inr ())))
def Ycl(lo:Lo):Int×Int× (List Int)×Int->Option (Bool⊕Unit):=lo.run (Yel lo)
def Yra(lo:Lo):LpE:=⟨3,[],(Zsg [1,2,7,8] [.j,.j,.l (cs [I]),.j] []),[⟨.ret,(Zsg [6] [.b] [])⟩,⟨.exit 0,(Zsg [] [] [])⟩],Ycl lo⟩
def Yrb(lo:Lo):LL:=(Yra lo,.loop q20_L3_b.er)::[]
theorem Yrc(lo:Lo):Lk lo pf (fs20 lo) 0 (Yrb lo):=.l .n (Yel lo)
def q20(lo:Lo)(steps0:List (Int× (List Int)×Int×Int))(i1:Int)(count2:Int):Option Bool:=
  chk (0<=i1/\i1< (steps0.length:Int)) (bif(!decide ((((steps0.getD i1.toNat ((0:Int),[],(0:Int),(0:Int))).2.1).length:Int)=count2))then(some false)else(YxD (Ycl lo (i1,count2,(steps0.getD i1.toNat ((0:Int),[],(0:Int),(0:Int))).2.1,(0:Int))) fun y59=>alt2 y59 (fun y60=>some y60) (fun y61=>some true)))
def Yrd:VFn:=⟨true,36,[.t 6],
 (Rg [oB 6 false]
 (Rg [oM 9 0,oM 10 1,oI 11 4 9 10,oF 12 1 11,oL 13 12,oM 7 13]
 (.seq (Rg [oM 14 7,oN 15 14,oM 16 2,oR 17 .neq 15 16]
 (.cond 17 (Rg [oB 6 false]
 (Fr 6))
 .skip))
 (.seq (Rg [oK 8 0]
 (.blk 0 (.loop 3 q20_L3_b)))
 (Rg [oB 6 true]
 (Fr 6))))))⟩
def Ykq(lo:Lo):FnE:=Zfe 159 true (Zsg [0,1,2] [.l Zc1,.j,.j] []) .b [] (fun x=>q20 lo x.1 x.2.1 x.2.2:Zt0×Int×Int->Option Bool)
def fs21(lo:Lo):List FnE:=Ykq lo::fs20 lo
theorem Yre(h:GZ P fm fs20 lo)(t:Ti P fm 159 Yrd):GZ P fm fs21 lo:=
  h.p (Ykq lo) (Yrc lo) t
def q21_L9_b:VCode:=
 (.seq (Rg [oM 100 12,oF 101 2 9,oF 102 0 101,oL 103 102,oR 104 .leq 100 103]
 (Ce 104 1))
 (.seq (.blk 2 (Rg [oF 107 0 11,oL 108 107,oM 109 12,oR 110 .or 108 109,oF 111 2 9,oF 112 0 111,oL 113 112,oR 114 .eql 110 113,oM 115 114,gT 116 115 (.fad 1 11),gT 117 115 (.load false 1 116),gT 118 115 (.mv 12),gT 119 115 (.bin .or 117 118),gT 120 115 (.fad 2 9),gT 121 115 (.fad 1 120),gT 122 115 (.load false 1 121),gT 123 115 (.bin .eql 119 122),oP 124 115 123 (kb false)]
 (.cond 124 (Rg [oB 8 true]
 (Fr 8))
 .skip)))
 (.reg [oM 105 12,oR 106 .add 105 (ki .u32 1),oM 12 106])))
def Yem(lo:Lo):Zp8->Option (Zp8⊕ (Bool⊕Unit)):=fun x=>match x with
  | (z12,d9_0,d9_1,d9_2,d9_3,from11_0,from11_1)=>bif(decide (z12<=d9_2))then(bif(decide ((bits .or .u32 from11_0 z12)=d9_2))then(bif(decide ((bits .or .u32 from11_1 z12)=d9_3))then(some (.inr (.inl true)))else(some (.inl ((YxX .u32 (z12+1)),d9_0,d9_1,d9_2,d9_3,from11_0,from11_1))))else(some (.inl ((YxX .u32 (z12+1)),d9_0,d9_1,d9_2,d9_3,from11_0,from11_1))))else(some (.inr (.inr ())))
def Ycm(lo:Lo):Zp8->Option (Bool⊕Unit):=lo.run (Yem lo)
def Yrf(lo:Lo):LpE:=⟨9,[],(Zsg [9,11,12] [.ptr 0 0 0,.ptr 1 0 0,.i .u32] [.st [.j,.l (cs [I]),.i .u32,.i .u32],.st [.i .u32,.i .u32]]),[⟨.ret,(Zsg [8] [.b] [])⟩,⟨.exit 1,(Zsg [] [] [])⟩],Ycm lo⟩
def Yrg(lo:Lo):LL:=(Yrf lo,.loop q21_L9_b.er)::[]
theorem Yrh(lo:Lo):Lk lo pf (fs21 lo) 0 (Yrg lo):=.l .n (Yem lo)
def q21(lo:Lo)(n0:Int)(fds1:List (Int×Int))(steps2:List (Int× (List Int)×Int×Int))(i3:Int):Option Bool:=
  chk (0<=i3/\i3< (steps2.length:Int)) (YxD (q0 lo n0) fun y55=>YxD (q18 lo ((steps2.getD i3.toNat ((0:Int),[],(0:Int),(0:Int))).2.2.1) y55) fun y56=>bif(!y56)then(some false)else(YxD (q18 lo ((steps2.getD i3.toNat ((0:Int),[],(0:Int),(0:Int))).2.2.2) y55) fun y57=>bif(!y57)then(some false)else(bif(decide ((steps2.getD i3.toNat ((0:Int),[],(0:Int),(0:Int))).1=(1:Int)))then(bif(decide ((((steps2.getD i3.toNat ((0:Int),[],(0:Int),(0:Int))).2.1).length:Int)=(1:Int)))then(chk (0<=(0:Int)/\ (0:Int)< (((steps2.getD i3.toNat ((0:Int),[],(0:Int),(0:Int))).2.1).length:Int)) (bif(decide ((0:Int)<=(((steps2.getD i3.toNat ((0:Int),[],(0:Int),(0:Int))).2.1).getD 0 (0:Int))))then(chk (0<=(0:Int)/\ (0:Int)< (((steps2.getD i3.toNat ((0:Int),[],(0:Int),(0:Int))).2.1).length:Int)) (bif(decide ((((steps2.getD i3.toNat ((0:Int),[],(0:Int),(0:Int))).2.1).getD 0 (0:Int))< (fds1.length:Int)))then(chk (0<=(0:Int)/\ (0:Int)< (((steps2.getD i3.toNat ((0:Int),[],(0:Int),(0:Int))).2.1).length:Int)) (chk (0<=(((steps2.getD i3.toNat ((0:Int),[],(0:Int),(0:Int))).2.1).getD 0 (0:Int))/\ (((steps2.getD i3.toNat ((0:Int),[],(0:Int),(0:Int))).2.1).getD 0 (0:Int))< (fds1.length:Int)) (some ((decide ((fds1.getD ((((steps2.getD i3.toNat ((0:Int),[],(0:Int),(0:Int))).2.1).getD 0 (0:Int)).toNat) ((0:Int),(0:Int))).1=(steps2.getD i3.toNat ((0:Int),[],(0:Int),(0:Int))).2.2.1))&& ((decide ((fds1.getD ((((steps2.getD i3.toNat ((0:Int),[],(0:Int),(0:Int))).2.1).getD 0 (0:Int)).toNat) ((0:Int),(0:Int))).2=(steps2.getD i3.toNat ((0:Int),[],(0:Int),(0:Int))).2.2.2))&&true)))))else(some false)))else(some false)))else(some false))else(bif(decide ((steps2.getD i3.toNat ((0:Int),[],(0:Int),(0:Int))).1=(2:Int)))then(bif(decide ((((steps2.getD i3.toNat ((0:Int),[],(0:Int),(0:Int))).2.1).length:Int)=(0:Int)))then(YxD (q18 lo ((steps2.getD i3.toNat ((0:Int),[],(0:Int),(0:Int))).2.2.2) ((steps2.getD i3.toNat ((0:Int),[],(0:Int),(0:Int))).2.2.1)) fun y58=>some y58)else(some false))else(bif(decide ((steps2.getD i3.toNat ((0:Int),[],(0:Int),(0:Int))).1=(3:Int)))then(YxD (q20 lo steps2 i3 (1:Int)) fun y62=>bif(!y62)then(some false)else(chk (0<=(0:Int)/\ (0:Int)< (((steps2.getD i3.toNat ((0:Int),[],(0:Int),(0:Int))).2.1).length:Int)) (chk (0<=(((steps2.getD i3.toNat ((0:Int),[],(0:Int),(0:Int))).2.1).getD 0 (0:Int))/\ (((steps2.getD i3.toNat ((0:Int),[],(0:Int),(0:Int))).2.1).getD 0 (0:Int))< (steps2.length:Int)) (YxD (Ycm lo ((0:Int),(steps2.getD i3.toNat ((0:Int),[],(0:Int),(0:Int))).1,(steps2.getD i3.toNat ((0:Int),[],(0:Int),(0:Int))).2.1,(steps2.getD i3.toNat ((0:Int),[],(0:Int),(0:Int))).2.2.1,(steps2.getD i3.toNat ((0:Int),[],(0:Int),(0:Int))).2.2.2,(steps2.getD ((((steps2.getD i3.toNat ((0:Int),[],(0:Int),(0:Int))).2.1).getD 0 (0:Int)).toNat) ((0:Int),[],(0:Int),(0:Int))).2.2.1,(steps2.getD ((((steps2.getD i3.toNat ((0:Int),[],(0:Int),(0:Int))).2.1).getD 0 (0:Int)).toNat) ((0:Int),[],(0:Int),(0:Int))).2.2.2)) fun y63=>alt2 y63 (fun y64=>some y64) (fun y65=>some false)))))else(bif(decide ((steps2.getD i3.toNat ((0:Int),[],(0:Int),(0:Int))).1=(4:Int)))then(YxD (q20 lo steps2 i3 (2:Int)) fun y66=>bif(!y66)then(some false)else(chk (0<=(0:Int)/\ (0:Int)< (((steps2.getD i3.toNat ((0:Int),[],(0:Int),(0:Int))).2.1).length:Int)) (chk (0<=(((steps2.getD i3.toNat ((0:Int),[],(0:Int),(0:Int))).2.1).getD 0 (0:Int))/\ (((steps2.getD i3.toNat ((0:Int),[],(0:Int),(0:Int))).2.1).getD 0 (0:Int))< (steps2.length:Int)) (chk (0<=(1:Int)/\ (1:Int)< (((steps2.getD i3.toNat ((0:Int),[],(0:Int),(0:Int))).2.1).length:Int)) (chk (0<=(((steps2.getD i3.toNat ((0:Int),[],(0:Int),(0:Int))).2.1).getD 1 (0:Int))/\ (((steps2.getD i3.toNat ((0:Int),[],(0:Int),(0:Int))).2.1).getD 1 (0:Int))< (steps2.length:Int)) (bif(decide ((steps2.getD ((((steps2.getD i3.toNat ((0:Int),[],(0:Int),(0:Int))).2.1).getD 0 (0:Int)).toNat) ((0:Int),[],(0:Int),(0:Int))).2.2.2=(steps2.getD ((((steps2.getD i3.toNat ((0:Int),[],(0:Int),(0:Int))).2.1).getD 1 (0:Int)).toNat) ((0:Int),[],(0:Int),(0:Int))).2.2.1))then(bif(decide ((steps2.getD ((((steps2.getD i3.toNat ((0:Int),[],(0:Int),(0:Int))).2.1).getD 0 (0:Int)).toNat) ((0:Int),[],(0:Int),(0:Int))).2.2.1=(steps2.getD i3.toNat ((0:Int),[],(0:Int),(0:Int))).2.2.1))then(some (decide ((steps2.getD ((((steps2.getD i3.toNat ((0:Int),[],(0:Int),(0:Int))).2.1).getD 1 (0:Int)).toNat) ((0:Int),[],(0:Int),(0:Int))).2.2.2=(steps2.getD i3.toNat ((0:Int),[],(0:Int),(0:Int))).2.2.2)))else(some false))else(some false)))))))else(some false)))))))
def Yri:VFn:=⟨true,168,[.t 8],
 (Rg [oB 8 false]
 (Rg [oM 15 2,oM 16 3,oI 17 4 15 16,oT 18 4 17,o 9 (.alloc [.i .i64 0,.e (cs [I]),.i .u32 0,.i .u32 0]),oS 4 9 18]
 (Rg [oM 19 0,oC 20 118 [19],oM 10 20]
 (.seq (Rg [oF 21 2 9,oF 22 0 21,oL 23 22,oM 24 10,oC 25 136 [23,24],oX 26 25,oM 27 26,gF 28 27 (.fad 2 9),gF 29 27 (.fad 1 28),gF 30 27 (.load false 1 29),gF 31 27 (.mv 10),gF 32 27 (.call 136 [30,31]),gF 33 27 (.not 32),oP 34 27 (kb true) 33]
 (.cond 34 (Rg [oB 8 false]
 (Fr 8))
 .skip))
 (.seq (Rg [oF 35 0 9,oL 36 35]
 (.blk 0 (Rg [oR 38 .eql 36 (k 1),oM 37 38]
 (.cond 37 (Rg [oF 39 1 9,oL 40 39,oN 41 40,oR 42 .eql 41 (k 1),oM 43 42,gT 44 43 (.fad 1 9),gT 45 43 (.load false 1 44),gT 46 43 (.iad 1 45 (k 0)),gT 47 43 (.load false 1 46),gT 48 43 (.bin .geq 47 (k 0)),oP 49 43 48 (kb false),oM 50 49,gT 51 50 (.fad 1 9),gT 52 50 (.load false 1 51),gT 53 50 (.iad 1 52 (k 0)),gT 54 50 (.load false 1 53),gT 55 50 (.mv 1),gT 56 50 (.len 55),gT 57 50 (.bin .lss 54 56),oP 58 50 57 (kb false),oM 59 58,gT 60 59 (.mv 1),gT 61 59 (.fad 1 9),gT 62 59 (.load false 1 61),gT 63 59 (.iad 1 62 (k 0)),gT 64 59 (.load false 1 63),gT 65 59 (.iad 2 60 64),gT 66 59 (.load true 2 65),gT 67 59 (.fad 2 9),gT 68 59 (.load true 2 67),gT 69 59 (.eqa false [1,1] 66 68),oP 70 59 69 (kb false),oM 8 70]
 (Fr 8))
 (Rg [oR 72 .eql 36 (k 2),oM 71 72]
 (.cond 71 (Rg [oF 73 1 9,oL 74 73,oN 75 74,oR 76 .eql 75 (k 0),oM 77 76,gT 78 77 (.fad 2 9),gT 79 77 (.fad 1 78),gT 80 77 (.load false 1 79),gT 81 77 (.fad 2 9),gT 82 77 (.fad 0 81),gT 83 77 (.load false 1 82),gT 84 77 (.call 136 [80,83]),oP 85 77 84 (kb false),oM 8 85]
 (Fr 8))
 (Rg [oR 87 .eql 36 (k 3),oM 86 87]
 (.cond 86 (.seq (Rg [oM 88 2,oM 89 3,oC 90 159 [88,89,(k 1)],oX 91 90]
 (.cond 91 (Rg [oB 8 false]
 (Fr 8))
 .skip))
 (Rg [oM 92 2,oF 93 1 9,oL 94 93,o 95 (.iad 1 94 (k 0)),oL 96 95,oI 97 4 92 96,oF 98 2 97,oT 99 2 98,o 11 (.alloc [.i .u32 0,.i .u32 0]),oS 2 11 99]
 (.seq (Rg [o 12 (.mv (ki .u32 0))]
 (.blk 1 (.loop 9 q21_L9_b)))
 (Rg [oB 8 false]
 (Fr 8)))))
 (Rg [oR 126 .eql 36 (k 4),oM 125 126]
 (.cond 125 (.seq (Rg [oM 127 2,oM 128 3,oC 129 159 [127,128,(k 2)],oX 130 129]
 (.cond 130 (Rg [oB 8 false]
 (Fr 8))
 .skip))
 (Rg [oM 131 2,oF 132 1 9,⟨some 133,.load false 1 132,none,true,false⟩,⟨some 134,.iad 1 133 (k 0),none,true,false⟩,⟨some 135,.load false 1 134,none,true,false⟩,⟨some 136,.iad 4 131 135,none,true,false⟩,oF 137 2 136,⟨some 138,.load true 2 137,none,true,false⟩,oM 139 2,oF 140 1 9,⟨some 141,.load false 1 140,none,true,false⟩,⟨some 142,.iad 1 141 (k 1),none,true,false⟩,⟨some 143,.load false 1 142,none,true,false⟩,⟨some 144,.iad 4 139 143,none,true,false⟩,oF 145 2 144,⟨some 146,.load true 2 145,none,true,false⟩,o 13 (.alloc [.i .u32 0,.i .u32 0]),o 14 (.alloc [.i .u32 0,.i .u32 0]),⟨none,.store 2 13 138,none,false,true⟩,oS 2 14 146]
 (Rg [oF 147 1 13,oL 148 147,oF 149 0 14,oL 150 149,oR 151 .eql 148 150,oM 152 151,gT 153 152 (.fad 0 13),gT 154 152 (.load false 1 153),gT 155 152 (.fad 2 9),gT 156 152 (.fad 0 155),gT 157 152 (.load false 1 156),gT 158 152 (.bin .eql 154 157),oP 159 152 158 (kb false),oM 160 159,gT 161 160 (.fad 1 14),gT 162 160 (.load false 1 161),gT 163 160 (.fad 2 9),gT 164 160 (.fad 1 163),gT 165 160 (.load false 1 164),gT 166 160 (.bin .eql 162 165),oP 167 160 166 (kb false),oM 8 167]
 (Fr 8))))
 .skip))))))))))
 (Rg [oB 8 false]
 (Fr 8)))))))⟩
def Ykr(lo:Lo):FnE:=Zfe 135 true (Zsg [0,1,2,3] [.j,.l Zc3,.l Zc1,.j] []) .b [] (fun x=>q21 lo x.1 x.2.1 x.2.2.1 x.2.2.2:Int×Zt2×Zt0×Int->Option Bool)
def fs22(lo:Lo):List FnE:=Ykr lo::fs21 lo
theorem Yrj(h:GZ P fm fs21 lo)(t:Ti P fm 135 Yri):GZ P fm fs22 lo:=
  h.p (Ykr lo) (Yrh lo) t
def q22_L3_b:VCode:=
 (.seq (Rg [oM 19 9,oM 20 2,oN 21 20,oR 22 .lss 19 21]
 (Ce 22 0))
 (.seq (.blk 1 (Rg [oM 25 0,oM 26 1,oM 27 2,oM 28 9,oC 29 135 [25,26,27,28],oX 30 29]
 (.cond 30 (Rg [oM 31 9,oM 6 31,oK 7 1]
 (.fz [6,7] .ret))
 .skip)))
 (.reg [oM 23 9,oR 24 .add 23 (k 1),oM 9 24])))
def Yen(lo:Lo):Int×Zt2×Zt0×Int->Option ((Int×Zt2×Zt0×Int)⊕ ((Int×Int)⊕Unit)):=fun x=>match x with
  | (n0,fds1,steps2,i9)=>bif(decide (i9< (steps2.length:Int)))then(YxD (q21 lo n0 fds1 steps2 i9) fun y67=>bif(!y67)then(some (.inr (.inl (i9,(1:Int)))))else(some (.inl (n0,fds1,steps2,(YxX .i64 (i9+1))))))else(some (.inr (.inr ())))
def Ycn(lo:Lo):Int×Zt2×Zt0×Int->Option ((Int×Int)⊕Unit):=lo.run (Yen lo)
def Yrk(lo:Lo):LpE:=⟨3,[],(Zsg [0,1,2,9] [.j,.l Zc3,.l Zc1,.j] []),[⟨.ret,(Zsg [6,7] [.j,.j] [])⟩,⟨.exit 0,(Zsg [] [] [])⟩],Ycn lo⟩
def Yrl(lo:Lo):LL:=(Yrk lo,.loop q22_L3_b.er)::[]
theorem Yrm(lo:Lo):Lk lo pf (fs22 lo) 0 (Yrl lo):=.l .n (Yen lo)
def q22(lo:Lo)(n0:Int)(fds1:List (Int×Int))(steps2:List (Int× (List Int)×Int×Int)):Option (Int×Int):=
  YxD (q19 lo n0 fds1) fun y54=>bif(!decide (y54=0))then(some ((0:Int),y54))else(bif(decide ((steps2.length:Int)=0))then(some ((0:Int),(12:Int)))else(YxD (Ycn lo (n0,fds1,steps2,(0:Int))) fun y68=>alt2 y68 (fun y69=>some (y69.1,y69.2)) (fun y70=>some ((0:Int),(0:Int)))))
def Yrn:VFn:=⟨true,32,[.t 6,.t 7],
 (Rg [oK 6 0,oK 7 0]
 (.seq (Rg [oM 10 0,oM 11 1,oC 12 134 [10,11],oM 8 12]
 (Rg [oM 13 8,oR 14 .neq 13 (k 0)]
 (.cond 14 (Rg [oM 15 8,oK 6 0,oM 7 15]
 (.fz [6,7] .ret))
 .skip)))
 (.seq (Rg [oM 16 2,oN 17 16,oR 18 .eql 17 (k 0)]
 (.cond 18 (Rg [oK 6 0,oK 7 12]
 (.fz [6,7] .ret))
 .skip))
 (.seq (Rg [oK 9 0]
 (.blk 0 (.loop 3 q22_L3_b)))
 (Rg [oK 6 0,oK 7 0]
 (.fz [6,7] .ret))))))⟩
def Yks(lo:Lo):FnE:=Zfe 112 true (Zsg [0,1,2] [.j,.l Zc3,.l Zc1] []) (.tp [.j,.j]) [] (fun x=>q22 lo x.1 x.2.1 x.2.2:Int×Zt2×Zt0->Option (Int×Int))
def fs23(lo:Lo):List FnE:=Yks lo::fs22 lo
theorem Yro(h:GZ P fm fs22 lo)(t:Ti P fm 112 Yrn):GZ P fm fs23 lo:=
  h.p (Yks lo) (Yrm lo) t
def q23(lo:Lo)(n0:Int)(fds1:List (Int×Int))(steps2:List (Int× (List Int)×Int×Int))(goal3_0:Int)(goal3_1:Int):Option Bool:=
  YxD (q22 lo n0 fds1 steps2) fun y71=>bif(decide (y71.2=(0:Int)))then(chk (0<=(YxX .i64 ((steps2.length:Int)-1))/\ (YxX .i64 ((steps2.length:Int)-1))< (steps2.length:Int)) (some ((decide ((steps2.getD ((YxX .i64 ((steps2.length:Int)-1)).toNat) ((0:Int),[],(0:Int),(0:Int))).2.2.1=goal3_0))&& ((decide ((steps2.getD ((YxX .i64 ((steps2.length:Int)-1)).toNat) ((0:Int),[],(0:Int),(0:Int))).2.2.2=goal3_1))&&true))))else(some false)
def Yrp:VFn:=⟨true,31,[.t 8],
 (Rg [oG 7 3,oB 8 false]
 (Rg [oM 12 0,oM 13 1,oM 14 2,oC 15 112 [12,13,14],oM 11 15,oE 16 11 0,oE 17 11 1,oM 9 16,oM 10 17]
 (Rg [oM 18 10,oR 19 .eql 18 (k 0),oM 20 19,gT 21 20 (.mv 2),gT 22 20 (.mv 2),gT 23 20 (.len 22),gT 24 20 (.bin .sub 23 (k 1)),gT 25 20 (.iad 4 21 24),gT 26 20 (.fad 2 25),gT 27 20 (.load true 2 26),gT 28 20 (.load true 2 7),gT 29 20 (.eqa false [1,1] 27 28),oP 30 20 29 (kb false),oM 8 30]
 (Fr 8))))⟩
def Ykt(lo:Lo):FnE:=Zfe 114 true (Zsg [0,1,2,3] [.j,.l Zc3,.l Zc1,.ag [.i .u32,.i .u32]] []) .b [] (fun x=>q23 lo x.1 x.2.1 x.2.2.1 x.2.2.2.1 x.2.2.2.2:Int×Zt2×Zt0×Int×Int->Option Bool)
def fs24(lo:Lo):List FnE:=Ykt lo::fs23 lo
theorem Yrq(h:GZ P fm fs23 lo)(t:Ti P fm 114 Yrp):GZ P fm fs24 lo:=
  h.p (Ykt lo) .n t
def q24(lo:Lo)(n0:Int)(fds1:List (Int×Int))(steps2:List (Int× (List Int)×Int×Int))(goal3_0:Int)(goal3_1:Int):Option Bool:=
  YxD (q9 lo n0 fds1 steps2) fun y73=>bif(decide (y73.2=(0:Int)))then(chk (0<=(YxX .i64 ((steps2.length:Int)-1))/\ (YxX .i64 ((steps2.length:Int)-1))< (steps2.length:Int)) (some ((decide ((steps2.getD ((YxX .i64 ((steps2.length:Int)-1)).toNat) ((0:Int),[],(0:Int),(0:Int))).2.2.1=goal3_0))&& ((decide ((steps2.getD ((YxX .i64 ((steps2.length:Int)-1)).toNat) ((0:Int),[],(0:Int),(0:Int))).2.2.2=goal3_1))&&true))))else(some false)
def Yrr:VFn:=⟨true,31,[.t 8],
 (Rg [oG 7 3,oB 8 false]
 (Rg [oM 12 0,oM 13 1,oM 14 2,oC 15 111 [12,13,14],oM 11 15,oE 16 11 0,oE 17 11 1,oM 9 16,oM 10 17]
 (Rg [oM 18 10,oR 19 .eql 18 (k 0),oM 20 19,gT 21 20 (.mv 2),gT 22 20 (.mv 2),gT 23 20 (.len 22),gT 24 20 (.bin .sub 23 (k 1)),gT 25 20 (.iad 4 21 24),gT 26 20 (.fad 2 25),gT 27 20 (.load true 2 26),gT 28 20 (.load true 2 7),gT 29 20 (.eqa false [1,1] 27 28),oP 30 20 29 (kb false),oM 8 30]
 (Fr 8))))⟩
def Yku(lo:Lo):FnE:=Zfe 113 true (Zsg [0,1,2,3] [.j,.l Zc3,.l Zc1,.ag [.i .u32,.i .u32]] []) .b [] (fun x=>q24 lo x.1 x.2.1 x.2.2.1 x.2.2.2.1 x.2.2.2.2:Int×Zt2×Zt0×Int×Int->Option Bool)
def fs25(lo:Lo):List FnE:=Yku lo::fs24 lo
theorem Yrs(h:GZ P fm fs24 lo)(t:Ti P fm 113 Yrr):GZ P fm fs25 lo:=
  h.p (Yku lo) .n t
def q25(lo:Lo)(i0:Int):Option ByteArray:=
  bif(decide (i0<10))then(chk (0<=i0/\i0<=(YxX .i64 (i0+1))/\ (YxX .i64 (i0+1))<=((YxW #[48,49,50,51,52,53,54,55,56,57,97,98,99,100,101,102,103,104,105,106,107,108,109,110,111,112,113,114,115,116,117,118,119,120,121,122]).size:Int)) (some ((YxW #[48,49,50,51,52,53,54,55,56,57,97,98,99,100,101,102,103,104,105,106,107,108,109,110,111,112,113,114,115,116,117,118,119,120,121,122]).extract i0.toNat (YxX .i64 (i0+1)).toNat)))else(chk (0<=(YxX .i64 (i0*2))/\ (YxX .i64 (i0*2))<=(YxX .i64 ((YxX .i64 (i0*2))+(2:Int)))/\ (YxX .i64 ((YxX .i64 (i0*2))+(2:Int)))<=((YxW #[48,48,48,49,48,50,48,51,48,52,48,53,48,54,48,55,48,56,48,57,49,48,49,49,49,50,49,51,49,52,49,53,49,54,49,55,49,56,49,57,50,48,50,49,50,50,50,51,50,52,50,53,50,54,50,55,50,56,50,57,51,48,51,49,51,50,51,51,51,52,51,53,51,54,51,55,51,56,51,57,52,48,52,49,52,50,52,51,52,52,52,53,52,54,52,55,52,56,52,57,53,48,53,49,53,50,53,51,53,52,53,53,53,54,53,55,53,56,53,57,54,48,54,49,54,50,54,51,54,52,54,53,54,54,54,55,54,56,54,57,55,48,55,49,55,50,55,51,55,52,55,53,55,54,55,55,55,56,55,57,56,48,56,49,56,50,56,51,56,52,56,53,56,54,56,55,56,56,56,57,57,48,57,49,57,50,57,51,57,52,57,53,57,54,57,55,57,56,57,57]).size:Int)) (some ((YxW #[48,48,48,49,48,50,48,51,48,52,48,53,48,54,48,55,48,56,48,57,49,48,49,49,49,50,49,51,49,52,49,53,49,54,49,55,49,56,49,57,50,48,50,49,50,50,50,51,50,52,50,53,50,54,50,55,50,56,50,57,51,48,51,49,51,50,51,51,51,52,51,53,51,54,51,55,51,56,51,57,52,48,52,49,52,50,52,51,52,52,52,53,52,54,52,55,52,56,52,57,53,48,53,49,53,50,53,51,53,52,53,53,53,54,53,55,53,56,53,57,54,48,54,49,54,50,54,51,54,52,54,53,54,54,54,55,54,56,54,57,55,48,55,49,55,50,55,51,55,52,55,53,55,54,55,55,55,56,55,57,56,48,56,49,56,50,56,51,56,52,56,53,56,54,56,55,56,56,56,57,57,48,57,49,57,50,57,51,57,52,57,53,57,54,57,55,57,56,57,57]).extract (YxX .i64 (i0*2)).toNat (YxX .i64 ((YxX .i64 (i0*2))+(2:Int))).toNat)))
def Yrt:VFn:=⟨true,15,[.t 2],
 (Rg [o 2 (.mv (ks (⟨#[]⟩)))]
 (.seq (Rg [oM 3 0,oR 4 .lss 3 (k 10)]
 (.cond 4 (Rg [oM 5 0,oM 6 0,oR 7 .add 6 (k 1),o 8 (.slcS (ks (⟨#[48,49,50,51,52,53,54,55,56,57,97,98,99,100,101,102,103,104,105,106,107,108,109,110,111,112,113,114,115,116,117,118,119,120,121,122]⟩)) (some 5) (some 7)),oM 2 8]
 (Fr 2))
 .skip))
 (Rg [oM 9 0,oR 10 .mul 9 (k 2),oM 11 0,oR 12 .mul 11 (k 2),oR 13 .add 12 (k 2),o 14 (.slcS (ks (⟨#[48,48,48,49,48,50,48,51,48,52,48,53,48,54,48,55,48,56,48,57,49,48,49,49,49,50,49,51,49,52,49,53,49,54,49,55,49,56,49,57,50,48,50,49,50,50,50,51,50,52,50,53,50,54,50,55,50,56,50,57,51,48,51,49,51,50,51,51,51,52,51,53,51,54,51,55,51,56,51,57,52,48,52,49,52,50,52,51,52,52,52,53,52,54,52,55,52,56,52,57,53,48,53,49,53,50,53,51,53,52,53,53,53,54,53,55,53,56,53,57,54,48,54,49,54,50,54,51,54,52,54,53,54,54,54,55,54,56,54,57,55,48,55,49,55,50,55,51,55,52,55,53,55,54,55,55,55,56,55,57,56,48,56,49,56,50,56,51,56,52,56,53,56,54,56,55,56,56,56,57,57,48,57,49,57,50,57,51,57,52,57,53,57,54,57,55,57,56,57,57]⟩)) (some 10) (some 13)),oM 2 14]
 (Fr 2))))⟩
def Ykv(lo:Lo):FnE:=Zfe 1082 true (Zsg [0] [.j] []) .s [] (fun x=>q25 lo x:Int->Option ByteArray)
def fs26(lo:Lo):List FnE:=Ykv lo::fs25 lo
theorem Yru(h:GZ P fm fs25 lo)(t:Ti P fm 1082 Yrt):GZ P fm fs26 lo:=
  h.p (Ykv lo) .n t
def fs27(lo:Lo):List FnE:=fs26 lo
def fs28(lo:Lo):List FnE:=fs27 lo
def fs29(lo:Lo):List FnE:=fs28 lo
def q29(lo:Lo)(i0:Int)(base1:Int):Option ByteArray:=
  bif(decide (base1=10))then(bif(decide (0<=i0))then(bif(decide (i0<100))then(YxD (q25 lo i0) fun y75=>some y75)else(bif(decide (i0<0))then(none)else(none)))else(bif(decide (i0<0))then(none)else(none)))else(none)
def Yrv:VFn:=⟨true,54,[.t 4],
 (Rg [o 4 (.mv (ks (⟨#[]⟩)))]
 (.seq (Rg [oM 10 1,oR 11 .eql 10 (k 10)]
 (.cond 11 (.seq (Rg [oM 12 0,oR 13 .leq (k 0) 12,oM 14 13,gT 15 14 (.mv 0),gT 16 14 (.bin .lss 15 (k 100)),oP 17 14 16 (kb false)]
 (.cond 17 (Rg [oM 18 0,oC 19 1082 [18],oM 4 19]
 (Fr 4))
 .skip))
 (Rg [o 5 (.alloc [.i .u8 0,.i .u8 0,.i .u8 0,.i .u8 0,.i .u8 0,.i .u8 0,.i .u8 0,.i .u8 0,.i .u8 0,.i .u8 0,.i .u8 0,.i .u8 0,.i .u8 0,.i .u8 0,.i .u8 0,.i .u8 0,.i .u8 0,.i .u8 0,.i .u8 0,.i .u8 0,.i .u8 0,.i .u8 0,.i .u8 0,.i .u8 0])]
 (Rg [oM 20 0,o 21 (.conv .u64 20),oM 6 21]
 (.seq (Rg [oM 22 0,oR 23 .lss 22 (k 0)]
 (.cond 23 (.reg [oM 24 6,o 25 (.neg 24),oM 6 25])
 .skip))
 (Rg [oM 26 6,oC 27 1083 [26],oM 7 27]
 (.seq .bad
 (.seq (Rg [oM 33 0,oR 34 .lss 33 (k 0)]
 (.cond 34 (Rg [o 35 (.iada 1 24 5 (k 0)),on (.store 1 35 (ki .u8 45))]
 (.seq .bad
 (Fr 4)))
 .skip))
 (.seq .bad
 (Fr 4)))))))))
 .skip))
 (Rg [oM 45 0,o 46 (.conv .u64 45),oM 47 1,oM 48 0,oR 49 .lss 48 (k 0),oC 50 1085 [(ke (cs [.i .u8])),46,47,49,(kb false)],oM 44 50,oE 51 44 0,oE 52 44 1,oM 8 51,oM 9 52]
 (Rg [oM 53 9,oM 4 53]
 (Fr 4)))))⟩
def Ykw(lo:Lo):FnE:=Zfe 1081 true (Zsg [0,1] [.j,.j] []) .s [] (fun x=>q29 lo x.1 x.2:Int×Int->Option ByteArray)
def fs30(lo:Lo):List FnE:=Ykw lo::fs29 lo
theorem Yrw(h:GZ P fm fs29 lo)(t:Ti P fm 1081 Yrv):GZ P fm fs30 lo:=
  h.p (Ykw lo) .n t
def q30(lo:Lo)(i0:Int):Option ByteArray:=
  YxD (q29 lo i0 (10:Int)) fun y83=>some y83
def Yrx:VFn:=⟨true,5,[.t 2],
 (Rg [o 2 (.mv (ks (⟨#[]⟩)))]
 (Rg [oM 3 0,oC 4 1081 [3,(k 10)],oM 2 4]
 (Fr 2)))⟩
def Ykx(lo:Lo):FnE:=Zfe 1076 true (Zsg [0] [.j] []) .s [] (fun x=>q30 lo x:Int->Option ByteArray)
def fs31(lo:Lo):List FnE:=Ykx lo::fs30 lo
theorem Yry(h:GZ P fm fs30 lo)(t:Ti P fm 1076 Yrx):GZ P fm fs31 lo:=
  h.p (Ykx lo) .n t
def q31(lo:Lo)(i0:Int):Option ByteArray:=
  YxD (q30 lo i0) fun y84=>some y84
def Yrz:VFn:=⟨true,5,[.t 2],
 (Rg [o 2 (.mv (ks (⟨#[]⟩)))]
 (Rg [oM 3 0,oC 4 1076 [3],oM 2 4]
 (Fr 2)))⟩
def Yky(lo:Lo):FnE:=Zfe 165 true (Zsg [0] [.j] []) .s [] (fun x=>q31 lo x:Int->Option ByteArray)
def fs32(lo:Lo):List FnE:=Yky lo::fs31 lo
theorem YrA(h:GZ P fm fs31 lo)(t:Ti P fm 165 Yrz):GZ P fm fs32 lo:=
  h.p (Yky lo) .n t
def q32(lo:Lo):Option ((List ByteArray)):=
  some ([(YxW #[]),(YxW #[103,105,118,101,110]),(YxW #[114,101,102,108,101,120,105,118,101]),(YxW #[97,117,103,109,101,110,116]),(YxW #[116,114,97,110,115,105,116])])
def YrB:VFn:=⟨true,2,[.t 0],
 (Rg [o 0 (.mv (ke (cs [.s])))]
 (Rg [o 1 (.bsl (cs [.s]) 5 [(0,(ks (⟨#[]⟩))),(1,(ks (⟨#[103,105,118,101,110]⟩))),(2,(ks (⟨#[114,101,102,108,101,120,105,118,101]⟩))),(3,(ks (⟨#[97,117,103,109,101,110,116]⟩))),(4,(ks (⟨#[116,114,97,110,115,105,116]⟩)))]),oM 0 1]
 (Fr 0)))⟩
def Ykz(lo:Lo):FnE:=Zfe 168 true (Zsg [] [] []) (.l (cs [.s])) [] (fun x=>q32 lo:Unit->Option ((List ByteArray)))
def fs33(lo:Lo):List FnE:=Ykz lo::fs32 lo
theorem YrC(h:GZ P fm fs32 lo)(t:Ti P fm 168 YrB):GZ P fm fs33 lo:=
  h.p (Ykz lo) .n t
def q33(lo:Lo)(l:List ByteArray)(sep:ByteArray):Option ByteArray:=YvS l sep
def YrD(lo:Lo):FnE:=vjoinE 169
def fs34(lo:Lo):List FnE:=YrD lo::fs33 lo
theorem YrE(h:GZ P fm fs33 lo)(hG: ∀f,fm f=169->YtL P f=true/\ ∃ρ:Go.Shelf.Ren,Go.Proofs.Lays.n156 P ρ/\Go.Proofs.Builder.Extra P ρ/\ρ.f 156=f):GZ P fm fs34 lo:=
  ⟨h.1,h.2,YpY h.S rfl hG⟩
end Go.Abs.G1p
namespace Go.Abs.G1p
open Go Go.Abs
set_option maxRecDepth 100000
set_option maxHeartbeats 1000000
variable{P:Program}{fm:FM}{lo:Lo}
def q34(lo:Lo)(i0:Int)(base1:Int):Option ByteArray:=
  bif(decide (base1=10))then(bif(decide (i0<100))then(YxD (q25 lo (YxX .i64 i0)) fun y91=>some y91)else(none))else(none)
def YrF:VFn:=⟨true,32,[.t 4],
 (Rg [o 4 (.mv (ks (⟨#[]⟩)))]
 (.seq (Rg [oM 9 1,oR 10 .eql 9 (k 10)]
 (.cond 10 (.seq (Rg [oM 11 0,oR 12 .lss 11 (ki .u64 100)]
 (.cond 12 (Rg [oM 13 0,o 14 (.conv .i64 13),oC 15 1082 [14],oM 4 15]
 (Fr 4))
 .skip))
 (Rg [o 5 (.alloc [.i .u8 0,.i .u8 0,.i .u8 0,.i .u8 0,.i .u8 0,.i .u8 0,.i .u8 0,.i .u8 0,.i .u8 0,.i .u8 0,.i .u8 0,.i .u8 0,.i .u8 0,.i .u8 0,.i .u8 0,.i .u8 0,.i .u8 0,.i .u8 0,.i .u8 0,.i .u8 0,.i .u8 0,.i .u8 0,.i .u8 0,.i .u8 0])]
 (Rg [oM 16 0,oC 17 1083 [16],oM 6 17]
 (.seq .bad
 (.seq .bad
 (Fr 4))))))
 .skip))
 (Rg [oM 26 0,oM 27 1,oC 28 1085 [(ke (cs [.i .u8])),26,27,(kb false),(kb false)],oM 25 28,oE 29 25 0,oE 30 25 1,oM 7 29,oM 8 30]
 (Rg [oM 31 8,oM 4 31]
 (Fr 4)))))⟩
def YkA(lo:Lo):FnE:=Zfe 1077 true (Zsg [0,1] [.i .u64,.j] []) .s [] (fun x=>q34 lo x.1 x.2:Int×Int->Option ByteArray)
def fs35(lo:Lo):List FnE:=YkA lo::fs34 lo
theorem YrG(h:GZ P fm fs34 lo)(t:Ti P fm 1077 YrF):GZ P fm fs35 lo:=
  h.p (YkA lo) .n t
def q35(lo:Lo)(i0:Int)(base1:Int):Option ByteArray:=
  YxD (q34 lo i0 base1) fun y92=>some y92
def YrH:VFn:=⟨true,8,[.t 4],
 (Rg [o 4 (.mv (ks (⟨#[]⟩)))]
 (Rg [oM 5 0,oM 6 1,oC 7 1077 [5,6],oM 4 7]
 (Fr 4)))⟩
def YkB(lo:Lo):FnE:=Zfe 167 true (Zsg [0,1] [.i .u64,.j] []) .s [] (fun x=>q35 lo x.1 x.2:Int×Int->Option ByteArray)
def fs36(lo:Lo):List FnE:=YkB lo::fs35 lo
theorem YrI(h:GZ P fm fs35 lo)(t:Ti P fm 167 YrH):GZ P fm fs36 lo:=
  h.p (YkB lo) .n t
def q36(lo:Lo)(x0:Int):Option ByteArray:=
  YxD (q35 lo (YxX .u64 x0) (10:Int)) fun y93=>some y93
def YrJ:VFn:=⟨true,6,[.t 2],
 (Rg [o 2 (.mv (ks (⟨#[]⟩)))]
 (Rg [oM 3 0,o 4 (.conv .u64 3),oC 5 167 [4,(k 10)],oM 2 5]
 (Fr 2)))⟩
def YkC(lo:Lo):FnE:=Zfe 166 true (Zsg [0] [.i .u32] []) .s [] (fun x=>q36 lo x:Int->Option ByteArray)
def fs37(lo:Lo):List FnE:=YkC lo::fs36 lo
theorem YrK(h:GZ P fm fs36 lo)(t:Ti P fm 166 YrJ):GZ P fm fs37 lo:=
  h.p (YkC lo) .n t
def q37_L7_b:VCode:=
 (Rg [oR 20 .lss 19 18]
 (.seq (Ce 20 0)
 (.seq (.blk 1 (Rg [oI 21 1 17 19,oL 22 21,oM 5 22]
 (.seq (Rg [oM 23 5,oR 24 .lss 23 (k 0)]
 (.cond 24 (Rg [o 2 (.mv (ks (⟨#[]⟩)))]
 (Fr 2))
 .skip))
 (.reg [oM 25 3,oM 26 5,oC 27 165 [26],o 28 (.bsl (cs [.s]) 1 [(0,27)]),o 29 (.app (cs [.s]) 0 25 28),oM 3 29]))))
 (.reg [oR 30 .add 19 (k 1),oM 19 30]))))
def YkD(lo:Lo):Zp5->Option (Zp5⊕ (ByteArray⊕Zp7)):=fun x=>match x with
  | (v17,v18,v19,s1_0,s1_1,s1_2,s1_3,from3)=>bif(decide (v19<v18))then(chk (0<=v19/\v19< (v17.length:Int)) (bif(decide ((v17.getD v19.toNat (0:Int))< (0:Int)))then(some (.inr (.inl (YxW #[]))))else(YxD (q31 lo (v17.getD v19.toNat (0:Int))) fun y85=>chk (from3.length+[y85].length<=maxEl) (some (.inl (v17,v18,(YxX .i64 (v19+1)),s1_0,s1_1,s1_2,s1_3,(from3++[y85])))))))else(some (.inr (.inr (s1_0,s1_1,s1_2,s1_3,from3))))
def YkE(lo:Lo):Zp5->Option (ByteArray⊕Zp7):=lo.run (YkD lo)
def YrL(lo:Lo):LpE:=⟨7,[(3,none,false)],(Zsg [1,3,17,18,19] [.ptr 0 0 0,.ref 1,.l (cs [I]),.j,.j] [.st [.j,.l (cs [I]),.i .u32,.i .u32],.sq (cs [.s])]),[⟨.ret,(Zsg [2] [.s] [])⟩,⟨.exit 0,(Zsg [1,3] [.ptr 0 0 0,.ref 1] [.st [.j,.l (cs [I]),.i .u32,.i .u32],.sq (cs [.s])])⟩],YkE lo⟩
def YkF(lo:Lo):LL:=(YrL lo,.loop q37_L7_b.er)::[]
theorem YrM(lo:Lo):Lk lo pf (fs37 lo) 0 (YkF lo):=.l .n (YkD lo)
def q37_J6_b:VCode:=
 (Rg [o 6 (.mv (.c (.f 166)))]
 (Rg [oC 37 168 [],oF 38 0 1,oL 39 38,oI 40 1 37 39,oL 41 40,oR 42 .add 41 (ks (⟨#[32]⟩)),oM 43 3,oC 44 169 [43,(ks (⟨#[44]⟩))],oR 45 .add 42 44,oR 46 .add 45 (ks (⟨#[32]⟩)),oM 47 6,oF 48 2 1,oF 49 0 48,oL 50 49,o 51 (.dynP 47 [50]),oR 52 .add 46 51,oR 53 .add 52 (ks (⟨#[32,45,62,32]⟩)),oM 54 6,oF 55 2 1,oF 56 1 55,oL 57 56,o 58 (.dynP 54 [57]),oR 59 .add 53 58,oR 60 .add 59 (ks (⟨#[10]⟩)),oM 2 60]
 (Fr 2)))
def YfU(lo:Lo):Zp7->Option ByteArray:=fun x=>match x with
  | (s1_0,s1_1,s1_2,s1_3,from3)=>YxD (q32 lo) fun y89=>chk (0<=s1_0/\s1_0< (y89.length:Int)) (chk (Yxv ((y89.getD s1_0.toNat (YxW #[])).size+(YxW #[32]).size) 9223372036854775807=true) (YxD (q33 lo from3 (YxW #[44])) fun y90=>chk (Yxv (((y89.getD s1_0.toNat (YxW #[]))++(YxW #[32])).size+y90.size) 9223372036854775807=true) (chk (Yxv ((((y89.getD s1_0.toNat (YxW #[]))++(YxW #[32]))++y90).size+(YxW #[32]).size) 9223372036854775807=true) (YxD (q36 lo s1_2) fun y94=>chk (Yxv (((((y89.getD s1_0.toNat (YxW #[]))++(YxW #[32]))++y90)++(YxW #[32])).size+y94.size) 9223372036854775807=true) (chk (Yxv ((((((y89.getD s1_0.toNat (YxW #[]))++(YxW #[32]))++y90)++(YxW #[32]))++y94).size+(YxW #[32,45,62,32]).size) 9223372036854775807=true) (YxD (q36 lo s1_3) fun y95=>chk (Yxv (((((((y89.getD s1_0.toNat (YxW #[]))++(YxW #[32]))++y90)++(YxW #[32]))++y94)++(YxW #[32,45,62,32])).size+y95.size) 9223372036854775807=true) (chk (Yxv ((((((((y89.getD s1_0.toNat (YxW #[]))++(YxW #[32]))++y90)++(YxW #[32]))++y94)++(YxW #[32,45,62,32]))++y95).size+(YxW #[10]).size) 9223372036854775807=true) (some ((((((((y89.getD s1_0.toNat (YxW #[]))++(YxW #[32]))++y90)++(YxW #[32]))++y94)++(YxW #[32,45,62,32]))++y95)++(YxW #[10]))))))))))
def YrN(lo:Lo):LpE:=⟨6,[],(Zsg [1,3] [.ptr 0 0 0,.ref 1] [.st [.j,.l (cs [I]),.i .u32,.i .u32],.sq (cs [.s])]),[⟨.ret,(Zsg [2] [.s] [])⟩],YfU lo⟩
def YrO(lo:Lo):LL:=(YrN lo,q37_J6_b.er)::YkF lo
theorem YrP(lo:Lo):Lk lo pf (fs37 lo) 0 (YrO lo):=.j (YrM lo)
def q37(lo:Lo)(s0_0:Int)(s0_1:List Int)(s0_2:Int)(s0_3:Int):Option ByteArray:=
  bif(decide (s0_0<1))then(some (YxW #[]))else(bif(decide (4<s0_0))then(some (YxW #[]))else(YxD (YkE lo (s0_1,(s0_1.length:Int),(0:Int),s0_0,s0_1,s0_2,s0_3,[])) fun y86=>alt2 y86 (fun y87=>some y87) (fun y88=>bif(decide ((y88.2.2.2.2.length:Int)=0))then(chk (y88.2.2.2.2.length+([(YxW #[45])]).length<=maxEl) (YxD (YfU lo (y88.1,y88.2.1,y88.2.2.1,y88.2.2.2.1,(y88.2.2.2.2++([(YxW #[45])])))) fun y96=>some y96))else(YxD (YfU lo (y88.1,y88.2.1,y88.2.2.1,y88.2.2.2.1,y88.2.2.2.2)) fun y97=>some y97))))
def YrQ:VFn:=⟨true,61,[.t 2],
 (Rg [oG 1 0,o 2 (.mv (ks (⟨#[]⟩)))]
 (.seq (Rg [oF 7 0 1,oL 8 7,oR 9 .lss 8 (k 1),oM 10 9,gF 11 10 (.fad 0 1),gF 12 10 (.load false 1 11),gF 13 10 (.bin .gtr 12 (k 4)),oP 14 10 (kb true) 13]
 (.cond 14 (Rg [o 2 (.mv (ks (⟨#[]⟩)))]
 (Fr 2))
 .skip))
 (Rg [o 15 (.bsl (cs [.s]) 0 []),oM 3 15]
 (.seq (Rg [oF 16 1 1,oL 17 16,oN 18 17,oK 19 0]
 (.blk 0 (.loop 7 q37_L7_b)))
 (.seq (Rg [oM 31 3,oN 32 31,oR 33 .eql 32 (k 0)]
 (.cond 33 (.reg [oM 34 3,o 35 (.bsl (cs [.s]) 1 [(0,(ks (⟨#[45]⟩)))]),o 36 (.app (cs [.s]) 0 34 35),oM 3 36])
 .skip))
 (.jn 6 q37_J6_b))))))⟩
def YkG(lo:Lo):FnE:=Zfe 150 true (Zsg [0] [.ag [.j,.l (cs [I]),.i .u32,.i .u32]] []) .s [] (fun x=>q37 lo x.1 x.2.1 x.2.2.1 x.2.2.2:Int× (List Int)×Int×Int->Option ByteArray)
def fs38(lo:Lo):List FnE:=YkG lo::fs37 lo
theorem YrR(h:GZ P fm fs37 lo)(t:Ti P fm 150 YrQ):GZ P fm fs38 lo:=
  h.p (YkG lo) (YrP lo) t
def q38(lo:Lo)(s:ByteArray):Option ByteArray:=some s
def YrS(lo:Lo):FnE:=vchkE2 164
def fs39(lo:Lo):List FnE:=YrS lo::fs38 lo
theorem YrT(h:GZ P fm fs38 lo)(hG: ∀f,fm f=164->YtL P f=true/\ ∃ρ:Go.Shelf.Ren,Go.Proofs.Lays.n240 P ρ/\BldOK P fm ρ/\ρ.f 240=f):GZ P fm fs39 lo:=
  ⟨h.1,h.2,YpF h.S rfl hG⟩
def q39(lo:Lo)(s1:ByteArray)(h1:ByteArray):Option (Int×ByteArray):=
  YxD (q38 lo h1) fun y99=>chk (y99.size=h1.size) (chk (y99.size+s1.size<=maxEl) (some ((s1.size:Int),(y99++s1))))
def YrU:VFn:=⟨true,19,[.t 4,.t 5],
 (Rg [oK 4 0,o 5 (.mv (.c (.v .nilIface)))]
 (Rg [oM 6 0,oC 7 164 [6]]
 (Rg [oM 8 0,oM 9 0,o 10 (.nilc 9),oF 11 1 10,oL 12 11,oM 13 1,o 14 (.apps 12 13),o 15 (.nilc 8),oF 16 1 15,oS 1 16 14]
 (Rg [oM 17 1,o 18 (.lenS 17),oM 4 18,o 5 (.mv (.c (.v .nilIface)))]
 .ret))))⟩
def YkH(lo:Lo):FnE:=Zfe 149 false (Zsg [0,1] [.ptr 0 0 0,.s] [.st [.np 0,.ref 1],.sb]) (.tp [.j,.u]) [.st [.np 0,.ref 2],.dd,.sb] (fun x=>q39 lo x.1 x.2:ByteArray×ByteArray->Option (Int×ByteArray))
def fs40(lo:Lo):List FnE:=YkH lo::fs39 lo
theorem YrV(h:GZ P fm fs39 lo)(t:Ti P fm 149 YrU):GZ P fm fs40 lo:=
  h.i (YkH lo) .n t
def q40(lo:Lo)(s:ByteArray):Option ByteArray:=some s
def YrW(lo:Lo):FnE:=vstrE 151
def fs41(lo:Lo):List FnE:=YrW lo::fs40 lo
theorem YrX(h:GZ P fm fs40 lo)(hG: ∀f,fm f=151->YtL P f=true/\ ∃ρ:Go.Shelf.Ren,Go.Proofs.Lays.n169 P ρ/\BldOK P fm ρ/\fm.bu=ρ.t 5/\ρ.f 169=f):GZ P fm fs41 lo:=
  ⟨h.1,h.2,YpM h.S rfl hG⟩
def q41_L3_b:VCode:=
 (Rg [oR 9 .lss 8 7]
 (.seq (Ce 9 0)
 (.seq (.blk 1 (Rg [oI 10 4 6 8,oT 11 4 10,o 5 (.alloc [.i .i64 0,.e (cs [I]),.i .u32 0,.i .u32 0]),oS 4 5 11]
 (.reg [oT 12 4 5,oC 13 150 [12],oC 14 149 [3,13]])))
 (.reg [oR 15 .add 8 (k 1),oM 8 15]))))
def YkI(lo:Lo):Zt0×Int×Int×ByteArray->Option ((Zt0×Int×Int×ByteArray)⊕ByteArray):=fun x=>match x with
  | (v6,v7,v8,h1)=>bif(decide (v8<v7))then(chk (0<=v8/\v8< (v6.length:Int)) (YxD (q37 lo ((v6.getD v8.toNat ((0:Int),[],(0:Int),(0:Int))).1) ((v6.getD v8.toNat ((0:Int),[],(0:Int),(0:Int))).2.1) ((v6.getD v8.toNat ((0:Int),[],(0:Int),(0:Int))).2.2.1) ((v6.getD v8.toNat ((0:Int),[],(0:Int),(0:Int))).2.2.2)) fun y98=>YxD (q39 lo y98 h1) fun y100=>some (.inl (v6,v7,(YxX .i64 (v8+1)),y100.2))))else(some (.inr h1))
def YkJ(lo:Lo):Zt0×Int×Int×ByteArray->Option ByteArray:=lo.run (YkI lo)
def YrY(lo:Lo):LpE:=⟨3,[],(Zsg [3,6,7,8] [.ptr 0 0 0,.l Zc1,.j,.j] [.st [.np 0,.ref 1],.sb]),[⟨.exit 0,(Zsg [3] [.ptr 0 0 0] [.st [.np 0,.ref 1],.sb])⟩],YkJ lo⟩
def YrZ(lo:Lo):LL:=(YrY lo,.loop q41_L3_b.er)::[]
theorem Yr0(lo:Lo):Lk lo pf (fs41 lo) 0 (YrZ lo):=.l .n (YkI lo)
def q41(lo:Lo)(steps0:List (Int× (List Int)×Int×Int)):Option ByteArray:=
  YxD (YkJ lo (steps0,(steps0.length:Int),(0:Int),(YxW #[]))) fun y101=>YxD (q40 lo y101) fun y102=>some y102
def Yr1:VFn:=⟨true,17,[.t 2],
 (Rg [o 2 (.mv (ks (⟨#[]⟩)))]
 (Rg [o 3 (.bld)]
 (.ow [(3,some 1,false)] (.seq (Rg [oM 6 0,oN 7 6,oK 8 0]
 (.blk 0 (.loop 3 q41_L3_b)))
 (Rg [oC 16 151 [3],oM 2 16]
 (Fr 2))))))⟩
def YkK(lo:Lo):FnE:=Zfe 125 true (Zsg [0] [.l Zc1] []) .s [] (fun x=>q41 lo x:Zt0->Option ByteArray)
def fs42(lo:Lo):List FnE:=YkK lo::fs41 lo
theorem Yr2(h:GZ P fm fs41 lo)(t:Ti P fm 125 Yr1):GZ P fm fs42 lo:=
  h.p (YkK lo) (Yr0 lo) t
def q42(lo:Lo):Option Bool:=
  YxD (q3 lo) fun y5=>YxD (q9 lo (3:Int) y5.1 y5.2) fun y24=>YxD (q9 lo (3:Int) y5.1 ([((2:Int),([]:List Int),(1:Int),(3:Int))])) fun y25=>YxD (q17 lo (3:Int) y5.1 (1:Int) (4:Int)) fun y47=>bif(decide (y24.2=(0:Int)))then(bif(decide (y24.1=(0:Int)))then(bif(decide (y25.2=(1:Int)))then(bif(decide (y25.1=(0:Int)))then(bif(decide (y47.2=(0:Int)))then(YxD (q23 lo (3:Int) y5.1 y47.1 (1:Int) (4:Int)) fun y72=>bif y72 then(YxD (q24 lo (3:Int) y5.1 y5.2 (1:Int) (4:Int)) fun y74=>bif y74 then(YxD (q41 lo y5.2) fun y103=>some (decide (y103=(YxW #[103,105,118,101,110,32,48,32,49,32,45,62,32,50,10,103,105,118,101,110,32,49,32,50,32,45,62,32,52,10,116,114,97,110,115,105,116,32,48,44,49,32,49,32,45,62,32,52,10]))))else(some false))else(some false))else(some false))else(some false))else(some false))else(some false))else(some false)
def Yr3:VFn:=⟨true,68,[.t 0],
 (Rg [oB 0 false]
 (Rg [oC 10 131 [],oM 9 10,oE 11 9 0,oE 12 9 1,oM 1 11,oM 2 12]
 (Rg [oM 14 1,oM 15 2,oC 16 111 [(k 3),14,15],oM 13 16,oE 17 13 0,oE 18 13 1,oM 3 17,oM 4 18]
 (Rg [oM 20 1,o 21 (.build [.i .u32 0,.i .u32 0] [(0,1,(ki .u32 1)),(1,1,(ki .u32 3))]),o 22 (.build [.i .i64 0,.e (cs [I]),.i .u32 0,.i .u32 0] [(0,1,(k 2)),(2,2,21)]),o 23 (.bsl Zc1 1 [(0,22)]),oC 24 111 [(k 3),20,23],oM 19 24,oE 25 19 0,oE 26 19 1,oM 5 25,oM 6 26]
 (Rg [oM 28 1,o 29 (.build [.i .u32 0,.i .u32 0] [(0,1,(ki .u32 1)),(1,1,(ki .u32 4))]),oC 30 116 [(k 3),28,29],oM 27 30,oE 31 27 0,oE 32 27 1,oM 7 31,oM 8 32]
 (Rg [oM 33 4,oR 34 .eql 33 (k 0),oM 35 34,gT 36 35 (.mv 3),gT 37 35 (.bin .eql 36 (k 0)),oP 38 35 37 (kb false),oM 39 38,gT 40 39 (.mv 6),gT 41 39 (.bin .eql 40 (k 1)),oP 42 39 41 (kb false),oM 43 42,gT 44 43 (.mv 5),gT 45 43 (.bin .eql 44 (k 0)),oP 46 43 45 (kb false),oM 47 46,gT 48 47 (.mv 8),gT 49 47 (.bin .eql 48 (k 0)),oP 50 47 49 (kb false),oM 51 50,gT 52 51 (.mv 1),gT 53 51 (.mv 7),gT 54 51 (.build [.i .u32 0,.i .u32 0] [(0,1,(ki .u32 1)),(1,1,(ki .u32 4))]),gT 55 51 (.call 114 [(k 3),52,53,54]),oP 56 51 55 (kb false),oM 57 56,gT 58 57 (.mv 1),gT 59 57 (.mv 2),gT 60 57 (.build [.i .u32 0,.i .u32 0] [(0,1,(ki .u32 1)),(1,1,(ki .u32 4))]),gT 61 57 (.call 113 [(k 3),58,59,60]),oP 62 57 61 (kb false),oM 63 62,gT 64 63 (.mv 2),gT 65 63 (.call 125 [64]),gT 66 63 (.bin .eql 65 (ks (⟨#[103,105,118,101,110,32,48,32,49,32,45,62,32,50,10,103,105,118,101,110,32,49,32,50,32,45,62,32,52,10,116,114,97,110,115,105,116,32,48,44,49,32,49,32,45,62,32,52,10]⟩))),oP 67 63 66 (kb false),oM 0 67]
 (Fr 0)))))))⟩
def YkL(lo:Lo):FnE:=Zfe 109 true (Zsg [] [] []) .b [] (fun x=>q42 lo:Unit->Option Bool)
def fs43(lo:Lo):List FnE:=YkL lo::fs42 lo
theorem Yr4(h:GZ P fm fs42 lo)(t:Ti P fm 109 Yr3):GZ P fm fs43 lo:=
  h.p (YkL lo) .n t
def q43_L3_b:VCode:=
 (.seq (Rg [oM 7 3,oM 8 0,oN 9 8,oR 10 .lss 7 9]
 (Ce 10 0))
 (.seq (.blk 1 (Rg [oM 13 0,oM 14 3,oI 15 4 13 14,oF 16 1 15,oL 17 16,oN 18 17,oR 19 .gtr 18 (k 8)]
 (.cond 19 (Rg [oB 2 false]
 (Fr 2))
 .skip)))
 (.reg [oM 11 3,oR 12 .add 11 (k 1),oM 3 12])))
def Yeo(lo:Lo):Zt0×Int->Option ((Zt0×Int)⊕ (Bool⊕Unit)):=fun x=>match x with
  | (steps0,i3)=>bif(decide (i3< (steps0.length:Int)))then(chk (0<=i3/\i3< (steps0.length:Int)) (bif(decide ((8:Int)< (((steps0.getD i3.toNat ((0:Int),[],(0:Int),(0:Int))).2.1).length:Int)))then(some (.inr (.inl false)))else(some (.inl (steps0,(YxX .i64 (i3+1)))))))else(some (.inr (.inr ())))
def Yco(lo:Lo):Zt0×Int->Option (Bool⊕Unit):=lo.run (Yeo lo)
def Yr5(lo:Lo):LpE:=⟨3,[],(Zsg [0,3] [.l Zc1,.j] []),[⟨.ret,(Zsg [2] [.b] [])⟩,⟨.exit 0,(Zsg [] [] [])⟩],Yco lo⟩
def Yr6(lo:Lo):LL:=(Yr5 lo,.loop q43_L3_b.er)::[]
theorem Yr7(lo:Lo):Lk lo pf (fs43 lo) 0 (Yr6 lo):=.l .n (Yeo lo)
def q43(lo:Lo)(steps0:List (Int× (List Int)×Int×Int)):Option Bool:=
  bif(decide ((30:Int)< (steps0.length:Int)))then(some false)else(YxD (Yco lo (steps0,(0:Int))) fun y107=>alt2 y107 (fun y108=>some y108) (fun y109=>some true))
def Yr8:VFn:=⟨true,20,[.t 2],
 (Rg [oB 2 false]
 (.seq (Rg [oM 4 0,oN 5 4,oR 6 .gtr 5 (k 30)]
 (.cond 6 (Rg [oB 2 false]
 (Fr 2))
 .skip))
 (.seq (Rg [oK 3 0]
 (.blk 0 (.loop 3 q43_L3_b)))
 (Rg [oB 2 true]
 (Fr 2)))))⟩
def YkM(lo:Lo):FnE:=Zfe 110 true (Zsg [0] [.l Zc1] []) .b [] (fun x=>q43 lo x:Zt0->Option Bool)
def fs44(lo:Lo):List FnE:=YkM lo::fs43 lo
theorem Yr9(h:GZ P fm fs43 lo)(t:Ti P fm 110 Yr8):GZ P fm fs44 lo:=
  h.p (YkM lo) (Yr7 lo) t
def fs45(lo:Lo):List FnE:=fs44 lo
def fs46(lo:Lo):List FnE:=fs45 lo
def fs47(lo:Lo):List FnE:=fs46 lo
def fs48(lo:Lo):List FnE:=fs47 lo
def fs49(lo:Lo):List FnE:=fs48 lo
def fs50(lo:Lo):List FnE:=fs49 lo
def fs51(lo:Lo):List FnE:=fs50 lo
def q51(lo:Lo)(l:List (Int× (List Int)×Int×Int)):Option Zt0:=Yvm l
def Ysa(lo:Lo):FnE:=pruneE 119
def fs52(lo:Lo):List FnE:=Ysa lo::fs51 lo
theorem Ysb(h:GZ P fm fs51 lo)(hG: ∀f,fm f=119->YtL P f=true/\YvT P fm f):GZ P fm fs52 lo:=
  ⟨h.1,h.2,Yp2 h.S rfl hG⟩
def q52_L3_b:VCode:=
 (.seq (Rg [oM 5 4,oM 6 0,oN 7 6,oR 8 .lss 5 7]
 (Ce 8 0))
 (.seq (.blk 1 (.reg [oM 11 3,oM 12 0,oM 13 4,⟨some 14,.iad 4 12 13,none,true,false⟩,oF 15 0 14,⟨some 16,.load false 1 15,none,true,false⟩,o 17 (.bsl (cs [I]) 0 []),oM 18 0,oM 19 4,oI 20 4 18 19,oF 21 1 20,oL 22 21,⟨some 23,.appD (cs [I]) 17 22,none,false,true⟩,oM 24 0,oM 25 4,⟨some 26,.iad 4 24 25,none,true,false⟩,oF 27 2 26,⟨some 28,.load true 2 27,none,true,false⟩,o 29 (.build [.i .i64 0,.e (cs [I]),.i .u32 0,.i .u32 0] [(0,1,16),(1,1,23),(2,2,28)]),o 30 (.bsl Zc1 1 [(0,29)]),o 31 (.app Zc1 0 11 30),oM 3 31]))
 (.reg [oM 9 4,oR 10 .add 9 (k 1),oM 4 10])))
def Yep(lo:Lo):Zt0×Int×Zt0->Option ((Zt0×Int×Zt0)⊕ ((Zt0))):=fun x=>match x with
  | (steps0,i4,out3)=>bif(decide (i4< (steps0.length:Int)))then(chk (0<=i4/\i4< (steps0.length:Int)) (chk (0<=i4/\i4< (steps0.length:Int)) (chk (((steps0.getD i4.toNat ((0:Int),[],(0:Int),(0:Int))).2.1).length<=maxEl) (chk (0<=i4/\i4< (steps0.length:Int)) (chk (out3.length+([(steps0.getD i4.toNat ((0:Int),[],(0:Int),(0:Int)))]).length<=maxEl) (some (.inl (steps0,(YxX .i64 (i4+1)),(out3++([(steps0.getD i4.toNat ((0:Int),[],(0:Int),(0:Int)))]))))))))))else(some (.inr out3))
def YfV(lo:Lo):Zt0×Int×Zt0->Option ((Zt0)):=lo.run (Yep lo)
def Ysc(lo:Lo):LpE:=⟨3,[(3,none,false)],(Zsg [0,3,4] [.l Zc1,.ref 0,.j] [.sq Zc1]),[⟨.exit 0,(Zsg [3] [.ref 0] [.sq Zc1])⟩],YfV lo⟩
def Ysd(lo:Lo):LL:=(Ysc lo,.loop q52_L3_b.er)::[]
theorem Yse(lo:Lo):Lk lo pf (fs52 lo) 0 (Ysd lo):=.l .n (Yep lo)
def q52(lo:Lo)(steps0:List (Int× (List Int)×Int×Int)):Option (Zt0):=
  YxD (YfV lo (steps0,(0:Int),[])) fun y160=>some y160
def Ysf:VFn:=⟨true,33,[.t 2],
 (Rg [o 2 (.mv (ke Zc1))]
 (Rg [o 3 (.mv (ke Zc1))]
 (.seq (Rg [oK 4 0]
 (.blk 0 (.loop 3 q52_L3_b)))
 (Rg [oM 32 3,oM 2 32]
 (Fr 2)))))⟩
def YkN(lo:Lo):FnE:=Zfe 145 true (Zsg [0] [.l Zc1] []) (.l Zc1) [] (fun x=>q52 lo x:Zt0->Option (Zt0))
def fs53(lo:Lo):List FnE:=YkN lo::fs52 lo
theorem Ysg(h:GZ P fm fs52 lo)(t:Ti P fm 145 Ysf):GZ P fm fs53 lo:=
  h.p (YkN lo) (Yse lo) t
def q53_L3_b:VCode:=
 (.seq (Rg [oM 14 5,oF 15 1 2,oL 16 15,oN 17 16,oR 18 .lss 14 17]
 (Ce 18 0))
 (.seq (.blk 1 (Rg [oF 21 1 2,oL 22 21,oM 23 5,oI 24 1 22 23,oL 25 24,oM 26 1,oR 27 .eql 25 26]
 (.cond 27 (Rg [oB 4 true]
 (Fr 4))
 .skip)))
 (.reg [oM 19 5,oR 20 .add 19 (k 1),oM 5 20])))
def Yeq(lo:Lo):Zp11->Option (Zp11⊕ (Bool⊕Unit)):=fun x=>match x with
  | (k1,i5,d2_0,d2_1,d2_2,d2_3)=>bif(decide (i5< (d2_1.length:Int)))then(chk (0<=i5/\i5< (d2_1.length:Int)) (bif(decide ((d2_1.getD i5.toNat (0:Int))=k1))then(some (.inr (.inl true)))else(some (.inl (k1,(YxX .i64 (i5+1)),d2_0,d2_1,d2_2,d2_3)))))else(some (.inr (.inr ())))
def YbO(lo:Lo):Zp11->Option (Bool⊕Unit):=lo.run (Yeq lo)
def Ysh(lo:Lo):LpE:=⟨3,[],(Zsg [1,2,5] [.j,.ptr 0 0 0,.j] [.st [.j,.l (cs [I]),.i .u32,.i .u32]]),[⟨.ret,(Zsg [4] [.b] [])⟩,⟨.exit 0,(Zsg [] [] [])⟩],YbO lo⟩
def Ysi(lo:Lo):LL:=(Ysh lo,.loop q53_L3_b.er)::[]
theorem Ysj(lo:Lo):Lk lo pf (fs53 lo) 0 (Ysi lo):=.l .n (Yeq lo)
def q53(lo:Lo)(d0_0:Int)(d0_1:List Int)(d0_2:Int)(d0_3:Int)(k1:Int):Option Bool:=
  bif(!decide (d0_0=3))then(bif(!decide (d0_0=4))then(some false)else(YxD (YbO lo (k1,(0:Int),d0_0,d0_1,d0_2,d0_3)) fun y171=>alt2 y171 (fun y172=>some y172) (fun y173=>some false)))else(YxD (YbO lo (k1,(0:Int),d0_0,d0_1,d0_2,d0_3)) fun y174=>alt2 y174 (fun y175=>some y175) (fun y176=>some false))
def Ysk:VFn:=⟨true,28,[.t 4],
 (Rg [oG 2 0,oB 4 false]
 (.seq (Rg [oF 6 0 2,oL 7 6,oR 8 .neq 7 (k 3),oM 9 8,gT 10 9 (.fad 0 2),gT 11 9 (.load false 1 10),gT 12 9 (.bin .neq 11 (k 4)),oP 13 9 12 (kb false)]
 (.cond 13 (Rg [oB 4 false]
 (Fr 4))
 .skip))
 (.seq (Rg [oK 5 0]
 (.blk 0 (.loop 3 q53_L3_b)))
 (Rg [oB 4 false]
 (Fr 4)))))⟩
def YkO(lo:Lo):FnE:=Zfe 146 true (Zsg [0,1] [.ag [.j,.l (cs [I]),.i .u32,.i .u32],.j] []) .b [] (fun x=>q53 lo x.1 x.2.1 x.2.2.1 x.2.2.2.1 x.2.2.2.2:Int× (List Int)×Int×Int×Int->Option Bool)
def fs54(lo:Lo):List FnE:=YkO lo::fs53 lo
theorem Ysl(h:GZ P fm fs53 lo)(t:Ti P fm 146 Ysk):GZ P fm fs54 lo:=
  h.p (YkO lo) (Ysj lo) t
end Go.Abs.G1p
namespace Go.Abs.G1p
open Go Go.Abs
set_option maxRecDepth 100000
set_option maxHeartbeats 1000000
variable{P:Program}{fm:FM}{lo:Lo}
def q54_L39_b:VCode:=
 (.seq (Rg [oM 25 5,oF 26 1 4,oL 27 26,oN 28 27,oR 29 .lss 25 28]
 (Ce 29 2))
 (.seq (.blk 3 (Rg [oF 32 0 4,oL 33 32,oR 34 .eql 33 (k 3),oM 35 34,gF 36 35 (.fad 0 4),gF 37 35 (.load false 1 36),gF 38 35 (.bin .eql 37 (k 4)),oP 39 35 (kb true) 38,oM 40 39,gT 41 40 (.fad 1 4),gT 42 40 (.load false 1 41),gT 43 40 (.mv 5),gT 44 40 (.iad 1 42 43),gT 45 40 (.load false 1 44),gT 46 40 (.bin .lss 45 (k 0)),gT 47 40 (.mv 46),gF 48 47 (.fad 1 4),gF 49 47 (.load false 1 48),gF 50 47 (.mv 5),gF 51 47 (.iad 1 49 50),gF 52 47 (.load false 1 51),gF 53 47 (.mv 3),gF 54 47 (.bin .geq 52 53),gT 55 40 (.pick 47 (kb true) 54),oP 56 40 55 (kb false)]
 (.cond 56 (Rg [oM 57 0,oC 58 145 [57],oM 2 58]
 (Fr 2))
 .skip)))
 (.reg [oM 30 5,oR 31 .add 30 (k 1),oM 5 31])))
def Yer(lo:Lo):Zp9->Option (Zp9⊕ ((Zt0)⊕ (Zt0×Int))):=fun x=>match x with
  | (steps0,i3,k5,d4_0,d4_1,d4_2,d4_3)=>bif(decide (k5< (d4_1.length:Int)))then(bif(decide (d4_0=3))then(chk (0<=k5/\k5< (d4_1.length:Int)) (bif(decide ((d4_1.getD k5.toNat (0:Int))< (0:Int)))then(YxD (q52 lo steps0) fun y181=>some (.inr (.inl y181)))else(chk (0<=k5/\k5< (d4_1.length:Int)) (bif(decide (i3<=(d4_1.getD k5.toNat (0:Int))))then(YxD (q52 lo steps0) fun y182=>some (.inr (.inl y182)))else(some (.inl (steps0,i3,(YxX .i64 (k5+1)),d4_0,d4_1,d4_2,d4_3)))))))else(bif(decide (d4_0=4))then(chk (0<=k5/\k5< (d4_1.length:Int)) (bif(decide ((d4_1.getD k5.toNat (0:Int))< (0:Int)))then(YxD (q52 lo steps0) fun y183=>some (.inr (.inl y183)))else(chk (0<=k5/\k5< (d4_1.length:Int)) (bif(decide (i3<=(d4_1.getD k5.toNat (0:Int))))then(YxD (q52 lo steps0) fun y184=>some (.inr (.inl y184)))else(some (.inl (steps0,i3,(YxX .i64 (k5+1)),d4_0,d4_1,d4_2,d4_3)))))))else(some (.inl (steps0,i3,(YxX .i64 (k5+1)),d4_0,d4_1,d4_2,d4_3)))))else(some (.inr (.inr (steps0,i3))))
def Ybu(lo:Lo):Zp9->Option ((Zt0)⊕ (Zt0×Int)):=lo.run (Yer lo)
def Ysm(lo:Lo):LpE:=⟨39,[],(Zsg [0,3,4,5] [.l Zc1,.j,.ptr 0 0 0,.j] [.st [.j,.l (cs [I]),.i .u32,.i .u32]]),[⟨.ret,(Zsg [2] [.l Zc1] [])⟩,⟨.exit 2,(Zsg [0,3] [.l Zc1,.j] [])⟩],Ybu lo⟩
def YkP(lo:Lo):LL:=(Ysm lo,.loop q54_L39_b.er)::[]
theorem Ysn(lo:Lo):Lk lo pf (fs54 lo) 0 (YkP lo):=.l .n (Yer lo)
def q54_L37_b:VCode:=
 (.seq (Rg [oM 15 3,oM 16 0,oN 17 16,oR 18 .lss 15 17]
 (Ce 18 0))
 (.seq (.blk 1 (Rg [oM 21 0,oM 22 3,oI 23 4 21 22,oT 24 4 23,o 4 (.alloc [.i .i64 0,.e (cs [I]),.i .u32 0,.i .u32 0]),oS 4 4 24]
 (Rg [oK 5 0]
 (.blk 2 (.loop 39 q54_L39_b)))))
 (.reg [oM 19 3,oR 20 .add 19 (k 1),oM 3 20])))
def Yes(lo:Lo):Zt0×Int->Option ((Zt0×Int)⊕ ((Zt0)⊕ (Zt0))):=fun x=>match x with
  | (steps0,i3)=>bif(decide (i3< (steps0.length:Int)))then(chk (0<=i3/\i3< (steps0.length:Int)) (YxD (Ybu lo (steps0,i3,(0:Int),(steps0.getD i3.toNat ((0:Int),[],(0:Int),(0:Int))).1,(steps0.getD i3.toNat ((0:Int),[],(0:Int),(0:Int))).2.1,(steps0.getD i3.toNat ((0:Int),[],(0:Int),(0:Int))).2.2.1,(steps0.getD i3.toNat ((0:Int),[],(0:Int),(0:Int))).2.2.2)) fun y185=>alt2 y185 (fun y186=>some (.inr (.inl y186))) (fun y187=>some (.inl (y187.1,(YxX .i64 (y187.2+(1:Int))))))))else(some (.inr (.inr steps0)))
def Ycp(lo:Lo):Zt0×Int->Option ((Zt0)⊕ (Zt0)):=lo.run (Yes lo)
def Yso(lo:Lo):LpE:=⟨37,[],(Zsg [0,3] [.l Zc1,.j] []),[⟨.ret,(Zsg [2] [.l Zc1] [])⟩,⟨.exit 0,(Zsg [0] [.l Zc1] [])⟩],Ycp lo⟩
def YkQ(lo:Lo):LL:=(Yso lo,.loop q54_L37_b.er)::YkP lo
theorem Ysp(lo:Lo):Lk lo pf (fs54 lo) 0 (YkQ lo):=.l (Ysn lo) (Yes lo)
def q54_L26_b:VCode:=
 (.seq (Rg [oM 79 8,oM 80 0,oN 81 80,oR 82 .lss 79 81]
 (Ce 82 6))
 (.seq (.blk 7 (.reg [oM 85 6,oM 86 7,oM 87 6,oM 88 7,oI 89 1 87 88,oL 90 89,oM 91 90,gF 92 91 (.mv 6),gF 93 91 (.mv 8),gF 94 91 (.iad 1 92 93),gF 95 91 (.load false 1 94),gF 96 91 (.mv 95),gT 97 96 (.mv 0),gT 98 96 (.mv 8),gT 99 96 (.iad 4 97 98),gT 100 96 (.load true 4 99),gT 101 96 (.mv 7),gT 102 96 (.call 146 [100,101]),gF 103 91 (.pick 96 102 (kb false)),oP 104 91 (kb true) 103,oI 105 1 85 86,oS 1 105 104]))
 (.reg [oM 83 8,oR 84 .add 83 (k 1),oM 8 84])))
def Yet(lo:Lo):Zt0×Int×Int× (List Bool)->Option ((Zt0×Int×Int× (List Bool))⊕ ((Zt0×Int× (List Bool)))):=fun x=>match x with
  | (steps0,i7,k8,used6)=>bif(decide (k8< (steps0.length:Int)))then(chk (0<=i7/\i7< (used6.length:Int)) (bif used6.getD i7.toNat false then(chk (0<=i7/\i7< (used6.length:Int)) (some (.inl (steps0,i7,(YxX .i64 (k8+1)),(used6.set i7.toNat true)))))else(chk (0<=k8/\k8< (used6.length:Int)) (bif used6.getD k8.toNat false then(chk (0<=k8/\k8< (steps0.length:Int)) (YxD (q53 lo ((steps0.getD k8.toNat ((0:Int),[],(0:Int),(0:Int))).1) ((steps0.getD k8.toNat ((0:Int),[],(0:Int),(0:Int))).2.1) ((steps0.getD k8.toNat ((0:Int),[],(0:Int),(0:Int))).2.2.1) ((steps0.getD k8.toNat ((0:Int),[],(0:Int),(0:Int))).2.2.2) i7) fun y191=>chk (0<=i7/\i7< (used6.length:Int)) (some (.inl (steps0,i7,(YxX .i64 (k8+1)),(used6.set i7.toNat y191))))))else(chk (0<=i7/\i7< (used6.length:Int)) (some (.inl (steps0,i7,(YxX .i64 (k8+1)),(used6.set i7.toNat false)))))))))else(some (.inr (steps0,i7,used6)))
def YbP(lo:Lo):Zt0×Int×Int× (List Bool)->Option ((Zt0×Int× (List Bool))):=lo.run (Yet lo)
def Ysq(lo:Lo):LpE:=⟨26,[],(Zsg [0,6,7,8] [.l Zc1,.ref 0,.j,.j] [.sq (cs [.b])]),[⟨.exit 6,(Zsg [0,6,7] [.l Zc1,.ref 0,.j] [.sq (cs [.b])])⟩],YbP lo⟩
def YkR(lo:Lo):LL:=(Ysq lo,.loop q54_L26_b.er)::YkQ lo
theorem Ysr(lo:Lo):Lk lo pf (fs54 lo) 0 (YkR lo):=.l (Ysp lo) (Yet lo)
def q54_L24_b:VCode:=
 (.seq (Rg [oM 65 7,oR 66 .geq 65 (k 0)]
 (Ce 66 4))
 (.seq (.blk 5 (Rg [oM 69 6,oM 70 7,oM 71 7,oM 72 0,oN 73 72,oR 74 .sub 73 (k 1),oR 75 .eql 71 74,oI 76 1 69 70,oS 1 76 75]
 (Rg [oM 77 7,oR 78 .add 77 (k 1),oM 8 78]
 (.blk 6 (.loop 26 q54_L26_b)))))
 (.reg [oM 67 7,oR 68 .sub 67 (k 1),oM 7 68])))
def Yeu(lo:Lo):Zt0×Int× (List Bool)->Option ((Zt0×Int× (List Bool))⊕ ((Zt0× (List Bool)))):=fun x=>match x with
  | (steps0,i7,used6)=>bif(decide (0<=i7))then(chk (0<=i7/\i7< (used6.length:Int)) (YxD (YbP lo (steps0,i7,(YxX .i64 (i7+1)),(used6.set i7.toNat (decide (i7=(YxX .i64 ((steps0.length:Int)-1))))))) fun y192=>some (.inl (y192.1,(YxX .i64 (y192.2.1-(1:Int))),y192.2.2))))else(some (.inr (steps0,used6)))
def Yc5(lo:Lo):Zt0×Int× (List Bool)->Option ((Zt0× (List Bool))):=lo.run (Yeu lo)
def Yss(lo:Lo):LpE:=⟨24,[],(Zsg [0,6,7] [.l Zc1,.ref 0,.j] [.sq (cs [.b])]),[⟨.exit 4,(Zsg [0,6] [.l Zc1,.ref 0] [.sq (cs [.b])])⟩],Yc5 lo⟩
def YkS(lo:Lo):LL:=(Yss lo,.loop q54_L24_b.er)::YkR lo
theorem Yst(lo:Lo):Lk lo pf (fs54 lo) 0 (YkS lo):=.l (Ysr lo) (Yeu lo)
def q54_L6_b:VCode:=
 (.seq (Rg [oM 136 13,oM 137 0,oM 138 11,oI 139 4 137 138,oF 140 1 139,oL 141 140,oN 142 141,oR 143 .lss 136 142]
 (Ce 143 10))
 (.seq (.blk 11 (Rg [oM 146 0,oM 147 11,oI 148 4 146 147,oF 149 1 148,oL 150 149,oM 151 13,oI 152 1 150 151,oL 153 152,oM 14 153]
 (.seq (Rg [oF 154 0 12,oL 155 154,oR 156 .eql 155 (k 3),oM 157 156,gF 158 157 (.fad 0 12),gF 159 157 (.load false 1 158),gF 160 157 (.bin .eql 159 (k 4)),oP 161 157 (kb true) 160]
 (.cond 161 (.reg [oM 162 9,oM 163 14,oI 164 1 162 163,oL 165 164,oM 14 165])
 .skip))
 (.reg [oF 166 1 12,oL 167 166,oM 168 14,o 169 (.bsl (cs [I]) 1 [(0,168)]),o 170 (.app (cs [I]) 0 167 169),oF 171 1 12,oS 1 171 170]))))
 (.reg [oM 144 13,oR 145 .add 144 (k 1),oM 13 145])))
def Yev(lo:Lo):Zp4->Option (Zp4⊕ ((Zt0×Int× (List Bool)× (List Int)×Zt0×Int×Int×Int× (List Int)))):=fun x=>match x with
  | (steps0,i11,k13,used6,numbers9,out10,d12_0,d12_1,d12_2,h4)=>chk (0<=i11/\i11< (steps0.length:Int)) (bif(decide (k13< (((steps0.getD i11.toNat ((0:Int),[],(0:Int),(0:Int))).2.1).length:Int)))then(chk (0<=i11/\i11< (steps0.length:Int)) (chk (0<=k13/\k13< (((steps0.getD i11.toNat ((0:Int),[],(0:Int),(0:Int))).2.1).length:Int)) (bif(decide (d12_0=3))then(chk (0<=(((steps0.getD i11.toNat ((0:Int),[],(0:Int),(0:Int))).2.1).getD k13.toNat (0:Int))/\ (((steps0.getD i11.toNat ((0:Int),[],(0:Int),(0:Int))).2.1).getD k13.toNat (0:Int))< (numbers9.length:Int)) (chk (h4.length+([numbers9.getD ((((steps0.getD i11.toNat ((0:Int),[],(0:Int),(0:Int))).2.1).getD k13.toNat (0:Int)).toNat) (0:Int)]).length<=maxEl) (some (.inl (steps0,i11,(YxX .i64 (k13+1)),used6,numbers9,out10,d12_0,d12_1,d12_2,(h4++([numbers9.getD ((((steps0.getD i11.toNat ((0:Int),[],(0:Int),(0:Int))).2.1).getD k13.toNat (0:Int)).toNat) (0:Int)])))))))else(bif(decide (d12_0=4))then(chk (0<=(((steps0.getD i11.toNat ((0:Int),[],(0:Int),(0:Int))).2.1).getD k13.toNat (0:Int))/\ (((steps0.getD i11.toNat ((0:Int),[],(0:Int),(0:Int))).2.1).getD k13.toNat (0:Int))< (numbers9.length:Int)) (chk (h4.length+([numbers9.getD ((((steps0.getD i11.toNat ((0:Int),[],(0:Int),(0:Int))).2.1).getD k13.toNat (0:Int)).toNat) (0:Int)]).length<=maxEl) (some (.inl (steps0,i11,(YxX .i64 (k13+1)),used6,numbers9,out10,d12_0,d12_1,d12_2,(h4++([numbers9.getD ((((steps0.getD i11.toNat ((0:Int),[],(0:Int),(0:Int))).2.1).getD k13.toNat (0:Int)).toNat) (0:Int)])))))))else(chk (h4.length+([(((steps0.getD i11.toNat ((0:Int),[],(0:Int),(0:Int))).2.1).getD k13.toNat (0:Int))]).length<=maxEl) (some (.inl (steps0,i11,(YxX .i64 (k13+1)),used6,numbers9,out10,d12_0,d12_1,d12_2,(h4++([(((steps0.getD i11.toNat ((0:Int),[],(0:Int),(0:Int))).2.1).getD k13.toNat (0:Int))]))))))))))else(some (.inr (steps0,i11,used6,numbers9,out10,d12_0,d12_1,d12_2,h4))))
def YfW(lo:Lo):Zp4->Option ((Zt0×Int× (List Bool)× (List Int)×Zt0×Int×Int×Int× (List Int))):=lo.run (Yev lo)
def Ysu(lo:Lo):LpE:=⟨6,[(12,some 1,false)],(Zsg [0,6,9,10,11,12,13] [.l Zc1,.ref 0,.ref 1,.ref 2,.j,.ptr 3 0 0,.j] [.sq (cs [.b]),.sq (cs [I]),.sq Zc1,.st [.j,.ref 4,.i .u32,.i .u32],.sq (cs [I])]),[⟨.exit 10,(Zsg [0,6,9,10,11,12] [.l Zc1,.ref 0,.ref 1,.ref 2,.j,.ptr 3 0 0] [.sq (cs [.b]),.sq (cs [I]),.sq Zc1,.st [.j,.ref 4,.i .u32,.i .u32],.sq (cs [I])])⟩],YfW lo⟩
def YkT(lo:Lo):LL:=(Ysu lo,.loop q54_L6_b.er)::YkS lo
theorem Ysv(lo:Lo):Lk lo pf (fs54 lo) 0 (YkT lo):=.l (Yst lo) (Yev lo)
def q54_L3_b:VCode:=
 (.seq (Rg [oM 109 11,oM 110 0,oN 111 110,oR 112 .lss 109 111]
 (Ce 112 8))
 (.seq (.blk 9 (.seq (Rg [oM 115 6,oM 116 11,oI 117 1 115 116,oL 118 117,oX 119 118]
 (.cond 119 (.exit 9)
 .skip))
 (Rg [oM 120 9,oM 121 11,oM 122 10,oN 123 122,oI 124 1 120 121,oS 1 124 123]
 (Rg [oM 125 0,oM 126 11,⟨some 127,.iad 4 125 126,none,true,false⟩,oF 128 0 127,⟨some 129,.load false 1 128,none,true,false⟩,oM 130 0,oM 131 11,⟨some 132,.iad 4 130 131,none,true,false⟩,oF 133 2 132,⟨some 134,.load true 2 133,none,true,false⟩,o 135 (.build [.i .i64 0,.e (cs [I]),.i .u32 0,.i .u32 0] [(0,1,129),(2,2,134)]),o 12 (.alloc [.i .i64 0,.e (cs [I]),.i .u32 0,.i .u32 0]),oS 4 12 135]
 (.seq (Rg [oK 13 0]
 (.blk 10 (.loop 6 q54_L6_b)))
 (.fz [12] (.reg [oM 172 10,oT 173 4 12,o 174 (.bsl Zc1 1 [(0,173)]),o 175 (.app Zc1 0 172 174),oM 10 175])))))))
 (.reg [oM 113 11,oR 114 .add 113 (k 1),oM 11 114])))
def Yc6(lo:Lo):Zp10->Option (Zp10⊕ ((Zt0))):=fun x=>match x with
  | (steps0,i11,used6,numbers9,out10)=>bif(decide (i11< (steps0.length:Int)))then(chk (0<=i11/\i11< (used6.length:Int)) (bif(!used6.getD i11.toNat false)then(some (.inl (steps0,(YxX .i64 (i11+1)),used6,numbers9,out10)))else(chk (0<=i11/\i11< (numbers9.length:Int)) (chk (0<=i11/\i11< (steps0.length:Int)) (chk (0<=i11/\i11< (steps0.length:Int)) (YxD (YfW lo (steps0,i11,(0:Int),used6,(numbers9.set i11.toNat (out10.length:Int)),out10,(steps0.getD i11.toNat ((0:Int),[],(0:Int),(0:Int))).1,(steps0.getD i11.toNat ((0:Int),[],(0:Int),(0:Int))).2.2.1,(steps0.getD i11.toNat ((0:Int),[],(0:Int),(0:Int))).2.2.2,[])) fun y194=>chk (y194.2.2.2.2.1.length+([(y194.2.2.2.2.2.1,y194.2.2.2.2.2.2.2.2,y194.2.2.2.2.2.2.1,y194.2.2.2.2.2.2.2.1)]).length<=maxEl) (some (.inl (y194.1,(YxX .i64 (y194.2.1+(1:Int))),y194.2.2.1,y194.2.2.2.1,(y194.2.2.2.2.1++([(y194.2.2.2.2.2.1,y194.2.2.2.2.2.2.2.2,y194.2.2.2.2.2.2.1,y194.2.2.2.2.2.2.2.1)])))))))))))else(some (.inr out10))
def Ycq(lo:Lo):Zp10->Option ((Zt0)):=lo.run (Yc6 lo)
def Ysw(lo:Lo):LpE:=⟨3,[(10,none,false)],(Zsg [0,6,9,10,11] [.l Zc1,.ref 0,.ref 1,.ref 2,.j] [.sq (cs [.b]),.sq (cs [I]),.sq Zc1]),[⟨.exit 8,(Zsg [10] [.ref 0] [.sq Zc1])⟩],Ycq lo⟩
def Ysx(lo:Lo):LL:=(Ysw lo,.loop q54_L3_b.er)::YkT lo
theorem Ysy(lo:Lo):Lk lo pf (fs54 lo) 0 (Ysx lo):=.l (Ysv lo) (Yc6 lo)
def q54(lo:Lo)(steps0:List (Int× (List Int)×Int×Int)):Option (Zt0):=
  YxD (Ycp lo (steps0,(0:Int))) fun y188=>alt2 y188 (fun y189=>some y189) (fun y190=>chk (0<=(y190.length:Int)/\ (y190.length:Int)<=(y190.length:Int)/\ (y190.length:Int)<=(maxEl:Nat)) (YxD (Yc5 lo (y190,(YxX .i64 ((y190.length:Int)-1)),(List.replicate (y190.length:Int).toNat false))) fun y193=>chk (0<=(y193.1.length:Int)/\ (y193.1.length:Int)<=(y193.1.length:Int)/\ (y193.1.length:Int)<=(maxEl:Nat)) (YxD (Ycq lo (y193.1,(0:Int),y193.2,(List.replicate (y193.1.length:Int).toNat (0:Int)),[])) fun y195=>some y195)))
def Ysz:VFn:=⟨true,177,[.t 2],
 (Rg [o 2 (.mv (ke Zc1))]
 (.seq (Rg [oK 3 0]
 (.blk 0 (.loop 37 q54_L37_b)))
 (Rg [oM 59 0,oN 60 59,o 61 (.mksl (cs [.b]) 0 60 60),oM 6 61]
 (.seq (Rg [oM 62 0,oN 63 62,oR 64 .sub 63 (k 1),oM 7 64]
 (.blk 4 (.loop 24 q54_L24_b)))
 (Rg [oM 106 0,oN 107 106,o 108 (.mksl (cs [I]) 0 107 107),oM 9 108]
 (Rg [o 10 (.mv (ke Zc1))]
 (.seq (Rg [oK 11 0]
 (.blk 8 (.loop 3 q54_L3_b)))
 (Rg [oM 176 10,oM 2 176]
 (Fr 2)))))))))⟩
def YkU(lo:Lo):FnE:=Zfe 121 true (Zsg [0] [.l Zc1] []) (.l Zc1) [] (fun x=>q54 lo x:Zt0->Option (Zt0))
def fs55(lo:Lo):List FnE:=YkU lo::fs54 lo
theorem YsA(h:GZ P fm fs54 lo)(t:Ti P fm 121 Ysz):GZ P fm fs55 lo:=
  h.p (YkU lo) (Ysy lo) t
def q55_L3_b:VCode:=
 (.seq (Rg [oM 11 5,oM 12 0,oN 13 12,oR 14 .lss 11 13]
 (Ce 14 0))
 (.seq (.blk 1 (Rg [oM 17 0,oM 18 5,oI 19 1 17 18,oL 20 19,oM 21 1,oM 22 5,oI 23 1 21 22,oL 24 23,oR 25 .neq 20 24]
 (.cond 25 (Rg [oB 4 false]
 (Fr 4))
 .skip)))
 (.reg [oM 15 5,oR 16 .add 15 (k 1),oM 5 16])))
def Yew(lo:Lo):(List Int)× (List Int)×Int->Option (((List Int)× (List Int)×Int)⊕ (Bool⊕Unit)):=fun x=>match x with
  | (a0,b1,i5)=>bif(decide (i5< (a0.length:Int)))then(chk (0<=i5/\i5< (a0.length:Int)) (chk (0<=i5/\i5< (b1.length:Int)) (bif(!decide ((a0.getD i5.toNat (0:Int))=(b1.getD i5.toNat (0:Int))))then(some (.inr (.inl false)))else(some (.inl (a0,b1,(YxX .i64 (i5+1))))))))else(some (.inr (.inr ())))
def YfX(lo:Lo):(List Int)× (List Int)×Int->Option (Bool⊕Unit):=lo.run (Yew lo)
def YsB(lo:Lo):LpE:=⟨3,[],(Zsg [0,1,5] [.l (cs [I]),.l (cs [I]),.j] []),[⟨.ret,(Zsg [4] [.b] [])⟩,⟨.exit 0,(Zsg [] [] [])⟩],YfX lo⟩
def YsC(lo:Lo):LL:=(YsB lo,.loop q55_L3_b.er)::[]
theorem YsD(lo:Lo):Lk lo pf (fs55 lo) 0 (YsC lo):=.l .n (Yew lo)
def q55(lo:Lo)(a0:List Int)(b1:List Int):Option Bool:=
  bif(!decide ((a0.length:Int)=(b1.length:Int)))then(some false)else(YxD (YfX lo (a0,b1,(0:Int))) fun y197=>alt2 y197 (fun y198=>some y198) (fun y199=>some true))
def YsE:VFn:=⟨true,26,[.t 4],
 (Rg [oB 4 false]
 (.seq (Rg [oM 6 0,oN 7 6,oM 8 1,oN 9 8,oR 10 .neq 7 9]
 (.cond 10 (Rg [oB 4 false]
 (Fr 4))
 .skip))
 (.seq (Rg [oK 5 0]
 (.blk 0 (.loop 3 q55_L3_b)))
 (Rg [oB 4 true]
 (Fr 4)))))⟩
def YkV(lo:Lo):FnE:=Zfe 123 true (Zsg [0,1] [.l (cs [I]),.l (cs [I])] []) .b [] (fun x=>q55 lo x.1 x.2:(List Int)× (List Int)->Option Bool)
def fs56(lo:Lo):List FnE:=YkV lo::fs55 lo
theorem YsF(h:GZ P fm fs55 lo)(t:Ti P fm 123 YsE):GZ P fm fs56 lo:=
  h.p (YkV lo) (YsD lo) t
def q56_L3_b:VCode:=
 (.seq (Rg [oM 11 5,oM 12 0,oN 13 12,oR 14 .lss 11 13]
 (Ce 14 0))
 (.seq (.blk 1 (Rg [oM 17 0,oM 18 5,oI 19 4 17 18,oF 20 0 19,oL 21 20,oM 22 1,oM 23 5,oI 24 4 22 23,oF 25 0 24,oL 26 25,oR 27 .neq 21 26,oM 28 27,gF 29 28 (.mv 0),gF 30 28 (.mv 5),gF 31 28 (.iad 4 29 30),gF 32 28 (.fad 2 31),gF 33 28 (.load true 2 32),gF 34 28 (.mv 1),gF 35 28 (.mv 5),gF 36 28 (.iad 4 34 35),gF 37 28 (.fad 2 36),gF 38 28 (.load true 2 37),gF 39 28 (.eqa true [1,1] 33 38),oP 40 28 (kb true) 39,oM 41 40,gF 42 41 (.mv 0),gF 43 41 (.mv 5),gF 44 41 (.iad 4 42 43),gF 45 41 (.fad 1 44),gF 46 41 (.load false 1 45),gF 47 41 (.mv 1),gF 48 41 (.mv 5),gF 49 41 (.iad 4 47 48),gF 50 41 (.fad 1 49),gF 51 41 (.load false 1 50),gF 52 41 (.call 123 [46,51]),gF 53 41 (.not 52),oP 54 41 (kb true) 53]
 (.cond 54 (Rg [oB 4 false]
 (Fr 4))
 .skip)))
 (.reg [oM 15 5,oR 16 .add 15 (k 1),oM 5 16])))
def Yex(lo:Lo):Zt0×Zt0×Int->Option ((Zt0×Zt0×Int)⊕ (Bool⊕Unit)):=fun x=>match x with
  | (a0,b1,i5)=>bif(decide (i5< (a0.length:Int)))then(chk (0<=i5/\i5< (a0.length:Int)) (chk (0<=i5/\i5< (b1.length:Int)) (bif(!decide ((a0.getD i5.toNat ((0:Int),[],(0:Int),(0:Int))).1=(b1.getD i5.toNat ((0:Int),[],(0:Int),(0:Int))).1))then(some (.inr (.inl false)))else(chk (0<=i5/\i5< (a0.length:Int)) (chk (0<=i5/\i5< (b1.length:Int)) (bif(!((decide ((a0.getD i5.toNat ((0:Int),[],(0:Int),(0:Int))).2.2.1=(b1.getD i5.toNat ((0:Int),[],(0:Int),(0:Int))).2.2.1))&& ((decide ((a0.getD i5.toNat ((0:Int),[],(0:Int),(0:Int))).2.2.2=(b1.getD i5.toNat ((0:Int),[],(0:Int),(0:Int))).2.2.2))&&true)))then(some (.inr (.inl false)))else(chk (0<=i5/\i5< (a0.length:Int)) (chk (0<=i5/\i5< (b1.length:Int)) (YxD (q55 lo ((a0.getD i5.toNat ((0:Int),[],(0:Int),(0:Int))).2.1) ((b1.getD i5.toNat ((0:Int),[],(0:Int),(0:Int))).2.1)) fun y200=>bif(!y200)then(some (.inr (.inl false)))else(some (.inl (a0,b1,(YxX .i64 (i5+1))))))))))))))else(some (.inr (.inr ())))
def YfY(lo:Lo):Zt0×Zt0×Int->Option (Bool⊕Unit):=lo.run (Yex lo)
def YsG(lo:Lo):LpE:=⟨3,[],(Zsg [0,1,5] [.l Zc1,.l Zc1,.j] []),[⟨.ret,(Zsg [4] [.b] [])⟩,⟨.exit 0,(Zsg [] [] [])⟩],YfY lo⟩
def YsH(lo:Lo):LL:=(YsG lo,.loop q56_L3_b.er)::[]
theorem YsI(lo:Lo):Lk lo pf (fs56 lo) 0 (YsH lo):=.l .n (Yex lo)
def q56(lo:Lo)(a0:List (Int× (List Int)×Int×Int))(b1:List (Int× (List Int)×Int×Int)):Option Bool:=
  bif(!decide ((a0.length:Int)=(b1.length:Int)))then(some false)else(YxD (YfY lo (a0,b1,(0:Int))) fun y201=>alt2 y201 (fun y202=>some y202) (fun y203=>some true))
def YsJ:VFn:=⟨true,55,[.t 4],
 (Rg [oB 4 false]
 (.seq (Rg [oM 6 0,oN 7 6,oM 8 1,oN 9 8,oR 10 .neq 7 9]
 (.cond 10 (Rg [oB 4 false]
 (Fr 4))
 .skip))
 (.seq (Rg [oK 5 0]
 (.blk 0 (.loop 3 q56_L3_b)))
 (Rg [oB 4 true]
 (Fr 4)))))⟩
def YkW(lo:Lo):FnE:=Zfe 120 true (Zsg [0,1] [.l Zc1,.l Zc1] []) .b [] (fun x=>q56 lo x.1 x.2:Zt0×Zt0->Option Bool)
def fs57(lo:Lo):List FnE:=YkW lo::fs56 lo
theorem YsK(h:GZ P fm fs56 lo)(t:Ti P fm 120 YsJ):GZ P fm fs57 lo:=
  h.p (YkW lo) (YsI lo) t
def q57(lo:Lo)(d0_0:Int)(d0_1:List (Int×Int))(steps1:List (Int× (List Int)×Int×Int)):Option Bool:=
  YxD (q2 lo d0_0 d0_1) fun y153=>YxD (q42 lo) fun y154=>bif(!y154)then(YxD (q42 lo) fun y155=>some y155)else(bif(!y153.2.2)then(YxD (q42 lo) fun y156=>some y156)else(YxD (q43 lo steps1) fun y157=>bif(!y157)then(YxD (q42 lo) fun y158=>some y158)else(YxD (q51 lo steps1) fun y159=>YxD (q54 lo steps1) fun y196=>YxD (q56 lo y159 y196) fun y204=>bif(!y204)then(some false)else(YxD (q22 lo y153.1 y153.2.1 steps1) fun y205=>bif(!decide (y205.2=(0:Int)))then(some true)else(chk (0<=(YxX .i64 ((steps1.length:Int)-1))/\ (YxX .i64 ((steps1.length:Int)-1))< (steps1.length:Int)) (YxD (q24 lo y153.1 y153.2.1 y159 ((steps1.getD ((YxX .i64 ((steps1.length:Int)-1)).toNat) ((0:Int),[],(0:Int),(0:Int))).2.2.1) ((steps1.getD ((YxX .i64 ((steps1.length:Int)-1)).toNat) ((0:Int),[],(0:Int),(0:Int))).2.2.2)) fun y206=>bif y206 then(YxD (q51 lo y159) fun y207=>some (decide ((y207.length:Int)=(y159.length:Int))))else(some false)))))))
def YsL:VFn:=⟨true,66,[.t 4],
 (Rg [oG 2 0,oB 4 false]
 (Rg [oT 12 2 2,oC 13 108 [12],oM 11 13,oE 14 11 0,oE 15 11 1,oE 16 11 2,oM 5 14,oM 6 15,oM 7 16]
 (.seq (Rg [oC 17 109 [],oX 18 17,oM 19 18,gF 20 19 (.mv 7),gF 21 19 (.not 20),oP 22 19 (kb true) 21,oM 23 22,gF 24 23 (.mv 1),gF 25 23 (.call 110 [24]),gF 26 23 (.not 25),oP 27 23 (kb true) 26]
 (.cond 27 (Rg [oC 28 109 [],oM 4 28]
 (Fr 4))
 .skip))
 (Rg [oM 29 1,oC 30 119 [29],oM 8 30]
 (.seq (Rg [oM 31 8,oM 32 1,oC 33 121 [32],oC 34 120 [31,33],oX 35 34]
 (.cond 35 (Rg [oB 4 false]
 (Fr 4))
 .skip))
 (Rg [oM 37 5,oM 38 6,oM 39 1,oC 40 112 [37,38,39],oM 36 40,oE 41 36 0,oE 42 36 1,oM 9 41,oM 10 42]
 (Rg [oM 43 10,oR 44 .neq 43 (k 0),oM 45 44,gF 46 45 (.mv 5),gF 47 45 (.mv 6),gF 48 45 (.mv 8),gF 49 45 (.mv 1),gF 50 45 (.mv 1),gF 51 45 (.len 50),gF 52 45 (.bin .sub 51 (k 1)),gF 53 45 (.iad 4 49 52),gF 54 45 (.fad 2 53),gF 55 45 (.load true 2 54),gF 56 45 (.call 113 [46,47,48,55]),gF 57 45 (.mv 56),gT 58 57 (.mv 8),gT 59 57 (.call 119 [58]),gT 60 57 (.len 59),gT 61 57 (.mv 8),gT 62 57 (.len 61),gT 63 57 (.bin .eql 60 62),gF 64 45 (.pick 57 63 (kb false)),oP 65 45 (kb true) 64,oM 4 65]
 (Fr 4))))))))⟩
def q57_f(lo:Lo):FnE:=Zfe 104 true (Zsg [0,1] [.ag [.i .u8,.l (cs [.i .u8,.i .u8])],.l Zc1] []) .b [] (fun x=>q57 lo x.1 x.2.1 x.2.2:Int×Zt2×Zt0->Option Bool)
def fs58(lo:Lo):List FnE:=q57_f lo::fs57 lo
theorem YsM(h:GZ P fm fs57 lo)(t:Ti P fm 104 YsL):GZ P fm fs58 lo:=
  h.p (q57_f lo) .n t
end Go.Abs.G1p
